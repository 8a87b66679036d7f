/- What Apply's methods do to a state,as relations. No condition. -/
import Derived.Test.YtcdoangbkgaapaaGreatPF
set_option linter.unusedVariables false
set_option maxHeartbeats 4000000
namespace Go.Proofs.YtcdoangbkgaapaaGreatK
open Go
/-- The other cells that are unproven. -/
noncomputable def others (s : State) (k : Int) : List Int := (openL s s.Cells.length).filter fun x => !decide (x = k)
theorem filter_take {α : Type} (p : α → Bool) {xs : List α} {i : Nat} {x : α} (h : xs[i]? = some x) : (xs.take (i + 1)).filter p = (xs.take i).filter p ++ if p x = true then [x] else [] := by
  rw [List.take_add_one,h,Option.toList_some,List.filter_append]
  congr 1
  cases hp : p x <;> simp [hp]
theorem tot_blasted' {c : Config} {s : State} (e : Entry) (v : Int) (hs : s.Cells.length ≤ 100000) : Tot (state_fold_blasted ⟨c,s,e⟩ v) fun b => b = true ↔ state_proven s v = some false ∧ c.Blast ≤ ((others s e.Cell).length : Int) := by
  unfold state_fold_blasted
  refine Tot.bind (tot_Unproven hs) fun us hus => ?_
  have hul : us.length ≤ 100000 := by rw [hus]; exact Nat.le_trans (openL_len _ _) hs
  refine Tot.bind (P := fun p : List Int × List Int => p.1.length = (others s e.Cell).length) (Tot.bind (P := fun r => r = -1 ∧ (∀ x ∈ us,x ≠ e.Cell) ∨ (0 ≤ r ∧ r < (us.length : Int)) ∧ (∀ x ∈ us.take r.toNat,x ≠ e.Cell) ∧ us[r.toNat]? = some e.Cell) ?_ ?_) ?_
  · refine Tot.loop (fun i => (0 ≤ i ∧ i ≤ us.length) ∧ ∀ x ∈ us.take i.toNat,x ≠ e.Cell) (fun i => (us.length - i).toNat) ⟨by omega,by simp⟩ ?_
    rintro i ⟨hi,ha⟩
    unfold state_fold_blasted.b1
    refine Tot.dec (fun h => Tot.bind (tot_idx hi.1 h) fun x hx => Tot.dec (fun h1 => Tot.map (Tot.pure (.inr ⟨⟨hi.1,h⟩,ha,by rw [hx,h1]⟩))) fun h1 => Tot.pure ⟨⟨?_,?_⟩,?_⟩) fun h => Tot.map (Tot.pure (.inl ⟨rfl,fun x hx => ha x ?_⟩))
    · rw [w64_s (by omega)]; omega
    · rw [w64_s (by omega),show (i + 1).toNat = i.toNat + 1 by omega]
      intro y hy
      rcases mem_take_succ hx hy with hy | rfl
      · exact ha y hy
      · exact h1
    · simp only; rw [w64_s (by omega)]; omega
    · rw [List.take_of_length_le (by omega)]; exact hx
  · rintro r (⟨rfl,hr⟩ | ⟨hr0,hr1,hr2⟩)
    · rw [if_pos (by decide)]
      refine Tot.pure ?_
      show us.length = _
      unfold others
      rw [← hus,List.filter_eq_self.2 fun x hx => by simpa using hr x hx]
    · refine Tot.dec (fun h => by omega) fun _ => ?_
      rw [w64_s (by omega)]
      refine Tot.bind (P := fun p : List Int × Int => p.1.length = us.length ∧ (0 ≤ p.2 ∧ p.2 ≤ us.length) ∧ p.2 = (others s e.Cell).length) (Tot.loop (fun x : List Int × Int × Int => x.1.length = us.length ∧ (0 ≤ x.2.1 ∧ x.2.1 < x.2.2 ∧ x.2.2 ≤ us.length) ∧ (∀ k : Nat,x.2.2 ≤ k → x.1[k]? = us[k]?) ∧ x.2.1 = ((us.take x.2.2.toNat).filter fun x => !decide (x = e.Cell)).length) (fun x => (us.length - x.2.2).toNat) ⟨rfl,by simp only; omega,fun k _ => rfl,?_⟩ ?_) ?_
      · simp only
        rw [show (r + 1).toNat = r.toNat + 1 by omega,filter_take _ hr2]
        rw [List.filter_eq_self.2 fun x hx => by simpa using hr1 x hx]
        simp
        omega
      · rintro ⟨xs,i,j⟩ ⟨hl,hi,hk,hf⟩
        simp only at hl hi hk hf
        unfold state_fold_blasted.b3
        refine Tot.dec (fun h => Tot.bind (tot_idx (by omega) (by omega)) fun x hx => Tot.ite (fun h1 => Tot.bind (tot_idx (by omega) (by omega)) fun y hy => Tot.pure ⟨⟨?_,?_,?_,?_⟩,?_⟩) fun h1 => Tot.pure ⟨⟨?_,?_,?_,?_⟩,?_⟩) fun h => Tot.map (Tot.pure ⟨hl,?_,?_⟩)
        · simp only [List.length_set]; exact hl
        · simp only; rw [w64_s (n := i + 1) (by omega),w64_s (by omega)]; omega
        · simp only; rw [w64_s (n := j + 1) (by omega)]
          intro k hk'
          rw [List.getElem?_set_ne (by omega)]
          exact hk k (by omega)
        · simp only
          have hx' : us[j.toNat]? = some x := by rw [← hk j.toNat (by omega)]; exact hx
          rw [w64_s (n := i + 1) (by omega),w64_s (by omega),show (j + 1).toNat = j.toNat + 1 by omega,filter_take _ hx',if_pos h1,List.length_append,List.length_singleton]
          omega
        · simp only; rw [w64_s (n := j + 1) (by omega)]; omega
        · exact hl
        · simp only; rw [w64_s (by omega)]; omega
        · simp only; rw [w64_s (n := j + 1) (by omega)]
          intro k hk'
          exact hk k (by omega)
        · simp only
          have hx' : us[j.toNat]? = some x := by rw [← hk j.toNat (by omega)]; exact hx
          rw [w64_s (by omega),show (j + 1).toNat = j.toNat + 1 by omega,filter_take _ hx',if_neg (by rw [h1]; decide),List.append_nil]
          exact hf
        · simp only; rw [w64_s (n := j + 1) (by omega)]; omega
        · simp only; omega
        · simp only
          unfold others
          rw [hf,← hus,List.take_of_length_le (by omega)]
      · rintro ⟨xs,i⟩ ⟨hl,hi,hf⟩
        dsimp only
        simp only at hl hi hf
        refine Tot.bind (tot_cut (by omega)) ?_
        intro zs hzs
        have hz : (xs.take i.toNat ++ List.replicate zs.length (0 : Int)).length = us.length := by
          rw [hzs]
          simp
          omega
        refine Tot.bind (tot_cut (by omega)) ?_
        rintro _ rfl
        refine Tot.pure ?_
        simp only [List.length_drop,List.length_take,hz]
        omega
  · rintro ⟨xs,ys⟩ hx
    dsimp only
    simp only at hx
    refine Tot.bind (P := fun b => b = true ↔ state_proven s v = some false ∧ c.Blast ≤ ((others s e.Cell).length : Int)) (Tot.bind (Tot.self (tot_proven s v)) fun b hb => Tot.ite (fun h => Tot.pure ?_) fun h => Tot.pure ?_) fun _ h => Tot.pure h
    · have hbf : b = false := by simpa using h
      rw [hb.1,hbf,hx]
      simp
    · have hbt : b = true := by simpa using h
      rw [hb.1,hbt]
      simp
theorem tot_blasted {c : Config} {s : State} (e : Entry) (v : Int) (hs : s.Cells.length ≤ 100000) : Tot (state_fold_blasted ⟨c,s,e⟩ v) fun b => b = false → state_proven s v = some true ∨ ((others s e.Cell).length : Int) < c.Blast := by
  refine (tot_blasted' e v hs).mono fun b hb h => ?_
  obtain ⟨d,hd,_⟩ := tot_proven s v
  cases d with
  | true => exact .inl hd
  | false =>
    right
    by_cases hl : ((others s e.Cell).length : Int) < c.Blast
    · exact hl
    · have := hb.2 ⟨hd,by omega⟩
      rw [h] at this
      cases this
/-- The state with another state of the entry's tenant. -/
def setT (s : State) (e : Entry) (t : TenantState) : State := { s with Tenants := s.Tenants.set e.Tenant.toNat t }
/-- A tenant's state behind a grant. -/
def grantT (e : Entry) (t : TenantState) : TenantState :=
  if e.Cell = t.Home then { t with Window := ⟨e.Cell,e.Epoch,e.N,e.From,e.Until⟩,Epoch := e.Epoch }
  else if e.Cell = t.Standby then { t with Window := ⟨e.Cell,e.Epoch,e.N,e.From,e.Until⟩,Epoch := e.Epoch,Standby := -1,Next := -1,Shed := false,Home := e.Cell,Target := -1 }
  else { t with Window := ⟨e.Cell,e.Epoch,e.N,e.From,e.Until⟩,Epoch := e.Epoch,Home := e.Cell,Target := -1 }
/-- What an entry does to its tenant. -/
inductive TSt (c : Config) (s : State) (e : Entry) (t : TenantState) : TenantState → Prop
  | place (hk : e.Kind = 1) (hp : t.Placed = false) (hm : FMay c e e.Cell []) (hm2 : e.Other ≠ -1 → FMay c e e.Other [e.Cell]) (hf : NoOver c (setT s e { t with Placed := true,Home := e.Cell,Standby := e.Other })) : TSt c s e t { t with Placed := true,Home := e.Cell,Standby := e.Other }
  | grant (x : CellState) (hk : e.Kind = 2) (hp : t.Placed = true) (hs : t.Shed = true → e.Cell = t.Standby) (hc : e.Cell = t.Home ∨ e.Cell = t.Standby ∨ e.Cell = t.Target) (he : e.Epoch = t.Epoch + 1 ∨ e.Cell = t.Home ∧ e.Epoch = t.Epoch) (hx : s.Cells[e.Cell.toNat]? = some x) (hn : e.N = x.Running) (hr : x.Running = x.Wanted)
      (hfr : e.Tick ≤ e.From ∧ e.From ≤ e.Tick + c.Lease ∧ e.From < e.Until ∧ e.Until - e.From ≤ c.Lease ∧ t.Window.Until ≤ e.From) (hw : e.Cell = t.Home ∨ t.Window.Until ≤ e.Tick) (hf : NoOver c (setT s e (grantT e t))) : TSt c s e t (grantT e t)
  | cut (hk : e.Kind = 3) (hp : t.Placed = true) (he : e.Epoch = t.Epoch) : TSt c s e t { t with Window := { t.Window with From := mn t.Window.From (mn t.Window.Until (e.Tick + 1)),Until := mn t.Window.Until (e.Tick + 1) } }
  | unstand (hk : e.Kind = 4) (hp : t.Placed = true) (hc : e.Cell = -1) : TSt c s e t { t with Next := -1 }
  | stand (hk : e.Kind = 4) (hp : t.Placed = true) (hc : e.Cell ≠ -1) (hn : e.Cell ≠ t.Home ∧ e.Cell ≠ t.Standby ∧ e.Cell ≠ t.Target) (hm : FMay c e e.Cell [t.Home,t.Target]) (hf : NoOver c (setT s e { t with Next := e.Cell })) : TSt c s e t { t with Next := e.Cell }
  | ready (hk : e.Kind = 5) (hp : t.Placed = true) (hc : e.Cell = t.Next) : TSt c s e t { t with Standby := e.Cell,Next := -1 }
  | migrate (hk : e.Kind = 6) (hp : t.Placed = true) (hs : t.Shed = false) (ht : t.Target = -1) (hn : e.Cell ≠ t.Home ∧ e.Cell ≠ t.Standby ∧ e.Cell ≠ t.Next) (hm : FMay c e e.Cell [t.Standby,t.Next]) (hf : NoOver c (setT s e { t with Target := e.Cell })) : TSt c s e t { t with Target := e.Cell }
  | abandon (hk : e.Kind = 7) (hp : t.Placed = true) (ht : t.Target ≠ -1) : TSt c s e t { t with Target := -1 }
  | shed (hk : e.Kind = 8) (hp : t.Placed = true) (hs : t.Shed = false) (hw : t.Window.Until ≤ e.Tick) : TSt c s e t { t with Shed := true,Target := -1 }
  | unshed (hk : e.Kind = 8) (hs : t.Shed = true) (hf : NoOver c (setT s e { t with Shed := false })) : TSt c s e t { t with Shed := false }
/-- What an entry does to its cell. -/
inductive CSt (c : Config) (s : State) (e : Entry) (x : CellState) : CellState → Prop
  | mode (hk : e.Kind = 9) : CSt c s e x { x with Mode := e.N,Since := e.Tick }
  | want (v : Version) (hk : e.Kind = 10) (hv : c.Versions[e.N.toNat]? = some v) (hl : v.Low ≤ s.Low) (hh : s.High ≤ v.High) (hb : e.N = x.Running ∨ state_proven s e.N = some true ∨ ((others s e.Cell).length : Int) < c.Blast) : CSt c s e x { x with Wanted := e.N }
  | runs (hk : e.Kind = 11) (hn : e.N = x.Wanted) (hne : x.Running ≠ x.Wanted) (hw : ∀ t ∈ s.Tenants,t.Window.Cell = e.Cell → t.Window.Until ≤ e.Tick) : CSt c s e x { x with Running := e.N,Since := e.Tick }
/-- What an entry does to the state,but for the tick and the number of entries. -/
inductive Mth (c : Config) (s : State) (e : Entry) : State → Prop
  | ten (t t' : TenantState) (ht : s.Tenants[e.Tenant.toNat]? = some t) (hs : TSt c s e t t') : Mth c s e (setT s e t')
  | cel (x x' : CellState) (hx : s.Cells[e.Cell.toNat]? = some x) (hs : CSt c s e x x') : Mth c s e { s with Cells := s.Cells.set e.Cell.toNat x' }
  | prove (hk : e.Kind = 12) (hn : 0 ≤ e.N) : Mth c s e { s with Proven := bOr .i64 s.Proven (shl .i64 1 e.N) }
  | evac (hk : e.Kind = 13) (hn : 0 ≤ e.Other) : Mth c s e { s with Evacuating := bXor .i64 s.Evacuating (shl .i64 1 e.Other) }
  | expand (hk : e.Kind = 14) (hh : s.High ≤ s.Low) (h30 : s.High ≠ 30) (ha : ∀ x ∈ s.Cells,(∃ v,c.Versions[x.Running.toNat]? = some v ∧ s.High < v.High) ∧ ∃ v,c.Versions[x.Wanted.toNat]? = some v ∧ s.High < v.High) : Mth c s e { s with High := s.High + 1 }
  | contract (hk : e.Kind = 15) (hh : s.High ≠ s.Low) : Mth c s e { s with Low := s.High }
  | note (hk : e.Kind = 16) : Mth c s e s
end Go.Proofs.YtcdoangbkgaapaaGreatK
