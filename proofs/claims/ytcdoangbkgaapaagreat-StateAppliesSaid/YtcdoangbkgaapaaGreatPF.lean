/- What the program's functions below Apply come to: they end,and what is known behind them. No condition. -/
import Derived.Test.YtcdoangbkgaapaaGreatPE
set_option linter.unusedVariables false
set_option maxHeartbeats 4000000
namespace Go.Proofs.YtcdoangbkgaapaaGreatK
open Go
/-- What is known of a tenant's state. -/
structure TW (c : Config) (t : TenantState) : Prop where
  home : -1 ≤ t.Home ∧ t.Home < (c.Cells.length : Int)
  stand : -1 ≤ t.Standby ∧ t.Standby < (c.Cells.length : Int)
  next : -1 ≤ t.Next ∧ t.Next < (c.Cells.length : Int)
  target : -1 ≤ t.Target ∧ t.Target < (c.Cells.length : Int)
  ep : 0 ≤ t.Epoch ∧ t.Epoch ≤ 1048576
  pl : t.Placed = true → 0 ≤ t.Home
  un : 0 ≤ t.Window.Until ∧ t.Window.Until ≤ 1073741825
  fr : 0 ≤ t.Window.From ∧ t.Window.From ≤ 1073741825
/-- What is known of a cell's state. -/
structure CW (c : Config) (x : CellState) : Prop where
  run : 0 ≤ x.Running ∧ x.Running < (c.Versions.length : Int)
  want : 0 ≤ x.Wanted ∧ x.Wanted < (c.Versions.length : Int)
  since : 0 ≤ x.Since ∧ x.Since ≤ 1073741824
/-- What is known of a state. -/
structure WF (c : Config) (s : State) : Prop where
  tn : s.Tenants.length = c.Tenants.length
  cn : s.Cells.length = c.Cells.length
  tick : 0 ≤ s.Tick ∧ s.Tick ≤ 1073741824
  cnt : 0 ≤ s.Count ∧ s.Count ≤ 4096
  low : 0 ≤ s.Low ∧ s.Low ≤ s.High ∧ s.High ≤ 30
  te : ∀ t ∈ s.Tenants,TW c t
  ce : ∀ x ∈ s.Cells,CW c x
theorem mem_of {α : Type} {xs : List α} {i : Nat} {x : α} (h : xs[i]? = some x) : x ∈ xs := List.mem_of_getElem? h
section
variable {c : Config} (hc : Good c)
include hc
theorem tot_zone (k : Int) : Tot (topo_ZoneOf c k) fun z => z = -1 ∨ 0 ≤ z ∧ z < (c.Zones.length : Int) := by
  have h := hc.cn
  unfold topo_ZoneOf topo_between
  rw [w64_s (by omega)]
  refine Tot.ite (fun _ => Tot.pure (.inl rfl)) fun h1 => ?_
  simp only [Bool.not_eq_false',Bool.and_eq_true,decide_eq_true_eq] at h1
  exact Tot.bind (tot_idx (by omega) (by omega)) fun x hx => Tot.pure (.inr (hc.ce x (mem_of hx)).1)
theorem tot_zreg (z : Int) : Tot (topo_region c z) fun r => r = -1 ∨ 0 ≤ r ∧ r < c.Regions := by
  have h := hc.zn
  unfold topo_region topo_between
  rw [w64_s (by omega)]
  refine Tot.ite (fun _ => Tot.pure (.inl rfl)) fun h1 => ?_
  simp only [Bool.not_eq_false',Bool.and_eq_true,decide_eq_true_eq] at h1
  exact Tot.bind (tot_idx (by omega) (by omega)) fun x hx => Tot.pure (.inr (hc.ze x (mem_of hx)))
theorem tot_reg (k : Int) : Tot (topo_RegionOf c k) fun r => r = -1 ∨ 0 ≤ r ∧ r < c.Regions := by
  unfold topo_RegionOf
  exact Tot.bind (tot_zone hc k) fun z _ => Tot.bind (tot_zreg hc z) fun r hr => Tot.pure hr
theorem tot_apart (a b : Int) : Tot (tenant_Apart c a b) fun _ => True := by
  unfold tenant_Apart
  exact Tot.bind (tot_reg hc a) fun _ _ => Tot.bind (tot_reg hc b) fun _ _ => Tot.pure trivial
theorem tot_may (t k : Int) : Tot (tenant_May c t k) fun _ => True := by
  have h := hc.tn
  unfold tenant_May
  refine Tot.bind (tot_reg hc k) fun r hr => Tot.bind (P := fun _ => True) ?_ fun _ _ => Tot.pure trivial
  unfold tenant_between
  rw [w64_s (by omega)]
  refine Tot.ite (fun h1 => Tot.ite (fun h2 => ?_) fun _ => Tot.pure trivial) fun _ => Tot.pure trivial
  simp only [Bool.and_eq_true,decide_eq_true_eq] at h1 h2
  exact Tot.bind (tot_idx (by omega) (by omega)) fun x hx => Tot.prop (by omega) (Tot.pure trivial)
theorem tot_evac (s : State) (e : Entry) (k : Int) : Tot (state_fold_evacuating ⟨c,s,e⟩ k) fun _ => True := by
  unfold state_fold_evacuating
  refine Tot.bind (tot_reg hc k) fun r hr => Tot.bind (P := fun _ => True) ?_ fun _ _ => Tot.pure trivial
  exact Tot.dec (fun h => Tot.dec (fun _ => Tot.prop h (Tot.pure trivial)) fun _ => Tot.pure trivial) fun _ => Tot.pure trivial
/-- A cell is permitted for the entry's tenant,and lies apart from others. -/
def FMay (c : Config) (e : Entry) (k : Int) (os : List Int) : Prop := tenant_May c e.Tenant k = some true ∧ ∀ o ∈ os,o ≠ -1 → tenant_Apart c k o = some true
omit hc in
theorem mem_take_succ {α : Type} {xs : List α} {i : Nat} {x y : α} (hx : xs[i]? = some x) (h : y ∈ xs.take (i + 1)) : y ∈ xs.take i ∨ y = x := by
  rw [List.take_add_one,hx] at h
  rcases List.mem_append.1 h with h | h
  · exact .inl h
  · exact .inr (by simpa using h)
theorem tot_fmay (s : State) (e : Entry) (k : Int) (os : List Int) (ho : os.length ≤ 1000) : Tot (state_fold_may ⟨c,s,e⟩ k os) fun b => b = true → FMay c e k os := by
  unfold state_fold_may
  refine Tot.loop (fun i => (0 ≤ i ∧ i ≤ os.length) ∧ ∀ o ∈ os.take i.toNat,o ≠ -1 → tenant_Apart c k o = some true) (fun i => (os.length - i).toNat) ⟨by omega,by simp⟩ ?_
  rintro i ⟨hi,ha⟩
  unfold state_fold_may.b2
  refine Tot.dec (fun h => Tot.bind (tot_idx hi.1 h) fun o hx => ?_) fun h => ?_
  · refine Tot.bind (P := fun b => b = false → o ≠ -1 → tenant_Apart c k o = some true) ?_ fun b hb => ?_
    · refine Tot.ndec (fun _ => Tot.bind (Tot.self (tot_apart hc k o)) fun b hb => Tot.pure fun h _ => ?_) fun h1 => Tot.pure fun _ h2 => absurd h1 h2
      have : b = true := by simpa using h
      rw [hb.1,this]
    · refine Tot.ite (fun _ => Tot.map (Tot.pure fun h => by cases h)) fun hb' => Tot.pure ⟨⟨?_,?_⟩,?_⟩
      · rw [w64_s (by omega)]; omega
      · rw [w64_s (by omega)]
        intro o' ho'
        rw [show (i + 1).toNat = i.toNat + 1 by omega] at ho'
        rcases mem_take_succ hx ho' with h1 | rfl
        · exact ha o' h1
        · exact hb hb'
      · simp only; rw [w64_s (by omega)]; omega
  · unfold state_fold_may.j1
    refine Tot.map (Tot.bind (Tot.self (tot_may hc _ _)) fun b hb => Tot.pure fun h => ?_)
    subst h
    refine ⟨hb.1,fun o h1 => ha o ?_⟩
    rw [List.take_of_length_le (by omega)]
    exact h1
omit hc in
theorem tot_add (l : List Int) (k n : Int) : Tot (load_sums_add l k n) fun l' => l'.length = l.length := by
  unfold load_sums_add
  refine Tot.ite (fun h => ?_) fun _ => Tot.pure rfl
  simp only [Bool.and_eq_true,decide_eq_true_eq] at h
  exact Tot.bind (tot_idx h.1 h.2) fun x _ => Tot.pure (by simp)
omit hc in
theorem tot_cut {α : Type} {xs : List α} {i j : Int} (h : 0 ≤ i ∧ i ≤ j ∧ j ≤ (xs.length : Int)) : Tot (cut xs i j) fun zs => zs = (xs.take j.toNat).drop i.toNat := ⟨_,if_pos h,rfl⟩
theorem tot_booked {s : State} (hs : s.Tenants.length = c.Tenants.length) : Tot (load_Booked c s) fun xs => xs.length = c.Cells.length := by
  have h1 := hc.cn
  have h2 := hc.tn
  unfold load_Booked
  refine Tot.bind (tot_mk (by omega)) ?_
  rintro _ rfl
  have hm : mn (s.Tenants.length : Int) (c.Tenants.length : Int) = s.Tenants.length := by unfold mn; rw [if_neg (by omega)]
  rw [hm]
  refine Tot.bind (tot_cut (by omega)) ?_
  rintro _ rfl
  have hl : ((s.Tenants.take (s.Tenants.length : Int).toNat).drop (0 : Int).toNat) = s.Tenants := by simp
  rw [hl]
  refine Tot.loop (fun x : Int × List Int => (0 ≤ x.1 ∧ x.1 ≤ s.Tenants.length) ∧ x.2.length = c.Cells.length) (fun x => (s.Tenants.length - x.1).toNat) ⟨by omega,by simp⟩ ?_
  rintro ⟨i,xs⟩ ⟨hi,hx⟩
  simp only at hi hx
  unfold load_Booked.b1
  refine Tot.dec (fun h => Tot.bind (tot_idx hi.1 h) fun t ht => Tot.bind (tot_idx hi.1 (by omega)) fun u hu => Tot.bind (P := fun l => l.length = c.Cells.length) (Tot.bind (P := fun l => l.length = c.Cells.length) (Tot.ite (fun _ => ?_) fun _ => Tot.pure hx) fun l hl => Tot.ite (fun _ => ?_) fun _ => Tot.pure hl) fun l hl => Tot.pure ⟨⟨?_,hl⟩,?_⟩) fun _ => Tot.map (Tot.pure hx)
  · exact Tot.bind (tot_add _ _ _) fun l hl => Tot.bind (tot_add _ _ _) fun l' hl' => Tot.pure (by omega)
  · exact Tot.bind (tot_add _ _ _) fun l hl => Tot.bind (tot_add _ _ _) fun l' hl' => Tot.pure (by omega)
  · simp only; rw [w64_s (by omega)]; omega
  · simp only; rw [w64_s (by omega)]; omega
/-- No cell is booked beyond its capacity. -/
def NoOver (c : Config) (s : State) : Prop := ∃ bs,load_Booked c s = some bs ∧ bs.length = c.Cells.length ∧ ∀ (i : Nat) b x,bs[i]? = some b → c.Cells[i]? = some x → b ≤ x.Capacity
theorem tot_over {s : State} (hs : s.Tenants.length = c.Tenants.length) : Tot (load_Over c s) fun xs => xs.length = 0 → NoOver c s := by
  have h1 := hc.cn
  unfold load_Over
  refine Tot.bind (Tot.self (tot_booked hc hs)) fun bs ⟨hb,hbl⟩ => ?_
  refine Tot.loop (fun x : List Int × Int => (0 ≤ x.2 ∧ x.2 ≤ bs.length ∧ x.1.length ≤ x.2.toNat) ∧ (x.1.length = 0 → ∀ (i : Nat) b y,(i : Int) < x.2 → bs[i]? = some b → c.Cells[i]? = some y → b ≤ y.Capacity)) (fun x => (bs.length - x.2).toNat) ⟨by simp,fun _ i b y hi => by simp only at hi; omega⟩ ?_
  rintro ⟨xs,i⟩ ⟨hi,hx⟩
  simp only at hi hx
  unfold load_Over.b1
  refine Tot.dec (fun h => Tot.bind (tot_idx hi.1 h) fun b hb' => Tot.bind (tot_idx hi.1 (by omega)) fun y hy => Tot.dec (fun h2 => Tot.bind (tot_app1 (by omega)) ?_) fun h2 => Tot.pure ⟨⟨?_,?_⟩,?_⟩) fun h => Tot.map (Tot.pure fun h0 => ⟨bs,hb,hbl,fun i b y h3 h4 => hx h0 i b y ?_ h3 h4⟩)
  · rintro _ rfl
    refine Tot.pure ⟨⟨?_,fun h => by simp at h⟩,?_⟩
    · simp only [len_app1]; rw [w64_s (by omega)]; omega
    · simp only; rw [w64_s (by omega)]; omega
  · simp only; rw [w64_s (by omega)]; omega
  · simp only; rw [w64_s (by omega)]
    intro h0 j b' y' hj hjb hjy
    by_cases hji : (j : Int) < i
    · exact hx h0 j b' y' hji hjb hjy
    · have : j = i.toNat := by omega
      subst this
      rw [hb'] at hjb
      rw [hy] at hjy
      injection hjb with hjb
      injection hjy with hjy
      subst hjb
      subst hjy
      omega
  · simp only; rw [w64_s (by omega)]; omega
  · have := (List.getElem?_eq_some_iff.1 h3).1; omega
theorem tot_full {s : State} {e : Entry} (hs : s.Tenants.length = c.Tenants.length) : Tot (state_fold_full ⟨c,s,e⟩) fun n => n = 0 → NoOver c s := by
  unfold state_fold_full
  refine Tot.bind (tot_over hc hs) fun xs hx => Tot.dec (fun _ => Tot.pure fun h => by cases h) fun h => Tot.pure fun _ => hx (by omega)
omit hc in
theorem tot_proven (s : State) (v : Int) : Tot (state_proven s v) fun _ => True := by
  unfold state_proven
  refine Tot.bind (P := fun _ => True) ?_ fun _ _ => Tot.pure trivial
  exact Tot.dec (fun h => Tot.dec (fun _ => Tot.prop h (Tot.pure trivial)) fun _ => Tot.pure trivial) fun _ => Tot.pure trivial
omit hc in
theorem tot_frozen (s : State) (e : Entry) (v : Int) : Tot (state_fold_frozen ⟨c,s,e⟩ v) fun _ => True := by
  unfold state_fold_frozen
  refine Tot.bind (P := fun _ => True) (Tot.bind (tot_proven s v) fun _ _ => Tot.ite (fun _ => Tot.pure trivial) fun _ => Tot.pure trivial) fun _ _ => Tot.pure trivial
omit hc in
theorem tot_unproven1 {s : State} {k : Int} (h : 0 ≤ k ∧ k < (s.Cells.length : Int)) : Tot (state_unproven s k) fun _ => True := by
  unfold state_unproven
  exact Tot.bind (tot_idx h.1 h.2) fun x _ => Tot.bind (P := fun _ => True) (Tot.bind (tot_proven _ _) fun _ _ => Tot.ite (fun _ => Tot.pure trivial) fun _ => Tot.bind (tot_proven _ _) fun _ _ => Tot.pure trivial) fun _ _ => Tot.pure trivial
/-- The cells below n that are unproven. -/
noncomputable def openL (s : State) : Nat → List Int
  | 0 => []
  | n + 1 => if state_unproven s n = some true then openL s n ++ [(n : Int)] else openL s n
omit hc in
theorem openL_len (s : State) : ∀ n,(openL s n).length ≤ n
  | 0 => Nat.le_refl 0
  | n + 1 => by
    have := openL_len s n
    unfold openL
    split
    · simp; omega
    · omega
omit hc in
theorem tot_Unproven {s : State} (hs : s.Cells.length ≤ 100000) : Tot (state_Unproven s) fun xs => xs = openL s s.Cells.length := by
  unfold state_Unproven
  refine Tot.loop (fun x : List Int × Int => (0 ≤ x.2 ∧ x.2 ≤ s.Cells.length) ∧ x.1 = openL s x.2.toNat) (fun x => (s.Cells.length - x.2).toNat) ⟨by simp,rfl⟩ ?_
  rintro ⟨xs,i⟩ ⟨hi,hx⟩
  simp only at hi hx
  subst hx
  have hl := openL_len s i.toNat
  have hn : (i + 1).toNat = i.toNat + 1 := by omega
  have hc : ((i.toNat : Nat) : Int) = i := by omega
  unfold state_Unproven.b1
  refine Tot.dec (fun h => Tot.bind (Tot.self (tot_unproven1 ⟨hi.1,h⟩)) fun b hb => Tot.ite (fun hb1 => Tot.bind (tot_app1 (by omega)) ?_) fun hb1 => Tot.pure ⟨⟨?_,?_⟩,?_⟩) fun h => Tot.map (Tot.pure ?_)
  · rintro _ rfl
    refine Tot.pure ⟨⟨?_,?_⟩,?_⟩
    · simp only; rw [w64_s (by omega)]; omega
    · simp only
      rw [w64_s (by omega),hn]
      conv => rhs; unfold openL
      rw [hc,hb.1,hb1,if_pos rfl]
    · simp only; rw [w64_s (by omega)]; omega
  · simp only; rw [w64_s (by omega)]; omega
  · simp only
    rw [w64_s (by omega),hn]
    conv => rhs; unfold openL
    rw [hc,hb.1,hb1,if_neg (by simp)]
  · simp only; rw [w64_s (by omega)]; omega
  · congr 1; omega
end
end Go.Proofs.YtcdoangbkgaapaaGreatK
