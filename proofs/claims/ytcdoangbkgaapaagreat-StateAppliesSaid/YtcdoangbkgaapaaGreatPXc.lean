/- The program's Apply and the reference's are the same. No condition. -/
import Derived.Test.YtcdoangbkgaapaaGreatPXb
set_option linter.unusedVariables false
set_option linter.unusedSectionVars false
set_option linter.unusedSimpArgs false
set_option maxHeartbeats 4000000
namespace Go.Proofs.YtcdoangbkgaapaaGreatK
open Go
attribute [local irreducible] loop runN
/-- A loop that looks for an element. -/
theorem any_loop {α R : Type} {xs : List α} {b : Int → Option (Int ⊕ R)} {p : α → Bool} {r1 r2 : R} (hl : xs.length ≤ 1000000) (hb : ∀ (i : Int) x,0 ≤ i → i < (xs.length : Int) → xs[i.toNat]? = some x → b i = if p x = true then some (.inr r1) else some (.inl (w64 (i + 1)))) (he : ∀ i : Int,(xs.length : Int) ≤ i → b i = some (.inr r2)) : loop b 0 = some (if xs.any p = true then r1 else r2) := by
  have : Tot (loop b 0) fun r => r = if xs.any p = true then r1 else r2 := by
    refine Tot.loop (fun i => (0 ≤ i ∧ i ≤ xs.length) ∧ ∀ x ∈ xs.take i.toNat,p x = false) (fun i => (xs.length - i).toNat) ⟨by omega,by simp⟩ ?_
    rintro i ⟨hi,ha⟩
    by_cases h : i < (xs.length : Int)
    · obtain ⟨x,_,hx⟩ := tot_idx hi.1 h
      rw [hb i x hi.1 h hx]
      cases hp : p x with
      | true =>
        rw [if_pos rfl]
        refine Tot.pure ?_
        show r1 = _
        have : xs.any p = true := List.any_eq_true.2 ⟨x,mem_of hx,hp⟩
        rw [if_pos this]
      | false =>
        rw [if_neg (by decide)]
        refine Tot.pure ⟨⟨?_,?_⟩,?_⟩
        · rw [w64_s (by omega)]; omega
        · rw [w64_s (by omega),show (i + 1).toNat = i.toNat + 1 by omega]
          intro y hy
          rcases mem_take_succ hx hy with h1 | rfl
          · exact ha y h1
          · exact hp
        · simp only; rw [w64_s (by omega)]; omega
    · rw [he i (by omega)]
      refine Tot.pure ?_
      show r2 = _
      have : xs.any p = false := by
        rw [List.any_eq_false]
        intro x hx
        rw [ha x (by rw [List.take_of_length_le (by omega)]; exact hx)]
        decide
      rw [if_neg (by rw [this]; decide)]
  obtain ⟨x,hx,rfl⟩ := this
  exact hx
section
variable {c : Config} {s : State} {e : Entry} (hc : Good c) (hw : WX c s) (he : EV c e)
include hc hw he
theorem x_mode (hk : e.Kind = 9) : ((idx s.Cells e.Cell).bind fun x => if decide (x.Mode = e.N) = true then some ((cellplaneref12_no 4).1,(cellplaneref12_no 4).2) else some ({ s with Tick := e.Tick,Count := s.Count + 1,Cells := ((s.Cells.set e.Cell.toNat { x with Mode := e.N }).set e.Cell.toNat { x with Mode := e.N,Since := e.Tick }) },0)) = (state_fold_mode ⟨c,s,e⟩).map (fin s e) := by
  obtain ⟨k1,k2⟩ := he.k9 hk
  obtain ⟨x,hx,_⟩ := cel_get hc hw he k1
  unfold state_fold_mode
  dsimp only
  simp only [hx,Option.bind_some,List.set_set,no_eq]
  by_cases h : x.Mode = e.N <;> simp [h,fin_no,fin_ok]
theorem open_eq {i : Nat} (hi : i < s.Cells.length) : cellplaneref12_open (tk s e) (i : Int) = some (opnI s i) := by
  obtain ⟨x,hx⟩ : ∃ x,s.Cells[i]? = some x := ⟨_,List.getElem?_eq_getElem hi⟩
  unfold cellplaneref12_open cellplaneref12_proven tk opnI opn
  dsimp only
  rw [idx_nat hx,hx]
  simp only [Option.bind_some]
  cases cellplaneref04_Has s.Proven x.Running <;> simp
theorem count_eq (hk : 0 ≤ e.Cell) : loop (cellplaneref12_want.b2 (tk s e) e) (0,0) = some ((others s e.Cell).length : Int) := by
  have h1 := hc.cn
  have h2 := hw.wf.cn
  have : Tot (loop (cellplaneref12_want.b2 (tk s e) e) (0,0)) fun r => r = ((others s e.Cell).length : Int) := by
    refine Tot.loop (fun x : Int × Int => (0 ≤ x.2 ∧ x.2 ≤ s.Cells.length) ∧ x.1 = cntN (fun i => opnI s i && !decide (i = e.Cell.toNat)) x.2.toNat ∧ x.1 ≤ x.2) (fun x => (s.Cells.length - x.2).toNat) ⟨by simp,by simp [cntN],by simp⟩ ?_
    rintro ⟨o,i⟩ ⟨hi,ho,hoi⟩
    simp only at hi ho hoi
    unfold cellplaneref12_want.b2
    have hcast : ((i.toNat : Nat) : Int) = i := by omega
    have hn : (i + 1).toNat = i.toNat + 1 := by omega
    refine Tot.dec (fun h => Tot.bind (P := fun b => b = (opnI s i.toNat && !decide (i.toNat = e.Cell.toNat))) ?_ fun b hb => ?_) fun h => Tot.map (Tot.pure ?_)
    · have h : i < (s.Cells.length : Int) := h
      refine Tot.ndec (fun h3 => ?_) fun h3 => Tot.pure (by simp [h3])
      have ho := open_eq hc hw he (i := i.toNat) (by omega)
      rw [hcast] at ho
      rw [ho]
      have : ¬ i.toNat = e.Cell.toNat := by omega
      exact Tot.pure (by simp [this])
    · subst hb
      have h : i < (s.Cells.length : Int) := h
      refine Tot.ite (fun h3 => Tot.pure ⟨⟨?_,?_,?_⟩,?_⟩) fun h3 => Tot.pure ⟨⟨?_,?_,?_⟩,?_⟩
      · simp only; rw [w64_s (n := i + 1) (by omega)]; omega
      · simp only; rw [w64_s (n := i + 1) (by omega),w64_s (n := o + 1) (by omega),hn]; unfold cntN; rw [if_pos h3]; omega
      · simp only; rw [w64_s (n := i + 1) (by omega),w64_s (n := o + 1) (by omega)]; omega
      · simp only; rw [w64_s (n := i + 1) (by omega)]; omega
      · simp only; rw [w64_s (n := i + 1) (by omega)]; omega
      · simp only; rw [w64_s (n := i + 1) (by omega),hn]; unfold cntN; rw [if_neg (by rw [h3]; decide)]; omega
      · simp only; rw [w64_s (n := i + 1) (by omega)]; omega
      · simp only; rw [w64_s (n := i + 1) (by omega)]; omega
    · have h : ¬ i < (s.Cells.length : Int) := h
      have hi' : i.toNat = s.Cells.length := by omega
      show o = _
      rw [ho,hi']
      have h3 := others_cnt hc hw.wf hw.pr e.Cell.toNat s.Cells.length (Nat.le_refl _)
      have hcast : ((e.Cell.toNat : Nat) : Int) = e.Cell := by omega
      rw [hcast] at h3
      unfold others
      rw [h3]
  obtain ⟨x,hx,rfl⟩ := this
  exact hx
theorem frozen2_eq {v : Int} (hv : 0 ≤ v ∧ v ≤ 2) : state_fold_frozen ⟨c,s,e⟩ v = some (!cellplaneref04_Has s.Proven v && !decide (s.Evacuating = 0)) := by
  unfold state_fold_frozen
  dsimp only
  rw [proven_has hw.pr hv]
  cases cellplaneref04_Has s.Proven v <;> rfl
theorem x_want (hk : e.Kind = 10) : cellplaneref12_want c (tk s e) e = (state_fold_want ⟨c,s,e⟩).map (fin s e) := by
  obtain ⟨k1,k2⟩ := he.k10 (.inl hk)
  have hvn := hc.vn
  have hcn := hc.cn
  obtain ⟨x,hx,_⟩ := cel_get hc hw he k1
  obtain ⟨v,hv⟩ := idx_lt k2.1 k2.2
  obtain ⟨b,hb,ib⟩ := tot_blasted' (c := c) (s := s) e e.N (by rw [hw.wf.cn]; omega)
  rw [proven_has hw.pr (by omega)] at ib
  have hbl : b = (!cellplaneref04_Has s.Proven e.N && decide (c.Blast ≤ ((others s e.Cell).length : Int))) := by
    rw [Bool.eq_iff_iff,ib]
    cases cellplaneref04_Has s.Proven e.N <;> simp
  unfold cellplaneref12_want state_fold_want state_fold_want.j1
  rw [count_eq hc hw he k1.1]
  unfold cellplaneref12_proven tk
  dsimp only
  simp only [hx,hv,Option.bind_some,frozen2_eq hc hw he (show 0 ≤ e.N ∧ e.N ≤ 2 by omega),hb,hbl,no_eq]
  generalize cellplaneref04_Has s.Proven e.N = b1
  generalize decide (c.Blast ≤ ((others s e.Cell).length : Int)) = b2
  generalize (decide (s.Low < v.Low) || decide (v.High < s.High)) = b3
  by_cases h1 : x.Wanted = e.N
  · simp [h1,fin_no]
  · by_cases h2 : e.N = x.Running
    · have h3 : ¬ x.Wanted = x.Running := fun h => h1 (h.trans h2.symm)
      cases b3 <;> simp [h1,h2,h3,fin_no,fin_ok]
    · by_cases h4 : s.Evacuating = 0 <;> cases b1 <;> cases b2 <;> cases b3 <;> simp [h1,h2,h4,fin_no,fin_ok]
theorem x_runs (hk : e.Kind = 11) : cellplaneref12_runs (tk s e) e = (state_fold_runs ⟨c,s,e⟩).map (fin s e) := by
  obtain ⟨k1,k2⟩ := he.k10 (.inr hk)
  have hvn := hc.vn
  have htn := hc.tn
  have hstn := hw.wf.tn
  obtain ⟨x,hx,_⟩ := cel_get hc hw he k1
  have L1 := any_loop (xs := s.Tenants) (b := cellplaneref12_runs.b2 x (tk s e) e) (p := fun t => decide (t.Window.Cell = e.Cell) && decide (e.Tick < t.Window.Until)) (r1 := (zS,9)) (r2 := ({ s with Tick := e.Tick,Count := s.Count + 1,Cells := s.Cells.set e.Cell.toNat { x with Running := e.N,Since := e.Tick } },0)) (by omega) (fun i t h0 h1 ht => by
      unfold cellplaneref12_runs.b2 tk
      dsimp only
      rw [if_pos (decide_eq_true h1),(tot_idxk ht h0).choose_spec.1,← (tot_idxk ht h0).choose_spec.2]
      simp only [Option.bind_some,no_eq]
      split <;> rfl) (fun i h => by
      unfold cellplaneref12_runs.b2 cellplaneref12_runs.j1 tk
      dsimp only
      rw [if_neg (by simpa using h),List.set_set]
      rfl)
  have L2 := any_loop (xs := s.Tenants) (b := state_fold_runs.b3 ⟨c,s,e⟩) (p := fun t => decide (t.Window.Cell = e.Cell) && decide (e.Tick < t.Window.Until)) (r1 := ((9 : Int),s)) (r2 := (0,{ s with Cells := s.Cells.set e.Cell.toNat { x with Running := e.N,Since := e.Tick } })) (by omega) (fun i t h0 h1 ht => by
      unfold state_fold_runs.b3
      dsimp only
      rw [if_pos (decide_eq_true h1),(tot_idxk ht h0).choose_spec.1,← (tot_idxk ht h0).choose_spec.2]
      simp only [Option.bind_some]
      split <;> rfl) (fun i h => by
      unfold state_fold_runs.b3 state_fold_runs.j2
      dsimp only
      rw [if_neg (by simpa using h),hx,Option.bind_some,List.set_set]
      rfl)
  unfold cellplaneref12_runs state_fold_runs
  rw [show (tk s e).Cells = s.Cells from rfl]
  unfold cellplaneref12_proven
  rw [show (tk s e).Proven = s.Proven from rfl,show (tk s e).Evacuating = s.Evacuating from rfl]
  dsimp only
  simp only [hx,Option.bind_some,frozen2_eq hc hw he (show 0 ≤ e.N ∧ e.N ≤ 2 by omega),L1,L2,no_eq]
  generalize cellplaneref04_Has s.Proven e.N = b1
  generalize (s.Tenants.any fun t => decide (t.Window.Cell = e.Cell) && decide (e.Tick < t.Window.Until)) = b2
  by_cases h1 : e.N = x.Wanted <;> by_cases h2 : x.Running = x.Wanted <;> by_cases h4 : s.Evacuating = 0 <;> cases b1 <;> cases b2 <;> simp [h1,h2,h4,fin_no,fin_ok]
theorem x_prove (hk : e.Kind = 12) : cellplaneref12_prove c (tk s e) e = (state_fold_prove ⟨c,s,e⟩).map (fin s e) := by
  have k1 := he.k12 hk
  have hvn := hc.vn
  have hcn := hc.cn
  have hscn := hw.wf.cn
  have L1 := any_loop (xs := s.Cells) (b := cellplaneref12_prove.b2 (tk s e) e c) (p := fun x => (!decide (x.Mode = 3)) && ((decide (x.Running = e.N)) && ((decide (x.Wanted = e.N)) && (decide (c.Bake ≤ w64 (e.Tick - x.Since)))))) (r1 := ({ s with Tick := e.Tick,Count := s.Count + 1,Proven := bOr .i64 s.Proven (shl .i64 1 e.N) },0)) (r2 := (zS,15)) (by omega) (fun i t h0 h1 ht => by
      unfold cellplaneref12_prove.b2 tk
      dsimp only
      rw [if_pos (decide_eq_true h1),(tot_idxk ht h0).choose_spec.1,← (tot_idxk ht h0).choose_spec.2,u_small e.N (by omega)]
      simp only [Option.bind_some]
      split <;> rfl) (fun i h => by
      unfold cellplaneref12_prove.b2 cellplaneref12_prove.j1 tk
      dsimp only
      rw [if_neg (by simpa using h)]
      rfl)
  have L2 : Tot (loop (state_fold_prove.b1 ⟨c,s,e⟩) 0) fun r => decide (0 ≤ r) = s.Cells.any fun x => (!decide (x.Mode = 3)) && ((decide (x.Running = e.N)) && ((decide (x.Wanted = e.N)) && (decide (c.Bake ≤ w64 (e.Tick - x.Since))))) := by
    refine Tot.loop (fun i => (0 ≤ i ∧ i ≤ s.Cells.length) ∧ ∀ x ∈ s.Cells.take i.toNat,((!decide (x.Mode = 3)) && ((decide (x.Running = e.N)) && ((decide (x.Wanted = e.N)) && (decide (c.Bake ≤ w64 (e.Tick - x.Since)))))) = false) (fun i => (s.Cells.length - i).toNat) ⟨by omega,by simp⟩ ?_
    rintro i ⟨hi,ha⟩
    unfold state_fold_prove.b1
    dsimp only
    refine Tot.dec (fun h => Tot.bind (tot_idx hi.1 h) fun x hx => Tot.ite (fun h1 => Tot.map (Tot.pure ?_)) fun h1 => Tot.pure ⟨⟨?_,?_⟩,?_⟩) fun h => Tot.map (Tot.pure ?_)
    · show decide (0 ≤ i) = _
      rw [decide_eq_true hi.1]
      exact (List.any_eq_true.2 ⟨x,mem_of hx,h1⟩).symm
    · rw [w64_s (by omega)]; omega
    · rw [w64_s (by omega),show (i + 1).toNat = i.toNat + 1 by omega]
      intro y hy
      rcases mem_take_succ hx hy with h2 | rfl
      · exact ha y h2
      · exact h1
    · simp only; rw [w64_s (by omega)]; omega
    · show decide ((0 : Int) ≤ -1) = _
      have : (s.Cells.any fun x => (!decide (x.Mode = 3)) && ((decide (x.Running = e.N)) && ((decide (x.Wanted = e.N)) && (decide (c.Bake ≤ w64 (e.Tick - x.Since)))))) = false := by
        rw [List.any_eq_false]
        intro x hx
        rw [ha x (by rw [List.take_of_length_le (by omega)]; exact hx)]
        decide
      rw [this]
      rfl
  obtain ⟨r,hr,ir⟩ := L2
  unfold cellplaneref12_prove state_fold_prove
  unfold cellplaneref12_proven
  rw [show (tk s e).Proven = s.Proven from rfl]
  dsimp only
  rw [L1,proven_has hw.pr (by omega),hr]
  simp only [Option.bind_some,no_eq,ir]
  generalize cellplaneref04_Has s.Proven e.N = b1
  generalize (s.Cells.any fun x => (!decide (x.Mode = 3)) && ((decide (x.Running = e.N)) && ((decide (x.Wanted = e.N)) && (decide (c.Bake ≤ w64 (e.Tick - x.Since)))))) = b2
  cases b1 <;> cases b2 <;> simp [k1.1,fin_no,fin_ok]
theorem x_evacuate (hk : e.Kind = 13) : (if ((cellplaneref04_Has s.Evacuating e.Other) == (decide (e.N = 1))) = true then some ((cellplaneref12_no 4).1,(cellplaneref12_no 4).2) else some ({ s with Tick := e.Tick,Count := s.Count + 1,Evacuating := bXor .i64 s.Evacuating (shl .i64 1 (IntKind.u64.wrap (e.Other))) },0)) = (state_fold_evacuate ⟨c,s,e⟩).map (fin s e) := by
  obtain ⟨k1,k2⟩ := he.k13 hk
  have hre := hc.reg
  have hb := p_bit s.Evacuating e.Other hw.ev (by omega)
  have hbit : bAnd .i64 (shr .i64 s.Evacuating e.Other) 1 = 0 ∨ bAnd .i64 (shr .i64 s.Evacuating e.Other) 1 = 1 := by
    have hP := hw.ev
    generalize s.Evacuating = P at hP
    have h1 : P = 0 ∨ P = 1 ∨ P = 2 ∨ P = 3 ∨ P = 4 ∨ P = 5 ∨ P = 6 ∨ P = 7 := by omega
    have hr : 0 ≤ e.Other ∧ e.Other ≤ 2 := by omega
    generalize e.Other = i at hr
    have h2 : i = 0 ∨ i = 1 ∨ i = 2 := by omega
    rcases h1 with rfl | rfl | rfl | rfl | rfl | rfl | rfl | rfl <;> rcases h2 with rfl | rfl | rfl <;> decide +kernel
  unfold state_fold_evacuate
  dsimp only
  rw [u_small e.Other (by omega),← hb,no_eq,if_pos k1.1,if_pos k1.1]
  have hN : e.N = 0 ∨ e.N = 1 := by omega
  rcases hbit with h | h <;> rcases hN with hn | hn <;> simp [h,hn,fin_no,fin_ok]
theorem x_expand (hk : e.Kind = 14) : cellplaneref12_expand c (tk s e) = (state_fold_expand ⟨c,s,e⟩).map (fin s e) := by
  have hcn := hc.cn
  have hscn := hw.wf.cn
  have hlo := hw.wf.low
  have old : ∀ v : Int,0 ≤ v ∧ v < (c.Versions.length : Int) → ∃ y,idx c.Versions v = some y ∧ state_fold_old ⟨c,s,e⟩ v = some (decide (y.High ≤ s.High)) := fun v hv => by
    obtain ⟨y,hy⟩ := idx_lt hv.1 hv.2
    refine ⟨y,hy,?_⟩
    unfold state_fold_old
    dsimp only
    rw [hy,if_neg (by simpa using hv.1),if_neg (by simpa using hv.2)]
    rfl
  have L1 := any_loop (xs := s.Cells) (b := cellplaneref12_expand.b1 (tk s e) c) (p := fun x => decide (((idx c.Versions x.Running).map (·.High)).getD 0 ≤ s.High) || decide (((idx c.Versions x.Wanted).map (·.High)).getD 0 ≤ s.High)) (r1 := (zS,13)) (r2 := ({ s with Tick := e.Tick,Count := s.Count + 1,High := s.High + 1 },0)) (by omega) (fun i x h0 h1 hx => by
      have hxw := hw.wf.ce x (mem_of hx)
      obtain ⟨y,hy,_⟩ := old x.Running hxw.run
      obtain ⟨z,hz,_⟩ := old x.Wanted hxw.want
      unfold cellplaneref12_expand.b1 tk
      dsimp only
      rw [if_pos (decide_eq_true h1),(tot_idxk hx h0).choose_spec.1,← (tot_idxk hx h0).choose_spec.2]
      simp only [Option.bind_some,no_eq,hy,hz,Option.map_some,Option.getD_some]
      cases decide (y.High ≤ s.High) <;> cases decide (z.High ≤ s.High) <;> rfl) (fun i h => by
      unfold cellplaneref12_expand.b1 tk
      dsimp only
      rw [if_neg (by simpa using h),w64_s (by omega)]
      rfl)
  have L2 := any_loop (xs := s.Cells) (b := state_fold_expand.b2 ⟨c,s,e⟩) (p := fun x => decide (((idx c.Versions x.Running).map (·.High)).getD 0 ≤ s.High) || decide (((idx c.Versions x.Wanted).map (·.High)).getD 0 ≤ s.High)) (r1 := ((13 : Int),s)) (r2 := (0,{ s with High := s.High + 1 })) (by omega) (fun i x h0 h1 hx => by
      have hxw := hw.wf.ce x (mem_of hx)
      obtain ⟨y,hy,oy⟩ := old x.Running hxw.run
      obtain ⟨z,hz,oz⟩ := old x.Wanted hxw.want
      unfold state_fold_expand.b2
      dsimp only
      rw [if_pos (decide_eq_true h1),(tot_idxk hx h0).choose_spec.1,← (tot_idxk hx h0).choose_spec.2]
      simp only [Option.bind_some,hy,hz,oy,oz,Option.map_some,Option.getD_some]
      cases decide (y.High ≤ s.High) <;> cases decide (z.High ≤ s.High) <;> rfl) (fun i h => by
      unfold state_fold_expand.b2 state_fold_expand.j1
      dsimp only
      rw [if_neg (by simpa using h),w64_s (by omega)]
      rfl)
  unfold cellplaneref12_expand state_fold_expand
  rw [L1,L2]
  unfold tk
  dsimp only
  simp only [no_eq]
  generalize (s.Cells.any fun x => decide (((idx c.Versions x.Running).map (·.High)).getD 0 ≤ s.High) || decide (((idx c.Versions x.Wanted).map (·.High)).getD 0 ≤ s.High)) = b
  have hq : decide (30 ≤ s.High) = decide (s.High = 30) := by rw [Bool.eq_iff_iff]; simp; omega
  rw [hq]
  generalize decide (s.Low < s.High) = b1
  generalize decide (s.High = 30) = b2
  cases b1 <;> cases b2 <;> cases b <;> simp [fin_no,fin_ok]
omit hc hw he in
theorem bind_pair {α β : Type} (m : Option (α × β)) : (m.bind fun p => match p with | (a,b) => some (a,b)) = m := by cases m <;> rfl
omit hc hw he in
theorem bind_fin (m : Option (Int × State)) : (m.bind fun p => match p with | (n,x) => if (!decide (n = 0)) = true then some (zS,n) else some ({ x with Tick := e.Tick,Count := s.Count + 1 },0)) = m.map (fin s e) := by
  cases m with
  | none => rfl
  | some p =>
    obtain ⟨n,x⟩ := p
    by_cases h : n = 0
    · simp [h,fin]
    · simp [h,fin]
end
end Go.Proofs.YtcdoangbkgaapaaGreatK
