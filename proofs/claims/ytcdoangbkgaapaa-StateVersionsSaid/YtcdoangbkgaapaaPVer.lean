/- Versions and schemas: the law StateVersions. No condition. -/
import Derived.Test.YtcdoangbkgaapaaPEach
set_option linter.unusedVariables false
set_option linter.unusedSectionVars false
set_option maxHeartbeats 4000000
namespace Go.Proofs.YtcdoangbkgaapaaK
open Go
attribute [local irreducible] loop runN
/-- How many numbers below n have a property. -/
def cntN (p : Nat → Bool) : Nat → Nat
  | 0 => 0
  | n + 1 => cntN p n + if p n = true then 1 else 0
theorem cntN_le {p q : Nat → Bool} : ∀ {n : Nat}, (∀ i, i < n → p i = true → q i = true) → cntN p n ≤ cntN q n
  | 0, _ => Nat.le_refl 0
  | n + 1, h => by
    have h1 := cntN_le (p := p) (q := q) (n := n) fun i hi => h i (by omega)
    have h2 := h n (by omega)
    unfold cntN
    cases hp : p n with
    | false => simp; omega
    | true => rw [h2 hp]; simp; omega
theorem cntN_but {p : Nat → Bool} (k : Nat) : ∀ {n : Nat}, cntN p n ≤ cntN (fun i => p i && !decide (i = k)) n + (if k < n then 1 else 0)
  | 0 => by simp [cntN]
  | n + 1 => by
    have h1 := cntN_but (p := p) k (n := n)
    unfold cntN
    by_cases hk : n = k
    · subst hk
      rw [if_neg (by omega)] at h1
      rw [if_pos (show n < n + 1 by omega)]
      split <;> simp <;> omega
    · simp only [hk, decide_false, Bool.not_false, Bool.and_true]
      by_cases hlt : k < n
      · rw [if_pos hlt] at h1; rw [if_pos (show k < n + 1 by omega)]; cases p n <;> simp <;> omega
      · rw [if_neg hlt] at h1; rw [if_neg (show ¬ k < n + 1 by omega)]; cases p n <;> simp <;> omega
/-! ### The bits -/
theorem p_bit (P i : Int) (hP : 0 ≤ P ∧ P ≤ 7) (hi : 0 ≤ i ∧ i ≤ 2) : decide (bAnd .i64 (shr .i64 P i) 1 = 1) = cellplaneref04_Has P i := by
  have h1 : P = 0 ∨ P = 1 ∨ P = 2 ∨ P = 3 ∨ P = 4 ∨ P = 5 ∨ P = 6 ∨ P = 7 := by omega
  have h2 : i = 0 ∨ i = 1 ∨ i = 2 := by omega
  rcases h1 with rfl | rfl | rfl | rfl | rfl | rfl | rfl | rfl <;> rcases h2 with rfl | rfl | rfl <;> decide +kernel
theorem p_or (P n : Int) (hP : 0 ≤ P ∧ P ≤ 7) (hn : 0 ≤ n ∧ n ≤ 2) : (0 ≤ bOr .i64 P (shl .i64 1 n) ∧ bOr .i64 P (shl .i64 1 n) ≤ 7) ∧ ∀ i, 0 ≤ i ∧ i ≤ 2 → cellplaneref04_Has P i = true → cellplaneref04_Has (bOr .i64 P (shl .i64 1 n)) i = true := by
  have h1 : P = 0 ∨ P = 1 ∨ P = 2 ∨ P = 3 ∨ P = 4 ∨ P = 5 ∨ P = 6 ∨ P = 7 := by omega
  have h2 : n = 0 ∨ n = 1 ∨ n = 2 := by omega
  refine ⟨?_, fun i hi => ?_⟩
  · rcases h1 with rfl | rfl | rfl | rfl | rfl | rfl | rfl | rfl <;> rcases h2 with rfl | rfl | rfl <;> decide +kernel
  · have h3 : i = 0 ∨ i = 1 ∨ i = 2 := by omega
    rcases h1 with rfl | rfl | rfl | rfl | rfl | rfl | rfl | rfl <;> rcases h2 with rfl | rfl | rfl <;> rcases h3 with rfl | rfl | rfl <;> decide +kernel
/-- A cell is unproven. -/
def opn (P : Int) (x : CellState) : Bool := (!cellplaneref04_Has P x.Running) || !cellplaneref04_Has P x.Wanted
def opnI (s : State) (i : Nat) : Bool := match s.Cells[i]? with
  | some x => opn s.Proven x
  | none => false
theorem proven_has {s : State} {v : Int} (hP : 0 ≤ s.Proven ∧ s.Proven ≤ 7) (hv : 0 ≤ v ∧ v ≤ 2) : state_proven s v = some (cellplaneref04_Has s.Proven v) := by
  unfold state_proven
  rw [if_pos (decide_eq_true hv.1), if_pos (by exact decide_eq_true (by omega)), if_pos hv.1, p_bit _ _ hP hv]
  rfl
/-- A version may run under the schemas. -/
def Fits (c : Config) (s : State) (n : Int) : Prop := ∃ v, c.Versions[n.toNat]? = some v ∧ v.Low ≤ s.Low ∧ s.High ≤ v.High
/-- What holds between the steps. -/
structure RVer (c : Config) (s : State) : Prop where
  pr : 0 ≤ s.Proven ∧ s.Proven ≤ 7
  lo : s.Low ≤ s.High ∧ s.High ≤ s.Low + 1
  fit : ∀ x ∈ s.Cells, Fits c s x.Running ∧ Fits c s x.Wanted
  cnt : (cntN (opnI s) s.Cells.length : Int) ≤ c.Blast
theorem ver_new {c : Config} (hc : Good c) : RVer c (newS c) := by
  obtain ⟨v, hv, hv0⟩ := hc.v0
  have h1 := hc.ve v (mem_of hv)
  refine ⟨by simp [newS], by simp [newS], fun x hx => ?_, ?_⟩
  · have := List.eq_of_mem_replicate hx
    subst this
    exact ⟨⟨v, hv, by simp [newS]; omega, by simp [newS]; omega⟩, ⟨v, hv, by simp [newS]; omega, by simp [newS]; omega⟩⟩
  · have : ∀ n, cntN (opnI (newS c)) n = 0 := fun n => by
      induction n with
      | zero => rfl
      | succ n ih =>
        unfold cntN
        rw [ih, if_neg]
        unfold opnI
        split
        · rename_i x hx
          have := List.eq_of_mem_replicate (mem_of hx)
          subst this
          show ¬ opn 1 cz = true
          decide +kernel
        · decide
    rw [this]
    have := hc.bl
    omega
theorem unproven_opn {c : Config} {s : State} (hc : Good c) (hw : WF c s) (hP : 0 ≤ s.Proven ∧ s.Proven ≤ 7) {i : Nat} (hi : i < s.Cells.length) : state_unproven s (i : Int) = some (opnI s i) := by
  have hv := hc.vn
  obtain ⟨x, hx⟩ : ∃ x, s.Cells[i]? = some x := ⟨_, List.getElem?_eq_getElem hi⟩
  have hx' := hw.ce x (mem_of hx)
  have h1 := hx'.run
  have h2 := hx'.want
  unfold state_unproven opnI
  rw [idx_nat hx, hx]
  simp only [Option.bind_some]
  rw [proven_has hP (by omega), proven_has hP (by omega)]
  unfold opn
  simp only [Option.bind_some]
  cases cellplaneref04_Has s.Proven x.Running <;> simp
theorem others_cnt {c : Config} {s : State} (hc : Good c) (hw : WF c s) (hP : 0 ≤ s.Proven ∧ s.Proven ≤ 7) (k : Nat) : ∀ n, n ≤ s.Cells.length → ((openL s n).filter fun x => !decide (x = (k : Int))).length = cntN (fun i => opnI s i && !decide (i = k)) n
  | 0, _ => rfl
  | n + 1, h => by
    have ih := others_cnt hc hw hP k n (by omega)
    unfold openL cntN
    rw [unproven_opn hc hw hP (by omega)]
    cases ho : opnI s n with
    | false => simp [ih]
    | true =>
      rw [if_pos rfl, List.filter_append, List.length_append, ih]
      by_cases hk : n = k
      · subst hk; simp
      · have : ¬ (n : Int) = (k : Int) := by omega
        simp [hk, this]
theorem opnI_set {s : State} {k : Nat} {x x' : CellState} (hx : s.Cells[k]? = some x) (i : Nat) : opnI { s with Cells := s.Cells.set k x' } i = if i = k then opn s.Proven x' else opnI s i := by
  unfold opnI
  simp only
  by_cases hi : i = k
  · subst hi
    rw [List.getElem?_set_self (List.getElem?_eq_some_iff.1 hx).1, if_pos rfl]
  · rw [List.getElem?_set_ne (Ne.symm hi), if_neg hi]
theorem opnI_cong {s y : State} (h1 : y.Cells = s.Cells) (h2 : y.Proven = s.Proven) : opnI y = opnI s := by
  funext i
  unfold opnI
  rw [h1, h2]
theorem ver_step {c : Config} {s y : State} {e : Entry} (hc : Good c) (hw : WF c s) (hr : RVer c s) (h : Stp c s e y) : RVer c y := by
  have he := h.ev
  have hvn := hc.vn
  obtain ⟨x, hm, rfl⟩ := h.m
  cases hm with
  | ten t t' ht hs => exact ⟨hr.pr, hr.lo, hr.fit, hr.cnt⟩
  | cel x x' hx hs =>
    have hxw := hw.ce x (mem_of hx)
    have g1 := hxw.run
    have g2 := hxw.want
    obtain ⟨f1, f2⟩ := hr.fit x (mem_of hx)
    have hk0 : 0 ≤ e.Cell := by cases hs with
      | mode hk => exact (he.k9 hk).1.1
      | want v hk hv hl hh hb => exact (he.k10 (.inl hk)).1.1
      | runs hk hn hne hww => exact (he.k10 (.inr hk)).1.1
    refine ⟨hr.pr, hr.lo, fun u hu => ?_, ?_⟩
    · rcases mem_set_or hu with hu | rfl
      · exact hr.fit u hu
      · cases hs with
        | mode hk => exact ⟨f1, f2⟩
        | want v hk hv hl hh hb => exact ⟨f1, v, hv, hl, hh⟩
        | runs hk hn hne hww => simp only; rw [hn]; exact ⟨f2, f2⟩
    · show (cntN (opnI { s with Cells := s.Cells.set e.Cell.toNat x' }) (s.Cells.set e.Cell.toNat x').length : Int) ≤ c.Blast
      rw [List.length_set]
      have hcn := hr.cnt
      have A : (opn s.Proven x' = true → opn s.Proven x = true) → (cntN (opnI { s with Cells := s.Cells.set e.Cell.toNat x' }) s.Cells.length : Int) ≤ c.Blast := fun ho => by
        have := cntN_le (p := opnI { s with Cells := s.Cells.set e.Cell.toNat x' }) (q := opnI s) (n := s.Cells.length) fun i hi hp => by
          rw [opnI_set hx] at hp
          split at hp
          · rename_i hik
            subst hik
            unfold opnI
            rw [hx]
            exact ho hp
          · exact hp
        omega
      cases hs with
      | mode hk => exact A id
      | runs hk hn hne hww =>
        refine A fun ho => ?_
        unfold opn at ho ⊢
        simp only [hn, Bool.or_self] at ho
        rw [ho, Bool.or_true]
      | want v hk hv hl hh hb =>
        have hN := (he.k10 (.inl hk)).2
        rcases hb with hb | hb | hb
        · refine A fun ho => ?_
          unfold opn at ho ⊢
          simp only [hb, Bool.or_self] at ho
          rw [ho, Bool.true_or]
        · refine A fun ho => ?_
          rw [proven_has hr.pr (by omega)] at hb
          injection hb with hb
          unfold opn at ho ⊢
          simp only [hb, Bool.not_true, Bool.or_false] at ho
          rw [ho, Bool.true_or]
        · have h1 := cntN_but (p := opnI { s with Cells := s.Cells.set e.Cell.toNat { x with Wanted := e.N } }) e.Cell.toNat (n := s.Cells.length)
          have h2 := cntN_le (p := fun i => opnI { s with Cells := s.Cells.set e.Cell.toNat { x with Wanted := e.N } } i && !decide (i = e.Cell.toNat)) (q := fun i => opnI s i && !decide (i = e.Cell.toNat)) (n := s.Cells.length) fun i hi hp => by
            simp only [Bool.and_eq_true, Bool.not_eq_true', decide_eq_false_iff_not] at hp ⊢
            rw [opnI_set hx, if_neg hp.2] at hp
            exact hp
          have h3 := others_cnt hc hw hr.pr e.Cell.toNat s.Cells.length (Nat.le_refl _)
          have hcast : ((e.Cell.toNat : Nat) : Int) = e.Cell := by omega
          rw [hcast] at h3
          unfold others at hb
          rw [h3] at hb
          have h4 : (if e.Cell.toNat < s.Cells.length then 1 else 0) ≤ 1 := by split <;> omega
          omega
  | prove hk hn =>
    have hN := he.k12 hk
    obtain ⟨p1, p2⟩ := p_or s.Proven e.N hr.pr (by omega)
    refine ⟨p1, hr.lo, hr.fit, ?_⟩
    have hcn := hr.cnt
    have := cntN_le (p := opnI { s with Proven := bOr .i64 s.Proven (shl .i64 1 e.N) }) (q := opnI s) (n := s.Cells.length) fun i hi hp => by
      unfold opnI at hp ⊢
      simp only at hp
      split at hp
      · rename_i x hx
        have hxw := hw.ce x (mem_of hx)
        have g1 := hxw.run
        have g2 := hxw.want
        unfold opn at hp ⊢
        have q1 := p2 x.Running (by omega)
        have q2 := p2 x.Wanted (by omega)
        cases hA : cellplaneref04_Has s.Proven x.Running with
        | false => rfl
        | true =>
          cases hB : cellplaneref04_Has s.Proven x.Wanted with
          | false => rfl
          | true => rw [q1 hA, q2 hB] at hp; cases hp
      · cases hp
    show (cntN (opnI { s with Proven := bOr .i64 s.Proven (shl .i64 1 e.N) }) s.Cells.length : Int) ≤ c.Blast
    omega
  | evac hk hn => exact ⟨hr.pr, hr.lo, hr.fit, hr.cnt⟩
  | expand hk hh h30 ha =>
    have hlo := hr.lo
    refine ⟨hr.pr, by simp only; omega, fun u hu => ?_, hr.cnt⟩
    obtain ⟨⟨v1, q1, q2, q3⟩, ⟨v2, q4, q5, q6⟩⟩ := hr.fit u hu
    obtain ⟨⟨w1, r1, r2⟩, ⟨w2, r3, r4⟩⟩ := ha u hu
    rw [q1] at r1
    injection r1 with r1
    subst r1
    rw [q4] at r3
    injection r3 with r3
    subst r3
    exact ⟨⟨v1, q1, q2, by simp only; omega⟩, ⟨v2, q4, q5, by simp only; omega⟩⟩
  | contract hk hh =>
    have hlo := hr.lo
    refine ⟨hr.pr, by simp only; omega, fun u hu => ?_, hr.cnt⟩
    obtain ⟨⟨v1, q1, q2, q3⟩, ⟨v2, q4, q5, q6⟩⟩ := hr.fit u hu
    exact ⟨⟨v1, q1, by simp only; omega, q3⟩, ⟨v2, q4, by simp only; omega, q6⟩⟩
  | note hk => exact ⟨hr.pr, hr.lo, hr.fit, hr.cnt⟩
theorem versions_tot {c : Config} {s : State} (hc : Good c) (hw : WF c s) (hr : RVer c s) : Tot (cellplanelaw12_versions c s) fun b => b = true := by
  have e6 := hw.cn
  have e7 := hc.cn
  have hlo := hr.lo
  have hl := hw.low
  have hcn := hr.cnt
  unfold cellplanelaw12_versions
  refine Tot.loop (fun x : Int × Int => (0 ≤ x.2 ∧ x.2 ≤ s.Cells.length) ∧ x.1 = cntN (opnI s) x.2.toNat ∧ x.1 ≤ x.2) (fun x => (s.Cells.length - x.2).toNat) ⟨by simp, by simp [cntN], by simp⟩ ?_
  rintro ⟨o, i⟩ ⟨hi, ho, hoi⟩
  simp only at hi ho hoi
  unfold cellplanelaw12_versions.b2
  refine Tot.dec (fun h1 => Tot.bind (tot_idx hi.1 h1) fun x hx => ?_) fun h1 => Tot.map ?_
  · obtain ⟨⟨v1, q1, q2, q3⟩, ⟨v2, q4, q5, q6⟩⟩ := hr.fit x (mem_of hx)
    have hxw := hw.ce x (mem_of hx)
    have g1 := hxw.run
    have g2 := hxw.want
    refine Tot.loop (fun k => 0 ≤ k ∧ k ≤ 2) (fun k => (2 - k).toNat) (by omega) ?_
    intro k hk
    unfold cellplanelaw12_versions.b4
    refine Tot.dec (fun h2 => Tot.bind (P := fun b => b = false) (Tot.bind (tot_idx hk.1 (by simp; omega)) fun z hz => ?_) ?_) fun _ => Tot.map ?_
    · have hm := mem_of hz
      simp only [List.mem_cons, List.not_mem_nil, or_false] at hm
      have hz' : (0 ≤ z ∧ z < (c.Versions.length : Int)) ∧ ∃ v, c.Versions[z.toNat]? = some v ∧ v.Low ≤ s.Low ∧ s.High ≤ v.High := by
        rcases hm with rfl | rfl
        · exact ⟨g1, v1, q1, q2, q3⟩
        · exact ⟨g2, v2, q4, q5, q6⟩
      obtain ⟨z1, v, z2, z3, z4⟩ := hz'
      refine Tot.dec (fun h => by omega) fun _ => Tot.dec (fun h => by omega) fun _ => Tot.bind (tot_idxk z2 z1.1) ?_
      rintro _ rfl
      exact Tot.dec (fun h => by omega) fun _ => Tot.pure (decide_eq_false (by omega))
    · rintro _ rfl
      rw [if_neg (by decide)]
      exact Tot.pure ⟨by rw [w64_s (by omega)]; omega, by simp only; rw [w64_s (by omega)]; omega⟩
    · unfold cellplanelaw12_versions.j3
      have hop : ((!(cellplaneref04_Has s.Proven x.Running)) || (!(cellplaneref04_Has s.Proven x.Wanted))) = opnI s i.toNat := by
        unfold opnI
        rw [hx]
        rfl
      rw [hop]
      have hn : (i + 1).toNat = i.toNat + 1 := by omega
      refine Tot.ite (fun h => Tot.pure ⟨⟨?_, ?_, ?_⟩, ?_⟩) fun h => Tot.pure ⟨⟨?_, ?_, ?_⟩, ?_⟩
      · simp only; rw [w64_s (n := i + 1) (by omega)]; omega
      · simp only; rw [w64_s (n := i + 1) (by omega), w64_s (n := o + 1) (by omega), hn]; unfold cntN; rw [if_pos h]; omega
      · simp only; rw [w64_s (n := i + 1) (by omega), w64_s (n := o + 1) (by omega)]; omega
      · simp only; rw [w64_s (n := i + 1) (by omega)]; omega
      · simp only; rw [w64_s (n := i + 1) (by omega)]; omega
      · simp only; rw [w64_s (n := i + 1) (by omega), hn]; unfold cntN; rw [if_neg (by rw [h]; decide)]; omega
      · simp only; rw [w64_s (n := i + 1) (by omega)]; omega
      · simp only; rw [w64_s (n := i + 1) (by omega)]; omega
  · unfold cellplanelaw12_versions.j1
    rw [w64_s (n := s.Low + 1) (by omega)]
    have hi' : i.toNat = s.Cells.length := by omega
    rw [hi'] at ho
    refine Tot.pure ?_
    show (decide (o ≤ c.Blast) && (decide (s.Low ≤ s.High) && decide (s.High ≤ s.Low + 1))) = true
    simp only [Bool.and_eq_true, decide_eq_true_eq]
    omega
theorem law_StateVersions (l more : List Int) : cellplanelaw12_StateVersions l more = some true := by
  unfold cellplanelaw12_StateVersions
  refine law_frame fun hl hm => each_tot 1 RVer (fun _ h => ver_new h) (fun c s e y hc hw hw' hr h => ⟨ver_step hc hw hr h, obeys_tot 1 hw' ?_⟩) l more hl hm
  rw [if_neg (by decide), if_pos (by decide)]
  exact Tot.bind (versions_tot hc hw' (ver_step hc hw hr h)) fun b hb => Tot.pure hb
end Go.Proofs.YtcdoangbkgaapaaK
