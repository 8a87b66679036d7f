/- Apply ends,and does to the state what the relations say. No condition. -/
import Derived.Test.YtcdoangbkgaapaaGreatPM
set_option linter.unusedVariables false
set_option linter.unusedSectionVars false
set_option maxHeartbeats 4000000
namespace Go.Proofs.YtcdoangbkgaapaaGreatK
open Go
attribute [local irreducible] loop runN state_fold_full state_fold_may tenant_May tenant_Apart state_fold_evacuating state_fold_up
section
variable {c : Config} {s : State} {e : Entry} (hc : Good c) (hw : WF c s) (he : EV c e)
include hc hw he
theorem a_mode (hk : e.Kind = 9) : Tot (state_fold_mode ⟨c,s,e⟩) fun p => p.1 = 0 → Mth c s e p.2 := by
  obtain ⟨k1,k2⟩ := he.k9 hk
  unfold state_fold_mode
  dsimp only
  refine Tot.bind (tot_idx k1.1 (by rw [hw.cn]; exact k1.2)) fun x hx => Tot.dec (fun _ => erp (by decide)) fun _ => Tot.pure fun _ => ?_
  simp only [List.set_set]
  exact Mth.cel x _ hx (CSt.mode hk)
theorem a_want (hk : e.Kind = 10) : Tot (state_fold_want ⟨c,s,e⟩) fun p => p.1 = 0 → Mth c s e p.2 := by
  obtain ⟨k1,k2⟩ := he.k10 (.inl hk)
  have hcn := hc.cn
  have hsn := hw.cn
  unfold state_fold_want
  dsimp only
  refine Tot.bind (tot_idx k2.1 k2.2) fun v hv => Tot.bind (tot_idx k1.1 (by rw [hw.cn]; exact k1.2)) fun x hx => Tot.dec (fun _ => erp (by decide)) fun _ => Tot.ite (fun _ => erp (by decide)) fun h1 => ?_
  simp only [Bool.or_eq_false_iff,decide_eq_false_iff_not] at h1
  have J : (e.N = x.Running ∨ state_proven s e.N = some true ∨ ((others s e.Cell).length : Int) < c.Blast) → Tot (state_fold_want.j1 ⟨c,s,e⟩) fun p => p.1 = 0 → Mth c s e p.2 := fun hb => by
    unfold state_fold_want.j1
    dsimp only
    refine Tot.bind (tot_idxk hx k1.1) ?_
    rintro _ rfl
    exact Tot.pure fun _ => Mth.cel x _ hx (CSt.want v hk hv (by omega) (by omega) hb)
  refine Tot.dec (fun h => J (.inl h)) fun _ => Tot.bind (tot_frozen s e _) fun _ _ => Tot.ite (fun _ => erp (by decide)) fun _ => Tot.bind (tot_blasted e _ (by omega)) fun b hb => Tot.ite (fun _ => erp (by decide)) fun h => J (.inr (hb h))
theorem a_runs (hk : e.Kind = 11) : Tot (state_fold_runs ⟨c,s,e⟩) fun p => p.1 = 0 → Mth c s e p.2 := by
  obtain ⟨k1,k2⟩ := he.k10 (.inr hk)
  have htn := hc.tn
  have hsn := hw.tn
  unfold state_fold_runs
  dsimp only
  obtain ⟨x,hx⟩ : ∃ x,s.Cells[e.Cell.toNat]? = some x := by
    obtain ⟨x,_,hx⟩ := tot_idx (xs := s.Cells) k1.1 (by rw [hw.cn]; exact k1.2)
    exact ⟨x,hx⟩
  refine Tot.bind (P := fun b => b = false → e.N = x.Wanted ∧ x.Running ≠ x.Wanted) (Tot.bind (tot_idxk hx k1.1) ?_) fun b hb => Tot.ite (fun _ => erp (by decide)) fun hb1 => ?_
  · rintro _ rfl
    exact Tot.ndec (fun _ => Tot.pure fun h => by cases h) fun h => Tot.pure fun h1 => ⟨h,by simpa using h1⟩
  obtain ⟨a1,a2⟩ := hb hb1
  refine Tot.bind (tot_frozen s e _) fun _ _ => Tot.ite (fun _ => erp (by decide)) fun _ => ?_
  refine Tot.loop (fun i => (0 ≤ i ∧ i ≤ s.Tenants.length) ∧ ∀ t ∈ s.Tenants.take i.toNat,t.Window.Cell = e.Cell → t.Window.Until ≤ e.Tick) (fun i => (s.Tenants.length - i).toNat) ⟨by omega,by simp⟩ ?_
  rintro i ⟨hi,ha⟩
  unfold state_fold_runs.b3
  dsimp only
  refine Tot.dec (fun h => Tot.bind (tot_idx hi.1 h) fun t ht => Tot.ite (fun _ => Tot.map (erp (by decide))) fun h1 => Tot.pure ⟨⟨?_,?_⟩,?_⟩) fun h => ?_
  · rw [w64_s (by omega)]; omega
  · rw [w64_s (by omega),show (i + 1).toNat = i.toNat + 1 by omega]
    intro t' ht'
    rcases mem_take_succ ht ht' with h2 | rfl
    · exact ha t' h2
    · intro h3
      simp only [Bool.and_eq_false_iff,decide_eq_false_iff_not] at h1
      omega
  · simp only; rw [w64_s (by omega)]; omega
  · unfold state_fold_runs.j2
    dsimp only
    refine Tot.map (Tot.bind (tot_idxk hx k1.1) ?_)
    rintro _ rfl
    refine Tot.pure fun _ => ?_
    simp only [List.set_set]
    refine Mth.cel x _ hx (CSt.runs hk a1 a2 fun t ht => ha t ?_)
    rw [List.take_of_length_le (by omega)]
    exact ht
theorem a_prove (hk : e.Kind = 12) : Tot (state_fold_prove ⟨c,s,e⟩) fun p => p.1 = 0 → Mth c s e p.2 := by
  have k1 := he.k12 hk
  have hcn := hc.cn
  have hsn := hw.cn
  unfold state_fold_prove
  dsimp only
  refine Tot.bind (tot_proven _ _) fun _ _ => Tot.ite (fun _ => erp (by decide)) fun _ => Tot.bind (P := fun _ => True) ?_ fun r _ => Tot.ite (fun _ => erp (by decide)) fun _ => Tot.prop k1.1 (Tot.pure fun _ => Mth.prove hk k1.1)
  refine Tot.loop (fun i => 0 ≤ i ∧ i ≤ s.Cells.length) (fun i => (s.Cells.length - i).toNat) (by omega) ?_
  intro i hi
  unfold state_fold_prove.b1
  dsimp only
  refine Tot.dec (fun h => Tot.bind (tot_idx hi.1 h) fun x hx => Tot.ite (fun _ => Tot.map (Tot.pure trivial)) fun _ => Tot.pure ⟨?_,?_⟩) fun _ => Tot.map (Tot.pure trivial)
  · rw [w64_s (by omega)]; omega
  · simp only; rw [w64_s (by omega)]; omega
theorem a_evacuate (hk : e.Kind = 13) : Tot (state_fold_evacuate ⟨c,s,e⟩) fun p => p.1 = 0 → Mth c s e p.2 := by
  obtain ⟨k1,k2⟩ := he.k13 hk
  unfold state_fold_evacuate
  dsimp only
  exact Tot.prop k1.1 (Tot.dec (fun _ => erp (by decide)) fun _ => Tot.prop k1.1 (Tot.pure fun _ => Mth.evac hk k1.1))
theorem a_old (v : Int) : Tot (state_fold_old ⟨c,s,e⟩ v) fun b => b = false → ∃ y,c.Versions[v.toNat]? = some y ∧ s.High < y.High := by
  unfold state_fold_old
  dsimp only
  refine Tot.bind (P := fun b => b = false → ∃ y,c.Versions[v.toNat]? = some y ∧ s.High < y.High) ?_ fun _ h => Tot.pure h
  exact Tot.dec (fun _ => Tot.pure fun h => by cases h) fun h1 => Tot.dec (fun _ => Tot.pure fun h => by cases h) fun h2 => Tot.bind (tot_idx (by omega) (by omega)) fun y hy => Tot.pure fun h3 => ⟨y,hy,by have := of_decide_eq_false h3; omega⟩
theorem a_expand (hk : e.Kind = 14) : Tot (state_fold_expand ⟨c,s,e⟩) fun p => p.1 = 0 → Mth c s e p.2 := by
  have hcn := hc.cn
  have hsn := hw.cn
  have hlo := hw.low
  unfold state_fold_expand
  dsimp only
  refine Tot.dec (fun _ => erp (by decide)) fun h1 => Tot.dec (fun _ => erp (by decide)) fun h2 => ?_
  refine Tot.loop (fun i => (0 ≤ i ∧ i ≤ s.Cells.length) ∧ ∀ x ∈ s.Cells.take i.toNat,(∃ v,c.Versions[x.Running.toNat]? = some v ∧ s.High < v.High) ∧ ∃ v,c.Versions[x.Wanted.toNat]? = some v ∧ s.High < v.High) (fun i => (s.Cells.length - i).toNat) ⟨by omega,by simp⟩ ?_
  rintro i ⟨hi,ha⟩
  unfold state_fold_expand.b2
  dsimp only
  refine Tot.dec (fun h => Tot.bind (tot_idx hi.1 h) fun x hx => Tot.bind (P := fun b => b = false → (∃ v,c.Versions[x.Running.toNat]? = some v ∧ s.High < v.High) ∧ ∃ v,c.Versions[x.Wanted.toNat]? = some v ∧ s.High < v.High) (Tot.bind (a_old hc hw he _) fun b hb => Tot.ite (fun _ => Tot.pure fun h => by cases h) fun hb' => Tot.bind (a_old hc hw he _) fun d hd => Tot.pure fun hd' => ⟨hb hb',hd hd'⟩) fun b hb => Tot.ite (fun _ => Tot.map (erp (by decide))) fun hb' => Tot.pure ⟨⟨?_,?_⟩,?_⟩) fun h => ?_
  · rw [w64_s (by omega)]; omega
  · rw [w64_s (by omega),show (i + 1).toNat = i.toNat + 1 by omega]
    intro y hy
    rcases mem_take_succ hx hy with h2 | rfl
    · exact ha y h2
    · exact hb hb'
  · simp only; rw [w64_s (by omega)]; omega
  · unfold state_fold_expand.j1
    dsimp only
    rw [w64_s (by omega)]
    refine Tot.map (Tot.pure fun _ => Mth.expand hk (by omega) h2 fun x hx => ha x ?_)
    rw [List.take_of_length_le (by omega)]
    exact hx
theorem a_apply : Tot (state_fold_apply ⟨c,s,e⟩) fun p => p.1 = 0 → Mth c s e p.2 := by
  have hkd := he.kind
  unfold state_fold_apply
  dsimp only
  have B : ∀ {m : Option (Int × State)},Tot m (fun p => p.1 = 0 → Mth c s e p.2) → Tot (m.bind fun x => match x with | (a,b) => some (a,b)) fun p => p.1 = 0 → Mth c s e p.2 := fun h => Tot.bind h fun x hx => Tot.pure hx
  refine Tot.dec (fun h => B (m_place hc hw he h)) fun n1 => Tot.dec (fun h => B (m_grant hc hw he h)) fun n2 => Tot.dec (fun h => B (m_cut hc hw he h)) fun n3 => Tot.dec (fun h => B (m_standby hc hw he h)) fun n4 => Tot.dec (fun h => B (m_ready hc hw he h)) fun n5 => Tot.dec (fun h => B (m_migrate hc hw he h)) fun n6 => Tot.dec (fun h => B (m_abandon hc hw he h)) fun n7 => Tot.dec (fun h => B (m_shed hc hw he h)) fun n8 => Tot.dec (fun h => B (a_mode hc hw he h)) fun n9 => Tot.dec (fun h => B (a_want hc hw he h)) fun n10 => Tot.dec (fun h => B (a_runs hc hw he h)) fun n11 => Tot.dec (fun h => B (a_prove hc hw he h)) fun n12 => Tot.dec (fun h => B (a_evacuate hc hw he h)) fun n13 => Tot.dec (fun h => B (a_expand hc hw he h)) fun n14 => Tot.dec (fun h => Tot.pure ?_) fun n15 => Tot.pure fun _ => Mth.note (by omega)
  unfold state_fold_contract
  dsimp only
  by_cases hh : s.High = s.Low
  · rw [if_pos (by simpa using hh)]; exact er (by decide)
  · rw [if_neg (by simpa using hh)]; exact fun _ => Mth.contract h hh
end
theorem copied_eq {s : State} (h1 : s.Tenants.length ≤ 1000000) (h2 : s.Cells.length ≤ 1000000) : state_copied s = some s := by
  unfold state_copied slices_Clone_api_TenantState_api_TenantState slices_Clone_api_CellState_api_CellState app
  rw [if_pos (by simp; omega),if_pos (by simp; omega)]
  rfl
/-- What a step from one state to the next is. -/
structure Stp (c : Config) (s : State) (e : Entry) (y : State) : Prop where
  ev : EV c e
  tick : s.Tick ≤ e.Tick
  cnt : s.Count < 4096
  m : ∃ x,Mth c s e x ∧ y = { x with Tick := e.Tick,Count := s.Count + 1 }
theorem apply_tot {c : Config} {s : State} (hc : Good c) (hw : WF c s) (e : Entry) : Tot (state_Apply c s e) fun p => p.2 = 0 → Stp c s e p.1 := by
  have h1 := hc.tn
  have h2 := hc.cn
  have h3 := hw.tn
  have h4 := hw.cn
  have h5 := hw.cnt
  unfold state_Apply
  refine Tot.bind (P := fun b => b = false → EV c e) (Tot.bind (valid_tot hc e) fun b hb => Tot.ite (fun _ => Tot.pure fun h => by cases h) fun h => Tot.ndec (fun _ => Tot.pure fun h => by cases h) fun _ => Tot.pure fun _ => hb (by simpa using h)) fun b hb => Tot.ite (fun _ => Tot.pure fun h => by simp at h) fun hb1 => Tot.dec (fun _ => Tot.pure fun h => by simp at h) fun hcnt => Tot.dec (fun _ => Tot.pure fun h => by simp at h) fun htick => ?_
  have he := hb hb1
  refine Tot.bind (tot_true (copied_eq (s := s) (by omega) (by omega))) ?_
  rintro _ rfl
  have ht := he.ten
  have hcl := he.cel
  refine Tot.bind (P := fun _ => True) (Tot.dec (fun h => Tot.bind (tot_idx h (by omega)) fun _ _ => Tot.pure trivial) fun _ => Tot.pure trivial) fun _ _ => Tot.bind (P := fun _ => True) (Tot.dec (fun h => Tot.bind (tot_idx h (by omega)) fun _ _ => Tot.pure trivial) fun _ => Tot.pure trivial) fun _ _ => Tot.bind (a_apply hc hw he) ?_
  rintro ⟨n,x⟩ hx
  dsimp only
  refine Tot.ndec (fun h => Tot.pure fun h' => absurd h' h) fun h => Tot.pure fun _ => ⟨he,by omega,by omega,x,hx h,?_⟩
  rw [w64_s (by omega)]
end Go.Proofs.YtcdoangbkgaapaaGreatK
