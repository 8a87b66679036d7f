/- The walk over a log: a rule holds at each step, if it holds at one. No condition. -/
import Derived.Test.YtcdoangbkgaapaaPW
set_option linter.unusedVariables false
set_option linter.unusedSectionVars false
set_option maxHeartbeats 4000000
namespace Go.Proofs.YtcdoangbkgaapaaK
open Go
attribute [local irreducible] loop runN
theorem each_tot (rule : Int) (R : Config → State → Prop) (h0 : ∀ c, Good c → R c (newS c)) (hs : ∀ c s e y, Good c → WF c s → WF c y → R c s → Stp c s e y → R c y ∧ Tot (cellplanelaw12_obeys c s y rule) fun b => b = true) (l more : List Int) (hl : l.length ≤ 200) (hm : more.length ≤ 200) : Tot (cellplanelaw12_each l more rule) fun b => b = true := by
  unfold cellplanelaw12_each
  refine Tot.bind (config_tot l hl) fun c hc => Tot.bind (new_tot hc) ?_
  rintro _ rfl
  refine Tot.loop (fun x : Int × Int × Int × List TenantState × List CellState × Int × Int × Int × Int × Int => (0 ≤ x.1 ∧ x.1 ≤ 60) ∧ Tp more x.2.2.2.2.2.2.2.2.2 (50 * x.1) ∧ WF c ⟨x.2.1, x.2.2.1, x.2.2.2.1, x.2.2.2.2.1, x.2.2.2.2.2.1, x.2.2.2.2.2.2.1, x.2.2.2.2.2.2.2.1, x.2.2.2.2.2.2.2.2.1⟩ ∧ R c ⟨x.2.1, x.2.2.1, x.2.2.2.1, x.2.2.2.2.1, x.2.2.2.2.2.1, x.2.2.2.2.2.2.1, x.2.2.2.2.2.2.2.1, x.2.2.2.2.2.2.2.2.1⟩) (fun x => (60 - x.1).toNat) ⟨by simp, ⟨hm, by simp [cellplanemake_New], by simp [cellplanemake_New], by simp⟩, new_wf hc, h0 c hc⟩ ?_
  rintro ⟨n, ti, co, ts, cs, pr, ev, lo, hi, a⟩ ⟨hn, ha, hw, hr⟩
  simp only at hn ha hw hr
  unfold cellplanelaw12_each.b1
  simp only [tpe]
  refine Tot.bind (P := fun b => b = true → n < 60) (Tot.dec (fun h => Tot.pure fun _ => h) fun _ => Tot.pure fun h => by cases h) fun b hb => Tot.ite (fun hb1 => ?_) fun _ => Tot.map (Tot.pure rfl)
  have hn60 := hb hb1
  have e1 : ts.length = c.Tenants.length := hw.tn
  have e2 : cs.length = c.Cells.length := hw.cn
  refine Tot.ite (fun h => ?_) fun _ => ?_
  · simp only [e1, e2, decide_true, Bool.not_true, Bool.or_self] at h
    cases h
  refine Tot.bind (P := fun p : Int × Int × List TenantState × List CellState × Int × Int × Int × Int × Int × Int => Tp more p.2.2.2.2.2.2.2.2.2 (50 * (n + 1)) ∧ (p.2.2.2.2.2.2.2.2.1 = 0 → ∃ e, Stp c ⟨ti, co, ts, cs, pr, ev, lo, hi⟩ e ⟨p.1, p.2.1, p.2.2.1, p.2.2.2.1, p.2.2.2.2.1, p.2.2.2.2.2.1, p.2.2.2.2.2.2.1, p.2.2.2.2.2.2.2.1⟩)) (Tot.bind (entry_tot hc hw ha (by omega)) ?_) ?_
  · rintro ⟨e, a'⟩ A
    dsimp only
    simp only at A
    refine Tot.bind (apply_tot hc hw e) ?_
    rintro ⟨y, err⟩ hy
    exact Tot.pure ⟨A.w (by omega), fun h => ⟨e, hy h⟩⟩
  rintro ⟨ti', co', ts', cs', pr', ev', lo', hi', err, a'⟩ ⟨A, hy⟩
  dsimp only
  simp only at A hy
  have hw1 : w64 (n + 1) = n + 1 := w64_s (by omega)
  refine Tot.ndec (fun h => Tot.pure ⟨⟨by simp only; omega, by simp only; rw [hw1]; exact A, hw, hr⟩, by simp only; omega⟩) fun h => ?_
  obtain ⟨e, he⟩ := hy h
  have hw' := step_wf hc hw he
  obtain ⟨r1, r2⟩ := hs c _ e _ hc hw hw' hr he
  refine Tot.bind r2 ?_
  rintro _ rfl
  rw [if_neg (by decide)]
  exact Tot.pure ⟨⟨by simp only; omega, by simp only; rw [hw1]; exact A, hw', r1⟩, by simp only; omega⟩
theorem obeys_tot {c : Config} {s y : State} (rule : Int) (hw : WF c y) (h : Tot (if (decide (rule = 0)) = true then (cellplanelaw12_capacity c y).bind fun x8 => some x8 else if (decide (rule = 1)) = true then (cellplanelaw12_versions c y).bind fun x11 => some x11 else if (decide (rule = 2)) = true then (cellplanelaw12_places c y).bind fun x14 => some x14 else if (decide (rule = 3)) = true then (cellplanelaw12_epochs s y).bind fun x17 => some x17 else (cellplanelaw12_windows y).bind fun x19 => some x19) fun b => b = true) : Tot (cellplanelaw12_obeys c s y rule) fun b => b = true := by
  unfold cellplanelaw12_obeys
  refine Tot.ite (fun h => ?_) fun _ => h
  simp only [hw.tn, hw.cn, decide_true, Bool.not_true, Bool.or_self] at h
  cases h
/-- The frame of the laws. -/
theorem law_frame {l more : List Int} {m : Option Bool} (h : l.length ≤ 200 → more.length ≤ 200 → Tot m fun b => b = true) : (if ((!(cellplanemake_Light l)) || (!(cellplanemake_Light more))) = true then (cellplanelaw12_awake).bind fun x4 => some x4 else ((cellplanelaw12_awake).bind fun x6 => if x6 = true then m.bind fun x9 => some x9 else some false).bind fun x10 => some x10) = some true := by
  have : Tot (if ((!(cellplanemake_Light l)) || (!(cellplanemake_Light more))) = true then (cellplanelaw12_awake).bind fun x4 => some x4 else ((cellplanelaw12_awake).bind fun x6 => if x6 = true then m.bind fun x9 => some x9 else some false).bind fun x10 => some x10) fun b => b = true := by
    rw [aw12]
    refine Tot.ite (fun _ => Tot.pure rfl) fun hl => ?_
    simp only [cellplanemake_Light, Bool.or_eq_false_iff, Bool.not_eq_false', decide_eq_true_eq] at hl
    refine Tot.bind (Tot.bind (Tot.pure (P := fun b => b = true) rfl) ?_) fun b hb => Tot.pure hb
    rintro _ rfl
    rw [if_pos rfl]
    exact Tot.bind (h (by omega) (by omega)) fun b hb => Tot.pure hb
  obtain ⟨x, hx, rfl⟩ := this
  exact hx
/-! ### The epochs -/
theorem tst_ep {c : Config} {s : State} {e : Entry} {t t' : TenantState} (h : TSt c s e t t') : t.Epoch ≤ t'.Epoch ∧ t'.Epoch ≤ t.Epoch + 1 ∧ (t.Placed = true → t'.Placed = true) ∧ (t.Placed = true → t.Home ≠ t'.Home → t'.Epoch = t.Epoch + 1 ∧ t.Window.Until ≤ e.Tick) := by
  cases h with
  | place hk hp hm hm2 hf => exact ⟨by simp only; omega, by simp only; omega, fun h => rfl, fun h => by rw [hp] at h; cases h⟩
  | grant x hk hp hs hcc hep hx hn hr hfr hw hf =>
    unfold grantT
    split
    · exact ⟨by simp only; omega, by simp only; omega, id, fun _ h => absurd rfl h⟩
    · split
      · exact ⟨by simp only; omega, by simp only; omega, id, fun _ h => ⟨by simp only; omega, by omega⟩⟩
      · exact ⟨by simp only; omega, by simp only; omega, id, fun _ h => ⟨by simp only; omega, by omega⟩⟩
  | cut hk hp hep => exact ⟨by simp only; omega, by simp only; omega, id, fun _ h => absurd rfl h⟩
  | unstand hk hp hcc => exact ⟨by simp only; omega, by simp only; omega, id, fun _ h => absurd rfl h⟩
  | stand hk hp hcc hn hm hf => exact ⟨by simp only; omega, by simp only; omega, id, fun _ h => absurd rfl h⟩
  | ready hk hp hcc => exact ⟨by simp only; omega, by simp only; omega, id, fun _ h => absurd rfl h⟩
  | migrate hk hp hs htt hn hm hf => exact ⟨by simp only; omega, by simp only; omega, id, fun _ h => absurd rfl h⟩
  | abandon hk hp htt => exact ⟨by simp only; omega, by simp only; omega, id, fun _ h => absurd rfl h⟩
  | shed hk hp hs hw => exact ⟨by simp only; omega, by simp only; omega, id, fun _ h => absurd rfl h⟩
  | unshed hk hs hf => exact ⟨by simp only; omega, by simp only; omega, id, fun _ h => absurd rfl h⟩
/-- A tenant's state before and behind a step. -/
theorem step_ten {c : Config} {s y : State} {e : Entry} (h : Stp c s e y) {i : Nat} {t t' : TenantState} (ht : s.Tenants[i]? = some t) (ht' : y.Tenants[i]? = some t') : t' = t ∨ TSt c s e t t' := by
  obtain ⟨x, hm, rfl⟩ := h.m
  cases hm with
  | ten u u' hu hs =>
    simp only [setT] at ht'
    by_cases hi : e.Tenant.toNat = i
    · subst hi
      rw [hu] at ht
      injection ht with ht
      subst ht
      rw [List.getElem?_set_self (List.getElem?_eq_some_iff.1 hu).1] at ht'
      injection ht' with ht'
      subst ht'
      exact .inr hs
    · rw [List.getElem?_set_ne hi, ht] at ht'
      injection ht' with ht'
      exact .inl ht'.symm
  | cel x x' hx hs => simp only at ht'; rw [ht] at ht'; injection ht' with ht'; exact .inl ht'.symm
  | prove hk hn => simp only at ht'; rw [ht] at ht'; injection ht' with ht'; exact .inl ht'.symm
  | evac hk hn => simp only at ht'; rw [ht] at ht'; injection ht' with ht'; exact .inl ht'.symm
  | expand hk hh h30 ha => simp only at ht'; rw [ht] at ht'; injection ht' with ht'; exact .inl ht'.symm
  | contract hk hh => simp only at ht'; rw [ht] at ht'; injection ht' with ht'; exact .inl ht'.symm
  | note hk => simp only at ht'; rw [ht] at ht'; injection ht' with ht'; exact .inl ht'.symm
theorem step_tick {c : Config} {s y : State} {e : Entry} (h : Stp c s e y) : y.Tick = e.Tick ∧ y.Count = s.Count + 1 := by
  obtain ⟨x, hm, rfl⟩ := h.m
  exact ⟨rfl, rfl⟩
theorem epochs_tot {c : Config} {s y : State} {e : Entry} (hc : Good c) (hw : WF c s) (hw' : WF c y) (h : Stp c s e y) : Tot (cellplanelaw12_epochs s y) fun b => b = true := by
  obtain ⟨e1, e2⟩ := step_tick h
  have e3 := hw.cnt
  have e4 := h.tick
  have e5 := hw.tn
  have e6 := hw'.tn
  have e7 := hc.tn
  unfold cellplanelaw12_epochs
  rw [w64_s (by omega)]
  refine Tot.ite (fun hb => ?_) fun _ => ?_
  · simp only [Bool.or_eq_true, decide_eq_true_eq, Bool.not_eq_true', decide_eq_false_iff_not] at hb
    omega
  refine Tot.loop (fun i => 0 ≤ i ∧ i ≤ y.Tenants.length) (fun i => (y.Tenants.length - i).toNat) (by omega) ?_
  intro i hi
  unfold cellplanelaw12_epochs.b1
  refine Tot.dec (fun h1 => Tot.bind (P := fun p : TenantState × TenantState => s.Tenants[i.toNat]? = some p.1 ∧ y.Tenants[i.toNat]? = some p.2) (Tot.bind (tot_idx hi.1 (by omega)) fun a ha => Tot.bind (tot_idx hi.1 h1) fun b hb => Tot.pure ⟨ha, hb⟩) ?_) fun _ => Tot.map (Tot.pure rfl)
  rintro ⟨a, b⟩ ⟨ha, hb⟩
  dsimp only
  simp only at ha hb
  have hep := (hw.te a (mem_of ha)).ep
  have key : a.Epoch ≤ b.Epoch ∧ b.Epoch ≤ a.Epoch + 1 ∧ (a.Placed = true → b.Placed = true) ∧ (a.Placed = true → a.Home ≠ b.Home → b.Epoch = a.Epoch + 1 ∧ a.Window.Until ≤ e.Tick) := by
    rcases step_ten h ha hb with rfl | hs
    · exact ⟨by omega, by omega, id, fun _ h => absurd rfl h⟩
    · exact tst_ep hs
  obtain ⟨q1, q2, q3, q4⟩ := key
  rw [w64_s (n := a.Epoch + 1) (by omega)]
  refine Tot.ite (fun hx => ?_) fun _ => Tot.ite (fun hx => ?_) fun _ => Tot.pure ⟨by rw [w64_s (by omega)]; omega, by simp only; rw [w64_s (by omega)]; omega⟩
  · simp only [Bool.or_eq_true, Bool.and_eq_true, decide_eq_true_eq] at hx
    rcases hx with hx | hx | ⟨hp, hx⟩
    · omega
    · omega
    · have hbp := q3 hp
      by_cases hh : a.Home = b.Home
      · simp [hh, hbp] at hx
      · have := (q4 hp hh).1
        simp [hh, hbp, this] at hx
  · simp only [Bool.and_eq_true, decide_eq_true_eq, Bool.not_eq_true', decide_eq_false_iff_not] at hx
    have := (q4 hx.1 hx.2.1).2
    omega
theorem law_StateEpochs (l more : List Int) : cellplanelaw12_StateEpochs l more = some true := by
  unfold cellplanelaw12_StateEpochs
  refine law_frame fun hl hm => each_tot 3 (fun _ _ => True) (fun _ _ => trivial) (fun c s e y hc hw hw' _ h => ⟨trivial, obeys_tot 3 hw' ?_⟩) l more hl hm
  rw [if_neg (by decide), if_neg (by decide), if_neg (by decide), if_pos (by decide)]
  exact Tot.bind (epochs_tot hc hw hw' h) fun b hb => Tot.pure hb
end Go.Proofs.YtcdoangbkgaapaaK
