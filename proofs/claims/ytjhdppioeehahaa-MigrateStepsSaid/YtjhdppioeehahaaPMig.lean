/- What the functions of package migrate and of its reference compute: the law MigrateSteps. No condition. -/
import Derived.Test.YtjhdppioeehahaaF
set_option linter.unusedVariables false
set_option maxHeartbeats 4000000
namespace Go.Proofs.YtjhdppioeehahaaK
open Go
theorem loop_if {X R : Type} {b : X → Option (X ⊕ R)} {x y : X} {v : R} {c : Bool} (h : b x = if c = true then some (.inr v) else some (.inl y)) : loop b x = if c = true then some v else loop b y := by
  rw [loop_eq, h]; cases c <;> rfl
theorem loop_inr {X R : Type} {b : X → Option (X ⊕ R)} {x : X} {v : R} (h : b x = some (.inr v)) : loop b x = some v := by
  rw [loop_eq, h]; rfl
theorem aw : cellplanelaw31_awake = some true := by kernel_rfl
theorem tab (p e : Int) : loop (cellplaneref31_After.b1 p e) 0 = if (decide (2 = p) && decide (2 = e)) = true then some 3 else if (decide (5 = p) && decide (4 = e)) = true then some 6 else if (decide (1 = p) && decide (5 = e)) = true then some 7 else if (decide (2 = p) && decide (5 = e)) = true then some 7 else if (decide (3 = p) && decide (5 = e)) = true then some 8 else if (decide (4 = p) && decide (5 = e)) = true then some 8 else if (decide (5 = p) && decide (5 = e)) = true then some 8 else if (decide (7 = p) && decide (6 = e)) = true then some 10 else if (decide (8 = p) && decide (6 = e)) = true then some 9 else if (decide (9 = p) && decide (7 = e)) = true then some 10 else some 0 := by
  have R : ∀ (k : Int) (r : cellplaneref31_row), idx cellplaneref31_table k = some r → decide (k < (cellplaneref31_table.length : Int)) = true → w64 (k + 1) = k + 1 → cellplaneref31_After.b1 p e k = if (decide (r.phase = p) && decide (r.event = e)) = true then some (.inr r.next) else some (.inl (k + 1)) := by
    intro k r h1 h2 h3
    unfold cellplaneref31_After.b1
    simp only [h2, if_true, h1, Option.bind_some, h3]
    split <;> rfl
  rw [loop_if (R 0 ⟨2, 2, 3⟩ (by kernel_rfl) (by decide) (by kernel_rfl)), loop_if (R (0 + 1) ⟨5, 4, 6⟩ (by kernel_rfl) (by decide) (by kernel_rfl)), loop_if (R (0 + 1 + 1) ⟨1, 5, 7⟩ (by kernel_rfl) (by decide) (by kernel_rfl)),
    loop_if (R (0 + 1 + 1 + 1) ⟨2, 5, 7⟩ (by kernel_rfl) (by decide) (by kernel_rfl)), loop_if (R (0 + 1 + 1 + 1 + 1) ⟨3, 5, 8⟩ (by kernel_rfl) (by decide) (by kernel_rfl)), loop_if (R (0 + 1 + 1 + 1 + 1 + 1) ⟨4, 5, 8⟩ (by kernel_rfl) (by decide) (by kernel_rfl)),
    loop_if (R (0 + 1 + 1 + 1 + 1 + 1 + 1) ⟨5, 5, 8⟩ (by kernel_rfl) (by decide) (by kernel_rfl)), loop_if (R (0 + 1 + 1 + 1 + 1 + 1 + 1 + 1) ⟨7, 6, 10⟩ (by kernel_rfl) (by decide) (by kernel_rfl)), loop_if (R (0 + 1 + 1 + 1 + 1 + 1 + 1 + 1 + 1) ⟨8, 6, 9⟩ (by kernel_rfl) (by decide) (by kernel_rfl)),
    loop_if (R (0 + 1 + 1 + 1 + 1 + 1 + 1 + 1 + 1 + 1) ⟨9, 7, 10⟩ (by kernel_rfl) (by decide) (by kernel_rfl)), loop_inr (v := 0) (x := 0 + 1 + 1 + 1 + 1 + 1 + 1 + 1 + 1 + 1 + 1) (by kernel_rfl)]
/-- After and its reference answer alike. -/
theorem after_eq (m : migrate_Migration) (e n : Int) (h : 1 ≤ m.phase ∧ m.phase ≤ 10) : ∃ p, migrate_Migration_after m e n = some p ∧ cellplaneref31_After m.phase e n = some p ∧ (p = 0 ∨ 1 ≤ p ∧ p ≤ 10) := by
  unfold migrate_Migration_after cellplaneref31_After cellplaneref31_progress
  rw [tab]
  generalize m.phase = p at h
  have hp : p = 1 ∨ p = 2 ∨ p = 3 ∨ p = 4 ∨ p = 5 ∨ p = 6 ∨ p = 7 ∨ p = 8 ∨ p = 9 ∨ p = 10 := by omega
  have he : e = 1 ∨ e = 2 ∨ e = 3 ∨ e = 4 ∨ e = 5 ∨ e = 6 ∨ e = 7 ∨ e = 8 ∨ ((¬ e = 1 ∧ ¬ e = 2 ∧ ¬ e = 3 ∧ ¬ e = 4 ∧ ¬ e = 5 ∧ ¬ e = 6 ∧ ¬ e = 7 ∧ ¬ e = 8) ∧ (¬ 2 = e ∧ ¬ 4 = e ∧ ¬ 5 = e ∧ ¬ 6 = e ∧ ¬ 7 = e)) := by omega
  rcases he with rfl | rfl | rfl | rfl | rfl | rfl | rfl | rfl | ⟨⟨e1, e2, e3, e4, e5, e6, e7, e8⟩, f2, f4, f5, f6, f7⟩
  case inr.inr.inr.inr.inr.inr.inr.inr => rcases hp with rfl | rfl | rfl | rfl | rfl | rfl | rfl | rfl | rfl | rfl <;> simp [e1, e2, e3, e4, e5, e6, e7, e8, f2, f4, f5, f6, f7]
  case inl =>
    by_cases a : 8 < n
    · have a1 : 0 ≤ n := by omega
      have a2 : 0 < n := by omega
      have a3 : ¬ n = 0 := by omega
      have a4 : ¬ n ≤ 8 := by omega
      have a5 : ¬ n < 0 := by omega
      rcases hp with rfl | rfl | rfl | rfl | rfl | rfl | rfl | rfl | rfl | rfl <;> simp [a, a1, a2, a3, a4, a5]
    · by_cases b : n < 0
      · have a1 : ¬ 0 ≤ n := by omega
        have a2 : ¬ 0 < n := by omega
        have a3 : ¬ n = 0 := by omega
        rcases hp with rfl | rfl | rfl | rfl | rfl | rfl | rfl | rfl | rfl | rfl <;> simp [a, a1, a2, a3, b]
      · have a1 : 0 ≤ n := by omega
        have a4 : n ≤ 8 := by omega
        by_cases a3 : n = 0
        · subst a3
          rcases hp with rfl | rfl | rfl | rfl | rfl | rfl | rfl | rfl | rfl | rfl <;> simp
        · have a2 : 0 < n := by omega
          rcases hp with rfl | rfl | rfl | rfl | rfl | rfl | rfl | rfl | rfl | rfl <;> simp [a, a1, a2, a3, a4, b]
  case inr.inr.inl => rcases hp with rfl | rfl | rfl | rfl | rfl | rfl | rfl | rfl | rfl | rfl <;> by_cases b : 0 ≤ n <;> by_cases d : n ≤ 1073741824 <;> simp [b, d]
  all_goals rcases hp with rfl | rfl | rfl | rfl | rfl | rfl | rfl | rfl | rfl | rfl <;> simp
theorem step_eq (m : migrate_Migration) (w : cellplaneref31_Migration) (e n : Int) (h : 1 ≤ m.phase ∧ m.phase ≤ 10) (h1 : w.Phase = m.phase) (h2 : w.Earliest = m.earliest) (h3 : w.Closed = m.closed) :
    ∃ b p t c, migrate_Migration_Step m e n = some (b, p, t, c) ∧ cellplaneref31_Migration_Step w e n = some (b, p, t, c) ∧ 1 ≤ p ∧ p ≤ 10 := by
  obtain ⟨p, hp, hq, hr⟩ := after_eq m e n h
  unfold migrate_Migration_Step cellplaneref31_Migration_Step
  rw [h1, h2, h3, hp, hq]
  simp only [Option.bind_some]
  by_cases h0 : p = 0
  · subst h0
    exact ⟨_, _, _, _, rfl, rfl, h⟩
  · have h4 : 1 ≤ p ∧ p ≤ 10 := by omega
    by_cases e2 : e = 2
    · subst e2; simp [h0, h4]
    · by_cases e3 : e = 3
      · subst e3; simp [h0, h4]
      · simp [h0, h4, e2, e3]
theorem task_eq (m : migrate_Migration) : ∃ t, migrate_Migration_Task m = some t ∧ cellplaneref31_Task m.phase = some t := by
  have : migrate_Migration_Task m = cellplaneref31_Task m.phase := rfl
  rw [this]
  unfold cellplaneref31_Task
  generalize m.phase = p
  by_cases p1 : p = 1 <;> by_cases p3 : p = 3 <;> by_cases p2 : p = 2 <;> by_cases p4 : p = 4 <;> by_cases p5 : p = 5 <;> by_cases p7 : p = 7 <;> by_cases p8 : p = 8 <;> by_cases p9 : p = 9 <;> simp [*]
theorem loop_ex {X R : Type} {b : X → Option (X ⊕ R)} {Post : R → Prop} (I : X → Prop) (m : X → Nat) (hI : ∀ x, I x → (∃ r, b x = some (.inr r) ∧ Post r) ∨ ∃ y, b x = some (.inl y) ∧ I y ∧ m y < m x) (x : X) (hx : I x) : ∃ r, loop b x = some r ∧ Post r := by
  refine loop_ind I m (fun x hx => ?_) x hx
  rcases hI x hx with ⟨r, h, hr⟩ | ⟨y, h, hy⟩
  · rw [h]; exact hr
  · rw [h]; exact hy
theorem mod_some (v : Int) {n : Int} (h : n ≠ 0) : ∃ y, cellplanemill_Mod v n = some y := by
  unfold cellplanemill_Mod
  rw [if_pos h]
  split <;> exact ⟨_, rfl⟩
theorem next_some (L : List Int) (at0 n : Int) (h : n ≠ 0) (h0 : 0 ≤ at0 ∧ at0 ≤ (L.length : Int)) (hl : L.length ≤ 150) : ∃ y a, cellplanemill_Tape_Next ⟨L, at0⟩ n = some (y, a) ∧ 0 ≤ a ∧ a ≤ (L.length : Int) := by
  unfold cellplanemill_Tape_Next
  simp only
  by_cases hd : (L.length : Int) ≤ at0
  · rw [if_pos (by simpa using hd)]; exact ⟨_, _, rfl, h0⟩
  · rw [if_neg (by simpa using hd), w64_in (n := at0 + 1) (by omega), w64_in (n := at0 + 1 - 1) (by omega), show at0 + 1 - 1 = at0 by omega]
    obtain ⟨x, hx⟩ := idx_lt (xs := L) (i := at0) h0.1 (by omega)
    obtain ⟨y, hy⟩ := mod_some x h
    rw [hx, Option.bind_some, hy]
    exact ⟨y, at0 + 1, rfl, by omega, by omega⟩
theorem range_some (L : List Int) (at0 lo hi : Int) (h : w64 (w64 (hi - lo) + 1) ≠ 0) (h0 : 0 ≤ at0 ∧ at0 ≤ (L.length : Int)) (hl : L.length ≤ 150) : ∃ y a, cellplanemill_Tape_Range ⟨L, at0⟩ lo hi = some (y, a) ∧ 0 ≤ a ∧ a ≤ (L.length : Int) := by
  obtain ⟨y, a, h1, h2⟩ := next_some L at0 _ h h0 hl
  unfold cellplanemill_Tape_Range
  rw [h1]
  exact ⟨_, _, rfl, h2⟩
theorem tp (l : List Int) (a : Int) : ({ (cellplanemill_New l) with At := a } : cellplanemill_Tape) = ⟨l, a⟩ := rfl
theorem more_eq (l : List Int) (a : Int) : cellplanemill_Tape_More ⟨l, a⟩ = decide (a < (l.length : Int)) := rfl
theorem made_some (l : List Int) (hl : l.length ≤ 150) : ∃ xs, cellplanelaw31_made l = some xs ∧ xs.length ≤ 60 := by
  unfold cellplanelaw31_made
  refine loop_ex (b := cellplanelaw31_made.b1 l) (Post := fun xs => xs.length ≤ 60) (fun x => x.1.length ≤ 60 ∧ 0 ≤ x.2 ∧ x.2 ≤ (l.length : Int)) (fun x => 60 - x.1.length) ?_ _ ⟨by simp, by simp [cellplanemill_New], by simp [cellplanemill_New]⟩
  rintro ⟨xs, a⟩ ⟨hx, ha⟩
  simp only at hx ha
  unfold cellplanelaw31_made.b1
  simp only [tp, more_eq]
  by_cases hm : a < (l.length : Int)
  · simp only [decide_eq_true hm, if_true, Option.bind_some]
    by_cases hn : (xs.length : Int) < 60
    · right
      simp only [decide_eq_true hn, if_true]
      obtain ⟨y1, a1, h1, k1⟩ := range_some l a 1 8 (by decide +kernel) ha hl
      rw [h1]; simp only [Option.bind_some]
      obtain ⟨y2, a2, h2, k2⟩ := next_some l a1 12 (by decide) k1 hl
      rw [h2]; simp only [Option.bind_some]
      obtain ⟨y3, a3, h3, k3⟩ := next_some l a2 3 (by decide) k2 hl
      rw [h3]; simp only [Option.bind_some]
      have hA : ∃ b a4, (if decide (0 < y3) = true then some (decide (5 ≤ y1), a3) else some (false, a3)) = some (b, a4) ∧ 0 ≤ a4 ∧ a4 ≤ (l.length : Int) := by
        split <;> exact ⟨_, _, rfl, k3⟩
      obtain ⟨b, a4, h4, k4⟩ := hA
      rw [h4]; simp only [Option.bind_some]
      have hB : ∃ a5 kd, (if b = true then (cellplanemill_Tape_Range ⟨l, a4⟩ 1 4).bind fun x => some (x.2, x.1) else some (a4, y1)) = some (a5, kd) ∧ 0 ≤ a5 ∧ a5 ≤ (l.length : Int) := by
        split
        · obtain ⟨y, a, h, k⟩ := range_some l a4 1 4 (by decide +kernel) k4 hl
          rw [h]; exact ⟨_, _, rfl, k⟩
        · exact ⟨_, _, rfl, k4⟩
      obtain ⟨a5, kd, h5, k5⟩ := hB
      rw [h5]; simp only [Option.bind_some]
      obtain ⟨y6, a6, h6, k6⟩ := next_some l a5 2 (by decide) k5 hl
      rw [h6]; simp only [Option.bind_some]
      have hC : ∃ a7 n, (if decide (y6 = 0) = true then some (a6, (0 : Int)) else some (a6, y2)) = some (a7, n) ∧ 0 ≤ a7 ∧ a7 ≤ (l.length : Int) := by
        split <;> exact ⟨_, _, rfl, k6⟩
      obtain ⟨a7, n, h7, k7⟩ := hC
      rw [h7]; simp only [Option.bind_some]
      have hD : app xs [(⟨kd, n⟩ : cellplanelaw31_Event)] = some (xs ++ [⟨kd, n⟩]) := by
        unfold app; rw [if_pos (by simp only [List.length_cons, List.length_nil]; omega)]
      rw [hD]
      exact ⟨_, rfl, ⟨by simp; omega, k7⟩, by simp; omega⟩
    · left
      simp only [decide_eq_false hn, Bool.false_eq_true, if_false]
      exact ⟨_, rfl, hx⟩
  · left
    simp only [decide_eq_false hm, Option.bind_some, Bool.false_eq_true, if_false]
    exact ⟨_, rfl, hx⟩
theorem law_MigrateSteps (who : Arr4_Int) (l : List Int) (raw : List cellplanelaw31_Event) : cellplanelaw31_MigrateSteps who l raw = some true := by
  unfold cellplanelaw31_MigrateSteps
  rw [aw]
  simp only [Option.bind_some, Bool.not_true, Bool.false_eq_true, if_false]
  by_cases hg : ((!(cellplanemill_Light l)) || (decide (60 < (raw.length : Int)))) = true
  · rw [if_pos hg]
  · rw [if_neg hg]
    simp only [cellplanemill_Light, Bool.or_eq_true, Bool.not_eq_true', decide_eq_false_iff_not, decide_eq_true_eq, not_or, Decidable.not_not] at hg
    obtain ⟨xs, h1, hx⟩ := made_some l (by omega)
    rw [h1, Option.bind_some]
    have hA : app [(⟨0, 0⟩ : cellplanelaw31_Event)] xs = some ([⟨0, 0⟩] ++ xs) := by
      unfold app; rw [if_pos (by simp only [List.length_cons, List.length_nil]; omega)]
    rw [hA, Option.bind_some]
    generalize hz : [(⟨0, 0⟩ : cellplanelaw31_Event)] ++ xs = ys
    have hy : ys.length ≤ 61 := by rw [← hz]; simp; omega
    have hB : app ys raw = some (ys ++ raw) := by
      unfold app; rw [if_pos (by omega)]
    rw [hB, Option.bind_some]
    generalize hz2 : ys ++ raw = zs
    have hy : zs.length ≤ 121 := by rw [← hz2]; simp; omega
    obtain ⟨r, hr, rfl⟩ := loop_ex (b := cellplanelaw31_MigrateSteps.b2 who zs) (Post := fun r => r = true)
      (fun x => (0 ≤ x.1 ∧ x.1 ≤ (zs.length : Int)) ∧ (1 ≤ x.2.1.phase ∧ x.2.1.phase ≤ 10) ∧ x.2.2.Phase = x.2.1.phase ∧ x.2.2.Earliest = x.2.1.earliest ∧ x.2.2.Closed = x.2.1.closed ∧ x.2.1.tenant = who.a0 ∧ x.2.1.from_ = who.a1 ∧ x.2.1.to = who.a2)
      (fun x => 121 - x.1.toNat) (by
        rintro ⟨i, m, w⟩ ⟨hi, hp, e1, e2, e3, e4, e5, e6⟩
        simp only at hi hp e1 e2 e3 e4 e5 e6
        unfold cellplanelaw31_MigrateSteps.b2
        simp only
        by_cases hd : i < (zs.length : Int)
        · right
          rw [if_pos (by simpa using hd)]
          obtain ⟨x, hx⟩ := idx_lt (xs := zs) hi.1 hd
          rw [hx]; simp only [Option.bind_some]
          obtain ⟨b, p, t, c, s1, s2, hp'⟩ := step_eq m w x.Kind x.N hp e1 e2 e3
          rw [s1]; simp only [Option.bind_some]
          rw [s2]; simp only [Option.bind_some]
          obtain ⟨k, t1, t2⟩ := task_eq { m with phase := p, earliest := t, closed := c }
          simp only [beq_self_eq_true, Bool.not_true, Bool.false_eq_true, if_false, migrate_Migration_Phase, decide_true, t1, Option.bind_some, migrate_Migration_Closed, migrate_Migration_Earliest]
          simp only at t2
          rw [t2]
          simp only [Option.bind_some, decide_true, Bool.not_true, Bool.false_eq_true, if_false]
          rw [w64_in (n := i + 1) (by omega)]
          exact ⟨_, rfl, ⟨by simp only; omega, hp', rfl, rfl, rfl, e4, e5, e6⟩, by simp only; omega⟩
        · left
          rw [if_neg (by simpa using hd)]
          refine ⟨true, ?_, rfl⟩
          unfold cellplanelaw31_MigrateSteps.j1
          simp [migrate_Migration_Tenant, migrate_Migration_From, migrate_Migration_To, e4, e5, e6])
      (0, migrate_New who.a0 who.a1 who.a2 who.a3, cellplaneref31_New who.a0 who.a1 who.a2 who.a3) ⟨by simp, by simp [migrate_New], rfl, rfl, rfl, rfl, rfl, rfl⟩
    exact hr
end Go.Proofs.YtjhdppioeehahaaK
