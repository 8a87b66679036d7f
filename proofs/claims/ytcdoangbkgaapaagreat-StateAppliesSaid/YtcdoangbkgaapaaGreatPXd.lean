/- The program's Apply and the reference's are the same,for a state that was reached. No condition. -/
import Derived.Test.YtcdoangbkgaapaaGreatPXc
set_option linter.unusedVariables false
set_option linter.unusedSectionVars false
set_option linter.unusedSimpArgs false
set_option maxHeartbeats 4000000
namespace Go.Proofs.YtcdoangbkgaapaaGreatK
open Go
attribute [local irreducible] loop runN
theorem r_copied_eq {s : State} (h1 : s.Tenants.length ≤ 1000000) (h2 : s.Cells.length ≤ 1000000) : cellplaneref12_Copied s = some s := by
  unfold cellplaneref12_Copied app
  rw [if_pos (by simp; omega),if_pos (by simp; omega)]
  rfl
section
variable {c : Config} {s : State} {e : Entry} (hc : Good c) (hw : WX c s) (he : EV c e)
include hc hw he
theorem r_kinds (hcnt : s.Count < 4096) (htick : s.Tick ≤ e.Tick) (hv : entry_Valid c e = some true) : cellplaneref12_Apply c s e = (state_fold_apply ⟨c,s,e⟩).map (fin s e) := by
  have h1 := hc.tn
  have h2 := hc.cn
  have h3 := hw.wf.tn
  have h4 := hw.wf.cn
  have h5 := hw.wf.cnt
  have hkd := he.kind
  have W : w64 (s.Count + 1) = s.Count + 1 := w64_s (by omega)
  unfold cellplaneref12_Apply
  rw [valid_eq hc,hv,r_copied_eq (by omega) (by omega)]
  simp only [Option.bind_some,Bool.not_true,Bool.false_eq_true,if_false,W]
  rw [if_neg (by simpa using hcnt),if_neg (by simpa using htick)]
  unfold state_fold_apply
  dsimp only
  simp only [bind_pair]
  have K : e.Kind = 1 ∨ e.Kind = 2 ∨ e.Kind = 3 ∨ e.Kind = 4 ∨ e.Kind = 5 ∨ e.Kind = 6 ∨ e.Kind = 7 ∨ e.Kind = 8 ∨ e.Kind = 9 ∨ e.Kind = 10 ∨ e.Kind = 11 ∨ e.Kind = 12 ∨ e.Kind = 13 ∨ e.Kind = 14 ∨ e.Kind = 15 ∨ e.Kind = 16 := by omega
  rcases K with k | k | k | k | k | k | k | k | k | k | k | k | k | k | k | k
  · have := x_place hc hw he k
    simp only [k,Int.reduceEq,decide_true,decide_false,Bool.false_eq_true,if_true,if_false]
    exact this
  · have := x_grant hc hw he k
    simp only [k,Int.reduceEq,decide_true,decide_false,Bool.false_eq_true,if_true,if_false]
    exact this
  · have := x_cut hc hw he k
    simp only [k,Int.reduceEq,decide_true,decide_false,Bool.false_eq_true,if_true,if_false]
    exact this
  · have := x_standby hc hw he k
    simp only [k,Int.reduceEq,decide_true,decide_false,Bool.false_eq_true,if_true,if_false]
    exact this
  · have := x_ready hc hw he k
    simp only [k,Int.reduceEq,decide_true,decide_false,Bool.false_eq_true,if_true,if_false]
    exact this
  · have := x_migrate hc hw he k
    simp only [k,Int.reduceEq,decide_true,decide_false,Bool.false_eq_true,if_true,if_false]
    exact this
  · have := x_abandon hc hw he k
    simp only [k,Int.reduceEq,decide_true,decide_false,Bool.false_eq_true,if_true,if_false]
    exact this
  · have := x_shed hc hw he k
    simp only [k,Int.reduceEq,decide_true,decide_false,Bool.false_eq_true,if_true,if_false]
    exact this
  · have := x_mode hc hw he k
    simp only [k,Int.reduceEq,decide_true,decide_false,Bool.false_eq_true,if_true,if_false]
    exact this
  · have := x_want hc hw he k
    simp only [k,Int.reduceEq,decide_true,decide_false,Bool.false_eq_true,if_true,if_false]
    exact this
  · have := x_runs hc hw he k
    simp only [k,Int.reduceEq,decide_true,decide_false,Bool.false_eq_true,if_true,if_false]
    exact this
  · have := x_prove hc hw he k
    simp only [k,Int.reduceEq,decide_true,decide_false,Bool.false_eq_true,if_true,if_false]
    exact this
  · have := x_evacuate hc hw he k
    simp only [k,Int.reduceEq,decide_true,decide_false,Bool.false_eq_true,if_true,if_false]
    exact this
  · have := x_expand hc hw he k
    simp only [k,Int.reduceEq,decide_true,decide_false,Bool.false_eq_true,if_true,if_false]
    exact this
  · simp only [k,Int.reduceEq,decide_true,decide_false,Bool.false_eq_true,if_true,if_false]
    unfold state_fold_contract
    dsimp only
    by_cases hh : s.High = s.Low <;> simp [hh,no_eq,fin_no,fin_ok]
  · simp only [k,Int.reduceEq,decide_true,decide_false,Bool.false_eq_true,if_true,if_false,Option.map_some,fin_ok]
theorem p_kinds (hcnt : s.Count < 4096) (htick : s.Tick ≤ e.Tick) (hv : entry_Valid c e = some true) : state_Apply c s e = (state_fold_apply ⟨c,s,e⟩).map (fin s e) := by
  have h1 := hc.tn
  have h2 := hc.cn
  have h3 := hw.wf.tn
  have h4 := hw.wf.cn
  have h5 := hw.wf.cnt
  have W : w64 (s.Count + 1) = s.Count + 1 := w64_s (by omega)
  unfold state_Apply
  rw [hv,copied_eq (s := s) (by omega) (by omega),h3,h4]
  simp only [Option.bind_some,Bool.not_true,Bool.false_eq_true,if_false,W,decide_true]
  rw [if_neg (by simpa using hcnt),if_neg (by simpa using htick)]
  have A : ∀ {α : Type} (xs : List α) (i : Int),(i = -1 ∨ 0 ≤ i ∧ i < (xs.length : Int)) → (if decide (0 ≤ i) = true then (idx xs i).bind fun _ => some () else some ()) = some () := fun xs i hi => by
    rcases hi with rfl | hi
    · rfl
    · obtain ⟨x,hx⟩ := idx_lt hi.1 hi.2
      rw [hx,if_pos (by simpa using hi.1)]
      rfl
  rw [A s.Tenants e.Tenant (by rw [h3]; exact he.ten),Option.bind_some,A s.Cells e.Cell (by rw [h4]; exact he.cel),Option.bind_some]
  exact bind_fin _
end
/-- The reference's Apply is the program's. -/
theorem apply_eq {c : Config} {s : State} (hc : Good c) (hw : WX c s) (e : Entry) : cellplaneref12_Apply c s e = state_Apply c s e := by
  have h3 := hw.wf.tn
  have h4 := hw.wf.cn
  obtain ⟨b,hb,ib⟩ := valid_tot hc e
  cases b with
  | false =>
    unfold cellplaneref12_Apply state_Apply
    rw [valid_eq hc,hb]
    rfl
  | true =>
    have he := ib rfl
    by_cases hcnt : s.Count < 4096
    · by_cases htick : s.Tick ≤ e.Tick
      · rw [r_kinds hc hw he hcnt htick hb,p_kinds hc hw he hcnt htick hb]
      · unfold cellplaneref12_Apply state_Apply
        rw [valid_eq hc,hb,h3,h4]
        have t1 : decide (4096 ≤ s.Count) = false := decide_eq_false (by omega)
        have t2 : decide (e.Tick < s.Tick) = true := decide_eq_true (by omega)
        simp only [Option.bind_some,Bool.not_true,Bool.false_eq_true,if_false,decide_true,t1,t2,if_true]
        rfl
    · unfold cellplaneref12_Apply state_Apply
      rw [valid_eq hc,hb,h3,h4]
      have t1 : decide (4096 ≤ s.Count) = true := decide_eq_true (by omega)
      simp only [Option.bind_some,Bool.not_true,Bool.false_eq_true,if_false,decide_true,t1,if_true]
      rfl
end Go.Proofs.YtcdoangbkgaapaaGreatK
