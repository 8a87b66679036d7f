/- The program's Same. No condition. -/
import Derived.Test.YtcdoangbkgaapaaGreatPSta
set_option linter.unusedVariables false
set_option linter.unusedSectionVars false
set_option linter.unusedSimpArgs false
set_option maxHeartbeats 4000000
namespace Go.Proofs.YtcdoangbkgaapaaGreatK
open Go
attribute [local irreducible] loop runN
theorem eq_ten (xs ys : List TenantState) (h : xs.length ≤ 1000000) : slices_Equal_api_TenantState_api_TenantState xs ys = some (decide (xs = ys)) := by
  unfold slices_Equal_api_TenantState_api_TenantState
  by_cases hl : xs.length = ys.length
  · rw [if_neg (by simp [hl]),same_loop (xs := xs) (ys := ys) (r1 := false) (r2 := true) h hl (fun i x y h0 h3 hx hy => by
      unfold slices_Equal_api_TenantState_api_TenantState.b1
      rw [if_pos (decide_eq_true h3),(tot_idxk hx h0).choose_spec.1,← (tot_idxk hx h0).choose_spec.2,Option.bind_some,(tot_idxk hy h0).choose_spec.1,← (tot_idxk hy h0).choose_spec.2,Option.bind_some]
      by_cases hxy : x = y <;> simp [hxy]) (fun i h => by
      unfold slices_Equal_api_TenantState_api_TenantState.b1
      rw [if_neg (by simpa using h)]
      rfl)]
    by_cases q : xs = ys <;> simp [q]
  · rw [if_pos (by simp; omega)]
    congr 1
    exact (decide_eq_false fun q => hl (by rw [q])).symm
theorem eq_cel (xs ys : List CellState) (h : xs.length ≤ 1000000) : slices_Equal_api_CellState_api_CellState xs ys = some (decide (xs = ys)) := by
  unfold slices_Equal_api_CellState_api_CellState
  by_cases hl : xs.length = ys.length
  · rw [if_neg (by simp [hl]),same_loop (xs := xs) (ys := ys) (r1 := false) (r2 := true) h hl (fun i x y h0 h3 hx hy => by
      unfold slices_Equal_api_CellState_api_CellState.b1
      rw [if_pos (decide_eq_true h3),(tot_idxk hx h0).choose_spec.1,← (tot_idxk hx h0).choose_spec.2,Option.bind_some,(tot_idxk hy h0).choose_spec.1,← (tot_idxk hy h0).choose_spec.2,Option.bind_some]
      by_cases hxy : x = y <;> simp [hxy]) (fun i h => by
      unfold slices_Equal_api_CellState_api_CellState.b1
      rw [if_neg (by simpa using h)]
      rfl)]
    by_cases q : xs = ys <;> simp [q]
  · rw [if_pos (by simp; omega)]
    congr 1
    exact (decide_eq_false fun q => hl (by rw [q])).symm
theorem p_same_eq {a b : State} (h1 : a.Tenants.length ≤ 1000000) (h2 : a.Cells.length ≤ 1000000) : state_Same a b = some (decide (a = b)) := by
  obtain ⟨ti,co,ts,cs,pr,ev,lo,hi⟩ := a
  obtain ⟨ti',co',ts',cs',pr',ev',lo',hi'⟩ := b
  simp only at h1 h2
  unfold state_Same
  simp only
  rw [eq_ten _ _ h1,eq_cel _ _ h2]
  by_cases q1 : ti = ti' <;> by_cases q2 : co = co' <;> by_cases q3 : pr = pr' <;> by_cases q4 : ev = ev' <;> by_cases q5 : lo = lo' <;> by_cases q6 : hi = hi' <;> by_cases q7 : ts = ts' <;> by_cases q8 : cs = cs' <;> simp [q1,q2,q3,q4,q5,q6,q7,q8]
end Go.Proofs.YtcdoangbkgaapaaGreatK
