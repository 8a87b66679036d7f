/- The frame of the laws of layer 12. No condition. -/
import Derived.Test.YtcdoangbkgaapaaGreatPB
import Derived.Test.YtcdoangbkgaapaaGreatPaw
set_option linter.unusedVariables false
set_option maxHeartbeats 4000000
namespace Go.Proofs.YtcdoangbkgaapaaGreatK
open Go
theorem light_frame {l more : List Int} {X : Option Bool} (h : l.length ≤ 200 → more.length ≤ 200 → Tot X fun b => b = true) : Tot (if ((!(cellplanemake_Light l)) || (!(cellplanemake_Light more))) = true then (cellplanelaw12_awake).bind fun x4 => some x4 else X) fun b => b = true := by
  rw [aw12]
  refine Tot.ite (fun _ => Tot.pure rfl) fun hl => ?_
  simp only [cellplanemake_Light,Bool.or_eq_false_iff,Bool.not_eq_false',decide_eq_true_eq] at hl
  exact h (by omega) (by omega)
end Go.Proofs.YtcdoangbkgaapaaGreatK
