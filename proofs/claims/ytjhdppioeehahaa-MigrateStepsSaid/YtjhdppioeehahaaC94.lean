/- The code of cellplanemill_Mod computes what it is to. No condition. -/
import Derived.Test.YtjhdppioeehahaaE
set_option linter.unusedVariables false
set_option maxHeartbeats 4000000
namespace Go.Proofs.YtjhdppioeehahaaK
open Go Go.RowKit
theorem hc_94 {ρ : Addr → Option Value} {L : List Ent}   (v0 : Int) (n1 : Int)  {r : Int} (h : cellplanemill_Mod v0 n1 = some r) : HC Try.prog 94 #[.int .i64 v0,.int .i64 n1] ⟨ρ,L⟩ (fun v S' => v = .int .i64 r ∧ S' = ⟨ρ,L⟩) := by
 replace h := h_in h
 refine HC.intro (N := 15) (args := [_,_]) tt_ok Try.func94 rfl (by decide +kernel) rfl (Nat.le_of_ble_eq_true rfl) ?_
 refine r_bind ?_
 refine r_done ?_
 refine r_bind ?_
 replace h := h_p h; obtain ⟨hc1,h⟩ := h
 refine r_check hc1 ?_
 refine r_num (e' := Int.tmod v0 n1) rfl ?_
 refine r_done ?_
 refine r_bind ?_
 refine r_bind ?_
 refine r_done ?_
 refine r_ite (fun hb2 => ?_) (fun hb2 => ?_)
 ·replace h := h_t h hb2
  clear hb2
  refine r_num (e' := w64 ((Int.tmod v0 n1) + n1)) rfl ?_
  refine r_kp [(5,.int .i64 (Int.tmod v0 n1)),(13,.int .i64 (w64 ((Int.tmod v0 n1) + n1)))] (by kernel_rfl) fun fr => ?_
  refine r_done ?_
  refine r_bind ?_
  refine r_done ?_
  repeat refine r_done ?_
  repeat refine r_done ?_
  obtain rfl := h_out h
  exact ret_of (RV.tmp RV.nil) (Le.refl _) ⟨rfl,rfl⟩
 ·replace h := h_f h hb2
  clear hb2
  refine r_done ?_
  refine r_bind ?_
  refine r_keep [(4,.int .i64 (Int.tmod v0 n1))] (by kernel_rfl) fun fr => ?_
  refine r_done ?_
  repeat refine r_done ?_
  repeat refine r_done ?_
  obtain rfl := h_out h
  exact ret_of (RV.tmp RV.nil) (Le.refl _) ⟨rfl,rfl⟩
end Go.Proofs.YtjhdppioeehahaaK
