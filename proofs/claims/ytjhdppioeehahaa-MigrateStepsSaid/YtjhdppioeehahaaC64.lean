/- The code of cellplanemill_Tape_More computes what it is to. No condition. -/
import Derived.Test.YtjhdppioeehahaaE
set_option linter.unusedVariables false
set_option maxHeartbeats 4000000
namespace Go.Proofs.YtjhdppioeehahaaK
open Go Go.RowKit
theorem hc_64 {ρ : Addr → Option Value} {L : List Ent} {bt0 : Nat} {g_t0 : gcellplanemill_Tape} {S_t0 : St} (hS_t0 : Le ⟨ρ,L⟩ S_t0) (t0 : cellplanemill_Tape) (h_t0 : Sl_cellplanemill_Tape S_t0 t0 g_t0)  : HC Try.prog 64 #[.pointer (some ⟨bt0,0,none⟩)] ⟨ρ,.obj bt0 (en_cellplanemill_Tape t0 g_t0) 149 :: L⟩ (fun v S' => v = .bool (cellplanemill_Tape_More t0) ∧ S' = ⟨ρ,.obj bt0 (en_cellplanemill_Tape t0 g_t0) 149 :: L⟩) := by
 generalize h : cellplanemill_Tape_More t0 = r
 unfold cellplanemill_Tape_More at h
 refine HC.intro (N := 13) (args := [_]) tt_ok Try.func64 rfl (by decide +kernel) rfl (Nat.le_of_ble_eq_true rfl) ?_
 refine r_bind ?_
 refine r_done ?_
 refine r_bind ?_
 refine r_mix tt_ok hm_ok _ _ [] (.pure 0 (.pure 1 (.pure 2 (.vb 3 (.pure 4 (.pure 5 (.pure 6 (.vb 7 (.pure 8 (.pure 9 (.pure 10 .nil))))))))))) (le_w [true]) (le_w [true]) ?_ ?_
 ·decide +kernel
 refine x_p rfl ?_
 refine v_done ?_
 refine x_p rfl ?_
 refine v_done ?_
 refine x_p rfl ?_
 refine v_done ?_
 refine x_vb rfl ?_
 refine v_ld 0 tt_ok (v := .int .i64 t0.At) ts_3 rfl (by kernel_rfl) ?_
 refine v_done ?_
 refine x_p rfl ?_
 refine v_done ?_
 refine x_p rfl ?_
 refine v_done ?_
 refine x_p rfl ?_
 refine v_done ?_
 refine x_vb rfl ?_
 refine v_ld 0 tt_ok (v := .slice g_t0.L.1 t0.L.length g_t0.L.2) ts_22 rfl (by kernel_rfl) ?_
 refine v_done ?_
 refine x_kp [(2,.bool false),(6,.int .i64 t0.At),(10,.slice g_t0.L.1 t0.L.length g_t0.L.2)] (by kernel_rfl) fun fr => ?_
 refine x_p rfl ?_
 refine v_done ?_
 refine x_p rfl ?_
 refine v_done ?_
 refine x_p rfl ?_
 refine v_done ?_
 refine x_k [(2,.bool (decide (t0.At < (t0.L.length : Int))))] (by kernel_rfl) fun fr => ?_
 refine r_done ?_
 repeat refine r_done ?_
 repeat refine r_done ?_
 subst h
 exact ret_of (RV.tmp RV.nil) (Le.refl _) ⟨rfl,rfl⟩
end Go.Proofs.YtjhdppioeehahaaK
