/- The code of cellplanemill_Tape_Next computes what it is to. No condition. -/
import Derived.Test.YtjhdppioeehahaaE
import Derived.Test.YtjhdppioeehahaaC94
set_option linter.unusedVariables false
set_option maxHeartbeats 4000000
namespace Go.Proofs.YtjhdppioeehahaaK
open Go Go.RowKit
theorem hc_66 {ρ : Addr → Option Value} {L : List Ent} {bt0 : Nat} {g_t0 : gcellplanemill_Tape} {S_t0 : St} (hS_t0 : Le ⟨ρ,L⟩ S_t0) (t0 : cellplanemill_Tape) (n1 : Int) (h_t0 : Sl_cellplanemill_Tape S_t0 t0 g_t0) {r : (Int × Int)} (h : cellplanemill_Tape_Next t0 n1 = some r) : HC Try.prog 66 #[.pointer (some ⟨bt0,0,none⟩),.int .i64 n1] ⟨ρ,.obj bt0 (en_cellplanemill_Tape t0 g_t0) 149 :: L⟩ (fun v S' => v = .int .i64 r.1 ∧ S' = ⟨ρ,.obj bt0 (en_cellplanemill_Tape ({ t0 with At := r.2 }) g_t0) 149 :: L⟩) := by
 replace h := h_in h
 refine HC.intro (N := 35) (args := [_,_]) tt_ok Try.func66 rfl (by decide +kernel) rfl (Nat.le_of_ble_eq_true rfl) ?_
 refine r_bind ?_
 refine r_done ?_
 refine r_bind ?_
 refine r_bind ?_
 refine r_mix tt_ok hm_ok _ _ [] (.pure 0 (.pure 1 (.pure 2 (.vb 3 (.pure 4 (.pure 5 (.pure 6 (.vb 7 (.pure 8 (.pure 9 .nil)))))))))) (le_w [true]) (le_w [true]) ?_ ?_
 ·decide +kernel
 refine x_p rfl ?_
 refine v_done ?_
 refine x_p rfl ?_
 refine v_done ?_
 refine x_p rfl ?_
 refine v_done ?_
 refine x_vb rfl ?_
 refine v_ld 0 tt_ok (v := .int .i64 t0.At) ts_3 rfl (by kernel_rfl) ?_
 refine v_done ?_
 refine x_p rfl ?_
 refine v_done ?_
 refine x_p rfl ?_
 refine v_done ?_
 refine x_p rfl ?_
 refine v_done ?_
 refine x_vb rfl ?_
 refine v_ld 0 tt_ok (v := .slice g_t0.L.1 t0.L.length g_t0.L.2) ts_22 rfl (by kernel_rfl) ?_
 refine v_done ?_
 refine x_kp [(0,.pointer (some ⟨bt0,0,none⟩)),(1,.int .i64 n1),(8,.int .i64 t0.At),(12,.slice g_t0.L.1 t0.L.length g_t0.L.2)] (by kernel_rfl) fun fr => ?_
 refine x_p rfl ?_
 refine v_done ?_
 refine x_p rfl ?_
 refine v_done ?_
 refine x_k [(0,.pointer (some ⟨bt0,0,none⟩)),(1,.int .i64 n1),(14,.bool (decide ((t0.L.length : Int) ≤ t0.At)))] (by kernel_rfl) fun fr => ?_
 refine r_done ?_
 refine r_ite (fun hb1 => ?_) (fun hb1 => ?_)
 ·replace h := h_t h hb1
  clear hb1
  refine r_bind ?_
  refine r_done ?_
  repeat refine r_done ?_
  repeat refine r_done ?_
  obtain rfl := h_out h
  exact ret_of (RV.tmp RV.nil) (Le.refl _) ⟨rfl,rfl⟩
 ·replace h := h_f h hb1
  clear hb1
  refine r_done ?_
  refine r_bind ?_
  refine r_ld 0 tt_ok (v := .int .i64 t0.At) ts_3 rfl (by kernel_rfl) ?_
  refine r_num (e' := w64 (t0.At + 1)) rfl ?_
  refine r_s 0 tt_ok (en_cellplanemill_Tape ({ t0 with At := w64 (t0.At + 1) }) g_t0) (fit1 ts_3 (by kernel_rfl)) rfl (by kernel_rfl) (by kernel_rfl) ?_
  refine r_done ?_
  refine r_bind ?_
  refine r_mix tt_ok hm_ok _ _ [] (.pure 0 (.pure 1 (.pure 2 (.vb 3 (.pure 4 (.pure 5 (.pure 6 (.vb 7 (.pure 8 (.vb 9 (.vb 10 (.pure 11 (.eff 12 (.pure 13 .nil)))))))))))))) (le_w [true]) (le_w [true]) ?_ ?_
  ·decide +kernel
  refine x_p rfl ?_
  refine v_done ?_
  refine x_kp [(0,.pointer (some ⟨bt0,0,none⟩)),(1,.int .i64 n1),(22,.pointer (some ⟨bt0,0,none⟩))] (by kernel_rfl) fun fr => ?_
  refine x_p rfl ?_
  refine v_done ?_
  refine x_p rfl ?_
  refine v_done ?_
  refine x_vb rfl ?_
  refine v_ld 0 tt_ok (v := .slice g_t0.L.1 t0.L.length g_t0.L.2) ts_22 rfl (by kernel_rfl) ?_
  refine v_done ?_
  refine x_p rfl ?_
  refine v_done ?_
  refine x_p rfl ?_
  refine v_done ?_
  refine x_p rfl ?_
  refine v_done ?_
  refine x_vb rfl ?_
  refine v_ld 0 tt_ok (v := .int .i64 (w64 (t0.At + 1))) ts_3 rfl (by kernel_rfl) ?_
  refine v_done ?_
  refine x_p rfl ?_
  refine v_num (e' := w64 ((w64 (t0.At + 1)) - 1)) rfl ?_
  refine v_done ?_
  refine x_vb rfl ?_
  replace h := h_b h; obtain ⟨x2,hx3,h⟩ := h
  refine v_el hx3 ((h_t0).rd.mono ((le_d 1).trans hS_t0)) ?_
  refine v_done ?_
  refine x_kp [(1,.int .i64 n1),(31,.pointer (some ((adr g_t0.L.1).add ((w64 ((w64 (t0.At + 1)) - 1)).toNat * 1))))] (by kernel_rfl) fun fr => ?_
  refine x_vb rfl ?_
  refine v_lec (E := eI64) tt_ok (v := .int .i64 x2) (idx_get hx3) ((h_t0).rd.mono ((le_d 1).trans hS_t0)) ts_3 rfl (pl0 _ _) (by kernel_rfl) ?_
  refine v_done ?_
  refine x_p rfl ?_
  refine v_done ?_
  refine x_e rfl ?_
  replace h := h_b h; obtain ⟨x5,hx4,h⟩ := h
  refine r_call (hc_94 (v0 := x2) (n1 := n1) (h := hx4)) ?_
  rintro _ _ ⟨rfl,rfl⟩
  refine r_done ⟨rfl,k_a (le_w [true]) (le_w [true]),?_⟩
  refine x_p rfl ?_
  refine v_done ?_
  refine x_k [(4,.int .i64 x5)] (by kernel_rfl) fun fr => ?_
  refine r_done ?_
  repeat refine r_done ?_
  repeat refine r_done ?_
  obtain rfl := h_out h
  exact ret_of (RV.tmp RV.nil) (Le.refl _) ⟨rfl,rfl⟩
end Go.Proofs.YtjhdppioeehahaaK
