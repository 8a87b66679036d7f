/- The code of cellplanemill_Tape_Range computes what it is to. No condition. -/
import Derived.Test.YtjhdppioeehahaaE
import Derived.Test.YtjhdppioeehahaaC66
set_option linter.unusedVariables false
set_option maxHeartbeats 4000000
namespace Go.Proofs.YtjhdppioeehahaaK
open Go Go.RowKit
theorem hc_65 {ρ : Addr → Option Value} {L : List Ent} {bt0 : Nat} {g_t0 : gcellplanemill_Tape} {S_t0 : St} (hS_t0 : Le ⟨ρ,L⟩ S_t0) (t0 : cellplanemill_Tape) (low1 : Int) (high2 : Int) (h_t0 : Sl_cellplanemill_Tape S_t0 t0 g_t0) {r : (Int × Int)} (h : cellplanemill_Tape_Range t0 low1 high2 = some r) : HC Try.prog 65 #[.pointer (some ⟨bt0,0,none⟩),.int .i64 low1,.int .i64 high2] ⟨ρ,.obj bt0 (en_cellplanemill_Tape t0 g_t0) 149 :: L⟩ (fun v S' => v = .int .i64 r.1 ∧ S' = ⟨ρ,.obj bt0 (en_cellplanemill_Tape ({ t0 with At := r.2 }) g_t0) 149 :: L⟩) := by
 replace h := h_in h
 refine HC.intro (N := 15) (args := [_,_,_]) tt_ok Try.func65 rfl (by decide +kernel) rfl (Nat.le_of_ble_eq_true rfl) ?_
 refine r_bind ?_
 refine r_done ?_
 refine r_bind ?_
 refine r_num (e' := w64 (high2 - low1)) rfl ?_
 refine r_num (e' := w64 ((w64 (high2 - low1)) + 1)) rfl ?_
 replace h := h_b h; obtain ⟨⟨x2,x3⟩,hx1,h⟩ := h
 refine r_call (hc_66 (bt0 := bt0) (g_t0 := g_t0) (t0 := t0) (n1 := w64 ((w64 (high2 - low1)) + 1)) (hS_t0 := by exact (le_d 0).trans hS_t0) (h_t0 := by exact h_t0) (h := hx1)) ?_
 rintro _ _ ⟨rfl,rfl⟩
 refine r_num (e' := w64 (low1 + x2)) rfl ?_
 refine r_kp [(6,.int .i64 0),(14,.int .i64 (w64 (low1 + x2)))] (by kernel_rfl) fun fr => ?_
 refine r_done ?_
 repeat refine r_done ?_
 repeat refine r_done ?_
 obtain rfl := h_out h
 exact ret_of (RV.tmp RV.nil) (Le.refl _) ⟨rfl,rfl⟩
end Go.Proofs.YtjhdppioeehahaaK
