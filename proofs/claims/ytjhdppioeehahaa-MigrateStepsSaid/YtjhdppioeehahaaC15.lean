/- The code of cellplanemill_Light computes what it is to. No condition. -/
import Derived.Test.YtjhdppioeehahaaE
set_option linter.unusedVariables false
set_option maxHeartbeats 4000000
namespace Go.Proofs.YtjhdppioeehahaaK
open Go Go.RowKit
theorem hc_15 {ρ : Addr → Option Value} {L : List Ent} {A_l0 : Option Addr} {c_l0 : Nat} {S_l0 : St} (hS_l0 : Le ⟨ρ,L⟩ S_l0) (l0 : (List Int)) (h_l0 : Sl S_l0 A_l0 l0.length c_l0 (fl eI64.en l0))  : HC Try.prog 15 #[.slice A_l0 l0.length c_l0] ⟨ρ,L⟩ (fun v S' => v = .bool (cellplanemill_Light l0) ∧ S' = ⟨ρ,L⟩) := by
 generalize h : cellplanemill_Light l0 = r
 unfold cellplanemill_Light at h
 refine HC.intro (N := 6) (args := [_]) tt_ok Try.func15 rfl (by decide +kernel) rfl (Nat.le_of_ble_eq_true rfl) ?_
 refine r_bind ?_
 refine r_done ?_
 refine r_bind ?_
 refine r_done ?_
 repeat refine r_done ?_
 repeat refine r_done ?_
 subst h
 exact ret_of (RV.tmp RV.nil) (Le.refl _) ⟨rfl,rfl⟩
end Go.Proofs.YtjhdppioeehahaaK
