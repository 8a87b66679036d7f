/- The code of cellplanemill_New computes what it is to. No condition. -/
import Derived.Test.YtjhdppioeehahaaE
set_option linter.unusedVariables false
set_option maxHeartbeats 4000000
namespace Go.Proofs.YtjhdppioeehahaaK
open Go Go.RowKit
theorem hc_63 {ρ : Addr → Option Value} {L : List Ent} {A_l0 : Option Addr} {c_l0 : Nat} {S_l0 : St} (hS_l0 : Le ⟨ρ,L⟩ S_l0) (l0 : (List Int)) (h_l0 : Sl S_l0 A_l0 l0.length c_l0 (fl eI64.en l0))  : HC Try.prog 63 #[.slice A_l0 l0.length c_l0] ⟨ρ,L⟩ (fun v S' => ∃ (bq1 : Nat),∃ (Aq1_0 : Option Addr),∃ (cq1_0 : Nat),v = .pointer (some ⟨bq1,0,none⟩) ∧ S' = ⟨ρ,.obj bq1 (en_cellplanemill_Tape (cellplanemill_New l0) (⟨(Aq1_0,cq1_0)⟩)) 149 :: L⟩ ∧ Sl S_l0 Aq1_0 ((cellplanemill_New l0).L).length cq1_0 (fl eI64.en ((cellplanemill_New l0).L))) := by
 generalize h : cellplanemill_New l0 = r
 unfold cellplanemill_New at h
 refine HC.intro (N := 6) (args := [_]) tt_ok Try.func63 rfl (by decide +kernel) rfl (Nat.le_of_ble_eq_true rfl) ?_
 refine r_bind ?_
 refine r_done ?_
 refine r_bind ?_
 refine r_bd tt_ok (en_cellplanemill_Tape (⟨l0,0⟩ : cellplanemill_Tape) (⟨(A_l0,c_l0)⟩)) ti_149 tp_149 (by kernel_rfl) ?_
 refine r_bx (en_cellplanemill_Tape (⟨l0,0⟩ : cellplanemill_Tape) (⟨(A_l0,c_l0)⟩)) (by kernel_rfl) fun bq1 => ?_
 refine r_done ?_
 repeat refine r_done ?_
 repeat refine r_done ?_
 subst h
 exact ret_of (RV.tmp RV.nil) (Le.refl _) ⟨bq1,A_l0,c_l0,rfl,rfl,h_l0⟩
end Go.Proofs.YtjhdppioeehahaaK
