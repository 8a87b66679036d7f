/- The code of cellplaneref31_table computes what it is to. No condition. -/
import Derived.Test.YtjhdppioeehahaaE
set_option linter.unusedVariables false
set_option maxHeartbeats 4000000
namespace Go.Proofs.YtjhdppioeehahaaK
open Go Go.RowKit
theorem hc_69 {ρ : Addr → Option Value} {L : List Ent}      : HC Try.prog 69 #[] ⟨ρ,L⟩ (fun v S' => ∃ (Aq1_0 : Option Addr),∃ (cq1_0 : Nat),v = .slice Aq1_0 cellplaneref31_table.length cq1_0 ∧ S' = ⟨ρ,.row Aq1_0 cellplaneref31_table.length cq1_0 103 3 (fl ecellplaneref31_row.en cellplaneref31_table) :: L⟩) := by
 generalize h : cellplaneref31_table = r
 unfold cellplaneref31_table at h
 refine HC.intro (N := 12) (args := []) tt_ok Try.func69 rfl (by decide +kernel) rfl (Nat.le_of_ble_eq_true rfl) ?_
 refine r_bind ?_
 refine r_done ?_
 refine r_bind ?_
 refine r_bd tt_ok (en_cellplaneref31_row (⟨2,2,3⟩ : cellplaneref31_row)) ti_103 tp_103 (by kernel_rfl) ?_
 refine r_bd tt_ok (en_cellplaneref31_row (⟨5,4,6⟩ : cellplaneref31_row)) ti_103 tp_103 (by kernel_rfl) ?_
 refine r_bd tt_ok (en_cellplaneref31_row (⟨1,5,7⟩ : cellplaneref31_row)) ti_103 tp_103 (by kernel_rfl) ?_
 refine r_bd tt_ok (en_cellplaneref31_row (⟨2,5,7⟩ : cellplaneref31_row)) ti_103 tp_103 (by kernel_rfl) ?_
 refine r_bd tt_ok (en_cellplaneref31_row (⟨3,5,8⟩ : cellplaneref31_row)) ti_103 tp_103 (by kernel_rfl) ?_
 refine r_bd tt_ok (en_cellplaneref31_row (⟨4,5,8⟩ : cellplaneref31_row)) ti_103 tp_103 (by kernel_rfl) ?_
 refine r_bd tt_ok (en_cellplaneref31_row (⟨5,5,8⟩ : cellplaneref31_row)) ti_103 tp_103 (by kernel_rfl) ?_
 refine r_bd tt_ok (en_cellplaneref31_row (⟨7,6,10⟩ : cellplaneref31_row)) ti_103 tp_103 (by kernel_rfl) ?_
 refine r_kp [(0,.slice none 0 0),(1,.agg (en_cellplaneref31_row (⟨2,2,3⟩ : cellplaneref31_row)).toArray),(2,.agg (en_cellplaneref31_row (⟨5,4,6⟩ : cellplaneref31_row)).toArray),(3,.agg (en_cellplaneref31_row (⟨1,5,7⟩ : cellplaneref31_row)).toArray),(4,.agg (en_cellplaneref31_row (⟨2,5,7⟩ : cellplaneref31_row)).toArray),(5,.agg (en_cellplaneref31_row (⟨3,5,8⟩ : cellplaneref31_row)).toArray),(6,.agg (en_cellplaneref31_row (⟨4,5,8⟩ : cellplaneref31_row)).toArray),(7,.agg (en_cellplaneref31_row (⟨5,5,8⟩ : cellplaneref31_row)).toArray),(8,.agg (en_cellplaneref31_row (⟨7,6,10⟩ : cellplaneref31_row)).toArray)] (by kernel_rfl) fun fr => ?_
 refine r_bd tt_ok (en_cellplaneref31_row (⟨8,6,9⟩ : cellplaneref31_row)) ti_103 tp_103 (by kernel_rfl) ?_
 refine r_bd tt_ok (en_cellplaneref31_row (⟨9,7,10⟩ : cellplaneref31_row)) ti_103 tp_103 (by kernel_rfl) ?_
 refine r_bs tt_ok (fl ecellplaneref31_row.en [(⟨2,2,3⟩ : cellplaneref31_row),(⟨5,4,6⟩ : cellplaneref31_row),(⟨1,5,7⟩ : cellplaneref31_row),(⟨2,5,7⟩ : cellplaneref31_row),(⟨3,5,8⟩ : cellplaneref31_row),(⟨4,5,8⟩ : cellplaneref31_row),(⟨5,5,8⟩ : cellplaneref31_row),(⟨7,6,10⟩ : cellplaneref31_row),(⟨8,6,9⟩ : cellplaneref31_row),(⟨9,7,10⟩ : cellplaneref31_row)]) te_100 ti_103 (by kernel_rfl) (by kernel_rfl) (by kernel_rfl) (by kernel_rfl) fun bq1 => ?_
 refine r_done ?_
 repeat refine r_done ?_
 repeat refine r_done ?_
 subst h
 exact ret_of (RV.tmp RV.nil) (Le.refl _) ⟨(some ⟨bq1,0,none⟩),10,rfl,rfl⟩
end Go.Proofs.YtjhdppioeehahaaK
