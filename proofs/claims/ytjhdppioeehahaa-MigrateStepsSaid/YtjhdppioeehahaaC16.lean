/- The code of migrate_New computes what it is to. No condition. -/
import Derived.Test.YtjhdppioeehahaaE
set_option linter.unusedVariables false
set_option maxHeartbeats 4000000
namespace Go.Proofs.YtjhdppioeehahaaK
open Go Go.RowKit
theorem hc_16 {ρ : Addr → Option Value} {L : List Ent}   (tenant0 : Int) (from1 : Int) (to2 : Int) (epoch3 : Int)   : HC Try.prog 16 #[.int .i64 tenant0,.int .i64 from1,.int .i64 to2,.int .i64 epoch3] ⟨ρ,L⟩ (fun v S' => ∃ (bq1 : Nat),v = .pointer (some ⟨bq1,0,none⟩) ∧ S' = ⟨ρ,.obj bq1 (en_migrate_Migration (migrate_New tenant0 from1 to2 epoch3)) 97 :: L⟩) := by
 generalize h : migrate_New tenant0 from1 to2 epoch3 = r
 unfold migrate_New at h
 refine HC.intro (N := 15) (args := [_,_,_,_]) tt_ok Try.func16 rfl (by decide +kernel) rfl (Nat.le_of_ble_eq_true rfl) ?_
 refine r_bind ?_
 refine r_done ?_
 refine r_bind ?_
 refine r_bd tt_ok (en_migrate_Migration (⟨tenant0,from1,to2,epoch3,1,0,false⟩ : migrate_Migration)) ti_97 tp_97 (by kernel_rfl) ?_
 refine r_bx (en_migrate_Migration (⟨tenant0,from1,to2,epoch3,1,0,false⟩ : migrate_Migration)) (by kernel_rfl) fun bq1 => ?_
 refine r_done ?_
 repeat refine r_done ?_
 repeat refine r_done ?_
 subst h
 exact ret_of (RV.tmp RV.nil) (Le.refl _) ⟨bq1,rfl,rfl⟩
end Go.Proofs.YtjhdppioeehahaaK
