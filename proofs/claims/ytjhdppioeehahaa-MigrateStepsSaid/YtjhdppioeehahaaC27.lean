/- The code of migrate_Migration_From computes what it is to. No condition. -/
import Derived.Test.YtjhdppioeehahaaE
set_option linter.unusedVariables false
set_option maxHeartbeats 4000000
namespace Go.Proofs.YtjhdppioeehahaaK
open Go Go.RowKit
theorem hc_27 {ρ : Addr → Option Value} {L : List Ent} {bm0 : Nat}  (m0 : migrate_Migration)   : HC Try.prog 27 #[.pointer (some ⟨bm0,0,none⟩)] ⟨ρ,.obj bm0 (en_migrate_Migration m0) 97 :: L⟩ (fun v S' => v = .int .i64 (migrate_Migration_From m0) ∧ S' = ⟨ρ,.obj bm0 (en_migrate_Migration m0) 97 :: L⟩) := by
 generalize h : migrate_Migration_From m0 = r
 unfold migrate_Migration_From at h
 refine HC.intro (N := 7) (args := [_]) tt_ok Try.func27 rfl (by decide +kernel) rfl (Nat.le_of_ble_eq_true rfl) ?_
 refine r_bind ?_
 refine r_done ?_
 refine r_bind ?_
 refine r_ld 0 tt_ok (v := .int .i64 m0.from_) ts_3 rfl (by kernel_rfl) ?_
 refine r_done ?_
 repeat refine r_done ?_
 repeat refine r_done ?_
 subst h
 exact ret_of (RV.tmp RV.nil) (Le.refl _) ⟨rfl,rfl⟩
end Go.Proofs.YtjhdppioeehahaaK
