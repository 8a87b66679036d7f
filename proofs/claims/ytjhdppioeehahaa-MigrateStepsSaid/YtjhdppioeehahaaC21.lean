/- The code of migrate_Migration_Task computes what it is to. No condition. -/
import Derived.Test.YtjhdppioeehahaaE
set_option linter.unusedVariables false
set_option maxHeartbeats 4000000
namespace Go.Proofs.YtjhdppioeehahaaK
open Go Go.RowKit
theorem hc_21 {ρ : Addr → Option Value} {L : List Ent} {bm0 : Nat}  (m0 : migrate_Migration)  {r : Int} (h : migrate_Migration_Task m0 = some r) : HC Try.prog 21 #[.pointer (some ⟨bm0,0,none⟩)] ⟨ρ,.obj bm0 (en_migrate_Migration m0) 97 :: L⟩ (fun v S' => v = .int .i64 r ∧ S' = ⟨ρ,.obj bm0 (en_migrate_Migration m0) 97 :: L⟩) := by
 replace h := h_in h
 refine HC.intro (N := 21) (args := [_]) tt_ok Try.func21 rfl (by decide +kernel) rfl (Nat.le_of_ble_eq_true rfl) ?_
 refine r_bind ?_
 refine r_done ?_
 refine r_bind ?_
 refine r_bind ?_
 refine r_ld 0 tt_ok (v := .int .i64 m0.phase) ts_3 rfl (by kernel_rfl) ?_
 refine r_done ?_
 refine r_bind ?_
 refine r_bind ?_
 replace h := h_j h; obtain ⟨K3,h,hK4⟩ := h
 refine r_meet (fun fr S => ∃ (x2 : Bool),∃ fr0,K3 x2 = some r ∧ fr = updL [(6,.int .i64 m0.phase),(7,.bool x2)] fr0 ∧ S = ⟨ρ,.obj bm0 (en_migrate_Migration m0) 97 :: L⟩) ?_ ?_
 ·refine r_bind ?_
  refine r_keep [(6,.int .i64 m0.phase),(7,.bool (decide (m0.phase = 1)))] (by kernel_rfl) fun fr => ?_
  refine r_done ?_
  refine r_ite (fun hb1 => ?_) (fun hb1 => ?_)
  ·replace h := h_t h hb1
   clear hb1
   exact r_done ⟨true,_,h,fr_eq _ (by kernel_rfl),(by kernel_rfl)⟩
  ·replace h := h_f h hb1
   clear hb1
   exact r_done ⟨decide (m0.phase = 3),_,h,fr_eq _ (by kernel_rfl),(by kernel_rfl)⟩
 clear h
 rintro fr S ⟨x2,fr,h,rfl,rfl⟩
 replace h := hK4 _ h
 refine r_done ?_
 refine r_ite (fun hb5 => ?_) (fun hb5 => ?_)
 ·replace h := h_t h hb5
  clear hb5
  refine r_bind ?_
  refine r_done ?_
  repeat refine r_done ?_
  repeat refine r_done ?_
  obtain rfl := h_out h
  exact ret_of (RV.tmp RV.nil) (Le.refl _) ⟨rfl,rfl⟩
 ·replace h := h_f h hb5
  clear hb5
  refine r_bind ?_
  refine r_done ?_
  refine r_ite (fun hb6 => ?_) (fun hb6 => ?_)
  ·replace h := h_t h hb6
   clear hb6
   refine r_bind ?_
   refine r_done ?_
   repeat refine r_done ?_
   repeat refine r_done ?_
   obtain rfl := h_out h
   exact ret_of (RV.tmp RV.nil) (Le.refl _) ⟨rfl,rfl⟩
  ·replace h := h_f h hb6
   clear hb6
   refine r_bind ?_
   refine r_done ?_
   refine r_ite (fun hb7 => ?_) (fun hb7 => ?_)
   ·replace h := h_t h hb7
    clear hb7
    refine r_bind ?_
    refine r_done ?_
    repeat refine r_done ?_
    repeat refine r_done ?_
    obtain rfl := h_out h
    exact ret_of (RV.tmp RV.nil) (Le.refl _) ⟨rfl,rfl⟩
   ·replace h := h_f h hb7
    clear hb7
    refine r_bind ?_
    refine r_done ?_
    refine r_ite (fun hb8 => ?_) (fun hb8 => ?_)
    ·replace h := h_t h hb8
     clear hb8
     refine r_bind ?_
     refine r_done ?_
     repeat refine r_done ?_
     repeat refine r_done ?_
     obtain rfl := h_out h
     exact ret_of (RV.tmp RV.nil) (Le.refl _) ⟨rfl,rfl⟩
    ·replace h := h_f h hb8
     clear hb8
     refine r_bind ?_
     replace h := h_j h; obtain ⟨K11,h,hK12⟩ := h
     refine r_meet (fun fr S => ∃ (x10 : Bool),∃ fr0,K11 x10 = some r ∧ fr = updL [(6,.int .i64 m0.phase),(16,.bool x10)] fr0 ∧ S = ⟨ρ,.obj bm0 (en_migrate_Migration m0) 97 :: L⟩) ?_ ?_
     ·refine r_bind ?_
      refine r_keep [(6,.int .i64 m0.phase),(16,.bool (decide (m0.phase = 7)))] (by kernel_rfl) fun fr => ?_
      refine r_done ?_
      refine r_ite (fun hb9 => ?_) (fun hb9 => ?_)
      ·replace h := h_t h hb9
       clear hb9
       exact r_done ⟨true,_,h,fr_eq _ (by kernel_rfl),(by kernel_rfl)⟩
      ·replace h := h_f h hb9
       clear hb9
       exact r_done ⟨decide (m0.phase = 8),_,h,fr_eq _ (by kernel_rfl),(by kernel_rfl)⟩
     clear h
     rintro fr S ⟨x10,fr,h,rfl,rfl⟩
     replace h := hK12 _ h
     refine r_done ?_
     refine r_ite (fun hb13 => ?_) (fun hb13 => ?_)
     ·replace h := h_t h hb13
      clear hb13
      refine r_bind ?_
      refine r_done ?_
      repeat refine r_done ?_
      repeat refine r_done ?_
      obtain rfl := h_out h
      exact ret_of (RV.tmp RV.nil) (Le.refl _) ⟨rfl,rfl⟩
     ·replace h := h_f h hb13
      clear hb13
      refine r_bind ?_
      refine r_done ?_
      refine r_ite (fun hb14 => ?_) (fun hb14 => ?_)
      ·replace h := h_t h hb14
       clear hb14
       refine r_bind ?_
       refine r_done ?_
       repeat refine r_done ?_
       repeat refine r_done ?_
       obtain rfl := h_out h
       exact ret_of (RV.tmp RV.nil) (Le.refl _) ⟨rfl,rfl⟩
      ·replace h := h_f h hb14
       clear hb14
       refine r_done ?_
       refine r_done ?_
       refine r_bind ?_
       refine r_done ?_
       repeat refine r_done ?_
       repeat refine r_done ?_
       obtain rfl := h_out h
       exact ret_of (RV.tmp RV.nil) (Le.refl _) ⟨rfl,rfl⟩
end Go.Proofs.YtjhdppioeehahaaK
