/- The code of cellplaneref31_progress computes what it is to. No condition. -/
import Derived.Test.YtjhdppioeehahaaE
set_option linter.unusedVariables false
set_option maxHeartbeats 4000000
namespace Go.Proofs.YtjhdppioeehahaaK
open Go Go.RowKit
theorem hc_68 {ρ : Addr → Option Value} {L : List Ent}   (phase0 : Int) (n1 : Int)   : HC Try.prog 68 #[.int .i64 phase0,.int .i64 n1] ⟨ρ,L⟩ (fun v S' => v = .int .i64 (cellplaneref31_progress phase0 n1) ∧ S' = ⟨ρ,L⟩) := by
 generalize h : cellplaneref31_progress phase0 n1 = r
 unfold cellplaneref31_progress at h
 refine HC.intro (N := 27) (args := [_,_]) tt_ok Try.func68 rfl (by decide +kernel) rfl (Nat.le_of_ble_eq_true rfl) ?_
 refine r_bind ?_
 refine r_done ?_
 refine r_bind ?_
 refine r_bind ?_
 refine r_bind ?_
 refine r_done ?_
 refine r_ite (fun hb1 => ?_) (fun hb1 => ?_)
 ·replace h := t_t h hb1
  clear hb1
  refine r_bind ?_
  refine r_done ?_
  repeat refine r_done ?_
  repeat refine r_done ?_
  subst h
  exact ret_of (RV.tmp RV.nil) (Le.refl _) ⟨rfl,rfl⟩
 ·replace h := t_f h hb1
  clear hb1
  refine r_bind ?_
  refine r_meet (fun fr S => ∃ fr0,fr = updL [(0,.int .i64 phase0),(1,.int .i64 n1),(8,.bool ((decide (phase0 = 1)) || (decide (phase0 = 2))))] fr0 ∧ S = ⟨ρ,L⟩) ?_ ?_
  ·refine r_ite (fun (hb2 : (decide (phase0 = 1)) = true) => ?_) (fun (hb2 : (decide (phase0 = 1)) = false) => ?_)
   ·refine r_kp [(0,.int .i64 phase0),(1,.int .i64 n1),(11,.bool true),(12,undef)] (by kernel_rfl) fun fr => ?_
    refine r_T rfl ?_
    refine r_T rfl ?_
    exact r_done ⟨_,fr_eq _ (by (try rw [hb2]); kernel_rfl),(by kernel_rfl)⟩
   ·refine r_kp [(0,.int .i64 phase0),(1,.int .i64 n1),(11,.bool false),(12,.int .i64 phase0)] (by kernel_rfl) fun fr => ?_
    refine r_F rfl ?_
    exact r_done ⟨_,fr_eq _ (by (try rw [hb2]); kernel_rfl),(by kernel_rfl)⟩
  rintro fr S ⟨fr,rfl,rfl⟩
  refine r_done ?_
  refine r_ite (fun hb3 => ?_) (fun hb3 => ?_)
  ·replace h := t_t h hb3
   clear hb3
   refine r_bind ?_
   refine r_bind ?_
   refine r_done ?_
   refine r_ite (fun hb4 => ?_) (fun hb4 => ?_)
   ·replace h := t_t h hb4
    clear hb4
    refine r_bind ?_
    refine r_done ?_
    repeat refine r_done ?_
    repeat refine r_done ?_
    subst h
    exact ret_of (RV.tmp RV.nil) (Le.refl _) ⟨rfl,rfl⟩
   ·replace h := t_f h hb4
    clear hb4
    refine r_done ?_
    refine r_bind ?_
    refine r_done ?_
    repeat refine r_done ?_
    repeat refine r_done ?_
    subst h
    exact ret_of (RV.tmp RV.nil) (Le.refl _) ⟨rfl,rfl⟩
  ·replace h := t_f h hb3
   clear hb3
   refine r_bind ?_
   refine r_meet (fun fr S => ∃ fr0,fr = updL [(0,.int .i64 phase0),(17,.bool ((decide (phase0 = 3)) && (decide (n1 = 0))))] fr0 ∧ S = ⟨ρ,L⟩) ?_ ?_
   ·refine r_ite (fun (hb5 : (decide (phase0 = 3)) = true) => ?_) (fun (hb5 : (decide (phase0 = 3)) = false) => ?_)
    ·refine r_T rfl ?_
     refine r_kp [(0,.int .i64 phase0),(20,.bool true),(22,.bool (decide (n1 = 0)))] (by kernel_rfl) fun fr => ?_
     exact r_done ⟨_,fr_eq _ (by (try rw [hb5]); kernel_rfl),(by kernel_rfl)⟩
    ·refine r_F rfl ?_
     refine r_kp [(0,.int .i64 phase0),(20,.bool false),(22,undef)] (by kernel_rfl) fun fr => ?_
     refine r_F rfl ?_
     exact r_done ⟨_,fr_eq _ (by (try rw [hb5]); kernel_rfl),(by kernel_rfl)⟩
   rintro fr S ⟨fr,rfl,rfl⟩
   refine r_done ?_
   refine r_ite (fun hb6 => ?_) (fun hb6 => ?_)
   ·replace h := t_t h hb6
    clear hb6
    refine r_bind ?_
    refine r_done ?_
    repeat refine r_done ?_
    repeat refine r_done ?_
    subst h
    exact ret_of (RV.tmp RV.nil) (Le.refl _) ⟨rfl,rfl⟩
   ·replace h := t_f h hb6
    clear hb6
    refine r_bind ?_
    refine r_done ?_
    refine r_ite (fun hb7 => ?_) (fun hb7 => ?_)
    ·replace h := t_t h hb7
     clear hb7
     refine r_bind ?_
     refine r_done ?_
     repeat refine r_done ?_
     repeat refine r_done ?_
     subst h
     exact ret_of (RV.tmp RV.nil) (Le.refl _) ⟨rfl,rfl⟩
    ·replace h := t_f h hb7
     clear hb7
     refine r_done ?_
     refine r_done ?_
     refine r_bind ?_
     refine r_done ?_
     repeat refine r_done ?_
     repeat refine r_done ?_
     subst h
     exact ret_of (RV.tmp RV.nil) (Le.refl _) ⟨rfl,rfl⟩
end Go.Proofs.YtjhdppioeehahaaK
