/- The code of 1 functions computes what it is to. No condition. -/
import Derived.Test.YtcdoangbkgaapaaG5
set_option linter.unusedVariables false
set_option maxHeartbeats 4000000
namespace Go.Proofs.YtcdoangbkgaapaaK
open Go Go.RowKit
theorem hc_5 {ρ : Addr → Option Value} {L : List Ent} {A_l0 : Option Addr} {c_l0 : Nat} {A_more1 : Option Addr} {c_more1 : Nat} {S_l0 : St} (hS_l0 : Le ⟨ρ,L⟩ S_l0) {S_more1 : St} (hS_more1 : Le ⟨ρ,L⟩ S_more1) (l0 : (List Int)) (more1 : (List Int)) (h_l0 : Sl S_l0 A_l0 l0.length c_l0 (fl eI64.en l0)) (h_more1 : Sl S_more1 A_more1 more1.length c_more1 (fl eI64.en more1)) {r : Bool} (h : cellplanelaw12_StateVersions l0 more1 = some r) : HC Try.prog 5 #[.slice A_l0 l0.length c_l0,.slice A_more1 more1.length c_more1] ⟨ρ,L⟩ (fun v S' => v = .bool r ∧ S' = ⟨ρ,L⟩) := by
 replace h := h_in h
 refine HC.intro (N := 20) (args := [_,_]) tt_ok Try.func5 rfl (by decide +kernel) rfl (Nat.le_of_ble_eq_true rfl) ?_
 refine r_bind ?_
 refine r_done ?_
 refine r_bind ?_
 refine r_bind ?_
 refine r_meet (fun fr S => ∃ fr0,fr = updL [(0,.slice A_l0 l0.length c_l0),(1,.slice A_more1 more1.length c_more1),(12,.bool ((!(cellplanemake_Light l0)) || (!(cellplanemake_Light more1))))] fr0 ∧ S = ⟨ρ,L⟩) ?_ ?_
 ·refine r_call (hc_9 (A_l0 := A_l0) (c_l0 := c_l0) (l0 := l0) (hS_l0 := by exact (le_d 0).trans hS_l0) (h_l0 := by exact h_l0)) ?_
  rintro _ _ ⟨rfl,rfl⟩
  refine r_ite (fun (hb1 : (!(cellplanemake_Light l0)) = true) => ?_) (fun (hb1 : (!(cellplanemake_Light l0)) = false) => ?_)
  ·refine r_kp [(0,.slice A_l0 l0.length c_l0),(1,.slice A_more1 more1.length c_more1),(8,.bool true),(9,undef)] (by kernel_rfl) fun fr => ?_
   refine r_T rfl ?_
   refine r_T rfl ?_
   refine r_T rfl ?_
   exact r_done ⟨_,fr_eq _ (by (try rw [hb1]); kernel_rfl),(by kernel_rfl)⟩
  ·refine r_kp [(0,.slice A_l0 l0.length c_l0),(1,.slice A_more1 more1.length c_more1),(8,.bool false),(9,.slice A_more1 more1.length c_more1)] (by kernel_rfl) fun fr => ?_
   refine r_F rfl ?_
   refine r_call (hc_9 (A_l0 := A_more1) (c_l0 := c_more1) (l0 := more1) (hS_l0 := by exact (le_d 0).trans hS_more1) (h_l0 := by exact h_more1)) ?_
   rintro _ _ ⟨rfl,rfl⟩
   refine r_F rfl ?_
   exact r_done ⟨_,fr_eq _ (by (try rw [hb1]); kernel_rfl),(by kernel_rfl)⟩
 rintro fr S ⟨fr,rfl,rfl⟩
 refine r_done ?_
 refine r_ite (fun hb2 => ?_) (fun hb2 => ?_)
 ·replace h := h_t h hb2
  clear hb2
  refine r_bind ?_
  replace h := h_b h; obtain ⟨x4,hx3,h⟩ := h
  refine r_call (hc_10  (h := hx3)) ?_
  rintro _ _ ⟨rfl,rfl⟩
  refine r_done ?_
  repeat refine r_done ?_
  repeat refine r_done ?_
  obtain rfl := h_out h
  exact ret_of (RV.tmp RV.nil) (Le.refl _) ⟨rfl,rfl⟩
 ·replace h := h_f h hb2
  clear hb2
  refine r_done ?_
  refine r_bind ?_
  replace h := h_j h; obtain ⟨K11,h,hK12⟩ := h
  refine r_meet (fun fr S => ∃ (x10 : Bool),∃ fr0,K11 x10 = some r ∧ fr = updL [(4,.bool x10)] fr0 ∧ S = ⟨ρ,L⟩) ?_ ?_
  ·replace h := h_b h; obtain ⟨x6,hx5,h⟩ := h
   refine r_call (hc_10  (h := hx5)) ?_
   rintro _ _ ⟨rfl,rfl⟩
   refine r_ite (fun (hb7 : x6 = true) => ?_) (fun (hb7 : x6 = false) => ?_)
   ·replace h := h_t h hb7
    clear hb7
    refine r_kp [(1,.slice A_more1 more1.length c_more1),(15,.bool true),(16,.slice A_l0 l0.length c_l0)] (by kernel_rfl) fun fr => ?_
    refine r_T rfl ?_
    refine r_T rfl ?_
    replace h := h_b h; obtain ⟨x9,hx8,h⟩ := h
    refine r_call (hc_15 (A_l0 := A_l0) (c_l0 := c_l0) (l0 := l0) (A_more1 := A_more1) (c_more1 := c_more1) (more1 := more1) (rule2 := 1) (hS_l0 := by exact (le_d 0).trans hS_l0) (h_l0 := by exact h_l0) (hS_more1 := by exact (le_d 0).trans hS_more1) (h_more1 := by exact h_more1) (h := hx8)) ?_
    rintro _ _ ⟨rfl,rfl⟩
    exact r_done ⟨x9,_,h,fr_eq _ (by kernel_rfl),(by kernel_rfl)⟩
   ·replace h := h_f h hb7
    clear hb7
    refine r_kp [(1,.slice A_more1 more1.length c_more1),(15,.bool false),(16,undef)] (by kernel_rfl) fun fr => ?_
    refine r_F rfl ?_
    refine r_F rfl ?_
    refine r_F rfl ?_
    exact r_done ⟨false,_,h,fr_eq _ (by kernel_rfl),(by kernel_rfl)⟩
  clear h
  rintro fr S ⟨x10,fr,h,rfl,rfl⟩
  replace h := hK12 _ h
  refine r_done ?_
  repeat refine r_done ?_
  repeat refine r_done ?_
  obtain rfl := h_out h
  exact ret_of (RV.tmp RV.nil) (Le.refl _) ⟨rfl,rfl⟩
end Go.Proofs.YtcdoangbkgaapaaK
