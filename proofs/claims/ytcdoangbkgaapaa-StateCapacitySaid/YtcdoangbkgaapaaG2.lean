/- The code of 20 functions computes what it is to. No condition. -/
import Derived.Test.YtcdoangbkgaapaaG1
set_option linter.unusedVariables false
set_option maxHeartbeats 4000000
namespace Go.Proofs.YtcdoangbkgaapaaK
open Go Go.RowKit
theorem hc_47 {ρ : Addr → Option Value} {L : List Ent} {bf0 : Nat} {g_f0 : gstate_fold} {S_f0 : St} (hS_f0 : Le ⟨ρ,L⟩ S_f0) (f0 : state_fold) (h_f0 : Sl_state_fold S_f0 f0 g_f0) (h_f0_t : g_f0.t = fptr g_f0.s_Tenants.1 f0.e.Tenant 12) (h_f0_cell : g_f0.cell = fptr g_f0.s_Cells.1 f0.e.Cell 4) {r : (Int × State)} (h : state_fold_grant f0 = some r) : HC Try.prog 47 #[.pointer (some ⟨bf0,0,none⟩)] ⟨ρ,.row g_f0.s_Tenants.1 f0.s.Tenants.length g_f0.s_Tenants.2 50 12 (fl eTenantState.en f0.s.Tenants) :: .row g_f0.s_Cells.1 f0.s.Cells.length g_f0.s_Cells.2 67 4 (fl eCellState.en f0.s.Cells) :: .obj bf0 (en_state_fold f0 g_f0) 80 :: L⟩ (fun v S' => v = .int .i64 r.1 ∧ S' = ⟨ρ,.row g_f0.s_Tenants.1 r.2.Tenants.length g_f0.s_Tenants.2 50 12 (fl eTenantState.en r.2.Tenants) :: .row g_f0.s_Cells.1 r.2.Cells.length g_f0.s_Cells.2 67 4 (fl eCellState.en r.2.Cells) :: .obj bf0 (en_state_fold ({ f0 with s := r.2 }) g_f0) 80 :: L⟩) := by
 replace h := h_in h
 refine HC.intro (N := 275) (args := [_]) tt_ok Try.func47 rfl (by decide +kernel) rfl (Nat.le_of_ble_eq_true rfl) ?_
 refine r_bind ?_
 refine r_done ?_
 refine r_bind ?_
 refine r_mix tt_ok hm_ok _ _ [] (.pure 0 (.pure 1 (.pure 2 (.pure 3 (.vb 4 (.pure 5 (.pure 6 (.pure 7 (.pure 8 (.vb 9 (.pure 10 (.pure 11 (.pure 12 (.vb 13 (.pure 14 (.pure 15 (.vb 16 (.pure 17 (.pure 18 (.pure 19 .nil)))))))))))))))))))) (le_w [true,true,true]) (le_w [true,true,true]) ?_ ?_
 ·decide +kernel
 refine x_p rfl ?_
 refine v_done ?_
 refine x_p rfl ?_
 refine v_done ?_
 refine x_p rfl ?_
 refine v_done ?_
 refine x_p rfl ?_
 refine v_done ?_
 refine x_vb rfl ?_
 refine v_ld 2 tt_ok (v := .int .i64 f0.e.Cell) ts_3 rfl (by kernel_rfl) ?_
 refine v_done ?_
 refine x_p rfl ?_
 refine v_done ?_
 refine x_p rfl ?_
 refine v_done ?_
 refine x_p rfl ?_
 refine v_done ?_
 refine x_kp [(0,.pointer (some ⟨bf0,0,none⟩)),(9,.int .i64 f0.e.Cell),(12,.pointer (some ⟨bf0,18,none⟩))] (by kernel_rfl) fun fr => ?_
 refine x_p rfl ?_
 refine v_done ?_
 refine x_vb rfl ?_
 refine v_ld 2 tt_ok (v := .int .i64 f0.e.Cell) ts_3 rfl (by kernel_rfl) ?_
 refine v_done ?_
 refine x_p rfl ?_
 refine v_done ?_
 refine x_p rfl ?_
 refine v_done ?_
 refine x_p rfl ?_
 refine v_done ?_
 refine x_vb rfl ?_
 replace h := h_b h; obtain ⟨x1,hx2,h⟩ := h
 refine v_ld 2 tt_ok (v := .pointer (some ((adr g_f0.s_Tenants.1).add (f0.e.Tenant.toNat * 12)))) ts_77 rfl (by rw [← fptr_at h_f0_t hx2]; kernel_rfl) ?_
 refine v_done ?_
 refine x_p rfl ?_
 refine v_done ?_
 refine x_p rfl ?_
 refine v_done ?_
 refine x_vb rfl ?_
 refine v_lec (E := eTenantState) tt_ok (v := .int .i64 x1.Home) (idx_get hx2) (rd_row 0 rfl) ts_3 rfl (pl1 _ _ _) (by kernel_rfl) ?_
 refine v_done ?_
 refine x_kp [(0,.pointer (some ⟨bf0,0,none⟩)),(9,.int .i64 f0.e.Cell),(14,.int .i64 f0.e.Cell),(21,.int .i64 x1.Home)] (by kernel_rfl) fun fr => ?_
 refine x_p rfl ?_
 refine v_done ?_
 refine x_p rfl ?_
 refine v_done ?_
 refine x_p rfl ?_
 refine v_done ?_
 refine x_k [(0,.pointer (some ⟨bf0,0,none⟩)),(3,.int .i64 f0.e.Cell),(4,.bool (decide (f0.e.Cell = x1.Home)))] (by kernel_rfl) fun fr => ?_
 refine r_done ?_
 refine r_bind ?_
 refine r_bind ?_
 refine r_bind ?_
 refine r_meet (fun fr S => ∃ fr0,fr = updL [(0,.pointer (some ⟨bf0,0,none⟩)),(3,.int .i64 f0.e.Cell),(4,.bool (decide (f0.e.Cell = x1.Home))),(23,.bool ((!x1.Placed) || (x1.Shed && (!decide (f0.e.Cell = x1.Standby)))))] fr0 ∧ S = ⟨ρ,.row g_f0.s_Tenants.1 f0.s.Tenants.length g_f0.s_Tenants.2 50 12 (fl eTenantState.en f0.s.Tenants) :: .row g_f0.s_Cells.1 f0.s.Cells.length g_f0.s_Cells.2 67 4 (fl eCellState.en f0.s.Cells) :: .obj bf0 (en_state_fold f0 g_f0) 80 :: L⟩) ?_ ?_
 ·refine r_ld 2 tt_ok (v := .pointer (some ((adr g_f0.s_Tenants.1).add (f0.e.Tenant.toNat * 12)))) ts_77 rfl (by rw [← fptr_at h_f0_t hx2]; kernel_rfl) ?_
  refine r_kp [(0,.pointer (some ⟨bf0,0,none⟩)),(3,.int .i64 f0.e.Cell),(4,.bool (decide (f0.e.Cell = x1.Home))),(27,.pointer (some ((adr g_f0.s_Tenants.1).add (f0.e.Tenant.toNat * 12))))] (by kernel_rfl) fun fr => ?_
  refine r_lec (E := eTenantState) tt_ok (v := .bool x1.Placed) (idx_get hx2) (rd_row 0 rfl) ts_4 rfl (pl1 _ _ _) (by kernel_rfl) ?_
  refine r_ite (fun (hb3 : (!x1.Placed) = true) => ?_) (fun (hb3 : (!x1.Placed) = false) => ?_)
  ·refine r_T rfl ?_
   refine r_T rfl ?_
   refine r_T rfl ?_
   refine r_kp [(0,.pointer (some ⟨bf0,0,none⟩)),(3,.int .i64 f0.e.Cell),(4,.bool (decide (f0.e.Cell = x1.Home))),(32,.bool true),(36,undef)] (by kernel_rfl) fun fr => ?_
   refine r_T rfl ?_
   refine r_T rfl ?_
   refine r_T rfl ?_
   refine r_T rfl ?_
   refine r_T rfl ?_
   refine r_kp [(0,.pointer (some ⟨bf0,0,none⟩)),(3,.int .i64 f0.e.Cell),(4,.bool (decide (f0.e.Cell = x1.Home))),(32,.bool true),(50,undef)] (by kernel_rfl) fun fr => ?_
   refine r_T rfl ?_
   exact r_done ⟨_,fr_eq _ (by (try rw [hb3]); kernel_rfl),(by kernel_rfl)⟩
  ·refine r_F rfl ?_
   refine r_F rfl ?_
   refine r_F rfl ?_
   refine r_ld 2 tt_ok (v := .pointer (some ((adr g_f0.s_Tenants.1).add (f0.e.Tenant.toNat * 12)))) ts_77 rfl (by rw [← fptr_at h_f0_t hx2]; kernel_rfl) ?_
   refine r_kp [(0,.pointer (some ⟨bf0,0,none⟩)),(3,.int .i64 f0.e.Cell),(4,.bool (decide (f0.e.Cell = x1.Home))),(32,.bool false),(36,.pointer (some ((adr g_f0.s_Tenants.1).add (f0.e.Tenant.toNat * 12))))] (by kernel_rfl) fun fr => ?_
   refine r_F rfl ?_
   refine r_F rfl ?_
   refine r_F rfl ?_
   refine r_lec (E := eTenantState) tt_ok (v := .bool x1.Shed) (idx_get hx2) (rd_row 0 rfl) ts_4 rfl (pl1 _ _ _) (by kernel_rfl) ?_
   refine r_F rfl ?_
   refine r_ite (fun (hb4 : x1.Shed = true) => ?_) (fun (hb4 : x1.Shed = false) => ?_)
   ·refine r_T rfl ?_
    refine r_T rfl ?_
    refine r_T rfl ?_
    refine r_T rfl ?_
    refine r_ld 2 tt_ok (v := .pointer (some ((adr g_f0.s_Tenants.1).add (f0.e.Tenant.toNat * 12)))) ts_77 rfl (by rw [← fptr_at h_f0_t hx2]; kernel_rfl) ?_
    refine r_kp [(0,.pointer (some ⟨bf0,0,none⟩)),(3,.int .i64 f0.e.Cell),(4,.bool (decide (f0.e.Cell = x1.Home))),(32,.bool false),(40,.bool true),(41,.int .i64 f0.e.Cell),(45,.pointer (some ((adr g_f0.s_Tenants.1).add (f0.e.Tenant.toNat * 12))))] (by kernel_rfl) fun fr => ?_
    refine r_T rfl ?_
    refine r_T rfl ?_
    refine r_T rfl ?_
    refine r_lec (E := eTenantState) tt_ok (v := .int .i64 x1.Standby) (idx_get hx2) (rd_row 0 rfl) ts_3 rfl (pl1 _ _ _) (by kernel_rfl) ?_
    refine r_T rfl ?_
    refine r_F rfl ?_
    exact r_done ⟨_,fr_eq _ (by (try rw [hb4]); (try rw [hb3]); kernel_rfl),(by kernel_rfl)⟩
   ·refine r_F rfl ?_
    refine r_F rfl ?_
    refine r_F rfl ?_
    refine r_F rfl ?_
    refine r_kp [(0,.pointer (some ⟨bf0,0,none⟩)),(3,.int .i64 f0.e.Cell),(4,.bool (decide (f0.e.Cell = x1.Home))),(32,.bool false),(40,.bool false),(41,undef),(45,undef)] (by kernel_rfl) fun fr => ?_
    refine r_F rfl ?_
    refine r_F rfl ?_
    refine r_F rfl ?_
    refine r_F rfl ?_
    refine r_F rfl ?_
    refine r_F rfl ?_
    exact r_done ⟨_,fr_eq _ (by (try rw [hb4]); (try rw [hb3]); kernel_rfl),(by kernel_rfl)⟩
 rintro fr S ⟨fr,rfl,rfl⟩
 refine r_done ?_
 refine r_ite (fun hb5 => ?_) (fun hb5 => ?_)
 ·replace h := h_t h hb5
  clear hb5
  refine r_bind ?_
  refine r_done ?_
  repeat refine r_done ?_
  repeat refine r_done ?_
  obtain rfl := h_out h
  exact ret_of (RV.tmp RV.nil) (Le.refl _) ⟨rfl,rfl⟩
 ·replace h := h_f h hb5
  clear hb5
  refine r_bind ?_
  refine r_meet (fun fr S => ∃ fr0,fr = updL [(0,.pointer (some ⟨bf0,0,none⟩)),(3,.int .i64 f0.e.Cell),(4,.bool (decide (f0.e.Cell = x1.Home))),(52,.bool ((!(decide (f0.e.Cell = x1.Home))) && ((!decide (f0.e.Cell = x1.Standby)) && (!decide (f0.e.Cell = x1.Target)))))] fr0 ∧ S = ⟨ρ,.row g_f0.s_Tenants.1 f0.s.Tenants.length g_f0.s_Tenants.2 50 12 (fl eTenantState.en f0.s.Tenants) :: .row g_f0.s_Cells.1 f0.s.Cells.length g_f0.s_Cells.2 67 4 (fl eCellState.en f0.s.Cells) :: .obj bf0 (en_state_fold f0 g_f0) 80 :: L⟩) ?_ ?_
  ·refine r_ite (fun (hb6 : (!(decide (f0.e.Cell = x1.Home))) = true) => ?_) (fun (hb6 : (!(decide (f0.e.Cell = x1.Home))) = false) => ?_)
   ·refine r_T rfl ?_
    refine r_kp [(0,.pointer (some ⟨bf0,0,none⟩)),(3,.int .i64 f0.e.Cell),(4,.bool (decide (f0.e.Cell = x1.Home))),(55,.bool true),(56,.int .i64 f0.e.Cell),(57,.pointer (some ⟨bf0,0,none⟩))] (by kernel_rfl) fun fr => ?_
    refine r_T rfl ?_
    refine r_T rfl ?_
    refine r_T rfl ?_
    refine r_ld 2 tt_ok (v := .pointer (some ((adr g_f0.s_Tenants.1).add (f0.e.Tenant.toNat * 12)))) ts_77 rfl (by rw [← fptr_at h_f0_t hx2]; kernel_rfl) ?_
    refine r_T rfl ?_
    refine r_T rfl ?_
    refine r_T rfl ?_
    refine r_lec (E := eTenantState) tt_ok (v := .int .i64 x1.Standby) (idx_get hx2) (rd_row 0 rfl) ts_3 rfl (pl1 _ _ _) (by kernel_rfl) ?_
    refine r_T rfl ?_
    refine r_ite (fun (hb7 : (!decide (f0.e.Cell = x1.Standby)) = true) => ?_) (fun (hb7 : (!decide (f0.e.Cell = x1.Standby)) = false) => ?_)
    ·refine r_kp [(0,.pointer (some ⟨bf0,0,none⟩)),(3,.int .i64 f0.e.Cell),(4,.bool (decide (f0.e.Cell = x1.Home))),(66,.bool true),(67,.int .i64 f0.e.Cell)] (by kernel_rfl) fun fr => ?_
     refine r_T rfl ?_
     refine r_T rfl ?_
     refine r_T rfl ?_
     refine r_T rfl ?_
     refine r_ld 2 tt_ok (v := .pointer (some ((adr g_f0.s_Tenants.1).add (f0.e.Tenant.toNat * 12)))) ts_77 rfl (by rw [← fptr_at h_f0_t hx2]; kernel_rfl) ?_
     refine r_T rfl ?_
     refine r_T rfl ?_
     refine r_T rfl ?_
     refine r_lec (E := eTenantState) tt_ok (v := .int .i64 x1.Target) (idx_get hx2) (rd_row 0 rfl) ts_3 rfl (pl1 _ _ _) (by kernel_rfl) ?_
     refine r_T rfl ?_
     refine r_keep [(0,.pointer (some ⟨bf0,0,none⟩)),(3,.int .i64 f0.e.Cell),(4,.bool (decide (f0.e.Cell = x1.Home))),(52,.bool (!decide (f0.e.Cell = x1.Target)))] (by kernel_rfl) fun fr => ?_
     exact r_done ⟨_,fr_eq _ (by (try rw [hb7]); (try rw [hb6]); kernel_rfl),(by kernel_rfl)⟩
    ·refine r_kp [(0,.pointer (some ⟨bf0,0,none⟩)),(3,.int .i64 f0.e.Cell),(4,.bool (decide (f0.e.Cell = x1.Home))),(66,.bool false),(67,undef)] (by kernel_rfl) fun fr => ?_
     refine r_F rfl ?_
     refine r_F rfl ?_
     refine r_F rfl ?_
     refine r_F rfl ?_
     refine r_F rfl ?_
     refine r_F rfl ?_
     refine r_F rfl ?_
     refine r_F rfl ?_
     refine r_F rfl ?_
     refine r_kp [(0,.pointer (some ⟨bf0,0,none⟩)),(3,.int .i64 f0.e.Cell),(4,.bool (decide (f0.e.Cell = x1.Home))),(76,.bool false)] (by kernel_rfl) fun fr => ?_
     exact r_done ⟨_,fr_eq _ (by (try rw [hb7]); (try rw [hb6]); kernel_rfl),(by kernel_rfl)⟩
   ·refine r_F rfl ?_
    refine r_kp [(0,.pointer (some ⟨bf0,0,none⟩)),(3,.int .i64 f0.e.Cell),(4,.bool (decide (f0.e.Cell = x1.Home))),(55,.bool false),(56,undef),(57,undef)] (by kernel_rfl) fun fr => ?_
    refine r_F rfl ?_
    refine r_F rfl ?_
    refine r_F rfl ?_
    refine r_F rfl ?_
    refine r_F rfl ?_
    refine r_F rfl ?_
    refine r_F rfl ?_
    refine r_F rfl ?_
    refine r_F rfl ?_
    refine r_kp [(0,.pointer (some ⟨bf0,0,none⟩)),(3,.int .i64 f0.e.Cell),(4,.bool (decide (f0.e.Cell = x1.Home))),(66,.bool false),(67,undef)] (by kernel_rfl) fun fr => ?_
    refine r_F rfl ?_
    refine r_F rfl ?_
    refine r_F rfl ?_
    refine r_F rfl ?_
    refine r_F rfl ?_
    refine r_F rfl ?_
    refine r_F rfl ?_
    refine r_F rfl ?_
    refine r_F rfl ?_
    refine r_kp [(0,.pointer (some ⟨bf0,0,none⟩)),(3,.int .i64 f0.e.Cell),(4,.bool (decide (f0.e.Cell = x1.Home))),(76,.bool false)] (by kernel_rfl) fun fr => ?_
    exact r_done ⟨_,fr_eq _ (by (try rw [hb6]); kernel_rfl),(by kernel_rfl)⟩
  rintro fr S ⟨fr,rfl,rfl⟩
  refine r_done ?_
  refine r_ite (fun hb8 => ?_) (fun hb8 => ?_)
  ·replace h := h_t h hb8
   clear hb8
   refine r_bind ?_
   refine r_done ?_
   repeat refine r_done ?_
   repeat refine r_done ?_
   obtain rfl := h_out h
   exact ret_of (RV.tmp RV.nil) (Le.refl _) ⟨rfl,rfl⟩
  ·replace h := h_f h hb8
   clear hb8
   refine r_bind ?_
   replace h := h_j h; obtain ⟨K14,h,hK15⟩ := h
   refine r_meet (fun fr S => ∃ (x13 : Bool),∃ fr0,K14 x13 = some r ∧ fr = updL [(0,.pointer (some ⟨bf0,0,none⟩)),(3,.int .i64 f0.e.Cell),(4,.bool (decide (f0.e.Cell = x1.Home))),(77,.bool x13)] fr0 ∧ S = ⟨ρ,.row g_f0.s_Tenants.1 f0.s.Tenants.length g_f0.s_Tenants.2 50 12 (fl eTenantState.en f0.s.Tenants) :: .row g_f0.s_Cells.1 f0.s.Cells.length g_f0.s_Cells.2 67 4 (fl eCellState.en f0.s.Cells) :: .obj bf0 (en_state_fold f0 g_f0) 80 :: L⟩) ?_ ?_
   ·replace h := h_b h; obtain ⟨x9,hx10,h⟩ := h
    refine r_ld 2 tt_ok (v := .pointer (some ((adr g_f0.s_Cells.1).add (f0.e.Cell.toNat * 4)))) ts_78 rfl (by rw [← fptr_at h_f0_cell hx10]; kernel_rfl) ?_
    refine r_kp [(0,.pointer (some ⟨bf0,0,none⟩)),(3,.int .i64 f0.e.Cell),(4,.bool (decide (f0.e.Cell = x1.Home))),(81,.pointer (some ((adr g_f0.s_Cells.1).add (f0.e.Cell.toNat * 4))))] (by kernel_rfl) fun fr => ?_
    refine r_lec (E := eCellState) tt_ok (v := .int .i64 x9.Mode) (idx_get hx10) (rd_row 1 rfl) ts_3 rfl (pl1 _ _ _) (by kernel_rfl) ?_
    refine r_ite (fun (hb11 : (decide (x9.Mode = 3)) = true) => ?_) (fun (hb11 : (decide (x9.Mode = 3)) = false) => ?_)
    ·replace h := h_t h hb11
     clear hb11
     refine r_T rfl ?_
     refine r_T rfl ?_
     refine r_T rfl ?_
     refine r_kp [(0,.pointer (some ⟨bf0,0,none⟩)),(3,.int .i64 f0.e.Cell),(4,.bool (decide (f0.e.Cell = x1.Home))),(86,.bool true),(90,undef)] (by kernel_rfl) fun fr => ?_
     refine r_T rfl ?_
     refine r_T rfl ?_
     refine r_T rfl ?_
     refine r_T rfl ?_
     refine r_T rfl ?_
     refine r_T rfl ?_
     refine r_T rfl ?_
     refine r_kp [(0,.pointer (some ⟨bf0,0,none⟩)),(3,.int .i64 f0.e.Cell),(4,.bool (decide (f0.e.Cell = x1.Home))),(99,.bool true)] (by kernel_rfl) fun fr => ?_
     exact r_done ⟨true,_,h,fr_eq _ (by kernel_rfl),(by kernel_rfl)⟩
    ·replace h := h_f h hb11
     clear hb11
     refine r_F rfl ?_
     refine r_F rfl ?_
     refine r_F rfl ?_
     refine r_ld 2 tt_ok (v := .pointer (some ((adr g_f0.s_Cells.1).add (f0.e.Cell.toNat * 4)))) ts_78 rfl (by rw [← fptr_at h_f0_cell hx10]; kernel_rfl) ?_
     refine r_kp [(0,.pointer (some ⟨bf0,0,none⟩)),(3,.int .i64 f0.e.Cell),(4,.bool (decide (f0.e.Cell = x1.Home))),(86,.bool false),(90,.pointer (some ((adr g_f0.s_Cells.1).add (f0.e.Cell.toNat * 4))))] (by kernel_rfl) fun fr => ?_
     refine r_F rfl ?_
     refine r_F rfl ?_
     refine r_F rfl ?_
     refine r_lec (E := eCellState) tt_ok (v := .int .i64 x9.Mode) (idx_get hx10) (rd_row 1 rfl) ts_3 rfl (pl1 _ _ _) (by kernel_rfl) ?_
     refine r_F rfl ?_
     refine r_F rfl ?_
     refine r_ite (fun (hb12 : (decide (x9.Mode = 2)) = true) => ?_) (fun (hb12 : (decide (x9.Mode = 2)) = false) => ?_)
     ·replace h := h_t h hb12
      clear hb12
      refine r_T rfl ?_
      refine r_F rfl ?_
      refine r_keep [(0,.pointer (some ⟨bf0,0,none⟩)),(3,.int .i64 f0.e.Cell),(4,.bool (decide (f0.e.Cell = x1.Home))),(77,.bool (!(decide (f0.e.Cell = x1.Home))))] (by kernel_rfl) fun fr => ?_
      exact r_done ⟨!(decide (f0.e.Cell = x1.Home)),_,h,fr_eq _ (by kernel_rfl),(by kernel_rfl)⟩
     ·replace h := h_f h hb12
      clear hb12
      refine r_F rfl ?_
      refine r_F rfl ?_
      refine r_F rfl ?_
      refine r_keep [(0,.pointer (some ⟨bf0,0,none⟩)),(3,.int .i64 f0.e.Cell),(4,.bool (decide (f0.e.Cell = x1.Home))),(77,.bool false)] (by kernel_rfl) fun fr => ?_
      exact r_done ⟨false,_,h,fr_eq _ (by kernel_rfl),(by kernel_rfl)⟩
   clear h
   rintro fr S ⟨x13,fr,h,rfl,rfl⟩
   replace h := hK15 _ h
   refine r_done ?_
   refine r_ite (fun hb16 => ?_) (fun hb16 => ?_)
   ·replace h := h_t h hb16
    clear hb16
    refine r_bind ?_
    refine r_done ?_
    repeat refine r_done ?_
    repeat refine r_done ?_
    obtain rfl := h_out h
    exact ret_of (RV.tmp RV.nil) (Le.refl _) ⟨rfl,rfl⟩
   ·replace h := h_f h hb16
    clear hb16
    refine r_bind ?_
    replace h := h_j h; obtain ⟨K22,h,hK23⟩ := h
    refine r_meet (fun fr S => ∃ (x21 : Bool),∃ fr0,K22 x21 = some r ∧ fr = updL [(0,.pointer (some ⟨bf0,0,none⟩)),(3,.int .i64 f0.e.Cell),(4,.bool (decide (f0.e.Cell = x1.Home))),(100,.bool x21)] fr0 ∧ S = ⟨ρ,.row g_f0.s_Tenants.1 f0.s.Tenants.length g_f0.s_Tenants.2 50 12 (fl eTenantState.en f0.s.Tenants) :: .row g_f0.s_Cells.1 f0.s.Cells.length g_f0.s_Cells.2 67 4 (fl eCellState.en f0.s.Cells) :: .obj bf0 (en_state_fold f0 g_f0) 80 :: L⟩) ?_ ?_
    refine r_mix tt_ok hm_ok _ _ [] (.pure 0 (.pure 1 (.pure 2 (.pure 3 (.vb 4 (.pure 5 (.pure 6 (.pure 7 (.vb 8 (.pure 9 (.pure 10 (.vb 11 (.pure 12 (.pure 13 (.pure 14 (.pure 15 (.pure 16 (.pure 17 (.pure 18 (.pure 19 (.pure 20 (.vb 21 (.pure 22 (.pure 23 (.pure 24 (.vb 25 (.pure 26 (.pure 27 (.vb 28 (.pure 29 (.pure 30 (.pure 31 (.pure 32 (.pure 33 .nil)))))))))))))))))))))))))))))))))) (le_w [true,true,true]) (le_w [true,true,true]) ?_ ?_
    ·decide +kernel
    refine x_p rfl ?_
    refine v_done ?_
    refine x_p rfl ?_
    refine v_done ?_
    refine x_p rfl ?_
    refine v_done ?_
    refine x_p rfl ?_
    refine v_done ?_
    refine x_kp [(0,.pointer (some ⟨bf0,0,none⟩)),(3,.int .i64 f0.e.Cell),(4,.bool (decide (f0.e.Cell = x1.Home))),(104,.pointer (some ⟨bf0,23,none⟩))] (by kernel_rfl) fun fr => ?_
    refine x_vb rfl ?_
    refine v_ld 2 tt_ok (v := .int .i64 f0.e.Epoch) ts_3 rfl (by kernel_rfl) ?_
    refine v_done ?_
    refine x_p rfl ?_
    refine v_done ?_
    refine x_p rfl ?_
    refine v_done ?_
    refine x_p rfl ?_
    refine v_done ?_
    refine x_vb rfl ?_
    replace h := h_b h; obtain ⟨x17,hx18,h⟩ := h
    refine v_ld 2 tt_ok (v := .pointer (some ((adr g_f0.s_Tenants.1).add (f0.e.Tenant.toNat * 12)))) ts_77 rfl (by rw [← fptr_at h_f0_t hx18]; kernel_rfl) ?_
    refine v_done ?_
    refine x_p rfl ?_
    refine v_done ?_
    refine x_p rfl ?_
    refine v_done ?_
    refine x_vb rfl ?_
    refine v_lec (E := eTenantState) tt_ok (v := .int .i64 x17.Epoch) (idx_get hx18) (rd_row 0 rfl) ts_3 rfl (pl1 _ _ _) (by kernel_rfl) ?_
    refine v_done ?_
    refine x_p rfl ?_
    refine v_num (e' := w64 (x17.Epoch + 1)) rfl ?_
    refine v_done ?_
    refine x_kp [(0,.pointer (some ⟨bf0,0,none⟩)),(3,.int .i64 f0.e.Cell),(4,.bool (decide (f0.e.Cell = x1.Home))),(105,.int .i64 f0.e.Epoch),(113,.int .i64 (w64 (x17.Epoch + 1)))] (by kernel_rfl) fun fr => ?_
    refine x_p rfl ?_
    refine v_done ?_
    refine x_p rfl ?_
    refine v_done ?_
    refine x_p rfl ?_
    refine v_ite (fun (hb19 : (!decide (f0.e.Epoch = w64 (x17.Epoch + 1))) = true) => ?_) (fun (hb19 : (!decide (f0.e.Epoch = w64 (x17.Epoch + 1))) = false) => ?_)
    ·replace h := h_t h hb19
     clear hb19
     refine v_done ?_
     refine x_p rfl ?_
     refine v_T rfl ?_
     refine v_done ?_
     refine x_p rfl ?_
     refine v_ite (fun (hb20 : (decide (f0.e.Cell = x1.Home)) = true) => ?_) (fun (hb20 : (decide (f0.e.Cell = x1.Home)) = false) => ?_)
     ·replace h := h_t h hb20
      clear hb20
      refine v_done ?_
      refine x_p rfl ?_
      refine v_T rfl ?_
      refine v_done ?_
      refine x_p rfl ?_
      refine v_T rfl ?_
      refine v_done ?_
      refine x_p rfl ?_
      refine v_T rfl ?_
      refine v_done ?_
      refine x_vb rfl ?_
      refine v_T rfl ?_
      refine v_ld 2 tt_ok (v := .int .i64 f0.e.Epoch) ts_3 rfl (by kernel_rfl) ?_
      refine v_done ?_
      refine x_kp [(0,.pointer (some ⟨bf0,0,none⟩)),(3,.int .i64 f0.e.Cell),(4,.bool (decide (f0.e.Cell = x1.Home))),(115,.bool true),(117,.bool true),(122,.int .i64 f0.e.Epoch)] (by kernel_rfl) fun fr => ?_
      refine x_p rfl ?_
      refine v_T rfl ?_
      refine v_done ?_
      refine x_p rfl ?_
      refine v_T rfl ?_
      refine v_done ?_
      refine x_p rfl ?_
      refine v_T rfl ?_
      refine v_done ?_
      refine x_vb rfl ?_
      refine v_T rfl ?_
      refine v_ld 2 tt_ok (v := .pointer (some ((adr g_f0.s_Tenants.1).add (f0.e.Tenant.toNat * 12)))) ts_77 rfl (by rw [← fptr_at h_f0_t hx18]; kernel_rfl) ?_
      refine v_done ?_
      refine x_p rfl ?_
      refine v_T rfl ?_
      refine v_done ?_
      refine x_p rfl ?_
      refine v_T rfl ?_
      refine v_done ?_
      refine x_vb rfl ?_
      refine v_T rfl ?_
      refine v_lec (E := eTenantState) tt_ok (v := .int .i64 x17.Epoch) (idx_get hx18) (rd_row 0 rfl) ts_3 rfl (pl1 _ _ _) (by kernel_rfl) ?_
      refine v_done ?_
      refine x_p rfl ?_
      refine v_T rfl ?_
      refine v_done ?_
      refine x_p rfl ?_
      refine v_T rfl ?_
      refine v_done ?_
      refine x_kp [(0,.pointer (some ⟨bf0,0,none⟩)),(3,.int .i64 f0.e.Cell),(4,.bool (decide (f0.e.Cell = x1.Home))),(115,.bool true),(131,.bool (decide (f0.e.Epoch = x17.Epoch)))] (by kernel_rfl) fun fr => ?_
      refine x_p rfl ?_
      refine v_T rfl ?_
      refine v_done ?_
      refine x_p rfl ?_
      refine v_done ?_
      refine x_p rfl ?_
      refine v_done ?_
      refine x_k [(0,.pointer (some ⟨bf0,0,none⟩)),(3,.int .i64 f0.e.Cell),(4,.bool (decide (f0.e.Cell = x1.Home))),(100,.bool (!(decide (f0.e.Epoch = x17.Epoch))))] (by kernel_rfl) fun fr => ?_
      exact r_done ⟨!(decide (f0.e.Epoch = x17.Epoch)),_,h,fr_eq _ (by kernel_rfl),(by kernel_rfl)⟩
     ·replace h := h_f h hb20
      clear hb20
      refine v_done ?_
      refine x_p rfl ?_
      refine v_F rfl ?_
      refine v_done ?_
      refine x_p rfl ?_
      refine v_F rfl ?_
      refine v_done ?_
      refine x_p rfl ?_
      refine v_F rfl ?_
      refine v_done ?_
      refine x_vb rfl ?_
      refine v_F rfl ?_
      refine v_done ?_
      refine x_kp [(0,.pointer (some ⟨bf0,0,none⟩)),(3,.int .i64 f0.e.Cell),(4,.bool (decide (f0.e.Cell = x1.Home))),(115,.bool true),(117,.bool false),(122,undef)] (by kernel_rfl) fun fr => ?_
      refine x_p rfl ?_
      refine v_F rfl ?_
      refine v_done ?_
      refine x_p rfl ?_
      refine v_F rfl ?_
      refine v_done ?_
      refine x_p rfl ?_
      refine v_F rfl ?_
      refine v_done ?_
      refine x_vb rfl ?_
      refine v_F rfl ?_
      refine v_done ?_
      refine x_p rfl ?_
      refine v_F rfl ?_
      refine v_done ?_
      refine x_p rfl ?_
      refine v_F rfl ?_
      refine v_done ?_
      refine x_vb rfl ?_
      refine v_F rfl ?_
      refine v_done ?_
      refine x_p rfl ?_
      refine v_F rfl ?_
      refine v_done ?_
      refine x_p rfl ?_
      refine v_T rfl ?_
      refine v_F rfl ?_
      refine v_done ?_
      refine x_kp [(0,.pointer (some ⟨bf0,0,none⟩)),(3,.int .i64 f0.e.Cell),(4,.bool (decide (f0.e.Cell = x1.Home))),(115,.bool true),(131,.bool false)] (by kernel_rfl) fun fr => ?_
      refine x_p rfl ?_
      refine v_T rfl ?_
      refine v_done ?_
      refine x_p rfl ?_
      refine v_done ?_
      refine x_p rfl ?_
      refine v_done ?_
      refine x_k [(0,.pointer (some ⟨bf0,0,none⟩)),(3,.int .i64 f0.e.Cell),(4,.bool (decide (f0.e.Cell = x1.Home))),(100,.bool true)] (by kernel_rfl) fun fr => ?_
      exact r_done ⟨true,_,h,fr_eq _ (by kernel_rfl),(by kernel_rfl)⟩
    ·replace h := h_f h hb19
     clear hb19
     refine v_done ?_
     refine x_p rfl ?_
     refine v_F rfl ?_
     refine v_done ?_
     refine x_p rfl ?_
     refine v_done ?_
     refine x_p rfl ?_
     refine v_done ?_
     refine x_p rfl ?_
     refine v_done ?_
     refine x_p rfl ?_
     refine v_done ?_
     refine x_vb rfl ?_
     refine v_done ?_
     refine x_kp [(0,.pointer (some ⟨bf0,0,none⟩)),(3,.int .i64 f0.e.Cell),(4,.bool (decide (f0.e.Cell = x1.Home))),(115,.bool false),(117,undef),(122,undef)] (by kernel_rfl) fun fr => ?_
     refine x_p rfl ?_
     refine v_done ?_
     refine x_p rfl ?_
     refine v_done ?_
     refine x_p rfl ?_
     refine v_done ?_
     refine x_vb rfl ?_
     refine v_done ?_
     refine x_p rfl ?_
     refine v_done ?_
     refine x_p rfl ?_
     refine v_done ?_
     refine x_vb rfl ?_
     refine v_done ?_
     refine x_p rfl ?_
     refine v_done ?_
     refine x_p rfl ?_
     refine v_F rfl ?_
     refine v_done ?_
     refine x_kp [(0,.pointer (some ⟨bf0,0,none⟩)),(3,.int .i64 f0.e.Cell),(4,.bool (decide (f0.e.Cell = x1.Home))),(115,.bool false),(131,undef)] (by kernel_rfl) fun fr => ?_
     refine x_p rfl ?_
     refine v_F rfl ?_
     refine v_done ?_
     refine x_p rfl ?_
     refine v_F rfl ?_
     refine v_done ?_
     refine x_p rfl ?_
     refine v_done ?_
     refine x_k [(0,.pointer (some ⟨bf0,0,none⟩)),(3,.int .i64 f0.e.Cell),(4,.bool (decide (f0.e.Cell = x1.Home))),(100,.bool false)] (by kernel_rfl) fun fr => ?_
     exact r_done ⟨false,_,h,fr_eq _ (by kernel_rfl),(by kernel_rfl)⟩
    clear h
    rintro fr S ⟨x21,fr,h,rfl,rfl⟩
    replace h := hK23 _ h
    refine r_done ?_
    refine r_ite (fun hb24 => ?_) (fun hb24 => ?_)
    ·replace h := h_t h hb24
     clear hb24
     refine r_bind ?_
     refine r_done ?_
     repeat refine r_done ?_
     repeat refine r_done ?_
     obtain rfl := h_out h
     exact ret_of (RV.tmp RV.nil) (Le.refl _) ⟨rfl,rfl⟩
    ·replace h := h_f h hb24
     clear hb24
     refine r_bind ?_
     replace h := h_j h; obtain ⟨K29,h,hK30⟩ := h
     refine r_meet (fun fr S => ∃ (x28 : Bool),∃ fr0,K29 x28 = some r ∧ fr = updL [(0,.pointer (some ⟨bf0,0,none⟩)),(3,.int .i64 f0.e.Cell),(4,.bool (decide (f0.e.Cell = x1.Home))),(134,.bool x28)] fr0 ∧ S = ⟨ρ,.row g_f0.s_Tenants.1 f0.s.Tenants.length g_f0.s_Tenants.2 50 12 (fl eTenantState.en f0.s.Tenants) :: .row g_f0.s_Cells.1 f0.s.Cells.length g_f0.s_Cells.2 67 4 (fl eCellState.en f0.s.Cells) :: .obj bf0 (en_state_fold f0 g_f0) 80 :: L⟩) ?_ ?_
     refine r_mix tt_ok hm_ok _ _ [] (.pure 0 (.pure 1 (.pure 2 (.pure 3 (.vb 4 (.pure 5 (.pure 6 (.pure 7 (.vb 8 (.pure 9 (.pure 10 (.vb 11 (.pure 12 (.pure 13 (.pure 14 (.pure 15 (.pure 16 (.vb 17 (.pure 18 (.pure 19 (.vb 20 (.pure 21 (.pure 22 (.pure 23 (.vb 24 (.pure 25 (.pure 26 (.vb 27 (.pure 28 (.pure 29 (.pure 30 .nil))))))))))))))))))))))))))))))) (le_w [true,true,true]) (le_w [true,true,true]) ?_ ?_
     ·decide +kernel
     refine x_p rfl ?_
     refine v_done ?_
     refine x_p rfl ?_
     refine v_done ?_
     refine x_p rfl ?_
     refine v_done ?_
     refine x_p rfl ?_
     refine v_done ?_
     refine x_vb rfl ?_
     refine v_ld 2 tt_ok (v := .int .i64 f0.e.N) ts_3 rfl (by kernel_rfl) ?_
     refine v_done ?_
     refine x_p rfl ?_
     refine v_done ?_
     refine x_kp [(0,.pointer (some ⟨bf0,0,none⟩)),(3,.int .i64 f0.e.Cell),(4,.bool (decide (f0.e.Cell = x1.Home))),(139,.int .i64 f0.e.N),(140,.pointer (some ⟨bf0,0,none⟩))] (by kernel_rfl) fun fr => ?_
     refine x_p rfl ?_
     refine v_done ?_
     refine x_p rfl ?_
     refine v_done ?_
     refine x_vb rfl ?_
     replace h := h_b h; obtain ⟨x25,hx26,h⟩ := h
     refine v_ld 2 tt_ok (v := .pointer (some ((adr g_f0.s_Cells.1).add (f0.e.Cell.toNat * 4)))) ts_78 rfl (by rw [← fptr_at h_f0_cell hx26]; kernel_rfl) ?_
     refine v_done ?_
     refine x_p rfl ?_
     refine v_done ?_
     refine x_p rfl ?_
     refine v_done ?_
     refine x_vb rfl ?_
     refine v_lec (E := eCellState) tt_ok (v := .int .i64 x25.Running) (idx_get hx26) (rd_row 1 rfl) ts_3 rfl (pl1 _ _ _) (by kernel_rfl) ?_
     refine v_done ?_
     refine x_p rfl ?_
     refine v_done ?_
     refine x_p rfl ?_
     refine v_done ?_
     refine x_p rfl ?_
     refine v_ite (fun (hb27 : (!decide (f0.e.N = x25.Running)) = true) => ?_) (fun (hb27 : (!decide (f0.e.N = x25.Running)) = false) => ?_)
     ·replace h := h_t h hb27
      clear hb27
      refine v_done ?_
      refine x_kp [(0,.pointer (some ⟨bf0,0,none⟩)),(3,.int .i64 f0.e.Cell),(4,.bool (decide (f0.e.Cell = x1.Home))),(148,.bool true),(149,undef)] (by kernel_rfl) fun fr => ?_
      refine x_p rfl ?_
      refine v_T rfl ?_
      refine v_done ?_
      refine x_p rfl ?_
      refine v_T rfl ?_
      refine v_done ?_
      refine x_vb rfl ?_
      refine v_T rfl ?_
      refine v_done ?_
      refine x_p rfl ?_
      refine v_T rfl ?_
      refine v_done ?_
      refine x_p rfl ?_
      refine v_T rfl ?_
      refine v_done ?_
      refine x_vb rfl ?_
      refine v_T rfl ?_
      refine v_done ?_
      refine x_p rfl ?_
      refine v_T rfl ?_
      refine v_done ?_
      refine x_p rfl ?_
      refine v_T rfl ?_
      refine v_done ?_
      refine x_p rfl ?_
      refine v_T rfl ?_
      refine v_done ?_
      refine x_kp [(0,.pointer (some ⟨bf0,0,none⟩)),(3,.int .i64 f0.e.Cell),(4,.bool (decide (f0.e.Cell = x1.Home))),(148,.bool true),(155,undef),(158,undef)] (by kernel_rfl) fun fr => ?_
      refine x_vb rfl ?_
      refine v_T rfl ?_
      refine v_done ?_
      refine x_p rfl ?_
      refine v_T rfl ?_
      refine v_done ?_
      refine x_p rfl ?_
      refine v_T rfl ?_
      refine v_done ?_
      refine x_vb rfl ?_
      refine v_T rfl ?_
      refine v_done ?_
      refine x_p rfl ?_
      refine v_T rfl ?_
      refine v_done ?_
      refine x_p rfl ?_
      refine v_T rfl ?_
      refine v_done ?_
      refine x_p rfl ?_
      refine v_done ?_
      refine x_k [(0,.pointer (some ⟨bf0,0,none⟩)),(3,.int .i64 f0.e.Cell),(4,.bool (decide (f0.e.Cell = x1.Home))),(134,.bool true)] (by kernel_rfl) fun fr => ?_
      exact r_done ⟨true,_,h,fr_eq _ (by kernel_rfl),(by kernel_rfl)⟩
     ·replace h := h_f h hb27
      clear hb27
      refine v_done ?_
      refine x_kp [(0,.pointer (some ⟨bf0,0,none⟩)),(3,.int .i64 f0.e.Cell),(4,.bool (decide (f0.e.Cell = x1.Home))),(148,.bool false),(149,.pointer (some ⟨bf0,0,none⟩))] (by kernel_rfl) fun fr => ?_
      refine x_p rfl ?_
      refine v_F rfl ?_
      refine v_done ?_
      refine x_p rfl ?_
      refine v_F rfl ?_
      refine v_done ?_
      refine x_vb rfl ?_
      refine v_F rfl ?_
      refine v_ld 2 tt_ok (v := .pointer (some ((adr g_f0.s_Cells.1).add (f0.e.Cell.toNat * 4)))) ts_78 rfl (by rw [← fptr_at h_f0_cell hx26]; kernel_rfl) ?_
      refine v_done ?_
      refine x_p rfl ?_
      refine v_F rfl ?_
      refine v_done ?_
      refine x_p rfl ?_
      refine v_F rfl ?_
      refine v_done ?_
      refine x_vb rfl ?_
      refine v_F rfl ?_
      refine v_lec (E := eCellState) tt_ok (v := .int .i64 x25.Running) (idx_get hx26) (rd_row 1 rfl) ts_3 rfl (pl1 _ _ _) (by kernel_rfl) ?_
      refine v_done ?_
      refine x_p rfl ?_
      refine v_F rfl ?_
      refine v_done ?_
      refine x_p rfl ?_
      refine v_F rfl ?_
      refine v_done ?_
      refine x_p rfl ?_
      refine v_F rfl ?_
      refine v_done ?_
      refine x_kp [(0,.pointer (some ⟨bf0,0,none⟩)),(3,.int .i64 f0.e.Cell),(4,.bool (decide (f0.e.Cell = x1.Home))),(148,.bool false),(155,.int .i64 x25.Running),(158,.pointer (some ⟨bf0,28,none⟩))] (by kernel_rfl) fun fr => ?_
      refine x_vb rfl ?_
      refine v_F rfl ?_
      refine v_ld 2 tt_ok (v := .pointer (some ((adr g_f0.s_Cells.1).add (f0.e.Cell.toNat * 4)))) ts_78 rfl (by rw [← fptr_at h_f0_cell hx26]; kernel_rfl) ?_
      refine v_done ?_
      refine x_p rfl ?_
      refine v_F rfl ?_
      refine v_done ?_
      refine x_p rfl ?_
      refine v_F rfl ?_
      refine v_done ?_
      refine x_vb rfl ?_
      refine v_F rfl ?_
      refine v_lec (E := eCellState) tt_ok (v := .int .i64 x25.Wanted) (idx_get hx26) (rd_row 1 rfl) ts_3 rfl (pl1 _ _ _) (by kernel_rfl) ?_
      refine v_done ?_
      refine x_p rfl ?_
      refine v_F rfl ?_
      refine v_done ?_
      refine x_p rfl ?_
      refine v_done ?_
      refine x_p rfl ?_
      refine v_done ?_
      refine x_k [(0,.pointer (some ⟨bf0,0,none⟩)),(3,.int .i64 f0.e.Cell),(4,.bool (decide (f0.e.Cell = x1.Home))),(134,.bool (!decide (x25.Running = x25.Wanted)))] (by kernel_rfl) fun fr => ?_
      exact r_done ⟨!decide (x25.Running = x25.Wanted),_,h,fr_eq _ (by kernel_rfl),(by kernel_rfl)⟩
     clear h
     rintro fr S ⟨x28,fr,h,rfl,rfl⟩
     replace h := hK30 _ h
     refine r_done ?_
     refine r_ite (fun hb31 => ?_) (fun hb31 => ?_)
     ·replace h := h_t h hb31
      clear hb31
      refine r_bind ?_
      refine r_done ?_
      repeat refine r_done ?_
      repeat refine r_done ?_
      obtain rfl := h_out h
      exact ret_of (RV.tmp RV.nil) (Le.refl _) ⟨rfl,rfl⟩
     ·replace h := h_f h hb31
      clear hb31
      refine r_bind ?_
      replace h := h_j h; obtain ⟨K39,h,hK40⟩ := h
      refine r_meet (fun fr S => ∃ (x38 : Bool),∃ fr0,K39 x38 = some r ∧ fr = updL [(0,.pointer (some ⟨bf0,0,none⟩)),(3,.int .i64 f0.e.Cell),(4,.bool (decide (f0.e.Cell = x1.Home))),(165,.bool x38)] fr0 ∧ S = ⟨ρ,.row g_f0.s_Tenants.1 f0.s.Tenants.length g_f0.s_Tenants.2 50 12 (fl eTenantState.en f0.s.Tenants) :: .row g_f0.s_Cells.1 f0.s.Cells.length g_f0.s_Cells.2 67 4 (fl eCellState.en f0.s.Cells) :: .obj bf0 (en_state_fold f0 g_f0) 80 :: L⟩) ?_ ?_
      refine r_mix tt_ok hm_ok _ _ [] (.pure 0 (.eff 1 (.pure 2 (.pure 3 (.pure 4 (.pure 5 (.pure 6 (.pure 7 (.pure 8 (.pure 9 (.vb 10 (.pure 11 (.pure 12 (.pure 13 (.vb 14 (.pure 15 (.pure 16 (.pure 17 (.pure 18 (.vb 19 (.pure 20 (.pure 21 (.pure 22 (.pure 23 .nil)))))))))))))))))))))))) (le_w [true,true,true]) (le_w [true,true,true]) ?_ ?_
      ·decide +kernel
      refine x_p rfl ?_
      refine v_done ?_
      refine x_e rfl ?_
      replace h := h_b h; obtain ⟨x33,hx32,h⟩ := h
      refine r_call (hc_75 (bf0 := bf0) (g_f0 := g_f0) (f0 := f0) (hS_f0 := by exact (le_d 0).trans hS_f0) (h_f0 := by exact h_f0) (h_f0_t := by exact h_f0_t) (h_f0_cell := by exact h_f0_cell) (h := hx32)) ?_
      rintro _ _ ⟨rfl,rfl⟩
      refine r_done ⟨rfl,k_a (le_w [true,true,true]) (le_w [true,true,true]),?_⟩
      refine x_p rfl ?_
      refine v_done ?_
      refine x_p rfl ?_
      refine v_done ?_
      refine x_p rfl ?_
      refine v_ite (fun (hb34 : (!x33) = true) => ?_) (fun (hb34 : (!x33) = false) => ?_)
      ·replace h := h_t h hb34
       clear hb34
       refine v_done ?_
       refine x_p rfl ?_
       refine v_T rfl ?_
       refine v_done ?_
       refine x_p rfl ?_
       refine v_T rfl ?_
       refine v_done ?_
       refine x_p rfl ?_
       refine v_done ?_
       refine x_kp [(0,.pointer (some ⟨bf0,0,none⟩)),(3,.int .i64 f0.e.Cell),(4,.bool (decide (f0.e.Cell = x1.Home))),(169,.bool true),(172,undef),(173,undef)] (by kernel_rfl) fun fr => ?_
       refine x_p rfl ?_
       refine v_done ?_
       refine x_p rfl ?_
       refine v_done ?_
       refine x_vb rfl ?_
       refine v_done ?_
       refine x_p rfl ?_
       refine v_done ?_
       refine x_p rfl ?_
       refine v_done ?_
       refine x_p rfl ?_
       refine v_done ?_
       refine x_vb rfl ?_
       refine v_done ?_
       refine x_p rfl ?_
       refine v_done ?_
       refine x_p rfl ?_
       refine v_done ?_
       refine x_kp [(0,.pointer (some ⟨bf0,0,none⟩)),(3,.int .i64 f0.e.Cell),(4,.bool (decide (f0.e.Cell = x1.Home))),(169,.bool true),(172,undef),(180,undef),(182,undef)] (by kernel_rfl) fun fr => ?_
       refine x_p rfl ?_
       refine v_done ?_
       refine x_p rfl ?_
       refine v_done ?_
       refine x_vb rfl ?_
       refine v_done ?_
       refine x_p rfl ?_
       refine v_done ?_
       refine x_p rfl ?_
       refine v_T rfl ?_
       refine v_done ?_
       refine x_p rfl ?_
       refine v_T rfl ?_
       refine v_done ?_
       refine x_p rfl ?_
       refine v_done ?_
       refine x_k [(0,.pointer (some ⟨bf0,0,none⟩)),(3,.int .i64 f0.e.Cell),(4,.bool (decide (f0.e.Cell = x1.Home))),(165,.bool true)] (by kernel_rfl) fun fr => ?_
       exact r_done ⟨true,_,h,fr_eq _ (by kernel_rfl),(by kernel_rfl)⟩
      ·replace h := h_f h hb34
       clear hb34
       refine v_done ?_
       refine x_p rfl ?_
       refine v_F rfl ?_
       refine v_done ?_
       refine x_p rfl ?_
       refine v_F rfl ?_
       refine v_done ?_
       refine x_p rfl ?_
       refine v_ite (fun (hb35 : (!(decide (f0.e.Cell = x1.Home))) = true) => ?_) (fun (hb35 : (!(decide (f0.e.Cell = x1.Home))) = false) => ?_)
       ·replace h := h_t h hb35
        clear hb35
        refine v_done ?_
        refine x_kp [(0,.pointer (some ⟨bf0,0,none⟩)),(3,.int .i64 f0.e.Cell),(4,.bool (decide (f0.e.Cell = x1.Home))),(169,.bool false),(172,.bool true),(173,.pointer (some ⟨bf0,0,none⟩))] (by kernel_rfl) fun fr => ?_
        refine x_p rfl ?_
        refine v_T rfl ?_
        refine v_done ?_
        refine x_p rfl ?_
        refine v_T rfl ?_
        refine v_done ?_
        refine x_vb rfl ?_
        refine v_T rfl ?_
        replace h := h_b h; obtain ⟨x36,hx37,h⟩ := h
        refine v_ld 2 tt_ok (v := .pointer (some ((adr g_f0.s_Tenants.1).add (f0.e.Tenant.toNat * 12)))) ts_77 rfl (by rw [← fptr_at h_f0_t hx37]; kernel_rfl) ?_
        refine v_done ?_
        refine x_p rfl ?_
        refine v_T rfl ?_
        refine v_done ?_
        refine x_p rfl ?_
        refine v_T rfl ?_
        refine v_done ?_
        refine x_p rfl ?_
        refine v_T rfl ?_
        refine v_done ?_
        refine x_vb rfl ?_
        refine v_T rfl ?_
        refine v_lec (E := eTenantState) tt_ok (v := .int .i64 x36.Window.Until) (idx_get hx37) (rd_row 0 rfl) ts_3 rfl (pl2 _ _ _ _) (by kernel_rfl) ?_
        refine v_done ?_
        refine x_p rfl ?_
        refine v_T rfl ?_
        refine v_done ?_
        refine x_p rfl ?_
        refine v_T rfl ?_
        refine v_done ?_
        refine x_kp [(0,.pointer (some ⟨bf0,0,none⟩)),(3,.int .i64 f0.e.Cell),(4,.bool (decide (f0.e.Cell = x1.Home))),(169,.bool false),(172,.bool true),(180,.int .i64 x36.Window.Until),(182,.pointer (some ⟨bf0,0,none⟩))] (by kernel_rfl) fun fr => ?_
        refine x_p rfl ?_
        refine v_T rfl ?_
        refine v_done ?_
        refine x_p rfl ?_
        refine v_T rfl ?_
        refine v_done ?_
        refine x_vb rfl ?_
        refine v_T rfl ?_
        refine v_ld 2 tt_ok (v := .int .i64 f0.e.Tick) ts_3 rfl (by kernel_rfl) ?_
        refine v_done ?_
        refine x_p rfl ?_
        refine v_T rfl ?_
        refine v_done ?_
        refine x_p rfl ?_
        refine v_F rfl ?_
        refine v_done ?_
        refine x_p rfl ?_
        refine v_done ?_
        refine x_p rfl ?_
        refine v_done ?_
        refine x_k [(0,.pointer (some ⟨bf0,0,none⟩)),(3,.int .i64 f0.e.Cell),(4,.bool (decide (f0.e.Cell = x1.Home))),(165,.bool (decide (f0.e.Tick < x36.Window.Until)))] (by kernel_rfl) fun fr => ?_
        exact r_done ⟨decide (f0.e.Tick < x36.Window.Until),_,h,fr_eq _ (by kernel_rfl),(by kernel_rfl)⟩
       ·replace h := h_f h hb35
        clear hb35
        refine v_done ?_
        refine x_kp [(0,.pointer (some ⟨bf0,0,none⟩)),(3,.int .i64 f0.e.Cell),(4,.bool (decide (f0.e.Cell = x1.Home))),(169,.bool false),(172,.bool false),(173,undef)] (by kernel_rfl) fun fr => ?_
        refine x_p rfl ?_
        refine v_F rfl ?_
        refine v_done ?_
        refine x_p rfl ?_
        refine v_F rfl ?_
        refine v_done ?_
        refine x_vb rfl ?_
        refine v_F rfl ?_
        refine v_done ?_
        refine x_p rfl ?_
        refine v_F rfl ?_
        refine v_done ?_
        refine x_p rfl ?_
        refine v_F rfl ?_
        refine v_done ?_
        refine x_p rfl ?_
        refine v_F rfl ?_
        refine v_done ?_
        refine x_vb rfl ?_
        refine v_F rfl ?_
        refine v_done ?_
        refine x_p rfl ?_
        refine v_F rfl ?_
        refine v_done ?_
        refine x_p rfl ?_
        refine v_F rfl ?_
        refine v_done ?_
        refine x_kp [(0,.pointer (some ⟨bf0,0,none⟩)),(3,.int .i64 f0.e.Cell),(4,.bool (decide (f0.e.Cell = x1.Home))),(169,.bool false),(172,.bool false),(180,undef),(182,undef)] (by kernel_rfl) fun fr => ?_
        refine x_p rfl ?_
        refine v_F rfl ?_
        refine v_done ?_
        refine x_p rfl ?_
        refine v_F rfl ?_
        refine v_done ?_
        refine x_vb rfl ?_
        refine v_F rfl ?_
        refine v_done ?_
        refine x_p rfl ?_
        refine v_F rfl ?_
        refine v_done ?_
        refine x_p rfl ?_
        refine v_F rfl ?_
        refine v_F rfl ?_
        refine v_done ?_
        refine x_p rfl ?_
        refine v_done ?_
        refine x_p rfl ?_
        refine v_done ?_
        refine x_k [(0,.pointer (some ⟨bf0,0,none⟩)),(3,.int .i64 f0.e.Cell),(4,.bool (decide (f0.e.Cell = x1.Home))),(165,.bool false)] (by kernel_rfl) fun fr => ?_
        exact r_done ⟨false,_,h,fr_eq _ (by kernel_rfl),(by kernel_rfl)⟩
      clear h
      rintro fr S ⟨x38,fr,h,rfl,rfl⟩
      replace h := hK40 _ h
      refine r_done ?_
      refine r_ite (fun hb41 => ?_) (fun hb41 => ?_)
      ·replace h := h_t h hb41
       clear hb41
       refine r_bind ?_
       refine r_done ?_
       repeat refine r_done ?_
       repeat refine r_done ?_
       obtain rfl := h_out h
       exact ret_of (RV.tmp RV.nil) (Le.refl _) ⟨rfl,rfl⟩
      ·replace h := h_f h hb41
       clear hb41
       refine r_done ?_
       refine r_done ?_
       refine r_bind ?_
       refine r_mix tt_ok hm_ok _ _ [] (.pure 0 (.pure 1 (.pure 2 (.vb 3 (.pure 4 (.pure 5 (.pure 6 (.pure 7 (.pure 8 (.vb 9 (.pure 10 (.pure 11 (.pure 12 (.pure 13 (.vb 14 (.pure 15 (.pure 16 (.pure 17 (.pure 18 (.vb 19 (.pure 20 (.pure 21 (.pure 22 (.pure 23 (.vb 24 (.pure 25 (.pure 26 (.pure 27 (.eff 28 .nil))))))))))))))))))))))))))))) (le_w [false,true,true]) (le_w [false,true,true]) ?_ ?_
       ·decide +kernel
       refine x_p rfl ?_
       refine v_done ?_
       refine x_p rfl ?_
       refine v_done ?_
       refine x_p rfl ?_
       refine v_done ?_
       refine x_vb rfl ?_
       replace h := h_b h; obtain ⟨x42,hx43,h⟩ := h
       refine v_ld 1 tt_ok (v := .pointer (some ((adr g_f0.s_Tenants.1).add (f0.e.Tenant.toNat * 12)))) ts_77 rfl (by rw [← fptr_at h_f0_t hx43]; kernel_rfl) ?_
       refine v_done ?_
       refine x_p rfl ?_
       refine v_done ?_
       refine x_p rfl ?_
       refine v_done ?_
       refine x_p rfl ?_
       refine v_done ?_
       refine x_p rfl ?_
       refine v_done ?_
       refine x_p rfl ?_
       refine v_done ?_
       refine x_kp [(0,.pointer (some ⟨bf0,0,none⟩)),(3,.int .i64 f0.e.Cell),(4,.bool (decide (f0.e.Cell = x1.Home))),(192,.pointer (some ((adr g_f0.s_Tenants.1).add (f0.e.Tenant.toNat * 12)))),(193,.int .i64 f0.e.Cell),(197,.pointer (some ⟨bf0,23,none⟩))] (by kernel_rfl) fun fr => ?_
       refine x_vb rfl ?_
       refine v_ld 1 tt_ok (v := .int .i64 f0.e.Epoch) ts_3 rfl (by kernel_rfl) ?_
       refine v_done ?_
       refine x_p rfl ?_
       refine v_done ?_
       refine x_p rfl ?_
       refine v_done ?_
       refine x_p rfl ?_
       refine v_done ?_
       refine x_p rfl ?_
       refine v_done ?_
       refine x_vb rfl ?_
       refine v_ld 1 tt_ok (v := .int .i64 f0.e.N) ts_3 rfl (by kernel_rfl) ?_
       refine v_done ?_
       refine x_p rfl ?_
       refine v_done ?_
       refine x_p rfl ?_
       refine v_done ?_
       refine x_p rfl ?_
       refine v_done ?_
       refine x_kp [(0,.pointer (some ⟨bf0,0,none⟩)),(3,.int .i64 f0.e.Cell),(4,.bool (decide (f0.e.Cell = x1.Home))),(192,.pointer (some ((adr g_f0.s_Tenants.1).add (f0.e.Tenant.toNat * 12)))),(193,.int .i64 f0.e.Cell),(198,.int .i64 f0.e.Epoch),(203,.int .i64 f0.e.N),(206,.pointer (some ⟨bf0,18,none⟩))] (by kernel_rfl) fun fr => ?_
       refine x_p rfl ?_
       refine v_done ?_
       refine x_vb rfl ?_
       refine v_ld 1 tt_ok (v := .int .i64 f0.e.From) ts_3 rfl (by kernel_rfl) ?_
       refine v_done ?_
       refine x_p rfl ?_
       refine v_done ?_
       refine x_p rfl ?_
       refine v_done ?_
       refine x_p rfl ?_
       refine v_done ?_
       refine x_p rfl ?_
       refine v_done ?_
       refine x_vb rfl ?_
       refine v_ld 1 tt_ok (v := .int .i64 f0.e.Until) ts_3 rfl (by kernel_rfl) ?_
       refine v_done ?_
       refine x_p rfl ?_
       refine v_bd tt_ok (en_Window (⟨f0.e.Cell,f0.e.Epoch,f0.e.N,f0.e.From,f0.e.Until⟩ : Window)) ti_48 tp_48 (by kernel_rfl) ?_
       refine v_done ?_
       refine x_p rfl ?_
       refine v_done ?_
       refine x_kp [(0,.pointer (some ⟨bf0,0,none⟩)),(3,.int .i64 f0.e.Cell),(4,.bool (decide (f0.e.Cell = x1.Home))),(214,.agg (en_Window (⟨f0.e.Cell,f0.e.Epoch,f0.e.N,f0.e.From,f0.e.Until⟩ : Window)).toArray),(215,.pointer (some ((adr g_f0.s_Tenants.1).add (f0.e.Tenant.toNat * 12))))] (by kernel_rfl) fun fr => ?_
       refine x_p rfl ?_
       refine v_done ?_
       refine x_e rfl ?_
       refine r_sec 0 (E := eTenantState) tt_ok ({ x42 with Window := (⟨f0.e.Cell,f0.e.Epoch,f0.e.N,f0.e.From,f0.e.Until⟩ : Window) }) (idx_get hx43) (fitn ta_48 (by kernel_rfl)) rfl rfl (pl1 _ _ _) (by kernel_rfl) (by kernel_rfl) (List.cons_ne_nil _ _) ?_
       rw [show (en_state_fold f0 g_f0) = (en_state_fold ({ f0 with s := { f0.s with Tenants := (f0.s.Tenants.set f0.e.Tenant.toNat ({ x42 with Window := (⟨f0.e.Cell,f0.e.Epoch,f0.e.N,f0.e.From,f0.e.Until⟩ : Window) })) } }) g_f0) by simp [en_state_fold]]
       rw [← @List.length_set _ f0.s.Tenants f0.e.Tenant.toNat ({ x42 with Window := (⟨f0.e.Cell,f0.e.Epoch,f0.e.N,f0.e.From,f0.e.Until⟩ : Window) })]
       refine r_done ⟨rfl,k_a (le_w [false,true,true]) (le_w [false,true,true]),?_⟩
       refine x_k [(0,.pointer (some ⟨bf0,0,none⟩)),(3,.int .i64 f0.e.Cell),(4,.bool (decide (f0.e.Cell = x1.Home)))] (by kernel_rfl) fun fr => ?_
       refine r_done ?_
       refine r_bind ?_
       refine r_mix tt_ok hm_ok _ _ [] (.pure 0 (.pure 1 (.pure 2 (.vb 3 (.pure 4 (.pure 5 (.pure 6 (.pure 7 (.vb 8 (.pure 9 (.pure 10 (.eff 11 .nil)))))))))))) (le_w [false,true,true]) (le_w [false,true,true]) ?_ ?_
       ·decide +kernel
       refine x_p rfl ?_
       refine v_done ?_
       refine x_p rfl ?_
       refine v_done ?_
       refine x_p rfl ?_
       refine v_done ?_
       refine x_vb rfl ?_
       refine v_ld 1 tt_ok (v := .pointer (some ((adr g_f0.s_Tenants.1).add (f0.e.Tenant.toNat * 12)))) ts_77 rfl (by rw [← fptr_at h_f0_t hx43]; kernel_rfl) ?_
       refine v_done ?_
       refine x_p rfl ?_
       refine v_done ?_
       refine x_p rfl ?_
       refine v_done ?_
       refine x_p rfl ?_
       refine v_done ?_
       refine x_p rfl ?_
       refine v_done ?_
       refine x_vb rfl ?_
       refine v_ld 1 tt_ok (v := .int .i64 f0.e.Epoch) ts_3 rfl (by kernel_rfl) ?_
       refine v_done ?_
       refine x_kp [(0,.pointer (some ⟨bf0,0,none⟩)),(3,.int .i64 f0.e.Cell),(4,.bool (decide (f0.e.Cell = x1.Home))),(220,.pointer (some ((adr g_f0.s_Tenants.1).add (f0.e.Tenant.toNat * 12)))),(225,.int .i64 f0.e.Epoch)] (by kernel_rfl) fun fr => ?_
       refine x_p rfl ?_
       refine v_done ?_
       refine x_p rfl ?_
       refine v_done ?_
       refine x_e rfl ?_
       refine r_sec 0 (E := eTenantState) tt_ok ({ x42 with Epoch := f0.e.Epoch,Window := (⟨f0.e.Cell,f0.e.Epoch,f0.e.N,f0.e.From,f0.e.Until⟩ : Window) }) (idx_get (idx_set hx43 _)) (fit1 ts_3 (by kernel_rfl)) rfl rfl (pl1 _ _ _) (by kernel_rfl) (by kernel_rfl) (List.cons_ne_nil _ _) ?_
       rw [show (en_state_fold ({ f0 with s := { f0.s with Tenants := (f0.s.Tenants.set f0.e.Tenant.toNat ({ x42 with Window := (⟨f0.e.Cell,f0.e.Epoch,f0.e.N,f0.e.From,f0.e.Until⟩ : Window) })) } }) g_f0) = (en_state_fold ({ f0 with s := { f0.s with Tenants := ((f0.s.Tenants.set f0.e.Tenant.toNat ({ x42 with Window := (⟨f0.e.Cell,f0.e.Epoch,f0.e.N,f0.e.From,f0.e.Until⟩ : Window) })).set f0.e.Tenant.toNat ({ x42 with Epoch := f0.e.Epoch,Window := (⟨f0.e.Cell,f0.e.Epoch,f0.e.N,f0.e.From,f0.e.Until⟩ : Window) })) } }) g_f0) by simp [en_state_fold]]
       rw [← @List.length_set _ (f0.s.Tenants.set f0.e.Tenant.toNat ({ x42 with Window := (⟨f0.e.Cell,f0.e.Epoch,f0.e.N,f0.e.From,f0.e.Until⟩ : Window) })) f0.e.Tenant.toNat ({ x42 with Epoch := f0.e.Epoch,Window := (⟨f0.e.Cell,f0.e.Epoch,f0.e.N,f0.e.From,f0.e.Until⟩ : Window) })]
       refine r_done ⟨rfl,k_a (le_w [false,true,true]) (le_w [false,true,true]),?_⟩
       refine x_k [(0,.pointer (some ⟨bf0,0,none⟩)),(3,.int .i64 f0.e.Cell),(4,.bool (decide (f0.e.Cell = x1.Home)))] (by kernel_rfl) fun fr => ?_
       refine r_done ?_
       refine r_bind ?_
       replace h := h_j h; obtain ⟨K48,h,hK49⟩ := h
       refine r_meet (fun fr S => ∃ (xs46 : (List TenantState)),∃ fr0,K48 xs46 = some r ∧ fr = updL [(0,.pointer (some ⟨bf0,0,none⟩)),(3,.int .i64 f0.e.Cell),(4,.bool (decide (f0.e.Cell = x1.Home)))] fr0 ∧ S = ⟨ρ,.row g_f0.s_Tenants.1 xs46.length g_f0.s_Tenants.2 50 12 (fl eTenantState.en xs46) :: .row g_f0.s_Cells.1 f0.s.Cells.length g_f0.s_Cells.2 67 4 (fl eCellState.en f0.s.Cells) :: .obj bf0 (en_state_fold ({ f0 with s := { f0.s with Tenants := xs46 } }) g_f0) 80 :: L⟩) ?_ ?_
       ·refine r_bind ?_
        refine r_bind ?_
        refine r_done ?_
        refine r_ite (fun hb44 => ?_) (fun hb44 => ?_)
        ·replace h := h_t h hb44
         clear hb44
         refine r_done ?_
         exact r_done ⟨((f0.s.Tenants.set f0.e.Tenant.toNat ({ x42 with Window := (⟨f0.e.Cell,f0.e.Epoch,f0.e.N,f0.e.From,f0.e.Until⟩ : Window) })).set f0.e.Tenant.toNat ({ x42 with Epoch := f0.e.Epoch,Window := (⟨f0.e.Cell,f0.e.Epoch,f0.e.N,f0.e.From,f0.e.Until⟩ : Window) })),_,h,fr_eq _ (by kernel_rfl),(by kernel_rfl)⟩
        ·replace h := h_f h hb44
         clear hb44
         refine r_bind ?_
         refine r_ld 2 tt_ok (v := .pointer (some ((adr g_f0.s_Tenants.1).add (f0.e.Tenant.toNat * 12)))) ts_77 rfl (by rw [← fptr_at h_f0_t hx43]; kernel_rfl) ?_
         refine r_kp [(0,.pointer (some ⟨bf0,0,none⟩)),(3,.int .i64 f0.e.Cell),(4,.bool (decide (f0.e.Cell = x1.Home))),(231,.int .i64 f0.e.Cell),(235,.pointer (some ((adr g_f0.s_Tenants.1).add (f0.e.Tenant.toNat * 12))))] (by kernel_rfl) fun fr => ?_
         refine r_lec (E := eTenantState) tt_ok (v := .int .i64 x42.Standby) (idx_get (idx_set (idx_set hx43 _) _)) (rd_row 0 rfl) ts_3 rfl (pl1 _ _ _) (by kernel_rfl) ?_
         refine r_done ?_
         refine r_ite (fun hb45 => ?_) (fun hb45 => ?_)
         ·replace h := h_t h hb45
          clear hb45
          refine r_mix tt_ok hm_ok _ _ [] (.pure 0 (.pure 1 (.pure 2 (.vb 3 (.pure 4 (.pure 5 (.pure 6 (.vb 7 (.pure 8 (.pure 9 (.pure 10 (.vb 11 (.pure 12 (.pure 13 (.eff 14 (.pure 15 (.pure 16 (.eff 17 (.pure 18 (.pure 19 (.eff 20 .nil))))))))))))))))))))) (le_w [false,true,true]) (le_w [false,true,true]) ?_ ?_
          ·decide +kernel
          refine x_p rfl ?_
          refine v_done ?_
          refine x_p rfl ?_
          refine v_done ?_
          refine x_p rfl ?_
          refine v_done ?_
          refine x_vb rfl ?_
          refine v_ld 1 tt_ok (v := .pointer (some ((adr g_f0.s_Tenants.1).add (f0.e.Tenant.toNat * 12)))) ts_77 rfl (by rw [← fptr_at h_f0_t hx43]; kernel_rfl) ?_
          refine v_done ?_
          refine x_kp [(0,.pointer (some ⟨bf0,0,none⟩)),(3,.int .i64 f0.e.Cell),(4,.bool (decide (f0.e.Cell = x1.Home))),(243,.pointer (some ((adr g_f0.s_Tenants.1).add (f0.e.Tenant.toNat * 12))))] (by kernel_rfl) fun fr => ?_
          refine x_p rfl ?_
          refine v_done ?_
          refine x_p rfl ?_
          refine v_done ?_
          refine x_p rfl ?_
          refine v_done ?_
          refine x_vb rfl ?_
          refine v_ld 1 tt_ok (v := .pointer (some ((adr g_f0.s_Tenants.1).add (f0.e.Tenant.toNat * 12)))) ts_77 rfl (by rw [← fptr_at h_f0_t hx43]; kernel_rfl) ?_
          refine v_done ?_
          refine x_p rfl ?_
          refine v_done ?_
          refine x_p rfl ?_
          refine v_done ?_
          refine x_p rfl ?_
          refine v_done ?_
          refine x_vb rfl ?_
          refine v_ld 1 tt_ok (v := .pointer (some ((adr g_f0.s_Tenants.1).add (f0.e.Tenant.toNat * 12)))) ts_77 rfl (by rw [← fptr_at h_f0_t hx43]; kernel_rfl) ?_
          refine v_done ?_
          refine x_p rfl ?_
          refine v_done ?_
          refine x_kp [(0,.pointer (some ⟨bf0,0,none⟩)),(3,.int .i64 f0.e.Cell),(4,.bool (decide (f0.e.Cell = x1.Home))),(247,.pointer (some ((adr g_f0.s_Tenants.1).add (f0.e.Tenant.toNat * 12)))),(251,.pointer (some ((adr g_f0.s_Tenants.1).add (f0.e.Tenant.toNat * 12)))),(252,.pointer (some ((adr g_f0.s_Tenants.1).add (f0.e.Tenant.toNat * 12))))] (by kernel_rfl) fun fr => ?_
          refine x_p rfl ?_
          refine v_done ?_
          refine x_e rfl ?_
          refine r_sec 0 (E := eTenantState) tt_ok ({ x42 with Standby := (-1),Epoch := f0.e.Epoch,Window := (⟨f0.e.Cell,f0.e.Epoch,f0.e.N,f0.e.From,f0.e.Until⟩ : Window) }) (idx_get (idx_set (idx_set hx43 _) _)) (fit1 ts_3 (by kernel_rfl)) rfl rfl (pl1 _ _ _) (by kernel_rfl) (by kernel_rfl) (List.cons_ne_nil _ _) ?_
          rw [show (en_state_fold ({ f0 with s := { f0.s with Tenants := ((f0.s.Tenants.set f0.e.Tenant.toNat ({ x42 with Window := (⟨f0.e.Cell,f0.e.Epoch,f0.e.N,f0.e.From,f0.e.Until⟩ : Window) })).set f0.e.Tenant.toNat ({ x42 with Epoch := f0.e.Epoch,Window := (⟨f0.e.Cell,f0.e.Epoch,f0.e.N,f0.e.From,f0.e.Until⟩ : Window) })) } }) g_f0) = (en_state_fold ({ f0 with s := { f0.s with Tenants := (((f0.s.Tenants.set f0.e.Tenant.toNat ({ x42 with Window := (⟨f0.e.Cell,f0.e.Epoch,f0.e.N,f0.e.From,f0.e.Until⟩ : Window) })).set f0.e.Tenant.toNat ({ x42 with Epoch := f0.e.Epoch,Window := (⟨f0.e.Cell,f0.e.Epoch,f0.e.N,f0.e.From,f0.e.Until⟩ : Window) })).set f0.e.Tenant.toNat ({ x42 with Standby := (-1),Epoch := f0.e.Epoch,Window := (⟨f0.e.Cell,f0.e.Epoch,f0.e.N,f0.e.From,f0.e.Until⟩ : Window) })) } }) g_f0) by simp [en_state_fold]]
          rw [← @List.length_set _ ((f0.s.Tenants.set f0.e.Tenant.toNat ({ x42 with Window := (⟨f0.e.Cell,f0.e.Epoch,f0.e.N,f0.e.From,f0.e.Until⟩ : Window) })).set f0.e.Tenant.toNat ({ x42 with Epoch := f0.e.Epoch,Window := (⟨f0.e.Cell,f0.e.Epoch,f0.e.N,f0.e.From,f0.e.Until⟩ : Window) })) f0.e.Tenant.toNat ({ x42 with Standby := (-1),Epoch := f0.e.Epoch,Window := (⟨f0.e.Cell,f0.e.Epoch,f0.e.N,f0.e.From,f0.e.Until⟩ : Window) })]
          refine r_done ⟨rfl,k_a (le_w [false,true,true]) (le_w [false,true,true]),?_⟩
          refine x_p rfl ?_
          refine v_done ?_
          refine x_p rfl ?_
          refine v_done ?_
          refine x_e rfl ?_
          refine r_sec 0 (E := eTenantState) tt_ok ({ x42 with Standby := (-1),Next := (-1),Epoch := f0.e.Epoch,Window := (⟨f0.e.Cell,f0.e.Epoch,f0.e.N,f0.e.From,f0.e.Until⟩ : Window) }) (get_set (idx_get (idx_set (idx_set hx43 _) _)) _) (fit1 ts_3 (by kernel_rfl)) rfl rfl (pl1 _ _ _) (by kernel_rfl) (by kernel_rfl) (List.cons_ne_nil _ _) ?_
          rw [show (en_state_fold ({ f0 with s := { f0.s with Tenants := (((f0.s.Tenants.set f0.e.Tenant.toNat ({ x42 with Window := (⟨f0.e.Cell,f0.e.Epoch,f0.e.N,f0.e.From,f0.e.Until⟩ : Window) })).set f0.e.Tenant.toNat ({ x42 with Epoch := f0.e.Epoch,Window := (⟨f0.e.Cell,f0.e.Epoch,f0.e.N,f0.e.From,f0.e.Until⟩ : Window) })).set f0.e.Tenant.toNat ({ x42 with Standby := (-1),Epoch := f0.e.Epoch,Window := (⟨f0.e.Cell,f0.e.Epoch,f0.e.N,f0.e.From,f0.e.Until⟩ : Window) })) } }) g_f0) = (en_state_fold ({ f0 with s := { f0.s with Tenants := ((((f0.s.Tenants.set f0.e.Tenant.toNat ({ x42 with Window := (⟨f0.e.Cell,f0.e.Epoch,f0.e.N,f0.e.From,f0.e.Until⟩ : Window) })).set f0.e.Tenant.toNat ({ x42 with Epoch := f0.e.Epoch,Window := (⟨f0.e.Cell,f0.e.Epoch,f0.e.N,f0.e.From,f0.e.Until⟩ : Window) })).set f0.e.Tenant.toNat ({ x42 with Standby := (-1),Epoch := f0.e.Epoch,Window := (⟨f0.e.Cell,f0.e.Epoch,f0.e.N,f0.e.From,f0.e.Until⟩ : Window) })).set f0.e.Tenant.toNat ({ x42 with Standby := (-1),Next := (-1),Epoch := f0.e.Epoch,Window := (⟨f0.e.Cell,f0.e.Epoch,f0.e.N,f0.e.From,f0.e.Until⟩ : Window) })) } }) g_f0) by simp [en_state_fold]]
          rw [← @List.length_set _ (((f0.s.Tenants.set f0.e.Tenant.toNat ({ x42 with Window := (⟨f0.e.Cell,f0.e.Epoch,f0.e.N,f0.e.From,f0.e.Until⟩ : Window) })).set f0.e.Tenant.toNat ({ x42 with Epoch := f0.e.Epoch,Window := (⟨f0.e.Cell,f0.e.Epoch,f0.e.N,f0.e.From,f0.e.Until⟩ : Window) })).set f0.e.Tenant.toNat ({ x42 with Standby := (-1),Epoch := f0.e.Epoch,Window := (⟨f0.e.Cell,f0.e.Epoch,f0.e.N,f0.e.From,f0.e.Until⟩ : Window) })) f0.e.Tenant.toNat ({ x42 with Standby := (-1),Next := (-1),Epoch := f0.e.Epoch,Window := (⟨f0.e.Cell,f0.e.Epoch,f0.e.N,f0.e.From,f0.e.Until⟩ : Window) })]
          refine r_done ⟨rfl,k_a (le_w [false,true,true]) (le_w [false,true,true]),?_⟩
          refine x_p rfl ?_
          refine v_done ?_
          refine x_p rfl ?_
          refine v_done ?_
          refine x_e rfl ?_
          refine r_sec 0 (E := eTenantState) tt_ok ({ x42 with Shed := false,Standby := (-1),Next := (-1),Epoch := f0.e.Epoch,Window := (⟨f0.e.Cell,f0.e.Epoch,f0.e.N,f0.e.From,f0.e.Until⟩ : Window) }) (get_set (get_set (idx_get (idx_set (idx_set hx43 _) _)) _) _) (fit1 ts_4 (by kernel_rfl)) rfl rfl (pl1 _ _ _) (by kernel_rfl) (by kernel_rfl) (List.cons_ne_nil _ _) ?_
          rw [show (en_state_fold ({ f0 with s := { f0.s with Tenants := ((((f0.s.Tenants.set f0.e.Tenant.toNat ({ x42 with Window := (⟨f0.e.Cell,f0.e.Epoch,f0.e.N,f0.e.From,f0.e.Until⟩ : Window) })).set f0.e.Tenant.toNat ({ x42 with Epoch := f0.e.Epoch,Window := (⟨f0.e.Cell,f0.e.Epoch,f0.e.N,f0.e.From,f0.e.Until⟩ : Window) })).set f0.e.Tenant.toNat ({ x42 with Standby := (-1),Epoch := f0.e.Epoch,Window := (⟨f0.e.Cell,f0.e.Epoch,f0.e.N,f0.e.From,f0.e.Until⟩ : Window) })).set f0.e.Tenant.toNat ({ x42 with Standby := (-1),Next := (-1),Epoch := f0.e.Epoch,Window := (⟨f0.e.Cell,f0.e.Epoch,f0.e.N,f0.e.From,f0.e.Until⟩ : Window) })) } }) g_f0) = (en_state_fold ({ f0 with s := { f0.s with Tenants := (((((f0.s.Tenants.set f0.e.Tenant.toNat ({ x42 with Window := (⟨f0.e.Cell,f0.e.Epoch,f0.e.N,f0.e.From,f0.e.Until⟩ : Window) })).set f0.e.Tenant.toNat ({ x42 with Epoch := f0.e.Epoch,Window := (⟨f0.e.Cell,f0.e.Epoch,f0.e.N,f0.e.From,f0.e.Until⟩ : Window) })).set f0.e.Tenant.toNat ({ x42 with Standby := (-1),Epoch := f0.e.Epoch,Window := (⟨f0.e.Cell,f0.e.Epoch,f0.e.N,f0.e.From,f0.e.Until⟩ : Window) })).set f0.e.Tenant.toNat ({ x42 with Standby := (-1),Next := (-1),Epoch := f0.e.Epoch,Window := (⟨f0.e.Cell,f0.e.Epoch,f0.e.N,f0.e.From,f0.e.Until⟩ : Window) })).set f0.e.Tenant.toNat ({ x42 with Shed := false,Standby := (-1),Next := (-1),Epoch := f0.e.Epoch,Window := (⟨f0.e.Cell,f0.e.Epoch,f0.e.N,f0.e.From,f0.e.Until⟩ : Window) })) } }) g_f0) by simp [en_state_fold]]
          rw [← @List.length_set _ ((((f0.s.Tenants.set f0.e.Tenant.toNat ({ x42 with Window := (⟨f0.e.Cell,f0.e.Epoch,f0.e.N,f0.e.From,f0.e.Until⟩ : Window) })).set f0.e.Tenant.toNat ({ x42 with Epoch := f0.e.Epoch,Window := (⟨f0.e.Cell,f0.e.Epoch,f0.e.N,f0.e.From,f0.e.Until⟩ : Window) })).set f0.e.Tenant.toNat ({ x42 with Standby := (-1),Epoch := f0.e.Epoch,Window := (⟨f0.e.Cell,f0.e.Epoch,f0.e.N,f0.e.From,f0.e.Until⟩ : Window) })).set f0.e.Tenant.toNat ({ x42 with Standby := (-1),Next := (-1),Epoch := f0.e.Epoch,Window := (⟨f0.e.Cell,f0.e.Epoch,f0.e.N,f0.e.From,f0.e.Until⟩ : Window) })) f0.e.Tenant.toNat ({ x42 with Shed := false,Standby := (-1),Next := (-1),Epoch := f0.e.Epoch,Window := (⟨f0.e.Cell,f0.e.Epoch,f0.e.N,f0.e.From,f0.e.Until⟩ : Window) })]
          refine r_done ⟨rfl,k_a (le_w [false,true,true]) (le_w [false,true,true]),?_⟩
          refine x_k [(0,.pointer (some ⟨bf0,0,none⟩)),(3,.int .i64 f0.e.Cell),(4,.bool (decide (f0.e.Cell = x1.Home)))] (by kernel_rfl) fun fr => ?_
          refine r_done ?_
          exact r_done ⟨(((((f0.s.Tenants.set f0.e.Tenant.toNat ({ x42 with Window := (⟨f0.e.Cell,f0.e.Epoch,f0.e.N,f0.e.From,f0.e.Until⟩ : Window) })).set f0.e.Tenant.toNat ({ x42 with Epoch := f0.e.Epoch,Window := (⟨f0.e.Cell,f0.e.Epoch,f0.e.N,f0.e.From,f0.e.Until⟩ : Window) })).set f0.e.Tenant.toNat ({ x42 with Standby := (-1),Epoch := f0.e.Epoch,Window := (⟨f0.e.Cell,f0.e.Epoch,f0.e.N,f0.e.From,f0.e.Until⟩ : Window) })).set f0.e.Tenant.toNat ({ x42 with Standby := (-1),Next := (-1),Epoch := f0.e.Epoch,Window := (⟨f0.e.Cell,f0.e.Epoch,f0.e.N,f0.e.From,f0.e.Until⟩ : Window) })).set f0.e.Tenant.toNat ({ x42 with Shed := false,Standby := (-1),Next := (-1),Epoch := f0.e.Epoch,Window := (⟨f0.e.Cell,f0.e.Epoch,f0.e.N,f0.e.From,f0.e.Until⟩ : Window) })),_,h,fr_eq _ (by kernel_rfl),(by kernel_rfl)⟩
         ·replace h := h_f h hb45
          clear hb45
          refine r_done ?_
          exact r_done ⟨((f0.s.Tenants.set f0.e.Tenant.toNat ({ x42 with Window := (⟨f0.e.Cell,f0.e.Epoch,f0.e.N,f0.e.From,f0.e.Until⟩ : Window) })).set f0.e.Tenant.toNat ({ x42 with Epoch := f0.e.Epoch,Window := (⟨f0.e.Cell,f0.e.Epoch,f0.e.N,f0.e.From,f0.e.Until⟩ : Window) })),_,h,fr_eq _ (by kernel_rfl),(by kernel_rfl)⟩
       clear h
       rintro fr S ⟨xs46,fr,h,rfl,rfl⟩
       replace h := hK49 _ h
       refine r_done ?_
       refine r_bind ?_
       replace h := h_j h; obtain ⟨K55,h,hK56⟩ := h
       refine r_meet (fun fr S => ∃ (xs53 : (List TenantState)),∃ fr0,K55 xs53 = some r ∧ fr = updL [(0,.pointer (some ⟨bf0,0,none⟩))] fr0 ∧ S = ⟨ρ,.row g_f0.s_Tenants.1 xs53.length g_f0.s_Tenants.2 50 12 (fl eTenantState.en xs53) :: .row g_f0.s_Cells.1 f0.s.Cells.length g_f0.s_Cells.2 67 4 (fl eCellState.en f0.s.Cells) :: .obj bf0 (en_state_fold ({ f0 with s := { f0.s with Tenants := xs53 } }) g_f0) 80 :: L⟩) ?_ ?_
       ·refine r_bind ?_
        refine r_done ?_
        refine r_ite (fun hb50 => ?_) (fun hb50 => ?_)
        ·replace h := h_t h hb50
         clear hb50
         refine r_mix tt_ok hm_ok _ _ [] (.pure 0 (.pure 1 (.pure 2 (.vb 3 (.pure 4 (.pure 5 (.pure 6 (.vb 7 (.pure 8 (.pure 9 (.pure 10 (.eff 11 (.pure 12 (.pure 13 (.eff 14 .nil))))))))))))))) (le_w [false,true,true]) (le_w [false,true,true]) ?_ ?_
         ·decide +kernel
         refine x_p rfl ?_
         refine v_done ?_
         refine x_p rfl ?_
         refine v_done ?_
         refine x_p rfl ?_
         refine v_done ?_
         refine x_vb rfl ?_
         replace h := h_b h; obtain ⟨x51,hx52,h⟩ := h
         refine v_ld 1 tt_ok (v := .pointer (some ((adr g_f0.s_Tenants.1).add (f0.e.Tenant.toNat * 12)))) ts_77 rfl (by rw [← fptr_at h_f0_t hx52]; kernel_rfl) ?_
         refine v_done ?_
         refine x_p rfl ?_
         refine v_done ?_
         refine x_kp [(0,.pointer (some ⟨bf0,0,none⟩)),(3,.int .i64 f0.e.Cell),(263,.pointer (some ((adr g_f0.s_Tenants.1).add (f0.e.Tenant.toNat * 12)))),(264,.pointer (some ⟨bf0,0,none⟩))] (by kernel_rfl) fun fr => ?_
         refine x_p rfl ?_
         refine v_done ?_
         refine x_p rfl ?_
         refine v_done ?_
         refine x_vb rfl ?_
         refine v_ld 1 tt_ok (v := .pointer (some ((adr g_f0.s_Tenants.1).add (f0.e.Tenant.toNat * 12)))) ts_77 rfl (by rw [← fptr_at h_f0_t hx52]; kernel_rfl) ?_
         refine v_done ?_
         refine x_p rfl ?_
         refine v_done ?_
         refine x_p rfl ?_
         refine v_done ?_
         refine x_p rfl ?_
         refine v_done ?_
         refine x_e rfl ?_
         refine r_sec 0 (E := eTenantState) tt_ok ({ x51 with Home := f0.e.Cell }) (idx_get hx52) (fit1 ts_3 (by kernel_rfl)) rfl rfl (pl1 _ _ _) (by kernel_rfl) (by kernel_rfl) (List.cons_ne_nil _ _) ?_
         rw [show (en_state_fold ({ f0 with s := { f0.s with Tenants := xs46 } }) g_f0) = (en_state_fold ({ f0 with s := { f0.s with Tenants := (xs46.set f0.e.Tenant.toNat ({ x51 with Home := f0.e.Cell })) } }) g_f0) by simp [en_state_fold]]
         rw [← @List.length_set _ xs46 f0.e.Tenant.toNat ({ x51 with Home := f0.e.Cell })]
         refine r_done ⟨rfl,k_a (le_w [false,true,true]) (le_w [false,true,true]),?_⟩
         refine x_p rfl ?_
         refine v_done ?_
         refine x_p rfl ?_
         refine v_done ?_
         refine x_kp [(0,.pointer (some ⟨bf0,0,none⟩)),(272,.pointer (some (((adr g_f0.s_Tenants.1).add (f0.e.Tenant.toNat * 12)).add 5)))] (by kernel_rfl) fun fr => ?_
         refine x_e rfl ?_
         refine r_sec 0 (E := eTenantState) tt_ok ({ x51 with Home := f0.e.Cell,Target := (-1) }) (get_set (idx_get hx52) _) (fit1 ts_3 (by kernel_rfl)) rfl rfl (pl1 _ _ _) (by kernel_rfl) (by kernel_rfl) (List.cons_ne_nil _ _) ?_
         rw [show (en_state_fold ({ f0 with s := { f0.s with Tenants := (xs46.set f0.e.Tenant.toNat ({ x51 with Home := f0.e.Cell })) } }) g_f0) = (en_state_fold ({ f0 with s := { f0.s with Tenants := ((xs46.set f0.e.Tenant.toNat ({ x51 with Home := f0.e.Cell })).set f0.e.Tenant.toNat ({ x51 with Home := f0.e.Cell,Target := (-1) })) } }) g_f0) by simp [en_state_fold]]
         rw [← @List.length_set _ (xs46.set f0.e.Tenant.toNat ({ x51 with Home := f0.e.Cell })) f0.e.Tenant.toNat ({ x51 with Home := f0.e.Cell,Target := (-1) })]
         refine r_done ⟨rfl,k_a (le_w [false,true,true]) (le_w [false,true,true]),?_⟩
         refine x_k [(0,.pointer (some ⟨bf0,0,none⟩))] (by kernel_rfl) fun fr => ?_
         exact r_done ⟨((xs46.set f0.e.Tenant.toNat ({ x51 with Home := f0.e.Cell })).set f0.e.Tenant.toNat ({ x51 with Home := f0.e.Cell,Target := (-1) })),_,h,fr_eq _ (by kernel_rfl),(by kernel_rfl)⟩
        ·replace h := h_f h hb50
         clear hb50
         exact r_done ⟨xs46,_,h,fr_eq _ (by kernel_rfl),(by kernel_rfl)⟩
       clear h
       rintro fr S ⟨xs53,fr,h,rfl,rfl⟩
       replace h := hK56 _ h
       refine r_done ?_
       refine r_bind ?_
       replace h := h_b h; obtain ⟨x58,hx57,h⟩ := h
       refine r_call (hc_74 (bf0 := bf0) (g_f0 := g_f0) (f0 := { f0 with s := { f0.s with Tenants := xs53 } }) (hS_f0 := by exact (le_d 0).trans hS_f0) (h_f0 := by exact h_f0) (h_f0_t := by exact h_f0_t) (h_f0_cell := by exact h_f0_cell) (h := hx57)) ?_
       rintro _ _ ⟨rfl,rfl⟩
       refine r_done ?_
       repeat refine r_done ?_
       repeat refine r_done ?_
       obtain rfl := h_out h
       exact ret_of (RV.tmp RV.nil) (Le.refl _) ⟨rfl,rfl⟩
theorem hc_48 {ρ : Addr → Option Value} {L : List Ent} {bf0 : Nat} {g_f0 : gstate_fold} {S_f0 : St} (hS_f0 : Le ⟨ρ,L⟩ S_f0) (f0 : state_fold) (h_f0 : Sl_state_fold S_f0 f0 g_f0) (h_f0_t : g_f0.t = fptr g_f0.s_Tenants.1 f0.e.Tenant 12) (h_f0_cell : g_f0.cell = fptr g_f0.s_Cells.1 f0.e.Cell 4) {r : (Int × State)} (h : state_fold_cut f0 = some r) : HC Try.prog 48 #[.pointer (some ⟨bf0,0,none⟩)] ⟨ρ,.row g_f0.s_Tenants.1 f0.s.Tenants.length g_f0.s_Tenants.2 50 12 (fl eTenantState.en f0.s.Tenants) :: .row g_f0.s_Cells.1 f0.s.Cells.length g_f0.s_Cells.2 67 4 (fl eCellState.en f0.s.Cells) :: .obj bf0 (en_state_fold f0 g_f0) 80 :: L⟩ (fun v S' => v = .int .i64 r.1 ∧ S' = ⟨ρ,.row g_f0.s_Tenants.1 r.2.Tenants.length g_f0.s_Tenants.2 50 12 (fl eTenantState.en r.2.Tenants) :: .row g_f0.s_Cells.1 r.2.Cells.length g_f0.s_Cells.2 67 4 (fl eCellState.en r.2.Cells) :: .obj bf0 (en_state_fold ({ f0 with s := r.2 }) g_f0) 80 :: L⟩) := by
 replace h := h_in h
 refine HC.intro (N := 59) (args := [_]) tt_ok Try.func48 rfl (by decide +kernel) rfl (Nat.le_of_ble_eq_true rfl) ?_
 refine r_bind ?_
 refine r_done ?_
 refine r_bind ?_
 refine r_bind ?_
 refine r_bind ?_
 replace h := h_b h; obtain ⟨x1,hx2,h⟩ := h
 refine r_ld 2 tt_ok (v := .pointer (some ((adr g_f0.s_Tenants.1).add (f0.e.Tenant.toNat * 12)))) ts_77 rfl (by rw [← fptr_at h_f0_t hx2]; kernel_rfl) ?_
 refine r_lec (E := eTenantState) tt_ok (v := .bool x1.Placed) (idx_get hx2) (rd_row 0 rfl) ts_4 rfl (pl1 _ _ _) (by kernel_rfl) ?_
 refine r_keep [(0,.pointer (some ⟨bf0,0,none⟩)),(4,.bool (!x1.Placed))] (by kernel_rfl) fun fr => ?_
 refine r_done ?_
 refine r_ite (fun hb3 => ?_) (fun hb3 => ?_)
 ·replace h := h_t h hb3
  clear hb3
  refine r_bind ?_
  refine r_done ?_
  repeat refine r_done ?_
  repeat refine r_done ?_
  obtain rfl := h_out h
  exact ret_of (RV.tmp RV.nil) (Le.refl _) ⟨rfl,rfl⟩
 ·replace h := h_f h hb3
  clear hb3
  refine r_bind ?_
  refine r_mix tt_ok hm_ok _ _ [] (.pure 0 (.pure 1 (.pure 2 (.pure 3 (.vb 4 (.pure 5 (.pure 6 (.pure 7 (.vb 8 (.pure 9 (.pure 10 (.vb 11 (.pure 12 (.pure 13 .nil)))))))))))))) (le_w [true,true,true]) (le_w [true,true,true]) ?_ ?_
  ·decide +kernel
  refine x_p rfl ?_
  refine v_done ?_
  refine x_p rfl ?_
  refine v_done ?_
  refine x_p rfl ?_
  refine v_done ?_
  refine x_p rfl ?_
  refine v_done ?_
  refine x_vb rfl ?_
  refine v_ld 2 tt_ok (v := .int .i64 f0.e.Epoch) ts_3 rfl (by kernel_rfl) ?_
  refine v_done ?_
  refine x_p rfl ?_
  refine v_done ?_
  refine x_p rfl ?_
  refine v_done ?_
  refine x_p rfl ?_
  refine v_done ?_
  refine x_vb rfl ?_
  refine v_ld 2 tt_ok (v := .pointer (some ((adr g_f0.s_Tenants.1).add (f0.e.Tenant.toNat * 12)))) ts_77 rfl (by rw [← fptr_at h_f0_t hx2]; kernel_rfl) ?_
  refine v_done ?_
  refine x_kp [(0,.pointer (some ⟨bf0,0,none⟩)),(18,.int .i64 f0.e.Epoch),(22,.pointer (some ((adr g_f0.s_Tenants.1).add (f0.e.Tenant.toNat * 12))))] (by kernel_rfl) fun fr => ?_
  refine x_p rfl ?_
  refine v_done ?_
  refine x_p rfl ?_
  refine v_done ?_
  refine x_vb rfl ?_
  refine v_lec (E := eTenantState) tt_ok (v := .int .i64 x1.Epoch) (idx_get hx2) (rd_row 0 rfl) ts_3 rfl (pl1 _ _ _) (by kernel_rfl) ?_
  refine v_done ?_
  refine x_p rfl ?_
  refine v_done ?_
  refine x_p rfl ?_
  refine v_done ?_
  refine x_k [(0,.pointer (some ⟨bf0,0,none⟩)),(13,.bool (!decide (f0.e.Epoch = x1.Epoch)))] (by kernel_rfl) fun fr => ?_
  refine r_done ?_
  refine r_ite (fun hb4 => ?_) (fun hb4 => ?_)
  ·replace h := h_t h hb4
   clear hb4
   refine r_bind ?_
   refine r_done ?_
   repeat refine r_done ?_
   repeat refine r_done ?_
   obtain rfl := h_out h
   exact ret_of (RV.tmp RV.nil) (Le.refl _) ⟨rfl,rfl⟩
  ·replace h := h_f h hb4
   clear hb4
   refine r_done ?_
   refine r_done ?_
   refine r_bind ?_
   refine r_ld 2 tt_ok (v := .pointer (some ((adr g_f0.s_Tenants.1).add (f0.e.Tenant.toNat * 12)))) ts_77 rfl (by rw [← fptr_at h_f0_t hx2]; kernel_rfl) ?_
   refine r_done ?_
   refine r_bind ?_
   refine r_mix tt_ok hm_ok _ _ [14] (.pure 0 (.pure 1 (.pure 2 (.pure 3 (.va 4 (.pure 5 (.pure 6 (.pure 7 (.pure 8 (.vb 9 (.pure 10 (.pure 11 (.pure 12 (.pure 13 (.eff 14 .nil))))))))))))))) (le_w [true,true,true]) (le_w [false,true,true]) ?_ ?_
   ·decide +kernel
   refine x_p rfl ?_
   refine v_done ?_
   refine x_p rfl ?_
   refine v_done ?_
   refine x_kp [(0,.pointer (some ⟨bf0,0,none⟩)),(3,.pointer (some (((adr g_f0.s_Tenants.1).add (f0.e.Tenant.toNat * 12)).add 7))),(33,.pointer (some (((adr g_f0.s_Tenants.1).add (f0.e.Tenant.toNat * 12)).add 7))),(34,.pointer (some (((adr g_f0.s_Tenants.1).add (f0.e.Tenant.toNat * 12)).add 7)))] (by kernel_rfl) fun fr => ?_
   refine x_p rfl ?_
   refine v_done ?_
   refine x_p rfl ?_
   refine v_done ?_
   refine x_va rfl ?_
   refine v_lec (E := eTenantState) tt_ok (v := .int .i64 x1.Window.Until) (idx_get hx2) (rd_row 0 rfl) ts_3 rfl (pl2 _ _ _ _) (by kernel_rfl) ?_
   refine v_done ?_
   refine x_p rfl ?_
   refine v_done ?_
   refine x_p rfl ?_
   refine v_done ?_
   refine x_p rfl ?_
   refine v_done ?_
   refine x_p rfl ?_
   refine v_done ?_
   refine x_vb rfl ?_
   refine v_ld 1 tt_ok (v := .int .i64 f0.e.Tick) ts_3 rfl (by kernel_rfl) ?_
   refine v_done ?_
   refine x_p rfl ?_
   refine v_num (e' := w64 (f0.e.Tick + 1)) rfl ?_
   refine v_done ?_
   refine x_kp [(3,.pointer (some (((adr g_f0.s_Tenants.1).add (f0.e.Tenant.toNat * 12)).add 7))),(33,.pointer (some (((adr g_f0.s_Tenants.1).add (f0.e.Tenant.toNat * 12)).add 7))),(37,.int .i64 x1.Window.Until),(43,.int .i64 (w64 (f0.e.Tick + 1)))] (by kernel_rfl) fun fr => ?_
   refine x_p rfl ?_
   refine v_done ?_
   refine x_p rfl ?_
   refine v_done ?_
   refine x_p rfl ?_
   refine v_done ?_
   refine x_e rfl ?_
   refine r_sec 0 (E := eTenantState) tt_ok ({ x1 with Window := { x1.Window with Until := mn x1.Window.Until (w64 (f0.e.Tick + 1)) } }) (idx_get hx2) (fit1 ts_3 (by kernel_rfl)) rfl rfl (pl2 _ _ _ _) (by kernel_rfl) (by kernel_rfl) (List.cons_ne_nil _ _) ?_
   rw [show (en_state_fold f0 g_f0) = (en_state_fold ({ f0 with s := { f0.s with Tenants := (f0.s.Tenants.set f0.e.Tenant.toNat ({ x1 with Window := { x1.Window with Until := mn x1.Window.Until (w64 (f0.e.Tick + 1)) } })) } }) g_f0) by simp [en_state_fold]]
   rw [← @List.length_set _ f0.s.Tenants f0.e.Tenant.toNat ({ x1 with Window := { x1.Window with Until := mn x1.Window.Until (w64 (f0.e.Tick + 1)) } })]
   refine r_done ⟨rfl,k_b rfl (le_w [false,true,true]),?_⟩
   refine x_k [(3,.pointer (some (((adr g_f0.s_Tenants.1).add (f0.e.Tenant.toNat * 12)).add 7)))] (by kernel_rfl) fun fr => ?_
   refine r_done ?_
   refine r_bind ?_
   refine r_mix tt_ok hm_ok _ _ [12] (.pure 0 (.pure 1 (.pure 2 (.pure 3 (.va 4 (.pure 5 (.pure 6 (.pure 7 (.va 8 (.pure 9 (.pure 10 (.pure 11 (.eff 12 .nil))))))))))))) (le_w [true,true,true]) (le_w [false,true,true]) ?_ ?_
   ·decide +kernel
   refine x_p rfl ?_
   refine v_done ?_
   refine x_p rfl ?_
   refine v_done ?_
   refine x_p rfl ?_
   refine v_done ?_
   refine x_p rfl ?_
   refine v_done ?_
   refine x_va rfl ?_
   refine v_lec (E := eTenantState) tt_ok (v := .int .i64 x1.Window.From) (get_set (idx_get hx2) _) (rd_row 0 rfl) ts_3 rfl (pl2 _ _ _ _) (by kernel_rfl) ?_
   refine v_done ?_
   refine x_p rfl ?_
   refine v_done ?_
   refine x_p rfl ?_
   refine v_done ?_
   refine x_p rfl ?_
   refine v_done ?_
   refine x_va rfl ?_
   refine v_lec (E := eTenantState) tt_ok (v := .int .i64 (mn x1.Window.Until (w64 (f0.e.Tick + 1)))) (get_set (idx_get hx2) _) (rd_row 0 rfl) ts_3 rfl (pl2 _ _ _ _) (by kernel_rfl) ?_
   refine v_done ?_
   refine x_kp [(47,.pointer (some (((adr g_f0.s_Tenants.1).add (f0.e.Tenant.toNat * 12)).add 7))),(51,.int .i64 x1.Window.From),(55,.int .i64 (mn x1.Window.Until (w64 (f0.e.Tick + 1))))] (by kernel_rfl) fun fr => ?_
   refine x_p rfl ?_
   refine v_done ?_
   refine x_p rfl ?_
   refine v_done ?_
   refine x_p rfl ?_
   refine v_done ?_
   refine x_e rfl ?_
   refine r_sec 0 (E := eTenantState) tt_ok ({ x1 with Window := { x1.Window with From := mn x1.Window.From (mn x1.Window.Until (w64 (f0.e.Tick + 1))),Until := mn x1.Window.Until (w64 (f0.e.Tick + 1)) } }) (get_set (idx_get hx2) _) (fit1 ts_3 (by kernel_rfl)) rfl rfl (pl2 _ _ _ _) (by kernel_rfl) (by kernel_rfl) (List.cons_ne_nil _ _) ?_
   rw [show (en_state_fold ({ f0 with s := { f0.s with Tenants := (f0.s.Tenants.set f0.e.Tenant.toNat ({ x1 with Window := { x1.Window with Until := mn x1.Window.Until (w64 (f0.e.Tick + 1)) } })) } }) g_f0) = (en_state_fold ({ f0 with s := { f0.s with Tenants := ((f0.s.Tenants.set f0.e.Tenant.toNat ({ x1 with Window := { x1.Window with Until := mn x1.Window.Until (w64 (f0.e.Tick + 1)) } })).set f0.e.Tenant.toNat ({ x1 with Window := { x1.Window with From := mn x1.Window.From (mn x1.Window.Until (w64 (f0.e.Tick + 1))),Until := mn x1.Window.Until (w64 (f0.e.Tick + 1)) } })) } }) g_f0) by simp [en_state_fold]]
   rw [← @List.length_set _ (f0.s.Tenants.set f0.e.Tenant.toNat ({ x1 with Window := { x1.Window with Until := mn x1.Window.Until (w64 (f0.e.Tick + 1)) } })) f0.e.Tenant.toNat ({ x1 with Window := { x1.Window with From := mn x1.Window.From (mn x1.Window.Until (w64 (f0.e.Tick + 1))),Until := mn x1.Window.Until (w64 (f0.e.Tick + 1)) } })]
   refine r_done ⟨rfl,k_b rfl (le_w [false,true,true]),?_⟩
   refine x_k [] (by kernel_rfl) fun fr => ?_
   refine r_done ?_
   refine r_bind ?_
   refine r_done ?_
   repeat refine r_done ?_
   repeat refine r_done ?_
   obtain rfl := h_out h
   exact ret_of (RV.tmp RV.nil) (Le.refl _) ⟨rfl,rfl⟩
theorem hc_49 {ρ : Addr → Option Value} {L : List Ent} {bf0 : Nat} {g_f0 : gstate_fold} {S_f0 : St} (hS_f0 : Le ⟨ρ,L⟩ S_f0) (f0 : state_fold) (h_f0 : Sl_state_fold S_f0 f0 g_f0) (h_f0_t : g_f0.t = fptr g_f0.s_Tenants.1 f0.e.Tenant 12) (h_f0_cell : g_f0.cell = fptr g_f0.s_Cells.1 f0.e.Cell 4) {r : (Int × State)} (h : state_fold_standby f0 = some r) : HC Try.prog 49 #[.pointer (some ⟨bf0,0,none⟩)] ⟨ρ,.row g_f0.s_Tenants.1 f0.s.Tenants.length g_f0.s_Tenants.2 50 12 (fl eTenantState.en f0.s.Tenants) :: .row g_f0.s_Cells.1 f0.s.Cells.length g_f0.s_Cells.2 67 4 (fl eCellState.en f0.s.Cells) :: .obj bf0 (en_state_fold f0 g_f0) 80 :: L⟩ (fun v S' => v = .int .i64 r.1 ∧ S' = ⟨ρ,.row g_f0.s_Tenants.1 r.2.Tenants.length g_f0.s_Tenants.2 50 12 (fl eTenantState.en r.2.Tenants) :: .row g_f0.s_Cells.1 r.2.Cells.length g_f0.s_Cells.2 67 4 (fl eCellState.en r.2.Cells) :: .obj bf0 (en_state_fold ({ f0 with s := r.2 }) g_f0) 80 :: L⟩) := by
 replace h := h_in h
 refine HC.intro (N := 95) (args := [_]) tt_ok Try.func49 rfl (by decide +kernel) rfl (Nat.le_of_ble_eq_true rfl) ?_
 refine r_bind ?_
 refine r_done ?_
 refine r_bind ?_
 refine r_ld 2 tt_ok (v := .int .i64 f0.e.Cell) ts_3 rfl (by kernel_rfl) ?_
 refine r_done ?_
 refine r_bind ?_
 refine r_bind ?_
 replace h := h_b h; obtain ⟨x1,hx2,h⟩ := h
 refine r_ld 2 tt_ok (v := .pointer (some ((adr g_f0.s_Tenants.1).add (f0.e.Tenant.toNat * 12)))) ts_77 rfl (by rw [← fptr_at h_f0_t hx2]; kernel_rfl) ?_
 refine r_kp [(0,.pointer (some ⟨bf0,0,none⟩)),(3,.int .i64 f0.e.Cell),(12,.pointer (some ((adr g_f0.s_Tenants.1).add (f0.e.Tenant.toNat * 12))))] (by kernel_rfl) fun fr => ?_
 refine r_lec (E := eTenantState) tt_ok (v := .bool x1.Placed) (idx_get hx2) (rd_row 0 rfl) ts_4 rfl (pl1 _ _ _) (by kernel_rfl) ?_
 refine r_done ?_
 refine r_ite (fun hb3 => ?_) (fun hb3 => ?_)
 ·replace h := h_t h hb3
  clear hb3
  refine r_bind ?_
  refine r_done ?_
  repeat refine r_done ?_
  repeat refine r_done ?_
  obtain rfl := h_out h
  exact ret_of (RV.tmp RV.nil) (Le.refl _) ⟨rfl,rfl⟩
 ·replace h := h_f h hb3
  clear hb3
  refine r_done ?_
  refine r_bind ?_
  refine r_bind ?_
  refine r_done ?_
  refine r_ite (fun hb4 => ?_) (fun hb4 => ?_)
  ·replace h := h_t h hb4
   clear hb4
   refine r_bind ?_
   refine r_ld 2 tt_ok (v := .pointer (some ((adr g_f0.s_Tenants.1).add (f0.e.Tenant.toNat * 12)))) ts_77 rfl (by rw [← fptr_at h_f0_t hx2]; kernel_rfl) ?_
   refine r_kp [(22,.pointer (some ((adr g_f0.s_Tenants.1).add (f0.e.Tenant.toNat * 12))))] (by kernel_rfl) fun fr => ?_
   refine r_sec 0 (E := eTenantState) tt_ok ({ x1 with Next := (-1) }) (idx_get hx2) (fit1 ts_3 (by kernel_rfl)) rfl rfl (pl1 _ _ _) (by kernel_rfl) (by kernel_rfl) (List.cons_ne_nil _ _) ?_
   rw [show (en_state_fold f0 g_f0) = (en_state_fold ({ f0 with s := { f0.s with Tenants := (f0.s.Tenants.set f0.e.Tenant.toNat ({ x1 with Next := (-1) })) } }) g_f0) by simp [en_state_fold]]
   rw [← @List.length_set _ f0.s.Tenants f0.e.Tenant.toNat ({ x1 with Next := (-1) })]
   refine r_done ?_
   refine r_bind ?_
   refine r_done ?_
   repeat refine r_done ?_
   repeat refine r_done ?_
   obtain rfl := h_out h
   exact ret_of (RV.tmp RV.nil) (Le.refl _) ⟨rfl,rfl⟩
  ·replace h := h_f h hb4
   clear hb4
   refine r_done ?_
   refine r_bind ?_
   refine r_bind ?_
   refine r_bind ?_
   refine r_meet (fun fr S => ∃ fr0,fr = updL [(0,.pointer (some ⟨bf0,0,none⟩)),(3,.int .i64 f0.e.Cell),(25,.bool ((decide (f0.e.Cell = x1.Home)) || ((decide (f0.e.Cell = x1.Standby)) || (decide (f0.e.Cell = x1.Target)))))] fr0 ∧ S = ⟨ρ,.row g_f0.s_Tenants.1 f0.s.Tenants.length g_f0.s_Tenants.2 50 12 (fl eTenantState.en f0.s.Tenants) :: .row g_f0.s_Cells.1 f0.s.Cells.length g_f0.s_Cells.2 67 4 (fl eCellState.en f0.s.Cells) :: .obj bf0 (en_state_fold f0 g_f0) 80 :: L⟩) ?_ ?_
   ·refine r_ld 2 tt_ok (v := .pointer (some ((adr g_f0.s_Tenants.1).add (f0.e.Tenant.toNat * 12)))) ts_77 rfl (by rw [← fptr_at h_f0_t hx2]; kernel_rfl) ?_
    refine r_kp [(0,.pointer (some ⟨bf0,0,none⟩)),(3,.int .i64 f0.e.Cell),(26,.int .i64 f0.e.Cell),(30,.pointer (some ((adr g_f0.s_Tenants.1).add (f0.e.Tenant.toNat * 12))))] (by kernel_rfl) fun fr => ?_
    refine r_lec (E := eTenantState) tt_ok (v := .int .i64 x1.Home) (idx_get hx2) (rd_row 0 rfl) ts_3 rfl (pl1 _ _ _) (by kernel_rfl) ?_
    refine r_ite (fun (hb5 : (decide (f0.e.Cell = x1.Home)) = true) => ?_) (fun (hb5 : (decide (f0.e.Cell = x1.Home)) = false) => ?_)
    ·refine r_T rfl ?_
     refine r_T rfl ?_
     refine r_T rfl ?_
     refine r_kp [(0,.pointer (some ⟨bf0,0,none⟩)),(3,.int .i64 f0.e.Cell),(35,.bool true),(36,undef),(39,undef)] (by kernel_rfl) fun fr => ?_
     refine r_T rfl ?_
     refine r_T rfl ?_
     refine r_T rfl ?_
     refine r_T rfl ?_
     refine r_T rfl ?_
     refine r_T rfl ?_
     refine r_T rfl ?_
     refine r_T rfl ?_
     refine r_kp [(0,.pointer (some ⟨bf0,0,none⟩)),(3,.int .i64 f0.e.Cell),(46,.bool true),(47,undef),(48,undef)] (by kernel_rfl) fun fr => ?_
     refine r_T rfl ?_
     refine r_T rfl ?_
     refine r_T rfl ?_
     refine r_T rfl ?_
     refine r_T rfl ?_
     refine r_T rfl ?_
     refine r_T rfl ?_
     refine r_T rfl ?_
     refine r_keep [(0,.pointer (some ⟨bf0,0,none⟩)),(3,.int .i64 f0.e.Cell),(25,.bool true)] (by kernel_rfl) fun fr => ?_
     exact r_done ⟨_,fr_eq _ (by (try rw [hb5]); kernel_rfl),(by kernel_rfl)⟩
    ·refine r_F rfl ?_
     refine r_F rfl ?_
     refine r_F rfl ?_
     refine r_kp [(0,.pointer (some ⟨bf0,0,none⟩)),(3,.int .i64 f0.e.Cell),(35,.bool false),(36,.int .i64 f0.e.Cell),(39,.pointer (some ⟨bf0,27,none⟩))] (by kernel_rfl) fun fr => ?_
     refine r_F rfl ?_
     refine r_ld 2 tt_ok (v := .pointer (some ((adr g_f0.s_Tenants.1).add (f0.e.Tenant.toNat * 12)))) ts_77 rfl (by rw [← fptr_at h_f0_t hx2]; kernel_rfl) ?_
     refine r_F rfl ?_
     refine r_F rfl ?_
     refine r_F rfl ?_
     refine r_lec (E := eTenantState) tt_ok (v := .int .i64 x1.Standby) (idx_get hx2) (rd_row 0 rfl) ts_3 rfl (pl1 _ _ _) (by kernel_rfl) ?_
     refine r_F rfl ?_
     refine r_ite (fun (hb6 : (decide (f0.e.Cell = x1.Standby)) = true) => ?_) (fun (hb6 : (decide (f0.e.Cell = x1.Standby)) = false) => ?_)
     ·refine r_T rfl ?_
      refine r_kp [(0,.pointer (some ⟨bf0,0,none⟩)),(3,.int .i64 f0.e.Cell),(46,.bool true),(47,undef),(48,undef)] (by kernel_rfl) fun fr => ?_
      refine r_T rfl ?_
      refine r_T rfl ?_
      refine r_T rfl ?_
      refine r_T rfl ?_
      refine r_T rfl ?_
      refine r_T rfl ?_
      refine r_T rfl ?_
      refine r_T rfl ?_
      refine r_keep [(0,.pointer (some ⟨bf0,0,none⟩)),(3,.int .i64 f0.e.Cell),(25,.bool true)] (by kernel_rfl) fun fr => ?_
      exact r_done ⟨_,fr_eq _ (by (try rw [hb6]); (try rw [hb5]); kernel_rfl),(by kernel_rfl)⟩
     ·refine r_F rfl ?_
      refine r_kp [(0,.pointer (some ⟨bf0,0,none⟩)),(3,.int .i64 f0.e.Cell),(46,.bool false),(47,.int .i64 f0.e.Cell),(48,.pointer (some ⟨bf0,0,none⟩))] (by kernel_rfl) fun fr => ?_
      refine r_F rfl ?_
      refine r_F rfl ?_
      refine r_F rfl ?_
      refine r_ld 2 tt_ok (v := .pointer (some ((adr g_f0.s_Tenants.1).add (f0.e.Tenant.toNat * 12)))) ts_77 rfl (by rw [← fptr_at h_f0_t hx2]; kernel_rfl) ?_
      refine r_F rfl ?_
      refine r_F rfl ?_
      refine r_F rfl ?_
      refine r_lec (E := eTenantState) tt_ok (v := .int .i64 x1.Target) (idx_get hx2) (rd_row 0 rfl) ts_3 rfl (pl1 _ _ _) (by kernel_rfl) ?_
      refine r_F rfl ?_
      refine r_keep [(0,.pointer (some ⟨bf0,0,none⟩)),(3,.int .i64 f0.e.Cell),(25,.bool (decide (f0.e.Cell = x1.Target)))] (by kernel_rfl) fun fr => ?_
      exact r_done ⟨_,fr_eq _ (by (try rw [hb6]); (try rw [hb5]); kernel_rfl),(by kernel_rfl)⟩
   rintro fr S ⟨fr,rfl,rfl⟩
   refine r_done ?_
   refine r_ite (fun hb7 => ?_) (fun hb7 => ?_)
   ·replace h := h_t h hb7
    clear hb7
    refine r_bind ?_
    refine r_done ?_
    repeat refine r_done ?_
    repeat refine r_done ?_
    obtain rfl := h_out h
    exact ret_of (RV.tmp RV.nil) (Le.refl _) ⟨rfl,rfl⟩
   ·replace h := h_f h hb7
    clear hb7
    refine r_bind ?_
    replace h := h_b h; obtain ⟨x9,hx8,h⟩ := h
    refine r_call (hc_71 (bf0 := bf0) (g_f0 := g_f0) (f0 := f0) (cell1 := f0.e.Cell) (hS_f0 := by exact (le_d 0).trans hS_f0) (h_f0 := by exact h_f0) (h_f0_t := by exact h_f0_t) (h_f0_cell := by exact h_f0_cell) (h := hx8)) ?_
    rintro _ _ ⟨rfl,rfl⟩
    refine r_done ?_
    refine r_ite (fun hb10 => ?_) (fun hb10 => ?_)
    ·replace h := h_t h hb10
     clear hb10
     refine r_bind ?_
     refine r_done ?_
     repeat refine r_done ?_
     repeat refine r_done ?_
     obtain rfl := h_out h
     exact ret_of (RV.tmp RV.nil) (Le.refl _) ⟨rfl,rfl⟩
    ·replace h := h_f h hb10
     clear hb10
     refine r_bind ?_
     replace h := h_b h; obtain ⟨x12,hx11,h⟩ := h
     refine r_call (hc_72 (bf0 := bf0) (g_f0 := g_f0) (f0 := f0) (cell1 := f0.e.Cell) (hS_f0 := by exact (le_d 0).trans hS_f0) (h_f0 := by exact h_f0) (h_f0_t := by exact h_f0_t) (h_f0_cell := by exact h_f0_cell) (h := hx11)) ?_
     rintro _ _ ⟨rfl,rfl⟩
     refine r_keep [(0,.pointer (some ⟨bf0,0,none⟩)),(3,.int .i64 f0.e.Cell),(62,.bool x12)] (by kernel_rfl) fun fr => ?_
     refine r_done ?_
     refine r_ite (fun hb13 => ?_) (fun hb13 => ?_)
     ·replace h := h_t h hb13
      clear hb13
      refine r_bind ?_
      refine r_done ?_
      repeat refine r_done ?_
      repeat refine r_done ?_
      obtain rfl := h_out h
      exact ret_of (RV.tmp RV.nil) (Le.refl _) ⟨rfl,rfl⟩
     ·replace h := h_f h hb13
      clear hb13
      refine r_bind ?_
      refine r_mix tt_ok hm_ok _ _ [] (.pure 0 (.pure 1 (.pure 2 (.pure 3 (.pure 4 (.vb 5 (.pure 6 (.pure 7 (.vb 8 (.pure 9 (.pure 10 (.pure 11 (.vb 12 (.pure 13 (.pure 14 (.vb 15 (.eff 16 (.eff 17 (.pure 18 (.pure 19 .nil)))))))))))))))))))) (le_w [true,true,true]) (le_w [true,true,true]) ?_ ?_
      ·decide +kernel
      refine x_p rfl ?_
      refine v_done ?_
      refine x_p rfl ?_
      refine v_done ?_
      refine x_p rfl ?_
      refine v_done ?_
      refine x_p rfl ?_
      refine v_done ?_
      refine x_p rfl ?_
      refine v_done ?_
      refine x_vb rfl ?_
      refine v_ld 2 tt_ok (v := .pointer (some ((adr g_f0.s_Tenants.1).add (f0.e.Tenant.toNat * 12)))) ts_77 rfl (by rw [← fptr_at h_f0_t hx2]; kernel_rfl) ?_
      refine v_done ?_
      refine x_p rfl ?_
      refine v_done ?_
      refine x_p rfl ?_
      refine v_done ?_
      refine x_vb rfl ?_
      refine v_lec (E := eTenantState) tt_ok (v := .int .i64 x1.Home) (idx_get hx2) (rd_row 0 rfl) ts_3 rfl (pl1 _ _ _) (by kernel_rfl) ?_
      refine v_done ?_
      refine x_kp [(0,.pointer (some ⟨bf0,0,none⟩)),(3,.int .i64 f0.e.Cell),(67,.pointer (some ⟨bf0,0,none⟩)),(68,.int .i64 f0.e.Cell),(75,.int .i64 x1.Home)] (by kernel_rfl) fun fr => ?_
      refine x_p rfl ?_
      refine v_done ?_
      refine x_p rfl ?_
      refine v_done ?_
      refine x_p rfl ?_
      refine v_done ?_
      refine x_vb rfl ?_
      refine v_ld 2 tt_ok (v := .pointer (some ((adr g_f0.s_Tenants.1).add (f0.e.Tenant.toNat * 12)))) ts_77 rfl (by rw [← fptr_at h_f0_t hx2]; kernel_rfl) ?_
      refine v_done ?_
      refine x_p rfl ?_
      refine v_done ?_
      refine x_p rfl ?_
      refine v_done ?_
      refine x_vb rfl ?_
      refine v_lec (E := eTenantState) tt_ok (v := .int .i64 x1.Target) (idx_get hx2) (rd_row 0 rfl) ts_3 rfl (pl1 _ _ _) (by kernel_rfl) ?_
      refine v_done ?_
      refine x_e rfl ?_
      refine r_bs tt_ok (fl eI64.en [x1.Home,x1.Target]) te_22 ti_3 (by kernel_rfl) (by kernel_rfl) (by kernel_rfl) (by kernel_rfl) fun bq14 => ?_
      refine r_done ⟨rfl,k_a (le_w [false,true,true,true]) (le_w [false,true,true,true]),?_⟩
      refine x_e rfl ?_
      refine r_le ((le_mv 3).trans ((le_mv 3).trans (le_mv 3))) ?_
      replace h := h_b h; obtain ⟨x16,hx15,h⟩ := h
      refine r_call (hc_73 (bf0 := bf0) (g_f0 := g_f0) (f0 := f0) (cell1 := f0.e.Cell) (A_others2 := (some ⟨bq14,0,none⟩)) (c_others2 := 2) (others2 := [x1.Home,x1.Target]) (hS_f0 := by exact (le_d 1).trans hS_f0) (h_f0 := by exact h_f0) (hS_others2 := by exact Le.refl _) (h_others2 := by exact sl_row 0 rfl) (h_f0_t := by exact h_f0_t) (h_f0_cell := by exact h_f0_cell) (h := hx15)) ?_
      rintro _ _ ⟨rfl,rfl⟩
      refine r_done ⟨rfl,k_a (le_w [true,true,true,false]) (le_w [true,true,true,false]),?_⟩
      refine x_kp [(0,.pointer (some ⟨bf0,0,none⟩)),(3,.int .i64 f0.e.Cell),(84,.bool x16)] (by kernel_rfl) fun fr => ?_
      refine x_p rfl ?_
      refine v_done ?_
      refine x_p rfl ?_
      refine v_done ?_
      refine x_k [(0,.pointer (some ⟨bf0,0,none⟩)),(3,.int .i64 f0.e.Cell),(66,.bool (!x16))] (by kernel_rfl) fun fr => ?_
      refine r_done ?_
      refine r_ite (fun hb17 => ?_) (fun hb17 => ?_)
      ·replace h := h_t h hb17
       clear hb17
       refine r_bind ?_
       refine r_done ?_
       repeat refine r_done ?_
       repeat refine r_done ?_
       obtain rfl := h_out h
       exact ret_of (RV.tmp RV.nil) (le_w [true,true,true,false]) ⟨rfl,rfl⟩
      ·replace h := h_f h hb17
       clear hb17
       refine r_done ?_
       refine r_done ?_
       refine r_bind ?_
       refine r_ld 2 tt_ok (v := .pointer (some ((adr g_f0.s_Tenants.1).add (f0.e.Tenant.toNat * 12)))) ts_77 rfl (by rw [← fptr_at h_f0_t hx2]; kernel_rfl) ?_
       refine r_sec 0 (E := eTenantState) tt_ok ({ x1 with Next := f0.e.Cell }) (idx_get hx2) (fit1 ts_3 (by kernel_rfl)) rfl rfl (pl1 _ _ _) (by kernel_rfl) (by kernel_rfl) (List.cons_ne_nil _ _) ?_
       rw [show (en_state_fold f0 g_f0) = (en_state_fold ({ f0 with s := { f0.s with Tenants := (f0.s.Tenants.set f0.e.Tenant.toNat ({ x1 with Next := f0.e.Cell })) } }) g_f0) by simp [en_state_fold]]
       rw [← @List.length_set _ f0.s.Tenants f0.e.Tenant.toNat ({ x1 with Next := f0.e.Cell })]
       refine r_done ?_
       refine r_bind ?_
       replace h := h_b h; obtain ⟨x19,hx18,h⟩ := h
       refine r_call (hc_74 (bf0 := bf0) (g_f0 := g_f0) (f0 := { f0 with s := { f0.s with Tenants := (f0.s.Tenants.set f0.e.Tenant.toNat ({ x1 with Next := f0.e.Cell })) } }) (hS_f0 := by exact (le_d 1).trans hS_f0) (h_f0 := by exact h_f0) (h_f0_t := by exact h_f0_t) (h_f0_cell := by exact h_f0_cell) (h := hx18)) ?_
       rintro _ _ ⟨rfl,rfl⟩
       refine r_kp [(94,.int .i64 x19)] (by kernel_rfl) fun fr => ?_
       refine r_done ?_
       repeat refine r_done ?_
       repeat refine r_done ?_
       obtain rfl := h_out h
       exact ret_of (RV.tmp RV.nil) (le_w [true,true,true,false]) ⟨rfl,rfl⟩
theorem hc_50 {ρ : Addr → Option Value} {L : List Ent} {bf0 : Nat} {g_f0 : gstate_fold} {S_f0 : St} (hS_f0 : Le ⟨ρ,L⟩ S_f0) (f0 : state_fold) (h_f0 : Sl_state_fold S_f0 f0 g_f0) (h_f0_t : g_f0.t = fptr g_f0.s_Tenants.1 f0.e.Tenant 12) (h_f0_cell : g_f0.cell = fptr g_f0.s_Cells.1 f0.e.Cell 4) {r : (Int × State)} (h : state_fold_ready f0 = some r) : HC Try.prog 50 #[.pointer (some ⟨bf0,0,none⟩)] ⟨ρ,.row g_f0.s_Tenants.1 f0.s.Tenants.length g_f0.s_Tenants.2 50 12 (fl eTenantState.en f0.s.Tenants) :: .row g_f0.s_Cells.1 f0.s.Cells.length g_f0.s_Cells.2 67 4 (fl eCellState.en f0.s.Cells) :: .obj bf0 (en_state_fold f0 g_f0) 80 :: L⟩ (fun v S' => v = .int .i64 r.1 ∧ S' = ⟨ρ,.row g_f0.s_Tenants.1 r.2.Tenants.length g_f0.s_Tenants.2 50 12 (fl eTenantState.en r.2.Tenants) :: .row g_f0.s_Cells.1 r.2.Cells.length g_f0.s_Cells.2 67 4 (fl eCellState.en r.2.Cells) :: .obj bf0 (en_state_fold ({ f0 with s := r.2 }) g_f0) 80 :: L⟩) := by
 replace h := h_in h
 refine HC.intro (N := 52) (args := [_]) tt_ok Try.func50 rfl (by decide +kernel) rfl (Nat.le_of_ble_eq_true rfl) ?_
 refine r_bind ?_
 refine r_done ?_
 refine r_bind ?_
 refine r_bind ?_
 refine r_bind ?_
 replace h := h_b h; obtain ⟨x1,hx2,h⟩ := h
 refine r_ld 2 tt_ok (v := .pointer (some ((adr g_f0.s_Tenants.1).add (f0.e.Tenant.toNat * 12)))) ts_77 rfl (by rw [← fptr_at h_f0_t hx2]; kernel_rfl) ?_
 refine r_lec (E := eTenantState) tt_ok (v := .bool x1.Placed) (idx_get hx2) (rd_row 0 rfl) ts_4 rfl (pl1 _ _ _) (by kernel_rfl) ?_
 refine r_keep [(0,.pointer (some ⟨bf0,0,none⟩)),(3,.bool (!x1.Placed))] (by kernel_rfl) fun fr => ?_
 refine r_done ?_
 refine r_ite (fun hb3 => ?_) (fun hb3 => ?_)
 ·replace h := h_t h hb3
  clear hb3
  refine r_bind ?_
  refine r_done ?_
  repeat refine r_done ?_
  repeat refine r_done ?_
  obtain rfl := h_out h
  exact ret_of (RV.tmp RV.nil) (Le.refl _) ⟨rfl,rfl⟩
 ·replace h := h_f h hb3
  clear hb3
  refine r_bind ?_
  refine r_mix tt_ok hm_ok _ _ [] (.pure 0 (.pure 1 (.pure 2 (.pure 3 (.vb 4 (.pure 5 (.pure 6 (.pure 7 (.vb 8 (.pure 9 (.pure 10 (.vb 11 (.pure 12 (.pure 13 .nil)))))))))))))) (le_w [true,true,true]) (le_w [true,true,true]) ?_ ?_
  ·decide +kernel
  refine x_p rfl ?_
  refine v_done ?_
  refine x_p rfl ?_
  refine v_done ?_
  refine x_p rfl ?_
  refine v_done ?_
  refine x_p rfl ?_
  refine v_done ?_
  refine x_vb rfl ?_
  refine v_ld 2 tt_ok (v := .int .i64 f0.e.Cell) ts_3 rfl (by kernel_rfl) ?_
  refine v_done ?_
  refine x_p rfl ?_
  refine v_done ?_
  refine x_p rfl ?_
  refine v_done ?_
  refine x_p rfl ?_
  refine v_done ?_
  refine x_vb rfl ?_
  refine v_ld 2 tt_ok (v := .pointer (some ((adr g_f0.s_Tenants.1).add (f0.e.Tenant.toNat * 12)))) ts_77 rfl (by rw [← fptr_at h_f0_t hx2]; kernel_rfl) ?_
  refine v_done ?_
  refine x_kp [(0,.pointer (some ⟨bf0,0,none⟩)),(17,.int .i64 f0.e.Cell),(21,.pointer (some ((adr g_f0.s_Tenants.1).add (f0.e.Tenant.toNat * 12))))] (by kernel_rfl) fun fr => ?_
  refine x_p rfl ?_
  refine v_done ?_
  refine x_p rfl ?_
  refine v_done ?_
  refine x_vb rfl ?_
  refine v_lec (E := eTenantState) tt_ok (v := .int .i64 x1.Next) (idx_get hx2) (rd_row 0 rfl) ts_3 rfl (pl1 _ _ _) (by kernel_rfl) ?_
  refine v_done ?_
  refine x_p rfl ?_
  refine v_done ?_
  refine x_p rfl ?_
  refine v_done ?_
  refine x_k [(0,.pointer (some ⟨bf0,0,none⟩)),(12,.bool (!decide (f0.e.Cell = x1.Next)))] (by kernel_rfl) fun fr => ?_
  refine r_done ?_
  refine r_ite (fun hb4 => ?_) (fun hb4 => ?_)
  ·replace h := h_t h hb4
   clear hb4
   refine r_bind ?_
   refine r_done ?_
   repeat refine r_done ?_
   repeat refine r_done ?_
   obtain rfl := h_out h
   exact ret_of (RV.tmp RV.nil) (Le.refl _) ⟨rfl,rfl⟩
  ·replace h := h_f h hb4
   clear hb4
   refine r_bind ?_
   replace h := h_b h; obtain ⟨x5,hx6,h⟩ := h
   refine r_ld 2 tt_ok (v := .pointer (some ((adr g_f0.s_Cells.1).add (f0.e.Cell.toNat * 4)))) ts_78 rfl (by rw [← fptr_at h_f0_cell hx6]; kernel_rfl) ?_
   refine r_lec (E := eCellState) tt_ok (v := .int .i64 x5.Mode) (idx_get hx6) (rd_row 1 rfl) ts_3 rfl (pl1 _ _ _) (by kernel_rfl) ?_
   refine r_keep [(0,.pointer (some ⟨bf0,0,none⟩)),(26,.bool (decide (x5.Mode = 3)))] (by kernel_rfl) fun fr => ?_
   refine r_done ?_
   refine r_ite (fun hb7 => ?_) (fun hb7 => ?_)
   ·replace h := h_t h hb7
    clear hb7
    refine r_bind ?_
    refine r_done ?_
    repeat refine r_done ?_
    repeat refine r_done ?_
    obtain rfl := h_out h
    exact ret_of (RV.tmp RV.nil) (Le.refl _) ⟨rfl,rfl⟩
   ·replace h := h_f h hb7
    clear hb7
    refine r_done ?_
    refine r_done ?_
    refine r_bind ?_
    refine r_mix tt_ok hm_ok _ _ [] (.pure 0 (.pure 1 (.pure 2 (.vb 3 (.pure 4 (.pure 5 (.pure 6 (.vb 7 (.pure 8 (.pure 9 (.pure 10 (.pure 11 (.vb 12 (.pure 13 (.pure 14 (.eff 15 (.pure 16 (.pure 17 (.eff 18 .nil))))))))))))))))))) (le_w [false,true,true]) (le_w [false,true,true]) ?_ ?_
    ·decide +kernel
    refine x_p rfl ?_
    refine v_done ?_
    refine x_p rfl ?_
    refine v_done ?_
    refine x_p rfl ?_
    refine v_done ?_
    refine x_vb rfl ?_
    refine v_ld 1 tt_ok (v := .pointer (some ((adr g_f0.s_Tenants.1).add (f0.e.Tenant.toNat * 12)))) ts_77 rfl (by rw [← fptr_at h_f0_t hx2]; kernel_rfl) ?_
    refine v_done ?_
    refine x_p rfl ?_
    refine v_done ?_
    refine x_p rfl ?_
    refine v_done ?_
    refine x_p rfl ?_
    refine v_done ?_
    refine x_vb rfl ?_
    refine v_ld 1 tt_ok (v := .pointer (some ((adr g_f0.s_Tenants.1).add (f0.e.Tenant.toNat * 12)))) ts_77 rfl (by rw [← fptr_at h_f0_t hx2]; kernel_rfl) ?_
    refine v_done ?_
    refine x_p rfl ?_
    refine v_done ?_
    refine x_kp [(38,.pointer (some ((adr g_f0.s_Tenants.1).add (f0.e.Tenant.toNat * 12)))),(42,.pointer (some ((adr g_f0.s_Tenants.1).add (f0.e.Tenant.toNat * 12)))),(43,.pointer (some ⟨bf0,0,none⟩))] (by kernel_rfl) fun fr => ?_
    refine x_p rfl ?_
    refine v_done ?_
    refine x_p rfl ?_
    refine v_done ?_
    refine x_p rfl ?_
    refine v_done ?_
    refine x_vb rfl ?_
    refine v_ld 1 tt_ok (v := .int .i64 f0.e.Cell) ts_3 rfl (by kernel_rfl) ?_
    refine v_done ?_
    refine x_p rfl ?_
    refine v_done ?_
    refine x_p rfl ?_
    refine v_done ?_
    refine x_e rfl ?_
    refine r_sec 0 (E := eTenantState) tt_ok ({ x1 with Standby := f0.e.Cell }) (idx_get hx2) (fit1 ts_3 (by kernel_rfl)) rfl rfl (pl1 _ _ _) (by kernel_rfl) (by kernel_rfl) (List.cons_ne_nil _ _) ?_
    rw [show (en_state_fold f0 g_f0) = (en_state_fold ({ f0 with s := { f0.s with Tenants := (f0.s.Tenants.set f0.e.Tenant.toNat ({ x1 with Standby := f0.e.Cell })) } }) g_f0) by simp [en_state_fold]]
    rw [← @List.length_set _ f0.s.Tenants f0.e.Tenant.toNat ({ x1 with Standby := f0.e.Cell })]
    refine r_done ⟨rfl,k_a (le_w [false,true,true]) (le_w [false,true,true]),?_⟩
    refine x_p rfl ?_
    refine v_done ?_
    refine x_p rfl ?_
    refine v_done ?_
    refine x_kp [(51,.pointer (some (((adr g_f0.s_Tenants.1).add (f0.e.Tenant.toNat * 12)).add 4)))] (by kernel_rfl) fun fr => ?_
    refine x_e rfl ?_
    refine r_sec 0 (E := eTenantState) tt_ok ({ x1 with Standby := f0.e.Cell,Next := (-1) }) (get_set (idx_get hx2) _) (fit1 ts_3 (by kernel_rfl)) rfl rfl (pl1 _ _ _) (by kernel_rfl) (by kernel_rfl) (List.cons_ne_nil _ _) ?_
    rw [show (en_state_fold ({ f0 with s := { f0.s with Tenants := (f0.s.Tenants.set f0.e.Tenant.toNat ({ x1 with Standby := f0.e.Cell })) } }) g_f0) = (en_state_fold ({ f0 with s := { f0.s with Tenants := ((f0.s.Tenants.set f0.e.Tenant.toNat ({ x1 with Standby := f0.e.Cell })).set f0.e.Tenant.toNat ({ x1 with Standby := f0.e.Cell,Next := (-1) })) } }) g_f0) by simp [en_state_fold]]
    rw [← @List.length_set _ (f0.s.Tenants.set f0.e.Tenant.toNat ({ x1 with Standby := f0.e.Cell })) f0.e.Tenant.toNat ({ x1 with Standby := f0.e.Cell,Next := (-1) })]
    refine r_done ⟨rfl,k_a (le_w [false,true,true]) (le_w [false,true,true]),?_⟩
    refine x_k [] (by kernel_rfl) fun fr => ?_
    refine r_done ?_
    refine r_bind ?_
    refine r_done ?_
    repeat refine r_done ?_
    repeat refine r_done ?_
    obtain rfl := h_out h
    exact ret_of (RV.tmp RV.nil) (Le.refl _) ⟨rfl,rfl⟩
theorem hc_51 {ρ : Addr → Option Value} {L : List Ent} {bf0 : Nat} {g_f0 : gstate_fold} {S_f0 : St} (hS_f0 : Le ⟨ρ,L⟩ S_f0) (f0 : state_fold) (h_f0 : Sl_state_fold S_f0 f0 g_f0) (h_f0_t : g_f0.t = fptr g_f0.s_Tenants.1 f0.e.Tenant 12) (h_f0_cell : g_f0.cell = fptr g_f0.s_Cells.1 f0.e.Cell 4) {r : (Int × State)} (h : state_fold_migrate f0 = some r) : HC Try.prog 51 #[.pointer (some ⟨bf0,0,none⟩)] ⟨ρ,.row g_f0.s_Tenants.1 f0.s.Tenants.length g_f0.s_Tenants.2 50 12 (fl eTenantState.en f0.s.Tenants) :: .row g_f0.s_Cells.1 f0.s.Cells.length g_f0.s_Cells.2 67 4 (fl eCellState.en f0.s.Cells) :: .obj bf0 (en_state_fold f0 g_f0) 80 :: L⟩ (fun v S' => v = .int .i64 r.1 ∧ S' = ⟨ρ,.row g_f0.s_Tenants.1 r.2.Tenants.length g_f0.s_Tenants.2 50 12 (fl eTenantState.en r.2.Tenants) :: .row g_f0.s_Cells.1 r.2.Cells.length g_f0.s_Cells.2 67 4 (fl eCellState.en r.2.Cells) :: .obj bf0 (en_state_fold ({ f0 with s := r.2 }) g_f0) 80 :: L⟩) := by
 replace h := h_in h
 refine HC.intro (N := 107) (args := [_]) tt_ok Try.func51 rfl (by decide +kernel) rfl (Nat.le_of_ble_eq_true rfl) ?_
 refine r_bind ?_
 refine r_done ?_
 refine r_bind ?_
 refine r_ld 2 tt_ok (v := .int .i64 f0.e.Cell) ts_3 rfl (by kernel_rfl) ?_
 refine r_done ?_
 refine r_bind ?_
 refine r_bind ?_
 refine r_bind ?_
 replace h := h_j h; obtain ⟨K6,h,hK7⟩ := h
 refine r_meet (fun fr S => ∃ (x5 : Bool),∃ fr0,K6 x5 = some r ∧ fr = updL [(0,.pointer (some ⟨bf0,0,none⟩)),(3,.int .i64 f0.e.Cell),(9,.bool x5)] fr0 ∧ S = ⟨ρ,.row g_f0.s_Tenants.1 f0.s.Tenants.length g_f0.s_Tenants.2 50 12 (fl eTenantState.en f0.s.Tenants) :: .row g_f0.s_Cells.1 f0.s.Cells.length g_f0.s_Cells.2 67 4 (fl eCellState.en f0.s.Cells) :: .obj bf0 (en_state_fold f0 g_f0) 80 :: L⟩) ?_ ?_
 ·replace h := h_b h; obtain ⟨x1,hx2,h⟩ := h
  refine r_ld 2 tt_ok (v := .pointer (some ((adr g_f0.s_Tenants.1).add (f0.e.Tenant.toNat * 12)))) ts_77 rfl (by rw [← fptr_at h_f0_t hx2]; kernel_rfl) ?_
  refine r_kp [(0,.pointer (some ⟨bf0,0,none⟩)),(3,.int .i64 f0.e.Cell),(13,.pointer (some ((adr g_f0.s_Tenants.1).add (f0.e.Tenant.toNat * 12))))] (by kernel_rfl) fun fr => ?_
  refine r_lec (E := eTenantState) tt_ok (v := .bool x1.Placed) (idx_get hx2) (rd_row 0 rfl) ts_4 rfl (pl1 _ _ _) (by kernel_rfl) ?_
  refine r_ite (fun (hb3 : (!x1.Placed) = true) => ?_) (fun (hb3 : (!x1.Placed) = false) => ?_)
  ·replace h := h_t h hb3
   clear hb3
   refine r_T rfl ?_
   refine r_T rfl ?_
   refine r_T rfl ?_
   refine r_kp [(0,.pointer (some ⟨bf0,0,none⟩)),(3,.int .i64 f0.e.Cell),(18,.bool true),(22,undef)] (by kernel_rfl) fun fr => ?_
   refine r_T rfl ?_
   refine r_T rfl ?_
   refine r_T rfl ?_
   refine r_T rfl ?_
   refine r_T rfl ?_
   refine r_T rfl ?_
   refine r_T rfl ?_
   refine r_T rfl ?_
   refine r_kp [(0,.pointer (some ⟨bf0,0,none⟩)),(3,.int .i64 f0.e.Cell),(27,.bool true),(31,undef)] (by kernel_rfl) fun fr => ?_
   refine r_T rfl ?_
   refine r_T rfl ?_
   refine r_T rfl ?_
   refine r_T rfl ?_
   refine r_T rfl ?_
   exact r_done ⟨true,_,h,fr_eq _ (by kernel_rfl),(by kernel_rfl)⟩
  ·replace h := h_f h hb3
   clear hb3
   refine r_F rfl ?_
   refine r_F rfl ?_
   refine r_F rfl ?_
   refine r_ld 2 tt_ok (v := .pointer (some ((adr g_f0.s_Tenants.1).add (f0.e.Tenant.toNat * 12)))) ts_77 rfl (by rw [← fptr_at h_f0_t hx2]; kernel_rfl) ?_
   refine r_kp [(0,.pointer (some ⟨bf0,0,none⟩)),(3,.int .i64 f0.e.Cell),(18,.bool false),(22,.pointer (some ((adr g_f0.s_Tenants.1).add (f0.e.Tenant.toNat * 12))))] (by kernel_rfl) fun fr => ?_
   refine r_F rfl ?_
   refine r_F rfl ?_
   refine r_F rfl ?_
   refine r_lec (E := eTenantState) tt_ok (v := .bool x1.Shed) (idx_get hx2) (rd_row 0 rfl) ts_4 rfl (pl1 _ _ _) (by kernel_rfl) ?_
   refine r_ite (fun (hb4 : x1.Shed = true) => ?_) (fun (hb4 : x1.Shed = false) => ?_)
   ·replace h := h_t h hb4
    clear hb4
    refine r_T rfl ?_
    refine r_T rfl ?_
    refine r_T rfl ?_
    refine r_kp [(0,.pointer (some ⟨bf0,0,none⟩)),(3,.int .i64 f0.e.Cell),(27,.bool true),(31,undef)] (by kernel_rfl) fun fr => ?_
    refine r_T rfl ?_
    refine r_T rfl ?_
    refine r_T rfl ?_
    refine r_T rfl ?_
    refine r_T rfl ?_
    exact r_done ⟨true,_,h,fr_eq _ (by kernel_rfl),(by kernel_rfl)⟩
   ·replace h := h_f h hb4
    clear hb4
    refine r_F rfl ?_
    refine r_F rfl ?_
    refine r_F rfl ?_
    refine r_ld 2 tt_ok (v := .pointer (some ((adr g_f0.s_Tenants.1).add (f0.e.Tenant.toNat * 12)))) ts_77 rfl (by rw [← fptr_at h_f0_t hx2]; kernel_rfl) ?_
    refine r_kp [(0,.pointer (some ⟨bf0,0,none⟩)),(3,.int .i64 f0.e.Cell),(27,.bool false),(31,.pointer (some ((adr g_f0.s_Tenants.1).add (f0.e.Tenant.toNat * 12))))] (by kernel_rfl) fun fr => ?_
    refine r_F rfl ?_
    refine r_F rfl ?_
    refine r_F rfl ?_
    refine r_lec (E := eTenantState) tt_ok (v := .int .i64 x1.Target) (idx_get hx2) (rd_row 0 rfl) ts_3 rfl (pl1 _ _ _) (by kernel_rfl) ?_
    refine r_F rfl ?_
    exact r_done ⟨!decide (x1.Target = (-1)),_,h,fr_eq _ (by kernel_rfl),(by kernel_rfl)⟩
 clear h
 rintro fr S ⟨x5,fr,h,rfl,rfl⟩
 replace h := hK7 _ h
 refine r_done ?_
 refine r_ite (fun hb8 => ?_) (fun hb8 => ?_)
 ·replace h := h_t h hb8
  clear hb8
  refine r_bind ?_
  refine r_done ?_
  repeat refine r_done ?_
  repeat refine r_done ?_
  obtain rfl := h_out h
  exact ret_of (RV.tmp RV.nil) (Le.refl _) ⟨rfl,rfl⟩
 ·replace h := h_f h hb8
  clear hb8
  refine r_bind ?_
  replace h := h_j h; obtain ⟨K14,h,hK15⟩ := h
  refine r_meet (fun fr S => ∃ (x13 : Bool),∃ fr0,K14 x13 = some r ∧ fr = updL [(0,.pointer (some ⟨bf0,0,none⟩)),(3,.int .i64 f0.e.Cell),(37,.bool x13)] fr0 ∧ S = ⟨ρ,.row g_f0.s_Tenants.1 f0.s.Tenants.length g_f0.s_Tenants.2 50 12 (fl eTenantState.en f0.s.Tenants) :: .row g_f0.s_Cells.1 f0.s.Cells.length g_f0.s_Cells.2 67 4 (fl eCellState.en f0.s.Cells) :: .obj bf0 (en_state_fold f0 g_f0) 80 :: L⟩) ?_ ?_
  ·replace h := h_b h; obtain ⟨x9,hx10,h⟩ := h
   refine r_ld 2 tt_ok (v := .pointer (some ((adr g_f0.s_Tenants.1).add (f0.e.Tenant.toNat * 12)))) ts_77 rfl (by rw [← fptr_at h_f0_t hx10]; kernel_rfl) ?_
   refine r_kp [(0,.pointer (some ⟨bf0,0,none⟩)),(3,.int .i64 f0.e.Cell),(38,.int .i64 f0.e.Cell),(42,.pointer (some ((adr g_f0.s_Tenants.1).add (f0.e.Tenant.toNat * 12))))] (by kernel_rfl) fun fr => ?_
   refine r_lec (E := eTenantState) tt_ok (v := .int .i64 x9.Home) (idx_get hx10) (rd_row 0 rfl) ts_3 rfl (pl1 _ _ _) (by kernel_rfl) ?_
   refine r_ite (fun (hb11 : (decide (f0.e.Cell = x9.Home)) = true) => ?_) (fun (hb11 : (decide (f0.e.Cell = x9.Home)) = false) => ?_)
   ·replace h := h_t h hb11
    clear hb11
    refine r_T rfl ?_
    refine r_T rfl ?_
    refine r_T rfl ?_
    refine r_kp [(0,.pointer (some ⟨bf0,0,none⟩)),(3,.int .i64 f0.e.Cell),(47,.bool true),(48,undef),(51,undef)] (by kernel_rfl) fun fr => ?_
    refine r_T rfl ?_
    refine r_T rfl ?_
    refine r_T rfl ?_
    refine r_T rfl ?_
    refine r_T rfl ?_
    refine r_T rfl ?_
    refine r_T rfl ?_
    refine r_T rfl ?_
    refine r_kp [(0,.pointer (some ⟨bf0,0,none⟩)),(3,.int .i64 f0.e.Cell),(58,.bool true),(59,undef),(60,undef)] (by kernel_rfl) fun fr => ?_
    refine r_T rfl ?_
    refine r_T rfl ?_
    refine r_T rfl ?_
    refine r_T rfl ?_
    refine r_T rfl ?_
    refine r_T rfl ?_
    refine r_T rfl ?_
    refine r_T rfl ?_
    refine r_keep [(0,.pointer (some ⟨bf0,0,none⟩)),(3,.int .i64 f0.e.Cell),(37,.bool true)] (by kernel_rfl) fun fr => ?_
    exact r_done ⟨true,_,h,fr_eq _ (by kernel_rfl),(by kernel_rfl)⟩
   ·replace h := h_f h hb11
    clear hb11
    refine r_F rfl ?_
    refine r_F rfl ?_
    refine r_F rfl ?_
    refine r_kp [(0,.pointer (some ⟨bf0,0,none⟩)),(3,.int .i64 f0.e.Cell),(47,.bool false),(48,.int .i64 f0.e.Cell),(51,.pointer (some ⟨bf0,27,none⟩))] (by kernel_rfl) fun fr => ?_
    refine r_F rfl ?_
    refine r_ld 2 tt_ok (v := .pointer (some ((adr g_f0.s_Tenants.1).add (f0.e.Tenant.toNat * 12)))) ts_77 rfl (by rw [← fptr_at h_f0_t hx10]; kernel_rfl) ?_
    refine r_F rfl ?_
    refine r_F rfl ?_
    refine r_F rfl ?_
    refine r_lec (E := eTenantState) tt_ok (v := .int .i64 x9.Standby) (idx_get hx10) (rd_row 0 rfl) ts_3 rfl (pl1 _ _ _) (by kernel_rfl) ?_
    refine r_F rfl ?_
    refine r_ite (fun (hb12 : (decide (f0.e.Cell = x9.Standby)) = true) => ?_) (fun (hb12 : (decide (f0.e.Cell = x9.Standby)) = false) => ?_)
    ·replace h := h_t h hb12
     clear hb12
     refine r_T rfl ?_
     refine r_kp [(0,.pointer (some ⟨bf0,0,none⟩)),(3,.int .i64 f0.e.Cell),(58,.bool true),(59,undef),(60,undef)] (by kernel_rfl) fun fr => ?_
     refine r_T rfl ?_
     refine r_T rfl ?_
     refine r_T rfl ?_
     refine r_T rfl ?_
     refine r_T rfl ?_
     refine r_T rfl ?_
     refine r_T rfl ?_
     refine r_T rfl ?_
     refine r_keep [(0,.pointer (some ⟨bf0,0,none⟩)),(3,.int .i64 f0.e.Cell),(37,.bool true)] (by kernel_rfl) fun fr => ?_
     exact r_done ⟨true,_,h,fr_eq _ (by kernel_rfl),(by kernel_rfl)⟩
    ·replace h := h_f h hb12
     clear hb12
     refine r_F rfl ?_
     refine r_kp [(0,.pointer (some ⟨bf0,0,none⟩)),(3,.int .i64 f0.e.Cell),(58,.bool false),(59,.int .i64 f0.e.Cell),(60,.pointer (some ⟨bf0,0,none⟩))] (by kernel_rfl) fun fr => ?_
     refine r_F rfl ?_
     refine r_F rfl ?_
     refine r_F rfl ?_
     refine r_ld 2 tt_ok (v := .pointer (some ((adr g_f0.s_Tenants.1).add (f0.e.Tenant.toNat * 12)))) ts_77 rfl (by rw [← fptr_at h_f0_t hx10]; kernel_rfl) ?_
     refine r_F rfl ?_
     refine r_F rfl ?_
     refine r_F rfl ?_
     refine r_lec (E := eTenantState) tt_ok (v := .int .i64 x9.Next) (idx_get hx10) (rd_row 0 rfl) ts_3 rfl (pl1 _ _ _) (by kernel_rfl) ?_
     refine r_F rfl ?_
     refine r_keep [(0,.pointer (some ⟨bf0,0,none⟩)),(3,.int .i64 f0.e.Cell),(37,.bool (decide (f0.e.Cell = x9.Next)))] (by kernel_rfl) fun fr => ?_
     exact r_done ⟨decide (f0.e.Cell = x9.Next),_,h,fr_eq _ (by kernel_rfl),(by kernel_rfl)⟩
  clear h
  rintro fr S ⟨x13,fr,h,rfl,rfl⟩
  replace h := hK15 _ h
  refine r_done ?_
  refine r_ite (fun hb16 => ?_) (fun hb16 => ?_)
  ·replace h := h_t h hb16
   clear hb16
   refine r_bind ?_
   refine r_done ?_
   repeat refine r_done ?_
   repeat refine r_done ?_
   obtain rfl := h_out h
   exact ret_of (RV.tmp RV.nil) (Le.refl _) ⟨rfl,rfl⟩
  ·replace h := h_f h hb16
   clear hb16
   refine r_bind ?_
   replace h := h_b h; obtain ⟨x18,hx17,h⟩ := h
   refine r_call (hc_71 (bf0 := bf0) (g_f0 := g_f0) (f0 := f0) (cell1 := f0.e.Cell) (hS_f0 := by exact (le_d 0).trans hS_f0) (h_f0 := by exact h_f0) (h_f0_t := by exact h_f0_t) (h_f0_cell := by exact h_f0_cell) (h := hx17)) ?_
   rintro _ _ ⟨rfl,rfl⟩
   refine r_done ?_
   refine r_ite (fun hb19 => ?_) (fun hb19 => ?_)
   ·replace h := h_t h hb19
    clear hb19
    refine r_bind ?_
    refine r_done ?_
    repeat refine r_done ?_
    repeat refine r_done ?_
    obtain rfl := h_out h
    exact ret_of (RV.tmp RV.nil) (Le.refl _) ⟨rfl,rfl⟩
   ·replace h := h_f h hb19
    clear hb19
    refine r_bind ?_
    replace h := h_b h; obtain ⟨x21,hx20,h⟩ := h
    refine r_call (hc_72 (bf0 := bf0) (g_f0 := g_f0) (f0 := f0) (cell1 := f0.e.Cell) (hS_f0 := by exact (le_d 0).trans hS_f0) (h_f0 := by exact h_f0) (h_f0_t := by exact h_f0_t) (h_f0_cell := by exact h_f0_cell) (h := hx20)) ?_
    rintro _ _ ⟨rfl,rfl⟩
    refine r_keep [(0,.pointer (some ⟨bf0,0,none⟩)),(3,.int .i64 f0.e.Cell),(74,.bool x21)] (by kernel_rfl) fun fr => ?_
    refine r_done ?_
    refine r_ite (fun hb22 => ?_) (fun hb22 => ?_)
    ·replace h := h_t h hb22
     clear hb22
     refine r_bind ?_
     refine r_done ?_
     repeat refine r_done ?_
     repeat refine r_done ?_
     obtain rfl := h_out h
     exact ret_of (RV.tmp RV.nil) (Le.refl _) ⟨rfl,rfl⟩
    ·replace h := h_f h hb22
     clear hb22
     refine r_bind ?_
     refine r_mix tt_ok hm_ok _ _ [] (.pure 0 (.pure 1 (.pure 2 (.pure 3 (.pure 4 (.vb 5 (.pure 6 (.pure 7 (.vb 8 (.pure 9 (.pure 10 (.pure 11 (.vb 12 (.pure 13 (.pure 14 (.vb 15 (.eff 16 (.eff 17 (.pure 18 (.pure 19 .nil)))))))))))))))))))) (le_w [true,true,true]) (le_w [true,true,true]) ?_ ?_
     ·decide +kernel
     refine x_p rfl ?_
     refine v_done ?_
     refine x_p rfl ?_
     refine v_done ?_
     refine x_p rfl ?_
     refine v_done ?_
     refine x_p rfl ?_
     refine v_done ?_
     refine x_p rfl ?_
     refine v_done ?_
     refine x_vb rfl ?_
     replace h := h_b h; obtain ⟨x23,hx24,h⟩ := h
     refine v_ld 2 tt_ok (v := .pointer (some ((adr g_f0.s_Tenants.1).add (f0.e.Tenant.toNat * 12)))) ts_77 rfl (by rw [← fptr_at h_f0_t hx24]; kernel_rfl) ?_
     refine v_done ?_
     refine x_p rfl ?_
     refine v_done ?_
     refine x_p rfl ?_
     refine v_done ?_
     refine x_vb rfl ?_
     refine v_lec (E := eTenantState) tt_ok (v := .int .i64 x23.Standby) (idx_get hx24) (rd_row 0 rfl) ts_3 rfl (pl1 _ _ _) (by kernel_rfl) ?_
     refine v_done ?_
     refine x_kp [(0,.pointer (some ⟨bf0,0,none⟩)),(3,.int .i64 f0.e.Cell),(79,.pointer (some ⟨bf0,0,none⟩)),(80,.int .i64 f0.e.Cell),(87,.int .i64 x23.Standby)] (by kernel_rfl) fun fr => ?_
     refine x_p rfl ?_
     refine v_done ?_
     refine x_p rfl ?_
     refine v_done ?_
     refine x_p rfl ?_
     refine v_done ?_
     refine x_vb rfl ?_
     refine v_ld 2 tt_ok (v := .pointer (some ((adr g_f0.s_Tenants.1).add (f0.e.Tenant.toNat * 12)))) ts_77 rfl (by rw [← fptr_at h_f0_t hx24]; kernel_rfl) ?_
     refine v_done ?_
     refine x_p rfl ?_
     refine v_done ?_
     refine x_p rfl ?_
     refine v_done ?_
     refine x_vb rfl ?_
     refine v_lec (E := eTenantState) tt_ok (v := .int .i64 x23.Next) (idx_get hx24) (rd_row 0 rfl) ts_3 rfl (pl1 _ _ _) (by kernel_rfl) ?_
     refine v_done ?_
     refine x_e rfl ?_
     refine r_bs tt_ok (fl eI64.en [x23.Standby,x23.Next]) te_22 ti_3 (by kernel_rfl) (by kernel_rfl) (by kernel_rfl) (by kernel_rfl) fun bq25 => ?_
     refine r_done ⟨rfl,k_a (le_w [false,true,true,true]) (le_w [false,true,true,true]),?_⟩
     refine x_e rfl ?_
     refine r_le ((le_mv 3).trans ((le_mv 3).trans (le_mv 3))) ?_
     replace h := h_b h; obtain ⟨x27,hx26,h⟩ := h
     refine r_call (hc_73 (bf0 := bf0) (g_f0 := g_f0) (f0 := f0) (cell1 := f0.e.Cell) (A_others2 := (some ⟨bq25,0,none⟩)) (c_others2 := 2) (others2 := [x23.Standby,x23.Next]) (hS_f0 := by exact (le_d 1).trans hS_f0) (h_f0 := by exact h_f0) (hS_others2 := by exact Le.refl _) (h_others2 := by exact sl_row 0 rfl) (h_f0_t := by exact h_f0_t) (h_f0_cell := by exact h_f0_cell) (h := hx26)) ?_
     rintro _ _ ⟨rfl,rfl⟩
     refine r_done ⟨rfl,k_a (le_w [true,true,true,false]) (le_w [true,true,true,false]),?_⟩
     refine x_kp [(0,.pointer (some ⟨bf0,0,none⟩)),(3,.int .i64 f0.e.Cell),(96,.bool x27)] (by kernel_rfl) fun fr => ?_
     refine x_p rfl ?_
     refine v_done ?_
     refine x_p rfl ?_
     refine v_done ?_
     refine x_k [(0,.pointer (some ⟨bf0,0,none⟩)),(3,.int .i64 f0.e.Cell),(78,.bool (!x27))] (by kernel_rfl) fun fr => ?_
     refine r_done ?_
     refine r_ite (fun hb28 => ?_) (fun hb28 => ?_)
     ·replace h := h_t h hb28
      clear hb28
      refine r_bind ?_
      refine r_done ?_
      repeat refine r_done ?_
      repeat refine r_done ?_
      obtain rfl := h_out h
      exact ret_of (RV.tmp RV.nil) (le_w [true,true,true,false]) ⟨rfl,rfl⟩
     ·replace h := h_f h hb28
      clear hb28
      refine r_done ?_
      refine r_done ?_
      refine r_bind ?_
      refine r_ld 2 tt_ok (v := .pointer (some ((adr g_f0.s_Tenants.1).add (f0.e.Tenant.toNat * 12)))) ts_77 rfl (by rw [← fptr_at h_f0_t hx24]; kernel_rfl) ?_
      refine r_sec 0 (E := eTenantState) tt_ok ({ x23 with Target := f0.e.Cell }) (idx_get hx24) (fit1 ts_3 (by kernel_rfl)) rfl rfl (pl1 _ _ _) (by kernel_rfl) (by kernel_rfl) (List.cons_ne_nil _ _) ?_
      rw [show (en_state_fold f0 g_f0) = (en_state_fold ({ f0 with s := { f0.s with Tenants := (f0.s.Tenants.set f0.e.Tenant.toNat ({ x23 with Target := f0.e.Cell })) } }) g_f0) by simp [en_state_fold]]
      rw [← @List.length_set _ f0.s.Tenants f0.e.Tenant.toNat ({ x23 with Target := f0.e.Cell })]
      refine r_done ?_
      refine r_bind ?_
      replace h := h_b h; obtain ⟨x30,hx29,h⟩ := h
      refine r_call (hc_74 (bf0 := bf0) (g_f0 := g_f0) (f0 := { f0 with s := { f0.s with Tenants := (f0.s.Tenants.set f0.e.Tenant.toNat ({ x23 with Target := f0.e.Cell })) } }) (hS_f0 := by exact (le_d 1).trans hS_f0) (h_f0 := by exact h_f0) (h_f0_t := by exact h_f0_t) (h_f0_cell := by exact h_f0_cell) (h := hx29)) ?_
      rintro _ _ ⟨rfl,rfl⟩
      refine r_kp [(106,.int .i64 x30)] (by kernel_rfl) fun fr => ?_
      refine r_done ?_
      repeat refine r_done ?_
      repeat refine r_done ?_
      obtain rfl := h_out h
      exact ret_of (RV.tmp RV.nil) (le_w [true,true,true,false]) ⟨rfl,rfl⟩
theorem hc_52 {ρ : Addr → Option Value} {L : List Ent} {bf0 : Nat} {g_f0 : gstate_fold} {S_f0 : St} (hS_f0 : Le ⟨ρ,L⟩ S_f0) (f0 : state_fold) (h_f0 : Sl_state_fold S_f0 f0 g_f0) (h_f0_t : g_f0.t = fptr g_f0.s_Tenants.1 f0.e.Tenant 12) (h_f0_cell : g_f0.cell = fptr g_f0.s_Cells.1 f0.e.Cell 4) {r : (Int × State)} (h : state_fold_abandon f0 = some r) : HC Try.prog 52 #[.pointer (some ⟨bf0,0,none⟩)] ⟨ρ,.row g_f0.s_Tenants.1 f0.s.Tenants.length g_f0.s_Tenants.2 50 12 (fl eTenantState.en f0.s.Tenants) :: .row g_f0.s_Cells.1 f0.s.Cells.length g_f0.s_Cells.2 67 4 (fl eCellState.en f0.s.Cells) :: .obj bf0 (en_state_fold f0 g_f0) 80 :: L⟩ (fun v S' => v = .int .i64 r.1 ∧ S' = ⟨ρ,.row g_f0.s_Tenants.1 r.2.Tenants.length g_f0.s_Tenants.2 50 12 (fl eTenantState.en r.2.Tenants) :: .row g_f0.s_Cells.1 r.2.Cells.length g_f0.s_Cells.2 67 4 (fl eCellState.en r.2.Cells) :: .obj bf0 (en_state_fold ({ f0 with s := r.2 }) g_f0) 80 :: L⟩) := by
 replace h := h_in h
 refine HC.intro (N := 27) (args := [_]) tt_ok Try.func52 rfl (by decide +kernel) rfl (Nat.le_of_ble_eq_true rfl) ?_
 refine r_bind ?_
 refine r_done ?_
 refine r_bind ?_
 refine r_bind ?_
 replace h := h_j h; obtain ⟨K5,h,hK6⟩ := h
 refine r_meet (fun fr S => ∃ (x4 : Bool),∃ fr0,K5 x4 = some r ∧ fr = updL [(0,.pointer (some ⟨bf0,0,none⟩)),(20,.bool x4)] fr0 ∧ S = ⟨ρ,.row g_f0.s_Tenants.1 f0.s.Tenants.length g_f0.s_Tenants.2 50 12 (fl eTenantState.en f0.s.Tenants) :: .row g_f0.s_Cells.1 f0.s.Cells.length g_f0.s_Cells.2 67 4 (fl eCellState.en f0.s.Cells) :: .obj bf0 (en_state_fold f0 g_f0) 80 :: L⟩) ?_ ?_
 ·replace h := h_b h; obtain ⟨x1,hx2,h⟩ := h
  refine r_ld 2 tt_ok (v := .pointer (some ((adr g_f0.s_Tenants.1).add (f0.e.Tenant.toNat * 12)))) ts_77 rfl (by rw [← fptr_at h_f0_t hx2]; kernel_rfl) ?_
  refine r_kp [(0,.pointer (some ⟨bf0,0,none⟩)),(6,.pointer (some ((adr g_f0.s_Tenants.1).add (f0.e.Tenant.toNat * 12))))] (by kernel_rfl) fun fr => ?_
  refine r_lec (E := eTenantState) tt_ok (v := .bool x1.Placed) (idx_get hx2) (rd_row 0 rfl) ts_4 rfl (pl1 _ _ _) (by kernel_rfl) ?_
  refine r_ite (fun (hb3 : (!x1.Placed) = true) => ?_) (fun (hb3 : (!x1.Placed) = false) => ?_)
  ·replace h := h_t h hb3
   clear hb3
   refine r_T rfl ?_
   refine r_T rfl ?_
   refine r_T rfl ?_
   refine r_kp [(0,.pointer (some ⟨bf0,0,none⟩)),(11,.bool true),(15,undef)] (by kernel_rfl) fun fr => ?_
   refine r_T rfl ?_
   refine r_T rfl ?_
   refine r_T rfl ?_
   refine r_T rfl ?_
   refine r_T rfl ?_
   exact r_done ⟨true,_,h,fr_eq _ (by kernel_rfl),(by kernel_rfl)⟩
  ·replace h := h_f h hb3
   clear hb3
   refine r_F rfl ?_
   refine r_F rfl ?_
   refine r_F rfl ?_
   refine r_ld 2 tt_ok (v := .pointer (some ((adr g_f0.s_Tenants.1).add (f0.e.Tenant.toNat * 12)))) ts_77 rfl (by rw [← fptr_at h_f0_t hx2]; kernel_rfl) ?_
   refine r_kp [(0,.pointer (some ⟨bf0,0,none⟩)),(11,.bool false),(15,.pointer (some ((adr g_f0.s_Tenants.1).add (f0.e.Tenant.toNat * 12))))] (by kernel_rfl) fun fr => ?_
   refine r_F rfl ?_
   refine r_F rfl ?_
   refine r_F rfl ?_
   refine r_lec (E := eTenantState) tt_ok (v := .int .i64 x1.Target) (idx_get hx2) (rd_row 0 rfl) ts_3 rfl (pl1 _ _ _) (by kernel_rfl) ?_
   refine r_F rfl ?_
   exact r_done ⟨decide (x1.Target = (-1)),_,h,fr_eq _ (by kernel_rfl),(by kernel_rfl)⟩
 clear h
 rintro fr S ⟨x4,fr,h,rfl,rfl⟩
 replace h := hK6 _ h
 refine r_done ?_
 refine r_ite (fun hb7 => ?_) (fun hb7 => ?_)
 ·replace h := h_t h hb7
  clear hb7
  refine r_bind ?_
  refine r_done ?_
  repeat refine r_done ?_
  repeat refine r_done ?_
  obtain rfl := h_out h
  exact ret_of (RV.tmp RV.nil) (Le.refl _) ⟨rfl,rfl⟩
 ·replace h := h_f h hb7
  clear hb7
  refine r_done ?_
  refine r_bind ?_
  replace h := h_b h; obtain ⟨x8,hx9,h⟩ := h
  refine r_ld 2 tt_ok (v := .pointer (some ((adr g_f0.s_Tenants.1).add (f0.e.Tenant.toNat * 12)))) ts_77 rfl (by rw [← fptr_at h_f0_t hx9]; kernel_rfl) ?_
  refine r_sec 0 (E := eTenantState) tt_ok ({ x8 with Target := (-1) }) (idx_get hx9) (fit1 ts_3 (by kernel_rfl)) rfl rfl (pl1 _ _ _) (by kernel_rfl) (by kernel_rfl) (List.cons_ne_nil _ _) ?_
  rw [show (en_state_fold f0 g_f0) = (en_state_fold ({ f0 with s := { f0.s with Tenants := (f0.s.Tenants.set f0.e.Tenant.toNat ({ x8 with Target := (-1) })) } }) g_f0) by simp [en_state_fold]]
  rw [← @List.length_set _ f0.s.Tenants f0.e.Tenant.toNat ({ x8 with Target := (-1) })]
  refine r_done ?_
  refine r_bind ?_
  refine r_done ?_
  repeat refine r_done ?_
  repeat refine r_done ?_
  obtain rfl := h_out h
  exact ret_of (RV.tmp RV.nil) (Le.refl _) ⟨rfl,rfl⟩
theorem hc_76 {ρ : Addr → Option Value} {L : List Ent} {bf0 : Nat} {g_f0 : gstate_fold} {S_f0 : St} (hS_f0 : Le ⟨ρ,L⟩ S_f0) (f0 : state_fold) (cell1 : Int) (h_f0 : Sl_state_fold S_f0 f0 g_f0) (h_f0_t : g_f0.t = fptr g_f0.s_Tenants.1 f0.e.Tenant 12) (h_f0_cell : g_f0.cell = fptr g_f0.s_Cells.1 f0.e.Cell 4) {r : Bool} (h : state_fold_down f0 cell1 = some r) : HC Try.prog 76 #[.pointer (some ⟨bf0,0,none⟩),.int .i64 cell1] ⟨ρ,.row g_f0.s_Tenants.1 f0.s.Tenants.length g_f0.s_Tenants.2 50 12 (fl eTenantState.en f0.s.Tenants) :: .row g_f0.s_Cells.1 f0.s.Cells.length g_f0.s_Cells.2 67 4 (fl eCellState.en f0.s.Cells) :: .obj bf0 (en_state_fold f0 g_f0) 80 :: L⟩ (fun v S' => v = .bool r ∧ S' = ⟨ρ,.row g_f0.s_Tenants.1 f0.s.Tenants.length g_f0.s_Tenants.2 50 12 (fl eTenantState.en f0.s.Tenants) :: .row g_f0.s_Cells.1 f0.s.Cells.length g_f0.s_Cells.2 67 4 (fl eCellState.en f0.s.Cells) :: .obj bf0 (en_state_fold f0 g_f0) 80 :: L⟩) := by
 replace h := h_in h
 refine HC.intro (N := 29) (args := [_,_]) tt_ok Try.func76 rfl (by decide +kernel) rfl (Nat.le_of_ble_eq_true rfl) ?_
 refine r_bind ?_
 refine r_done ?_
 refine r_bind ?_
 replace h := h_j h; obtain ⟨K6,h,hK7⟩ := h
 refine r_meet (fun fr S => ∃ (x5 : Bool),∃ fr0,K6 x5 = some r ∧ fr = updL [(4,.bool x5)] fr0 ∧ S = ⟨ρ,.row g_f0.s_Tenants.1 f0.s.Tenants.length g_f0.s_Tenants.2 50 12 (fl eTenantState.en f0.s.Tenants) :: .row g_f0.s_Cells.1 f0.s.Cells.length g_f0.s_Cells.2 67 4 (fl eCellState.en f0.s.Cells) :: .obj bf0 (en_state_fold f0 g_f0) 80 :: L⟩) ?_ ?_
 ·refine r_ite (fun (hb1 : (decide (0 ≤ cell1)) = true) => ?_) (fun (hb1 : (decide (0 ≤ cell1)) = false) => ?_)
  ·replace h := h_t h hb1
   clear hb1
   refine r_kp [(0,.pointer (some ⟨bf0,0,none⟩)),(1,.int .i64 cell1),(4,.bool false),(7,.bool true),(8,.int .i64 cell1)] (by kernel_rfl) fun fr => ?_
   refine r_T rfl ?_
   refine r_T rfl ?_
   refine r_T rfl ?_
   refine r_T rfl ?_
   refine r_T rfl ?_
   refine r_ld 2 tt_ok (v := .slice g_f0.s_Cells.1 f0.s.Cells.length g_f0.s_Cells.2) ts_34 rfl (by kernel_rfl) ?_
   refine r_T rfl ?_
   refine r_T rfl ?_
   refine r_ite (fun (hb2 : (decide (cell1 < (f0.s.Cells.length : Int))) = true) => ?_) (fun (hb2 : (decide (cell1 < (f0.s.Cells.length : Int))) = false) => ?_)
   ·replace h := h_t h hb2
    clear hb2
    refine r_kp [(1,.int .i64 cell1),(4,.bool false),(17,.bool true),(18,.pointer (some ⟨bf0,0,none⟩))] (by kernel_rfl) fun fr => ?_
    refine r_T rfl ?_
    refine r_T rfl ?_
    refine r_T rfl ?_
    refine r_T rfl ?_
    refine r_ld 2 tt_ok (v := .slice g_f0.s_Cells.1 f0.s.Cells.length g_f0.s_Cells.2) ts_34 rfl (by kernel_rfl) ?_
    refine r_T rfl ?_
    refine r_T rfl ?_
    replace h := h_b h; obtain ⟨x3,hx4,h⟩ := h
    refine r_el hx4 (rd_row 1 rfl) ?_
    refine r_T rfl ?_
    refine r_T rfl ?_
    refine r_lec (E := eCellState) tt_ok (v := .int .i64 x3.Mode) (idx_get hx4) (rd_row 1 rfl) ts_3 rfl (pl1 _ _ _) (by kernel_rfl) ?_
    refine r_T rfl ?_
    refine r_kp [(4,.bool false),(17,.bool true),(27,.bool (decide (x3.Mode = 3)))] (by kernel_rfl) fun fr => ?_
    exact r_done ⟨decide (x3.Mode = 3),_,h,fr_eq _ (by kernel_rfl),(by kernel_rfl)⟩
   ·replace h := h_f h hb2
    clear hb2
    refine r_kp [(1,.int .i64 cell1),(4,.bool false),(17,.bool false),(18,undef)] (by kernel_rfl) fun fr => ?_
    refine r_F rfl ?_
    refine r_F rfl ?_
    refine r_F rfl ?_
    refine r_F rfl ?_
    refine r_F rfl ?_
    refine r_F rfl ?_
    refine r_F rfl ?_
    refine r_F rfl ?_
    refine r_F rfl ?_
    refine r_kp [(4,.bool false),(17,.bool false),(27,undef)] (by kernel_rfl) fun fr => ?_
    refine r_F rfl ?_
    exact r_done ⟨false,_,h,fr_eq _ (by kernel_rfl),(by kernel_rfl)⟩
  ·replace h := h_f h hb1
   clear hb1
   refine r_kp [(0,.pointer (some ⟨bf0,0,none⟩)),(1,.int .i64 cell1),(4,.bool false),(7,.bool false),(8,undef)] (by kernel_rfl) fun fr => ?_
   refine r_F rfl ?_
   refine r_F rfl ?_
   refine r_F rfl ?_
   refine r_F rfl ?_
   refine r_F rfl ?_
   refine r_F rfl ?_
   refine r_F rfl ?_
   refine r_F rfl ?_
   refine r_F rfl ?_
   refine r_kp [(1,.int .i64 cell1),(4,.bool false),(17,.bool false),(18,undef)] (by kernel_rfl) fun fr => ?_
   refine r_F rfl ?_
   refine r_F rfl ?_
   refine r_F rfl ?_
   refine r_F rfl ?_
   refine r_F rfl ?_
   refine r_F rfl ?_
   refine r_F rfl ?_
   refine r_F rfl ?_
   refine r_F rfl ?_
   refine r_kp [(4,.bool false),(17,.bool false),(27,undef)] (by kernel_rfl) fun fr => ?_
   refine r_F rfl ?_
   exact r_done ⟨false,_,h,fr_eq _ (by kernel_rfl),(by kernel_rfl)⟩
 clear h
 rintro fr S ⟨x5,fr,h,rfl,rfl⟩
 replace h := hK7 _ h
 refine r_done ?_
 repeat refine r_done ?_
 repeat refine r_done ?_
 obtain rfl := h_out h
 exact ret_of (RV.tmp RV.nil) (Le.refl _) ⟨rfl,rfl⟩
theorem hc_53 {ρ : Addr → Option Value} {L : List Ent} {bf0 : Nat} {g_f0 : gstate_fold} {S_f0 : St} (hS_f0 : Le ⟨ρ,L⟩ S_f0) (f0 : state_fold) (h_f0 : Sl_state_fold S_f0 f0 g_f0) (h_f0_t : g_f0.t = fptr g_f0.s_Tenants.1 f0.e.Tenant 12) (h_f0_cell : g_f0.cell = fptr g_f0.s_Cells.1 f0.e.Cell 4) {r : (Int × State)} (h : state_fold_shed f0 = some r) : HC Try.prog 53 #[.pointer (some ⟨bf0,0,none⟩)] ⟨ρ,.row g_f0.s_Tenants.1 f0.s.Tenants.length g_f0.s_Tenants.2 50 12 (fl eTenantState.en f0.s.Tenants) :: .row g_f0.s_Cells.1 f0.s.Cells.length g_f0.s_Cells.2 67 4 (fl eCellState.en f0.s.Cells) :: .obj bf0 (en_state_fold f0 g_f0) 80 :: L⟩ (fun v S' => v = .int .i64 r.1 ∧ S' = ⟨ρ,.row g_f0.s_Tenants.1 r.2.Tenants.length g_f0.s_Tenants.2 50 12 (fl eTenantState.en r.2.Tenants) :: .row g_f0.s_Cells.1 r.2.Cells.length g_f0.s_Cells.2 67 4 (fl eCellState.en r.2.Cells) :: .obj bf0 (en_state_fold ({ f0 with s := r.2 }) g_f0) 80 :: L⟩) := by
 replace h := h_in h
 refine HC.intro (N := 81) (args := [_]) tt_ok Try.func53 rfl (by decide +kernel) rfl (Nat.le_of_ble_eq_true rfl) ?_
 refine r_bind ?_
 refine r_done ?_
 refine r_bind ?_
 refine r_bind ?_
 refine r_ld 2 tt_ok (v := .int .i64 f0.e.N) ts_3 rfl (by kernel_rfl) ?_
 refine r_done ?_
 refine r_ite (fun hb1 => ?_) (fun hb1 => ?_)
 ·replace h := h_t h hb1
  clear hb1
  refine r_bind ?_
  refine r_bind ?_
  refine r_bind ?_
  replace h := h_j h; obtain ⟨K6,h,hK7⟩ := h
  refine r_meet (fun fr S => ∃ (x5 : Bool),∃ fr0,K6 x5 = some r ∧ fr = updL [(0,.pointer (some ⟨bf0,0,none⟩)),(9,.bool x5)] fr0 ∧ S = ⟨ρ,.row g_f0.s_Tenants.1 f0.s.Tenants.length g_f0.s_Tenants.2 50 12 (fl eTenantState.en f0.s.Tenants) :: .row g_f0.s_Cells.1 f0.s.Cells.length g_f0.s_Cells.2 67 4 (fl eCellState.en f0.s.Cells) :: .obj bf0 (en_state_fold f0 g_f0) 80 :: L⟩) ?_ ?_
  ·replace h := h_b h; obtain ⟨x2,hx3,h⟩ := h
   refine r_ld 2 tt_ok (v := .pointer (some ((adr g_f0.s_Tenants.1).add (f0.e.Tenant.toNat * 12)))) ts_77 rfl (by rw [← fptr_at h_f0_t hx3]; kernel_rfl) ?_
   refine r_kp [(0,.pointer (some ⟨bf0,0,none⟩)),(13,.pointer (some ((adr g_f0.s_Tenants.1).add (f0.e.Tenant.toNat * 12))))] (by kernel_rfl) fun fr => ?_
   refine r_lec (E := eTenantState) tt_ok (v := .bool x2.Placed) (idx_get hx3) (rd_row 0 rfl) ts_4 rfl (pl1 _ _ _) (by kernel_rfl) ?_
   refine r_ite (fun (hb4 : (!x2.Placed) = true) => ?_) (fun (hb4 : (!x2.Placed) = false) => ?_)
   ·replace h := h_t h hb4
    clear hb4
    refine r_T rfl ?_
    refine r_T rfl ?_
    refine r_T rfl ?_
    refine r_kp [(0,.pointer (some ⟨bf0,0,none⟩)),(18,.bool true),(22,undef)] (by kernel_rfl) fun fr => ?_
    refine r_T rfl ?_
    refine r_T rfl ?_
    refine r_T rfl ?_
    refine r_T rfl ?_
    exact r_done ⟨true,_,h,fr_eq _ (by kernel_rfl),(by kernel_rfl)⟩
   ·replace h := h_f h hb4
    clear hb4
    refine r_F rfl ?_
    refine r_F rfl ?_
    refine r_F rfl ?_
    refine r_ld 2 tt_ok (v := .pointer (some ((adr g_f0.s_Tenants.1).add (f0.e.Tenant.toNat * 12)))) ts_77 rfl (by rw [← fptr_at h_f0_t hx3]; kernel_rfl) ?_
    refine r_kp [(0,.pointer (some ⟨bf0,0,none⟩)),(18,.bool false),(22,.pointer (some ((adr g_f0.s_Tenants.1).add (f0.e.Tenant.toNat * 12))))] (by kernel_rfl) fun fr => ?_
    refine r_F rfl ?_
    refine r_F rfl ?_
    refine r_F rfl ?_
    refine r_lec (E := eTenantState) tt_ok (v := .bool x2.Shed) (idx_get hx3) (rd_row 0 rfl) ts_4 rfl (pl1 _ _ _) (by kernel_rfl) ?_
    exact r_done ⟨x2.Shed,_,h,fr_eq _ (by kernel_rfl),(by kernel_rfl)⟩
  clear h
  rintro fr S ⟨x5,fr,h,rfl,rfl⟩
  replace h := hK7 _ h
  refine r_done ?_
  refine r_ite (fun hb8 => ?_) (fun hb8 => ?_)
  ·replace h := h_t h hb8
   clear hb8
   refine r_bind ?_
   refine r_done ?_
   repeat refine r_done ?_
   repeat refine r_done ?_
   obtain rfl := h_out h
   exact ret_of (RV.tmp RV.nil) (Le.refl _) ⟨rfl,rfl⟩
  ·replace h := h_f h hb8
   clear hb8
   refine r_bind ?_
   refine r_mix tt_ok hm_ok _ _ [] (.pure 0 (.pure 1 (.pure 2 (.vb 3 (.pure 4 (.pure 5 (.pure 6 (.vb 7 (.pure 8 (.pure 9 (.pure 10 (.pure 11 (.vb 12 (.pure 13 (.pure 14 .nil))))))))))))))) (le_w [true,true,true]) (le_w [true,true,true]) ?_ ?_
   ·decide +kernel
   refine x_p rfl ?_
   refine v_done ?_
   refine x_p rfl ?_
   refine v_done ?_
   refine x_p rfl ?_
   refine v_done ?_
   refine x_vb rfl ?_
   replace h := h_b h; obtain ⟨x9,hx10,h⟩ := h
   refine v_ld 2 tt_ok (v := .pointer (some ((adr g_f0.s_Tenants.1).add (f0.e.Tenant.toNat * 12)))) ts_77 rfl (by rw [← fptr_at h_f0_t hx10]; kernel_rfl) ?_
   refine v_done ?_
   refine x_p rfl ?_
   refine v_done ?_
   refine x_p rfl ?_
   refine v_done ?_
   refine x_p rfl ?_
   refine v_done ?_
   refine x_vb rfl ?_
   refine v_lec (E := eTenantState) tt_ok (v := .int .i64 x9.Window.Until) (idx_get hx10) (rd_row 0 rfl) ts_3 rfl (pl2 _ _ _ _) (by kernel_rfl) ?_
   refine v_done ?_
   refine x_p rfl ?_
   refine v_done ?_
   refine x_kp [(0,.pointer (some ⟨bf0,0,none⟩)),(35,.int .i64 x9.Window.Until),(36,.pointer (some ⟨bf0,0,none⟩))] (by kernel_rfl) fun fr => ?_
   refine x_p rfl ?_
   refine v_done ?_
   refine x_p rfl ?_
   refine v_done ?_
   refine x_p rfl ?_
   refine v_done ?_
   refine x_vb rfl ?_
   refine v_ld 2 tt_ok (v := .int .i64 f0.e.Tick) ts_3 rfl (by kernel_rfl) ?_
   refine v_done ?_
   refine x_p rfl ?_
   refine v_done ?_
   refine x_p rfl ?_
   refine v_done ?_
   refine x_k [(0,.pointer (some ⟨bf0,0,none⟩)),(27,.bool (decide (f0.e.Tick < x9.Window.Until)))] (by kernel_rfl) fun fr => ?_
   refine r_done ?_
   refine r_ite (fun hb11 => ?_) (fun hb11 => ?_)
   ·replace h := h_t h hb11
    clear hb11
    refine r_bind ?_
    refine r_done ?_
    repeat refine r_done ?_
    repeat refine r_done ?_
    obtain rfl := h_out h
    exact ret_of (RV.tmp RV.nil) (Le.refl _) ⟨rfl,rfl⟩
   ·replace h := h_f h hb11
    clear hb11
    refine r_done ?_
    refine r_done ?_
    refine r_bind ?_
    refine r_mix tt_ok hm_ok _ _ [] (.pure 0 (.pure 1 (.pure 2 (.vb 3 (.pure 4 (.pure 5 (.pure 6 (.vb 7 (.pure 8 (.pure 9 (.eff 10 (.pure 11 (.pure 12 (.eff 13 .nil)))))))))))))) (le_w [false,true,true]) (le_w [false,true,true]) ?_ ?_
    ·decide +kernel
    refine x_p rfl ?_
    refine v_done ?_
    refine x_p rfl ?_
    refine v_done ?_
    refine x_p rfl ?_
    refine v_done ?_
    refine x_vb rfl ?_
    refine v_ld 1 tt_ok (v := .pointer (some ((adr g_f0.s_Tenants.1).add (f0.e.Tenant.toNat * 12)))) ts_77 rfl (by rw [← fptr_at h_f0_t hx10]; kernel_rfl) ?_
    refine v_done ?_
    refine x_p rfl ?_
    refine v_done ?_
    refine x_p rfl ?_
    refine v_done ?_
    refine x_p rfl ?_
    refine v_done ?_
    refine x_vb rfl ?_
    refine v_ld 1 tt_ok (v := .pointer (some ((adr g_f0.s_Tenants.1).add (f0.e.Tenant.toNat * 12)))) ts_77 rfl (by rw [← fptr_at h_f0_t hx10]; kernel_rfl) ?_
    refine v_done ?_
    refine x_p rfl ?_
    refine v_done ?_
    refine x_kp [(49,.pointer (some ((adr g_f0.s_Tenants.1).add (f0.e.Tenant.toNat * 12)))),(50,.pointer (some ((adr g_f0.s_Tenants.1).add (f0.e.Tenant.toNat * 12))))] (by kernel_rfl) fun fr => ?_
    refine x_p rfl ?_
    refine v_done ?_
    refine x_e rfl ?_
    refine r_sec 0 (E := eTenantState) tt_ok ({ x9 with Shed := true }) (idx_get hx10) (fit1 ts_4 (by kernel_rfl)) rfl rfl (pl1 _ _ _) (by kernel_rfl) (by kernel_rfl) (List.cons_ne_nil _ _) ?_
    rw [show (en_state_fold f0 g_f0) = (en_state_fold ({ f0 with s := { f0.s with Tenants := (f0.s.Tenants.set f0.e.Tenant.toNat ({ x9 with Shed := true })) } }) g_f0) by simp [en_state_fold]]
    rw [← @List.length_set _ f0.s.Tenants f0.e.Tenant.toNat ({ x9 with Shed := true })]
    refine r_done ⟨rfl,k_a (le_w [false,true,true]) (le_w [false,true,true]),?_⟩
    refine x_p rfl ?_
    refine v_done ?_
    refine x_p rfl ?_
    refine v_done ?_
    refine x_e rfl ?_
    refine r_sec 0 (E := eTenantState) tt_ok ({ x9 with Shed := true,Target := (-1) }) (get_set (idx_get hx10) _) (fit1 ts_3 (by kernel_rfl)) rfl rfl (pl1 _ _ _) (by kernel_rfl) (by kernel_rfl) (List.cons_ne_nil _ _) ?_
    rw [show (en_state_fold ({ f0 with s := { f0.s with Tenants := (f0.s.Tenants.set f0.e.Tenant.toNat ({ x9 with Shed := true })) } }) g_f0) = (en_state_fold ({ f0 with s := { f0.s with Tenants := ((f0.s.Tenants.set f0.e.Tenant.toNat ({ x9 with Shed := true })).set f0.e.Tenant.toNat ({ x9 with Shed := true,Target := (-1) })) } }) g_f0) by simp [en_state_fold]]
    rw [← @List.length_set _ (f0.s.Tenants.set f0.e.Tenant.toNat ({ x9 with Shed := true })) f0.e.Tenant.toNat ({ x9 with Shed := true,Target := (-1) })]
    refine r_done ⟨rfl,k_a (le_w [false,true,true]) (le_w [false,true,true]),?_⟩
    refine x_k [] (by kernel_rfl) fun fr => ?_
    refine r_done ?_
    refine r_bind ?_
    refine r_done ?_
    repeat refine r_done ?_
    repeat refine r_done ?_
    obtain rfl := h_out h
    exact ret_of (RV.tmp RV.nil) (Le.refl _) ⟨rfl,rfl⟩
 ·replace h := h_f h hb1
  clear hb1
  refine r_done ?_
  refine r_bind ?_
  refine r_bind ?_
  refine r_bind ?_
  replace h := h_b h; obtain ⟨x12,hx13,h⟩ := h
  refine r_ld 2 tt_ok (v := .pointer (some ((adr g_f0.s_Tenants.1).add (f0.e.Tenant.toNat * 12)))) ts_77 rfl (by rw [← fptr_at h_f0_t hx13]; kernel_rfl) ?_
  refine r_kp [(0,.pointer (some ⟨bf0,0,none⟩)),(58,.pointer (some ((adr g_f0.s_Tenants.1).add (f0.e.Tenant.toNat * 12))))] (by kernel_rfl) fun fr => ?_
  refine r_lec (E := eTenantState) tt_ok (v := .bool x12.Shed) (idx_get hx13) (rd_row 0 rfl) ts_4 rfl (pl1 _ _ _) (by kernel_rfl) ?_
  refine r_done ?_
  refine r_ite (fun hb14 => ?_) (fun hb14 => ?_)
  ·replace h := h_t h hb14
   clear hb14
   refine r_bind ?_
   refine r_done ?_
   repeat refine r_done ?_
   repeat refine r_done ?_
   obtain rfl := h_out h
   exact ret_of (RV.tmp RV.nil) (Le.refl _) ⟨rfl,rfl⟩
  ·replace h := h_f h hb14
   clear hb14
   refine r_bind ?_
   refine r_ld 2 tt_ok (v := .pointer (some ((adr g_f0.s_Tenants.1).add (f0.e.Tenant.toNat * 12)))) ts_77 rfl (by rw [← fptr_at h_f0_t hx13]; kernel_rfl) ?_
   refine r_kp [(0,.pointer (some ⟨bf0,0,none⟩)),(64,.pointer (some ⟨bf0,0,none⟩)),(68,.pointer (some ((adr g_f0.s_Tenants.1).add (f0.e.Tenant.toNat * 12))))] (by kernel_rfl) fun fr => ?_
   refine r_lec (E := eTenantState) tt_ok (v := .int .i64 x12.Home) (idx_get hx13) (rd_row 0 rfl) ts_3 rfl (pl1 _ _ _) (by kernel_rfl) ?_
   replace h := h_b h; obtain ⟨x16,hx15,h⟩ := h
   refine r_call (hc_76 (bf0 := bf0) (g_f0 := g_f0) (f0 := f0) (cell1 := x12.Home) (hS_f0 := by exact (le_d 0).trans hS_f0) (h_f0 := by exact h_f0) (h_f0_t := by exact h_f0_t) (h_f0_cell := by exact h_f0_cell) (h := hx15)) ?_
   rintro _ _ ⟨rfl,rfl⟩
   refine r_done ?_
   refine r_ite (fun hb17 => ?_) (fun hb17 => ?_)
   ·replace h := h_t h hb17
    clear hb17
    refine r_bind ?_
    refine r_done ?_
    repeat refine r_done ?_
    repeat refine r_done ?_
    obtain rfl := h_out h
    exact ret_of (RV.tmp RV.nil) (Le.refl _) ⟨rfl,rfl⟩
   ·replace h := h_f h hb17
    clear hb17
    refine r_done ?_
    refine r_done ?_
    refine r_bind ?_
    refine r_ld 2 tt_ok (v := .pointer (some ((adr g_f0.s_Tenants.1).add (f0.e.Tenant.toNat * 12)))) ts_77 rfl (by rw [← fptr_at h_f0_t hx13]; kernel_rfl) ?_
    refine r_kp [(0,.pointer (some ⟨bf0,0,none⟩)),(76,.pointer (some ((adr g_f0.s_Tenants.1).add (f0.e.Tenant.toNat * 12))))] (by kernel_rfl) fun fr => ?_
    refine r_sec 0 (E := eTenantState) tt_ok ({ x12 with Shed := false }) (idx_get hx13) (fit1 ts_4 (by kernel_rfl)) rfl rfl (pl1 _ _ _) (by kernel_rfl) (by kernel_rfl) (List.cons_ne_nil _ _) ?_
    rw [show (en_state_fold f0 g_f0) = (en_state_fold ({ f0 with s := { f0.s with Tenants := (f0.s.Tenants.set f0.e.Tenant.toNat ({ x12 with Shed := false })) } }) g_f0) by simp [en_state_fold]]
    rw [← @List.length_set _ f0.s.Tenants f0.e.Tenant.toNat ({ x12 with Shed := false })]
    refine r_done ?_
    refine r_bind ?_
    replace h := h_b h; obtain ⟨x19,hx18,h⟩ := h
    refine r_call (hc_74 (bf0 := bf0) (g_f0 := g_f0) (f0 := { f0 with s := { f0.s with Tenants := (f0.s.Tenants.set f0.e.Tenant.toNat ({ x12 with Shed := false })) } }) (hS_f0 := by exact (le_d 0).trans hS_f0) (h_f0 := by exact h_f0) (h_f0_t := by exact h_f0_t) (h_f0_cell := by exact h_f0_cell) (h := hx18)) ?_
    rintro _ _ ⟨rfl,rfl⟩
    refine r_done ?_
    repeat refine r_done ?_
    repeat refine r_done ?_
    obtain rfl := h_out h
    exact ret_of (RV.tmp RV.nil) (Le.refl _) ⟨rfl,rfl⟩
theorem hc_54 {ρ : Addr → Option Value} {L : List Ent} {bf0 : Nat} {g_f0 : gstate_fold} {S_f0 : St} (hS_f0 : Le ⟨ρ,L⟩ S_f0) (f0 : state_fold) (h_f0 : Sl_state_fold S_f0 f0 g_f0) (h_f0_t : g_f0.t = fptr g_f0.s_Tenants.1 f0.e.Tenant 12) (h_f0_cell : g_f0.cell = fptr g_f0.s_Cells.1 f0.e.Cell 4) {r : (Int × State)} (h : state_fold_mode f0 = some r) : HC Try.prog 54 #[.pointer (some ⟨bf0,0,none⟩)] ⟨ρ,.row g_f0.s_Tenants.1 f0.s.Tenants.length g_f0.s_Tenants.2 50 12 (fl eTenantState.en f0.s.Tenants) :: .row g_f0.s_Cells.1 f0.s.Cells.length g_f0.s_Cells.2 67 4 (fl eCellState.en f0.s.Cells) :: .obj bf0 (en_state_fold f0 g_f0) 80 :: L⟩ (fun v S' => v = .int .i64 r.1 ∧ S' = ⟨ρ,.row g_f0.s_Tenants.1 r.2.Tenants.length g_f0.s_Tenants.2 50 12 (fl eTenantState.en r.2.Tenants) :: .row g_f0.s_Cells.1 r.2.Cells.length g_f0.s_Cells.2 67 4 (fl eCellState.en r.2.Cells) :: .obj bf0 (en_state_fold ({ f0 with s := r.2 }) g_f0) 80 :: L⟩) := by
 replace h := h_in h
 refine HC.intro (N := 38) (args := [_]) tt_ok Try.func54 rfl (by decide +kernel) rfl (Nat.le_of_ble_eq_true rfl) ?_
 refine r_bind ?_
 refine r_done ?_
 refine r_bind ?_
 refine r_bind ?_
 refine r_mix tt_ok hm_ok _ _ [] (.pure 0 (.pure 1 (.pure 2 (.vb 3 (.pure 4 (.pure 5 (.vb 6 (.pure 7 (.pure 8 (.pure 9 (.pure 10 (.vb 11 (.pure 12 .nil))))))))))))) (le_w [true,true,true]) (le_w [true,true,true]) ?_ ?_
 ·decide +kernel
 refine x_p rfl ?_
 refine v_done ?_
 refine x_p rfl ?_
 refine v_done ?_
 refine x_p rfl ?_
 refine v_done ?_
 refine x_vb rfl ?_
 replace h := h_b h; obtain ⟨x1,hx2,h⟩ := h
 refine v_ld 2 tt_ok (v := .pointer (some ((adr g_f0.s_Cells.1).add (f0.e.Cell.toNat * 4)))) ts_78 rfl (by rw [← fptr_at h_f0_cell hx2]; kernel_rfl) ?_
 refine v_done ?_
 refine x_p rfl ?_
 refine v_done ?_
 refine x_p rfl ?_
 refine v_done ?_
 refine x_vb rfl ?_
 refine v_lec (E := eCellState) tt_ok (v := .int .i64 x1.Mode) (idx_get hx2) (rd_row 1 rfl) ts_3 rfl (pl1 _ _ _) (by kernel_rfl) ?_
 refine v_done ?_
 refine x_p rfl ?_
 refine v_done ?_
 refine x_kp [(0,.pointer (some ⟨bf0,0,none⟩)),(9,.int .i64 x1.Mode),(10,.pointer (some ⟨bf0,0,none⟩))] (by kernel_rfl) fun fr => ?_
 refine x_p rfl ?_
 refine v_done ?_
 refine x_p rfl ?_
 refine v_done ?_
 refine x_p rfl ?_
 refine v_done ?_
 refine x_vb rfl ?_
 refine v_ld 2 tt_ok (v := .int .i64 f0.e.N) ts_3 rfl (by kernel_rfl) ?_
 refine v_done ?_
 refine x_p rfl ?_
 refine v_done ?_
 refine x_k [(0,.pointer (some ⟨bf0,0,none⟩)),(15,.bool (decide (x1.Mode = f0.e.N)))] (by kernel_rfl) fun fr => ?_
 refine r_done ?_
 refine r_ite (fun hb3 => ?_) (fun hb3 => ?_)
 ·replace h := h_t h hb3
  clear hb3
  refine r_bind ?_
  refine r_done ?_
  repeat refine r_done ?_
  repeat refine r_done ?_
  obtain rfl := h_out h
  exact ret_of (RV.tmp RV.nil) (Le.refl _) ⟨rfl,rfl⟩
 ·replace h := h_f h hb3
  clear hb3
  refine r_done ?_
  refine r_bind ?_
  refine r_mix tt_ok hm_ok _ _ [] (.pure 0 (.pure 1 (.pure 2 (.vb 3 (.pure 4 (.pure 5 (.pure 6 (.vb 7 (.pure 8 (.pure 9 (.pure 10 (.pure 11 (.vb 12 (.pure 13 (.pure 14 (.pure 15 (.pure 16 (.vb 17 (.pure 18 (.pure 19 (.eff 20 (.pure 21 (.pure 22 (.eff 23 .nil)))))))))))))))))))))))) (le_w [true,false,true]) (le_w [true,false,true]) ?_ ?_
  ·decide +kernel
  refine x_p rfl ?_
  refine v_done ?_
  refine x_p rfl ?_
  refine v_done ?_
  refine x_p rfl ?_
  refine v_done ?_
  refine x_vb rfl ?_
  refine v_ld 1 tt_ok (v := .pointer (some ((adr g_f0.s_Cells.1).add (f0.e.Cell.toNat * 4)))) ts_78 rfl (by rw [← fptr_at h_f0_cell hx2]; kernel_rfl) ?_
  refine v_done ?_
  refine x_p rfl ?_
  refine v_done ?_
  refine x_p rfl ?_
  refine v_done ?_
  refine x_p rfl ?_
  refine v_done ?_
  refine x_vb rfl ?_
  refine v_ld 1 tt_ok (v := .pointer (some ((adr g_f0.s_Cells.1).add (f0.e.Cell.toNat * 4)))) ts_78 rfl (by rw [← fptr_at h_f0_cell hx2]; kernel_rfl) ?_
  refine v_done ?_
  refine x_p rfl ?_
  refine v_done ?_
  refine x_kp [(0,.pointer (some ⟨bf0,0,none⟩)),(19,.pointer (some ((adr g_f0.s_Cells.1).add (f0.e.Cell.toNat * 4)))),(23,.pointer (some ((adr g_f0.s_Cells.1).add (f0.e.Cell.toNat * 4)))),(24,.pointer (some ⟨bf0,0,none⟩))] (by kernel_rfl) fun fr => ?_
  refine x_p rfl ?_
  refine v_done ?_
  refine x_p rfl ?_
  refine v_done ?_
  refine x_p rfl ?_
  refine v_done ?_
  refine x_vb rfl ?_
  refine v_ld 1 tt_ok (v := .int .i64 f0.e.N) ts_3 rfl (by kernel_rfl) ?_
  refine v_done ?_
  refine x_p rfl ?_
  refine v_done ?_
  refine x_p rfl ?_
  refine v_done ?_
  refine x_p rfl ?_
  refine v_done ?_
  refine x_p rfl ?_
  refine v_done ?_
  refine x_vb rfl ?_
  refine v_ld 1 tt_ok (v := .int .i64 f0.e.Tick) ts_3 rfl (by kernel_rfl) ?_
  refine v_done ?_
  refine x_kp [(19,.pointer (some ((adr g_f0.s_Cells.1).add (f0.e.Cell.toNat * 4)))),(23,.pointer (some ((adr g_f0.s_Cells.1).add (f0.e.Cell.toNat * 4)))),(28,.int .i64 f0.e.N),(33,.int .i64 f0.e.Tick)] (by kernel_rfl) fun fr => ?_
  refine x_p rfl ?_
  refine v_done ?_
  refine x_p rfl ?_
  refine v_done ?_
  refine x_e rfl ?_
  refine r_sec 1 (E := eCellState) tt_ok ({ x1 with Mode := f0.e.N }) (idx_get hx2) (fit1 ts_3 (by kernel_rfl)) rfl rfl (pl1 _ _ _) (by kernel_rfl) (by kernel_rfl) (List.cons_ne_nil _ _) ?_
  rw [show (en_state_fold f0 g_f0) = (en_state_fold ({ f0 with s := { f0.s with Cells := (f0.s.Cells.set f0.e.Cell.toNat ({ x1 with Mode := f0.e.N })) } }) g_f0) by simp [en_state_fold]]
  rw [← @List.length_set _ f0.s.Cells f0.e.Cell.toNat ({ x1 with Mode := f0.e.N })]
  refine r_done ⟨rfl,k_a (le_w [true,false,true]) (le_w [true,false,true]),?_⟩
  refine x_p rfl ?_
  refine v_done ?_
  refine x_p rfl ?_
  refine v_done ?_
  refine x_e rfl ?_
  refine r_sec 1 (E := eCellState) tt_ok ({ x1 with Mode := f0.e.N,Since := f0.e.Tick }) (get_set (idx_get hx2) _) (fit1 ts_3 (by kernel_rfl)) rfl rfl (pl1 _ _ _) (by kernel_rfl) (by kernel_rfl) (List.cons_ne_nil _ _) ?_
  rw [show (en_state_fold ({ f0 with s := { f0.s with Cells := (f0.s.Cells.set f0.e.Cell.toNat ({ x1 with Mode := f0.e.N })) } }) g_f0) = (en_state_fold ({ f0 with s := { f0.s with Cells := ((f0.s.Cells.set f0.e.Cell.toNat ({ x1 with Mode := f0.e.N })).set f0.e.Cell.toNat ({ x1 with Mode := f0.e.N,Since := f0.e.Tick })) } }) g_f0) by simp [en_state_fold]]
  rw [← @List.length_set _ (f0.s.Cells.set f0.e.Cell.toNat ({ x1 with Mode := f0.e.N })) f0.e.Cell.toNat ({ x1 with Mode := f0.e.N,Since := f0.e.Tick })]
  refine r_done ⟨rfl,k_a (le_w [true,false,true]) (le_w [true,false,true]),?_⟩
  refine x_k [] (by kernel_rfl) fun fr => ?_
  refine r_done ?_
  refine r_bind ?_
  refine r_done ?_
  repeat refine r_done ?_
  repeat refine r_done ?_
  obtain rfl := h_out h
  exact ret_of (RV.tmp RV.nil) (Le.refl _) ⟨rfl,rfl⟩
theorem hc_79 {ρ : Addr → Option Value} {L : List Ent} {g_s0 : gState} {S_s0 : St} (hS_s0 : Le ⟨ρ,L⟩ S_s0) (s0 : State) (version1 : Int) (h_s0 : Sl_State S_s0 s0 g_s0) {r : Bool} (h : state_proven s0 version1 = some r) : HC Try.prog 79 #[.agg (en_State s0 g_s0).toArray,.int .i64 version1] ⟨ρ,L⟩ (fun v S' => v = .bool r ∧ S' = ⟨ρ,L⟩) := by
 replace h := h_in h
 refine HC.intro (N := 19) (args := [_,_]) tt_ok Try.func79 rfl (by decide +kernel) rfl (Nat.le_of_ble_eq_true rfl) ?_
 refine r_bind ?_
 refine r_bx (en_State s0 g_s0) (by kernel_rfl) fun bq1 => ?_
 refine r_done ?_
 refine r_bind ?_
 replace h := h_j h; obtain ⟨K6,h,hK7⟩ := h
 refine r_meet (fun fr S => ∃ (x5 : Bool),∃ fr0,K6 x5 = some r ∧ fr = updL [(4,.bool x5)] fr0 ∧ S = ⟨ρ,L⟩) ?_ ?_
 ·refine r_ite (fun (hb2 : (decide (0 ≤ version1)) = true) => ?_) (fun (hb2 : (decide (0 ≤ version1)) = false) => ?_)
  ·replace h := h_t h hb2
   clear hb2
   refine r_kp [(1,.int .i64 version1),(2,.pointer (some ⟨bq1,0,none⟩)),(4,.bool false),(7,.bool true),(8,.int .i64 version1)] (by kernel_rfl) fun fr => ?_
   refine r_T rfl ?_
   refine r_ite (fun (hb3 : (decide (version1 < 30)) = true) => ?_) (fun (hb3 : (decide (version1 < 30)) = false) => ?_)
   ·replace h := h_t h hb3
    clear hb3
    refine r_T rfl ?_
    refine r_ld 0 tt_ok (v := .int .i64 s0.Proven) ts_3 rfl (by kernel_rfl) ?_
    refine r_T rfl ?_
    refine r_T rfl ?_
    replace h := h_p h; obtain ⟨hc4,h⟩ := h
    refine r_check hc4 ?_
    refine r_num (e' := shr .i64 s0.Proven version1) rfl ?_
    refine r_T rfl ?_
    refine r_num (e' := bAnd .i64 (shr .i64 s0.Proven version1) 1) rfl ?_
    refine r_T rfl ?_
    refine r_kp [(4,.bool false),(11,.bool true),(17,.bool (decide (bAnd .i64 (shr .i64 s0.Proven version1) 1 = 1)))] (by kernel_rfl) fun fr => ?_
    refine r_le (le_w [false]) ?_
    exact r_done ⟨decide (bAnd .i64 (shr .i64 s0.Proven version1) 1 = 1),_,h,fr_eq _ (by kernel_rfl),(by kernel_rfl)⟩
   ·replace h := h_f h hb3
    clear hb3
    refine r_F rfl ?_
    refine r_F rfl ?_
    refine r_F rfl ?_
    refine r_F rfl ?_
    refine r_F rfl ?_
    refine r_kp [(4,.bool false),(11,.bool false),(17,undef)] (by kernel_rfl) fun fr => ?_
    refine r_F rfl ?_
    refine r_le (le_w [false]) ?_
    exact r_done ⟨false,_,h,fr_eq _ (by kernel_rfl),(by kernel_rfl)⟩
  ·replace h := h_f h hb2
   clear hb2
   refine r_kp [(1,.int .i64 version1),(2,.pointer (some ⟨bq1,0,none⟩)),(4,.bool false),(7,.bool false),(8,undef)] (by kernel_rfl) fun fr => ?_
   refine r_F rfl ?_
   refine r_F rfl ?_
   refine r_F rfl ?_
   refine r_F rfl ?_
   refine r_F rfl ?_
   refine r_F rfl ?_
   refine r_F rfl ?_
   refine r_F rfl ?_
   refine r_kp [(4,.bool false),(11,.bool false),(17,undef)] (by kernel_rfl) fun fr => ?_
   refine r_F rfl ?_
   refine r_le (le_w [false]) ?_
   exact r_done ⟨false,_,h,fr_eq _ (by kernel_rfl),(by kernel_rfl)⟩
 clear h
 rintro fr S ⟨x5,fr,h,rfl,rfl⟩
 replace h := hK7 _ h
 refine r_done ?_
 repeat refine r_done ?_
 repeat refine r_done ?_
 obtain rfl := h_out h
 exact ret_of (RV.tmp RV.nil) (Le.refl _) ⟨rfl,rfl⟩
theorem hc_77 {ρ : Addr → Option Value} {L : List Ent} {bf0 : Nat} {g_f0 : gstate_fold} {S_f0 : St} (hS_f0 : Le ⟨ρ,L⟩ S_f0) (f0 : state_fold) (version1 : Int) (h_f0 : Sl_state_fold S_f0 f0 g_f0) (h_f0_t : g_f0.t = fptr g_f0.s_Tenants.1 f0.e.Tenant 12) (h_f0_cell : g_f0.cell = fptr g_f0.s_Cells.1 f0.e.Cell 4) {r : Bool} (h : state_fold_frozen f0 version1 = some r) : HC Try.prog 77 #[.pointer (some ⟨bf0,0,none⟩),.int .i64 version1] ⟨ρ,.row g_f0.s_Tenants.1 f0.s.Tenants.length g_f0.s_Tenants.2 50 12 (fl eTenantState.en f0.s.Tenants) :: .row g_f0.s_Cells.1 f0.s.Cells.length g_f0.s_Cells.2 67 4 (fl eCellState.en f0.s.Cells) :: .obj bf0 (en_state_fold f0 g_f0) 80 :: L⟩ (fun v S' => v = .bool r ∧ S' = ⟨ρ,.row g_f0.s_Tenants.1 f0.s.Tenants.length g_f0.s_Tenants.2 50 12 (fl eTenantState.en f0.s.Tenants) :: .row g_f0.s_Cells.1 f0.s.Cells.length g_f0.s_Cells.2 67 4 (fl eCellState.en f0.s.Cells) :: .obj bf0 (en_state_fold f0 g_f0) 80 :: L⟩) := by
 replace h := h_in h
 refine HC.intro (N := 20) (args := [_,_]) tt_ok Try.func77 rfl (by decide +kernel) rfl (Nat.le_of_ble_eq_true rfl) ?_
 refine r_bind ?_
 refine r_done ?_
 refine r_bind ?_
 replace h := h_j h; obtain ⟨K5,h,hK6⟩ := h
 refine r_meet (fun fr S => ∃ (x4 : Bool),∃ fr0,K5 x4 = some r ∧ fr = updL [(4,.bool x4)] fr0 ∧ S = ⟨ρ,.row g_f0.s_Tenants.1 f0.s.Tenants.length g_f0.s_Tenants.2 50 12 (fl eTenantState.en f0.s.Tenants) :: .row g_f0.s_Cells.1 f0.s.Cells.length g_f0.s_Cells.2 67 4 (fl eCellState.en f0.s.Cells) :: .obj bf0 (en_state_fold f0 g_f0) 80 :: L⟩) ?_ ?_
 ·refine r_ldn 2 tt_ok (en_State f0.s (⟨(g_f0.s_Tenants.1,g_f0.s_Tenants.2),(g_f0.s_Cells.1,g_f0.s_Cells.2)⟩)) ta_36 rfl (by kernel_rfl) (by kernel_rfl) ?_
  refine r_kp [(0,.pointer (some ⟨bf0,0,none⟩)),(1,.int .i64 version1),(4,.bool false),(8,.agg (en_State f0.s (⟨(g_f0.s_Tenants.1,g_f0.s_Tenants.2),(g_f0.s_Cells.1,g_f0.s_Cells.2)⟩)).toArray)] (by kernel_rfl) fun fr => ?_
  replace h := h_b h; obtain ⟨x2,hx1,h⟩ := h
  refine r_call (hc_79 (g_s0 := ⟨(g_f0.s_Tenants.1,g_f0.s_Tenants.2),(g_f0.s_Cells.1,g_f0.s_Cells.2)⟩) (s0 := f0.s) (version1 := version1) (hS_s0 := by exact Le.refl _) (h_s0 := by exact ⟨sl_row 0 rfl,sl_row 1 rfl⟩) (h := hx1)) ?_
  rintro _ _ ⟨rfl,rfl⟩
  refine r_ite (fun (hb3 : (!x2) = true) => ?_) (fun (hb3 : (!x2) = false) => ?_)
  ·replace h := h_t h hb3
   clear hb3
   refine r_T rfl ?_
   refine r_T rfl ?_
   refine r_T rfl ?_
   refine r_T rfl ?_
   refine r_ld 2 tt_ok (v := .int .i64 f0.s.Evacuating) ts_3 rfl (by kernel_rfl) ?_
   refine r_kp [(4,.bool false),(12,.bool true),(17,.int .i64 f0.s.Evacuating)] (by kernel_rfl) fun fr => ?_
   refine r_T rfl ?_
   exact r_done ⟨!decide (f0.s.Evacuating = 0),_,h,fr_eq _ (by kernel_rfl),(by kernel_rfl)⟩
  ·replace h := h_f h hb3
   clear hb3
   refine r_F rfl ?_
   refine r_F rfl ?_
   refine r_F rfl ?_
   refine r_F rfl ?_
   refine r_kp [(4,.bool false),(12,.bool false),(17,undef)] (by kernel_rfl) fun fr => ?_
   refine r_F rfl ?_
   refine r_F rfl ?_
   exact r_done ⟨false,_,h,fr_eq _ (by kernel_rfl),(by kernel_rfl)⟩
 clear h
 rintro fr S ⟨x4,fr,h,rfl,rfl⟩
 replace h := hK6 _ h
 refine r_done ?_
 repeat refine r_done ?_
 repeat refine r_done ?_
 obtain rfl := h_out h
 exact ret_of (RV.tmp RV.nil) (Le.refl _) ⟨rfl,rfl⟩
theorem hc_101 {ρ : Addr → Option Value} {L : List Ent} {g_s0 : gState} {S_s0 : St} (hS_s0 : Le ⟨ρ,L⟩ S_s0) (s0 : State) (cell1 : Int) (h_s0 : Sl_State S_s0 s0 g_s0) {r : Bool} (h : state_unproven s0 cell1 = some r) : HC Try.prog 101 #[.agg (en_State s0 g_s0).toArray,.int .i64 cell1] ⟨ρ,L⟩ (fun v S' => v = .bool r ∧ S' = ⟨ρ,L⟩) := by
 replace h := h_in h
 refine HC.intro (N := 23) (args := [_,_]) tt_ok Try.func101 rfl (by decide +kernel) rfl (Nat.le_of_ble_eq_true rfl) ?_
 refine r_bind ?_
 refine r_bx (en_State s0 g_s0) (by kernel_rfl) fun bq1 => ?_
 refine r_done ?_
 refine r_bind ?_
 refine r_ld 0 tt_ok (v := .slice g_s0.Cells.1 s0.Cells.length g_s0.Cells.2) ts_34 rfl (by kernel_rfl) ?_
 replace h := h_b h; obtain ⟨x2,hx3,h⟩ := h
 refine r_el hx3 ((h_s0.2).rd.mono ((le_d 1).trans hS_s0)) ?_
 refine r_len (E := eCellState) tt_ok (en_CellState x2) (idx_get hx3) ((h_s0.2).rd.mono ((le_d 1).trans hS_s0)) ta_67 rfl (pl0 _ _) (by kernel_rfl) (by kernel_rfl) ?_
 refine r_al tt_ok (en_CellState (⟨0,0,0,0⟩ : CellState)) ti_67 (by kernel_rfl) fun bq4 => ?_
 refine r_s 0 tt_ok (en_CellState x2) (fitn ta_67 (by kernel_rfl)) rfl (by kernel_rfl) (by kernel_rfl) ?_
 refine r_keep [(2,.pointer (some ⟨bq1,0,none⟩)),(5,.pointer (some ⟨bq4,0,none⟩))] (by kernel_rfl) fun fr => ?_
 refine r_done ?_
 refine r_bind ?_
 replace h := h_j h; obtain ⟨K11,h,hK12⟩ := h
 refine r_meet (fun fr S => ∃ (x10 : Bool),∃ fr0,K11 x10 = some r ∧ fr = updL [(4,.bool x10)] fr0 ∧ S = ⟨ρ,L⟩) ?_ ?_
 ·refine r_ldn 1 tt_ok (en_State s0 g_s0) ta_36 rfl (by kernel_rfl) (by kernel_rfl) ?_
  refine r_ld 0 tt_ok (v := .int .i64 x2.Running) ts_3 rfl (by kernel_rfl) ?_
  replace h := h_b h; obtain ⟨x6,hx5,h⟩ := h
  refine r_call (hc_79 (g_s0 := g_s0) (s0 := s0) (version1 := x2.Running) (hS_s0 := by exact (le_d 2).trans hS_s0) (h_s0 := by exact h_s0) (h := hx5)) ?_
  rintro _ _ ⟨rfl,rfl⟩
  refine r_ite (fun (hb7 : (!x6) = true) => ?_) (fun (hb7 : (!x6) = false) => ?_)
  ·replace h := h_t h hb7
   clear hb7
   refine r_kp [(5,.pointer (some ⟨bq4,0,none⟩)),(16,.bool true),(17,undef)] (by kernel_rfl) fun fr => ?_
   refine r_T rfl ?_
   refine r_T rfl ?_
   refine r_T rfl ?_
   refine r_T rfl ?_
   refine r_T rfl ?_
   refine r_le (le_w [false,false]) ?_
   exact r_done ⟨true,_,h,fr_eq _ (by kernel_rfl),(by kernel_rfl)⟩
  ·replace h := h_f h hb7
   clear hb7
   refine r_ldn 1 tt_ok (en_State s0 g_s0) ta_36 rfl (by kernel_rfl) (by kernel_rfl) ?_
   refine r_kp [(5,.pointer (some ⟨bq4,0,none⟩)),(16,.bool false),(17,.agg (en_State s0 g_s0).toArray)] (by kernel_rfl) fun fr => ?_
   refine r_F rfl ?_
   refine r_F rfl ?_
   refine r_ld 0 tt_ok (v := .int .i64 x2.Wanted) ts_3 rfl (by kernel_rfl) ?_
   refine r_F rfl ?_
   replace h := h_b h; obtain ⟨x9,hx8,h⟩ := h
   refine r_call (hc_79 (g_s0 := g_s0) (s0 := s0) (version1 := x2.Wanted) (hS_s0 := by exact (le_d 2).trans hS_s0) (h_s0 := by exact h_s0) (h := hx8)) ?_
   rintro _ _ ⟨rfl,rfl⟩
   refine r_F rfl ?_
   refine r_le (le_w [false,false]) ?_
   exact r_done ⟨!x9,_,h,fr_eq _ (by kernel_rfl),(by kernel_rfl)⟩
 clear h
 rintro fr S ⟨x10,fr,h,rfl,rfl⟩
 replace h := hK12 _ h
 refine r_done ?_
 repeat refine r_done ?_
 repeat refine r_done ?_
 obtain rfl := h_out h
 exact ret_of (RV.tmp RV.nil) (Le.refl _) ⟨rfl,rfl⟩
theorem hc_93 {ρ : Addr → Option Value} {L : List Ent} {g_s0 : gState} {S_s0 : St} (hS_s0 : Le ⟨ρ,L⟩ S_s0) (s0 : State) (h_s0 : Sl_State S_s0 s0 g_s0) {r : (List Int)} (h : state_Unproven s0 = some r) : HC Try.prog 93 #[.agg (en_State s0 g_s0).toArray] ⟨ρ,L⟩ (fun v S' => ∃ (Aq1_0 : Option Addr),∃ (cq1_0 : Nat),v = .slice Aq1_0 r.length cq1_0 ∧ S' = ⟨ρ,.row Aq1_0 r.length cq1_0 3 1 (fl eI64.en r) :: L⟩) := by
 replace h := h_in h
 refine HC.intro (N := 20) (args := [_]) tt_ok Try.func93 rfl (by decide +kernel) rfl (Nat.le_of_ble_eq_true rfl) ?_
 refine r_bind ?_
 refine r_bx (en_State s0 g_s0) (by kernel_rfl) fun bq1 => ?_
 refine r_done ?_
 refine r_bind ?_
 refine r_done ?_
 refine r_bind ?_
 refine r_bind ?_
 refine r_ld 0 tt_ok (v := .slice g_s0.Cells.1 s0.Cells.length g_s0.Cells.2) ts_34 rfl (by kernel_rfl) ?_
 refine r_done ?_
 refine r_bind ?_
 replace h := h_l h; obtain ⟨K48,n49,h,hK50⟩ := h
 refine r_le (le_nil 3 1) ?_
 refine r_loop (fun n fr S => ∃ (xs33 : (List Int)),∃ (x37 : Int),∃ (A34 : Option Addr),∃ (c35 : Nat),∃ fr0,(runN (state_Unproven.b1 s0) n (xs33,x37)).bind K48 = some r ∧ fr = updL [(1,.pointer (some ⟨bq1,0,none⟩)),(3,.slice A34 xs33.length c35),(7,.int .i64 (s0.Cells.length : Int)),(8,.int .i64 x37)] fr0 ∧ S = ⟨ρ,.row A34 xs33.length c35 3 1 (fl eI64.en xs33) :: .obj bq1 (en_State s0 g_s0) 36 :: L⟩) n49 ⟨[],0,none,0,_,h,fr_eq _ (by kernel_rfl),(by kernel_rfl)⟩ ?_
 clear h
 rintro n49 fr S ⟨xs33,x37,A34,c35,fr,h,rfl,rfl⟩
 replace h := h_r h; obtain ⟨m51,hm51,h⟩ := h
 refine r_bind ?_
 refine r_done ?_
 refine r_bind ?_
 refine r_ite (fun hb38 => ?_) (fun hb38 => ?_)
 ·replace h := h_t h hb38
  clear hb38
  refine r_done ?_
  refine r_bind ?_
  refine r_bind ?_
  refine r_bind ?_
  refine r_done ?_
  refine r_bind ?_
  refine r_ldn 1 tt_ok (en_State s0 g_s0) ta_36 rfl (by kernel_rfl) (by kernel_rfl) ?_
  replace h := h_b h; obtain ⟨x40,hx39,h⟩ := h
  refine r_call (hc_101 (g_s0 := g_s0) (s0 := s0) (cell1 := x37) (hS_s0 := by exact (le_d 2).trans hS_s0) (h_s0 := by exact h_s0) (h := hx39)) ?_
  rintro _ _ ⟨rfl,rfl⟩
  refine r_done ?_
  refine r_ite (fun hb41 => ?_) (fun hb41 => ?_)
  ·replace h := h_t h hb41
   clear hb41
   refine r_bs tt_ok (fl eI64.en [x37]) te_22 ti_3 (by kernel_rfl) (by kernel_rfl) (by kernel_rfl) (by kernel_rfl) fun bq42 => ?_
   refine r_kp [(1,.pointer (some ⟨bq1,0,none⟩)),(3,.slice A34 xs33.length c35),(7,.int .i64 (s0.Cells.length : Int)),(8,.int .i64 x37),(14,.slice A34 xs33.length c35),(16,.slice (some ⟨bq42,0,none⟩) [x37].length 1)] (by kernel_rfl) fun fr => ?_
   replace h := h_b h; obtain ⟨xs43,ha44,h⟩ := h
   refine r_app 1 (E := eI64) (xs := xs33) (ys := [x37]) tt_ok ha44 (rd_row 0 rfl) rfl te_22 ti_3 rfl (by kernel_rfl) rfl (fun A45 c46 => ?_)
   refine r_done ?_
   refine r_done ?_
   refine r_num (e' := w64 (x37 + 1)) rfl ?_
   refine r_le (le_w [false,true,true]) ?_
   exact r_done ⟨m51,lt_s hm51,xs43,w64 (x37 + 1),A45,c46,_,h,fr_eq _ (by kernel_rfl),(by kernel_rfl)⟩
  ·replace h := h_f h hb41
   clear hb41
   refine r_done ?_
   refine r_done ?_
   refine r_num (e' := w64 (x37 + 1)) rfl ?_
   exact r_done ⟨m51,lt_s hm51,xs33,w64 (x37 + 1),A34,c35,_,h,fr_eq _ (by kernel_rfl),(by kernel_rfl)⟩
 ·replace h := h_f h hb38
  clear hb38
  refine r_done ?_
  refine r_done ?_
  replace h := h_m h
  subst hK50
  refine r_done ?_
  refine r_bind ?_
  refine r_done ?_
  repeat refine r_done ?_
  repeat refine r_done ?_
  obtain rfl := h_out h
  exact ret_of (RV.tmp RV.nil) (le_w [true,false]) ⟨A34,c35,rfl,rfl⟩
theorem hc_78 {ρ : Addr → Option Value} {L : List Ent} {bf0 : Nat} {g_f0 : gstate_fold} {S_f0 : St} (hS_f0 : Le ⟨ρ,L⟩ S_f0) (f0 : state_fold) (version1 : Int) (h_f0 : Sl_state_fold S_f0 f0 g_f0) (h_f0_t : g_f0.t = fptr g_f0.s_Tenants.1 f0.e.Tenant 12) (h_f0_cell : g_f0.cell = fptr g_f0.s_Cells.1 f0.e.Cell 4) {r : Bool} (h : state_fold_blasted f0 version1 = some r) : HC Try.prog 78 #[.pointer (some ⟨bf0,0,none⟩),.int .i64 version1] ⟨ρ,.row g_f0.s_Tenants.1 f0.s.Tenants.length g_f0.s_Tenants.2 50 12 (fl eTenantState.en f0.s.Tenants) :: .row g_f0.s_Cells.1 f0.s.Cells.length g_f0.s_Cells.2 67 4 (fl eCellState.en f0.s.Cells) :: .obj bf0 (en_state_fold f0 g_f0) 80 :: L⟩ (fun v S' => v = .bool r ∧ S' = ⟨ρ,.row g_f0.s_Tenants.1 f0.s.Tenants.length g_f0.s_Tenants.2 50 12 (fl eTenantState.en f0.s.Tenants) :: .row g_f0.s_Cells.1 f0.s.Cells.length g_f0.s_Cells.2 67 4 (fl eCellState.en f0.s.Cells) :: .obj bf0 (en_state_fold f0 g_f0) 80 :: L⟩) := by
 replace h := h_in h
 refine HC.intro (N := 30) (args := [_,_]) tt_ok Try.func78 rfl (by decide +kernel) rfl (Nat.le_of_ble_eq_true rfl) ?_
 refine r_bind ?_
 refine r_bx ([.pointer (some ⟨bf0,0,none⟩)]) (by kernel_rfl) fun bq1 => ?_
 refine r_done ?_
 refine r_bind ?_
 refine r_ld 0 tt_ok (v := .pointer (some ⟨bf0,0,none⟩)) ts_75 rfl (by kernel_rfl) ?_
 refine r_ldn 3 tt_ok (en_State f0.s (⟨(g_f0.s_Tenants.1,g_f0.s_Tenants.2),(g_f0.s_Cells.1,g_f0.s_Cells.2)⟩)) ta_36 rfl (by kernel_rfl) (by kernel_rfl) ?_
 replace h := h_b h; obtain ⟨xs3,hx2,h⟩ := h
 refine r_call (hc_93 (g_s0 := ⟨(g_f0.s_Tenants.1,g_f0.s_Tenants.2),(g_f0.s_Cells.1,g_f0.s_Cells.2)⟩) (s0 := f0.s) (hS_s0 := by exact Le.refl _) (h_s0 := by exact ⟨sl_row 1 rfl,sl_row 2 rfl⟩) (h := hx2)) ?_
 rintro _ _ ⟨A4,c5,rfl,rfl⟩
 replace h := h_j h; obtain ⟨K85,h,hK86⟩ := h
 refine r_call (Post := fun v S => ∃ (xs80 : (List Int)),∃ (xs83 : (List Int)),∃ (A81 : Option Addr),∃ (c82 : Nat),K85 (xs80,xs83) = some r ∧ v = .slice A81 xs80.length c82 ∧ S = ⟨ρ,.row A4 xs83.length c5 3 1 (fl eI64.en xs83) :: .obj bq1 ([.pointer (some ⟨bf0,0,none⟩)]) 75 :: .row g_f0.s_Tenants.1 f0.s.Tenants.length g_f0.s_Tenants.2 50 12 (fl eTenantState.en f0.s.Tenants) :: .row g_f0.s_Cells.1 f0.s.Cells.length g_f0.s_Cells.2 67 4 (fl eCellState.en f0.s.Cells) :: .obj bf0 (en_state_fold f0 g_f0) 80 :: L⟩) ?_ ?_
 ·refine HC.intro (N := 42) (args := [_,_]) tt_ok Try.func92 rfl (by decide +kernel) rfl (Nat.le_of_ble_eq_true rfl) ?_
  refine r_bind ?_
  refine r_done ?_
  refine r_bind ?_
  replace h := h_j h; obtain ⟨K27,h,hK28⟩ := h
  refine r_call (Post := fun v S => ∃ (x26 : Int),K27 x26 = some r ∧ v = .int .i64 x26 ∧ S = ⟨ρ,.row A4 xs3.length c5 3 1 (fl eI64.en xs3) :: .obj bq1 ([.pointer (some ⟨bf0,0,none⟩)]) 75 :: .row g_f0.s_Tenants.1 f0.s.Tenants.length g_f0.s_Tenants.2 50 12 (fl eTenantState.en f0.s.Tenants) :: .row g_f0.s_Cells.1 f0.s.Cells.length g_f0.s_Cells.2 67 4 (fl eCellState.en f0.s.Cells) :: .obj bf0 (en_state_fold f0 g_f0) 80 :: L⟩) ?_ ?_
  ·refine HC.intro (N := 19) (args := [_,_]) tt_ok Try.func100 rfl (by decide +kernel) rfl (Nat.le_of_ble_eq_true rfl) ?_
   refine r_bind ?_
   refine r_done ?_
   refine r_bind ?_
   refine r_bind ?_
   refine r_done ?_
   refine r_bind ?_
   replace h := h_l h; obtain ⟨K22,n23,h,hK24⟩ := h
   refine r_loop (fun n fr S => ∃ (x17 : Int),∃ fr0,(runN (state_fold_blasted.b1 xs3 f0) n x17).bind K22 = some r ∧ fr = updL [(0,.slice A4 xs3.length c5),(1,.func (.func 94) #[] #[.pointer (some ⟨bq1,0,none⟩)]),(7,.int .i64 (xs3.length : Int)),(8,.int .i64 x17)] fr0 ∧ S = ⟨ρ,.row A4 xs3.length c5 3 1 (fl eI64.en xs3) :: .obj bq1 ([.pointer (some ⟨bf0,0,none⟩)]) 75 :: .row g_f0.s_Tenants.1 f0.s.Tenants.length g_f0.s_Tenants.2 50 12 (fl eTenantState.en f0.s.Tenants) :: .row g_f0.s_Cells.1 f0.s.Cells.length g_f0.s_Cells.2 67 4 (fl eCellState.en f0.s.Cells) :: .obj bf0 (en_state_fold f0 g_f0) 80 :: L⟩) n23 ⟨0,_,h,fr_eq _ (by kernel_rfl),(by kernel_rfl)⟩ ?_
   clear h
   rintro n23 fr S ⟨x17,fr,h,rfl,rfl⟩
   replace h := h_r h; obtain ⟨m25,hm25,h⟩ := h
   refine r_bind ?_
   refine r_done ?_
   refine r_bind ?_
   refine r_ite (fun hb18 => ?_) (fun hb18 => ?_)
   ·replace h := h_t h hb18
    clear hb18
    refine r_done ?_
    refine r_bind ?_
    refine r_bind ?_
    refine r_bind ?_
    refine r_done ?_
    refine r_bind ?_
    replace h := h_b h; obtain ⟨x19,hx20,h⟩ := h
    refine r_el hx20 (rd_row 0 rfl) ?_
    refine r_lec (E := eI64) tt_ok (v := .int .i64 x19) (idx_get hx20) (rd_row 0 rfl) ts_3 rfl (pl0 _ _) (by kernel_rfl) ?_
    refine r_inl (HC.intro (N := 11) (args := [_,_]) tt_ok Try.func94 rfl (by decide +kernel) rfl (Nat.le_of_ble_eq_true rfl) ?_)
    refine r_bind ?_
    refine r_done ?_
    refine r_bind ?_
    refine r_ld 1 tt_ok (v := .pointer (some ⟨bf0,0,none⟩)) ts_75 rfl (by kernel_rfl) ?_
    refine r_ld 4 tt_ok (v := .int .i64 f0.e.Cell) ts_3 rfl (by kernel_rfl) ?_
    refine r_keep [(3,.bool (decide (x19 = f0.e.Cell)))] (by kernel_rfl) fun fr => ?_
    refine r_done ?_
    repeat refine r_done ?_
    repeat refine r_done ?_
    refine ret_of (RV.tmp RV.nil) (Le.refl _) ?_
    refine r_keep [(0,.slice A4 xs3.length c5),(1,.func (.func 94) #[] #[.pointer (some ⟨bq1,0,none⟩)]),(5,.int .i64 x17),(7,.int .i64 (xs3.length : Int)),(8,.int .i64 x17),(16,.bool (decide (x19 = f0.e.Cell)))] (by kernel_rfl) fun fr => ?_
    refine r_done ?_
    refine r_ite (fun hb21 => ?_) (fun hb21 => ?_)
    ·replace h := h_t h hb21
     clear hb21
     refine r_bind ?_
     refine r_done ?_
     repeat refine r_done ?_
     replace h := h_m h
     subst hK24
     repeat refine r_done ?_
     exact ret_of (RV.tmp RV.nil) (Le.refl _) ⟨x17,h,rfl,rfl⟩
    ·replace h := h_f h hb21
     clear hb21
     refine r_done ?_
     refine r_done ?_
     refine r_num (e' := w64 (x17 + 1)) rfl ?_
     exact r_done ⟨m25,lt_s hm25,w64 (x17 + 1),_,h,fr_eq _ (by kernel_rfl),(by kernel_rfl)⟩
   ·replace h := h_f h hb18
    clear hb18
    refine r_done ?_
    refine r_done ?_
    replace h := h_m h
    subst hK24
    refine r_done ?_
    refine r_bind ?_
    refine r_done ?_
    repeat refine r_done ?_
    repeat refine r_done ?_
    exact ret_of (RV.tmp RV.nil) (Le.refl _) ⟨(-1),h,rfl,rfl⟩
  clear h
  rintro v S ⟨x26,h,rfl,rfl⟩
  replace h := hK28 _ h
  refine r_done ?_
  refine r_bind ?_
  refine r_bind ?_
  refine r_done ?_
  refine r_ite (fun hb29 => ?_) (fun hb29 => ?_)
  ·replace h := h_t h hb29
   clear hb29
   refine r_bind ?_
   refine r_keep [(4,.slice A4 xs3.length c5)] (by kernel_rfl) fun fr => ?_
   refine r_done ?_
   repeat refine r_done ?_
   repeat refine r_done ?_
   exact ret_of (RV.tmp RV.nil) (Le.refl _) ⟨xs3,xs3,A4,c5,h,rfl,rfl⟩
  ·replace h := h_f h hb29
   clear hb29
   refine r_done ?_
   refine r_bind ?_
   replace h := h_j h; obtain ⟨K67,h,hK68⟩ := h
   refine r_meet (fun fr S => ∃ (xs64 : (List Int)),∃ (x66 : Int),∃ fr0,K67 (xs64,x66) = some r ∧ fr = updL [(0,.slice A4 xs64.length c5),(5,.int .i64 x66)] fr0 ∧ S = ⟨ρ,.row A4 xs64.length c5 3 1 (fl eI64.en xs64) :: .obj bq1 ([.pointer (some ⟨bf0,0,none⟩)]) 75 :: .row g_f0.s_Tenants.1 f0.s.Tenants.length g_f0.s_Tenants.2 50 12 (fl eTenantState.en f0.s.Tenants) :: .row g_f0.s_Cells.1 f0.s.Cells.length g_f0.s_Cells.2 67 4 (fl eCellState.en f0.s.Cells) :: .obj bf0 (en_state_fold f0 g_f0) 80 :: L⟩) ?_ ?_
   ·refine r_bind ?_
    refine r_num (e' := w64 (x26 + 1)) rfl ?_
    refine r_done ?_
    refine r_bind ?_
    replace h := h_l h; obtain ⟨K60,n61,h,hK62⟩ := h
    refine r_loop (fun n fr S => ∃ (xs50 : (List Int)),∃ (x52 : Int),∃ (x53 : Int),∃ fr0,(runN (state_fold_blasted.b3 f0) n (xs50,x52,x53)).bind K60 = some r ∧ fr = updL [(0,.slice A4 xs50.length c5),(1,.func (.func 94) #[] #[.pointer (some ⟨bq1,0,none⟩)]),(5,.int .i64 x52),(6,.int .i64 x53)] fr0 ∧ S = ⟨ρ,.row A4 xs50.length c5 3 1 (fl eI64.en xs50) :: .obj bq1 ([.pointer (some ⟨bf0,0,none⟩)]) 75 :: .row g_f0.s_Tenants.1 f0.s.Tenants.length g_f0.s_Tenants.2 50 12 (fl eTenantState.en f0.s.Tenants) :: .row g_f0.s_Cells.1 f0.s.Cells.length g_f0.s_Cells.2 67 4 (fl eCellState.en f0.s.Cells) :: .obj bf0 (en_state_fold f0 g_f0) 80 :: L⟩) n61 ⟨xs3,x26,w64 (x26 + 1),_,h,fr_eq _ (by kernel_rfl),(by kernel_rfl)⟩ ?_
    clear h
    rintro n61 fr S ⟨xs50,x52,x53,fr,h,rfl,rfl⟩
    replace h := h_r h; obtain ⟨m63,hm63,h⟩ := h
    refine r_bind ?_
    refine r_bind ?_
    refine r_done ?_
    refine r_ite (fun hb54 => ?_) (fun hb54 => ?_)
    ·replace h := h_t h hb54
     clear hb54
     refine r_done ?_
     refine r_bind ?_
     refine r_bind ?_
     refine r_bind ?_
     replace h := h_b h; obtain ⟨x55,hx56,h⟩ := h
     refine r_el hx56 (rd_row 0 rfl) ?_
     refine r_lec (E := eI64) tt_ok (v := .int .i64 x55) (idx_get hx56) (rd_row 0 rfl) ts_3 rfl (pl0 _ _) (by kernel_rfl) ?_
     refine r_keep [(0,.slice A4 xs50.length c5),(1,.func (.func 94) #[] #[.pointer (some ⟨bq1,0,none⟩)]),(5,.int .i64 x52),(6,.int .i64 x53),(7,.int .i64 x55)] (by kernel_rfl) fun fr => ?_
     refine r_done ?_
     refine r_bind ?_
     refine r_inl (HC.intro (N := 11) (args := [_,_]) tt_ok Try.func94 rfl (by decide +kernel) rfl (Nat.le_of_ble_eq_true rfl) ?_)
     refine r_bind ?_
     refine r_done ?_
     refine r_bind ?_
     refine r_ld 1 tt_ok (v := .pointer (some ⟨bf0,0,none⟩)) ts_75 rfl (by kernel_rfl) ?_
     refine r_ld 4 tt_ok (v := .int .i64 f0.e.Cell) ts_3 rfl (by kernel_rfl) ?_
     refine r_keep [(3,.bool (decide (x55 = f0.e.Cell)))] (by kernel_rfl) fun fr => ?_
     refine r_done ?_
     repeat refine r_done ?_
     repeat refine r_done ?_
     refine ret_of (RV.tmp RV.nil) (Le.refl _) ?_
     refine r_done ?_
     refine r_ite (fun hb57 => ?_) (fun hb57 => ?_)
     ·replace h := h_t h hb57
      clear hb57
      refine r_bind ?_
      replace h := h_b h; obtain ⟨x58,hx59,h⟩ := h
      refine r_el hx59 (rd_row 0 rfl) ?_
      refine r_sec 0 (E := eI64) tt_ok x55 (idx_get hx59) (fit1 ts_3 (by kernel_rfl)) rfl rfl (pl0 _ _) (by kernel_rfl) (by kernel_rfl) (List.cons_ne_nil _ _) ?_
      rw [← @List.length_set _ xs50 x52.toNat x55]
      refine r_keep [(0,.slice A4 (xs50.set x52.toNat x55).length c5),(1,.func (.func 94) #[] #[.pointer (some ⟨bq1,0,none⟩)]),(5,.int .i64 x52),(6,.int .i64 x53)] (by kernel_rfl) fun fr => ?_
      refine r_done ?_
      refine r_num (e' := w64 (x52 + 1)) rfl ?_
      refine r_done ?_
      refine r_done ?_
      refine r_num (e' := w64 (x53 + 1)) rfl ?_
      exact r_done ⟨m63,lt_s hm63,(xs50.set x52.toNat x55),w64 (x52 + 1),w64 (x53 + 1),_,h,fr_eq _ (by kernel_rfl),(by kernel_rfl)⟩
     ·replace h := h_f h hb57
      clear hb57
      refine r_done ?_
      refine r_done ?_
      refine r_num (e' := w64 (x53 + 1)) rfl ?_
      exact r_done ⟨m63,lt_s hm63,xs50,x52,w64 (x53 + 1),_,h,fr_eq _ (by kernel_rfl),(by kernel_rfl)⟩
    ·replace h := h_f h hb54
     clear hb54
     refine r_done ?_
     refine r_done ?_
     replace h := h_m h
     subst hK62
     exact r_done ⟨xs50,x52,_,h,fr_eq _ (by kernel_rfl),(by kernel_rfl)⟩
   clear h
   rintro fr S ⟨xs64,x66,fr,h,rfl,rfl⟩
   replace h := hK68 _ h
   refine r_done ?_
   refine r_bind ?_
   replace h := h_b h; obtain ⟨xs69,hz70,h⟩ := h
   refine r_cuta (E := eI64) (Le.refl _) tt_ok hz70 (sl_row 0 rfl) te_22 rfl (.inr ⟨_,rfl⟩) (.inl ⟨rfl,rfl⟩) (fun A71 c72 hs73 hA74 => ?_)
   refine r_clr 0 (E := eI64) tt_ok 0 hz70 hA74 rfl te_22 ti_3 rfl rfl rfl ?_
   rw [← cut_len (z := 0) hz70]
   refine r_done ?_
   refine r_bind ?_
   replace h := h_b h; obtain ⟨xs75,hz76,h⟩ := h
   refine r_cut (E := eI64) (Le.refl _) tt_ok hz76 (sl_row 0 rfl) te_22 rfl (.inl ⟨rfl,rfl⟩) (.inr ⟨_,rfl⟩) (fun A77 c78 hs79 => ?_)
   refine r_done ?_
   repeat refine r_done ?_
   repeat refine r_done ?_
   exact ret_of (RV.tmp RV.nil) (Le.refl _) ⟨xs75,(xs64.take x66.toNat ++ List.replicate xs69.length 0),A77,c78,h,rfl,rfl⟩
 clear h
 rintro v S ⟨xs80,xs83,A81,c82,h,rfl,rfl⟩
 replace h := hK86 _ h
 refine r_kp [(1,.int .i64 version1),(2,.pointer (some ⟨bq1,0,none⟩)),(12,.slice A81 xs80.length c82)] (by kernel_rfl) fun fr => ?_
 refine r_done ?_
 refine r_bind ?_
 replace h := h_j h; obtain ⟨K91,h,hK92⟩ := h
 refine r_meet (fun fr S => ∃ (x90 : Bool),∃ fr0,K91 x90 = some r ∧ fr = updL [(4,.bool x90)] fr0 ∧ S = ⟨ρ,.row g_f0.s_Tenants.1 f0.s.Tenants.length g_f0.s_Tenants.2 50 12 (fl eTenantState.en f0.s.Tenants) :: .row g_f0.s_Cells.1 f0.s.Cells.length g_f0.s_Cells.2 67 4 (fl eCellState.en f0.s.Cells) :: .obj bf0 (en_state_fold f0 g_f0) 80 :: L⟩) ?_ ?_
 ·refine r_ld 1 tt_ok (v := .pointer (some ⟨bf0,0,none⟩)) ts_75 rfl (by kernel_rfl) ?_
  refine r_kp [(1,.int .i64 version1),(2,.pointer (some ⟨bq1,0,none⟩)),(5,.slice A81 xs80.length c82),(13,.pointer (some ⟨bf0,0,none⟩))] (by kernel_rfl) fun fr => ?_
  refine r_ldn 4 tt_ok (en_State f0.s (⟨(g_f0.s_Tenants.1,g_f0.s_Tenants.2),(g_f0.s_Cells.1,g_f0.s_Cells.2)⟩)) ta_36 rfl (by kernel_rfl) (by kernel_rfl) ?_
  replace h := h_b h; obtain ⟨x88,hx87,h⟩ := h
  refine r_call (hc_79 (g_s0 := ⟨(g_f0.s_Tenants.1,g_f0.s_Tenants.2),(g_f0.s_Cells.1,g_f0.s_Cells.2)⟩) (s0 := f0.s) (version1 := version1) (hS_s0 := by exact Le.refl _) (h_s0 := by exact ⟨sl_row 2 rfl,sl_row 3 rfl⟩) (h := hx87)) ?_
  rintro _ _ ⟨rfl,rfl⟩
  refine r_ite (fun (hb89 : (!x88) = true) => ?_) (fun (hb89 : (!x88) = false) => ?_)
  ·replace h := h_t h hb89
   clear hb89
   refine r_T rfl ?_
   refine r_kp [(2,.pointer (some ⟨bq1,0,none⟩)),(20,.bool true),(22,.int .i64 (xs80.length : Int))] (by kernel_rfl) fun fr => ?_
   refine r_T rfl ?_
   refine r_ld 1 tt_ok (v := .pointer (some ⟨bf0,0,none⟩)) ts_75 rfl (by kernel_rfl) ?_
   refine r_T rfl ?_
   refine r_T rfl ?_
   refine r_T rfl ?_
   refine r_T rfl ?_
   refine r_ld 4 tt_ok (v := .int .i64 f0.c.Blast) ts_3 rfl (by kernel_rfl) ?_
   refine r_T rfl ?_
   refine r_le (le_w [false,false,true,true,true]) ?_
   exact r_done ⟨decide (f0.c.Blast ≤ (xs80.length : Int)),_,h,fr_eq _ (by kernel_rfl),(by kernel_rfl)⟩
  ·replace h := h_f h hb89
   clear hb89
   refine r_F rfl ?_
   refine r_kp [(2,.pointer (some ⟨bq1,0,none⟩)),(20,.bool false),(22,undef)] (by kernel_rfl) fun fr => ?_
   refine r_F rfl ?_
   refine r_F rfl ?_
   refine r_F rfl ?_
   refine r_F rfl ?_
   refine r_F rfl ?_
   refine r_F rfl ?_
   refine r_F rfl ?_
   refine r_le (le_w [false,false,true,true,true]) ?_
   exact r_done ⟨false,_,h,fr_eq _ (by kernel_rfl),(by kernel_rfl)⟩
 clear h
 rintro fr S ⟨x90,fr,h,rfl,rfl⟩
 replace h := hK92 _ h
 refine r_done ?_
 repeat refine r_done ?_
 repeat refine r_done ?_
 obtain rfl := h_out h
 exact ret_of (RV.tmp RV.nil) (Le.refl _) ⟨rfl,rfl⟩
theorem hc_55 {ρ : Addr → Option Value} {L : List Ent} {bf0 : Nat} {g_f0 : gstate_fold} {S_f0 : St} (hS_f0 : Le ⟨ρ,L⟩ S_f0) (f0 : state_fold) (h_f0 : Sl_state_fold S_f0 f0 g_f0) (h_f0_t : g_f0.t = fptr g_f0.s_Tenants.1 f0.e.Tenant 12) (h_f0_cell : g_f0.cell = fptr g_f0.s_Cells.1 f0.e.Cell 4) {r : (Int × State)} (h : state_fold_want f0 = some r) : HC Try.prog 55 #[.pointer (some ⟨bf0,0,none⟩)] ⟨ρ,.row g_f0.s_Tenants.1 f0.s.Tenants.length g_f0.s_Tenants.2 50 12 (fl eTenantState.en f0.s.Tenants) :: .row g_f0.s_Cells.1 f0.s.Cells.length g_f0.s_Cells.2 67 4 (fl eCellState.en f0.s.Cells) :: .obj bf0 (en_state_fold f0 g_f0) 80 :: L⟩ (fun v S' => v = .int .i64 r.1 ∧ S' = ⟨ρ,.row g_f0.s_Tenants.1 r.2.Tenants.length g_f0.s_Tenants.2 50 12 (fl eTenantState.en r.2.Tenants) :: .row g_f0.s_Cells.1 r.2.Cells.length g_f0.s_Cells.2 67 4 (fl eCellState.en r.2.Cells) :: .obj bf0 (en_state_fold ({ f0 with s := r.2 }) g_f0) 80 :: L⟩) := by
 replace h := h_in h
 refine HC.intro (N := 72) (args := [_]) tt_ok Try.func55 rfl (by decide +kernel) rfl (Nat.le_of_ble_eq_true rfl) ?_
 refine r_bind ?_
 refine r_done ?_
 refine r_bind ?_
 refine r_ld 2 tt_ok (v := .int .i64 f0.e.N) ts_3 rfl (by kernel_rfl) ?_
 refine r_done ?_
 refine r_bind ?_
 refine r_ld 2 tt_ok (v := .slice g_f0.c_Versions.1 f0.c.Versions.length g_f0.c_Versions.2) ts_28 rfl (by kernel_rfl) ?_
 refine r_kp [(0,.pointer (some ⟨bf0,0,none⟩)),(3,.int .i64 f0.e.N),(14,.slice g_f0.c_Versions.1 f0.c.Versions.length g_f0.c_Versions.2)] (by kernel_rfl) fun fr => ?_
 replace h := h_b h; obtain ⟨x1,hx2,h⟩ := h
 refine r_el hx2 ((h_f0.2.2.2.1).rd.mono ((le_d 3).trans hS_f0)) ?_
 refine r_len (E := eVersion) tt_ok (en_Version x1) (idx_get hx2) ((h_f0.2.2.2.1).rd.mono ((le_d 3).trans hS_f0)) ta_65 rfl (pl0 _ _) (by kernel_rfl) (by kernel_rfl) ?_
 refine r_al tt_ok (en_Version (⟨0,0⟩ : Version)) ti_65 (by kernel_rfl) fun bq3 => ?_
 refine r_s 0 tt_ok (en_Version x1) (fitn ta_65 (by kernel_rfl)) rfl (by kernel_rfl) (by kernel_rfl) ?_
 refine r_done ?_
 refine r_bind ?_
 replace h := h_k h; obtain ⟨K16,h,hK17⟩ := h
 refine r_meet (fun fr S => ∃ fr0,(state_fold_want.j1 f0).bind K16 = some r ∧ fr = updL [(0,.pointer (some ⟨bf0,0,none⟩)),(3,.int .i64 f0.e.N)] fr0 ∧ S = ⟨ρ,.row g_f0.s_Tenants.1 f0.s.Tenants.length g_f0.s_Tenants.2 50 12 (fl eTenantState.en f0.s.Tenants) :: .row g_f0.s_Cells.1 f0.s.Cells.length g_f0.s_Cells.2 67 4 (fl eCellState.en f0.s.Cells) :: .obj bf0 (en_state_fold f0 g_f0) 80 :: L⟩) ?_ ?_
 ·refine r_bind ?_
  refine r_bind ?_
  replace h := h_b h; obtain ⟨x4,hx5,h⟩ := h
  refine r_ld 3 tt_ok (v := .pointer (some ((adr g_f0.s_Cells.1).add (f0.e.Cell.toNat * 4)))) ts_78 rfl (by rw [← fptr_at h_f0_cell hx5]; kernel_rfl) ?_
  refine r_kp [(0,.pointer (some ⟨bf0,0,none⟩)),(3,.int .i64 f0.e.N),(4,.pointer (some ⟨bq3,0,none⟩)),(22,.pointer (some ((adr g_f0.s_Cells.1).add (f0.e.Cell.toNat * 4))))] (by kernel_rfl) fun fr => ?_
  refine r_lec (E := eCellState) tt_ok (v := .int .i64 x4.Wanted) (idx_get hx5) (rd_row 2 rfl) ts_3 rfl (pl1 _ _ _) (by kernel_rfl) ?_
  refine r_done ?_
  refine r_ite (fun hb6 => ?_) (fun hb6 => ?_)
  ·replace h := h_t h hb6
   clear hb6
   refine r_bind ?_
   refine r_done ?_
   repeat refine r_done ?_
   subst hK17
   repeat refine r_done ?_
   obtain rfl := h_out h
   exact ret_of (RV.tmp RV.nil) (le_w [false,true,true,true]) ⟨rfl,rfl⟩
  ·replace h := h_f h hb6
   clear hb6
   refine r_bind ?_
   refine r_meet (fun fr S => ∃ fr0,fr = updL [(0,.pointer (some ⟨bf0,0,none⟩)),(3,.int .i64 f0.e.N),(28,.bool ((decide (f0.s.Low < x1.Low)) || (decide (x1.High < f0.s.High))))] fr0 ∧ S = ⟨ρ,.obj bq3 (en_Version x1) 65 :: .row g_f0.s_Tenants.1 f0.s.Tenants.length g_f0.s_Tenants.2 50 12 (fl eTenantState.en f0.s.Tenants) :: .row g_f0.s_Cells.1 f0.s.Cells.length g_f0.s_Cells.2 67 4 (fl eCellState.en f0.s.Cells) :: .obj bf0 (en_state_fold f0 g_f0) 80 :: L⟩) ?_ ?_
   refine r_mix tt_ok hm_ok _ _ [] (.pure 0 (.vb 1 (.pure 2 (.pure 3 (.pure 4 (.pure 5 (.vb 6 (.pure 7 (.pure 8 (.pure 9 (.vb 10 (.pure 11 (.pure 12 (.pure 13 (.pure 14 (.vb 15 (.pure 16 (.pure 17 (.pure 18 .nil))))))))))))))))))) (le_w [true,true,true,true]) (le_w [true,true,true,true]) ?_ ?_
   ·decide +kernel
   refine x_p rfl ?_
   refine v_done ?_
   refine x_vb rfl ?_
   refine v_ld 0 tt_ok (v := .int .i64 x1.Low) ts_3 rfl (by kernel_rfl) ?_
   refine v_done ?_
   refine x_kp [(0,.pointer (some ⟨bf0,0,none⟩)),(3,.int .i64 f0.e.N),(4,.pointer (some ⟨bq3,0,none⟩)),(30,.int .i64 x1.Low)] (by kernel_rfl) fun fr => ?_
   refine x_p rfl ?_
   refine v_done ?_
   refine x_p rfl ?_
   refine v_done ?_
   refine x_p rfl ?_
   refine v_done ?_
   refine x_p rfl ?_
   refine v_done ?_
   refine x_vb rfl ?_
   refine v_ld 3 tt_ok (v := .int .i64 f0.s.Low) ts_3 rfl (by kernel_rfl) ?_
   refine v_done ?_
   refine x_p rfl ?_
   refine v_done ?_
   refine x_p rfl ?_
   refine v_done ?_
   refine x_p rfl ?_
   refine v_ite (fun (hb7 : (decide (f0.s.Low < x1.Low)) = true) => ?_) (fun (hb7 : (decide (f0.s.Low < x1.Low)) = false) => ?_)
   ·refine v_done ?_
    refine x_vb rfl ?_
    refine v_T rfl ?_
    refine v_done ?_
    refine x_kp [(0,.pointer (some ⟨bf0,0,none⟩)),(3,.int .i64 f0.e.N),(37,.bool true),(39,undef)] (by kernel_rfl) fun fr => ?_
    refine x_p rfl ?_
    refine v_T rfl ?_
    refine v_done ?_
    refine x_p rfl ?_
    refine v_T rfl ?_
    refine v_done ?_
    refine x_p rfl ?_
    refine v_T rfl ?_
    refine v_done ?_
    refine x_p rfl ?_
    refine v_T rfl ?_
    refine v_done ?_
    refine x_vb rfl ?_
    refine v_T rfl ?_
    refine v_done ?_
    refine x_p rfl ?_
    refine v_T rfl ?_
    refine v_done ?_
    refine x_p rfl ?_
    refine v_T rfl ?_
    refine v_done ?_
    refine x_p rfl ?_
    refine v_done ?_
    refine x_k [(0,.pointer (some ⟨bf0,0,none⟩)),(3,.int .i64 f0.e.N),(28,.bool true)] (by kernel_rfl) fun fr => ?_
    exact r_done ⟨_,fr_eq _ (by (try rw [hb7]); kernel_rfl),(by kernel_rfl)⟩
   ·refine v_done ?_
    refine x_vb rfl ?_
    refine v_F rfl ?_
    refine v_ld 0 tt_ok (v := .int .i64 x1.High) ts_3 rfl (by kernel_rfl) ?_
    refine v_done ?_
    refine x_kp [(0,.pointer (some ⟨bf0,0,none⟩)),(3,.int .i64 f0.e.N),(37,.bool false),(39,.int .i64 x1.High)] (by kernel_rfl) fun fr => ?_
    refine x_p rfl ?_
    refine v_F rfl ?_
    refine v_done ?_
    refine x_p rfl ?_
    refine v_F rfl ?_
    refine v_done ?_
    refine x_p rfl ?_
    refine v_F rfl ?_
    refine v_done ?_
    refine x_p rfl ?_
    refine v_F rfl ?_
    refine v_done ?_
    refine x_vb rfl ?_
    refine v_F rfl ?_
    refine v_ld 3 tt_ok (v := .int .i64 f0.s.High) ts_3 rfl (by kernel_rfl) ?_
    refine v_done ?_
    refine x_p rfl ?_
    refine v_F rfl ?_
    refine v_done ?_
    refine x_p rfl ?_
    refine v_done ?_
    refine x_p rfl ?_
    refine v_done ?_
    refine x_k [(0,.pointer (some ⟨bf0,0,none⟩)),(3,.int .i64 f0.e.N),(28,.bool (decide (x1.High < f0.s.High)))] (by kernel_rfl) fun fr => ?_
    exact r_done ⟨_,fr_eq _ (by (try rw [hb7]); kernel_rfl),(by kernel_rfl)⟩
   rintro fr S ⟨fr,rfl,rfl⟩
   refine r_done ?_
   refine r_ite (fun hb8 => ?_) (fun hb8 => ?_)
   ·replace h := h_t h hb8
    clear hb8
    refine r_bind ?_
    refine r_done ?_
    repeat refine r_done ?_
    subst hK17
    repeat refine r_done ?_
    obtain rfl := h_out h
    exact ret_of (RV.tmp RV.nil) (le_w [false,true,true,true]) ⟨rfl,rfl⟩
   ·replace h := h_f h hb8
    clear hb8
    refine r_bind ?_
    refine r_ld 3 tt_ok (v := .pointer (some ((adr g_f0.s_Cells.1).add (f0.e.Cell.toNat * 4)))) ts_78 rfl (by rw [← fptr_at h_f0_cell hx5]; kernel_rfl) ?_
    refine r_lec (E := eCellState) tt_ok (v := .int .i64 x4.Running) (idx_get hx5) (rd_row 2 rfl) ts_3 rfl (pl1 _ _ _) (by kernel_rfl) ?_
    refine r_keep [(0,.pointer (some ⟨bf0,0,none⟩)),(3,.int .i64 f0.e.N),(47,.bool (decide (f0.e.N = x4.Running)))] (by kernel_rfl) fun fr => ?_
    refine r_done ?_
    refine r_ite (fun hb9 => ?_) (fun hb9 => ?_)
    ·replace h := h_t h hb9
     clear hb9
     refine r_done ?_
     refine r_le (le_w [false,true,true,true]) ?_
     exact r_done ⟨_,h,fr_eq _ (by kernel_rfl),(by kernel_rfl)⟩
    ·replace h := h_f h hb9
     clear hb9
     refine r_bind ?_
     refine r_le ((le_mv 3).trans ((le_mv 3).trans (le_mv 3))) ?_
     replace h := h_b h; obtain ⟨x11,hx10,h⟩ := h
     refine r_call (hc_77 (bf0 := bf0) (g_f0 := g_f0) (f0 := f0) (version1 := f0.e.N) (hS_f0 := by exact (le_d 1).trans hS_f0) (h_f0 := by exact h_f0) (h_f0_t := by exact h_f0_t) (h_f0_cell := by exact h_f0_cell) (h := hx10)) ?_
     rintro _ _ ⟨rfl,rfl⟩
     refine r_done ?_
     refine r_ite (fun hb12 => ?_) (fun hb12 => ?_)
     ·replace h := h_t h hb12
      clear hb12
      refine r_bind ?_
      refine r_done ?_
      repeat refine r_done ?_
      subst hK17
      repeat refine r_done ?_
      obtain rfl := h_out h
      exact ret_of (RV.tmp RV.nil) (le_w [true,true,true,false]) ⟨rfl,rfl⟩
     ·replace h := h_f h hb12
      clear hb12
      refine r_bind ?_
      replace h := h_b h; obtain ⟨x14,hx13,h⟩ := h
      refine r_call (hc_78 (bf0 := bf0) (g_f0 := g_f0) (f0 := f0) (version1 := f0.e.N) (hS_f0 := by exact (le_d 1).trans hS_f0) (h_f0 := by exact h_f0) (h_f0_t := by exact h_f0_t) (h_f0_cell := by exact h_f0_cell) (h := hx13)) ?_
      rintro _ _ ⟨rfl,rfl⟩
      refine r_done ?_
      refine r_ite (fun hb15 => ?_) (fun hb15 => ?_)
      ·replace h := h_t h hb15
       clear hb15
       refine r_bind ?_
       refine r_keep [(2,.int .i64 14)] (by kernel_rfl) fun fr => ?_
       refine r_done ?_
       repeat refine r_done ?_
       subst hK17
       repeat refine r_done ?_
       obtain rfl := h_out h
       exact ret_of (RV.tmp RV.nil) (le_w [true,true,true,false]) ⟨rfl,rfl⟩
      ·replace h := h_f h hb15
       clear hb15
       refine r_done ?_
       refine r_le (le_w [true,true,true,false]) ?_
       exact r_done ⟨_,h,fr_eq _ (by kernel_rfl),(by kernel_rfl)⟩
 clear h
 rintro fr S ⟨fr,h,rfl,rfl⟩
 subst hK17
 refine r_done ?_
 refine r_bind ?_
 replace h := h_b h; obtain ⟨x18,hx19,h⟩ := h
 refine r_ld 2 tt_ok (v := .pointer (some ((adr g_f0.s_Cells.1).add (f0.e.Cell.toNat * 4)))) ts_78 rfl (by rw [← fptr_at h_f0_cell hx19]; kernel_rfl) ?_
 refine r_sec 1 (E := eCellState) tt_ok ({ x18 with Wanted := f0.e.N }) (idx_get hx19) (fit1 ts_3 (by kernel_rfl)) rfl rfl (pl1 _ _ _) (by kernel_rfl) (by kernel_rfl) (List.cons_ne_nil _ _) ?_
 rw [show (en_state_fold f0 g_f0) = (en_state_fold ({ f0 with s := { f0.s with Cells := (f0.s.Cells.set f0.e.Cell.toNat ({ x18 with Wanted := f0.e.N })) } }) g_f0) by simp [en_state_fold]]
 rw [← @List.length_set _ f0.s.Cells f0.e.Cell.toNat ({ x18 with Wanted := f0.e.N })]
 refine r_done ?_
 refine r_bind ?_
 refine r_keep [(2,.int .i64 0)] (by kernel_rfl) fun fr => ?_
 refine r_done ?_
 repeat refine r_done ?_
 repeat refine r_done ?_
 obtain rfl := h_out h
 exact ret_of (RV.tmp RV.nil) (Le.refl _) ⟨rfl,rfl⟩
theorem hc_56 {ρ : Addr → Option Value} {L : List Ent} {bf0 : Nat} {g_f0 : gstate_fold} {S_f0 : St} (hS_f0 : Le ⟨ρ,L⟩ S_f0) (f0 : state_fold) (h_f0 : Sl_state_fold S_f0 f0 g_f0) (h_f0_t : g_f0.t = fptr g_f0.s_Tenants.1 f0.e.Tenant 12) (h_f0_cell : g_f0.cell = fptr g_f0.s_Cells.1 f0.e.Cell 4) {r : (Int × State)} (h : state_fold_runs f0 = some r) : HC Try.prog 56 #[.pointer (some ⟨bf0,0,none⟩)] ⟨ρ,.row g_f0.s_Tenants.1 f0.s.Tenants.length g_f0.s_Tenants.2 50 12 (fl eTenantState.en f0.s.Tenants) :: .row g_f0.s_Cells.1 f0.s.Cells.length g_f0.s_Cells.2 67 4 (fl eCellState.en f0.s.Cells) :: .obj bf0 (en_state_fold f0 g_f0) 80 :: L⟩ (fun v S' => v = .int .i64 r.1 ∧ S' = ⟨ρ,.row g_f0.s_Tenants.1 r.2.Tenants.length g_f0.s_Tenants.2 50 12 (fl eTenantState.en r.2.Tenants) :: .row g_f0.s_Cells.1 r.2.Cells.length g_f0.s_Cells.2 67 4 (fl eCellState.en r.2.Cells) :: .obj bf0 (en_state_fold ({ f0 with s := r.2 }) g_f0) 80 :: L⟩) := by
 replace h := h_in h
 refine HC.intro (N := 97) (args := [_]) tt_ok Try.func56 rfl (by decide +kernel) rfl (Nat.le_of_ble_eq_true rfl) ?_
 refine r_bind ?_
 refine r_done ?_
 refine r_bind ?_
 refine r_bind ?_
 refine r_bind ?_
 replace h := h_j h; obtain ⟨K5,h,hK6⟩ := h
 refine r_meet (fun fr S => ∃ (x4 : Bool),∃ fr0,K5 x4 = some r ∧ fr = updL [(0,.pointer (some ⟨bf0,0,none⟩)),(5,.bool x4)] fr0 ∧ S = ⟨ρ,.row g_f0.s_Tenants.1 f0.s.Tenants.length g_f0.s_Tenants.2 50 12 (fl eTenantState.en f0.s.Tenants) :: .row g_f0.s_Cells.1 f0.s.Cells.length g_f0.s_Cells.2 67 4 (fl eCellState.en f0.s.Cells) :: .obj bf0 (en_state_fold f0 g_f0) 80 :: L⟩) ?_ ?_
 refine r_mix tt_ok hm_ok _ _ [] (.pure 0 (.pure 1 (.pure 2 (.pure 3 (.vb 4 (.pure 5 (.pure 6 (.pure 7 (.vb 8 (.pure 9 (.pure 10 (.vb 11 (.pure 12 (.pure 13 (.pure 14 (.pure 15 (.pure 16 (.vb 17 (.pure 18 (.pure 19 (.vb 20 (.pure 21 (.pure 22 (.pure 23 (.vb 24 (.pure 25 (.pure 26 (.vb 27 (.pure 28 (.pure 29 (.pure 30 .nil))))))))))))))))))))))))))))))) (le_w [true,true,true]) (le_w [true,true,true]) ?_ ?_
 ·decide +kernel
 refine x_p rfl ?_
 refine v_done ?_
 refine x_p rfl ?_
 refine v_done ?_
 refine x_p rfl ?_
 refine v_done ?_
 refine x_p rfl ?_
 refine v_done ?_
 refine x_vb rfl ?_
 refine v_ld 2 tt_ok (v := .int .i64 f0.e.N) ts_3 rfl (by kernel_rfl) ?_
 refine v_done ?_
 refine x_kp [(0,.pointer (some ⟨bf0,0,none⟩)),(10,.int .i64 f0.e.N)] (by kernel_rfl) fun fr => ?_
 refine x_p rfl ?_
 refine v_done ?_
 refine x_p rfl ?_
 refine v_done ?_
 refine x_p rfl ?_
 refine v_done ?_
 refine x_vb rfl ?_
 replace h := h_b h; obtain ⟨x1,hx2,h⟩ := h
 refine v_ld 2 tt_ok (v := .pointer (some ((adr g_f0.s_Cells.1).add (f0.e.Cell.toNat * 4)))) ts_78 rfl (by rw [← fptr_at h_f0_cell hx2]; kernel_rfl) ?_
 refine v_done ?_
 refine x_p rfl ?_
 refine v_done ?_
 refine x_p rfl ?_
 refine v_done ?_
 refine x_vb rfl ?_
 refine v_lec (E := eCellState) tt_ok (v := .int .i64 x1.Wanted) (idx_get hx2) (rd_row 1 rfl) ts_3 rfl (pl1 _ _ _) (by kernel_rfl) ?_
 refine v_done ?_
 refine x_p rfl ?_
 refine v_done ?_
 refine x_p rfl ?_
 refine v_done ?_
 refine x_kp [(0,.pointer (some ⟨bf0,0,none⟩)),(19,.bool (!decide (f0.e.N = x1.Wanted)))] (by kernel_rfl) fun fr => ?_
 refine x_p rfl ?_
 refine v_ite (fun (hb3 : (!decide (f0.e.N = x1.Wanted)) = true) => ?_) (fun (hb3 : (!decide (f0.e.N = x1.Wanted)) = false) => ?_)
 ·replace h := h_t h hb3
  clear hb3
  refine v_done ?_
  refine x_p rfl ?_
  refine v_T rfl ?_
  refine v_done ?_
  refine x_p rfl ?_
  refine v_T rfl ?_
  refine v_done ?_
  refine x_vb rfl ?_
  refine v_T rfl ?_
  refine v_done ?_
  refine x_p rfl ?_
  refine v_T rfl ?_
  refine v_done ?_
  refine x_p rfl ?_
  refine v_T rfl ?_
  refine v_done ?_
  refine x_vb rfl ?_
  refine v_T rfl ?_
  refine v_done ?_
  refine x_p rfl ?_
  refine v_T rfl ?_
  refine v_done ?_
  refine x_p rfl ?_
  refine v_T rfl ?_
  refine v_done ?_
  refine x_kp [(0,.pointer (some ⟨bf0,0,none⟩)),(19,.bool true),(26,undef),(28,undef)] (by kernel_rfl) fun fr => ?_
  refine x_p rfl ?_
  refine v_T rfl ?_
  refine v_done ?_
  refine x_vb rfl ?_
  refine v_T rfl ?_
  refine v_done ?_
  refine x_p rfl ?_
  refine v_T rfl ?_
  refine v_done ?_
  refine x_p rfl ?_
  refine v_T rfl ?_
  refine v_done ?_
  refine x_vb rfl ?_
  refine v_T rfl ?_
  refine v_done ?_
  refine x_p rfl ?_
  refine v_T rfl ?_
  refine v_done ?_
  refine x_p rfl ?_
  refine v_T rfl ?_
  refine v_done ?_
  refine x_p rfl ?_
  refine v_done ?_
  refine x_k [(0,.pointer (some ⟨bf0,0,none⟩)),(5,.bool true)] (by kernel_rfl) fun fr => ?_
  exact r_done ⟨true,_,h,fr_eq _ (by kernel_rfl),(by kernel_rfl)⟩
 ·replace h := h_f h hb3
  clear hb3
  refine v_done ?_
  refine x_p rfl ?_
  refine v_F rfl ?_
  refine v_done ?_
  refine x_p rfl ?_
  refine v_F rfl ?_
  refine v_done ?_
  refine x_vb rfl ?_
  refine v_F rfl ?_
  refine v_ld 2 tt_ok (v := .pointer (some ((adr g_f0.s_Cells.1).add (f0.e.Cell.toNat * 4)))) ts_78 rfl (by rw [← fptr_at h_f0_cell hx2]; kernel_rfl) ?_
  refine v_done ?_
  refine x_p rfl ?_
  refine v_F rfl ?_
  refine v_done ?_
  refine x_p rfl ?_
  refine v_F rfl ?_
  refine v_done ?_
  refine x_vb rfl ?_
  refine v_F rfl ?_
  refine v_lec (E := eCellState) tt_ok (v := .int .i64 x1.Running) (idx_get hx2) (rd_row 1 rfl) ts_3 rfl (pl1 _ _ _) (by kernel_rfl) ?_
  refine v_done ?_
  refine x_p rfl ?_
  refine v_F rfl ?_
  refine v_done ?_
  refine x_p rfl ?_
  refine v_F rfl ?_
  refine v_done ?_
  refine x_kp [(0,.pointer (some ⟨bf0,0,none⟩)),(19,.bool false),(26,.int .i64 x1.Running),(28,.pointer (some ⟨bf0,0,none⟩))] (by kernel_rfl) fun fr => ?_
  refine x_p rfl ?_
  refine v_F rfl ?_
  refine v_done ?_
  refine x_vb rfl ?_
  refine v_F rfl ?_
  refine v_ld 2 tt_ok (v := .pointer (some ((adr g_f0.s_Cells.1).add (f0.e.Cell.toNat * 4)))) ts_78 rfl (by rw [← fptr_at h_f0_cell hx2]; kernel_rfl) ?_
  refine v_done ?_
  refine x_p rfl ?_
  refine v_F rfl ?_
  refine v_done ?_
  refine x_p rfl ?_
  refine v_F rfl ?_
  refine v_done ?_
  refine x_vb rfl ?_
  refine v_F rfl ?_
  refine v_lec (E := eCellState) tt_ok (v := .int .i64 x1.Wanted) (idx_get hx2) (rd_row 1 rfl) ts_3 rfl (pl1 _ _ _) (by kernel_rfl) ?_
  refine v_done ?_
  refine x_p rfl ?_
  refine v_F rfl ?_
  refine v_done ?_
  refine x_p rfl ?_
  refine v_done ?_
  refine x_p rfl ?_
  refine v_done ?_
  refine x_k [(0,.pointer (some ⟨bf0,0,none⟩)),(5,.bool (decide (x1.Running = x1.Wanted)))] (by kernel_rfl) fun fr => ?_
  exact r_done ⟨decide (x1.Running = x1.Wanted),_,h,fr_eq _ (by kernel_rfl),(by kernel_rfl)⟩
 clear h
 rintro fr S ⟨x4,fr,h,rfl,rfl⟩
 replace h := hK6 _ h
 refine r_done ?_
 refine r_ite (fun hb7 => ?_) (fun hb7 => ?_)
 ·replace h := h_t h hb7
  clear hb7
  refine r_bind ?_
  refine r_done ?_
  repeat refine r_done ?_
  repeat refine r_done ?_
  obtain rfl := h_out h
  exact ret_of (RV.tmp RV.nil) (Le.refl _) ⟨rfl,rfl⟩
 ·replace h := h_f h hb7
  clear hb7
  refine r_bind ?_
  refine r_ld 2 tt_ok (v := .int .i64 f0.e.N) ts_3 rfl (by kernel_rfl) ?_
  replace h := h_b h; obtain ⟨x9,hx8,h⟩ := h
  refine r_call (hc_77 (bf0 := bf0) (g_f0 := g_f0) (f0 := f0) (version1 := f0.e.N) (hS_f0 := by exact (le_d 0).trans hS_f0) (h_f0 := by exact h_f0) (h_f0_t := by exact h_f0_t) (h_f0_cell := by exact h_f0_cell) (h := hx8)) ?_
  rintro _ _ ⟨rfl,rfl⟩
  refine r_done ?_
  refine r_ite (fun hb10 => ?_) (fun hb10 => ?_)
  ·replace h := h_t h hb10
   clear hb10
   refine r_bind ?_
   refine r_keep [(2,.int .i64 12)] (by kernel_rfl) fun fr => ?_
   refine r_done ?_
   repeat refine r_done ?_
   repeat refine r_done ?_
   obtain rfl := h_out h
   exact ret_of (RV.tmp RV.nil) (Le.refl _) ⟨rfl,rfl⟩
  ·replace h := h_f h hb10
   clear hb10
   refine r_done ?_
   refine r_done ?_
   refine r_bind ?_
   replace h := h_k h; obtain ⟨K36,h,hK37⟩ := h
   refine r_meet (fun fr S => ∃ fr0,(state_fold_runs.j2 f0).bind K36 = some r ∧ fr = updL [(0,.pointer (some ⟨bf0,0,none⟩))] fr0 ∧ S = ⟨ρ,.row g_f0.s_Tenants.1 f0.s.Tenants.length g_f0.s_Tenants.2 50 12 (fl eTenantState.en f0.s.Tenants) :: .row g_f0.s_Cells.1 f0.s.Cells.length g_f0.s_Cells.2 67 4 (fl eCellState.en f0.s.Cells) :: .obj bf0 (en_state_fold f0 g_f0) 80 :: L⟩) ?_ ?_
   ·refine r_bind ?_
    refine r_ld 2 tt_ok (v := .slice g_f0.s_Tenants.1 f0.s.Tenants.length g_f0.s_Tenants.2) ts_33 rfl (by kernel_rfl) ?_
    refine r_done ?_
    refine r_bind ?_
    replace h := h_l h; obtain ⟨K32,n33,h,hK34⟩ := h
    refine r_loop (fun n fr S => ∃ (x25 : Int),∃ fr0,(runN (state_fold_runs.b3 f0) n x25).bind K32 = some r ∧ fr = updL [(0,.pointer (some ⟨bf0,0,none⟩)),(48,.slice g_f0.s_Tenants.1 f0.s.Tenants.length g_f0.s_Tenants.2),(49,.int .i64 (f0.s.Tenants.length : Int)),(50,.int .i64 x25)] fr0 ∧ S = ⟨ρ,.row g_f0.s_Tenants.1 f0.s.Tenants.length g_f0.s_Tenants.2 50 12 (fl eTenantState.en f0.s.Tenants) :: .row g_f0.s_Cells.1 f0.s.Cells.length g_f0.s_Cells.2 67 4 (fl eCellState.en f0.s.Cells) :: .obj bf0 (en_state_fold f0 g_f0) 80 :: L⟩) n33 ⟨0,_,h,fr_eq _ (by kernel_rfl),(by kernel_rfl)⟩ ?_
    clear h
    rintro n33 fr S ⟨x25,fr,h,rfl,rfl⟩
    replace h := h_r h; obtain ⟨m35,hm35,h⟩ := h
    refine r_bind ?_
    refine r_done ?_
    refine r_bind ?_
    refine r_ite (fun hb26 => ?_) (fun hb26 => ?_)
    ·replace h := h_t h hb26
     clear hb26
     refine r_done ?_
     refine r_bind ?_
     refine r_bind ?_
     refine r_bind ?_
     replace h := h_b h; obtain ⟨x27,hx28,h⟩ := h
     refine r_el hx28 (rd_row 0 rfl) ?_
     refine r_len (E := eTenantState) tt_ok (en_TenantState x27) (idx_get hx28) (rd_row 0 rfl) ta_50 rfl (pl0 _ _) (by kernel_rfl) (by kernel_rfl) ?_
     refine r_al tt_ok (en_TenantState (⟨false,false,0,0,0,0,0,(⟨0,0,0,0,0⟩ : Window)⟩ : TenantState)) ti_50 (by kernel_rfl) fun bq29 => ?_
     refine r_s 0 tt_ok (en_TenantState x27) (fitn ta_50 (by kernel_rfl)) rfl (by kernel_rfl) (by kernel_rfl) ?_
     refine r_done ?_
     refine r_bind ?_
     refine r_meet (fun fr S => ∃ fr0,fr = updL [(0,.pointer (some ⟨bf0,0,none⟩)),(48,.slice g_f0.s_Tenants.1 f0.s.Tenants.length g_f0.s_Tenants.2),(49,.int .i64 (f0.s.Tenants.length : Int)),(50,.int .i64 x25),(73,.bool ((decide (x27.Window.Cell = f0.e.Cell)) && (decide (f0.e.Tick < x27.Window.Until))))] fr0 ∧ S = ⟨ρ,.obj bq29 (en_TenantState x27) 50 :: .row g_f0.s_Tenants.1 f0.s.Tenants.length g_f0.s_Tenants.2 50 12 (fl eTenantState.en f0.s.Tenants) :: .row g_f0.s_Cells.1 f0.s.Cells.length g_f0.s_Cells.2 67 4 (fl eCellState.en f0.s.Cells) :: .obj bf0 (en_state_fold f0 g_f0) 80 :: L⟩) ?_ ?_
     refine r_mix tt_ok hm_ok _ _ [] (.pure 0 (.pure 1 (.vb 2 (.pure 3 (.pure 4 (.pure 5 (.pure 6 (.vb 7 (.pure 8 (.pure 9 (.pure 10 (.pure 11 (.vb 12 (.pure 13 (.pure 14 (.pure 15 (.pure 16 (.vb 17 (.pure 18 (.pure 19 .nil)))))))))))))))))))) (le_w [true,true,true,true]) (le_w [true,true,true,true]) ?_ ?_
     ·decide +kernel
     refine x_p rfl ?_
     refine v_done ?_
     refine x_p rfl ?_
     refine v_done ?_
     refine x_kp [(0,.pointer (some ⟨bf0,0,none⟩)),(4,.pointer (some ⟨bq29,0,none⟩)),(48,.slice g_f0.s_Tenants.1 f0.s.Tenants.length g_f0.s_Tenants.2),(49,.int .i64 (f0.s.Tenants.length : Int)),(50,.int .i64 x25),(55,.pointer (some ⟨bq29,7,none⟩))] (by kernel_rfl) fun fr => ?_
     refine x_vb rfl ?_
     refine v_ld 0 tt_ok (v := .int .i64 x27.Window.Cell) ts_3 rfl (by kernel_rfl) ?_
     refine v_done ?_
     refine x_p rfl ?_
     refine v_done ?_
     refine x_p rfl ?_
     refine v_done ?_
     refine x_p rfl ?_
     refine v_done ?_
     refine x_p rfl ?_
     refine v_done ?_
     refine x_vb rfl ?_
     refine v_ld 3 tt_ok (v := .int .i64 f0.e.Cell) ts_3 rfl (by kernel_rfl) ?_
     refine v_done ?_
     refine x_p rfl ?_
     refine v_done ?_
     refine x_p rfl ?_
     refine v_done ?_
     refine x_p rfl ?_
     refine v_ite (fun (hb30 : (decide (x27.Window.Cell = f0.e.Cell)) = true) => ?_) (fun (hb30 : (decide (x27.Window.Cell = f0.e.Cell)) = false) => ?_)
     ·refine v_done ?_
      refine x_kp [(0,.pointer (some ⟨bf0,0,none⟩)),(48,.slice g_f0.s_Tenants.1 f0.s.Tenants.length g_f0.s_Tenants.2),(49,.int .i64 (f0.s.Tenants.length : Int)),(50,.int .i64 x25),(63,.bool true),(64,.pointer (some ⟨bq29,7,none⟩))] (by kernel_rfl) fun fr => ?_
      refine x_p rfl ?_
      refine v_T rfl ?_
      refine v_done ?_
      refine x_vb rfl ?_
      refine v_T rfl ?_
      refine v_ld 0 tt_ok (v := .int .i64 x27.Window.Until) ts_3 rfl (by kernel_rfl) ?_
      refine v_done ?_
      refine x_p rfl ?_
      refine v_T rfl ?_
      refine v_done ?_
      refine x_p rfl ?_
      refine v_T rfl ?_
      refine v_done ?_
      refine x_p rfl ?_
      refine v_T rfl ?_
      refine v_done ?_
      refine x_p rfl ?_
      refine v_T rfl ?_
      refine v_done ?_
      refine x_vb rfl ?_
      refine v_T rfl ?_
      refine v_ld 3 tt_ok (v := .int .i64 f0.e.Tick) ts_3 rfl (by kernel_rfl) ?_
      refine v_done ?_
      refine x_p rfl ?_
      refine v_T rfl ?_
      refine v_done ?_
      refine x_p rfl ?_
      refine v_done ?_
      refine x_k [(0,.pointer (some ⟨bf0,0,none⟩)),(48,.slice g_f0.s_Tenants.1 f0.s.Tenants.length g_f0.s_Tenants.2),(49,.int .i64 (f0.s.Tenants.length : Int)),(50,.int .i64 x25),(64,.pointer (some ⟨bq29,7,none⟩)),(65,.pointer (some ⟨bq29,11,none⟩)),(66,.int .i64 x27.Window.Until),(67,.pointer (some ⟨bf0,0,none⟩)),(68,.pointer (some ⟨bf0,0,none⟩)),(69,.pointer (some ⟨bf0,18,none⟩)),(70,.pointer (some ⟨bf0,19,none⟩)),(71,.int .i64 f0.e.Tick),(72,.bool (decide (f0.e.Tick < x27.Window.Until))),(73,.bool (decide (f0.e.Tick < x27.Window.Until)))] (by kernel_rfl) fun fr => ?_
      exact r_done ⟨_,fr_eq _ (by (try rw [hb30]); kernel_rfl),(by kernel_rfl)⟩
     ·refine v_done ?_
      refine x_kp [(0,.pointer (some ⟨bf0,0,none⟩)),(48,.slice g_f0.s_Tenants.1 f0.s.Tenants.length g_f0.s_Tenants.2),(49,.int .i64 (f0.s.Tenants.length : Int)),(50,.int .i64 x25),(63,.bool false),(64,undef)] (by kernel_rfl) fun fr => ?_
      refine x_p rfl ?_
      refine v_F rfl ?_
      refine v_done ?_
      refine x_vb rfl ?_
      refine v_F rfl ?_
      refine v_done ?_
      refine x_p rfl ?_
      refine v_F rfl ?_
      refine v_done ?_
      refine x_p rfl ?_
      refine v_F rfl ?_
      refine v_done ?_
      refine x_p rfl ?_
      refine v_F rfl ?_
      refine v_done ?_
      refine x_p rfl ?_
      refine v_F rfl ?_
      refine v_done ?_
      refine x_vb rfl ?_
      refine v_F rfl ?_
      refine v_done ?_
      refine x_p rfl ?_
      refine v_F rfl ?_
      refine v_done ?_
      refine x_p rfl ?_
      refine v_F rfl ?_
      refine v_done ?_
      refine x_k [(0,.pointer (some ⟨bf0,0,none⟩)),(48,.slice g_f0.s_Tenants.1 f0.s.Tenants.length g_f0.s_Tenants.2),(49,.int .i64 (f0.s.Tenants.length : Int)),(50,.int .i64 x25),(73,.bool false)] (by kernel_rfl) fun fr => ?_
      exact r_done ⟨_,fr_eq _ (by (try rw [hb30]); kernel_rfl),(by kernel_rfl)⟩
     rintro fr S ⟨fr,rfl,rfl⟩
     refine r_done ?_
     refine r_ite (fun hb31 => ?_) (fun hb31 => ?_)
     ·replace h := h_t h hb31
      clear hb31
      refine r_bind ?_
      refine r_done ?_
      repeat refine r_done ?_
      replace h := h_m h
      subst hK34
      subst hK37
      repeat refine r_done ?_
      obtain rfl := h_out h
      exact ret_of (RV.tmp RV.nil) (le_w [false,true,true,true]) ⟨rfl,rfl⟩
     ·replace h := h_f h hb31
      clear hb31
      refine r_done ?_
      refine r_done ?_
      refine r_num (e' := w64 (x25 + 1)) rfl ?_
      refine r_le (le_w [false,true,true,true]) ?_
      exact r_done ⟨m35,lt_s hm35,w64 (x25 + 1),_,h,fr_eq _ (by kernel_rfl),(by kernel_rfl)⟩
    ·replace h := h_f h hb26
     clear hb26
     refine r_done ?_
     refine r_done ?_
     replace h := h_m h
     subst hK34
     exact r_done ⟨_,h,fr_eq _ (by kernel_rfl),(by kernel_rfl)⟩
   clear h
   rintro fr S ⟨fr,h,rfl,rfl⟩
   subst hK37
   refine r_done ?_
   refine r_bind ?_
   refine r_mix tt_ok hm_ok _ _ [] (.pure 0 (.pure 1 (.pure 2 (.vb 3 (.pure 4 (.pure 5 (.pure 6 (.vb 7 (.pure 8 (.pure 9 (.pure 10 (.pure 11 (.vb 12 (.pure 13 (.pure 14 (.pure 15 (.pure 16 (.vb 17 (.pure 18 (.pure 19 (.eff 20 (.pure 21 (.pure 22 (.eff 23 .nil)))))))))))))))))))))))) (le_w [true,false,true]) (le_w [true,false,true]) ?_ ?_
   ·decide +kernel
   refine x_p rfl ?_
   refine v_done ?_
   refine x_p rfl ?_
   refine v_done ?_
   refine x_p rfl ?_
   refine v_done ?_
   refine x_vb rfl ?_
   replace h := h_b h; obtain ⟨x38,hx39,h⟩ := h
   refine v_ld 1 tt_ok (v := .pointer (some ((adr g_f0.s_Cells.1).add (f0.e.Cell.toNat * 4)))) ts_78 rfl (by rw [← fptr_at h_f0_cell hx39]; kernel_rfl) ?_
   refine v_done ?_
   refine x_p rfl ?_
   refine v_done ?_
   refine x_p rfl ?_
   refine v_done ?_
   refine x_p rfl ?_
   refine v_done ?_
   refine x_vb rfl ?_
   refine v_ld 1 tt_ok (v := .pointer (some ((adr g_f0.s_Cells.1).add (f0.e.Cell.toNat * 4)))) ts_78 rfl (by rw [← fptr_at h_f0_cell hx39]; kernel_rfl) ?_
   refine v_done ?_
   refine x_p rfl ?_
   refine v_done ?_
   refine x_kp [(0,.pointer (some ⟨bf0,0,none⟩)),(78,.pointer (some ((adr g_f0.s_Cells.1).add (f0.e.Cell.toNat * 4)))),(82,.pointer (some ((adr g_f0.s_Cells.1).add (f0.e.Cell.toNat * 4)))),(83,.pointer (some ⟨bf0,0,none⟩))] (by kernel_rfl) fun fr => ?_
   refine x_p rfl ?_
   refine v_done ?_
   refine x_p rfl ?_
   refine v_done ?_
   refine x_p rfl ?_
   refine v_done ?_
   refine x_vb rfl ?_
   refine v_ld 1 tt_ok (v := .int .i64 f0.e.N) ts_3 rfl (by kernel_rfl) ?_
   refine v_done ?_
   refine x_p rfl ?_
   refine v_done ?_
   refine x_p rfl ?_
   refine v_done ?_
   refine x_p rfl ?_
   refine v_done ?_
   refine x_p rfl ?_
   refine v_done ?_
   refine x_vb rfl ?_
   refine v_ld 1 tt_ok (v := .int .i64 f0.e.Tick) ts_3 rfl (by kernel_rfl) ?_
   refine v_done ?_
   refine x_kp [(78,.pointer (some ((adr g_f0.s_Cells.1).add (f0.e.Cell.toNat * 4)))),(82,.pointer (some ((adr g_f0.s_Cells.1).add (f0.e.Cell.toNat * 4)))),(87,.int .i64 f0.e.N),(92,.int .i64 f0.e.Tick)] (by kernel_rfl) fun fr => ?_
   refine x_p rfl ?_
   refine v_done ?_
   refine x_p rfl ?_
   refine v_done ?_
   refine x_e rfl ?_
   refine r_sec 1 (E := eCellState) tt_ok ({ x38 with Running := f0.e.N }) (idx_get hx39) (fit1 ts_3 (by kernel_rfl)) rfl rfl (pl1 _ _ _) (by kernel_rfl) (by kernel_rfl) (List.cons_ne_nil _ _) ?_
   rw [show (en_state_fold f0 g_f0) = (en_state_fold ({ f0 with s := { f0.s with Cells := (f0.s.Cells.set f0.e.Cell.toNat ({ x38 with Running := f0.e.N })) } }) g_f0) by simp [en_state_fold]]
   rw [← @List.length_set _ f0.s.Cells f0.e.Cell.toNat ({ x38 with Running := f0.e.N })]
   refine r_done ⟨rfl,k_a (le_w [true,false,true]) (le_w [true,false,true]),?_⟩
   refine x_p rfl ?_
   refine v_done ?_
   refine x_p rfl ?_
   refine v_done ?_
   refine x_e rfl ?_
   refine r_sec 1 (E := eCellState) tt_ok ({ x38 with Running := f0.e.N,Since := f0.e.Tick }) (get_set (idx_get hx39) _) (fit1 ts_3 (by kernel_rfl)) rfl rfl (pl1 _ _ _) (by kernel_rfl) (by kernel_rfl) (List.cons_ne_nil _ _) ?_
   rw [show (en_state_fold ({ f0 with s := { f0.s with Cells := (f0.s.Cells.set f0.e.Cell.toNat ({ x38 with Running := f0.e.N })) } }) g_f0) = (en_state_fold ({ f0 with s := { f0.s with Cells := ((f0.s.Cells.set f0.e.Cell.toNat ({ x38 with Running := f0.e.N })).set f0.e.Cell.toNat ({ x38 with Running := f0.e.N,Since := f0.e.Tick })) } }) g_f0) by simp [en_state_fold]]
   rw [← @List.length_set _ (f0.s.Cells.set f0.e.Cell.toNat ({ x38 with Running := f0.e.N })) f0.e.Cell.toNat ({ x38 with Running := f0.e.N,Since := f0.e.Tick })]
   refine r_done ⟨rfl,k_a (le_w [true,false,true]) (le_w [true,false,true]),?_⟩
   refine x_k [] (by kernel_rfl) fun fr => ?_
   refine r_done ?_
   refine r_bind ?_
   refine r_done ?_
   repeat refine r_done ?_
   repeat refine r_done ?_
   obtain rfl := h_out h
   exact ret_of (RV.tmp RV.nil) (Le.refl _) ⟨rfl,rfl⟩
theorem hc_57 {ρ : Addr → Option Value} {L : List Ent} {bf0 : Nat} {g_f0 : gstate_fold} {S_f0 : St} (hS_f0 : Le ⟨ρ,L⟩ S_f0) (f0 : state_fold) (h_f0 : Sl_state_fold S_f0 f0 g_f0) (h_f0_t : g_f0.t = fptr g_f0.s_Tenants.1 f0.e.Tenant 12) (h_f0_cell : g_f0.cell = fptr g_f0.s_Cells.1 f0.e.Cell 4) {r : (Int × State)} (h : state_fold_prove f0 = some r) : HC Try.prog 57 #[.pointer (some ⟨bf0,0,none⟩)] ⟨ρ,.row g_f0.s_Tenants.1 f0.s.Tenants.length g_f0.s_Tenants.2 50 12 (fl eTenantState.en f0.s.Tenants) :: .row g_f0.s_Cells.1 f0.s.Cells.length g_f0.s_Cells.2 67 4 (fl eCellState.en f0.s.Cells) :: .obj bf0 (en_state_fold f0 g_f0) 80 :: L⟩ (fun v S' => v = .int .i64 r.1 ∧ S' = ⟨ρ,.row g_f0.s_Tenants.1 r.2.Tenants.length g_f0.s_Tenants.2 50 12 (fl eTenantState.en r.2.Tenants) :: .row g_f0.s_Cells.1 r.2.Cells.length g_f0.s_Cells.2 67 4 (fl eCellState.en r.2.Cells) :: .obj bf0 (en_state_fold ({ f0 with s := r.2 }) g_f0) 80 :: L⟩) := by
 replace h := h_in h
 refine HC.intro (N := 36) (args := [_]) tt_ok Try.func57 rfl (by decide +kernel) rfl (Nat.le_of_ble_eq_true rfl) ?_
 refine r_bind ?_
 refine r_bx ([.pointer (some ⟨bf0,0,none⟩)]) (by kernel_rfl) fun bq1 => ?_
 refine r_done ?_
 refine r_bind ?_
 refine r_ld 0 tt_ok (v := .pointer (some ⟨bf0,0,none⟩)) ts_75 rfl (by kernel_rfl) ?_
 refine r_ld 3 tt_ok (v := .int .i64 f0.e.N) ts_3 rfl (by kernel_rfl) ?_
 refine r_al tt_ok ([.int .i64 0]) ti_3 (by kernel_rfl) fun bq2 => ?_
 refine r_s 0 tt_ok ([.int .i64 f0.e.N]) (fit1 ts_3 (by kernel_rfl)) rfl (by kernel_rfl) (by kernel_rfl) ?_
 refine r_keep [(1,.pointer (some ⟨bq1,0,none⟩)),(3,.pointer (some ⟨bq2,0,none⟩))] (by kernel_rfl) fun fr => ?_
 refine r_done ?_
 refine r_bind ?_
 refine r_bind ?_
 refine r_mix tt_ok hm_ok _ _ [] (.vb 0 (.pure 1 (.pure 2 (.vb 3 (.vb 4 (.eff 5 .nil)))))) (le_w [true,true,true,true,true]) (le_w [true,true,true,true,true]) ?_ ?_
 ·decide +kernel
 refine x_vb rfl ?_
 refine v_ld 1 tt_ok (v := .pointer (some ⟨bf0,0,none⟩)) ts_75 rfl (by kernel_rfl) ?_
 refine v_done ?_
 refine x_p rfl ?_
 refine v_done ?_
 refine x_p rfl ?_
 refine v_done ?_
 refine x_vb rfl ?_
 refine v_ldn 4 tt_ok (en_State f0.s (⟨(g_f0.s_Tenants.1,g_f0.s_Tenants.2),(g_f0.s_Cells.1,g_f0.s_Cells.2)⟩)) ta_36 rfl (by kernel_rfl) (by kernel_rfl) ?_
 refine v_done ?_
 refine x_vb rfl ?_
 refine v_ld 0 tt_ok (v := .int .i64 f0.e.N) ts_3 rfl (by kernel_rfl) ?_
 refine v_done ?_
 refine x_e rfl ?_
 replace h := h_b h; obtain ⟨x4,hx3,h⟩ := h
 refine r_call (hc_79 (g_s0 := ⟨(g_f0.s_Tenants.1,g_f0.s_Tenants.2),(g_f0.s_Cells.1,g_f0.s_Cells.2)⟩) (s0 := f0.s) (version1 := f0.e.N) (hS_s0 := by exact Le.refl _) (h_s0 := by exact ⟨sl_row 2 rfl,sl_row 3 rfl⟩) (h := hx3)) ?_
 rintro _ _ ⟨rfl,rfl⟩
 refine r_done ⟨rfl,k_a (le_w [true,true,true,true,true]) (le_w [true,true,true,true,true]),?_⟩
 refine x_k [(1,.pointer (some ⟨bq1,0,none⟩)),(3,.pointer (some ⟨bq2,0,none⟩)),(15,.bool x4)] (by kernel_rfl) fun fr => ?_
 refine r_done ?_
 refine r_ite (fun hb5 => ?_) (fun hb5 => ?_)
 ·replace h := h_t h hb5
  clear hb5
  refine r_bind ?_
  refine r_done ?_
  repeat refine r_done ?_
  repeat refine r_done ?_
  obtain rfl := h_out h
  exact ret_of (RV.tmp RV.nil) (le_w [false,false,true,true,true]) ⟨rfl,rfl⟩
 ·replace h := h_f h hb5
  clear hb5
  refine r_done ?_
  refine r_bind ?_
  refine r_ld 1 tt_ok (v := .pointer (some ⟨bf0,0,none⟩)) ts_75 rfl (by kernel_rfl) ?_
  refine r_ld 4 tt_ok (v := .slice g_f0.s_Cells.1 f0.s.Cells.length g_f0.s_Cells.2) ts_34 rfl (by kernel_rfl) ?_
  refine r_inl (HC.intro (N := 9) (args := [_,_]) tt_ok Try.func80 rfl (by decide +kernel) rfl (Nat.le_of_ble_eq_true rfl) ?_)
  refine r_bind ?_
  refine r_done ?_
  refine r_bind ?_
  replace h := h_j h; obtain ⟨K38,h,hK39⟩ := h
  refine r_call (Post := fun v S => ∃ (x37 : Int),K38 x37 = some r ∧ v = .int .i64 x37 ∧ S = ⟨ρ,.obj bq2 ([.int .i64 f0.e.N]) 3 :: .obj bq1 ([.pointer (some ⟨bf0,0,none⟩)]) 75 :: .row g_f0.s_Tenants.1 f0.s.Tenants.length g_f0.s_Tenants.2 50 12 (fl eTenantState.en f0.s.Tenants) :: .row g_f0.s_Cells.1 f0.s.Cells.length g_f0.s_Cells.2 67 4 (fl eCellState.en f0.s.Cells) :: .obj bf0 (en_state_fold f0 g_f0) 80 :: L⟩) ?_ ?_
  ·refine HC.intro (N := 19) (args := [_,_]) tt_ok Try.func95 rfl (by decide +kernel) rfl (Nat.le_of_ble_eq_true rfl) ?_
   refine r_bind ?_
   refine r_done ?_
   refine r_bind ?_
   refine r_bind ?_
   refine r_done ?_
   refine r_bind ?_
   replace h := h_l h; obtain ⟨K33,n34,h,hK35⟩ := h
   refine r_loop (fun n fr S => ∃ (x24 : Int),∃ fr0,(runN (state_fold_prove.b1 f0) n x24).bind K33 = some r ∧ fr = updL [(0,.slice g_f0.s_Cells.1 f0.s.Cells.length g_f0.s_Cells.2),(1,.func (.func 81) #[] #[.pointer (some ⟨bq2,0,none⟩),.pointer (some ⟨bq1,0,none⟩)]),(7,.int .i64 (f0.s.Cells.length : Int)),(8,.int .i64 x24)] fr0 ∧ S = ⟨ρ,.obj bq2 ([.int .i64 f0.e.N]) 3 :: .obj bq1 ([.pointer (some ⟨bf0,0,none⟩)]) 75 :: .row g_f0.s_Tenants.1 f0.s.Tenants.length g_f0.s_Tenants.2 50 12 (fl eTenantState.en f0.s.Tenants) :: .row g_f0.s_Cells.1 f0.s.Cells.length g_f0.s_Cells.2 67 4 (fl eCellState.en f0.s.Cells) :: .obj bf0 (en_state_fold f0 g_f0) 80 :: L⟩) n34 ⟨0,_,h,fr_eq _ (by kernel_rfl),(by kernel_rfl)⟩ ?_
   clear h
   rintro n34 fr S ⟨x24,fr,h,rfl,rfl⟩
   replace h := h_r h; obtain ⟨m36,hm36,h⟩ := h
   refine r_bind ?_
   refine r_done ?_
   refine r_bind ?_
   refine r_ite (fun hb25 => ?_) (fun hb25 => ?_)
   ·replace h := h_t h hb25
    clear hb25
    refine r_done ?_
    refine r_bind ?_
    refine r_bind ?_
    refine r_bind ?_
    refine r_done ?_
    refine r_bind ?_
    replace h := h_b h; obtain ⟨x26,hx27,h⟩ := h
    refine r_el hx27 (rd_row 3 rfl) ?_
    refine r_len (E := eCellState) tt_ok (en_CellState x26) (idx_get hx27) (rd_row 3 rfl) ta_67 rfl (pl0 _ _) (by kernel_rfl) (by kernel_rfl) ?_
    refine r_inl (HC.intro (N := 36) (args := [_,_,_]) tt_ok Try.func81 rfl (by decide +kernel) rfl (Nat.le_of_ble_eq_true rfl) ?_)
    refine r_bind ?_
    refine r_bx (en_CellState x26) (by kernel_rfl) fun bq28 => ?_
    refine r_done ?_
    refine r_bind ?_
    refine r_meet (fun fr S => ∃ fr0,fr = updL [(4,.bool ((!decide (x26.Mode = 3)) && ((decide (x26.Running = f0.e.N)) && ((decide (x26.Wanted = f0.e.N)) && (decide (f0.c.Bake ≤ w64 (f0.e.Tick - x26.Since)))))))] fr0 ∧ S = ⟨ρ,.obj bq28 (en_CellState x26) 67 :: .obj bq2 ([.int .i64 f0.e.N]) 3 :: .obj bq1 ([.pointer (some ⟨bf0,0,none⟩)]) 75 :: .row g_f0.s_Tenants.1 f0.s.Tenants.length g_f0.s_Tenants.2 50 12 (fl eTenantState.en f0.s.Tenants) :: .row g_f0.s_Cells.1 f0.s.Cells.length g_f0.s_Cells.2 67 4 (fl eCellState.en f0.s.Cells) :: .obj bf0 (en_state_fold f0 g_f0) 80 :: L⟩) ?_ ?_
    refine r_mix tt_ok hm_ok _ _ [] (.pure 0 (.vb 1 (.pure 2 (.pure 3 (.pure 4 (.vb 5 (.vb 6 (.pure 7 (.pure 8 (.pure 9 (.pure 10 (.vb 11 (.vb 12 (.pure 13 (.pure 14 (.pure 15 (.vb 16 (.pure 17 (.pure 18 (.pure 19 (.vb 20 (.pure 21 (.vb 22 (.pure 23 (.vb 24 (.pure 25 (.pure 26 (.pure 27 (.vb 28 (.pure 29 (.pure 30 (.pure 31 .nil)))))))))))))))))))))))))))))))) (le_w [true,true,true,true,true,true]) (le_w [true,true,true,true,true,true]) ?_ ?_
    ·decide +kernel
    refine x_p rfl ?_
    refine v_done ?_
    refine x_vb rfl ?_
    refine v_ld 0 tt_ok (v := .int .i64 x26.Mode) ts_3 rfl (by kernel_rfl) ?_
    refine v_done ?_
    refine x_kp [(1,.pointer (some ⟨bq2,0,none⟩)),(2,.pointer (some ⟨bq1,0,none⟩)),(3,.pointer (some ⟨bq28,0,none⟩)),(4,.bool false),(6,.int .i64 x26.Mode)] (by kernel_rfl) fun fr => ?_
    refine x_p rfl ?_
    refine v_done ?_
    refine x_p rfl ?_
    refine v_done ?_
    refine x_p rfl ?_
    refine v_ite (fun (hb29 : (!decide (x26.Mode = 3)) = true) => ?_) (fun (hb29 : (!decide (x26.Mode = 3)) = false) => ?_)
    ·refine v_done ?_
     refine x_vb rfl ?_
     refine v_T rfl ?_
     refine v_ld 0 tt_ok (v := .int .i64 x26.Running) ts_3 rfl (by kernel_rfl) ?_
     refine v_done ?_
     refine x_vb rfl ?_
     refine v_T rfl ?_
     refine v_ld 1 tt_ok (v := .int .i64 f0.e.N) ts_3 rfl (by kernel_rfl) ?_
     refine v_done ?_
     refine x_p rfl ?_
     refine v_T rfl ?_
     refine v_done ?_
     refine x_p rfl ?_
     refine v_done ?_
     refine x_p rfl ?_
     refine v_done ?_
     refine x_p rfl ?_
     refine v_ite (fun (hb30 : (decide (x26.Running = f0.e.N)) = true) => ?_) (fun (hb30 : (decide (x26.Running = f0.e.N)) = false) => ?_)
     ·refine v_done ?_
      refine x_kp [(1,.pointer (some ⟨bq2,0,none⟩)),(2,.pointer (some ⟨bq1,0,none⟩)),(3,.pointer (some ⟨bq28,0,none⟩)),(4,.bool false),(14,.bool true),(15,.pointer (some ⟨bq28,2,none⟩))] (by kernel_rfl) fun fr => ?_
      refine x_vb rfl ?_
      refine v_T rfl ?_
      refine v_ld 0 tt_ok (v := .int .i64 x26.Wanted) ts_3 rfl (by kernel_rfl) ?_
      refine v_done ?_
      refine x_vb rfl ?_
      refine v_T rfl ?_
      refine v_ld 1 tt_ok (v := .int .i64 f0.e.N) ts_3 rfl (by kernel_rfl) ?_
      refine v_done ?_
      refine x_p rfl ?_
      refine v_T rfl ?_
      refine v_done ?_
      refine x_p rfl ?_
      refine v_done ?_
      refine x_p rfl ?_
      refine v_done ?_
      refine x_vb rfl ?_
      refine v_ite (fun (hb31 : (decide (x26.Wanted = f0.e.N)) = true) => ?_) (fun (hb31 : (decide (x26.Wanted = f0.e.N)) = false) => ?_)
      ·refine v_ld 2 tt_ok (v := .pointer (some ⟨bf0,0,none⟩)) ts_75 rfl (by kernel_rfl) ?_
       refine v_done ?_
       refine x_p rfl ?_
       refine v_T rfl ?_
       refine v_done ?_
       refine x_p rfl ?_
       refine v_T rfl ?_
       refine v_done ?_
       refine x_p rfl ?_
       refine v_T rfl ?_
       refine v_done ?_
       refine x_kp [(2,.pointer (some ⟨bq1,0,none⟩)),(3,.pointer (some ⟨bq28,0,none⟩)),(4,.bool false),(20,.bool true),(24,.pointer (some ⟨bf0,19,none⟩))] (by kernel_rfl) fun fr => ?_
       refine x_vb rfl ?_
       refine v_T rfl ?_
       refine v_ld 5 tt_ok (v := .int .i64 f0.e.Tick) ts_3 rfl (by kernel_rfl) ?_
       refine v_done ?_
       refine x_p rfl ?_
       refine v_T rfl ?_
       refine v_done ?_
       refine x_vb rfl ?_
       refine v_T rfl ?_
       refine v_ld 0 tt_ok (v := .int .i64 x26.Since) ts_3 rfl (by kernel_rfl) ?_
       refine v_done ?_
       refine x_p rfl ?_
       refine v_T rfl ?_
       refine v_num (e' := w64 (f0.e.Tick - x26.Since)) rfl ?_
       refine v_done ?_
       refine x_vb rfl ?_
       refine v_T rfl ?_
       refine v_ld 2 tt_ok (v := .pointer (some ⟨bf0,0,none⟩)) ts_75 rfl (by kernel_rfl) ?_
       refine v_done ?_
       refine x_p rfl ?_
       refine v_T rfl ?_
       refine v_done ?_
       refine x_p rfl ?_
       refine v_T rfl ?_
       refine v_done ?_
       refine x_p rfl ?_
       refine v_T rfl ?_
       refine v_done ?_
       refine x_vb rfl ?_
       refine v_T rfl ?_
       refine v_ld 5 tt_ok (v := .int .i64 f0.c.Bake) ts_3 rfl (by kernel_rfl) ?_
       refine v_done ?_
       refine x_kp [(4,.bool false),(20,.bool true),(28,.int .i64 (w64 (f0.e.Tick - x26.Since))),(33,.int .i64 f0.c.Bake)] (by kernel_rfl) fun fr => ?_
       refine x_p rfl ?_
       refine v_T rfl ?_
       refine v_done ?_
       refine x_p rfl ?_
       refine v_done ?_
       refine x_p rfl ?_
       refine v_done ?_
       refine x_k [(4,.bool (decide (f0.c.Bake ≤ w64 (f0.e.Tick - x26.Since))))] (by kernel_rfl) fun fr => ?_
       exact r_done ⟨_,fr_eq _ (by (try rw [hb31]); (try rw [hb30]); (try rw [hb29]); kernel_rfl),(by kernel_rfl)⟩
      ·refine v_done ?_
       refine x_p rfl ?_
       refine v_F rfl ?_
       refine v_done ?_
       refine x_p rfl ?_
       refine v_F rfl ?_
       refine v_done ?_
       refine x_p rfl ?_
       refine v_F rfl ?_
       refine v_done ?_
       refine x_kp [(2,.pointer (some ⟨bq1,0,none⟩)),(3,.pointer (some ⟨bq28,0,none⟩)),(4,.bool false),(20,.bool false),(24,undef)] (by kernel_rfl) fun fr => ?_
       refine x_vb rfl ?_
       refine v_F rfl ?_
       refine v_done ?_
       refine x_p rfl ?_
       refine v_F rfl ?_
       refine v_done ?_
       refine x_vb rfl ?_
       refine v_F rfl ?_
       refine v_done ?_
       refine x_p rfl ?_
       refine v_F rfl ?_
       refine v_done ?_
       refine x_vb rfl ?_
       refine v_F rfl ?_
       refine v_done ?_
       refine x_p rfl ?_
       refine v_F rfl ?_
       refine v_done ?_
       refine x_p rfl ?_
       refine v_F rfl ?_
       refine v_done ?_
       refine x_p rfl ?_
       refine v_F rfl ?_
       refine v_done ?_
       refine x_vb rfl ?_
       refine v_F rfl ?_
       refine v_done ?_
       refine x_kp [(4,.bool false),(20,.bool false),(28,undef),(33,undef)] (by kernel_rfl) fun fr => ?_
       refine x_p rfl ?_
       refine v_F rfl ?_
       refine v_done ?_
       refine x_p rfl ?_
       refine v_F rfl ?_
       refine v_done ?_
       refine x_p rfl ?_
       refine v_done ?_
       refine x_k [(4,.bool false)] (by kernel_rfl) fun fr => ?_
       exact r_done ⟨_,fr_eq _ (by (try rw [hb31]); (try rw [hb30]); (try rw [hb29]); kernel_rfl),(by kernel_rfl)⟩
     ·refine v_done ?_
      refine x_kp [(1,.pointer (some ⟨bq2,0,none⟩)),(2,.pointer (some ⟨bq1,0,none⟩)),(3,.pointer (some ⟨bq28,0,none⟩)),(4,.bool false),(14,.bool false),(15,undef)] (by kernel_rfl) fun fr => ?_
      refine x_vb rfl ?_
      refine v_F rfl ?_
      refine v_done ?_
      refine x_vb rfl ?_
      refine v_F rfl ?_
      refine v_done ?_
      refine x_p rfl ?_
      refine v_F rfl ?_
      refine v_done ?_
      refine x_p rfl ?_
      refine v_F rfl ?_
      refine v_done ?_
      refine x_p rfl ?_
      refine v_done ?_
      refine x_vb rfl ?_
      refine v_F rfl ?_
      refine v_done ?_
      refine x_p rfl ?_
      refine v_F rfl ?_
      refine v_done ?_
      refine x_p rfl ?_
      refine v_F rfl ?_
      refine v_done ?_
      refine x_p rfl ?_
      refine v_F rfl ?_
      refine v_done ?_
      refine x_kp [(2,.pointer (some ⟨bq1,0,none⟩)),(3,.pointer (some ⟨bq28,0,none⟩)),(4,.bool false),(20,.bool false),(24,undef)] (by kernel_rfl) fun fr => ?_
      refine x_vb rfl ?_
      refine v_F rfl ?_
      refine v_done ?_
      refine x_p rfl ?_
      refine v_F rfl ?_
      refine v_done ?_
      refine x_vb rfl ?_
      refine v_F rfl ?_
      refine v_done ?_
      refine x_p rfl ?_
      refine v_F rfl ?_
      refine v_done ?_
      refine x_vb rfl ?_
      refine v_F rfl ?_
      refine v_done ?_
      refine x_p rfl ?_
      refine v_F rfl ?_
      refine v_done ?_
      refine x_p rfl ?_
      refine v_F rfl ?_
      refine v_done ?_
      refine x_p rfl ?_
      refine v_F rfl ?_
      refine v_done ?_
      refine x_vb rfl ?_
      refine v_F rfl ?_
      refine v_done ?_
      refine x_kp [(4,.bool false),(20,.bool false),(28,undef),(33,undef)] (by kernel_rfl) fun fr => ?_
      refine x_p rfl ?_
      refine v_F rfl ?_
      refine v_done ?_
      refine x_p rfl ?_
      refine v_F rfl ?_
      refine v_done ?_
      refine x_p rfl ?_
      refine v_done ?_
      refine x_k [(4,.bool false)] (by kernel_rfl) fun fr => ?_
      exact r_done ⟨_,fr_eq _ (by (try rw [hb30]); (try rw [hb29]); kernel_rfl),(by kernel_rfl)⟩
    ·refine v_done ?_
     refine x_vb rfl ?_
     refine v_F rfl ?_
     refine v_done ?_
     refine x_vb rfl ?_
     refine v_F rfl ?_
     refine v_done ?_
     refine x_p rfl ?_
     refine v_F rfl ?_
     refine v_done ?_
     refine x_p rfl ?_
     refine v_F rfl ?_
     refine v_done ?_
     refine x_p rfl ?_
     refine v_done ?_
     refine x_p rfl ?_
     refine v_F rfl ?_
     refine v_done ?_
     refine x_kp [(1,.pointer (some ⟨bq2,0,none⟩)),(2,.pointer (some ⟨bq1,0,none⟩)),(3,.pointer (some ⟨bq28,0,none⟩)),(4,.bool false),(14,.bool false),(15,undef)] (by kernel_rfl) fun fr => ?_
     refine x_vb rfl ?_
     refine v_F rfl ?_
     refine v_done ?_
     refine x_vb rfl ?_
     refine v_F rfl ?_
     refine v_done ?_
     refine x_p rfl ?_
     refine v_F rfl ?_
     refine v_done ?_
     refine x_p rfl ?_
     refine v_F rfl ?_
     refine v_done ?_
     refine x_p rfl ?_
     refine v_done ?_
     refine x_vb rfl ?_
     refine v_F rfl ?_
     refine v_done ?_
     refine x_p rfl ?_
     refine v_F rfl ?_
     refine v_done ?_
     refine x_p rfl ?_
     refine v_F rfl ?_
     refine v_done ?_
     refine x_p rfl ?_
     refine v_F rfl ?_
     refine v_done ?_
     refine x_kp [(2,.pointer (some ⟨bq1,0,none⟩)),(3,.pointer (some ⟨bq28,0,none⟩)),(4,.bool false),(20,.bool false),(24,undef)] (by kernel_rfl) fun fr => ?_
     refine x_vb rfl ?_
     refine v_F rfl ?_
     refine v_done ?_
     refine x_p rfl ?_
     refine v_F rfl ?_
     refine v_done ?_
     refine x_vb rfl ?_
     refine v_F rfl ?_
     refine v_done ?_
     refine x_p rfl ?_
     refine v_F rfl ?_
     refine v_done ?_
     refine x_vb rfl ?_
     refine v_F rfl ?_
     refine v_done ?_
     refine x_p rfl ?_
     refine v_F rfl ?_
     refine v_done ?_
     refine x_p rfl ?_
     refine v_F rfl ?_
     refine v_done ?_
     refine x_p rfl ?_
     refine v_F rfl ?_
     refine v_done ?_
     refine x_vb rfl ?_
     refine v_F rfl ?_
     refine v_done ?_
     refine x_kp [(4,.bool false),(20,.bool false),(28,undef),(33,undef)] (by kernel_rfl) fun fr => ?_
     refine x_p rfl ?_
     refine v_F rfl ?_
     refine v_done ?_
     refine x_p rfl ?_
     refine v_F rfl ?_
     refine v_done ?_
     refine x_p rfl ?_
     refine v_done ?_
     refine x_k [(4,.bool false)] (by kernel_rfl) fun fr => ?_
     exact r_done ⟨_,fr_eq _ (by (try rw [hb29]); kernel_rfl),(by kernel_rfl)⟩
    rintro fr S ⟨fr,rfl,rfl⟩
    refine r_done ?_
    repeat refine r_done ?_
    repeat refine r_done ?_
    refine ret_of (RV.tmp RV.nil) (Le.refl _) ?_
    refine r_keep [(0,.slice g_f0.s_Cells.1 f0.s.Cells.length g_f0.s_Cells.2),(1,.func (.func 81) #[] #[.pointer (some ⟨bq2,0,none⟩),.pointer (some ⟨bq1,0,none⟩)]),(5,.int .i64 x24),(7,.int .i64 (f0.s.Cells.length : Int)),(8,.int .i64 x24),(16,.bool ((!decide (x26.Mode = 3)) && ((decide (x26.Running = f0.e.N)) && ((decide (x26.Wanted = f0.e.N)) && (decide (f0.c.Bake ≤ w64 (f0.e.Tick - x26.Since)))))))] (by kernel_rfl) fun fr => ?_
    refine r_done ?_
    refine r_ite (fun hb32 => ?_) (fun hb32 => ?_)
    ·replace h := h_t h hb32
     clear hb32
     refine r_bind ?_
     refine r_done ?_
     repeat refine r_done ?_
     replace h := h_m h
     subst hK35
     repeat refine r_done ?_
     exact ret_of (RV.tmp RV.nil) (le_w [false,true,true,true,true,true]) ⟨x24,h,rfl,rfl⟩
    ·replace h := h_f h hb32
     clear hb32
     refine r_done ?_
     refine r_done ?_
     refine r_num (e' := w64 (x24 + 1)) rfl ?_
     refine r_le (le_w [false,true,true,true,true,true]) ?_
     exact r_done ⟨m36,lt_s hm36,w64 (x24 + 1),_,h,fr_eq _ (by kernel_rfl),(by kernel_rfl)⟩
   ·replace h := h_f h hb25
    clear hb25
    refine r_done ?_
    refine r_done ?_
    replace h := h_m h
    subst hK35
    refine r_done ?_
    refine r_bind ?_
    refine r_done ?_
    repeat refine r_done ?_
    repeat refine r_done ?_
    exact ret_of (RV.tmp RV.nil) (Le.refl _) ⟨(-1),h,rfl,rfl⟩
  clear h
  rintro v S ⟨x37,h,rfl,rfl⟩
  replace h := hK39 _ h
  refine r_done ?_
  repeat refine r_done ?_
  repeat refine r_done ?_
  refine ret_of (RV.tmp RV.nil) (Le.refl _) ?_
  refine r_done ?_
  refine r_bind ?_
  refine r_bind ?_
  refine r_keep [(1,.pointer (some ⟨bq1,0,none⟩)),(3,.pointer (some ⟨bq2,0,none⟩)),(24,.bool (!(decide (0 ≤ x37))))] (by kernel_rfl) fun fr => ?_
  refine r_done ?_
  refine r_ite (fun hb40 => ?_) (fun hb40 => ?_)
  ·replace h := h_t h hb40
   clear hb40
   refine r_bind ?_
   refine r_done ?_
   repeat refine r_done ?_
   repeat refine r_done ?_
   obtain rfl := h_out h
   exact ret_of (RV.tmp RV.nil) (le_w [false,false,true,true,true]) ⟨rfl,rfl⟩
  ·replace h := h_f h hb40
   clear hb40
   refine r_done ?_
   refine r_bind ?_
   refine r_mix tt_ok hm_ok _ _ [11] (.vb 0 (.pure 1 (.pure 2 (.pure 3 (.va 4 (.vb 5 (.pure 6 (.pure 7 (.pure 8 (.pure 9 (.pure 10 (.eff 11 .nil)))))))))))) (le_w [true,true,true,true,true]) (le_w [true,true,true,true,false]) ?_ ?_
   ·decide +kernel
   refine x_vb rfl ?_
   refine v_ld 1 tt_ok (v := .pointer (some ⟨bf0,0,none⟩)) ts_75 rfl (by kernel_rfl) ?_
   refine v_done ?_
   refine x_p rfl ?_
   refine v_done ?_
   refine x_p rfl ?_
   refine v_done ?_
   refine x_p rfl ?_
   refine v_done ?_
   refine x_va rfl ?_
   refine v_ld 4 tt_ok (v := .int .i64 f0.s.Proven) ts_3 rfl (by kernel_rfl) ?_
   refine v_done ?_
   refine x_vb rfl ?_
   refine v_ld 0 tt_ok (v := .int .i64 f0.e.N) ts_3 rfl (by kernel_rfl) ?_
   refine v_done ?_
   refine x_p rfl ?_
   replace h := h_p h; obtain ⟨hc41,h⟩ := h
   refine v_check hc41 ?_
   refine v_num (e' := shl .i64 1 f0.e.N) rfl ?_
   refine v_done ?_
   refine x_p rfl ?_
   refine v_num (e' := bOr .i64 f0.s.Proven (shl .i64 1 f0.e.N)) rfl ?_
   refine v_done ?_
   refine x_p rfl ?_
   refine v_done ?_
   refine x_kp [(32,.int .i64 (bOr .i64 f0.s.Proven (shl .i64 1 f0.e.N))),(33,.pointer (some ⟨bf0,0,none⟩))] (by kernel_rfl) fun fr => ?_
   refine x_p rfl ?_
   refine v_done ?_
   refine x_p rfl ?_
   refine v_done ?_
   refine x_e rfl ?_
   refine r_s 4 tt_ok (en_state_fold ({ f0 with s := { f0.s with Proven := bOr .i64 f0.s.Proven (shl .i64 1 f0.e.N) } }) g_f0) (fit1 ts_3 (by kernel_rfl)) rfl (by kernel_rfl) (by kernel_rfl) ?_
   refine r_done ⟨rfl,k_b rfl (le_w [true,true,true,true,false]),?_⟩
   refine x_k [] (by kernel_rfl) fun fr => ?_
   refine r_done ?_
   refine r_bind ?_
   refine r_done ?_
   repeat refine r_done ?_
   repeat refine r_done ?_
   obtain rfl := h_out h
   exact ret_of (RV.tmp RV.nil) (le_w [false,false,true,true,true]) ⟨rfl,rfl⟩
theorem hc_58 {ρ : Addr → Option Value} {L : List Ent} {bf0 : Nat} {g_f0 : gstate_fold} {S_f0 : St} (hS_f0 : Le ⟨ρ,L⟩ S_f0) (f0 : state_fold) (h_f0 : Sl_state_fold S_f0 f0 g_f0) (h_f0_t : g_f0.t = fptr g_f0.s_Tenants.1 f0.e.Tenant 12) (h_f0_cell : g_f0.cell = fptr g_f0.s_Cells.1 f0.e.Cell 4) {r : (Int × State)} (h : state_fold_evacuate f0 = some r) : HC Try.prog 58 #[.pointer (some ⟨bf0,0,none⟩)] ⟨ρ,.row g_f0.s_Tenants.1 f0.s.Tenants.length g_f0.s_Tenants.2 50 12 (fl eTenantState.en f0.s.Tenants) :: .row g_f0.s_Cells.1 f0.s.Cells.length g_f0.s_Cells.2 67 4 (fl eCellState.en f0.s.Cells) :: .obj bf0 (en_state_fold f0 g_f0) 80 :: L⟩ (fun v S' => v = .int .i64 r.1 ∧ S' = ⟨ρ,.row g_f0.s_Tenants.1 r.2.Tenants.length g_f0.s_Tenants.2 50 12 (fl eTenantState.en r.2.Tenants) :: .row g_f0.s_Cells.1 r.2.Cells.length g_f0.s_Cells.2 67 4 (fl eCellState.en r.2.Cells) :: .obj bf0 (en_state_fold ({ f0 with s := r.2 }) g_f0) 80 :: L⟩) := by
 replace h := h_in h
 refine HC.intro (N := 36) (args := [_]) tt_ok Try.func58 rfl (by decide +kernel) rfl (Nat.le_of_ble_eq_true rfl) ?_
 refine r_bind ?_
 refine r_done ?_
 refine r_bind ?_
 refine r_bind ?_
 refine r_mix tt_ok hm_ok _ _ [] (.pure 0 (.pure 1 (.pure 2 (.pure 3 (.vb 4 (.pure 5 (.pure 6 (.pure 7 (.pure 8 (.vb 9 (.pure 10 (.pure 11 (.pure 12 (.pure 13 (.pure 14 (.pure 15 (.vb 16 (.pure 17 .nil)))))))))))))))))) (le_w [true,true,true]) (le_w [true,true,true]) ?_ ?_
 ·decide +kernel
 refine x_p rfl ?_
 refine v_done ?_
 refine x_p rfl ?_
 refine v_done ?_
 refine x_p rfl ?_
 refine v_done ?_
 refine x_p rfl ?_
 refine v_done ?_
 refine x_vb rfl ?_
 refine v_ld 2 tt_ok (v := .int .i64 f0.s.Evacuating) ts_3 rfl (by kernel_rfl) ?_
 refine v_done ?_
 refine x_p rfl ?_
 refine v_done ?_
 refine x_p rfl ?_
 refine v_done ?_
 refine x_p rfl ?_
 refine v_done ?_
 refine x_kp [(0,.pointer (some ⟨bf0,0,none⟩)),(7,.int .i64 f0.s.Evacuating),(10,.pointer (some ⟨bf0,18,none⟩))] (by kernel_rfl) fun fr => ?_
 refine x_p rfl ?_
 refine v_done ?_
 refine x_vb rfl ?_
 refine v_ld 2 tt_ok (v := .int .i64 f0.e.Other) ts_3 rfl (by kernel_rfl) ?_
 refine v_done ?_
 refine x_p rfl ?_
 replace h := h_p h; obtain ⟨hc1,h⟩ := h
 refine v_check hc1 ?_
 refine v_num (e' := shr .i64 f0.s.Evacuating f0.e.Other) rfl ?_
 refine v_done ?_
 refine x_p rfl ?_
 refine v_num (e' := bAnd .i64 (shr .i64 f0.s.Evacuating f0.e.Other) 1) rfl ?_
 refine v_done ?_
 refine x_p rfl ?_
 refine v_done ?_
 refine x_p rfl ?_
 refine v_done ?_
 refine x_p rfl ?_
 refine v_done ?_
 refine x_p rfl ?_
 refine v_done ?_
 refine x_vb rfl ?_
 refine v_ld 2 tt_ok (v := .int .i64 f0.e.N) ts_3 rfl (by kernel_rfl) ?_
 refine v_done ?_
 refine x_kp [(0,.pointer (some ⟨bf0,0,none⟩)),(14,.int .i64 (bAnd .i64 (shr .i64 f0.s.Evacuating f0.e.Other) 1)),(19,.int .i64 f0.e.N)] (by kernel_rfl) fun fr => ?_
 refine x_p rfl ?_
 refine v_done ?_
 refine x_k [(0,.pointer (some ⟨bf0,0,none⟩)),(20,.bool (decide (bAnd .i64 (shr .i64 f0.s.Evacuating f0.e.Other) 1 = f0.e.N)))] (by kernel_rfl) fun fr => ?_
 refine r_done ?_
 refine r_ite (fun hb2 => ?_) (fun hb2 => ?_)
 ·replace h := h_t h hb2
  clear hb2
  refine r_bind ?_
  refine r_done ?_
  repeat refine r_done ?_
  repeat refine r_done ?_
  obtain rfl := h_out h
  exact ret_of (RV.tmp RV.nil) (Le.refl _) ⟨rfl,rfl⟩
 ·replace h := h_f h hb2
  clear hb2
  refine r_done ?_
  refine r_bind ?_
  refine r_mix tt_ok hm_ok _ _ [15] (.pure 0 (.pure 1 (.pure 2 (.pure 3 (.va 4 (.pure 5 (.pure 6 (.pure 7 (.pure 8 (.va 9 (.pure 10 (.pure 11 (.pure 12 (.pure 13 (.pure 14 (.eff 15 .nil)))))))))))))))) (le_w [true,true,true]) (le_w [true,true,false]) ?_ ?_
  ·decide +kernel
  refine x_p rfl ?_
  refine v_done ?_
  refine x_p rfl ?_
  refine v_done ?_
  refine x_p rfl ?_
  refine v_done ?_
  refine x_p rfl ?_
  refine v_done ?_
  refine x_va rfl ?_
  refine v_ld 2 tt_ok (v := .int .i64 f0.s.Evacuating) ts_3 rfl (by kernel_rfl) ?_
  refine v_done ?_
  refine x_p rfl ?_
  refine v_done ?_
  refine x_p rfl ?_
  refine v_done ?_
  refine x_p rfl ?_
  refine v_done ?_
  refine x_p rfl ?_
  refine v_done ?_
  refine x_kp [(21,.pointer (some ⟨bf0,0,none⟩)),(25,.int .i64 f0.s.Evacuating),(29,.pointer (some ⟨bf0,22,none⟩))] (by kernel_rfl) fun fr => ?_
  refine x_va rfl ?_
  refine v_ld 2 tt_ok (v := .int .i64 f0.e.Other) ts_3 rfl (by kernel_rfl) ?_
  refine v_done ?_
  refine x_p rfl ?_
  replace h := h_p h; obtain ⟨hc3,h⟩ := h
  refine v_check hc3 ?_
  refine v_num (e' := shl .i64 1 f0.e.Other) rfl ?_
  refine v_done ?_
  refine x_p rfl ?_
  refine v_num (e' := bXor .i64 f0.s.Evacuating (shl .i64 1 f0.e.Other)) rfl ?_
  refine v_done ?_
  refine x_p rfl ?_
  refine v_done ?_
  refine x_p rfl ?_
  refine v_done ?_
  refine x_p rfl ?_
  refine v_done ?_
  refine x_e rfl ?_
  refine r_s 2 tt_ok (en_state_fold ({ f0 with s := { f0.s with Evacuating := bXor .i64 f0.s.Evacuating (shl .i64 1 f0.e.Other) } }) g_f0) (fit1 ts_3 (by kernel_rfl)) rfl (by kernel_rfl) (by kernel_rfl) ?_
  refine r_done ⟨rfl,k_b rfl (le_w [true,true,false]),?_⟩
  refine x_k [] (by kernel_rfl) fun fr => ?_
  refine r_done ?_
  refine r_bind ?_
  refine r_done ?_
  repeat refine r_done ?_
  repeat refine r_done ?_
  obtain rfl := h_out h
  exact ret_of (RV.tmp RV.nil) (Le.refl _) ⟨rfl,rfl⟩
theorem hc_82 {ρ : Addr → Option Value} {L : List Ent} {bf0 : Nat} {g_f0 : gstate_fold} {S_f0 : St} (hS_f0 : Le ⟨ρ,L⟩ S_f0) (f0 : state_fold) (version1 : Int) (h_f0 : Sl_state_fold S_f0 f0 g_f0) (h_f0_t : g_f0.t = fptr g_f0.s_Tenants.1 f0.e.Tenant 12) (h_f0_cell : g_f0.cell = fptr g_f0.s_Cells.1 f0.e.Cell 4) {r : Bool} (h : state_fold_old f0 version1 = some r) : HC Try.prog 82 #[.pointer (some ⟨bf0,0,none⟩),.int .i64 version1] ⟨ρ,.row g_f0.s_Tenants.1 f0.s.Tenants.length g_f0.s_Tenants.2 50 12 (fl eTenantState.en f0.s.Tenants) :: .row g_f0.s_Cells.1 f0.s.Cells.length g_f0.s_Cells.2 67 4 (fl eCellState.en f0.s.Cells) :: .obj bf0 (en_state_fold f0 g_f0) 80 :: L⟩ (fun v S' => v = .bool r ∧ S' = ⟨ρ,.row g_f0.s_Tenants.1 f0.s.Tenants.length g_f0.s_Tenants.2 50 12 (fl eTenantState.en f0.s.Tenants) :: .row g_f0.s_Cells.1 f0.s.Cells.length g_f0.s_Cells.2 67 4 (fl eCellState.en f0.s.Cells) :: .obj bf0 (en_state_fold f0 g_f0) 80 :: L⟩) := by
 replace h := h_in h
 refine HC.intro (N := 34) (args := [_,_]) tt_ok Try.func82 rfl (by decide +kernel) rfl (Nat.le_of_ble_eq_true rfl) ?_
 refine r_bind ?_
 refine r_done ?_
 refine r_bind ?_
 replace h := h_j h; obtain ⟨K6,h,hK7⟩ := h
 refine r_meet (fun fr S => ∃ (x5 : Bool),∃ fr0,K6 x5 = some r ∧ fr = updL [(4,.bool x5)] fr0 ∧ S = ⟨ρ,.row g_f0.s_Tenants.1 f0.s.Tenants.length g_f0.s_Tenants.2 50 12 (fl eTenantState.en f0.s.Tenants) :: .row g_f0.s_Cells.1 f0.s.Cells.length g_f0.s_Cells.2 67 4 (fl eCellState.en f0.s.Cells) :: .obj bf0 (en_state_fold f0 g_f0) 80 :: L⟩) ?_ ?_
 refine r_mix tt_ok hm_ok _ _ [] (.pure 0 (.pure 1 (.pure 2 (.pure 3 (.pure 4 (.pure 5 (.pure 6 (.pure 7 (.vb 8 (.pure 9 (.pure 10 (.pure 11 (.pure 12 (.pure 13 (.pure 14 (.pure 15 (.pure 16 (.vb 17 (.pure 18 (.vb 19 (.pure 20 (.vb 21 (.pure 22 (.pure 23 (.pure 24 (.pure 25 (.vb 26 (.pure 27 (.pure 28 (.pure 29 .nil)))))))))))))))))))))))))))))) (le_w [true,true,true]) (le_w [true,true,true]) ?_ ?_
 ·decide +kernel
 refine x_kp [(0,.pointer (some ⟨bf0,0,none⟩)),(1,.int .i64 version1),(4,.bool false)] (by kernel_rfl) fun fr => ?_
 refine x_p rfl ?_
 refine v_done ?_
 refine x_p rfl ?_
 refine v_done ?_
 refine x_p rfl ?_
 refine v_done ?_
 refine x_p rfl ?_
 refine v_ite (fun (hb1 : (decide (version1 < 0)) = true) => ?_) (fun (hb1 : (decide (version1 < 0)) = false) => ?_)
 ·replace h := h_t h hb1
  clear hb1
  refine v_done ?_
  refine x_p rfl ?_
  refine v_T rfl ?_
  refine v_done ?_
  refine x_p rfl ?_
  refine v_T rfl ?_
  refine v_done ?_
  refine x_p rfl ?_
  refine v_T rfl ?_
  refine v_done ?_
  refine x_p rfl ?_
  refine v_T rfl ?_
  refine v_done ?_
  refine x_vb rfl ?_
  refine v_T rfl ?_
  refine v_done ?_
  refine x_kp [(0,.pointer (some ⟨bf0,0,none⟩)),(1,.int .i64 version1),(4,.bool false),(7,.bool true),(8,undef),(13,undef)] (by kernel_rfl) fun fr => ?_
  refine x_p rfl ?_
  refine v_T rfl ?_
  refine v_done ?_
  refine x_p rfl ?_
  refine v_T rfl ?_
  refine v_done ?_
  refine x_p rfl ?_
  refine v_T rfl ?_
  refine v_done ?_
  refine x_p rfl ?_
  refine v_done ?_
  refine x_p rfl ?_
  refine v_T rfl ?_
  refine v_done ?_
  refine x_p rfl ?_
  refine v_T rfl ?_
  refine v_done ?_
  refine x_p rfl ?_
  refine v_T rfl ?_
  refine v_done ?_
  refine x_p rfl ?_
  refine v_T rfl ?_
  refine v_done ?_
  refine x_vb rfl ?_
  refine v_T rfl ?_
  refine v_done ?_
  refine x_kp [(0,.pointer (some ⟨bf0,0,none⟩)),(1,.int .i64 version1),(4,.bool false),(17,.bool true),(22,undef)] (by kernel_rfl) fun fr => ?_
  refine x_p rfl ?_
  refine v_T rfl ?_
  refine v_done ?_
  refine x_vb rfl ?_
  refine v_T rfl ?_
  refine v_done ?_
  refine x_p rfl ?_
  refine v_T rfl ?_
  refine v_done ?_
  refine x_vb rfl ?_
  refine v_T rfl ?_
  refine v_done ?_
  refine x_p rfl ?_
  refine v_T rfl ?_
  refine v_done ?_
  refine x_p rfl ?_
  refine v_T rfl ?_
  refine v_done ?_
  refine x_p rfl ?_
  refine v_T rfl ?_
  refine v_done ?_
  refine x_p rfl ?_
  refine v_T rfl ?_
  refine v_done ?_
  refine x_vb rfl ?_
  refine v_T rfl ?_
  refine v_done ?_
  refine x_kp [(4,.bool false),(17,.bool true),(26,undef),(31,undef)] (by kernel_rfl) fun fr => ?_
  refine x_p rfl ?_
  refine v_T rfl ?_
  refine v_done ?_
  refine x_p rfl ?_
  refine v_T rfl ?_
  refine v_done ?_
  refine x_p rfl ?_
  refine v_done ?_
  refine x_k [(4,.bool true)] (by kernel_rfl) fun fr => ?_
  exact r_done ⟨true,_,h,fr_eq _ (by kernel_rfl),(by kernel_rfl)⟩
 ·replace h := h_f h hb1
  clear hb1
  refine v_done ?_
  refine x_p rfl ?_
  refine v_F rfl ?_
  refine v_done ?_
  refine x_p rfl ?_
  refine v_F rfl ?_
  refine v_done ?_
  refine x_p rfl ?_
  refine v_F rfl ?_
  refine v_done ?_
  refine x_p rfl ?_
  refine v_F rfl ?_
  refine v_done ?_
  refine x_vb rfl ?_
  refine v_F rfl ?_
  refine v_ld 2 tt_ok (v := .slice g_f0.c_Versions.1 f0.c.Versions.length g_f0.c_Versions.2) ts_28 rfl (by kernel_rfl) ?_
  refine v_done ?_
  refine x_kp [(0,.pointer (some ⟨bf0,0,none⟩)),(1,.int .i64 version1),(4,.bool false),(7,.bool false),(8,.int .i64 version1),(13,.slice g_f0.c_Versions.1 f0.c.Versions.length g_f0.c_Versions.2)] (by kernel_rfl) fun fr => ?_
  refine x_p rfl ?_
  refine v_F rfl ?_
  refine v_done ?_
  refine x_p rfl ?_
  refine v_F rfl ?_
  refine v_done ?_
  refine x_p rfl ?_
  refine v_done ?_
  refine x_p rfl ?_
  refine v_done ?_
  refine x_p rfl ?_
  refine v_ite (fun (hb2 : (decide ((f0.c.Versions.length : Int) ≤ version1)) = true) => ?_) (fun (hb2 : (decide ((f0.c.Versions.length : Int) ≤ version1)) = false) => ?_)
  ·replace h := h_t h hb2
   clear hb2
   refine v_done ?_
   refine x_p rfl ?_
   refine v_T rfl ?_
   refine v_done ?_
   refine x_p rfl ?_
   refine v_T rfl ?_
   refine v_done ?_
   refine x_p rfl ?_
   refine v_T rfl ?_
   refine v_done ?_
   refine x_vb rfl ?_
   refine v_T rfl ?_
   refine v_done ?_
   refine x_kp [(0,.pointer (some ⟨bf0,0,none⟩)),(1,.int .i64 version1),(4,.bool false),(17,.bool true),(22,undef)] (by kernel_rfl) fun fr => ?_
   refine x_p rfl ?_
   refine v_T rfl ?_
   refine v_done ?_
   refine x_vb rfl ?_
   refine v_T rfl ?_
   refine v_done ?_
   refine x_p rfl ?_
   refine v_T rfl ?_
   refine v_done ?_
   refine x_vb rfl ?_
   refine v_T rfl ?_
   refine v_done ?_
   refine x_p rfl ?_
   refine v_T rfl ?_
   refine v_done ?_
   refine x_p rfl ?_
   refine v_T rfl ?_
   refine v_done ?_
   refine x_p rfl ?_
   refine v_T rfl ?_
   refine v_done ?_
   refine x_p rfl ?_
   refine v_T rfl ?_
   refine v_done ?_
   refine x_vb rfl ?_
   refine v_T rfl ?_
   refine v_done ?_
   refine x_kp [(4,.bool false),(17,.bool true),(26,undef),(31,undef)] (by kernel_rfl) fun fr => ?_
   refine x_p rfl ?_
   refine v_T rfl ?_
   refine v_done ?_
   refine x_p rfl ?_
   refine v_T rfl ?_
   refine v_done ?_
   refine x_p rfl ?_
   refine v_done ?_
   refine x_k [(4,.bool true)] (by kernel_rfl) fun fr => ?_
   exact r_done ⟨true,_,h,fr_eq _ (by kernel_rfl),(by kernel_rfl)⟩
  ·replace h := h_f h hb2
   clear hb2
   refine v_done ?_
   refine x_p rfl ?_
   refine v_F rfl ?_
   refine v_done ?_
   refine x_p rfl ?_
   refine v_F rfl ?_
   refine v_done ?_
   refine x_p rfl ?_
   refine v_F rfl ?_
   refine v_done ?_
   refine x_vb rfl ?_
   refine v_F rfl ?_
   refine v_ld 2 tt_ok (v := .slice g_f0.c_Versions.1 f0.c.Versions.length g_f0.c_Versions.2) ts_28 rfl (by kernel_rfl) ?_
   refine v_done ?_
   refine x_kp [(0,.pointer (some ⟨bf0,0,none⟩)),(1,.int .i64 version1),(4,.bool false),(17,.bool false),(22,.slice g_f0.c_Versions.1 f0.c.Versions.length g_f0.c_Versions.2)] (by kernel_rfl) fun fr => ?_
   refine x_p rfl ?_
   refine v_F rfl ?_
   refine v_done ?_
   refine x_vb rfl ?_
   refine v_F rfl ?_
   replace h := h_b h; obtain ⟨x3,hx4,h⟩ := h
   refine v_el hx4 ((h_f0.2.2.2.1).rd.mono ((le_d 3).trans hS_f0)) ?_
   refine v_done ?_
   refine x_p rfl ?_
   refine v_F rfl ?_
   refine v_done ?_
   refine x_vb rfl ?_
   refine v_F rfl ?_
   refine v_lec (E := eVersion) tt_ok (v := .int .i64 x3.High) (idx_get hx4) ((h_f0.2.2.2.1).rd.mono ((le_d 3).trans hS_f0)) ts_3 rfl (pl1 _ _ _) (by kernel_rfl) ?_
   refine v_done ?_
   refine x_p rfl ?_
   refine v_F rfl ?_
   refine v_done ?_
   refine x_p rfl ?_
   refine v_F rfl ?_
   refine v_done ?_
   refine x_p rfl ?_
   refine v_F rfl ?_
   refine v_done ?_
   refine x_p rfl ?_
   refine v_F rfl ?_
   refine v_done ?_
   refine x_vb rfl ?_
   refine v_F rfl ?_
   refine v_ld 2 tt_ok (v := .int .i64 f0.s.High) ts_3 rfl (by kernel_rfl) ?_
   refine v_done ?_
   refine x_kp [(4,.bool false),(17,.bool false),(26,.int .i64 x3.High),(31,.int .i64 f0.s.High)] (by kernel_rfl) fun fr => ?_
   refine x_p rfl ?_
   refine v_F rfl ?_
   refine v_done ?_
   refine x_p rfl ?_
   refine v_done ?_
   refine x_p rfl ?_
   refine v_done ?_
   refine x_k [(4,.bool (decide (x3.High ≤ f0.s.High)))] (by kernel_rfl) fun fr => ?_
   exact r_done ⟨decide (x3.High ≤ f0.s.High),_,h,fr_eq _ (by kernel_rfl),(by kernel_rfl)⟩
 clear h
 rintro fr S ⟨x5,fr,h,rfl,rfl⟩
 replace h := hK7 _ h
 refine r_done ?_
 repeat refine r_done ?_
 repeat refine r_done ?_
 obtain rfl := h_out h
 exact ret_of (RV.tmp RV.nil) (Le.refl _) ⟨rfl,rfl⟩
theorem hc_59 {ρ : Addr → Option Value} {L : List Ent} {bf0 : Nat} {g_f0 : gstate_fold} {S_f0 : St} (hS_f0 : Le ⟨ρ,L⟩ S_f0) (f0 : state_fold) (h_f0 : Sl_state_fold S_f0 f0 g_f0) (h_f0_t : g_f0.t = fptr g_f0.s_Tenants.1 f0.e.Tenant 12) (h_f0_cell : g_f0.cell = fptr g_f0.s_Cells.1 f0.e.Cell 4) {r : (Int × State)} (h : state_fold_expand f0 = some r) : HC Try.prog 59 #[.pointer (some ⟨bf0,0,none⟩)] ⟨ρ,.row g_f0.s_Tenants.1 f0.s.Tenants.length g_f0.s_Tenants.2 50 12 (fl eTenantState.en f0.s.Tenants) :: .row g_f0.s_Cells.1 f0.s.Cells.length g_f0.s_Cells.2 67 4 (fl eCellState.en f0.s.Cells) :: .obj bf0 (en_state_fold f0 g_f0) 80 :: L⟩ (fun v S' => v = .int .i64 r.1 ∧ S' = ⟨ρ,.row g_f0.s_Tenants.1 r.2.Tenants.length g_f0.s_Tenants.2 50 12 (fl eTenantState.en r.2.Tenants) :: .row g_f0.s_Cells.1 r.2.Cells.length g_f0.s_Cells.2 67 4 (fl eCellState.en r.2.Cells) :: .obj bf0 (en_state_fold ({ f0 with s := r.2 }) g_f0) 80 :: L⟩) := by
 replace h := h_in h
 refine HC.intro (N := 54) (args := [_]) tt_ok Try.func59 rfl (by decide +kernel) rfl (Nat.le_of_ble_eq_true rfl) ?_
 refine r_bind ?_
 refine r_done ?_
 refine r_bind ?_
 refine r_bind ?_
 refine r_bind ?_
 refine r_mix tt_ok hm_ok _ _ [] (.pure 0 (.pure 1 (.pure 2 (.pure 3 (.vb 4 (.pure 5 (.pure 6 (.pure 7 (.pure 8 (.vb 9 (.pure 10 (.pure 11 .nil)))))))))))) (le_w [true,true,true]) (le_w [true,true,true]) ?_ ?_
 ·decide +kernel
 refine x_p rfl ?_
 refine v_done ?_
 refine x_p rfl ?_
 refine v_done ?_
 refine x_p rfl ?_
 refine v_done ?_
 refine x_p rfl ?_
 refine v_done ?_
 refine x_vb rfl ?_
 refine v_ld 2 tt_ok (v := .int .i64 f0.s.High) ts_3 rfl (by kernel_rfl) ?_
 refine v_done ?_
 refine x_p rfl ?_
 refine v_done ?_
 refine x_p rfl ?_
 refine v_done ?_
 refine x_p rfl ?_
 refine v_done ?_
 refine x_kp [(0,.pointer (some ⟨bf0,0,none⟩)),(10,.int .i64 f0.s.High),(13,.pointer (some ⟨bf0,10,none⟩))] (by kernel_rfl) fun fr => ?_
 refine x_p rfl ?_
 refine v_done ?_
 refine x_vb rfl ?_
 refine v_ld 2 tt_ok (v := .int .i64 f0.s.Low) ts_3 rfl (by kernel_rfl) ?_
 refine v_done ?_
 refine x_p rfl ?_
 refine v_done ?_
 refine x_p rfl ?_
 refine v_done ?_
 refine x_k [(0,.pointer (some ⟨bf0,0,none⟩)),(5,.bool (decide (f0.s.Low < f0.s.High)))] (by kernel_rfl) fun fr => ?_
 refine r_done ?_
 refine r_ite (fun hb1 => ?_) (fun hb1 => ?_)
 ·replace h := h_t h hb1
  clear hb1
  refine r_bind ?_
  refine r_done ?_
  repeat refine r_done ?_
  repeat refine r_done ?_
  obtain rfl := h_out h
  exact ret_of (RV.tmp RV.nil) (Le.refl _) ⟨rfl,rfl⟩
 ·replace h := h_f h hb1
  clear hb1
  refine r_bind ?_
  refine r_ld 2 tt_ok (v := .int .i64 f0.s.High) ts_3 rfl (by kernel_rfl) ?_
  refine r_done ?_
  refine r_ite (fun hb2 => ?_) (fun hb2 => ?_)
  ·replace h := h_t h hb2
   clear hb2
   refine r_bind ?_
   refine r_done ?_
   repeat refine r_done ?_
   repeat refine r_done ?_
   obtain rfl := h_out h
   exact ret_of (RV.tmp RV.nil) (Le.refl _) ⟨rfl,rfl⟩
  ·replace h := h_f h hb2
   clear hb2
   refine r_done ?_
   refine r_done ?_
   refine r_bind ?_
   replace h := h_k h; obtain ⟨K49,h,hK50⟩ := h
   refine r_meet (fun fr S => ∃ fr0,(state_fold_expand.j1 f0).bind K49 = some r ∧ fr = updL [(0,.pointer (some ⟨bf0,0,none⟩))] fr0 ∧ S = ⟨ρ,.row g_f0.s_Tenants.1 f0.s.Tenants.length g_f0.s_Tenants.2 50 12 (fl eTenantState.en f0.s.Tenants) :: .row g_f0.s_Cells.1 f0.s.Cells.length g_f0.s_Cells.2 67 4 (fl eCellState.en f0.s.Cells) :: .obj bf0 (en_state_fold f0 g_f0) 80 :: L⟩) ?_ ?_
   ·refine r_bind ?_
    refine r_ld 2 tt_ok (v := .slice g_f0.s_Cells.1 f0.s.Cells.length g_f0.s_Cells.2) ts_34 rfl (by kernel_rfl) ?_
    refine r_done ?_
    refine r_bind ?_
    replace h := h_l h; obtain ⟨K45,n46,h,hK47⟩ := h
    refine r_loop (fun n fr S => ∃ (x31 : Int),∃ fr0,(runN (state_fold_expand.b2 f0) n x31).bind K45 = some r ∧ fr = updL [(0,.pointer (some ⟨bf0,0,none⟩)),(28,.slice g_f0.s_Cells.1 f0.s.Cells.length g_f0.s_Cells.2),(29,.int .i64 (f0.s.Cells.length : Int)),(30,.int .i64 x31)] fr0 ∧ S = ⟨ρ,.row g_f0.s_Tenants.1 f0.s.Tenants.length g_f0.s_Tenants.2 50 12 (fl eTenantState.en f0.s.Tenants) :: .row g_f0.s_Cells.1 f0.s.Cells.length g_f0.s_Cells.2 67 4 (fl eCellState.en f0.s.Cells) :: .obj bf0 (en_state_fold f0 g_f0) 80 :: L⟩) n46 ⟨0,_,h,fr_eq _ (by kernel_rfl),(by kernel_rfl)⟩ ?_
    clear h
    rintro n46 fr S ⟨x31,fr,h,rfl,rfl⟩
    replace h := h_r h; obtain ⟨m48,hm48,h⟩ := h
    refine r_bind ?_
    refine r_done ?_
    refine r_bind ?_
    refine r_ite (fun hb32 => ?_) (fun hb32 => ?_)
    ·replace h := h_t h hb32
     clear hb32
     refine r_done ?_
     refine r_bind ?_
     refine r_bind ?_
     refine r_bind ?_
     replace h := h_b h; obtain ⟨x33,hx34,h⟩ := h
     refine r_el hx34 (rd_row 1 rfl) ?_
     refine r_len (E := eCellState) tt_ok (en_CellState x33) (idx_get hx34) (rd_row 1 rfl) ta_67 rfl (pl0 _ _) (by kernel_rfl) (by kernel_rfl) ?_
     refine r_al tt_ok (en_CellState (⟨0,0,0,0⟩ : CellState)) ti_67 (by kernel_rfl) fun bq35 => ?_
     refine r_s 0 tt_ok (en_CellState x33) (fitn ta_67 (by kernel_rfl)) rfl (by kernel_rfl) (by kernel_rfl) ?_
     refine r_done ?_
     refine r_bind ?_
     replace h := h_j h; obtain ⟨K42,h,hK43⟩ := h
     refine r_meet (fun fr S => ∃ (x41 : Bool),∃ fr0,K42 x41 = some r ∧ fr = updL [(0,.pointer (some ⟨bf0,0,none⟩)),(28,.slice g_f0.s_Cells.1 f0.s.Cells.length g_f0.s_Cells.2),(29,.int .i64 (f0.s.Cells.length : Int)),(30,.int .i64 x31),(43,.bool x41)] fr0 ∧ S = ⟨ρ,.row g_f0.s_Tenants.1 f0.s.Tenants.length g_f0.s_Tenants.2 50 12 (fl eTenantState.en f0.s.Tenants) :: .row g_f0.s_Cells.1 f0.s.Cells.length g_f0.s_Cells.2 67 4 (fl eCellState.en f0.s.Cells) :: .obj bf0 (en_state_fold f0 g_f0) 80 :: L⟩) ?_ ?_
     ·refine r_ld 0 tt_ok (v := .int .i64 x33.Running) ts_3 rfl (by kernel_rfl) ?_
      refine r_kp [(0,.pointer (some ⟨bf0,0,none⟩)),(4,.pointer (some ⟨bq35,0,none⟩)),(28,.slice g_f0.s_Cells.1 f0.s.Cells.length g_f0.s_Cells.2),(29,.int .i64 (f0.s.Cells.length : Int)),(30,.int .i64 x31),(34,.pointer (some ⟨bf0,0,none⟩)),(36,.int .i64 x33.Running)] (by kernel_rfl) fun fr => ?_
      refine r_le ((le_mv 3).trans ((le_mv 3).trans (le_mv 3))) ?_
      replace h := h_b h; obtain ⟨x37,hx36,h⟩ := h
      refine r_call (hc_82 (bf0 := bf0) (g_f0 := g_f0) (f0 := f0) (version1 := x33.Running) (hS_f0 := by exact (le_d 1).trans hS_f0) (h_f0 := by exact h_f0) (h_f0_t := by exact h_f0_t) (h_f0_cell := by exact h_f0_cell) (h := hx36)) ?_
      rintro _ _ ⟨rfl,rfl⟩
      refine r_ite (fun (hb38 : x37 = true) => ?_) (fun (hb38 : x37 = false) => ?_)
      ·replace h := h_t h hb38
       clear hb38
       refine r_T rfl ?_
       refine r_T rfl ?_
       refine r_T rfl ?_
       refine r_T rfl ?_
       refine r_le (le_w [true,true,true,false]) ?_
       exact r_done ⟨true,_,h,fr_eq _ (by kernel_rfl),(by kernel_rfl)⟩
      ·replace h := h_f h hb38
       clear hb38
       refine r_F rfl ?_
       refine r_F rfl ?_
       refine r_ld 3 tt_ok (v := .int .i64 x33.Wanted) ts_3 rfl (by kernel_rfl) ?_
       refine r_F rfl ?_
       replace h := h_b h; obtain ⟨x40,hx39,h⟩ := h
       refine r_call (hc_82 (bf0 := bf0) (g_f0 := g_f0) (f0 := f0) (version1 := x33.Wanted) (hS_f0 := by exact (le_d 1).trans hS_f0) (h_f0 := by exact h_f0) (h_f0_t := by exact h_f0_t) (h_f0_cell := by exact h_f0_cell) (h := hx39)) ?_
       rintro _ _ ⟨rfl,rfl⟩
       refine r_le (le_w [true,true,true,false]) ?_
       exact r_done ⟨x40,_,h,fr_eq _ (by kernel_rfl),(by kernel_rfl)⟩
     clear h
     rintro fr S ⟨x41,fr,h,rfl,rfl⟩
     replace h := hK43 _ h
     refine r_done ?_
     refine r_ite (fun hb44 => ?_) (fun hb44 => ?_)
     ·replace h := h_t h hb44
      clear hb44
      refine r_bind ?_
      refine r_done ?_
      repeat refine r_done ?_
      replace h := h_m h
      subst hK47
      subst hK50
      repeat refine r_done ?_
      obtain rfl := h_out h
      exact ret_of (RV.tmp RV.nil) (Le.refl _) ⟨rfl,rfl⟩
     ·replace h := h_f h hb44
      clear hb44
      refine r_done ?_
      refine r_done ?_
      refine r_num (e' := w64 (x31 + 1)) rfl ?_
      exact r_done ⟨m48,lt_s hm48,w64 (x31 + 1),_,h,fr_eq _ (by kernel_rfl),(by kernel_rfl)⟩
    ·replace h := h_f h hb32
     clear hb32
     refine r_done ?_
     refine r_done ?_
     replace h := h_m h
     subst hK47
     exact r_done ⟨_,h,fr_eq _ (by kernel_rfl),(by kernel_rfl)⟩
   clear h
   rintro fr S ⟨fr,h,rfl,rfl⟩
   subst hK50
   refine r_done ?_
   refine r_bind ?_
   refine r_ld 2 tt_ok (v := .int .i64 f0.s.High) ts_3 rfl (by kernel_rfl) ?_
   refine r_num (e' := w64 (f0.s.High + 1)) rfl ?_
   refine r_s 2 tt_ok (en_state_fold ({ f0 with s := { f0.s with High := w64 (f0.s.High + 1) } }) g_f0) (fit1 ts_3 (by kernel_rfl)) rfl (by kernel_rfl) (by kernel_rfl) ?_
   refine r_keep [] (by kernel_rfl) fun fr => ?_
   refine r_done ?_
   refine r_bind ?_
   refine r_done ?_
   repeat refine r_done ?_
   repeat refine r_done ?_
   obtain rfl := h_out h
   exact ret_of (RV.tmp RV.nil) (Le.refl _) ⟨rfl,rfl⟩
end Go.Proofs.YtcdoangbkgaapaaK
