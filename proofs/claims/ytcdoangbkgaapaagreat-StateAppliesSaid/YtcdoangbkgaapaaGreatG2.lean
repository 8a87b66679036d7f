/- The code of 37 functions computes what it is to. No condition. -/
import Derived.Test.YtcdoangbkgaapaaGreatG1
set_option linter.unusedVariables false
set_option maxHeartbeats 4000000
namespace Go.Proofs.YtcdoangbkgaapaaGreatK
open Go Go.RowKit
variable {ρ : Addr → Option Value} {L : List Ent}
theorem hc_78 {bf0 : Nat} {g_f0 : gstate_fold} {S_f0 : St} (hS_f0 : Le ⟨ρ,L⟩ S_f0) (f0 : state_fold) (h_f0 : Sl_state_fold S_f0 f0 g_f0) (h_f0_t : g_f0.t = fptr g_f0.s_Tenants.1 f0.e.Tenant 12) (h_f0_cell : g_f0.cell = fptr g_f0.s_Cells.1 f0.e.Cell 4) {r : (Int × State)} (h : state_fold_shed f0 = some r) : HC Tryz.prog 78 #[pp bf0 0] ⟨ρ,.row g_f0.s_Tenants.1 f0.s.Tenants.length g_f0.s_Tenants.2 58 12 (fl eTenantState.en f0.s.Tenants) :: .row g_f0.s_Cells.1 f0.s.Cells.length g_f0.s_Cells.2 54 4 (fl eCellState.en f0.s.Cells) :: .obj bf0 (en_state_fold f0 g_f0) 85 :: L⟩ (fun v S' => v = ii r.1 ∧ S' = ⟨ρ,.row g_f0.s_Tenants.1 r.2.Tenants.length g_f0.s_Tenants.2 58 12 (fl eTenantState.en r.2.Tenants) :: .row g_f0.s_Cells.1 r.2.Cells.length g_f0.s_Cells.2 54 4 (fl eCellState.en r.2.Cells) :: .obj bf0 (en_state_fold ({ f0 with s := r.2 }) g_f0) 85 :: L⟩) := by
 replace h := h_in h
 refine HC.intro (N := 81) (args := [_]) tt_ok Tryz.func78 rfl (by decide +kernel) rfl (Nat.le_of_ble_eq_true rfl)<|rb<|rd<|rb<|rb<|ld 2 tt_ok (v := ii f0.e.N) ts_3 rfl<|rd ?_
 apply r_iteh h<;>clear h<;>intro h
 ·refine rb<|rb<|rb ?_
  replace h := h_j h; obtain ⟨K6,h,hK7⟩ := h
  refine r_meet (fun fr S => ∃ (x5 : Bool),∃ fr0,K6 x5 = some r ∧ fr = updL [(0,pp bf0 0),(9,.bool x5)] fr0 ∧ S = ⟨ρ,.row g_f0.s_Tenants.1 f0.s.Tenants.length g_f0.s_Tenants.2 58 12 (fl eTenantState.en f0.s.Tenants) :: .row g_f0.s_Cells.1 f0.s.Cells.length g_f0.s_Cells.2 54 4 (fl eCellState.en f0.s.Cells) :: .obj bf0 (en_state_fold f0 g_f0) 85 :: L⟩) ?_ ?_
  ·replace h := h_b h; obtain ⟨x2,hx3,h⟩ := h
   refine r_ld 2 tt_ok (v := .pointer (some ((adr g_f0.s_Tenants.1).add (f0.e.Tenant.toNat * 12)))) ts_82 rfl (by rw [← fptr_at h_f0_t hx3]; kernel_rfl)<|kp [(0,pp bf0 0),(13,.pointer (some ((adr g_f0.s_Tenants.1).add (f0.e.Tenant.toNat * 12))))] fun fr => r_lec (E := eTenantState) tt_ok (v := .bool x2.Placed) (idx_get hx3) (rd_row 0 rfl) ts_4 rfl (pl1 _ _ _) (by kernel_rfl) ?_
   apply r_iteh h<;>clear h<;>intro h
   ·exact r_T rfl<|r_T rfl<|r_T rfl<|kp [(0,pp bf0 0),(18,.bool true),(22,undef)] fun fr => r_T rfl<|r_T rfl<|r_T rfl<|r_T rfl<|rd ⟨true,_,h,fe _,by kernel_rfl⟩
   exact r_F rfl<|r_F rfl<|r_F rfl<|r_ld 2 tt_ok (v := .pointer (some ((adr g_f0.s_Tenants.1).add (f0.e.Tenant.toNat * 12)))) ts_82 rfl (by rw [← fptr_at h_f0_t hx3]; kernel_rfl)<|kp [(0,pp bf0 0),(18,.bool false),(22,.pointer (some ((adr g_f0.s_Tenants.1).add (f0.e.Tenant.toNat * 12))))] fun fr => r_F rfl<|r_F rfl<|r_F rfl<|r_lec (E := eTenantState) tt_ok (v := .bool x2.Shed) (idx_get hx3) (rd_row 0 rfl) ts_4 rfl (pl1 _ _ _) (by kernel_rfl)<|rd ⟨x2.Shed,_,h,fe _,by kernel_rfl⟩
  clear h
  rintro fr S ⟨x5,fr,h,rfl,rfl⟩
  replace h := hK7 _ h
  refine rd ?_
  apply r_iteh h<;>clear h<;>intro h
  ·refine rb<|rd ?_
   repeat refine rd ?_
   repeat refine rd ?_
   obtain rfl := h_out h
   exact ret_of (RV.tmp RV.nil) (Le.refl _) ⟨rfl,rfl⟩
  refine rb<|r_mix tt_ok hm_ok _ _ [] (.pure 0 (.pure 1 (.pure 2 (.vb 3 (.pure 4 (.pure 5 (.pure 6 (.vb 7 (.pure 8 (.pure 9 (.pure 10 (.pure 11 (.vb 12 (.pure 13 (.pure 14 .nil))))))))))))))) (le_w [true,true,true]) (le_w [true,true,true]) ?_ ?_
  ·decide +kernel
  refine x_p rfl<|vd<|x_p rfl<|vd<|x_p rfl<|vd<|x_vb rfl ?_
  replace h := h_b h; obtain ⟨x9,hx10,h⟩ := h
  refine v_ld 2 tt_ok (v := .pointer (some ((adr g_f0.s_Tenants.1).add (f0.e.Tenant.toNat * 12)))) ts_82 rfl (by rw [← fptr_at h_f0_t hx10]; kernel_rfl)<|vd<|x_p rfl<|vd<|x_p rfl<|vd<|x_p rfl<|vd<|x_vb rfl<|v_lec (E := eTenantState) tt_ok (v := ii x9.Window.Until) (idx_get hx10) (rd_row 0 rfl) ts_3 rfl (pl2 _ _ _ _) (by kernel_rfl)<|vd<|x_p rfl<|vd ?_
  refine xp [(0,pp bf0 0),(35,ii x9.Window.Until),(36,pp bf0 0)] fun fr => x_p rfl<|vd<|x_p rfl<|vd<|x_p rfl<|vd<|x_vb rfl<|vl 2 tt_ok (v := ii f0.e.Tick) ts_3 rfl<|vd<|x_p rfl<|vd<|x_p rfl ?_
  refine vd<|xk [(0,pp bf0 0),(27,.bool (decide (f0.e.Tick < x9.Window.Until)))] fun fr => rd ?_
  apply r_iteh h<;>clear h<;>intro h
  ·refine rb<|rd ?_
   repeat refine rd ?_
   repeat refine rd ?_
   obtain rfl := h_out h
   exact ret_of (RV.tmp RV.nil) (Le.refl _) ⟨rfl,rfl⟩
  refine rd<|rd<|rb<|r_mix tt_ok hm_ok _ _ [] (.pure 0 (.pure 1 (.pure 2 (.vb 3 (.pure 4 (.pure 5 (.pure 6 (.vb 7 (.pure 8 (.pure 9 (.eff 10 (.pure 11 (.pure 12 (.eff 13 .nil)))))))))))))) (le_w [false,true,true]) (le_w [false,true,true]) ?_ ?_
  ·decide +kernel
  refine x_p rfl<|vd<|x_p rfl<|vd<|x_p rfl<|vd<|x_vb rfl<|v_ld 1 tt_ok (v := .pointer (some ((adr g_f0.s_Tenants.1).add (f0.e.Tenant.toNat * 12)))) ts_82 rfl (by rw [← fptr_at h_f0_t hx10]; kernel_rfl)<|vd<|x_p rfl<|vd<|x_p rfl<|vd ?_
  refine x_p rfl<|vd<|x_vb rfl<|v_ld 1 tt_ok (v := .pointer (some ((adr g_f0.s_Tenants.1).add (f0.e.Tenant.toNat * 12)))) ts_82 rfl (by rw [← fptr_at h_f0_t hx10]; kernel_rfl)<|vd<|x_p rfl<|vd<|xp [(49,.pointer (some ((adr g_f0.s_Tenants.1).add (f0.e.Tenant.toNat * 12)))),(50,.pointer (some ((adr g_f0.s_Tenants.1).add (f0.e.Tenant.toNat * 12))))] fun fr => x_p rfl<|vd<|x_e rfl<|r_sec 0 (E := eTenantState) tt_ok ({ x9 with Shed := true }) (idx_get hx10) (f1 ts_4) rfl rfl (pl1 _ _ _) (by kernel_rfl) (by kernel_rfl) (List.cons_ne_nil _ _) ?_
  rw [show (en_state_fold f0 g_f0) = (en_state_fold ({ f0 with s := { f0.s with Tenants := (f0.s.Tenants.set f0.e.Tenant.toNat ({ x9 with Shed := true })) } }) g_f0) by simp [en_state_fold]]
  rw [← @List.length_set _ f0.s.Tenants f0.e.Tenant.toNat ({ x9 with Shed := true })]
  refine rd ⟨rfl,k_a (le_w [false,true,true]) (le_w [false,true,true]),?_⟩
  refine x_p rfl<|vd<|x_p rfl<|vd<|x_e rfl<|r_sec 0 (E := eTenantState) tt_ok ({ x9 with Shed := true,Target := (-1) }) (get_set (idx_get hx10) _) (f1 ts_3) rfl rfl (pl1 _ _ _) (by kernel_rfl) (by kernel_rfl) (List.cons_ne_nil _ _) ?_
  rw [show (en_state_fold ({ f0 with s := { f0.s with Tenants := (f0.s.Tenants.set f0.e.Tenant.toNat ({ x9 with Shed := true })) } }) g_f0) = (en_state_fold ({ f0 with s := { f0.s with Tenants := ((f0.s.Tenants.set f0.e.Tenant.toNat ({ x9 with Shed := true })).set f0.e.Tenant.toNat ({ x9 with Shed := true,Target := (-1) })) } }) g_f0) by simp [en_state_fold]]
  rw [← @List.length_set _ (f0.s.Tenants.set f0.e.Tenant.toNat ({ x9 with Shed := true })) f0.e.Tenant.toNat ({ x9 with Shed := true,Target := (-1) })]
  refine rd ⟨rfl,k_a (le_w [false,true,true]) (le_w [false,true,true]),?_⟩
  refine xk [] fun fr => rd<|rb<|rd ?_
  repeat refine rd ?_
  repeat refine rd ?_
  obtain rfl := h_out h
  exact ret_of (RV.tmp RV.nil) (Le.refl _) ⟨rfl,rfl⟩
 refine rd<|rb<|rb<|rb ?_
 replace h := h_b h; obtain ⟨x12,hx13,h⟩ := h
 refine r_ld 2 tt_ok (v := .pointer (some ((adr g_f0.s_Tenants.1).add (f0.e.Tenant.toNat * 12)))) ts_82 rfl (by rw [← fptr_at h_f0_t hx13]; kernel_rfl)<|kp [(0,pp bf0 0),(58,.pointer (some ((adr g_f0.s_Tenants.1).add (f0.e.Tenant.toNat * 12))))] fun fr => r_lec (E := eTenantState) tt_ok (v := .bool x12.Shed) (idx_get hx13) (rd_row 0 rfl) ts_4 rfl (pl1 _ _ _) (by kernel_rfl)<|rd ?_
 apply r_iteh h<;>clear h<;>intro h
 ·refine rb<|rd ?_
  repeat refine rd ?_
  repeat refine rd ?_
  obtain rfl := h_out h
  exact ret_of (RV.tmp RV.nil) (Le.refl _) ⟨rfl,rfl⟩
 refine rb<|r_ld 2 tt_ok (v := .pointer (some ((adr g_f0.s_Tenants.1).add (f0.e.Tenant.toNat * 12)))) ts_82 rfl (by rw [← fptr_at h_f0_t hx13]; kernel_rfl)<|kp [(0,pp bf0 0),(64,pp bf0 0),(68,.pointer (some ((adr g_f0.s_Tenants.1).add (f0.e.Tenant.toNat * 12))))] fun fr => r_lec (E := eTenantState) tt_ok (v := ii x12.Home) (idx_get hx13) (rd_row 0 rfl) ts_3 rfl (pl1 _ _ _) (by kernel_rfl) ?_
 replace h := h_b h; obtain ⟨x16,hx15,h⟩ := h
 refine rc (hc_109 (bf0 := bf0) (g_f0 := g_f0) (f0 := f0) (cell1 := x12.Home) (hS_f0 := by exact (le_d 0).trans hS_f0) (h_f0 :=h_f0) (h_f0_t :=h_f0_t) (h_f0_cell :=h_f0_cell) (h := hx15)) ?_
 rintro _ _ ⟨rfl,rfl⟩
 refine rd ?_
 apply r_iteh h<;>clear h<;>intro h
 ·refine rb<|rd ?_
  repeat refine rd ?_
  repeat refine rd ?_
  obtain rfl := h_out h
  exact ret_of (RV.tmp RV.nil) (Le.refl _) ⟨rfl,rfl⟩
 refine rd<|rd<|rb<|r_ld 2 tt_ok (v := .pointer (some ((adr g_f0.s_Tenants.1).add (f0.e.Tenant.toNat * 12)))) ts_82 rfl (by rw [← fptr_at h_f0_t hx13]; kernel_rfl)<|kp [(0,pp bf0 0),(76,.pointer (some ((adr g_f0.s_Tenants.1).add (f0.e.Tenant.toNat * 12))))] fun fr => r_sec 0 (E := eTenantState) tt_ok ({ x12 with Shed := false }) (idx_get hx13) (f1 ts_4) rfl rfl (pl1 _ _ _) (by kernel_rfl) (by kernel_rfl) (List.cons_ne_nil _ _) ?_
 rw [show (en_state_fold f0 g_f0) = (en_state_fold ({ f0 with s := { f0.s with Tenants := (f0.s.Tenants.set f0.e.Tenant.toNat ({ x12 with Shed := false })) } }) g_f0) by simp [en_state_fold]]
 rw [← @List.length_set _ f0.s.Tenants f0.e.Tenant.toNat ({ x12 with Shed := false })]
 refine rd<|rb ?_
 replace h := h_b h; obtain ⟨x19,hx18,h⟩ := h
 refine rc (hc_107 (bf0 := bf0) (g_f0 := g_f0) (f0 := { f0 with s := { f0.s with Tenants := (f0.s.Tenants.set f0.e.Tenant.toNat ({ x12 with Shed := false })) } }) (hS_f0 := by exact (le_d 0).trans hS_f0) (h_f0 :=h_f0) (h_f0_t :=h_f0_t) (h_f0_cell :=h_f0_cell) (h := hx18)) ?_
 rintro _ _ ⟨rfl,rfl⟩
 refine rd ?_
 repeat refine rd ?_
 repeat refine rd ?_
 obtain rfl := h_out h
 exact ret_of (RV.tmp RV.nil) (Le.refl _) ⟨rfl,rfl⟩
theorem hc_79 {bf0 : Nat} {g_f0 : gstate_fold} {S_f0 : St} (hS_f0 : Le ⟨ρ,L⟩ S_f0) (f0 : state_fold) (h_f0 : Sl_state_fold S_f0 f0 g_f0) (h_f0_t : g_f0.t = fptr g_f0.s_Tenants.1 f0.e.Tenant 12) (h_f0_cell : g_f0.cell = fptr g_f0.s_Cells.1 f0.e.Cell 4) {r : (Int × State)} (h : state_fold_mode f0 = some r) : HC Tryz.prog 79 #[pp bf0 0] ⟨ρ,.row g_f0.s_Tenants.1 f0.s.Tenants.length g_f0.s_Tenants.2 58 12 (fl eTenantState.en f0.s.Tenants) :: .row g_f0.s_Cells.1 f0.s.Cells.length g_f0.s_Cells.2 54 4 (fl eCellState.en f0.s.Cells) :: .obj bf0 (en_state_fold f0 g_f0) 85 :: L⟩ (fun v S' => v = ii r.1 ∧ S' = ⟨ρ,.row g_f0.s_Tenants.1 r.2.Tenants.length g_f0.s_Tenants.2 58 12 (fl eTenantState.en r.2.Tenants) :: .row g_f0.s_Cells.1 r.2.Cells.length g_f0.s_Cells.2 54 4 (fl eCellState.en r.2.Cells) :: .obj bf0 (en_state_fold ({ f0 with s := r.2 }) g_f0) 85 :: L⟩) := by
 replace h := h_in h
 refine HC.intro (N := 38) (args := [_]) tt_ok Tryz.func79 rfl (by decide +kernel) rfl (Nat.le_of_ble_eq_true rfl)<|rb<|rd<|rb<|rb<|r_mix tt_ok hm_ok _ _ [] (.pure 0 (.pure 1 (.pure 2 (.vb 3 (.pure 4 (.pure 5 (.vb 6 (.pure 7 (.pure 8 (.pure 9 (.pure 10 (.vb 11 (.pure 12 .nil))))))))))))) (le_w [true,true,true]) (le_w [true,true,true]) ?_ ?_
 ·decide +kernel
 refine x_p rfl<|vd<|x_p rfl<|vd<|x_p rfl<|vd<|x_vb rfl ?_
 replace h := h_b h; obtain ⟨x1,hx2,h⟩ := h
 refine v_ld 2 tt_ok (v := .pointer (some ((adr g_f0.s_Cells.1).add (f0.e.Cell.toNat * 4)))) ts_83 rfl (by rw [← fptr_at h_f0_cell hx2]; kernel_rfl)<|vd<|x_p rfl<|vd<|x_p rfl<|vd<|x_vb rfl<|v_lec (E := eCellState) tt_ok (v := ii x1.Mode) (idx_get hx2) (rd_row 1 rfl) ts_3 rfl (pl1 _ _ _) (by kernel_rfl)<|vd<|x_p rfl<|vd<|xp [(0,pp bf0 0),(9,ii x1.Mode),(10,pp bf0 0)] fun fr => x_p rfl ?_
 refine vd<|x_p rfl<|vd<|x_p rfl<|vd<|x_vb rfl<|vl 2 tt_ok (v := ii f0.e.N) ts_3 rfl<|vd<|x_p rfl<|vd<|xk [(0,pp bf0 0),(15,.bool (decide (x1.Mode = f0.e.N)))] fun fr => rd ?_
 apply r_iteh h<;>clear h<;>intro h
 ·refine rb<|rd ?_
  repeat refine rd ?_
  repeat refine rd ?_
  obtain rfl := h_out h
  exact ret_of (RV.tmp RV.nil) (Le.refl _) ⟨rfl,rfl⟩
 refine rd<|rb<|r_mix tt_ok hm_ok _ _ [] (.pure 0 (.pure 1 (.pure 2 (.vb 3 (.pure 4 (.pure 5 (.pure 6 (.vb 7 (.pure 8 (.pure 9 (.pure 10 (.pure 11 (.vb 12 (.pure 13 (.pure 14 (.pure 15 (.pure 16 (.vb 17 (.pure 18 (.pure 19 (.eff 20 (.pure 21 (.pure 22 (.eff 23 .nil)))))))))))))))))))))))) (le_w [true,false,true]) (le_w [true,false,true]) ?_ ?_
 ·decide +kernel
 refine x_p rfl<|vd<|x_p rfl<|vd<|x_p rfl<|vd<|x_vb rfl<|v_ld 1 tt_ok (v := .pointer (some ((adr g_f0.s_Cells.1).add (f0.e.Cell.toNat * 4)))) ts_83 rfl (by rw [← fptr_at h_f0_cell hx2]; kernel_rfl)<|vd<|x_p rfl<|vd<|x_p rfl<|vd ?_
 refine x_p rfl<|vd<|x_vb rfl<|v_ld 1 tt_ok (v := .pointer (some ((adr g_f0.s_Cells.1).add (f0.e.Cell.toNat * 4)))) ts_83 rfl (by rw [← fptr_at h_f0_cell hx2]; kernel_rfl)<|vd<|x_p rfl<|vd<|xp [(0,pp bf0 0),(19,.pointer (some ((adr g_f0.s_Cells.1).add (f0.e.Cell.toNat * 4)))),(23,.pointer (some ((adr g_f0.s_Cells.1).add (f0.e.Cell.toNat * 4)))),(24,pp bf0 0)] fun fr => x_p rfl<|vd<|x_p rfl<|vd<|x_p rfl ?_
 refine vd<|x_vb rfl<|vl 1 tt_ok (v := ii f0.e.N) ts_3 rfl<|vd<|x_p rfl<|vd<|x_p rfl<|vd<|x_p rfl<|vd<|x_p rfl<|vd<|x_vb rfl ?_
 refine vl 1 tt_ok (v := ii f0.e.Tick) ts_3 rfl<|vd<|xp [(19,.pointer (some ((adr g_f0.s_Cells.1).add (f0.e.Cell.toNat * 4)))),(23,.pointer (some ((adr g_f0.s_Cells.1).add (f0.e.Cell.toNat * 4)))),(28,ii f0.e.N),(33,ii f0.e.Tick)] fun fr => x_p rfl<|vd<|x_p rfl<|vd<|x_e rfl<|r_sec 1 (E := eCellState) tt_ok ({ x1 with Mode := f0.e.N }) (idx_get hx2) (f1 ts_3) rfl rfl (pl1 _ _ _) (by kernel_rfl) (by kernel_rfl) (List.cons_ne_nil _ _) ?_
 rw [show (en_state_fold f0 g_f0) = (en_state_fold ({ f0 with s := { f0.s with Cells := (f0.s.Cells.set f0.e.Cell.toNat ({ x1 with Mode := f0.e.N })) } }) g_f0) by simp [en_state_fold]]
 rw [← @List.length_set _ f0.s.Cells f0.e.Cell.toNat ({ x1 with Mode := f0.e.N })]
 refine rd ⟨rfl,k_a (le_w [true,false,true]) (le_w [true,false,true]),?_⟩
 refine x_p rfl<|vd<|x_p rfl<|vd<|x_e rfl<|r_sec 1 (E := eCellState) tt_ok ({ x1 with Mode := f0.e.N,Since := f0.e.Tick }) (get_set (idx_get hx2) _) (f1 ts_3) rfl rfl (pl1 _ _ _) (by kernel_rfl) (by kernel_rfl) (List.cons_ne_nil _ _) ?_
 rw [show (en_state_fold ({ f0 with s := { f0.s with Cells := (f0.s.Cells.set f0.e.Cell.toNat ({ x1 with Mode := f0.e.N })) } }) g_f0) = (en_state_fold ({ f0 with s := { f0.s with Cells := ((f0.s.Cells.set f0.e.Cell.toNat ({ x1 with Mode := f0.e.N })).set f0.e.Cell.toNat ({ x1 with Mode := f0.e.N,Since := f0.e.Tick })) } }) g_f0) by simp [en_state_fold]]
 rw [← @List.length_set _ (f0.s.Cells.set f0.e.Cell.toNat ({ x1 with Mode := f0.e.N })) f0.e.Cell.toNat ({ x1 with Mode := f0.e.N,Since := f0.e.Tick })]
 refine rd ⟨rfl,k_a (le_w [true,false,true]) (le_w [true,false,true]),?_⟩
 refine xk [] fun fr => rd<|rb<|rd ?_
 repeat refine rd ?_
 repeat refine rd ?_
 obtain rfl := h_out h
 exact ret_of (RV.tmp RV.nil) (Le.refl _) ⟨rfl,rfl⟩
theorem hc_97 {g_s0 : gState} {S_s0 : St} (hS_s0 : Le ⟨ρ,L⟩ S_s0) (s0 : State) (version1 : Int) (h_s0 : Sl_State S_s0 s0 g_s0) {r : Bool} (h : state_proven s0 version1 = some r) : HC Tryz.prog 97 #[.agg (en_State s0 g_s0).toArray,ii version1] ⟨ρ,L⟩ (fun v S' => v = .bool r ∧ S' = ⟨ρ,L⟩) := by
 replace h := h_in h
 refine HC.intro (N := 19) (args := [_,_]) tt_ok Tryz.func97 rfl (by decide +kernel) rfl (Nat.le_of_ble_eq_true rfl)<|rb<|r_bx (en_State s0 g_s0) (by kernel_rfl) fun bq1 => rd<|rb ?_
 replace h := h_j h; obtain ⟨K6,h,hK7⟩ := h
 refine r_meet (fun fr S => ∃ (x5 : Bool),∃ fr0,K6 x5 = some r ∧ fr = updL [(4,.bool x5)] fr0 ∧ S = ⟨ρ,L⟩) ?_ ?_
 ·apply r_iteh h<;>clear h<;>intro h
  ·refine kp [(1,ii version1),(2,pp bq1 0),(4,.bool false),(7,.bool true),(8,ii version1)] fun fr => r_T rfl ?_
   apply r_iteh h<;>clear h<;>intro h
   ·refine r_T rfl<|ld 0 tt_ok (v := ii s0.Proven) ts_3 rfl<|r_T rfl<|r_T rfl ?_
    replace h := h_p h; obtain ⟨hc4,h⟩ := h
    exact r_check hc4<|r_num (e' := shr .i64 s0.Proven version1) rfl<|r_T rfl<|r_num (e' := bAnd .i64 (shr .i64 s0.Proven version1) 1) rfl<|r_T rfl<|kp [(4,.bool false),(11,.bool true),(17,.bool (decide (bAnd .i64 (shr .i64 s0.Proven version1) 1 = 1)))] fun fr => r_le (le_w [false])<|rd ⟨decide (bAnd .i64 (shr .i64 s0.Proven version1) 1 = 1),_,h,fe _,by kernel_rfl⟩
   exact r_F rfl<|r_F rfl<|r_F rfl<|r_F rfl<|r_F rfl<|kp [(4,.bool false),(11,.bool false),(17,undef)] fun fr => r_F rfl<|r_le (le_w [false])<|rd ⟨false,_,h,fe _,by kernel_rfl⟩
  exact kp [(1,ii version1),(2,pp bq1 0),(4,.bool false),(7,.bool false),(8,undef)] fun fr => r_F rfl<|r_F rfl<|r_F rfl<|r_F rfl<|r_F rfl<|r_F rfl<|r_F rfl<|r_F rfl<|kp [(4,.bool false),(11,.bool false),(17,undef)] fun fr => r_F rfl<|r_le (le_w [false])<|rd ⟨false,_,h,fe _,by kernel_rfl⟩
 clear h
 rintro fr S ⟨x5,fr,h,rfl,rfl⟩
 replace h := hK7 _ h
 refine rd ?_
 repeat refine rd ?_
 repeat refine rd ?_
 obtain rfl := h_out h
 exact ret_of (RV.tmp RV.nil) (Le.refl _) ⟨rfl,rfl⟩
theorem hc_110 {bf0 : Nat} {g_f0 : gstate_fold} {S_f0 : St} (hS_f0 : Le ⟨ρ,L⟩ S_f0) (f0 : state_fold) (version1 : Int) (h_f0 : Sl_state_fold S_f0 f0 g_f0) (h_f0_t : g_f0.t = fptr g_f0.s_Tenants.1 f0.e.Tenant 12) (h_f0_cell : g_f0.cell = fptr g_f0.s_Cells.1 f0.e.Cell 4) {r : Bool} (h : state_fold_frozen f0 version1 = some r) : HC Tryz.prog 110 #[pp bf0 0,ii version1] ⟨ρ,.row g_f0.s_Tenants.1 f0.s.Tenants.length g_f0.s_Tenants.2 58 12 (fl eTenantState.en f0.s.Tenants) :: .row g_f0.s_Cells.1 f0.s.Cells.length g_f0.s_Cells.2 54 4 (fl eCellState.en f0.s.Cells) :: .obj bf0 (en_state_fold f0 g_f0) 85 :: L⟩ (fun v S' => v = .bool r ∧ S' = ⟨ρ,.row g_f0.s_Tenants.1 f0.s.Tenants.length g_f0.s_Tenants.2 58 12 (fl eTenantState.en f0.s.Tenants) :: .row g_f0.s_Cells.1 f0.s.Cells.length g_f0.s_Cells.2 54 4 (fl eCellState.en f0.s.Cells) :: .obj bf0 (en_state_fold f0 g_f0) 85 :: L⟩) := by
 replace h := h_in h
 refine HC.intro (N := 20) (args := [_,_]) tt_ok Tryz.func110 rfl (by decide +kernel) rfl (Nat.le_of_ble_eq_true rfl)<|rb<|rd<|rb ?_
 replace h := h_j h; obtain ⟨K5,h,hK6⟩ := h
 refine r_meet (fun fr S => ∃ (x4 : Bool),∃ fr0,K5 x4 = some r ∧ fr = updL [(4,.bool x4)] fr0 ∧ S = ⟨ρ,.row g_f0.s_Tenants.1 f0.s.Tenants.length g_f0.s_Tenants.2 58 12 (fl eTenantState.en f0.s.Tenants) :: .row g_f0.s_Cells.1 f0.s.Cells.length g_f0.s_Cells.2 54 4 (fl eCellState.en f0.s.Cells) :: .obj bf0 (en_state_fold f0 g_f0) 85 :: L⟩) ?_ ?_
 ·refine ln 2 tt_ok (en_State f0.s (⟨(g_f0.s_Tenants.1,g_f0.s_Tenants.2),(g_f0.s_Cells.1,g_f0.s_Cells.2)⟩)) ta_38 rfl<|kp [(0,pp bf0 0),(1,ii version1),(4,.bool false),(8,.agg (en_State f0.s (⟨(g_f0.s_Tenants.1,g_f0.s_Tenants.2),(g_f0.s_Cells.1,g_f0.s_Cells.2)⟩)).toArray)] fun fr => ?_
  replace h := h_b h; obtain ⟨x2,hx1,h⟩ := h
  refine rc (hc_97 (g_s0 := ⟨(g_f0.s_Tenants.1,g_f0.s_Tenants.2),(g_f0.s_Cells.1,g_f0.s_Cells.2)⟩) (s0 := f0.s) (version1 := version1) (hS_s0 := by exact Le.refl _) (h_s0 := by exact ⟨sl_row 0 rfl,sl_row 1 rfl⟩) (h := hx1)) ?_
  rintro _ _ ⟨rfl,rfl⟩
  apply r_iteh h<;>clear h<;>intro h
  ·exact r_T rfl<|r_T rfl<|r_T rfl<|r_T rfl<|ld 2 tt_ok (v := ii f0.s.Evacuating) ts_3 rfl<|kp [(4,.bool false),(12,.bool true),(17,ii f0.s.Evacuating)] fun fr => r_T rfl<|rd ⟨!decide (f0.s.Evacuating = 0),_,h,fe _,by kernel_rfl⟩
  exact r_F rfl<|r_F rfl<|r_F rfl<|r_F rfl<|kp [(4,.bool false),(12,.bool false),(17,undef)] fun fr => r_F rfl<|r_F rfl<|rd ⟨false,_,h,fe _,by kernel_rfl⟩
 clear h
 rintro fr S ⟨x4,fr,h,rfl,rfl⟩
 replace h := hK6 _ h
 refine rd ?_
 repeat refine rd ?_
 repeat refine rd ?_
 obtain rfl := h_out h
 exact ret_of (RV.tmp RV.nil) (Le.refl _) ⟨rfl,rfl⟩
theorem hc_63 {g_s0 : gState} {S_s0 : St} (hS_s0 : Le ⟨ρ,L⟩ S_s0) (s0 : State) (cell1 : Int) (h_s0 : Sl_State S_s0 s0 g_s0) {r : Bool} (h : state_unproven s0 cell1 = some r) : HC Tryz.prog 63 #[.agg (en_State s0 g_s0).toArray,ii cell1] ⟨ρ,L⟩ (fun v S' => v = .bool r ∧ S' = ⟨ρ,L⟩) := by
 replace h := h_in h
 refine HC.intro (N := 23) (args := [_,_]) tt_ok Tryz.func63 rfl (by decide +kernel) rfl (Nat.le_of_ble_eq_true rfl)<|rb<|r_bx (en_State s0 g_s0) (by kernel_rfl) fun bq1 => rd<|rb<|ld 0 tt_ok (v := .slice g_s0.Cells.1 s0.Cells.length g_s0.Cells.2) ts_36 rfl ?_
 replace h := h_b h; obtain ⟨x2,hx3,h⟩ := h
 refine r_el hx3 ((h_s0.2).rd.mono ((le_d 1).trans hS_s0))<|r_len (E := eCellState) tt_ok (en_CellState x2) (idx_get hx3) ((h_s0.2).rd.mono ((le_d 1).trans hS_s0)) ta_54 rfl (pl0 _ _) (by kernel_rfl) (by kernel_rfl)<|r_al tt_ok (en_CellState (⟨0,0,0,0⟩ : CellState)) ti_54 (by kernel_rfl) fun bq4 => st 0 tt_ok (en_CellState x2) (fn ta_54) rfl<|kr [(2,pp bq1 0),(5,pp bq4 0)] fun fr => rd<|rb ?_
 replace h := h_j h; obtain ⟨K11,h,hK12⟩ := h
 refine r_meet (fun fr S => ∃ (x10 : Bool),∃ fr0,K11 x10 = some r ∧ fr = updL [(4,.bool x10)] fr0 ∧ S = ⟨ρ,L⟩) ?_ ?_
 ·refine ln 1 tt_ok (en_State s0 g_s0) ta_38 rfl<|ld 0 tt_ok (v := ii x2.Running) ts_3 rfl ?_
  replace h := h_b h; obtain ⟨x6,hx5,h⟩ := h
  refine rc (hc_97 (g_s0 := g_s0) (s0 := s0) (version1 := x2.Running) (hS_s0 := by exact (le_d 2).trans hS_s0) (h_s0 :=h_s0) (h := hx5)) ?_
  rintro _ _ ⟨rfl,rfl⟩
  apply r_iteh h<;>clear h<;>intro h
  ·exact kp [(5,pp bq4 0),(16,.bool true),(17,undef)] fun fr => r_T rfl<|r_T rfl<|r_T rfl<|r_T rfl<|r_T rfl<|r_le (le_w [false,false])<|rd ⟨true,_,h,fe _,by kernel_rfl⟩
  refine ln 1 tt_ok (en_State s0 g_s0) ta_38 rfl<|kp [(5,pp bq4 0),(16,.bool false),(17,.agg (en_State s0 g_s0).toArray)] fun fr => r_F rfl<|r_F rfl<|ld 0 tt_ok (v := ii x2.Wanted) ts_3 rfl<|r_F rfl ?_
  replace h := h_b h; obtain ⟨x9,hx8,h⟩ := h
  refine rc (hc_97 (g_s0 := g_s0) (s0 := s0) (version1 := x2.Wanted) (hS_s0 := by exact (le_d 2).trans hS_s0) (h_s0 :=h_s0) (h := hx8)) ?_
  rintro _ _ ⟨rfl,rfl⟩
  exact r_F rfl<|r_le (le_w [false,false])<|rd ⟨!x9,_,h,fe _,by kernel_rfl⟩
 clear h
 rintro fr S ⟨x10,fr,h,rfl,rfl⟩
 replace h := hK12 _ h
 refine rd ?_
 repeat refine rd ?_
 repeat refine rd ?_
 obtain rfl := h_out h
 exact ret_of (RV.tmp RV.nil) (Le.refl _) ⟨rfl,rfl⟩
theorem hc_29 {g_s0 : gState} {S_s0 : St} (hS_s0 : Le ⟨ρ,L⟩ S_s0) (s0 : State) (h_s0 : Sl_State S_s0 s0 g_s0) {r : (List Int)} (h : state_Unproven s0 = some r) : HC Tryz.prog 29 #[.agg (en_State s0 g_s0).toArray] ⟨ρ,L⟩ (fun v S' => ∃ (Aq1_0 : Option Addr),∃ (cq1_0 : Nat),v = .slice Aq1_0 r.length cq1_0 ∧ S' = ⟨ρ,.row Aq1_0 r.length cq1_0 3 1 (fl eI64.en r) :: L⟩) := by
 replace h := h_in h
 refine HC.intro (N := 20) (args := [_]) tt_ok Tryz.func29 rfl (by decide +kernel) rfl (Nat.le_of_ble_eq_true rfl)<|rb<|r_bx (en_State s0 g_s0) (by kernel_rfl) fun bq1 => rd<|rb<|rd<|rb<|rb<|ld 0 tt_ok (v := .slice g_s0.Cells.1 s0.Cells.length g_s0.Cells.2) ts_36 rfl<|rd<|rb ?_
 replace h := h_l h; obtain ⟨K48,n49,h,hK50⟩ := h
 refine r_le (le_nil 3 1)<|r_loop (fun n fr S => ∃ (xs33 : (List Int)),∃ (x37 : Int),∃ (A34 : Option Addr),∃ (c35 : Nat),∃ fr0,(runN (state_Unproven.b1 s0) n (xs33,x37)).bind K48 = some r ∧ fr = updL [(1,pp bq1 0),(3,.slice A34 xs33.length c35),(7,ii (s0.Cells.length : Int)),(8,ii x37)] fr0 ∧ S = ⟨ρ,.row A34 xs33.length c35 3 1 (fl eI64.en xs33) :: .obj bq1 (en_State s0 g_s0) 38 :: L⟩) n49 ⟨[],0,none,0,_,h,fe _,by kernel_rfl⟩ ?_
 clear h
 rintro n49 fr S ⟨xs33,x37,A34,c35,fr,h,rfl,rfl⟩
 replace h := h_r h; obtain ⟨m51,hm51,h⟩ := h
 refine rb<|rd<|rb ?_
 apply r_iteh h<;>clear h<;>intro h
 ·refine rd<|rb<|rb<|rb<|rd<|rb<|ln 1 tt_ok (en_State s0 g_s0) ta_38 rfl ?_
  replace h := h_b h; obtain ⟨x40,hx39,h⟩ := h
  refine rc (hc_63 (g_s0 := g_s0) (s0 := s0) (cell1 := x37) (hS_s0 := by exact (le_d 2).trans hS_s0) (h_s0 :=h_s0) (h := hx39)) ?_
  rintro _ _ ⟨rfl,rfl⟩
  refine rd ?_
  apply r_iteh h<;>clear h<;>intro h
  ·refine r_bs tt_ok (fl eI64.en [x37]) te_22 ti_3 (by kernel_rfl) (by kernel_rfl) (by kernel_rfl) (by kernel_rfl) fun bq42 => kp [(1,pp bq1 0),(3,.slice A34 xs33.length c35),(7,ii (s0.Cells.length : Int)),(8,ii x37),(14,.slice A34 xs33.length c35),(16,.slice (some ⟨bq42,0,none⟩) [x37].length 1)] fun fr => ?_
   replace h := h_b h; obtain ⟨xs43,ha44,h⟩ := h
   refine r_app 1 (E := eI64) (xs := xs33) (ys := [x37]) tt_ok ha44 (rd_row 0 rfl) rfl te_22 ti_3 rfl (by kernel_rfl) rfl (fun A45 c46 => ?_)
   exact rd<|rd<|r_num (e' := w64 (x37 + 1)) rfl<|r_le (le_w [false,true,true])<|rd ⟨m51,lt_s hm51,xs43,w64 (x37 + 1),A45,c46,_,h,fe _,by kernel_rfl⟩
  exact rd<|rd<|r_num (e' := w64 (x37 + 1)) rfl<|rd ⟨m51,lt_s hm51,xs33,w64 (x37 + 1),A34,c35,_,h,fe _,by kernel_rfl⟩
 refine rd<|rd ?_
 replace h := h_m h
 subst hK50
 refine rd<|rb<|rd ?_
 repeat refine rd ?_
 repeat refine rd ?_
 obtain rfl := h_out h
 exact ret_of (RV.tmp RV.nil) (le_w [true,false]) ⟨A34,c35,rfl,rfl⟩
theorem hc_111 {bf0 : Nat} {g_f0 : gstate_fold} {S_f0 : St} (hS_f0 : Le ⟨ρ,L⟩ S_f0) (f0 : state_fold) (version1 : Int) (h_f0 : Sl_state_fold S_f0 f0 g_f0) (h_f0_t : g_f0.t = fptr g_f0.s_Tenants.1 f0.e.Tenant 12) (h_f0_cell : g_f0.cell = fptr g_f0.s_Cells.1 f0.e.Cell 4) {r : Bool} (h : state_fold_blasted f0 version1 = some r) : HC Tryz.prog 111 #[pp bf0 0,ii version1] ⟨ρ,.row g_f0.s_Tenants.1 f0.s.Tenants.length g_f0.s_Tenants.2 58 12 (fl eTenantState.en f0.s.Tenants) :: .row g_f0.s_Cells.1 f0.s.Cells.length g_f0.s_Cells.2 54 4 (fl eCellState.en f0.s.Cells) :: .obj bf0 (en_state_fold f0 g_f0) 85 :: L⟩ (fun v S' => v = .bool r ∧ S' = ⟨ρ,.row g_f0.s_Tenants.1 f0.s.Tenants.length g_f0.s_Tenants.2 58 12 (fl eTenantState.en f0.s.Tenants) :: .row g_f0.s_Cells.1 f0.s.Cells.length g_f0.s_Cells.2 54 4 (fl eCellState.en f0.s.Cells) :: .obj bf0 (en_state_fold f0 g_f0) 85 :: L⟩) := by
 replace h := h_in h
 refine HC.intro (N := 30) (args := [_,_]) tt_ok Tryz.func111 rfl (by decide +kernel) rfl (Nat.le_of_ble_eq_true rfl)<|rb<|r_bx ([pp bf0 0]) (by kernel_rfl) fun bq1 => rd<|rb<|ld 0 tt_ok (v := pp bf0 0) ts_81 rfl<|ln 3 tt_ok (en_State f0.s (⟨(g_f0.s_Tenants.1,g_f0.s_Tenants.2),(g_f0.s_Cells.1,g_f0.s_Cells.2)⟩)) ta_38 rfl ?_
 replace h := h_b h; obtain ⟨xs3,hx2,h⟩ := h
 refine rc (hc_29 (g_s0 := ⟨(g_f0.s_Tenants.1,g_f0.s_Tenants.2),(g_f0.s_Cells.1,g_f0.s_Cells.2)⟩) (s0 := f0.s) (hS_s0 := by exact Le.refl _) (h_s0 := by exact ⟨sl_row 1 rfl,sl_row 2 rfl⟩) (h := hx2)) ?_
 rintro _ _ ⟨A4,c5,rfl,rfl⟩
 replace h := h_j h; obtain ⟨K85,h,hK86⟩ := h
 refine rc (Post := fun v S => ∃ (xs80 : (List Int)),∃ (xs83 : (List Int)),∃ (A81 : Option Addr),∃ (c82 : Nat),K85 (xs80,xs83) = some r ∧ v = .slice A81 xs80.length c82 ∧ S = ⟨ρ,.row A4 xs83.length c5 3 1 (fl eI64.en xs83) :: .obj bq1 ([pp bf0 0]) 81 :: .row g_f0.s_Tenants.1 f0.s.Tenants.length g_f0.s_Tenants.2 58 12 (fl eTenantState.en f0.s.Tenants) :: .row g_f0.s_Cells.1 f0.s.Cells.length g_f0.s_Cells.2 54 4 (fl eCellState.en f0.s.Cells) :: .obj bf0 (en_state_fold f0 g_f0) 85 :: L⟩) ?_ ?_
 ·refine HC.intro (N := 42) (args := [_,_]) tt_ok Tryz.func122 rfl (by decide +kernel) rfl (Nat.le_of_ble_eq_true rfl)<|rb<|rd<|rb ?_
  replace h := h_j h; obtain ⟨K27,h,hK28⟩ := h
  refine rc (Post := fun v S => ∃ (x26 : Int),K27 x26 = some r ∧ v = ii x26 ∧ S = ⟨ρ,.row A4 xs3.length c5 3 1 (fl eI64.en xs3) :: .obj bq1 ([pp bf0 0]) 81 :: .row g_f0.s_Tenants.1 f0.s.Tenants.length g_f0.s_Tenants.2 58 12 (fl eTenantState.en f0.s.Tenants) :: .row g_f0.s_Cells.1 f0.s.Cells.length g_f0.s_Cells.2 54 4 (fl eCellState.en f0.s.Cells) :: .obj bf0 (en_state_fold f0 g_f0) 85 :: L⟩) ?_ ?_
  ·refine HC.intro (N := 19) (args := [_,_]) tt_ok Tryz.func132 rfl (by decide +kernel) rfl (Nat.le_of_ble_eq_true rfl)<|rb<|rd<|rb<|rb<|rd<|rb ?_
   replace h := h_l h; obtain ⟨K22,n23,h,hK24⟩ := h
   refine r_loop (fun n fr S => ∃ (x17 : Int),∃ fr0,(runN (state_fold_blasted.b1 xs3 f0) n x17).bind K22 = some r ∧ fr = updL [(0,.slice A4 xs3.length c5),(1,.func (.func 123) #[] #[pp bq1 0]),(7,ii (xs3.length : Int)),(8,ii x17)] fr0 ∧ S = ⟨ρ,.row A4 xs3.length c5 3 1 (fl eI64.en xs3) :: .obj bq1 ([pp bf0 0]) 81 :: .row g_f0.s_Tenants.1 f0.s.Tenants.length g_f0.s_Tenants.2 58 12 (fl eTenantState.en f0.s.Tenants) :: .row g_f0.s_Cells.1 f0.s.Cells.length g_f0.s_Cells.2 54 4 (fl eCellState.en f0.s.Cells) :: .obj bf0 (en_state_fold f0 g_f0) 85 :: L⟩) n23 ⟨0,_,h,fe _,by kernel_rfl⟩ ?_
   clear h
   rintro n23 fr S ⟨x17,fr,h,rfl,rfl⟩
   replace h := h_r h; obtain ⟨m25,hm25,h⟩ := h
   refine rb<|rd<|rb ?_
   apply r_iteh h<;>clear h<;>intro h
   ·refine rd<|rb<|rb<|rb<|rd<|rb ?_
    replace h := h_b h; obtain ⟨x19,hx20,h⟩ := h
    refine r_el hx20 (rd_row 0 rfl)<|r_lec (E := eI64) tt_ok (v := ii x19) (idx_get hx20) (rd_row 0 rfl) ts_3 rfl (pl0 _ _) (by kernel_rfl)<|r_inl (HC.intro (N := 11) (args := [_,_]) tt_ok Tryz.func123 rfl (by decide +kernel) rfl (Nat.le_of_ble_eq_true rfl) ?_)
    refine rb<|rd<|rb<|ld 1 tt_ok (v := pp bf0 0) ts_81 rfl<|ld 4 tt_ok (v := ii f0.e.Cell) ts_3 rfl<|kr [(3,.bool (decide (x19 = f0.e.Cell)))] fun fr => rd ?_
    repeat refine rd ?_
    repeat refine rd ?_
    refine ret_of (RV.tmp RV.nil) (Le.refl _)<|kr [(0,.slice A4 xs3.length c5),(1,.func (.func 123) #[] #[pp bq1 0]),(5,ii x17),(7,ii (xs3.length : Int)),(8,ii x17),(16,.bool (decide (x19 = f0.e.Cell)))] fun fr => rd ?_
    apply r_iteh h<;>clear h<;>intro h
    ·refine rb<|rd ?_
     repeat refine rd ?_
     replace h := h_m h
     subst hK24
     repeat refine rd ?_
     exact ret_of (RV.tmp RV.nil) (Le.refl _) ⟨x17,h,rfl,rfl⟩
    exact rd<|rd<|r_num (e' := w64 (x17 + 1)) rfl<|rd ⟨m25,lt_s hm25,w64 (x17 + 1),_,h,fe _,by kernel_rfl⟩
   refine rd<|rd ?_
   replace h := h_m h
   subst hK24
   refine rd<|rb<|rd ?_
   repeat refine rd ?_
   repeat refine rd ?_
   exact ret_of (RV.tmp RV.nil) (Le.refl _) ⟨(-1),h,rfl,rfl⟩
  clear h
  rintro v S ⟨x26,h,rfl,rfl⟩
  replace h := hK28 _ h
  refine rd<|rb<|rb<|rd ?_
  apply r_iteh h<;>clear h<;>intro h
  ·refine rb<|kr [(4,.slice A4 xs3.length c5)] fun fr => rd ?_
   repeat refine rd ?_
   repeat refine rd ?_
   exact ret_of (RV.tmp RV.nil) (Le.refl _) ⟨xs3,xs3,A4,c5,h,rfl,rfl⟩
  refine rd<|rb ?_
  replace h := h_j h; obtain ⟨K67,h,hK68⟩ := h
  refine r_meet (fun fr S => ∃ (xs64 : (List Int)),∃ (x66 : Int),∃ fr0,K67 (xs64,x66) = some r ∧ fr = updL [(0,.slice A4 xs64.length c5),(5,ii x66)] fr0 ∧ S = ⟨ρ,.row A4 xs64.length c5 3 1 (fl eI64.en xs64) :: .obj bq1 ([pp bf0 0]) 81 :: .row g_f0.s_Tenants.1 f0.s.Tenants.length g_f0.s_Tenants.2 58 12 (fl eTenantState.en f0.s.Tenants) :: .row g_f0.s_Cells.1 f0.s.Cells.length g_f0.s_Cells.2 54 4 (fl eCellState.en f0.s.Cells) :: .obj bf0 (en_state_fold f0 g_f0) 85 :: L⟩) ?_ ?_
  ·refine rb<|r_num (e' := w64 (x26 + 1)) rfl<|rd<|rb ?_
   replace h := h_l h; obtain ⟨K60,n61,h,hK62⟩ := h
   refine r_loop (fun n fr S => ∃ (xs50 : (List Int)),∃ (x52 : Int),∃ (x53 : Int),∃ fr0,(runN (state_fold_blasted.b3 f0) n (xs50,x52,x53)).bind K60 = some r ∧ fr = updL [(0,.slice A4 xs50.length c5),(1,.func (.func 123) #[] #[pp bq1 0]),(5,ii x52),(6,ii x53)] fr0 ∧ S = ⟨ρ,.row A4 xs50.length c5 3 1 (fl eI64.en xs50) :: .obj bq1 ([pp bf0 0]) 81 :: .row g_f0.s_Tenants.1 f0.s.Tenants.length g_f0.s_Tenants.2 58 12 (fl eTenantState.en f0.s.Tenants) :: .row g_f0.s_Cells.1 f0.s.Cells.length g_f0.s_Cells.2 54 4 (fl eCellState.en f0.s.Cells) :: .obj bf0 (en_state_fold f0 g_f0) 85 :: L⟩) n61 ⟨xs3,x26,w64 (x26 + 1),_,h,fe _,by kernel_rfl⟩ ?_
   clear h
   rintro n61 fr S ⟨xs50,x52,x53,fr,h,rfl,rfl⟩
   replace h := h_r h; obtain ⟨m63,hm63,h⟩ := h
   refine rb<|rb<|rd ?_
   apply r_iteh h<;>clear h<;>intro h
   ·refine rd<|rb<|rb<|rb ?_
    replace h := h_b h; obtain ⟨x55,hx56,h⟩ := h
    refine r_el hx56 (rd_row 0 rfl)<|r_lec (E := eI64) tt_ok (v := ii x55) (idx_get hx56) (rd_row 0 rfl) ts_3 rfl (pl0 _ _) (by kernel_rfl)<|kr [(0,.slice A4 xs50.length c5),(1,.func (.func 123) #[] #[pp bq1 0]),(5,ii x52),(6,ii x53),(7,ii x55)] fun fr => rd<|rb<|r_inl (HC.intro (N := 11) (args := [_,_]) tt_ok Tryz.func123 rfl (by decide +kernel) rfl (Nat.le_of_ble_eq_true rfl) ?_)
    refine rb<|rd<|rb<|ld 1 tt_ok (v := pp bf0 0) ts_81 rfl<|ld 4 tt_ok (v := ii f0.e.Cell) ts_3 rfl<|kr [(3,.bool (decide (x55 = f0.e.Cell)))] fun fr => rd ?_
    repeat refine rd ?_
    repeat refine rd ?_
    refine ret_of (RV.tmp RV.nil) (Le.refl _)<|rd ?_
    apply r_iteh h<;>clear h<;>intro h
    ·refine rb ?_
     replace h := h_b h; obtain ⟨x58,hx59,h⟩ := h
     refine r_el hx59 (rd_row 0 rfl)<|r_sec 0 (E := eI64) tt_ok x55 (idx_get hx59) (f1 ts_3) rfl rfl (pl0 _ _) (by kernel_rfl) (by kernel_rfl) (List.cons_ne_nil _ _) ?_
     rw [← @List.length_set _ xs50 x52.toNat x55]
     exact kr [(0,.slice A4 (xs50.set x52.toNat x55).length c5),(1,.func (.func 123) #[] #[pp bq1 0]),(5,ii x52),(6,ii x53)] fun fr => rd<|r_num (e' := w64 (x52 + 1)) rfl<|rd<|rd<|r_num (e' := w64 (x53 + 1)) rfl<|rd ⟨m63,lt_s hm63,(xs50.set x52.toNat x55),w64 (x52 + 1),w64 (x53 + 1),_,h,fe _,by kernel_rfl⟩
    exact rd<|rd<|r_num (e' := w64 (x53 + 1)) rfl<|rd ⟨m63,lt_s hm63,xs50,x52,w64 (x53 + 1),_,h,fe _,by kernel_rfl⟩
   refine rd<|rd ?_
   replace h := h_m h
   subst hK62
   exact rd ⟨xs50,x52,_,h,fe _,by kernel_rfl⟩
  clear h
  rintro fr S ⟨xs64,x66,fr,h,rfl,rfl⟩
  replace h := hK68 _ h
  refine rd<|rb ?_
  replace h := h_b h; obtain ⟨xs69,hz70,h⟩ := h
  refine r_cuta (E := eI64) (Le.refl _) tt_ok hz70 (sl_row 0 rfl) te_22 rfl (.inr ⟨_,rfl⟩) (.inl ⟨rfl,rfl⟩) (fun A71 c72 hs73 hA74 => ?_)
  refine r_clr 0 (E := eI64) tt_ok 0 hz70 hA74 rfl te_22 ti_3 rfl rfl rfl ?_
  rw [← cut_len (z := 0) hz70]
  refine rd<|rb ?_
  replace h := h_b h; obtain ⟨xs75,hz76,h⟩ := h
  refine r_cut (E := eI64) (Le.refl _) tt_ok hz76 (sl_row 0 rfl) te_22 rfl (.inl ⟨rfl,rfl⟩) (.inr ⟨_,rfl⟩) (fun A77 c78 hs79 => ?_)
  refine rd ?_
  repeat refine rd ?_
  repeat refine rd ?_
  exact ret_of (RV.tmp RV.nil) (Le.refl _) ⟨xs75,(xs64.take x66.toNat ++ List.replicate xs69.length 0),A77,c78,h,rfl,rfl⟩
 clear h
 rintro v S ⟨xs80,xs83,A81,c82,h,rfl,rfl⟩
 replace h := hK86 _ h
 refine kp [(1,ii version1),(2,pp bq1 0),(12,.slice A81 xs80.length c82)] fun fr => rd<|rb ?_
 replace h := h_j h; obtain ⟨K91,h,hK92⟩ := h
 refine r_meet (fun fr S => ∃ (x90 : Bool),∃ fr0,K91 x90 = some r ∧ fr = updL [(4,.bool x90)] fr0 ∧ S = ⟨ρ,.row g_f0.s_Tenants.1 f0.s.Tenants.length g_f0.s_Tenants.2 58 12 (fl eTenantState.en f0.s.Tenants) :: .row g_f0.s_Cells.1 f0.s.Cells.length g_f0.s_Cells.2 54 4 (fl eCellState.en f0.s.Cells) :: .obj bf0 (en_state_fold f0 g_f0) 85 :: L⟩) ?_ ?_
 ·refine ld 1 tt_ok (v := pp bf0 0) ts_81 rfl<|kp [(1,ii version1),(2,pp bq1 0),(5,.slice A81 xs80.length c82),(13,pp bf0 0)] fun fr => ln 4 tt_ok (en_State f0.s (⟨(g_f0.s_Tenants.1,g_f0.s_Tenants.2),(g_f0.s_Cells.1,g_f0.s_Cells.2)⟩)) ta_38 rfl ?_
  replace h := h_b h; obtain ⟨x88,hx87,h⟩ := h
  refine rc (hc_97 (g_s0 := ⟨(g_f0.s_Tenants.1,g_f0.s_Tenants.2),(g_f0.s_Cells.1,g_f0.s_Cells.2)⟩) (s0 := f0.s) (version1 := version1) (hS_s0 := by exact Le.refl _) (h_s0 := by exact ⟨sl_row 2 rfl,sl_row 3 rfl⟩) (h := hx87)) ?_
  rintro _ _ ⟨rfl,rfl⟩
  apply r_iteh h<;>clear h<;>intro h
  ·exact r_T rfl<|kp [(2,pp bq1 0),(20,.bool true),(22,ii (xs80.length : Int))] fun fr => r_T rfl<|ld 1 tt_ok (v := pp bf0 0) ts_81 rfl<|r_T rfl<|r_T rfl<|r_T rfl<|r_T rfl<|ld 4 tt_ok (v := ii f0.c.Blast) ts_3 rfl<|r_T rfl<|r_le (le_w [false,false,true,true,true])<|rd ⟨decide (f0.c.Blast ≤ (xs80.length : Int)),_,h,fe _,by kernel_rfl⟩
  exact r_F rfl<|kp [(2,pp bq1 0),(20,.bool false),(22,undef)] fun fr => r_F rfl<|r_F rfl<|r_F rfl<|r_F rfl<|r_F rfl<|r_F rfl<|r_F rfl<|r_le (le_w [false,false,true,true,true])<|rd ⟨false,_,h,fe _,by kernel_rfl⟩
 clear h
 rintro fr S ⟨x90,fr,h,rfl,rfl⟩
 replace h := hK92 _ h
 refine rd ?_
 repeat refine rd ?_
 repeat refine rd ?_
 obtain rfl := h_out h
 exact ret_of (RV.tmp RV.nil) (Le.refl _) ⟨rfl,rfl⟩
theorem hc_80 {bf0 : Nat} {g_f0 : gstate_fold} {S_f0 : St} (hS_f0 : Le ⟨ρ,L⟩ S_f0) (f0 : state_fold) (h_f0 : Sl_state_fold S_f0 f0 g_f0) (h_f0_t : g_f0.t = fptr g_f0.s_Tenants.1 f0.e.Tenant 12) (h_f0_cell : g_f0.cell = fptr g_f0.s_Cells.1 f0.e.Cell 4) {r : (Int × State)} (h : state_fold_want f0 = some r) : HC Tryz.prog 80 #[pp bf0 0] ⟨ρ,.row g_f0.s_Tenants.1 f0.s.Tenants.length g_f0.s_Tenants.2 58 12 (fl eTenantState.en f0.s.Tenants) :: .row g_f0.s_Cells.1 f0.s.Cells.length g_f0.s_Cells.2 54 4 (fl eCellState.en f0.s.Cells) :: .obj bf0 (en_state_fold f0 g_f0) 85 :: L⟩ (fun v S' => v = ii r.1 ∧ S' = ⟨ρ,.row g_f0.s_Tenants.1 r.2.Tenants.length g_f0.s_Tenants.2 58 12 (fl eTenantState.en r.2.Tenants) :: .row g_f0.s_Cells.1 r.2.Cells.length g_f0.s_Cells.2 54 4 (fl eCellState.en r.2.Cells) :: .obj bf0 (en_state_fold ({ f0 with s := r.2 }) g_f0) 85 :: L⟩) := by
 replace h := h_in h
 refine HC.intro (N := 72) (args := [_]) tt_ok Tryz.func80 rfl (by decide +kernel) rfl (Nat.le_of_ble_eq_true rfl)<|rb<|rd<|rb<|ld 2 tt_ok (v := ii f0.e.N) ts_3 rfl<|rd<|rb<|ld 2 tt_ok (v := .slice g_f0.c_Versions.1 f0.c.Versions.length g_f0.c_Versions.2) ts_28 rfl<|kp [(0,pp bf0 0),(3,ii f0.e.N),(14,.slice g_f0.c_Versions.1 f0.c.Versions.length g_f0.c_Versions.2)] fun fr => ?_
 replace h := h_b h; obtain ⟨x1,hx2,h⟩ := h
 refine r_el hx2 ((h_f0.2.2.2.1).rd.mono ((le_d 3).trans hS_f0))<|r_len (E := eVersion) tt_ok (en_Version x1) (idx_get hx2) ((h_f0.2.2.2.1).rd.mono ((le_d 3).trans hS_f0)) ta_79 rfl (pl0 _ _) (by kernel_rfl) (by kernel_rfl)<|r_al tt_ok (en_Version (⟨0,0⟩ : Version)) ti_79 (by kernel_rfl) fun bq3 => st 0 tt_ok (en_Version x1) (fn ta_79) rfl<|rd<|rb ?_
 replace h := h_k h; obtain ⟨K16,h,hK17⟩ := h
 refine r_meet (fun fr S => ∃ fr0,(state_fold_want.j1 f0).bind K16 = some r ∧ fr = updL [(0,pp bf0 0),(3,ii f0.e.N)] fr0 ∧ S = ⟨ρ,.row g_f0.s_Tenants.1 f0.s.Tenants.length g_f0.s_Tenants.2 58 12 (fl eTenantState.en f0.s.Tenants) :: .row g_f0.s_Cells.1 f0.s.Cells.length g_f0.s_Cells.2 54 4 (fl eCellState.en f0.s.Cells) :: .obj bf0 (en_state_fold f0 g_f0) 85 :: L⟩) ?_ ?_
 ·refine rb<|rb ?_
  replace h := h_b h; obtain ⟨x4,hx5,h⟩ := h
  refine r_ld 3 tt_ok (v := .pointer (some ((adr g_f0.s_Cells.1).add (f0.e.Cell.toNat * 4)))) ts_83 rfl (by rw [← fptr_at h_f0_cell hx5]; kernel_rfl)<|kp [(0,pp bf0 0),(3,ii f0.e.N),(4,pp bq3 0),(22,.pointer (some ((adr g_f0.s_Cells.1).add (f0.e.Cell.toNat * 4))))] fun fr => r_lec (E := eCellState) tt_ok (v := ii x4.Wanted) (idx_get hx5) (rd_row 2 rfl) ts_3 rfl (pl1 _ _ _) (by kernel_rfl)<|rd ?_
  apply r_iteh h<;>clear h<;>intro h
  ·refine rb<|rd ?_
   repeat refine rd ?_
   subst hK17
   repeat refine rd ?_
   obtain rfl := h_out h
   exact ret_of (RV.tmp RV.nil) (le_w [false,true,true,true]) ⟨rfl,rfl⟩
  refine rb<|r_meet (fun fr S => ∃ fr0,fr = updL [(0,pp bf0 0),(3,ii f0.e.N),(28,.bool ((decide (f0.s.Low < x1.Low)) || (decide (x1.High < f0.s.High))))] fr0 ∧ S = ⟨ρ,.obj bq3 (en_Version x1) 79 :: .row g_f0.s_Tenants.1 f0.s.Tenants.length g_f0.s_Tenants.2 58 12 (fl eTenantState.en f0.s.Tenants) :: .row g_f0.s_Cells.1 f0.s.Cells.length g_f0.s_Cells.2 54 4 (fl eCellState.en f0.s.Cells) :: .obj bf0 (en_state_fold f0 g_f0) 85 :: L⟩) ?_ ?_
  refine r_mix tt_ok hm_ok _ _ [] (.pure 0 (.vb 1 (.pure 2 (.pure 3 (.pure 4 (.pure 5 (.vb 6 (.pure 7 (.pure 8 (.pure 9 (.vb 10 (.pure 11 (.pure 12 (.pure 13 (.pure 14 (.vb 15 (.pure 16 (.pure 17 (.pure 18 .nil))))))))))))))))))) (le_w [true,true,true,true]) (le_w [true,true,true,true]) ?_ ?_
  ·decide +kernel
  refine x_p rfl<|vd<|x_vb rfl<|vl 0 tt_ok (v := ii x1.Low) ts_3 rfl<|vd<|xp [(0,pp bf0 0),(3,ii f0.e.N),(4,pp bq3 0),(30,ii x1.Low)] fun fr => x_p rfl<|vd<|x_p rfl<|vd<|x_p rfl<|vd<|x_p rfl ?_
  refine vd<|x_vb rfl<|vl 3 tt_ok (v := ii f0.s.Low) ts_3 rfl<|vd<|x_p rfl<|vd<|x_p rfl<|vd<|x_p rfl<|v_ite (fun (hb7 : (decide (f0.s.Low < x1.Low)) = true) => ?_) (fun (hb7 : (decide (f0.s.Low < x1.Low)) = false) => ?_)
  ·refine vd<|x_vb rfl<|v_T rfl<|vd<|xp [(0,pp bf0 0),(3,ii f0.e.N),(37,.bool true),(39,undef)] fun fr => x_p rfl<|v_T rfl<|vd<|x_p rfl<|v_T rfl<|vd<|x_p rfl<|v_T rfl ?_
   refine vd<|x_p rfl<|v_T rfl<|vd<|x_vb rfl<|v_T rfl<|vd<|x_p rfl<|v_T rfl<|vd<|x_p rfl<|v_T rfl<|vd ?_
   exact x_p rfl<|vd<|xk [(0,pp bf0 0),(3,ii f0.e.N),(28,.bool true)] fun fr => rd ⟨_,fr_eq _ (by (try rw [hb7]); kernel_rfl),by kernel_rfl⟩
  refine vd<|x_vb rfl<|v_F rfl<|vl 0 tt_ok (v := ii x1.High) ts_3 rfl<|vd<|xp [(0,pp bf0 0),(3,ii f0.e.N),(37,.bool false),(39,ii x1.High)] fun fr => x_p rfl<|v_F rfl<|vd<|x_p rfl<|v_F rfl<|vd<|x_p rfl ?_
  refine v_F rfl<|vd<|x_p rfl<|v_F rfl<|vd<|x_vb rfl<|v_F rfl<|vl 3 tt_ok (v := ii f0.s.High) ts_3 rfl<|vd<|x_p rfl<|v_F rfl<|vd<|x_p rfl ?_
  exact vd<|x_p rfl<|vd<|xk [(0,pp bf0 0),(3,ii f0.e.N),(28,.bool (decide (x1.High < f0.s.High)))] fun fr => rd ⟨_,fr_eq _ (by (try rw [hb7]); kernel_rfl),by kernel_rfl⟩
  rintro fr S ⟨fr,rfl,rfl⟩
  refine rd ?_
  apply r_iteh h<;>clear h<;>intro h
  ·refine rb<|rd ?_
   repeat refine rd ?_
   subst hK17
   repeat refine rd ?_
   obtain rfl := h_out h
   exact ret_of (RV.tmp RV.nil) (le_w [false,true,true,true]) ⟨rfl,rfl⟩
  refine rb<|r_ld 3 tt_ok (v := .pointer (some ((adr g_f0.s_Cells.1).add (f0.e.Cell.toNat * 4)))) ts_83 rfl (by rw [← fptr_at h_f0_cell hx5]; kernel_rfl)<|r_lec (E := eCellState) tt_ok (v := ii x4.Running) (idx_get hx5) (rd_row 2 rfl) ts_3 rfl (pl1 _ _ _) (by kernel_rfl)<|kr [(0,pp bf0 0),(3,ii f0.e.N),(47,.bool (decide (f0.e.N = x4.Running)))] fun fr => rd ?_
  apply r_iteh h<;>clear h<;>intro h
  ·exact rd<|r_le (le_w [false,true,true,true])<|rd ⟨_,h,fe _,by kernel_rfl⟩
  refine rb<|r_le ((le_mv 3).trans ((le_mv 3).trans (le_mv 3))) ?_
  replace h := h_b h; obtain ⟨x11,hx10,h⟩ := h
  refine rc (hc_110 (bf0 := bf0) (g_f0 := g_f0) (f0 := f0) (version1 := f0.e.N) (hS_f0 := by exact (le_d 1).trans hS_f0) (h_f0 :=h_f0) (h_f0_t :=h_f0_t) (h_f0_cell :=h_f0_cell) (h := hx10)) ?_
  rintro _ _ ⟨rfl,rfl⟩
  refine rd ?_
  apply r_iteh h<;>clear h<;>intro h
  ·refine rb<|rd ?_
   repeat refine rd ?_
   subst hK17
   repeat refine rd ?_
   obtain rfl := h_out h
   exact ret_of (RV.tmp RV.nil) (le_w [true,true,true,false]) ⟨rfl,rfl⟩
  refine rb ?_
  replace h := h_b h; obtain ⟨x14,hx13,h⟩ := h
  refine rc (hc_111 (bf0 := bf0) (g_f0 := g_f0) (f0 := f0) (version1 := f0.e.N) (hS_f0 := by exact (le_d 1).trans hS_f0) (h_f0 :=h_f0) (h_f0_t :=h_f0_t) (h_f0_cell :=h_f0_cell) (h := hx13)) ?_
  rintro _ _ ⟨rfl,rfl⟩
  refine rd ?_
  apply r_iteh h<;>clear h<;>intro h
  ·refine rb<|kr [(2,ii 14)] fun fr => rd ?_
   repeat refine rd ?_
   subst hK17
   repeat refine rd ?_
   obtain rfl := h_out h
   exact ret_of (RV.tmp RV.nil) (le_w [true,true,true,false]) ⟨rfl,rfl⟩
  exact rd<|r_le (le_w [true,true,true,false])<|rd ⟨_,h,fe _,by kernel_rfl⟩
 clear h
 rintro fr S ⟨fr,h,rfl,rfl⟩
 subst hK17
 refine rd<|rb ?_
 replace h := h_b h; obtain ⟨x18,hx19,h⟩ := h
 refine r_ld 2 tt_ok (v := .pointer (some ((adr g_f0.s_Cells.1).add (f0.e.Cell.toNat * 4)))) ts_83 rfl (by rw [← fptr_at h_f0_cell hx19]; kernel_rfl)<|r_sec 1 (E := eCellState) tt_ok ({ x18 with Wanted := f0.e.N }) (idx_get hx19) (f1 ts_3) rfl rfl (pl1 _ _ _) (by kernel_rfl) (by kernel_rfl) (List.cons_ne_nil _ _) ?_
 rw [show (en_state_fold f0 g_f0) = (en_state_fold ({ f0 with s := { f0.s with Cells := (f0.s.Cells.set f0.e.Cell.toNat ({ x18 with Wanted := f0.e.N })) } }) g_f0) by simp [en_state_fold]]
 rw [← @List.length_set _ f0.s.Cells f0.e.Cell.toNat ({ x18 with Wanted := f0.e.N })]
 refine rd<|rb<|kr [(2,ii 0)] fun fr => rd ?_
 repeat refine rd ?_
 repeat refine rd ?_
 obtain rfl := h_out h
 exact ret_of (RV.tmp RV.nil) (Le.refl _) ⟨rfl,rfl⟩
theorem hc_81 {bf0 : Nat} {g_f0 : gstate_fold} {S_f0 : St} (hS_f0 : Le ⟨ρ,L⟩ S_f0) (f0 : state_fold) (h_f0 : Sl_state_fold S_f0 f0 g_f0) (h_f0_t : g_f0.t = fptr g_f0.s_Tenants.1 f0.e.Tenant 12) (h_f0_cell : g_f0.cell = fptr g_f0.s_Cells.1 f0.e.Cell 4) {r : (Int × State)} (h : state_fold_runs f0 = some r) : HC Tryz.prog 81 #[pp bf0 0] ⟨ρ,.row g_f0.s_Tenants.1 f0.s.Tenants.length g_f0.s_Tenants.2 58 12 (fl eTenantState.en f0.s.Tenants) :: .row g_f0.s_Cells.1 f0.s.Cells.length g_f0.s_Cells.2 54 4 (fl eCellState.en f0.s.Cells) :: .obj bf0 (en_state_fold f0 g_f0) 85 :: L⟩ (fun v S' => v = ii r.1 ∧ S' = ⟨ρ,.row g_f0.s_Tenants.1 r.2.Tenants.length g_f0.s_Tenants.2 58 12 (fl eTenantState.en r.2.Tenants) :: .row g_f0.s_Cells.1 r.2.Cells.length g_f0.s_Cells.2 54 4 (fl eCellState.en r.2.Cells) :: .obj bf0 (en_state_fold ({ f0 with s := r.2 }) g_f0) 85 :: L⟩) := by
 replace h := h_in h
 refine HC.intro (N := 97) (args := [_]) tt_ok Tryz.func81 rfl (by decide +kernel) rfl (Nat.le_of_ble_eq_true rfl)<|rb<|rd<|rb<|rb<|rb ?_
 replace h := h_j h; obtain ⟨K5,h,hK6⟩ := h
 refine r_meet (fun fr S => ∃ (x4 : Bool),∃ fr0,K5 x4 = some r ∧ fr = updL [(0,pp bf0 0),(5,.bool x4)] fr0 ∧ S = ⟨ρ,.row g_f0.s_Tenants.1 f0.s.Tenants.length g_f0.s_Tenants.2 58 12 (fl eTenantState.en f0.s.Tenants) :: .row g_f0.s_Cells.1 f0.s.Cells.length g_f0.s_Cells.2 54 4 (fl eCellState.en f0.s.Cells) :: .obj bf0 (en_state_fold f0 g_f0) 85 :: L⟩) ?_ ?_
 refine r_mix tt_ok hm_ok _ _ [] (.pure 0 (.pure 1 (.pure 2 (.pure 3 (.vb 4 (.pure 5 (.pure 6 (.pure 7 (.vb 8 (.pure 9 (.pure 10 (.vb 11 (.pure 12 (.pure 13 (.pure 14 (.pure 15 (.pure 16 (.vb 17 (.pure 18 (.pure 19 (.vb 20 (.pure 21 (.pure 22 (.pure 23 (.vb 24 (.pure 25 (.pure 26 (.vb 27 (.pure 28 (.pure 29 (.pure 30 .nil))))))))))))))))))))))))))))))) (le_w [true,true,true]) (le_w [true,true,true]) ?_ ?_
 ·decide +kernel
 refine x_p rfl<|vd<|x_p rfl<|vd<|x_p rfl<|vd<|x_p rfl<|vd<|x_vb rfl<|vl 2 tt_ok (v := ii f0.e.N) ts_3 rfl<|vd<|xp [(0,pp bf0 0),(10,ii f0.e.N)] fun fr => x_p rfl ?_
 refine vd<|x_p rfl<|vd<|x_p rfl<|vd<|x_vb rfl ?_
 replace h := h_b h; obtain ⟨x1,hx2,h⟩ := h
 refine v_ld 2 tt_ok (v := .pointer (some ((adr g_f0.s_Cells.1).add (f0.e.Cell.toNat * 4)))) ts_83 rfl (by rw [← fptr_at h_f0_cell hx2]; kernel_rfl)<|vd<|x_p rfl<|vd<|x_p rfl<|vd<|x_vb rfl<|v_lec (E := eCellState) tt_ok (v := ii x1.Wanted) (idx_get hx2) (rd_row 1 rfl) ts_3 rfl (pl1 _ _ _) (by kernel_rfl)<|vd<|x_p rfl<|vd<|x_p rfl<|vd ?_
 refine xp [(0,pp bf0 0),(19,.bool (!decide (f0.e.N = x1.Wanted)))] fun fr => x_p rfl ?_
 apply v_iteh h<;>clear h<;>intro h
 ·refine vd<|x_p rfl<|v_T rfl<|vd<|x_p rfl<|v_T rfl<|vd<|x_vb rfl<|v_T rfl<|vd<|x_p rfl<|v_T rfl<|vd ?_
  refine x_p rfl<|v_T rfl<|vd<|x_vb rfl<|v_T rfl<|vd<|x_p rfl<|v_T rfl<|vd<|x_p rfl<|v_T rfl<|vd<|xp [(0,pp bf0 0),(19,.bool true),(26,undef),(28,undef)] fun fr => ?_
  refine x_p rfl<|v_T rfl<|vd<|x_vb rfl<|v_T rfl<|vd<|x_p rfl<|v_T rfl<|vd<|x_p rfl<|v_T rfl<|vd<|x_vb rfl ?_
  exact v_T rfl<|vd<|x_p rfl<|v_T rfl<|vd<|x_p rfl<|v_T rfl<|vd<|x_p rfl<|vd<|xk [(0,pp bf0 0),(5,.bool true)] fun fr => rd ⟨true,_,h,fe _,by kernel_rfl⟩
 refine vd<|x_p rfl<|v_F rfl<|vd<|x_p rfl<|v_F rfl<|vd<|x_vb rfl<|v_F rfl<|v_ld 2 tt_ok (v := .pointer (some ((adr g_f0.s_Cells.1).add (f0.e.Cell.toNat * 4)))) ts_83 rfl (by rw [← fptr_at h_f0_cell hx2]; kernel_rfl)<|vd<|x_p rfl<|v_F rfl ?_
 refine vd<|x_p rfl<|v_F rfl<|vd<|x_vb rfl<|v_F rfl<|v_lec (E := eCellState) tt_ok (v := ii x1.Running) (idx_get hx2) (rd_row 1 rfl) ts_3 rfl (pl1 _ _ _) (by kernel_rfl)<|vd<|x_p rfl<|v_F rfl<|vd<|x_p rfl<|v_F rfl ?_
 refine vd<|xp [(0,pp bf0 0),(19,.bool false),(26,ii x1.Running),(28,pp bf0 0)] fun fr => x_p rfl<|v_F rfl<|vd<|x_vb rfl<|v_F rfl<|v_ld 2 tt_ok (v := .pointer (some ((adr g_f0.s_Cells.1).add (f0.e.Cell.toNat * 4)))) ts_83 rfl (by rw [← fptr_at h_f0_cell hx2]; kernel_rfl)<|vd<|x_p rfl<|v_F rfl<|vd<|x_p rfl ?_
 refine v_F rfl<|vd<|x_vb rfl<|v_F rfl<|v_lec (E := eCellState) tt_ok (v := ii x1.Wanted) (idx_get hx2) (rd_row 1 rfl) ts_3 rfl (pl1 _ _ _) (by kernel_rfl)<|vd<|x_p rfl<|v_F rfl<|vd<|x_p rfl<|vd<|x_p rfl<|vd ?_
 exact xk [(0,pp bf0 0),(5,.bool (decide (x1.Running = x1.Wanted)))] fun fr => rd ⟨decide (x1.Running = x1.Wanted),_,h,fe _,by kernel_rfl⟩
 clear h
 rintro fr S ⟨x4,fr,h,rfl,rfl⟩
 replace h := hK6 _ h
 refine rd ?_
 apply r_iteh h<;>clear h<;>intro h
 ·refine rb<|rd ?_
  repeat refine rd ?_
  repeat refine rd ?_
  obtain rfl := h_out h
  exact ret_of (RV.tmp RV.nil) (Le.refl _) ⟨rfl,rfl⟩
 refine rb<|ld 2 tt_ok (v := ii f0.e.N) ts_3 rfl ?_
 replace h := h_b h; obtain ⟨x9,hx8,h⟩ := h
 refine rc (hc_110 (bf0 := bf0) (g_f0 := g_f0) (f0 := f0) (version1 := f0.e.N) (hS_f0 := by exact (le_d 0).trans hS_f0) (h_f0 :=h_f0) (h_f0_t :=h_f0_t) (h_f0_cell :=h_f0_cell) (h := hx8)) ?_
 rintro _ _ ⟨rfl,rfl⟩
 refine rd ?_
 apply r_iteh h<;>clear h<;>intro h
 ·refine rb<|kr [(2,ii 12)] fun fr => rd ?_
  repeat refine rd ?_
  repeat refine rd ?_
  obtain rfl := h_out h
  exact ret_of (RV.tmp RV.nil) (Le.refl _) ⟨rfl,rfl⟩
 refine rd<|rd<|rb ?_
 replace h := h_k h; obtain ⟨K36,h,hK37⟩ := h
 refine r_meet (fun fr S => ∃ fr0,(state_fold_runs.j2 f0).bind K36 = some r ∧ fr = updL [(0,pp bf0 0)] fr0 ∧ S = ⟨ρ,.row g_f0.s_Tenants.1 f0.s.Tenants.length g_f0.s_Tenants.2 58 12 (fl eTenantState.en f0.s.Tenants) :: .row g_f0.s_Cells.1 f0.s.Cells.length g_f0.s_Cells.2 54 4 (fl eCellState.en f0.s.Cells) :: .obj bf0 (en_state_fold f0 g_f0) 85 :: L⟩) ?_ ?_
 ·refine rb<|ld 2 tt_ok (v := .slice g_f0.s_Tenants.1 f0.s.Tenants.length g_f0.s_Tenants.2) ts_35 rfl<|rd<|rb ?_
  replace h := h_l h; obtain ⟨K32,n33,h,hK34⟩ := h
  refine r_loop (fun n fr S => ∃ (x25 : Int),∃ fr0,(runN (state_fold_runs.b3 f0) n x25).bind K32 = some r ∧ fr = updL [(0,pp bf0 0),(48,.slice g_f0.s_Tenants.1 f0.s.Tenants.length g_f0.s_Tenants.2),(49,ii (f0.s.Tenants.length : Int)),(50,ii x25)] fr0 ∧ S = ⟨ρ,.row g_f0.s_Tenants.1 f0.s.Tenants.length g_f0.s_Tenants.2 58 12 (fl eTenantState.en f0.s.Tenants) :: .row g_f0.s_Cells.1 f0.s.Cells.length g_f0.s_Cells.2 54 4 (fl eCellState.en f0.s.Cells) :: .obj bf0 (en_state_fold f0 g_f0) 85 :: L⟩) n33 ⟨0,_,h,fe _,by kernel_rfl⟩ ?_
  clear h
  rintro n33 fr S ⟨x25,fr,h,rfl,rfl⟩
  replace h := h_r h; obtain ⟨m35,hm35,h⟩ := h
  refine rb<|rd<|rb ?_
  apply r_iteh h<;>clear h<;>intro h
  ·refine rd<|rb<|rb<|rb ?_
   replace h := h_b h; obtain ⟨x27,hx28,h⟩ := h
   refine r_el hx28 (rd_row 0 rfl)<|r_len (E := eTenantState) tt_ok (en_TenantState x27) (idx_get hx28) (rd_row 0 rfl) ta_58 rfl (pl0 _ _) (by kernel_rfl) (by kernel_rfl)<|r_al tt_ok (en_TenantState (⟨false,false,0,0,0,0,0,(⟨0,0,0,0,0⟩ : Window)⟩ : TenantState)) ti_58 (by kernel_rfl) fun bq29 => st 0 tt_ok (en_TenantState x27) (fn ta_58) rfl<|rd<|rb<|r_meet (fun fr S => ∃ fr0,fr = updL [(0,pp bf0 0),(48,.slice g_f0.s_Tenants.1 f0.s.Tenants.length g_f0.s_Tenants.2),(49,ii (f0.s.Tenants.length : Int)),(50,ii x25),(73,.bool ((decide (x27.Window.Cell = f0.e.Cell)) && (decide (f0.e.Tick < x27.Window.Until))))] fr0 ∧ S = ⟨ρ,.obj bq29 (en_TenantState x27) 58 :: .row g_f0.s_Tenants.1 f0.s.Tenants.length g_f0.s_Tenants.2 58 12 (fl eTenantState.en f0.s.Tenants) :: .row g_f0.s_Cells.1 f0.s.Cells.length g_f0.s_Cells.2 54 4 (fl eCellState.en f0.s.Cells) :: .obj bf0 (en_state_fold f0 g_f0) 85 :: L⟩) ?_ ?_
   refine r_mix tt_ok hm_ok _ _ [] (.pure 0 (.pure 1 (.vb 2 (.pure 3 (.pure 4 (.pure 5 (.pure 6 (.vb 7 (.pure 8 (.pure 9 (.pure 10 (.pure 11 (.vb 12 (.pure 13 (.pure 14 (.pure 15 (.pure 16 (.vb 17 (.pure 18 (.pure 19 .nil)))))))))))))))))))) (le_w [true,true,true,true]) (le_w [true,true,true,true]) ?_ ?_
   ·decide +kernel
   refine x_p rfl<|vd<|x_p rfl<|vd<|xp [(0,pp bf0 0),(4,pp bq29 0),(48,.slice g_f0.s_Tenants.1 f0.s.Tenants.length g_f0.s_Tenants.2),(49,ii (f0.s.Tenants.length : Int)),(50,ii x25),(55,pp bq29 7)] fun fr => x_vb rfl<|vl 0 tt_ok (v := ii x27.Window.Cell) ts_3 rfl<|vd<|x_p rfl<|vd<|x_p rfl<|vd<|x_p rfl ?_
   refine vd<|x_p rfl<|vd<|x_vb rfl<|vl 3 tt_ok (v := ii f0.e.Cell) ts_3 rfl<|vd<|x_p rfl<|vd<|x_p rfl<|vd<|x_p rfl<|v_ite (fun (hb30 : (decide (x27.Window.Cell = f0.e.Cell)) = true) => ?_) (fun (hb30 : (decide (x27.Window.Cell = f0.e.Cell)) = false) => ?_)
   ·refine vd<|xp [(0,pp bf0 0),(48,.slice g_f0.s_Tenants.1 f0.s.Tenants.length g_f0.s_Tenants.2),(49,ii (f0.s.Tenants.length : Int)),(50,ii x25),(63,.bool true),(64,pp bq29 7)] fun fr => x_p rfl<|v_T rfl<|vd<|x_vb rfl<|v_T rfl<|vl 0 tt_ok (v := ii x27.Window.Until) ts_3 rfl<|vd<|x_p rfl<|v_T rfl<|vd<|x_p rfl ?_
    refine v_T rfl<|vd<|x_p rfl<|v_T rfl<|vd<|x_p rfl<|v_T rfl<|vd<|x_vb rfl<|v_T rfl<|vl 3 tt_ok (v := ii f0.e.Tick) ts_3 rfl<|vd<|x_p rfl ?_
    exact v_T rfl<|vd<|x_p rfl<|vd<|xk [(0,pp bf0 0),(48,.slice g_f0.s_Tenants.1 f0.s.Tenants.length g_f0.s_Tenants.2),(49,ii (f0.s.Tenants.length : Int)),(50,ii x25),(64,pp bq29 7),(65,pp bq29 11),(66,ii x27.Window.Until),(67,pp bf0 0),(68,pp bf0 0),(69,pp bf0 18),(70,pp bf0 19),(71,ii f0.e.Tick),(72,.bool (decide (f0.e.Tick < x27.Window.Until))),(73,.bool (decide (f0.e.Tick < x27.Window.Until)))] fun fr => rd ⟨_,fr_eq _ (by (try rw [hb30]); kernel_rfl),by kernel_rfl⟩
   refine vd<|xp [(0,pp bf0 0),(48,.slice g_f0.s_Tenants.1 f0.s.Tenants.length g_f0.s_Tenants.2),(49,ii (f0.s.Tenants.length : Int)),(50,ii x25),(63,.bool false),(64,undef)] fun fr => x_p rfl<|v_F rfl<|vd<|x_vb rfl<|v_F rfl<|vd<|x_p rfl<|v_F rfl<|vd<|x_p rfl<|v_F rfl ?_
   refine vd<|x_p rfl<|v_F rfl<|vd<|x_p rfl<|v_F rfl<|vd<|x_vb rfl<|v_F rfl<|vd<|x_p rfl<|v_F rfl<|vd ?_
   exact x_p rfl<|v_F rfl<|vd<|xk [(0,pp bf0 0),(48,.slice g_f0.s_Tenants.1 f0.s.Tenants.length g_f0.s_Tenants.2),(49,ii (f0.s.Tenants.length : Int)),(50,ii x25),(73,.bool false)] fun fr => rd ⟨_,fr_eq _ (by (try rw [hb30]); kernel_rfl),by kernel_rfl⟩
   rintro fr S ⟨fr,rfl,rfl⟩
   refine rd ?_
   apply r_iteh h<;>clear h<;>intro h
   ·refine rb<|rd ?_
    repeat refine rd ?_
    replace h := h_m h
    subst hK34
    subst hK37
    repeat refine rd ?_
    obtain rfl := h_out h
    exact ret_of (RV.tmp RV.nil) (le_w [false,true,true,true]) ⟨rfl,rfl⟩
   exact rd<|rd<|r_num (e' := w64 (x25 + 1)) rfl<|r_le (le_w [false,true,true,true])<|rd ⟨m35,lt_s hm35,w64 (x25 + 1),_,h,fe _,by kernel_rfl⟩
  refine rd<|rd ?_
  replace h := h_m h
  subst hK34
  exact rd ⟨_,h,fe _,by kernel_rfl⟩
 clear h
 rintro fr S ⟨fr,h,rfl,rfl⟩
 subst hK37
 refine rd<|rb<|r_mix tt_ok hm_ok _ _ [] (.pure 0 (.pure 1 (.pure 2 (.vb 3 (.pure 4 (.pure 5 (.pure 6 (.vb 7 (.pure 8 (.pure 9 (.pure 10 (.pure 11 (.vb 12 (.pure 13 (.pure 14 (.pure 15 (.pure 16 (.vb 17 (.pure 18 (.pure 19 (.eff 20 (.pure 21 (.pure 22 (.eff 23 .nil)))))))))))))))))))))))) (le_w [true,false,true]) (le_w [true,false,true]) ?_ ?_
 ·decide +kernel
 refine x_p rfl<|vd<|x_p rfl<|vd<|x_p rfl<|vd<|x_vb rfl ?_
 replace h := h_b h; obtain ⟨x38,hx39,h⟩ := h
 refine v_ld 1 tt_ok (v := .pointer (some ((adr g_f0.s_Cells.1).add (f0.e.Cell.toNat * 4)))) ts_83 rfl (by rw [← fptr_at h_f0_cell hx39]; kernel_rfl)<|vd<|x_p rfl<|vd<|x_p rfl<|vd<|x_p rfl<|vd<|x_vb rfl<|v_ld 1 tt_ok (v := .pointer (some ((adr g_f0.s_Cells.1).add (f0.e.Cell.toNat * 4)))) ts_83 rfl (by rw [← fptr_at h_f0_cell hx39]; kernel_rfl)<|vd<|x_p rfl<|vd ?_
 refine xp [(0,pp bf0 0),(78,.pointer (some ((adr g_f0.s_Cells.1).add (f0.e.Cell.toNat * 4)))),(82,.pointer (some ((adr g_f0.s_Cells.1).add (f0.e.Cell.toNat * 4)))),(83,pp bf0 0)] fun fr => x_p rfl<|vd<|x_p rfl<|vd<|x_p rfl<|vd<|x_vb rfl<|vl 1 tt_ok (v := ii f0.e.N) ts_3 rfl<|vd<|x_p rfl<|vd<|x_p rfl ?_
 refine vd<|x_p rfl<|vd<|x_p rfl<|vd<|x_vb rfl<|vl 1 tt_ok (v := ii f0.e.Tick) ts_3 rfl<|vd<|xp [(78,.pointer (some ((adr g_f0.s_Cells.1).add (f0.e.Cell.toNat * 4)))),(82,.pointer (some ((adr g_f0.s_Cells.1).add (f0.e.Cell.toNat * 4)))),(87,ii f0.e.N),(92,ii f0.e.Tick)] fun fr => x_p rfl<|vd<|x_p rfl<|vd ?_
 refine x_e rfl<|r_sec 1 (E := eCellState) tt_ok ({ x38 with Running := f0.e.N }) (idx_get hx39) (f1 ts_3) rfl rfl (pl1 _ _ _) (by kernel_rfl) (by kernel_rfl) (List.cons_ne_nil _ _) ?_
 rw [show (en_state_fold f0 g_f0) = (en_state_fold ({ f0 with s := { f0.s with Cells := (f0.s.Cells.set f0.e.Cell.toNat ({ x38 with Running := f0.e.N })) } }) g_f0) by simp [en_state_fold]]
 rw [← @List.length_set _ f0.s.Cells f0.e.Cell.toNat ({ x38 with Running := f0.e.N })]
 refine rd ⟨rfl,k_a (le_w [true,false,true]) (le_w [true,false,true]),?_⟩
 refine x_p rfl<|vd<|x_p rfl<|vd<|x_e rfl<|r_sec 1 (E := eCellState) tt_ok ({ x38 with Running := f0.e.N,Since := f0.e.Tick }) (get_set (idx_get hx39) _) (f1 ts_3) rfl rfl (pl1 _ _ _) (by kernel_rfl) (by kernel_rfl) (List.cons_ne_nil _ _) ?_
 rw [show (en_state_fold ({ f0 with s := { f0.s with Cells := (f0.s.Cells.set f0.e.Cell.toNat ({ x38 with Running := f0.e.N })) } }) g_f0) = (en_state_fold ({ f0 with s := { f0.s with Cells := ((f0.s.Cells.set f0.e.Cell.toNat ({ x38 with Running := f0.e.N })).set f0.e.Cell.toNat ({ x38 with Running := f0.e.N,Since := f0.e.Tick })) } }) g_f0) by simp [en_state_fold]]
 rw [← @List.length_set _ (f0.s.Cells.set f0.e.Cell.toNat ({ x38 with Running := f0.e.N })) f0.e.Cell.toNat ({ x38 with Running := f0.e.N,Since := f0.e.Tick })]
 refine rd ⟨rfl,k_a (le_w [true,false,true]) (le_w [true,false,true]),?_⟩
 refine xk [] fun fr => rd<|rb<|rd ?_
 repeat refine rd ?_
 repeat refine rd ?_
 obtain rfl := h_out h
 exact ret_of (RV.tmp RV.nil) (Le.refl _) ⟨rfl,rfl⟩
theorem hc_82 {bf0 : Nat} {g_f0 : gstate_fold} {S_f0 : St} (hS_f0 : Le ⟨ρ,L⟩ S_f0) (f0 : state_fold) (h_f0 : Sl_state_fold S_f0 f0 g_f0) (h_f0_t : g_f0.t = fptr g_f0.s_Tenants.1 f0.e.Tenant 12) (h_f0_cell : g_f0.cell = fptr g_f0.s_Cells.1 f0.e.Cell 4) {r : (Int × State)} (h : state_fold_prove f0 = some r) : HC Tryz.prog 82 #[pp bf0 0] ⟨ρ,.row g_f0.s_Tenants.1 f0.s.Tenants.length g_f0.s_Tenants.2 58 12 (fl eTenantState.en f0.s.Tenants) :: .row g_f0.s_Cells.1 f0.s.Cells.length g_f0.s_Cells.2 54 4 (fl eCellState.en f0.s.Cells) :: .obj bf0 (en_state_fold f0 g_f0) 85 :: L⟩ (fun v S' => v = ii r.1 ∧ S' = ⟨ρ,.row g_f0.s_Tenants.1 r.2.Tenants.length g_f0.s_Tenants.2 58 12 (fl eTenantState.en r.2.Tenants) :: .row g_f0.s_Cells.1 r.2.Cells.length g_f0.s_Cells.2 54 4 (fl eCellState.en r.2.Cells) :: .obj bf0 (en_state_fold ({ f0 with s := r.2 }) g_f0) 85 :: L⟩) := by
 replace h := h_in h
 refine HC.intro (N := 36) (args := [_]) tt_ok Tryz.func82 rfl (by decide +kernel) rfl (Nat.le_of_ble_eq_true rfl)<|rb<|r_bx ([pp bf0 0]) (by kernel_rfl) fun bq1 => rd<|rb<|ld 0 tt_ok (v := pp bf0 0) ts_81 rfl<|ld 3 tt_ok (v := ii f0.e.N) ts_3 rfl<|r_al tt_ok ([ii 0]) ti_3 (by kernel_rfl) fun bq2 => st 0 tt_ok ([ii f0.e.N]) (f1 ts_3) rfl<|kr [(1,pp bq1 0),(3,pp bq2 0)] fun fr => rd<|rb<|rb ?_
 refine r_mix tt_ok hm_ok _ _ [] (.vb 0 (.pure 1 (.pure 2 (.vb 3 (.vb 4 (.eff 5 .nil)))))) (le_w [true,true,true,true,true]) (le_w [true,true,true,true,true]) ?_ ?_
 ·decide +kernel
 refine x_vb rfl<|vl 1 tt_ok (v := pp bf0 0) ts_81 rfl<|vd<|x_p rfl<|vd<|x_p rfl<|vd<|x_vb rfl<|vn 4 tt_ok (en_State f0.s (⟨(g_f0.s_Tenants.1,g_f0.s_Tenants.2),(g_f0.s_Cells.1,g_f0.s_Cells.2)⟩)) ta_38 rfl<|vd<|x_vb rfl<|vl 0 tt_ok (v := ii f0.e.N) ts_3 rfl<|vd ?_
 refine x_e rfl ?_
 replace h := h_b h; obtain ⟨x4,hx3,h⟩ := h
 refine rc (hc_97 (g_s0 := ⟨(g_f0.s_Tenants.1,g_f0.s_Tenants.2),(g_f0.s_Cells.1,g_f0.s_Cells.2)⟩) (s0 := f0.s) (version1 := f0.e.N) (hS_s0 := by exact Le.refl _) (h_s0 := by exact ⟨sl_row 2 rfl,sl_row 3 rfl⟩) (h := hx3)) ?_
 rintro _ _ ⟨rfl,rfl⟩
 refine rd ⟨rfl,k_a (le_w [true,true,true,true,true]) (le_w [true,true,true,true,true]),?_⟩
 refine xk [(1,pp bq1 0),(3,pp bq2 0),(15,.bool x4)] fun fr => rd ?_
 apply r_iteh h<;>clear h<;>intro h
 ·refine rb<|rd ?_
  repeat refine rd ?_
  repeat refine rd ?_
  obtain rfl := h_out h
  exact ret_of (RV.tmp RV.nil) (le_w [false,false,true,true,true]) ⟨rfl,rfl⟩
 refine rd<|rb<|ld 1 tt_ok (v := pp bf0 0) ts_81 rfl<|ld 4 tt_ok (v := .slice g_f0.s_Cells.1 f0.s.Cells.length g_f0.s_Cells.2) ts_36 rfl<|r_inl (HC.intro (N := 9) (args := [_,_]) tt_ok Tryz.func112 rfl (by decide +kernel) rfl (Nat.le_of_ble_eq_true rfl) ?_)
 refine rb<|rd<|rb ?_
 replace h := h_j h; obtain ⟨K38,h,hK39⟩ := h
 refine rc (Post := fun v S => ∃ (x37 : Int),K38 x37 = some r ∧ v = ii x37 ∧ S = ⟨ρ,.obj bq2 ([ii f0.e.N]) 3 :: .obj bq1 ([pp bf0 0]) 81 :: .row g_f0.s_Tenants.1 f0.s.Tenants.length g_f0.s_Tenants.2 58 12 (fl eTenantState.en f0.s.Tenants) :: .row g_f0.s_Cells.1 f0.s.Cells.length g_f0.s_Cells.2 54 4 (fl eCellState.en f0.s.Cells) :: .obj bf0 (en_state_fold f0 g_f0) 85 :: L⟩) ?_ ?_
 ·refine HC.intro (N := 19) (args := [_,_]) tt_ok Tryz.func124 rfl (by decide +kernel) rfl (Nat.le_of_ble_eq_true rfl)<|rb<|rd<|rb<|rb<|rd<|rb ?_
  replace h := h_l h; obtain ⟨K33,n34,h,hK35⟩ := h
  refine r_loop (fun n fr S => ∃ (x24 : Int),∃ fr0,(runN (state_fold_prove.b1 f0) n x24).bind K33 = some r ∧ fr = updL [(0,.slice g_f0.s_Cells.1 f0.s.Cells.length g_f0.s_Cells.2),(1,.func (.func 113) #[] #[pp bq2 0,pp bq1 0]),(7,ii (f0.s.Cells.length : Int)),(8,ii x24)] fr0 ∧ S = ⟨ρ,.obj bq2 ([ii f0.e.N]) 3 :: .obj bq1 ([pp bf0 0]) 81 :: .row g_f0.s_Tenants.1 f0.s.Tenants.length g_f0.s_Tenants.2 58 12 (fl eTenantState.en f0.s.Tenants) :: .row g_f0.s_Cells.1 f0.s.Cells.length g_f0.s_Cells.2 54 4 (fl eCellState.en f0.s.Cells) :: .obj bf0 (en_state_fold f0 g_f0) 85 :: L⟩) n34 ⟨0,_,h,fe _,by kernel_rfl⟩ ?_
  clear h
  rintro n34 fr S ⟨x24,fr,h,rfl,rfl⟩
  replace h := h_r h; obtain ⟨m36,hm36,h⟩ := h
  refine rb<|rd<|rb ?_
  apply r_iteh h<;>clear h<;>intro h
  ·refine rd<|rb<|rb<|rb<|rd<|rb ?_
   replace h := h_b h; obtain ⟨x26,hx27,h⟩ := h
   refine r_el hx27 (rd_row 3 rfl)<|r_len (E := eCellState) tt_ok (en_CellState x26) (idx_get hx27) (rd_row 3 rfl) ta_54 rfl (pl0 _ _) (by kernel_rfl) (by kernel_rfl)<|r_inl (HC.intro (N := 36) (args := [_,_,_]) tt_ok Tryz.func113 rfl (by decide +kernel) rfl (Nat.le_of_ble_eq_true rfl) ?_)
   refine rb<|r_bx (en_CellState x26) (by kernel_rfl) fun bq28 => rd<|rb<|r_meet (fun fr S => ∃ fr0,fr = updL [(4,.bool ((!decide (x26.Mode = 3)) && ((decide (x26.Running = f0.e.N)) && ((decide (x26.Wanted = f0.e.N)) && (decide (f0.c.Bake ≤ w64 (f0.e.Tick - x26.Since)))))))] fr0 ∧ S = ⟨ρ,.obj bq28 (en_CellState x26) 54 :: .obj bq2 ([ii f0.e.N]) 3 :: .obj bq1 ([pp bf0 0]) 81 :: .row g_f0.s_Tenants.1 f0.s.Tenants.length g_f0.s_Tenants.2 58 12 (fl eTenantState.en f0.s.Tenants) :: .row g_f0.s_Cells.1 f0.s.Cells.length g_f0.s_Cells.2 54 4 (fl eCellState.en f0.s.Cells) :: .obj bf0 (en_state_fold f0 g_f0) 85 :: L⟩) ?_ ?_
   refine r_mix tt_ok hm_ok _ _ [] (.pure 0 (.vb 1 (.pure 2 (.pure 3 (.pure 4 (.vb 5 (.vb 6 (.pure 7 (.pure 8 (.pure 9 (.pure 10 (.vb 11 (.vb 12 (.pure 13 (.pure 14 (.pure 15 (.vb 16 (.pure 17 (.pure 18 (.pure 19 (.vb 20 (.pure 21 (.vb 22 (.pure 23 (.vb 24 (.pure 25 (.pure 26 (.pure 27 (.vb 28 (.pure 29 (.pure 30 (.pure 31 .nil)))))))))))))))))))))))))))))))) (le_w [true,true,true,true,true,true]) (le_w [true,true,true,true,true,true]) ?_ ?_
   ·decide +kernel
   refine x_p rfl<|vd<|x_vb rfl<|vl 0 tt_ok (v := ii x26.Mode) ts_3 rfl<|vd<|xp [(1,pp bq2 0),(2,pp bq1 0),(3,pp bq28 0),(4,.bool false),(6,ii x26.Mode)] fun fr => x_p rfl<|vd<|x_p rfl<|vd<|x_p rfl<|v_ite (fun (hb29 : (!decide (x26.Mode = 3)) = true) => ?_) (fun (hb29 : (!decide (x26.Mode = 3)) = false) => ?_)
   ·refine vd<|x_vb rfl<|v_T rfl<|vl 0 tt_ok (v := ii x26.Running) ts_3 rfl<|vd<|x_vb rfl<|v_T rfl<|vl 1 tt_ok (v := ii f0.e.N) ts_3 rfl<|vd<|x_p rfl<|v_T rfl<|vd<|x_p rfl ?_
    refine vd<|x_p rfl<|vd<|x_p rfl<|v_ite (fun (hb30 : (decide (x26.Running = f0.e.N)) = true) => ?_) (fun (hb30 : (decide (x26.Running = f0.e.N)) = false) => ?_)
    ·refine vd<|xp [(1,pp bq2 0),(2,pp bq1 0),(3,pp bq28 0),(4,.bool false),(14,.bool true),(15,pp bq28 2)] fun fr => x_vb rfl<|v_T rfl<|vl 0 tt_ok (v := ii x26.Wanted) ts_3 rfl<|vd<|x_vb rfl<|v_T rfl<|vl 1 tt_ok (v := ii f0.e.N) ts_3 rfl<|vd<|x_p rfl<|v_T rfl<|vd ?_
     refine x_p rfl<|vd<|x_p rfl<|vd<|x_vb rfl<|v_ite (fun (hb31 : (decide (x26.Wanted = f0.e.N)) = true) => ?_) (fun (hb31 : (decide (x26.Wanted = f0.e.N)) = false) => ?_)
     ·refine vl 2 tt_ok (v := pp bf0 0) ts_81 rfl<|vd<|x_p rfl<|v_T rfl<|vd<|x_p rfl<|v_T rfl<|vd<|x_p rfl<|v_T rfl<|vd<|xp [(2,pp bq1 0),(3,pp bq28 0),(4,.bool false),(20,.bool true),(24,pp bf0 19)] fun fr => x_vb rfl ?_
      refine v_T rfl<|vl 5 tt_ok (v := ii f0.e.Tick) ts_3 rfl<|vd<|x_p rfl<|v_T rfl<|vd<|x_vb rfl<|v_T rfl<|vl 0 tt_ok (v := ii x26.Since) ts_3 rfl<|vd<|x_p rfl<|v_T rfl<|v_num (e' := w64 (f0.e.Tick - x26.Since)) rfl ?_
      refine vd<|x_vb rfl<|v_T rfl<|vl 2 tt_ok (v := pp bf0 0) ts_81 rfl<|vd<|x_p rfl<|v_T rfl<|vd<|x_p rfl<|v_T rfl<|vd<|x_p rfl<|v_T rfl ?_
      refine vd<|x_vb rfl<|v_T rfl<|vl 5 tt_ok (v := ii f0.c.Bake) ts_3 rfl<|vd<|xp [(4,.bool false),(20,.bool true),(28,ii (w64 (f0.e.Tick - x26.Since))),(33,ii f0.c.Bake)] fun fr => x_p rfl<|v_T rfl<|vd<|x_p rfl<|vd<|x_p rfl<|vd ?_
      exact xk [(4,.bool (decide (f0.c.Bake ≤ w64 (f0.e.Tick - x26.Since))))] fun fr => rd ⟨_,fr_eq _ (by (try rw [hb31]); (try rw [hb30]); (try rw [hb29]); kernel_rfl),by kernel_rfl⟩
     refine vd<|x_p rfl<|v_F rfl<|vd<|x_p rfl<|v_F rfl<|vd<|x_p rfl<|v_F rfl<|vd<|xp [(2,pp bq1 0),(3,pp bq28 0),(4,.bool false),(20,.bool false),(24,undef)] fun fr => x_vb rfl<|v_F rfl ?_
     refine vd<|x_p rfl<|v_F rfl<|vd<|x_vb rfl<|v_F rfl<|vd<|x_p rfl<|v_F rfl<|vd<|x_vb rfl<|v_F rfl<|vd ?_
     refine x_p rfl<|v_F rfl<|vd<|x_p rfl<|v_F rfl<|vd<|x_p rfl<|v_F rfl<|vd<|x_vb rfl<|v_F rfl<|vd<|xp [(4,.bool false),(20,.bool false),(28,undef),(33,undef)] fun fr => ?_
     exact x_p rfl<|v_F rfl<|vd<|x_p rfl<|v_F rfl<|vd<|x_p rfl<|vd<|xk [(4,.bool false)] fun fr => rd ⟨_,fr_eq _ (by (try rw [hb31]); (try rw [hb30]); (try rw [hb29]); kernel_rfl),by kernel_rfl⟩
    refine vd<|xp [(1,pp bq2 0),(2,pp bq1 0),(3,pp bq28 0),(4,.bool false),(14,.bool false),(15,undef)] fun fr => x_vb rfl<|v_F rfl<|vd<|x_vb rfl<|v_F rfl<|vd<|x_p rfl<|v_F rfl<|vd<|x_p rfl<|v_F rfl ?_
    refine vd<|x_p rfl<|vd<|x_vb rfl<|v_F rfl<|vd<|x_p rfl<|v_F rfl<|vd<|x_p rfl<|v_F rfl<|vd<|x_p rfl ?_
    refine v_F rfl<|vd<|xp [(2,pp bq1 0),(3,pp bq28 0),(4,.bool false),(20,.bool false),(24,undef)] fun fr => x_vb rfl<|v_F rfl<|vd<|x_p rfl<|v_F rfl<|vd<|x_vb rfl<|v_F rfl<|vd<|x_p rfl ?_
    refine v_F rfl<|vd<|x_vb rfl<|v_F rfl<|vd<|x_p rfl<|v_F rfl<|vd<|x_p rfl<|v_F rfl<|vd<|x_p rfl<|v_F rfl ?_
    refine vd<|x_vb rfl<|v_F rfl<|vd<|xp [(4,.bool false),(20,.bool false),(28,undef),(33,undef)] fun fr => x_p rfl<|v_F rfl<|vd<|x_p rfl<|v_F rfl<|vd<|x_p rfl<|vd ?_
    exact xk [(4,.bool false)] fun fr => rd ⟨_,fr_eq _ (by (try rw [hb30]); (try rw [hb29]); kernel_rfl),by kernel_rfl⟩
   refine vd<|x_vb rfl<|v_F rfl<|vd<|x_vb rfl<|v_F rfl<|vd<|x_p rfl<|v_F rfl<|vd<|x_p rfl<|v_F rfl<|vd ?_
   refine x_p rfl<|vd<|x_p rfl<|v_F rfl<|vd<|xp [(1,pp bq2 0),(2,pp bq1 0),(3,pp bq28 0),(4,.bool false),(14,.bool false),(15,undef)] fun fr => x_vb rfl<|v_F rfl<|vd<|x_vb rfl<|v_F rfl<|vd<|x_p rfl ?_
   refine v_F rfl<|vd<|x_p rfl<|v_F rfl<|vd<|x_p rfl<|vd<|x_vb rfl<|v_F rfl<|vd<|x_p rfl<|v_F rfl<|vd ?_
   refine x_p rfl<|v_F rfl<|vd<|x_p rfl<|v_F rfl<|vd<|xp [(2,pp bq1 0),(3,pp bq28 0),(4,.bool false),(20,.bool false),(24,undef)] fun fr => x_vb rfl<|v_F rfl<|vd<|x_p rfl<|v_F rfl<|vd ?_
   refine x_vb rfl<|v_F rfl<|vd<|x_p rfl<|v_F rfl<|vd<|x_vb rfl<|v_F rfl<|vd<|x_p rfl<|v_F rfl<|vd<|x_p rfl ?_
   refine v_F rfl<|vd<|x_p rfl<|v_F rfl<|vd<|x_vb rfl<|v_F rfl<|vd<|xp [(4,.bool false),(20,.bool false),(28,undef),(33,undef)] fun fr => x_p rfl<|v_F rfl<|vd<|x_p rfl ?_
   exact v_F rfl<|vd<|x_p rfl<|vd<|xk [(4,.bool false)] fun fr => rd ⟨_,fr_eq _ (by (try rw [hb29]); kernel_rfl),by kernel_rfl⟩
   rintro fr S ⟨fr,rfl,rfl⟩
   refine rd ?_
   repeat refine rd ?_
   repeat refine rd ?_
   refine ret_of (RV.tmp RV.nil) (Le.refl _)<|kr [(0,.slice g_f0.s_Cells.1 f0.s.Cells.length g_f0.s_Cells.2),(1,.func (.func 113) #[] #[pp bq2 0,pp bq1 0]),(5,ii x24),(7,ii (f0.s.Cells.length : Int)),(8,ii x24),(16,.bool ((!decide (x26.Mode = 3)) && ((decide (x26.Running = f0.e.N)) && ((decide (x26.Wanted = f0.e.N)) && (decide (f0.c.Bake ≤ w64 (f0.e.Tick - x26.Since)))))))] fun fr => rd ?_
   apply r_iteh h<;>clear h<;>intro h
   ·refine rb<|rd ?_
    repeat refine rd ?_
    replace h := h_m h
    subst hK35
    repeat refine rd ?_
    exact ret_of (RV.tmp RV.nil) (le_w [false,true,true,true,true,true]) ⟨x24,h,rfl,rfl⟩
   exact rd<|rd<|r_num (e' := w64 (x24 + 1)) rfl<|r_le (le_w [false,true,true,true,true,true])<|rd ⟨m36,lt_s hm36,w64 (x24 + 1),_,h,fe _,by kernel_rfl⟩
  refine rd<|rd ?_
  replace h := h_m h
  subst hK35
  refine rd<|rb<|rd ?_
  repeat refine rd ?_
  repeat refine rd ?_
  exact ret_of (RV.tmp RV.nil) (Le.refl _) ⟨(-1),h,rfl,rfl⟩
 clear h
 rintro v S ⟨x37,h,rfl,rfl⟩
 replace h := hK39 _ h
 refine rd ?_
 repeat refine rd ?_
 repeat refine rd ?_
 refine ret_of (RV.tmp RV.nil) (Le.refl _)<|rd<|rb<|rb<|kr [(1,pp bq1 0),(3,pp bq2 0),(24,.bool (!(decide (0 ≤ x37))))] fun fr => rd ?_
 apply r_iteh h<;>clear h<;>intro h
 ·refine rb<|rd ?_
  repeat refine rd ?_
  repeat refine rd ?_
  obtain rfl := h_out h
  exact ret_of (RV.tmp RV.nil) (le_w [false,false,true,true,true]) ⟨rfl,rfl⟩
 refine rd<|rb<|r_mix tt_ok hm_ok _ _ [11] (.vb 0 (.pure 1 (.pure 2 (.pure 3 (.va 4 (.vb 5 (.pure 6 (.pure 7 (.pure 8 (.pure 9 (.pure 10 (.eff 11 .nil)))))))))))) (le_w [true,true,true,true,true]) (le_w [true,true,true,true,false]) ?_ ?_
 ·decide +kernel
 refine x_vb rfl<|vl 1 tt_ok (v := pp bf0 0) ts_81 rfl<|vd<|x_p rfl<|vd<|x_p rfl<|vd<|x_p rfl<|vd<|x_va rfl<|vl 4 tt_ok (v := ii f0.s.Proven) ts_3 rfl<|vd<|x_vb rfl ?_
 refine vl 0 tt_ok (v := ii f0.e.N) ts_3 rfl<|vd<|x_p rfl ?_
 replace h := h_p h; obtain ⟨hc41,h⟩ := h
 refine v_check hc41<|v_num (e' := shl .i64 1 f0.e.N) rfl<|vd<|x_p rfl<|v_num (e' := bOr .i64 f0.s.Proven (shl .i64 1 f0.e.N)) rfl<|vd<|x_p rfl<|vd<|xp [(32,ii (bOr .i64 f0.s.Proven (shl .i64 1 f0.e.N))),(33,pp bf0 0)] fun fr => x_p rfl<|vd<|x_p rfl<|vd ?_
 refine x_e rfl<|st 4 tt_ok (en_state_fold ({ f0 with s := { f0.s with Proven := bOr .i64 f0.s.Proven (shl .i64 1 f0.e.N) } }) g_f0) (f1 ts_3) rfl<|rd ⟨rfl,k_b rfl (le_w [true,true,true,true,false]),?_⟩
 refine xk [] fun fr => rd<|rb<|rd ?_
 repeat refine rd ?_
 repeat refine rd ?_
 obtain rfl := h_out h
 exact ret_of (RV.tmp RV.nil) (le_w [false,false,true,true,true]) ⟨rfl,rfl⟩
theorem hc_83 {bf0 : Nat} {g_f0 : gstate_fold} {S_f0 : St} (hS_f0 : Le ⟨ρ,L⟩ S_f0) (f0 : state_fold) (h_f0 : Sl_state_fold S_f0 f0 g_f0) (h_f0_t : g_f0.t = fptr g_f0.s_Tenants.1 f0.e.Tenant 12) (h_f0_cell : g_f0.cell = fptr g_f0.s_Cells.1 f0.e.Cell 4) {r : (Int × State)} (h : state_fold_evacuate f0 = some r) : HC Tryz.prog 83 #[pp bf0 0] ⟨ρ,.row g_f0.s_Tenants.1 f0.s.Tenants.length g_f0.s_Tenants.2 58 12 (fl eTenantState.en f0.s.Tenants) :: .row g_f0.s_Cells.1 f0.s.Cells.length g_f0.s_Cells.2 54 4 (fl eCellState.en f0.s.Cells) :: .obj bf0 (en_state_fold f0 g_f0) 85 :: L⟩ (fun v S' => v = ii r.1 ∧ S' = ⟨ρ,.row g_f0.s_Tenants.1 r.2.Tenants.length g_f0.s_Tenants.2 58 12 (fl eTenantState.en r.2.Tenants) :: .row g_f0.s_Cells.1 r.2.Cells.length g_f0.s_Cells.2 54 4 (fl eCellState.en r.2.Cells) :: .obj bf0 (en_state_fold ({ f0 with s := r.2 }) g_f0) 85 :: L⟩) := by
 replace h := h_in h
 refine HC.intro (N := 36) (args := [_]) tt_ok Tryz.func83 rfl (by decide +kernel) rfl (Nat.le_of_ble_eq_true rfl)<|rb<|rd<|rb<|rb<|r_mix tt_ok hm_ok _ _ [] (.pure 0 (.pure 1 (.pure 2 (.pure 3 (.vb 4 (.pure 5 (.pure 6 (.pure 7 (.pure 8 (.vb 9 (.pure 10 (.pure 11 (.pure 12 (.pure 13 (.pure 14 (.pure 15 (.vb 16 (.pure 17 .nil)))))))))))))))))) (le_w [true,true,true]) (le_w [true,true,true]) ?_ ?_
 ·decide +kernel
 refine x_p rfl<|vd<|x_p rfl<|vd<|x_p rfl<|vd<|x_p rfl<|vd<|x_vb rfl<|vl 2 tt_ok (v := ii f0.s.Evacuating) ts_3 rfl<|vd<|x_p rfl<|vd ?_
 refine x_p rfl<|vd<|x_p rfl<|vd<|xp [(0,pp bf0 0),(7,ii f0.s.Evacuating),(10,pp bf0 18)] fun fr => x_p rfl<|vd<|x_vb rfl<|vl 2 tt_ok (v := ii f0.e.Other) ts_3 rfl<|vd<|x_p rfl ?_
 replace h := h_p h; obtain ⟨hc1,h⟩ := h
 refine v_check hc1<|v_num (e' := shr .i64 f0.s.Evacuating f0.e.Other) rfl<|vd<|x_p rfl<|v_num (e' := bAnd .i64 (shr .i64 f0.s.Evacuating f0.e.Other) 1) rfl<|vd<|x_p rfl<|vd<|x_p rfl<|vd<|x_p rfl<|vd<|x_p rfl ?_
 refine vd<|x_vb rfl<|vl 2 tt_ok (v := ii f0.e.N) ts_3 rfl<|vd<|xp [(0,pp bf0 0),(14,ii (bAnd .i64 (shr .i64 f0.s.Evacuating f0.e.Other) 1)),(19,ii f0.e.N)] fun fr => x_p rfl<|vd<|xk [(0,pp bf0 0),(20,.bool (decide (bAnd .i64 (shr .i64 f0.s.Evacuating f0.e.Other) 1 = f0.e.N)))] fun fr => rd ?_
 apply r_iteh h<;>clear h<;>intro h
 ·refine rb<|rd ?_
  repeat refine rd ?_
  repeat refine rd ?_
  obtain rfl := h_out h
  exact ret_of (RV.tmp RV.nil) (Le.refl _) ⟨rfl,rfl⟩
 refine rd<|rb<|r_mix tt_ok hm_ok _ _ [15] (.pure 0 (.pure 1 (.pure 2 (.pure 3 (.va 4 (.pure 5 (.pure 6 (.pure 7 (.pure 8 (.va 9 (.pure 10 (.pure 11 (.pure 12 (.pure 13 (.pure 14 (.eff 15 .nil)))))))))))))))) (le_w [true,true,true]) (le_w [true,true,false]) ?_ ?_
 ·decide +kernel
 refine x_p rfl<|vd<|x_p rfl<|vd<|x_p rfl<|vd<|x_p rfl<|vd<|x_va rfl<|vl 2 tt_ok (v := ii f0.s.Evacuating) ts_3 rfl<|vd<|x_p rfl<|vd ?_
 refine x_p rfl<|vd<|x_p rfl<|vd<|x_p rfl<|vd<|xp [(21,pp bf0 0),(25,ii f0.s.Evacuating),(29,pp bf0 22)] fun fr => x_va rfl<|vl 2 tt_ok (v := ii f0.e.Other) ts_3 rfl<|vd<|x_p rfl ?_
 replace h := h_p h; obtain ⟨hc3,h⟩ := h
 refine v_check hc3<|v_num (e' := shl .i64 1 f0.e.Other) rfl<|vd<|x_p rfl<|v_num (e' := bXor .i64 f0.s.Evacuating (shl .i64 1 f0.e.Other)) rfl<|vd<|x_p rfl<|vd<|x_p rfl<|vd<|x_p rfl<|vd<|x_e rfl ?_
 refine st 2 tt_ok (en_state_fold ({ f0 with s := { f0.s with Evacuating := bXor .i64 f0.s.Evacuating (shl .i64 1 f0.e.Other) } }) g_f0) (f1 ts_3) rfl<|rd ⟨rfl,k_b rfl (le_w [true,true,false]),?_⟩
 refine xk [] fun fr => rd<|rb<|rd ?_
 repeat refine rd ?_
 repeat refine rd ?_
 obtain rfl := h_out h
 exact ret_of (RV.tmp RV.nil) (Le.refl _) ⟨rfl,rfl⟩
theorem hc_114 {bf0 : Nat} {g_f0 : gstate_fold} {S_f0 : St} (hS_f0 : Le ⟨ρ,L⟩ S_f0) (f0 : state_fold) (version1 : Int) (h_f0 : Sl_state_fold S_f0 f0 g_f0) (h_f0_t : g_f0.t = fptr g_f0.s_Tenants.1 f0.e.Tenant 12) (h_f0_cell : g_f0.cell = fptr g_f0.s_Cells.1 f0.e.Cell 4) {r : Bool} (h : state_fold_old f0 version1 = some r) : HC Tryz.prog 114 #[pp bf0 0,ii version1] ⟨ρ,.row g_f0.s_Tenants.1 f0.s.Tenants.length g_f0.s_Tenants.2 58 12 (fl eTenantState.en f0.s.Tenants) :: .row g_f0.s_Cells.1 f0.s.Cells.length g_f0.s_Cells.2 54 4 (fl eCellState.en f0.s.Cells) :: .obj bf0 (en_state_fold f0 g_f0) 85 :: L⟩ (fun v S' => v = .bool r ∧ S' = ⟨ρ,.row g_f0.s_Tenants.1 f0.s.Tenants.length g_f0.s_Tenants.2 58 12 (fl eTenantState.en f0.s.Tenants) :: .row g_f0.s_Cells.1 f0.s.Cells.length g_f0.s_Cells.2 54 4 (fl eCellState.en f0.s.Cells) :: .obj bf0 (en_state_fold f0 g_f0) 85 :: L⟩) := by
 replace h := h_in h
 refine HC.intro (N := 34) (args := [_,_]) tt_ok Tryz.func114 rfl (by decide +kernel) rfl (Nat.le_of_ble_eq_true rfl)<|rb<|rd<|rb ?_
 replace h := h_j h; obtain ⟨K6,h,hK7⟩ := h
 refine r_meet (fun fr S => ∃ (x5 : Bool),∃ fr0,K6 x5 = some r ∧ fr = updL [(4,.bool x5)] fr0 ∧ S = ⟨ρ,.row g_f0.s_Tenants.1 f0.s.Tenants.length g_f0.s_Tenants.2 58 12 (fl eTenantState.en f0.s.Tenants) :: .row g_f0.s_Cells.1 f0.s.Cells.length g_f0.s_Cells.2 54 4 (fl eCellState.en f0.s.Cells) :: .obj bf0 (en_state_fold f0 g_f0) 85 :: L⟩) ?_ ?_
 refine r_mix tt_ok hm_ok _ _ [] (.pure 0 (.pure 1 (.pure 2 (.pure 3 (.pure 4 (.pure 5 (.pure 6 (.pure 7 (.vb 8 (.pure 9 (.pure 10 (.pure 11 (.pure 12 (.pure 13 (.pure 14 (.pure 15 (.pure 16 (.vb 17 (.pure 18 (.vb 19 (.pure 20 (.vb 21 (.pure 22 (.pure 23 (.pure 24 (.pure 25 (.vb 26 (.pure 27 (.pure 28 (.pure 29 .nil)))))))))))))))))))))))))))))) (le_w [true,true,true]) (le_w [true,true,true]) ?_ ?_
 ·decide +kernel
 refine xp [(0,pp bf0 0),(1,ii version1),(4,.bool false)] fun fr => x_p rfl<|vd<|x_p rfl<|vd<|x_p rfl<|vd<|x_p rfl ?_
 apply v_iteh h<;>clear h<;>intro h
 ·refine vd<|x_p rfl<|v_T rfl<|vd<|x_p rfl<|v_T rfl<|vd<|x_p rfl<|v_T rfl<|vd<|x_p rfl<|v_T rfl<|vd ?_
  refine x_vb rfl<|v_T rfl<|vd<|xp [(0,pp bf0 0),(1,ii version1),(4,.bool false),(7,.bool true),(8,undef),(13,undef)] fun fr => x_p rfl<|v_T rfl<|vd<|x_p rfl<|v_T rfl<|vd<|x_p rfl<|v_T rfl<|vd ?_
  refine x_p rfl<|vd<|x_p rfl<|v_T rfl<|vd<|x_p rfl<|v_T rfl<|vd<|x_p rfl<|v_T rfl<|vd<|x_p rfl<|v_T rfl ?_
  refine vd<|x_vb rfl<|v_T rfl<|vd<|xp [(0,pp bf0 0),(1,ii version1),(4,.bool false),(17,.bool true),(22,undef)] fun fr => x_p rfl<|v_T rfl<|vd<|x_vb rfl<|v_T rfl<|vd<|x_p rfl<|v_T rfl ?_
  refine vd<|x_vb rfl<|v_T rfl<|vd<|x_p rfl<|v_T rfl<|vd<|x_p rfl<|v_T rfl<|vd<|x_p rfl<|v_T rfl<|vd ?_
  refine x_p rfl<|v_T rfl<|vd<|x_vb rfl<|v_T rfl<|vd<|xp [(4,.bool false),(17,.bool true),(26,undef),(31,undef)] fun fr => x_p rfl<|v_T rfl<|vd<|x_p rfl<|v_T rfl<|vd ?_
  exact x_p rfl<|vd<|xk [(4,.bool true)] fun fr => rd ⟨true,_,h,fe _,by kernel_rfl⟩
 refine vd<|x_p rfl<|v_F rfl<|vd<|x_p rfl<|v_F rfl<|vd<|x_p rfl<|v_F rfl<|vd<|x_p rfl<|v_F rfl<|vd ?_
 refine x_vb rfl<|v_F rfl<|vl 2 tt_ok (v := .slice g_f0.c_Versions.1 f0.c.Versions.length g_f0.c_Versions.2) ts_28 rfl<|vd<|xp [(0,pp bf0 0),(1,ii version1),(4,.bool false),(7,.bool false),(8,ii version1),(13,.slice g_f0.c_Versions.1 f0.c.Versions.length g_f0.c_Versions.2)] fun fr => x_p rfl<|v_F rfl<|vd<|x_p rfl<|v_F rfl<|vd<|x_p rfl<|vd ?_
 refine x_p rfl<|vd<|x_p rfl ?_
 apply v_iteh h<;>clear h<;>intro h
 ·refine vd<|x_p rfl<|v_T rfl<|vd<|x_p rfl<|v_T rfl<|vd<|x_p rfl<|v_T rfl<|vd<|x_vb rfl<|v_T rfl<|vd ?_
  refine xp [(0,pp bf0 0),(1,ii version1),(4,.bool false),(17,.bool true),(22,undef)] fun fr => x_p rfl<|v_T rfl<|vd<|x_vb rfl<|v_T rfl<|vd<|x_p rfl<|v_T rfl<|vd<|x_vb rfl<|v_T rfl<|vd ?_
  refine x_p rfl<|v_T rfl<|vd<|x_p rfl<|v_T rfl<|vd<|x_p rfl<|v_T rfl<|vd<|x_p rfl<|v_T rfl<|vd<|x_vb rfl ?_
  exact v_T rfl<|vd<|xp [(4,.bool false),(17,.bool true),(26,undef),(31,undef)] fun fr => x_p rfl<|v_T rfl<|vd<|x_p rfl<|v_T rfl<|vd<|x_p rfl<|vd<|xk [(4,.bool true)] fun fr => rd ⟨true,_,h,fe _,by kernel_rfl⟩
 refine vd<|x_p rfl<|v_F rfl<|vd<|x_p rfl<|v_F rfl<|vd<|x_p rfl<|v_F rfl<|vd<|x_vb rfl<|v_F rfl<|vl 2 tt_ok (v := .slice g_f0.c_Versions.1 f0.c.Versions.length g_f0.c_Versions.2) ts_28 rfl ?_
 refine vd<|xp [(0,pp bf0 0),(1,ii version1),(4,.bool false),(17,.bool false),(22,.slice g_f0.c_Versions.1 f0.c.Versions.length g_f0.c_Versions.2)] fun fr => x_p rfl<|v_F rfl<|vd<|x_vb rfl<|v_F rfl ?_
 replace h := h_b h; obtain ⟨x3,hx4,h⟩ := h
 refine v_el hx4 ((h_f0.2.2.2.1).rd.mono ((le_d 3).trans hS_f0))<|vd<|x_p rfl<|v_F rfl<|vd<|x_vb rfl<|v_F rfl<|v_lec (E := eVersion) tt_ok (v := ii x3.High) (idx_get hx4) ((h_f0.2.2.2.1).rd.mono ((le_d 3).trans hS_f0)) ts_3 rfl (pl1 _ _ _) (by kernel_rfl)<|vd<|x_p rfl<|v_F rfl<|vd<|x_p rfl ?_
 refine v_F rfl<|vd<|x_p rfl<|v_F rfl<|vd<|x_p rfl<|v_F rfl<|vd<|x_vb rfl<|v_F rfl<|vl 2 tt_ok (v := ii f0.s.High) ts_3 rfl<|vd<|xp [(4,.bool false),(17,.bool false),(26,ii x3.High),(31,ii f0.s.High)] fun fr => ?_
 exact x_p rfl<|v_F rfl<|vd<|x_p rfl<|vd<|x_p rfl<|vd<|xk [(4,.bool (decide (x3.High ≤ f0.s.High)))] fun fr => rd ⟨decide (x3.High ≤ f0.s.High),_,h,fe _,by kernel_rfl⟩
 clear h
 rintro fr S ⟨x5,fr,h,rfl,rfl⟩
 replace h := hK7 _ h
 refine rd ?_
 repeat refine rd ?_
 repeat refine rd ?_
 obtain rfl := h_out h
 exact ret_of (RV.tmp RV.nil) (Le.refl _) ⟨rfl,rfl⟩
theorem hc_84 {bf0 : Nat} {g_f0 : gstate_fold} {S_f0 : St} (hS_f0 : Le ⟨ρ,L⟩ S_f0) (f0 : state_fold) (h_f0 : Sl_state_fold S_f0 f0 g_f0) (h_f0_t : g_f0.t = fptr g_f0.s_Tenants.1 f0.e.Tenant 12) (h_f0_cell : g_f0.cell = fptr g_f0.s_Cells.1 f0.e.Cell 4) {r : (Int × State)} (h : state_fold_expand f0 = some r) : HC Tryz.prog 84 #[pp bf0 0] ⟨ρ,.row g_f0.s_Tenants.1 f0.s.Tenants.length g_f0.s_Tenants.2 58 12 (fl eTenantState.en f0.s.Tenants) :: .row g_f0.s_Cells.1 f0.s.Cells.length g_f0.s_Cells.2 54 4 (fl eCellState.en f0.s.Cells) :: .obj bf0 (en_state_fold f0 g_f0) 85 :: L⟩ (fun v S' => v = ii r.1 ∧ S' = ⟨ρ,.row g_f0.s_Tenants.1 r.2.Tenants.length g_f0.s_Tenants.2 58 12 (fl eTenantState.en r.2.Tenants) :: .row g_f0.s_Cells.1 r.2.Cells.length g_f0.s_Cells.2 54 4 (fl eCellState.en r.2.Cells) :: .obj bf0 (en_state_fold ({ f0 with s := r.2 }) g_f0) 85 :: L⟩) := by
 replace h := h_in h
 refine HC.intro (N := 54) (args := [_]) tt_ok Tryz.func84 rfl (by decide +kernel) rfl (Nat.le_of_ble_eq_true rfl)<|rb<|rd<|rb<|rb<|rb<|r_mix tt_ok hm_ok _ _ [] (.pure 0 (.pure 1 (.pure 2 (.pure 3 (.vb 4 (.pure 5 (.pure 6 (.pure 7 (.pure 8 (.vb 9 (.pure 10 (.pure 11 .nil)))))))))))) (le_w [true,true,true]) (le_w [true,true,true]) ?_ ?_
 ·decide +kernel
 refine x_p rfl<|vd<|x_p rfl<|vd<|x_p rfl<|vd<|x_p rfl<|vd<|x_vb rfl<|vl 2 tt_ok (v := ii f0.s.High) ts_3 rfl<|vd<|x_p rfl<|vd ?_
 refine x_p rfl<|vd<|x_p rfl<|vd<|xp [(0,pp bf0 0),(10,ii f0.s.High),(13,pp bf0 10)] fun fr => x_p rfl<|vd<|x_vb rfl<|vl 2 tt_ok (v := ii f0.s.Low) ts_3 rfl<|vd<|x_p rfl<|vd<|x_p rfl ?_
 refine vd<|xk [(0,pp bf0 0),(5,.bool (decide (f0.s.Low < f0.s.High)))] fun fr => rd ?_
 apply r_iteh h<;>clear h<;>intro h
 ·refine rb<|rd ?_
  repeat refine rd ?_
  repeat refine rd ?_
  obtain rfl := h_out h
  exact ret_of (RV.tmp RV.nil) (Le.refl _) ⟨rfl,rfl⟩
 refine rb<|ld 2 tt_ok (v := ii f0.s.High) ts_3 rfl<|rd ?_
 apply r_iteh h<;>clear h<;>intro h
 ·refine rb<|rd ?_
  repeat refine rd ?_
  repeat refine rd ?_
  obtain rfl := h_out h
  exact ret_of (RV.tmp RV.nil) (Le.refl _) ⟨rfl,rfl⟩
 refine rd<|rd<|rb ?_
 replace h := h_k h; obtain ⟨K49,h,hK50⟩ := h
 refine r_meet (fun fr S => ∃ fr0,(state_fold_expand.j1 f0).bind K49 = some r ∧ fr = updL [(0,pp bf0 0)] fr0 ∧ S = ⟨ρ,.row g_f0.s_Tenants.1 f0.s.Tenants.length g_f0.s_Tenants.2 58 12 (fl eTenantState.en f0.s.Tenants) :: .row g_f0.s_Cells.1 f0.s.Cells.length g_f0.s_Cells.2 54 4 (fl eCellState.en f0.s.Cells) :: .obj bf0 (en_state_fold f0 g_f0) 85 :: L⟩) ?_ ?_
 ·refine rb<|ld 2 tt_ok (v := .slice g_f0.s_Cells.1 f0.s.Cells.length g_f0.s_Cells.2) ts_36 rfl<|rd<|rb ?_
  replace h := h_l h; obtain ⟨K45,n46,h,hK47⟩ := h
  refine r_loop (fun n fr S => ∃ (x31 : Int),∃ fr0,(runN (state_fold_expand.b2 f0) n x31).bind K45 = some r ∧ fr = updL [(0,pp bf0 0),(28,.slice g_f0.s_Cells.1 f0.s.Cells.length g_f0.s_Cells.2),(29,ii (f0.s.Cells.length : Int)),(30,ii x31)] fr0 ∧ S = ⟨ρ,.row g_f0.s_Tenants.1 f0.s.Tenants.length g_f0.s_Tenants.2 58 12 (fl eTenantState.en f0.s.Tenants) :: .row g_f0.s_Cells.1 f0.s.Cells.length g_f0.s_Cells.2 54 4 (fl eCellState.en f0.s.Cells) :: .obj bf0 (en_state_fold f0 g_f0) 85 :: L⟩) n46 ⟨0,_,h,fe _,by kernel_rfl⟩ ?_
  clear h
  rintro n46 fr S ⟨x31,fr,h,rfl,rfl⟩
  replace h := h_r h; obtain ⟨m48,hm48,h⟩ := h
  refine rb<|rd<|rb ?_
  apply r_iteh h<;>clear h<;>intro h
  ·refine rd<|rb<|rb<|rb ?_
   replace h := h_b h; obtain ⟨x33,hx34,h⟩ := h
   refine r_el hx34 (rd_row 1 rfl)<|r_len (E := eCellState) tt_ok (en_CellState x33) (idx_get hx34) (rd_row 1 rfl) ta_54 rfl (pl0 _ _) (by kernel_rfl) (by kernel_rfl)<|r_al tt_ok (en_CellState (⟨0,0,0,0⟩ : CellState)) ti_54 (by kernel_rfl) fun bq35 => st 0 tt_ok (en_CellState x33) (fn ta_54) rfl<|rd<|rb ?_
   replace h := h_j h; obtain ⟨K42,h,hK43⟩ := h
   refine r_meet (fun fr S => ∃ (x41 : Bool),∃ fr0,K42 x41 = some r ∧ fr = updL [(0,pp bf0 0),(28,.slice g_f0.s_Cells.1 f0.s.Cells.length g_f0.s_Cells.2),(29,ii (f0.s.Cells.length : Int)),(30,ii x31),(43,.bool x41)] fr0 ∧ S = ⟨ρ,.row g_f0.s_Tenants.1 f0.s.Tenants.length g_f0.s_Tenants.2 58 12 (fl eTenantState.en f0.s.Tenants) :: .row g_f0.s_Cells.1 f0.s.Cells.length g_f0.s_Cells.2 54 4 (fl eCellState.en f0.s.Cells) :: .obj bf0 (en_state_fold f0 g_f0) 85 :: L⟩) ?_ ?_
   ·refine ld 0 tt_ok (v := ii x33.Running) ts_3 rfl<|kp [(0,pp bf0 0),(4,pp bq35 0),(28,.slice g_f0.s_Cells.1 f0.s.Cells.length g_f0.s_Cells.2),(29,ii (f0.s.Cells.length : Int)),(30,ii x31),(34,pp bf0 0),(36,ii x33.Running)] fun fr => r_le ((le_mv 3).trans ((le_mv 3).trans (le_mv 3))) ?_
    replace h := h_b h; obtain ⟨x37,hx36,h⟩ := h
    refine rc (hc_114 (bf0 := bf0) (g_f0 := g_f0) (f0 := f0) (version1 := x33.Running) (hS_f0 := by exact (le_d 1).trans hS_f0) (h_f0 :=h_f0) (h_f0_t :=h_f0_t) (h_f0_cell :=h_f0_cell) (h := hx36)) ?_
    rintro _ _ ⟨rfl,rfl⟩
    apply r_iteh h<;>clear h<;>intro h
    ·exact r_T rfl<|r_T rfl<|r_T rfl<|r_T rfl<|r_le (le_w [true,true,true,false])<|rd ⟨true,_,h,fe _,by kernel_rfl⟩
    refine r_F rfl<|r_F rfl<|ld 3 tt_ok (v := ii x33.Wanted) ts_3 rfl<|r_F rfl ?_
    replace h := h_b h; obtain ⟨x40,hx39,h⟩ := h
    refine rc (hc_114 (bf0 := bf0) (g_f0 := g_f0) (f0 := f0) (version1 := x33.Wanted) (hS_f0 := by exact (le_d 1).trans hS_f0) (h_f0 :=h_f0) (h_f0_t :=h_f0_t) (h_f0_cell :=h_f0_cell) (h := hx39)) ?_
    rintro _ _ ⟨rfl,rfl⟩
    exact r_le (le_w [true,true,true,false])<|rd ⟨x40,_,h,fe _,by kernel_rfl⟩
   clear h
   rintro fr S ⟨x41,fr,h,rfl,rfl⟩
   replace h := hK43 _ h
   refine rd ?_
   apply r_iteh h<;>clear h<;>intro h
   ·refine rb<|rd ?_
    repeat refine rd ?_
    replace h := h_m h
    subst hK47
    subst hK50
    repeat refine rd ?_
    obtain rfl := h_out h
    exact ret_of (RV.tmp RV.nil) (Le.refl _) ⟨rfl,rfl⟩
   exact rd<|rd<|r_num (e' := w64 (x31 + 1)) rfl<|rd ⟨m48,lt_s hm48,w64 (x31 + 1),_,h,fe _,by kernel_rfl⟩
  refine rd<|rd ?_
  replace h := h_m h
  subst hK47
  exact rd ⟨_,h,fe _,by kernel_rfl⟩
 clear h
 rintro fr S ⟨fr,h,rfl,rfl⟩
 subst hK50
 refine rd<|rb<|ld 2 tt_ok (v := ii f0.s.High) ts_3 rfl<|r_num (e' := w64 (f0.s.High + 1)) rfl<|st 2 tt_ok (en_state_fold ({ f0 with s := { f0.s with High := w64 (f0.s.High + 1) } }) g_f0) (f1 ts_3) rfl<|kr [] fun fr => rd<|rb<|rd ?_
 repeat refine rd ?_
 repeat refine rd ?_
 obtain rfl := h_out h
 exact ret_of (RV.tmp RV.nil) (Le.refl _) ⟨rfl,rfl⟩
theorem hc_85 {bf0 : Nat} {g_f0 : gstate_fold} {S_f0 : St} (hS_f0 : Le ⟨ρ,L⟩ S_f0) (f0 : state_fold) (h_f0 : Sl_state_fold S_f0 f0 g_f0) (h_f0_t : g_f0.t = fptr g_f0.s_Tenants.1 f0.e.Tenant 12) (h_f0_cell : g_f0.cell = fptr g_f0.s_Cells.1 f0.e.Cell 4)  : HC Tryz.prog 85 #[pp bf0 0] ⟨ρ,.row g_f0.s_Tenants.1 f0.s.Tenants.length g_f0.s_Tenants.2 58 12 (fl eTenantState.en f0.s.Tenants) :: .row g_f0.s_Cells.1 f0.s.Cells.length g_f0.s_Cells.2 54 4 (fl eCellState.en f0.s.Cells) :: .obj bf0 (en_state_fold f0 g_f0) 85 :: L⟩ (fun v S' => v = ii ((state_fold_contract f0).1) ∧ S' = ⟨ρ,.row g_f0.s_Tenants.1 (((state_fold_contract f0).2).Tenants).length g_f0.s_Tenants.2 58 12 (fl eTenantState.en (((state_fold_contract f0).2).Tenants)) :: .row g_f0.s_Cells.1 (((state_fold_contract f0).2).Cells).length g_f0.s_Cells.2 54 4 (fl eCellState.en (((state_fold_contract f0).2).Cells)) :: .obj bf0 (en_state_fold ({ f0 with s := (state_fold_contract f0).2 }) g_f0) 85 :: L⟩) := by
 generalize h : state_fold_contract f0 = r
 unfold state_fold_contract at h
 refine HC.intro (N := 23) (args := [_]) tt_ok Tryz.func85 rfl (by decide +kernel) rfl (Nat.le_of_ble_eq_true rfl)<|rb<|rd<|rb<|rb<|r_mix tt_ok hm_ok _ _ [] (.pure 0 (.pure 1 (.pure 2 (.pure 3 (.vb 4 (.pure 5 (.pure 6 (.pure 7 (.pure 8 (.vb 9 (.pure 10 .nil))))))))))) (le_w [true,true,true]) (le_w [true,true,true]) ?_ ?_
 ·decide +kernel
 refine x_p rfl<|vd<|x_p rfl<|vd<|x_p rfl<|vd<|x_p rfl<|vd<|x_vb rfl<|vl 2 tt_ok (v := ii f0.s.High) ts_3 rfl<|vd<|x_p rfl<|vd ?_
 refine x_p rfl<|vd<|x_p rfl<|vd<|xp [(0,pp bf0 0),(7,ii f0.s.High),(10,pp bf0 10)] fun fr => x_p rfl<|vd<|x_vb rfl<|vl 2 tt_ok (v := ii f0.s.Low) ts_3 rfl<|vd<|x_p rfl<|vd<|xk [(0,pp bf0 0),(13,.bool (decide (f0.s.High = f0.s.Low)))] fun fr => ?_
 refine rd ?_
 apply r_itet h<;>clear h<;>intro h
 ·refine rb<|rd ?_
  repeat refine rd ?_
  repeat refine rd ?_
  subst h
  exact ret_of (RV.tmp RV.nil) (Le.refl _) ⟨rfl,rfl⟩
 refine rd<|rb<|ld 2 tt_ok (v := ii f0.s.High) ts_3 rfl<|st 2 tt_ok (en_state_fold ({ f0 with s := { f0.s with Low := f0.s.High } }) g_f0) (f1 ts_3) rfl<|kr [] fun fr => rd<|rb<|rd ?_
 repeat refine rd ?_
 repeat refine rd ?_
 subst h
 exact ret_of (RV.tmp RV.nil) (Le.refl _) ⟨rfl,rfl⟩
theorem hc_41 {bf0 : Nat} {g_f0 : gstate_fold} {S_f0 : St} (hS_f0 : Le ⟨ρ,L⟩ S_f0) (f0 : state_fold) (h_f0 : Sl_state_fold S_f0 f0 g_f0) (h_f0_t : g_f0.t = fptr g_f0.s_Tenants.1 f0.e.Tenant 12) (h_f0_cell : g_f0.cell = fptr g_f0.s_Cells.1 f0.e.Cell 4) {r : (Int × State)} (h : state_fold_apply f0 = some r) : HC Tryz.prog 41 #[pp bf0 0] ⟨ρ,.row g_f0.s_Tenants.1 f0.s.Tenants.length g_f0.s_Tenants.2 58 12 (fl eTenantState.en f0.s.Tenants) :: .row g_f0.s_Cells.1 f0.s.Cells.length g_f0.s_Cells.2 54 4 (fl eCellState.en f0.s.Cells) :: .obj bf0 (en_state_fold f0 g_f0) 85 :: L⟩ (fun v S' => v = ii r.1 ∧ S' = ⟨ρ,.row g_f0.s_Tenants.1 r.2.Tenants.length g_f0.s_Tenants.2 58 12 (fl eTenantState.en r.2.Tenants) :: .row g_f0.s_Cells.1 r.2.Cells.length g_f0.s_Cells.2 54 4 (fl eCellState.en r.2.Cells) :: .obj bf0 (en_state_fold ({ f0 with s := r.2 }) g_f0) 85 :: L⟩) := by
 replace h := h_in h
 refine HC.intro (N := 68) (args := [_]) tt_ok Tryz.func41 rfl (by decide +kernel) rfl (Nat.le_of_ble_eq_true rfl)<|rb<|rd<|rb<|rb<|ld 2 tt_ok (v := ii f0.e.Kind) ts_3 rfl<|rd<|rb<|rb<|rd ?_
 apply r_iteh h<;>clear h<;>intro h
 ·refine rb ?_
  replace h := h_b h; obtain ⟨⟨x3,x4⟩,hx2,h⟩ := h
  refine rc (hc_71 (bf0 := bf0) (g_f0 := g_f0) (f0 := f0) (hS_f0 := by exact (le_d 0).trans hS_f0) (h_f0 :=h_f0) (h_f0_t :=h_f0_t) (h_f0_cell :=h_f0_cell) (h := hx2)) ?_
  rintro _ _ ⟨rfl,rfl⟩
  refine kp [(2,ii 0),(11,ii x3)] fun fr => rd ?_
  repeat refine rd ?_
  repeat refine rd ?_
  obtain rfl := h_out h
  exact ret_of (RV.tmp RV.nil) (Le.refl _) ⟨rfl,rfl⟩
 refine rb<|kr [(0,pp bf0 0),(7,ii f0.e.Kind),(12,.bool (decide (f0.e.Kind = 2)))] fun fr => rd ?_
 apply r_iteh h<;>clear h<;>intro h
 ·refine rb ?_
  replace h := h_b h; obtain ⟨⟨x7,x8⟩,hx6,h⟩ := h
  refine rc (hc_72 (bf0 := bf0) (g_f0 := g_f0) (f0 := f0) (hS_f0 := by exact (le_d 0).trans hS_f0) (h_f0 :=h_f0) (h_f0_t :=h_f0_t) (h_f0_cell :=h_f0_cell) (h := hx6)) ?_
  rintro _ _ ⟨rfl,rfl⟩
  refine rd ?_
  repeat refine rd ?_
  repeat refine rd ?_
  obtain rfl := h_out h
  exact ret_of (RV.tmp RV.nil) (Le.refl _) ⟨rfl,rfl⟩
 refine rb<|rd ?_
 apply r_iteh h<;>clear h<;>intro h
 ·refine rb ?_
  replace h := h_b h; obtain ⟨⟨x11,x12⟩,hx10,h⟩ := h
  refine rc (hc_73 (bf0 := bf0) (g_f0 := g_f0) (f0 := f0) (hS_f0 := by exact (le_d 0).trans hS_f0) (h_f0 :=h_f0) (h_f0_t :=h_f0_t) (h_f0_cell :=h_f0_cell) (h := hx10)) ?_
  rintro _ _ ⟨rfl,rfl⟩
  refine rd ?_
  repeat refine rd ?_
  repeat refine rd ?_
  obtain rfl := h_out h
  exact ret_of (RV.tmp RV.nil) (Le.refl _) ⟨rfl,rfl⟩
 refine rb<|rd ?_
 apply r_iteh h<;>clear h<;>intro h
 ·refine rb ?_
  replace h := h_b h; obtain ⟨⟨x15,x16⟩,hx14,h⟩ := h
  refine rc (hc_74 (bf0 := bf0) (g_f0 := g_f0) (f0 := f0) (hS_f0 := by exact (le_d 0).trans hS_f0) (h_f0 :=h_f0) (h_f0_t :=h_f0_t) (h_f0_cell :=h_f0_cell) (h := hx14)) ?_
  rintro _ _ ⟨rfl,rfl⟩
  refine rd ?_
  repeat refine rd ?_
  repeat refine rd ?_
  obtain rfl := h_out h
  exact ret_of (RV.tmp RV.nil) (Le.refl _) ⟨rfl,rfl⟩
 refine rb<|rd ?_
 apply r_iteh h<;>clear h<;>intro h
 ·refine rb ?_
  replace h := h_b h; obtain ⟨⟨x19,x20⟩,hx18,h⟩ := h
  refine rc (hc_75 (bf0 := bf0) (g_f0 := g_f0) (f0 := f0) (hS_f0 := by exact (le_d 0).trans hS_f0) (h_f0 :=h_f0) (h_f0_t :=h_f0_t) (h_f0_cell :=h_f0_cell) (h := hx18)) ?_
  rintro _ _ ⟨rfl,rfl⟩
  refine kr [(2,ii x19)] fun fr => rd ?_
  repeat refine rd ?_
  repeat refine rd ?_
  obtain rfl := h_out h
  exact ret_of (RV.tmp RV.nil) (Le.refl _) ⟨rfl,rfl⟩
 refine rb<|rd ?_
 apply r_iteh h<;>clear h<;>intro h
 ·refine rb ?_
  replace h := h_b h; obtain ⟨⟨x23,x24⟩,hx22,h⟩ := h
  refine rc (hc_76 (bf0 := bf0) (g_f0 := g_f0) (f0 := f0) (hS_f0 := by exact (le_d 0).trans hS_f0) (h_f0 :=h_f0) (h_f0_t :=h_f0_t) (h_f0_cell :=h_f0_cell) (h := hx22)) ?_
  rintro _ _ ⟨rfl,rfl⟩
  refine kp [(31,ii x23)] fun fr => rd ?_
  repeat refine rd ?_
  repeat refine rd ?_
  obtain rfl := h_out h
  exact ret_of (RV.tmp RV.nil) (Le.refl _) ⟨rfl,rfl⟩
 refine rb<|kr [(0,pp bf0 0),(7,ii f0.e.Kind),(32,.bool (decide (f0.e.Kind = 7)))] fun fr => rd ?_
 apply r_iteh h<;>clear h<;>intro h
 ·refine rb ?_
  replace h := h_b h; obtain ⟨⟨x27,x28⟩,hx26,h⟩ := h
  refine rc (hc_77 (bf0 := bf0) (g_f0 := g_f0) (f0 := f0) (hS_f0 := by exact (le_d 0).trans hS_f0) (h_f0 :=h_f0) (h_f0_t :=h_f0_t) (h_f0_cell :=h_f0_cell) (h := hx26)) ?_
  rintro _ _ ⟨rfl,rfl⟩
  refine rd ?_
  repeat refine rd ?_
  repeat refine rd ?_
  obtain rfl := h_out h
  exact ret_of (RV.tmp RV.nil) (Le.refl _) ⟨rfl,rfl⟩
 refine rb<|rd ?_
 apply r_iteh h<;>clear h<;>intro h
 ·refine rb ?_
  replace h := h_b h; obtain ⟨⟨x31,x32⟩,hx30,h⟩ := h
  refine rc (hc_78 (bf0 := bf0) (g_f0 := g_f0) (f0 := f0) (hS_f0 := by exact (le_d 0).trans hS_f0) (h_f0 :=h_f0) (h_f0_t :=h_f0_t) (h_f0_cell :=h_f0_cell) (h := hx30)) ?_
  rintro _ _ ⟨rfl,rfl⟩
  refine rd ?_
  repeat refine rd ?_
  repeat refine rd ?_
  obtain rfl := h_out h
  exact ret_of (RV.tmp RV.nil) (Le.refl _) ⟨rfl,rfl⟩
 refine rb<|rd ?_
 apply r_iteh h<;>clear h<;>intro h
 ·refine rb ?_
  replace h := h_b h; obtain ⟨⟨x35,x36⟩,hx34,h⟩ := h
  refine rc (hc_79 (bf0 := bf0) (g_f0 := g_f0) (f0 := f0) (hS_f0 := by exact (le_d 0).trans hS_f0) (h_f0 :=h_f0) (h_f0_t :=h_f0_t) (h_f0_cell :=h_f0_cell) (h := hx34)) ?_
  rintro _ _ ⟨rfl,rfl⟩
  refine rd ?_
  repeat refine rd ?_
  repeat refine rd ?_
  obtain rfl := h_out h
  exact ret_of (RV.tmp RV.nil) (Le.refl _) ⟨rfl,rfl⟩
 refine rb<|rd ?_
 apply r_iteh h<;>clear h<;>intro h
 ·refine rb ?_
  replace h := h_b h; obtain ⟨⟨x39,x40⟩,hx38,h⟩ := h
  refine rc (hc_80 (bf0 := bf0) (g_f0 := g_f0) (f0 := f0) (hS_f0 := by exact (le_d 0).trans hS_f0) (h_f0 :=h_f0) (h_f0_t :=h_f0_t) (h_f0_cell :=h_f0_cell) (h := hx38)) ?_
  rintro _ _ ⟨rfl,rfl⟩
  refine kr [(2,ii x39)] fun fr => rd ?_
  repeat refine rd ?_
  repeat refine rd ?_
  obtain rfl := h_out h
  exact ret_of (RV.tmp RV.nil) (Le.refl _) ⟨rfl,rfl⟩
 refine rb<|rd ?_
 apply r_iteh h<;>clear h<;>intro h
 ·refine rb ?_
  replace h := h_b h; obtain ⟨⟨x43,x44⟩,hx42,h⟩ := h
  refine rc (hc_81 (bf0 := bf0) (g_f0 := g_f0) (f0 := f0) (hS_f0 := by exact (le_d 0).trans hS_f0) (h_f0 :=h_f0) (h_f0_t :=h_f0_t) (h_f0_cell :=h_f0_cell) (h := hx42)) ?_
  rintro _ _ ⟨rfl,rfl⟩
  refine kp [(51,ii x43)] fun fr => rd ?_
  repeat refine rd ?_
  repeat refine rd ?_
  obtain rfl := h_out h
  exact ret_of (RV.tmp RV.nil) (Le.refl _) ⟨rfl,rfl⟩
 refine rb<|kr [(0,pp bf0 0),(7,ii f0.e.Kind),(52,.bool (decide (f0.e.Kind = 12)))] fun fr => rd ?_
 apply r_iteh h<;>clear h<;>intro h
 ·refine rb ?_
  replace h := h_b h; obtain ⟨⟨x47,x48⟩,hx46,h⟩ := h
  refine rc (hc_82 (bf0 := bf0) (g_f0 := g_f0) (f0 := f0) (hS_f0 := by exact (le_d 0).trans hS_f0) (h_f0 :=h_f0) (h_f0_t :=h_f0_t) (h_f0_cell :=h_f0_cell) (h := hx46)) ?_
  rintro _ _ ⟨rfl,rfl⟩
  refine rd ?_
  repeat refine rd ?_
  repeat refine rd ?_
  obtain rfl := h_out h
  exact ret_of (RV.tmp RV.nil) (Le.refl _) ⟨rfl,rfl⟩
 refine rb<|rd ?_
 apply r_iteh h<;>clear h<;>intro h
 ·refine rb ?_
  replace h := h_b h; obtain ⟨⟨x51,x52⟩,hx50,h⟩ := h
  refine rc (hc_83 (bf0 := bf0) (g_f0 := g_f0) (f0 := f0) (hS_f0 := by exact (le_d 0).trans hS_f0) (h_f0 :=h_f0) (h_f0_t :=h_f0_t) (h_f0_cell :=h_f0_cell) (h := hx50)) ?_
  rintro _ _ ⟨rfl,rfl⟩
  refine rd ?_
  repeat refine rd ?_
  repeat refine rd ?_
  obtain rfl := h_out h
  exact ret_of (RV.tmp RV.nil) (Le.refl _) ⟨rfl,rfl⟩
 refine rb<|rd ?_
 apply r_iteh h<;>clear h<;>intro h
 ·refine rb ?_
  replace h := h_b h; obtain ⟨⟨x55,x56⟩,hx54,h⟩ := h
  refine rc (hc_84 (bf0 := bf0) (g_f0 := g_f0) (f0 := f0) (hS_f0 := by exact (le_d 0).trans hS_f0) (h_f0 :=h_f0) (h_f0_t :=h_f0_t) (h_f0_cell :=h_f0_cell) (h := hx54)) ?_
  rintro _ _ ⟨rfl,rfl⟩
  refine rd ?_
  repeat refine rd ?_
  repeat refine rd ?_
  obtain rfl := h_out h
  exact ret_of (RV.tmp RV.nil) (Le.refl _) ⟨rfl,rfl⟩
 refine rb<|rd ?_
 apply r_iteh h<;>clear h<;>intro h
 ·refine rb<|rc (hc_85 (bf0 := bf0) (g_f0 := g_f0) (f0 := f0) (hS_f0 := by exact (le_d 0).trans hS_f0) (h_f0 :=h_f0) (h_f0_t :=h_f0_t) (h_f0_cell :=h_f0_cell)) ?_
  rintro _ _ ⟨rfl,rfl⟩
  refine kr [(2,ii ((state_fold_contract f0).1))] fun fr => rd ?_
  repeat refine rd ?_
  repeat refine rd ?_
  obtain rfl := h_out h
  exact ret_of (RV.tmp RV.nil) (Le.refl _) ⟨rfl,rfl⟩
 refine rd<|rd<|rb<|rd ?_
 repeat refine rd ?_
 repeat refine rd ?_
 obtain rfl := h_out h
 exact ret_of (RV.tmp RV.nil) (Le.refl _) ⟨rfl,rfl⟩
theorem hc_15 {g_c0 : gConfig} {g_s1 : gState} {S_c0 : St} (hS_c0 : Le ⟨ρ,L⟩ S_c0) {S_s1 : St} (hS_s1 : Le ⟨ρ,L⟩ S_s1) (c0 : Config) (s1 : State) (e2 : Entry) (h_c0 : Sl_Config S_c0 c0 g_c0) (h_s1 : Sl_State S_s1 s1 g_s1) {r : (State × Int)} (h : state_Apply c0 s1 e2 = some r) : HC Tryz.prog 15 #[.agg (en_Config c0 g_c0).toArray,.agg (en_State s1 g_s1).toArray,.agg (en_Entry e2).toArray] ⟨ρ,L⟩ (fun v S' => ∃ (Aq1_0 : Option Addr),∃ (cq1_0 : Nat),∃ (Aq1_1 : Option Addr),∃ (cq1_1 : Nat),v = .tuple #[.agg (en_State r.1 (⟨(Aq1_0,cq1_0),(Aq1_1,cq1_1)⟩)).toArray,ii r.2] ∧ S' = ⟨ρ,.row Aq1_0 r.1.Tenants.length cq1_0 58 12 (fl eTenantState.en r.1.Tenants) :: .row Aq1_1 r.1.Cells.length cq1_1 54 4 (fl eCellState.en r.1.Cells) :: L⟩) := by
 replace h := h_in h
 refine HC.intro (N := 103) (args := [_,_,_]) tt_ok Tryz.func15 rfl (by decide +kernel) rfl (Nat.le_of_ble_eq_true rfl)<|rb<|r_bx (en_Config c0 g_c0) (by kernel_rfl) fun bq1 => r_bx (en_State s1 g_s1) (by kernel_rfl) fun bq2 => r_bx (en_Entry e2) (by kernel_rfl) fun bq3 => r_al tt_ok (en_State (⟨0,0,[],[],0,0,0,0⟩ : State) (⟨(none,0),(none,0)⟩)) ti_38 (by kernel_rfl) fun bq4 => rd<|rb<|rb<|rb ?_
 replace h := h_j h; obtain ⟨K10,h,hK11⟩ := h
 refine r_meet (fun fr S => ∃ (x9 : Bool),∃ fr0,K10 x9 = some r ∧ fr = updL [(3,pp bq1 0),(4,pp bq2 0),(5,pp bq3 0),(6,pp bq4 0),(10,.bool x9)] fr0 ∧ S = ⟨ρ,.obj bq4 (en_State (⟨0,0,[],[],0,0,0,0⟩ : State) (⟨(none,0),(none,0)⟩)) 38 :: .obj bq3 (en_Entry e2) 45 :: .obj bq2 (en_State s1 g_s1) 38 :: .obj bq1 (en_Config c0 g_c0) 30 :: L⟩) ?_ ?_
 ·refine ln 3 tt_ok (en_Config c0 g_c0) ta_30 rfl<|ln 1 tt_ok (en_Entry e2) ta_45 rfl ?_
  replace h := h_b h; obtain ⟨x6,hx5,h⟩ := h
  refine rc (hc_39 (g_c0 := g_c0) (c0 := c0) (e1 := e2) (hS_c0 := by exact (le_d 4).trans hS_c0) (h_c0 :=h_c0) (h := hx5)) ?_
  rintro _ _ ⟨rfl,rfl⟩
  refine r_ite (fun (hb7 : (!x6) = true) => ?_) (fun (hb7 : (!x6) = false) => ?_)
  ·replace h := h_t h hb7
   clear hb7
   refine kp [(3,pp bq1 0),(4,pp bq2 0),(5,pp bq3 0),(6,pp bq4 0),(15,.bool true),(16,undef)] fun fr => r_T rfl<|r_T rfl<|r_T rfl<|r_T rfl<|r_T rfl<|r_T rfl<|r_T rfl<|r_T rfl<|kp [(3,pp bq1 0),(4,pp bq2 0),(5,pp bq3 0),(6,pp bq4 0),(24,.bool true),(25,undef)] fun fr => r_T rfl<|r_T rfl<|r_T rfl ?_
   exact r_T rfl<|r_T rfl<|r_T rfl<|r_T rfl<|rd ⟨true,_,h,fe _,by kernel_rfl⟩
  replace h := h_f h hb7
  clear hb7
  refine kp [(3,pp bq1 0),(4,pp bq2 0),(5,pp bq3 0),(6,pp bq4 0),(15,.bool false),(16,pp bq2 2)] fun fr => r_F rfl<|ld 2 tt_ok (v := .slice g_s1.Tenants.1 s1.Tenants.length g_s1.Tenants.2) ts_35 rfl<|r_F rfl<|r_F rfl<|r_F rfl<|ld 3 tt_ok (v := .slice g_c0.Tenants.1 c0.Tenants.length g_c0.Tenants.2) ts_27 rfl<|r_F rfl<|r_F rfl<|r_ite (fun (hb8 : (!decide ((s1.Tenants.length : Int) = (c0.Tenants.length : Int))) = true) => ?_) (fun (hb8 : (!decide ((s1.Tenants.length : Int) = (c0.Tenants.length : Int))) = false) => ?_)
  ·replace h := h_t h hb8
   clear hb8
   exact kp [(3,pp bq1 0),(4,pp bq2 0),(5,pp bq3 0),(6,pp bq4 0),(24,.bool true),(25,undef)] fun fr => r_T rfl<|r_T rfl<|r_T rfl<|r_T rfl<|r_T rfl<|r_T rfl<|r_T rfl<|rd ⟨true,_,h,fe _,by kernel_rfl⟩
  replace h := h_f h hb8
  clear hb8
  exact kp [(3,pp bq1 0),(4,pp bq2 0),(5,pp bq3 0),(6,pp bq4 0),(24,.bool false),(25,pp bq2 3)] fun fr => r_F rfl<|ld 2 tt_ok (v := .slice g_s1.Cells.1 s1.Cells.length g_s1.Cells.2) ts_36 rfl<|r_F rfl<|r_F rfl<|r_F rfl<|ld 3 tt_ok (v := .slice g_c0.Cells.1 c0.Cells.length g_c0.Cells.2) ts_26 rfl<|r_F rfl<|r_F rfl<|rd ⟨!decide ((s1.Cells.length : Int) = (c0.Cells.length : Int)),_,h,fe _,by kernel_rfl⟩
 clear h
 rintro fr S ⟨x9,fr,h,rfl,rfl⟩
 replace h := hK11 _ h
 refine rd<|r_ite (fun hb12 => ?_) (fun hb12 => ?_)
 ·replace h := h_t h hb12
  refine rb<|r_bd tt_ok (en_State (⟨0,0,[],[],0,0,0,0⟩ : State) (⟨(none,0),(none,0)⟩)) ti_38 tp_38 (by kernel_rfl)<|st 0 tt_ok (en_State (⟨0,0,[],[],0,0,0,0⟩ : State) (⟨(none,0),(none,0)⟩)) (fn ta_38) rfl<|rd ?_
  repeat refine rd ?_
  repeat refine rd ?_
  obtain rfl := h_out h
  exact ret_of (rv_cell 0 tt_ok (by kernel_rfl) ta_38 rfl rfl (RV.tmp RV.nil)) ((le_nil 54 4).trans ((le_nil 58 12).trans (le_w [true,true,false,false,false,false]))) ⟨none,0,none,0,rfl,rfl⟩
 replace h := h_f h hb12
 refine rb<|ld 2 tt_ok (v := ii s1.Count) ts_3 rfl<|rd<|r_ite (fun hb13 => ?_) (fun hb13 => ?_)
 ·replace h := h_t h hb13
  refine rb<|r_bd tt_ok (en_State (⟨0,0,[],[],0,0,0,0⟩ : State) (⟨(none,0),(none,0)⟩)) ti_38 tp_38 (by kernel_rfl)<|st 0 tt_ok (en_State (⟨0,0,[],[],0,0,0,0⟩ : State) (⟨(none,0),(none,0)⟩)) (fn ta_38) rfl<|rd ?_
  repeat refine rd ?_
  repeat refine rd ?_
  obtain rfl := h_out h
  exact ret_of (rv_cell 0 tt_ok (by kernel_rfl) ta_38 rfl rfl (RV.tmp RV.nil)) ((le_nil 54 4).trans ((le_nil 58 12).trans (le_w [true,true,false,false,false,false]))) ⟨none,0,none,0,rfl,rfl⟩
 replace h := h_f h hb13
 refine rb<|ld 1 tt_ok (v := ii e2.Tick) ts_3 rfl<|ld 2 tt_ok (v := ii s1.Tick) ts_3 rfl<|kr [(3,pp bq1 0),(4,pp bq2 0),(5,pp bq3 0),(6,pp bq4 0),(39,.bool (decide (e2.Tick < s1.Tick)))] fun fr => rd<|r_ite (fun hb14 => ?_) (fun hb14 => ?_)
 ·replace h := h_t h hb14
  refine rb<|r_bd tt_ok (en_State (⟨0,0,[],[],0,0,0,0⟩ : State) (⟨(none,0),(none,0)⟩)) ti_38 tp_38 (by kernel_rfl)<|st 0 tt_ok (en_State (⟨0,0,[],[],0,0,0,0⟩ : State) (⟨(none,0),(none,0)⟩)) (fn ta_38) rfl<|rd ?_
  repeat refine rd ?_
  repeat refine rd ?_
  obtain rfl := h_out h
  exact ret_of (rv_cell 0 tt_ok (by kernel_rfl) ta_38 rfl rfl (RV.tmp RV.nil)) ((le_nil 54 4).trans ((le_nil 58 12).trans (le_w [true,true,false,false,false,false]))) ⟨none,0,none,0,rfl,rfl⟩
 replace h := h_f h hb14
 refine rd<|rd<|rb<|r_mix tt_ok hm_ok _ _ [] (.vb 0 (.vb 1 (.vb 3 (.eff 2 (.pure 4 (.eff 5 (.pure 6 .nil))))))) (le_w [true,true,true,true]) (le_w [true,true,true,true]) ?_ ?_
 ·decide +kernel
 refine x_vb rfl<|vn 3 tt_ok (en_Config c0 g_c0) ta_30 rfl<|vd<|x_vb rfl<|vn 2 tt_ok (en_State s1 g_s1) ta_38 rfl<|vd<|x_vb rfl<|vn 1 tt_ok (en_Entry e2) ta_45 rfl<|vd<|x_e rfl ?_
 replace h := h_b h; obtain ⟨x16,hx15,h⟩ := h
 refine rc (hc_40 (g_s0 := g_s1) (s0 := s1) (hS_s0 := by exact (le_d 4).trans hS_s1) (h_s0 :=h_s1) (h := hx15)) ?_
 rintro _ _ ⟨A17,c18,A20,c21,rfl,rfl⟩
 refine rd ⟨rfl,k_a (le_w [false,false,true,true,true,true]) (le_w [false,false,true,true,true,true]),?_⟩
 refine x_p rfl<|v_bd tt_ok (en_state_fold (⟨c0,x16,e2⟩ : state_fold) (⟨(g_c0.Zones.1,g_c0.Zones.2),(g_c0.Cells.1,g_c0.Cells.2),(g_c0.Tenants.1,g_c0.Tenants.2),(g_c0.Versions.1,g_c0.Versions.2),(g_c0.Replicas.1,g_c0.Replicas.2),(g_c0.Observers.1,g_c0.Observers.2),(A17,c18),(A20,c21),(.pointer none),(.pointer none)⟩)) ti_85 tp_85 (by kernel_rfl)<|vd<|x_e rfl<|r_bx (en_state_fold (⟨c0,x16,e2⟩ : state_fold) (⟨(g_c0.Zones.1,g_c0.Zones.2),(g_c0.Cells.1,g_c0.Cells.2),(g_c0.Tenants.1,g_c0.Tenants.2),(g_c0.Versions.1,g_c0.Versions.2),(g_c0.Replicas.1,g_c0.Replicas.2),(g_c0.Observers.1,g_c0.Observers.2),(A17,c18),(A20,c21),(.pointer none),(.pointer none)⟩)) (by kernel_rfl) fun bq23 => rd ⟨rfl,k_a (le_w [false,false,false,true,true,true,true]) (le_w [false,false,false,true,true,true,true]),?_⟩
 refine x_p rfl<|vd<|xk [(4,pp bq2 0),(5,pp bq3 0),(6,pp bq4 0),(8,pp bq23 0)] fun fr => rd<|rb ?_
 replace h := h_j h; obtain ⟨K29,h,hK30⟩ := h
 refine r_meet (fun fr S => ∃ (P27 : Value),∃ fr0,K29 () = some r ∧ fr = updL [(4,pp bq2 0),(5,pp bq3 0),(6,pp bq4 0),(8,pp bq23 0)] fr0 ∧ S = ⟨ρ,.obj bq23 (en_state_fold (⟨c0,x16,e2⟩ : state_fold) (⟨(g_c0.Zones.1,g_c0.Zones.2),(g_c0.Cells.1,g_c0.Cells.2),(g_c0.Tenants.1,g_c0.Tenants.2),(g_c0.Versions.1,g_c0.Versions.2),(g_c0.Replicas.1,g_c0.Replicas.2),(g_c0.Observers.1,g_c0.Observers.2),(A17,c18),(A20,c21),P27,(.pointer none)⟩)) 85 :: .row A17 x16.Tenants.length c18 58 12 (fl eTenantState.en x16.Tenants) :: .row A20 x16.Cells.length c21 54 4 (fl eCellState.en x16.Cells) :: .obj bq4 (en_State (⟨0,0,[],[],0,0,0,0⟩ : State) (⟨(none,0),(none,0)⟩)) 38 :: .obj bq3 (en_Entry e2) 45 :: .obj bq2 (en_State s1 g_s1) 38 :: L⟩ ∧ P27 = fptr A17 e2.Tenant 12) ?_ ?_
 ·refine rb<|ld 4 tt_ok (v := ii e2.Tenant) ts_3 rfl<|rd<|r_ite (fun hb24 => ?_) (fun hb24 => ?_)
  ·replace h := h_t h hb24
   refine r_mix tt_ok hm_ok _ _ [11] (.pure 0 (.pure 1 (.pure 2 (.pure 3 (.pure 4 (.va 5 (.pure 6 (.vb 7 (.vb 8 (.pure 9 (.pure 10 (.eff 11 .nil)))))))))))) (le_w [true,true,true,true,true,true,true]) (le_w [false,true,true,true,true,true,true]) ?_ ?_
   ·decide +kernel
   refine x_p rfl<|vd<|x_p rfl<|vd<|x_p rfl<|vd<|xp [(4,pp bq2 0),(5,pp bq3 0),(6,pp bq4 0),(8,pp bq23 0),(55,pp bq23 0),(57,pp bq23 0)] fun fr => x_p rfl<|vd<|x_p rfl<|vd<|x_va rfl<|vl 0 tt_ok (v := .slice A17 x16.Tenants.length c18) ts_35 rfl ?_
   refine vd<|x_p rfl<|vd<|x_vb rfl<|vl 3 tt_ok (v := ii e2.Tenant) ts_3 rfl<|vd<|x_vb rfl ?_
   replace h := h_b h; obtain ⟨x25,hx26,h⟩ := h
   refine v_el hx26 (rd_row 0 rfl)<|vd<|x_p rfl<|vd<|x_p rfl<|vd<|x_e rfl<|st 0 tt_ok (en_state_fold (⟨c0,x16,e2⟩ : state_fold) (⟨(g_c0.Zones.1,g_c0.Zones.2),(g_c0.Cells.1,g_c0.Cells.2),(g_c0.Tenants.1,g_c0.Tenants.2),(g_c0.Versions.1,g_c0.Versions.2),(g_c0.Replicas.1,g_c0.Replicas.2),(g_c0.Observers.1,g_c0.Observers.2),(A17,c18),(A20,c21),(.pointer (some ((adr A17).add (e2.Tenant.toNat * 12)))),(.pointer none)⟩)) (f1 ts_82) rfl<|rd ⟨rfl,k_b rfl (le_w [false,true,true,true,true,true,true]),?_⟩
   exact xk [(4,pp bq2 0),(5,pp bq3 0),(6,pp bq4 0),(8,pp bq23 0)] fun fr => r_le (le_w [true,true,true,true,true,true,false])<|rd ⟨.pointer (some ((adr A17).add (e2.Tenant.toNat * 12))),_,h,fe _,by kernel_rfl,(fptr_some hx26).symm⟩
  replace h := h_f h hb24
  exact r_le (le_w [true,true,true,true,true,true,false])<|rd ⟨.pointer none,_,h,fe _,by kernel_rfl,(fptr_none (by assumption)).symm⟩
 clear h
 rintro fr S ⟨P27,fr,h,rfl,rfl,hp28⟩
 replace h := hK30 _ h
 refine rd<|rb ?_
 replace h := h_j h; obtain ⟨K36,h,hK37⟩ := h
 refine r_meet (fun fr S => ∃ (P34 : Value),∃ fr0,K36 () = some r ∧ fr = updL [(4,pp bq2 0),(5,pp bq3 0),(6,pp bq4 0),(8,pp bq23 0)] fr0 ∧ S = ⟨ρ,.obj bq23 (en_state_fold (⟨c0,x16,e2⟩ : state_fold) (⟨(g_c0.Zones.1,g_c0.Zones.2),(g_c0.Cells.1,g_c0.Cells.2),(g_c0.Tenants.1,g_c0.Tenants.2),(g_c0.Versions.1,g_c0.Versions.2),(g_c0.Replicas.1,g_c0.Replicas.2),(g_c0.Observers.1,g_c0.Observers.2),(A17,c18),(A20,c21),P27,P34⟩)) 85 :: .row A17 x16.Tenants.length c18 58 12 (fl eTenantState.en x16.Tenants) :: .row A20 x16.Cells.length c21 54 4 (fl eCellState.en x16.Cells) :: .obj bq4 (en_State (⟨0,0,[],[],0,0,0,0⟩ : State) (⟨(none,0),(none,0)⟩)) 38 :: .obj bq3 (en_Entry e2) 45 :: .obj bq2 (en_State s1 g_s1) 38 :: L⟩ ∧ P34 = fptr A20 e2.Cell 4) ?_ ?_
 ·refine rb<|ld 4 tt_ok (v := ii e2.Cell) ts_3 rfl<|rd<|r_ite (fun hb31 => ?_) (fun hb31 => ?_)
  ·replace h := h_t h hb31
   refine r_mix tt_ok hm_ok _ _ [11] (.pure 0 (.pure 1 (.pure 2 (.pure 3 (.pure 4 (.va 5 (.pure 6 (.vb 7 (.vb 8 (.pure 9 (.pure 10 (.eff 11 .nil)))))))))))) (le_w [true,true,true,true,true,true]) (le_w [false,true,true,true,true,true]) ?_ ?_
   ·decide +kernel
   refine x_p rfl<|vd<|x_p rfl<|vd<|x_p rfl<|vd<|xp [(4,pp bq2 0),(5,pp bq3 0),(6,pp bq4 0),(8,pp bq23 0),(69,pp bq23 0),(71,pp bq23 0)] fun fr => x_p rfl<|vd<|x_p rfl<|vd<|x_va rfl<|vl 0 tt_ok (v := .slice A20 x16.Cells.length c21) ts_36 rfl ?_
   refine vd<|x_p rfl<|vd<|x_vb rfl<|vl 3 tt_ok (v := ii e2.Cell) ts_3 rfl<|vd<|x_vb rfl ?_
   replace h := h_b h; obtain ⟨x32,hx33,h⟩ := h
   refine v_el hx33 (rd_row 1 rfl)<|vd<|x_p rfl<|vd<|x_p rfl<|vd<|x_e rfl<|st 0 tt_ok (en_state_fold (⟨c0,x16,e2⟩ : state_fold) (⟨(g_c0.Zones.1,g_c0.Zones.2),(g_c0.Cells.1,g_c0.Cells.2),(g_c0.Tenants.1,g_c0.Tenants.2),(g_c0.Versions.1,g_c0.Versions.2),(g_c0.Replicas.1,g_c0.Replicas.2),(g_c0.Observers.1,g_c0.Observers.2),(A17,c18),(A20,c21),P27,(.pointer (some ((adr A20).add (e2.Cell.toNat * 4))))⟩)) (f1 ts_83) rfl<|rd ⟨rfl,k_b rfl (le_w [false,true,true,true,true,true]),?_⟩
   exact xk [(4,pp bq2 0),(5,pp bq3 0),(6,pp bq4 0),(8,pp bq23 0)] fun fr => rd ⟨.pointer (some ((adr A20).add (e2.Cell.toNat * 4))),_,h,fe _,by kernel_rfl,(fptr_some hx33).symm⟩
  replace h := h_f h hb31
  exact rd ⟨.pointer none,_,h,fe _,by kernel_rfl,(fptr_none (by assumption)).symm⟩
 clear h
 rintro fr S ⟨P34,fr,h,rfl,rfl,hp35⟩
 replace h := hK37 _ h
 refine rd<|rb<|rb<|r_le ((le_mv 2).trans (le_mv 2)) ?_
 replace h := h_b h; obtain ⟨⟨x39,x40⟩,hx38,h⟩ := h
 refine rc (hc_41 (bf0 := bq23) (g_f0 := ⟨(g_c0.Zones.1,g_c0.Zones.2),(g_c0.Cells.1,g_c0.Cells.2),(g_c0.Tenants.1,g_c0.Tenants.2),(g_c0.Versions.1,g_c0.Versions.2),(g_c0.Replicas.1,g_c0.Replicas.2),(g_c0.Observers.1,g_c0.Observers.2),(A17,c18),(A20,c21),P27,P34⟩) (f0 := (⟨c0,x16,e2⟩ : state_fold)) (hS_f0 := by exact (le_d 3).trans hS_c0) (h_f0 :=h_c0) (h_f0_t :=hp28) (h_f0_cell :=hp35) (h := hx38)) ?_
 rintro _ _ ⟨rfl,rfl⟩
 refine rd<|rb<|rd<|r_ite (fun hb41 => ?_) (fun hb41 => ?_)
 ·replace h := h_t h hb41
  refine rb<|r_bd tt_ok (en_State (⟨0,0,[],[],0,0,0,0⟩ : State) (⟨(none,0),(none,0)⟩)) ti_38 tp_38 (by kernel_rfl)<|st 3 tt_ok (en_State (⟨0,0,[],[],0,0,0,0⟩ : State) (⟨(none,0),(none,0)⟩)) (fn ta_38) rfl<|kr [(6,pp bq4 0),(7,ii x39)] fun fr => rd ?_
  repeat refine rd ?_
  repeat refine rd ?_
  obtain rfl := h_out h
  exact ret_of (rv_cell 3 tt_ok (by kernel_rfl) ta_38 rfl rfl (RV.tmp RV.nil)) ((le_nil 54 4).trans ((le_nil 58 12).trans (le_w [true,true,false,false,false,false,false,false]))) ⟨none,0,none,0,rfl,rfl⟩
 replace h := h_f h hb41
 refine rd<|rb<|r_mix tt_ok hm_ok _ _ [] (.pure 0 (.pure 1 (.pure 2 (.vb 3 (.pure 4 (.vb 5 (.pure 6 (.pure 7 (.pure 8 (.pure 9 (.eff 10 (.pure 11 (.pure 12 (.pure 13 (.eff 14 .nil))))))))))))))) (le_w [true,true,false,true,true,true]) (le_w [true,true,false,true,true,true]) ?_ ?_
 ·decide +kernel
 refine x_p rfl<|vd<|x_p rfl<|vd<|x_p rfl<|vd<|x_vb rfl<|vl 3 tt_ok (v := ii e2.Tick) ts_3 rfl<|vd<|xp [(4,pp bq2 0),(6,pp bq4 0),(8,pp bq23 0),(86,pp bq23 0),(87,pp bq23 0),(89,ii e2.Tick)] fun fr => x_p rfl<|vd<|x_vb rfl ?_
 refine vl 4 tt_ok (v := ii s1.Count) ts_3 rfl<|vd<|x_p rfl<|v_num (e' := w64 (s1.Count + 1)) rfl<|vd<|x_p rfl<|vd<|x_p rfl<|vd<|x_p rfl<|vd<|x_e rfl<|st 2 tt_ok (en_state_fold (⟨c0,{ x40 with Tick := e2.Tick },e2⟩ : state_fold) (⟨(g_c0.Zones.1,g_c0.Zones.2),(g_c0.Cells.1,g_c0.Cells.2),(g_c0.Tenants.1,g_c0.Tenants.2),(g_c0.Versions.1,g_c0.Versions.2),(g_c0.Replicas.1,g_c0.Replicas.2),(g_c0.Observers.1,g_c0.Observers.2),(A17,c18),(A20,c21),P27,P34⟩)) (f1 ts_3) rfl ?_
 refine rd ⟨rfl,k_a (le_w [true,true,false,true,true,true]) (le_w [true,true,false,true,true,true]),?_⟩
 refine x_p rfl<|vd<|x_p rfl<|vd<|xp [(6,pp bq4 0),(8,pp bq23 0),(92,ii (w64 (s1.Count + 1))),(97,pp bq23 10)] fun fr => x_p rfl<|vd<|x_e rfl<|st 2 tt_ok (en_state_fold (⟨c0,{ x40 with Tick := e2.Tick,Count := w64 (s1.Count + 1) },e2⟩ : state_fold) (⟨(g_c0.Zones.1,g_c0.Zones.2),(g_c0.Cells.1,g_c0.Cells.2),(g_c0.Tenants.1,g_c0.Tenants.2),(g_c0.Versions.1,g_c0.Versions.2),(g_c0.Replicas.1,g_c0.Replicas.2),(g_c0.Observers.1,g_c0.Observers.2),(A17,c18),(A20,c21),P27,P34⟩)) (f1 ts_3) rfl<|rd ⟨rfl,k_a (le_w [true,true,false,true,true,true]) (le_w [true,true,false,true,true,true]),?_⟩
 refine xk [(6,pp bq4 0),(8,pp bq23 0)] fun fr => rd<|rb<|ln 2 tt_ok (en_State ({ x40 with Tick := e2.Tick,Count := w64 (s1.Count + 1) }) (⟨(A17,c18),(A20,c21)⟩)) ta_38 rfl<|st 3 tt_ok (en_State ({ x40 with Tick := e2.Tick,Count := w64 (s1.Count + 1) }) (⟨(A17,c18),(A20,c21)⟩)) (fn ta_38) rfl<|rd ?_
 repeat refine rd ?_
 repeat refine rd ?_
 obtain rfl := h_out h
 exact ret_of (rv_cell 3 tt_ok (by kernel_rfl) ta_38 rfl rfl (RV.tmp RV.nil)) (le_w [true,true,false,false,false,false]) ⟨A17,c18,A20,c21,rfl,rfl⟩
theorem hc_14 {g_c0 : gConfig} {A_l1 : Option Addr} {c_l1 : Nat} {S_c0 : St} (hS_c0 : Le ⟨ρ,L⟩ S_c0) {S_l1 : St} (hS_l1 : Le ⟨ρ,L⟩ S_l1) (c0 : Config) (l1 : (List Entry)) (h_c0 : Sl_Config S_c0 c0 g_c0) (h_l1 : Sl S_l1 A_l1 l1.length c_l1 (fl eEntry.en l1)) {r : (State × Int × Int)} (h : state_Fold c0 l1 = some r) : HC Tryz.prog 14 #[.agg (en_Config c0 g_c0).toArray,.slice A_l1 l1.length c_l1] ⟨ρ,L⟩ (fun v S' => ∃ (Aq1_0 : Option Addr),∃ (cq1_0 : Nat),∃ (Aq1_1 : Option Addr),∃ (cq1_1 : Nat),v = .tuple #[.agg (en_State r.1 (⟨(Aq1_0,cq1_0),(Aq1_1,cq1_1)⟩)).toArray,ii r.2.1,ii r.2.2] ∧ S' = ⟨ρ,.row Aq1_0 r.1.Tenants.length cq1_0 58 12 (fl eTenantState.en r.1.Tenants) :: .row Aq1_1 r.1.Cells.length cq1_1 54 4 (fl eCellState.en r.1.Cells) :: L⟩) := by
 replace h := h_in h
 refine HC.intro (N := 38) (args := [_,_]) tt_ok Tryz.func14 rfl (by decide +kernel) rfl (Nat.le_of_ble_eq_true rfl)<|rb<|r_bx (en_Config c0 g_c0) (by kernel_rfl) fun bq1 => r_al tt_ok (en_State (⟨0,0,[],[],0,0,0,0⟩ : State) (⟨(none,0),(none,0)⟩)) ti_38 (by kernel_rfl) fun bq2 => rd<|rb<|ln 1 tt_ok (en_Config c0 g_c0) ta_30 rfl ?_
 replace h := h_b h; obtain ⟨x4,hx3,h⟩ := h
 refine rc (hc_38 (g_c0 := g_c0) (c0 := c0) (hS_c0 := by exact (le_d 2).trans hS_c0) (h_c0 :=h_c0) (h := hx3)) ?_
 rintro _ _ ⟨A5,c6,A8,c9,rfl,rfl⟩
 refine r_al tt_ok (en_State (⟨0,0,[],[],0,0,0,0⟩ : State) (⟨(none,0),(none,0)⟩)) ti_38 (by kernel_rfl) fun bq11 => st 0 tt_ok (en_State x4 (⟨(A5,c6),(A8,c9)⟩)) (fn ta_38) rfl<|rd<|rb ?_
 replace h := h_k h; obtain ⟨K120,h,hK121⟩ := h
 refine r_meet (fun fr S => ∃ (tic106 : Int),∃ (cou107 : Int),∃ (xs108 : (List TenantState)),∃ (xs112 : (List CellState)),∃ (pro116 : Int),∃ (eva117 : Int),∃ (low118 : Int),∃ (hig119 : Int),∃ (A109 : Option Addr),∃ (c110 : Nat),∃ (A113 : Option Addr),∃ (c114 : Nat),∃ fr0,(state_Fold.j1 l1 tic106 cou107 xs108 xs112 pro116 eva117 low118 hig119).bind K120 = some r ∧ fr = updL [(1,.slice A_l1 l1.length c_l1),(4,pp bq2 0),(7,pp bq11 0)] fr0 ∧ S = ⟨ρ,.row A109 xs108.length c110 58 12 (fl eTenantState.en xs108) :: .row A113 xs112.length c114 54 4 (fl eCellState.en xs112) :: .obj bq11 (en_State (⟨tic106,cou107,xs108,xs112,pro116,eva117,low118,hig119⟩ : State) (⟨(A109,c110),(A113,c114)⟩)) 38 :: .obj bq2 (en_State (⟨0,0,[],[],0,0,0,0⟩ : State) (⟨(none,0),(none,0)⟩)) 38 :: L⟩) ?_ ?_
 ·refine rb<|rd<|rb ?_
  replace h := h_l h; obtain ⟨K102,n103,h,hK104⟩ := h
  refine r_le ((le_mv 4).trans ((le_mv 4).trans ((le_mv 2).trans ((le_mv 4).trans (le_mv 4)))))<|r_loop (fun n fr S => ∃ (x72 : Int),∃ (tic73 : Int),∃ (cou74 : Int),∃ (xs75 : (List TenantState)),∃ (xs79 : (List CellState)),∃ (pro83 : Int),∃ (eva84 : Int),∃ (low85 : Int),∃ (hig86 : Int),∃ (A76 : Option Addr),∃ (c77 : Nat),∃ (A80 : Option Addr),∃ (c81 : Nat),∃ fr0,(runN (state_Fold.b2 l1 c0) n (x72,tic73,cou74,xs75,xs79,pro83,eva84,low85,hig86)).bind K102 = some r ∧ fr = updL [(1,.slice A_l1 l1.length c_l1),(2,pp bq1 0),(4,pp bq2 0),(7,pp bq11 0),(14,.slice A_l1 l1.length c_l1),(15,ii (l1.length : Int)),(16,ii x72)] fr0 ∧ S = ⟨ρ,.row A76 xs75.length c77 58 12 (fl eTenantState.en xs75) :: .row A80 xs79.length c81 54 4 (fl eCellState.en xs79) :: .obj bq11 (en_State (⟨tic73,cou74,xs75,xs79,pro83,eva84,low85,hig86⟩ : State) (⟨(A76,c77),(A80,c81)⟩)) 38 :: .obj bq2 (en_State (⟨0,0,[],[],0,0,0,0⟩ : State) (⟨(none,0),(none,0)⟩)) 38 :: .obj bq1 (en_Config c0 g_c0) 30 :: L⟩) n103 ⟨0,x4.Tick,x4.Count,x4.Tenants,x4.Cells,x4.Proven,x4.Evacuating,x4.Low,x4.High,A5,c6,A8,c9,_,h,fe _,by kernel_rfl⟩ ?_
  clear h
  rintro n103 fr S ⟨x72,tic73,cou74,xs75,xs79,pro83,eva84,low85,hig86,A76,c77,A80,c81,fr,h,rfl,rfl⟩
  replace h := h_r h; obtain ⟨m105,hm105,h⟩ := h
  refine rb<|rd<|rb ?_
  apply r_iteh h<;>clear h<;>intro h
  ·refine rd<|rb<|rb<|rb ?_
   replace h := h_b h; obtain ⟨x88,hx89,h⟩ := h
   refine r_el hx89 ((h_l1).rd.mono ((le_d 5).trans hS_l1))<|r_len (E := eEntry) tt_ok (en_Entry x88) (idx_get hx89) ((h_l1).rd.mono ((le_d 5).trans hS_l1)) ta_45 rfl (pl0 _ _) (by kernel_rfl) (by kernel_rfl)<|r_al tt_ok (en_Entry (⟨0,0,0,0,0,0,0,0,0⟩ : Entry)) ti_45 (by kernel_rfl) fun bq90 => st 0 tt_ok (en_Entry x88) (fn ta_45) rfl<|rd<|rb<|ln 5 tt_ok (en_Config c0 g_c0) ta_30 rfl<|ln 3 tt_ok (en_State (⟨tic73,cou74,xs75,xs79,pro83,eva84,low85,hig86⟩ : State) (⟨(A76,c77),(A80,c81)⟩)) ta_38 rfl<|kp [(1,.slice A_l1 l1.length c_l1),(2,pp bq1 0),(4,pp bq2 0),(7,pp bq11 0),(8,ii x72),(9,pp bq90 0),(14,.slice A_l1 l1.length c_l1),(15,ii (l1.length : Int)),(16,ii x72),(22,.agg (en_Config c0 g_c0).toArray),(23,.agg (en_State (⟨tic73,cou74,xs75,xs79,pro83,eva84,low85,hig86⟩ : State) (⟨(A76,c77),(A80,c81)⟩)).toArray)] fun fr => ln 0 tt_ok (en_Entry x88) ta_45 rfl ?_
   replace h := h_b h; obtain ⟨⟨x92,x93⟩,hx91,h⟩ := h
   refine rc (hc_15 (g_c0 := g_c0) (c0 := c0) (g_s1 := ⟨(A76,c77),(A80,c81)⟩) (s1 := (⟨tic73,cou74,xs75,xs79,pro83,eva84,low85,hig86⟩ : State)) (e2 := x88) (hS_c0 := by exact (le_d 6).trans hS_c0) (h_c0 :=h_c0) (hS_s1 := by exact Le.refl _) (h_s1 := by exact ⟨sl_row 1 rfl,sl_row 2 rfl⟩) (h := hx91)) ?_
   rintro _ _ ⟨A94,c95,A97,c98,rfl,rfl⟩
   refine r_al tt_ok (en_State (⟨0,0,[],[],0,0,0,0⟩ : State) (⟨(none,0),(none,0)⟩)) ti_38 (by kernel_rfl) fun bq100 => st 0 tt_ok (en_State x92 (⟨(A94,c95),(A97,c98)⟩)) (fn ta_38) rfl<|rd<|rb<|rb<|kr [(1,.slice A_l1 l1.length c_l1),(2,pp bq1 0),(4,pp bq2 0),(7,pp bq11 0),(8,ii x72),(10,pp bq100 0),(11,ii x93),(14,.slice A_l1 l1.length c_l1),(15,ii (l1.length : Int)),(16,ii x72),(29,.bool (!decide (x93 = 0)))] fun fr => rd ?_
   apply r_iteh h<;>clear h<;>intro h
   ·refine rb<|ln 6 tt_ok (en_State (⟨tic73,cou74,xs75,xs79,pro83,eva84,low85,hig86⟩ : State) (⟨(A76,c77),(A80,c81)⟩)) ta_38 rfl<|st 7 tt_ok (en_State (⟨tic73,cou74,xs75,xs79,pro83,eva84,low85,hig86⟩ : State) (⟨(A76,c77),(A80,c81)⟩)) (fn ta_38) rfl<|rd ?_
    repeat refine rd ?_
    replace h := h_m h
    subst hK104
    subst hK121
    repeat refine rd ?_
    obtain rfl := h_out h
    exact ret_of (rv_cell 7 tt_ok (by kernel_rfl) ta_38 rfl rfl (RV.tmp (RV.tmp RV.nil))) (le_w [false,false,false,false,true,true,false,false,false]) ⟨A76,c77,A80,c81,rfl,rfl⟩
   exact rd<|ln 0 tt_ok (en_State x92 (⟨(A94,c95),(A97,c98)⟩)) ta_38 rfl<|st 6 tt_ok (en_State x92 (⟨(A94,c95),(A97,c98)⟩)) (fn ta_38) rfl<|rd<|rd<|r_num (e' := w64 (x72 + 1)) rfl<|r_le (le_w [false,true,true,false,false,false,true,true,true])<|rd ⟨m105,lt_s hm105,w64 (x72 + 1),x92.Tick,x92.Count,x92.Tenants,x92.Cells,x92.Proven,x92.Evacuating,x92.Low,x92.High,A94,c95,A97,c98,_,h,fe _,by kernel_rfl⟩
  refine rd<|rd ?_
  replace h := h_m h
  subst hK104
  exact r_le (le_w [true,true,true,true,false])<|rd ⟨tic73,cou74,xs75,xs79,pro83,eva84,low85,hig86,A76,c77,A80,c81,_,h,fe _,by kernel_rfl⟩
 clear h
 rintro fr S ⟨tic106,cou107,xs108,xs112,pro116,eva117,low118,hig119,A109,c110,A113,c114,fr,h,rfl,rfl⟩
 subst hK121
 refine rd<|rb<|ln 2 tt_ok (en_State (⟨tic106,cou107,xs108,xs112,pro116,eva117,low118,hig119⟩ : State) (⟨(A109,c110),(A113,c114)⟩)) ta_38 rfl<|st 3 tt_ok (en_State (⟨tic106,cou107,xs108,xs112,pro116,eva117,low118,hig119⟩ : State) (⟨(A109,c110),(A113,c114)⟩)) (fn ta_38) rfl<|rd ?_
 repeat refine rd ?_
 repeat refine rd ?_
 obtain rfl := h_out h
 exact ret_of (rv_cell 3 tt_ok (by kernel_rfl) ta_38 rfl rfl (RV.tmp (RV.tmp RV.nil))) (le_w [true,true,false,false]) ⟨A109,c110,A113,c114,rfl,rfl⟩
theorem hc_10     {r : Bool} (h : cellplanelaw12_awake = some r) : HC Tryz.prog 10 #[] ⟨ρ,L⟩ (fun v S' => v = .bool r ∧ S' = ⟨ρ,L⟩) := by
 replace h := h_in h
 refine HC.intro (N := 48) (args := []) tt_ok Tryz.func10 rfl (by decide +kernel) rfl (Nat.le_of_ble_eq_true rfl)<|rb<|rd<|rb<|rc (hc_32 ) ?_
 rintro _ _ ⟨A1,c2,A4,c5,A7,c8,A10,c11,A13,c14,A16,c17,rfl,rfl⟩
 refine r_al tt_ok (en_Config (⟨0,[],[],[],[],[],[],0,0,0⟩ : Config) (⟨(none,0),(none,0),(none,0),(none,0),(none,0),(none,0)⟩)) ti_30 (by kernel_rfl) fun bq19 => st 0 tt_ok (en_Config cellplanelaw12_two (⟨(A1,c2),(A4,c5),(A7,c8),(A10,c11),(A13,c14),(A16,c17)⟩)) (fn ta_30) rfl<|rd<|rb<|ln 0 tt_ok (en_Config cellplanelaw12_two (⟨(A1,c2),(A4,c5),(A7,c8),(A10,c11),(A13,c14),(A16,c17)⟩)) ta_30 rfl<|r_bd tt_ok (en_Entry (⟨1,0,0,0,1,0,0,0,0⟩ : Entry)) ti_45 tp_45 (by kernel_rfl)<|r_bd tt_ok (en_Entry (⟨2,0,0,0,(-1),1,0,20,0⟩ : Entry)) ti_45 tp_45 (by kernel_rfl)<|r_bd tt_ok (en_Entry (⟨3,5,0,(-1),(-1),1,0,0,0⟩ : Entry)) ti_45 tp_45 (by kernel_rfl)<|r_bd tt_ok (en_Entry (⟨2,5,0,1,(-1),2,6,9,0⟩ : Entry)) ti_45 tp_45 (by kernel_rfl)<|kp [(7,.agg (en_Config cellplanelaw12_two (⟨(A1,c2),(A4,c5),(A7,c8),(A10,c11),(A13,c14),(A16,c17)⟩)).toArray),(8,.agg (en_Entry (⟨1,0,0,0,1,0,0,0,0⟩ : Entry)).toArray),(9,.agg (en_Entry (⟨2,0,0,0,(-1),1,0,20,0⟩ : Entry)).toArray),(10,.agg (en_Entry (⟨3,5,0,(-1),(-1),1,0,0,0⟩ : Entry)).toArray),(11,.agg (en_Entry (⟨2,5,0,1,(-1),2,6,9,0⟩ : Entry)).toArray)] fun fr => r_bs tt_ok (fl eEntry.en [(⟨1,0,0,0,1,0,0,0,0⟩ : Entry),(⟨2,0,0,0,(-1),1,0,20,0⟩ : Entry),(⟨3,5,0,(-1),(-1),1,0,0,0⟩ : Entry),(⟨2,5,0,1,(-1),2,6,9,0⟩ : Entry)]) te_32 ti_45 (by kernel_rfl) (by kernel_rfl) (by kernel_rfl) (by kernel_rfl) fun bq20 => ?_
 replace h := h_b h; obtain ⟨⟨x22,x23,x24⟩,hx21,h⟩ := h
 refine rc (hc_14 (g_c0 := ⟨(A1,c2),(A4,c5),(A7,c8),(A10,c11),(A13,c14),(A16,c17)⟩) (c0 := cellplanelaw12_two) (A_l1 := (some ⟨bq20,0,none⟩)) (c_l1 := 4) (l1 := [(⟨1,0,0,0,1,0,0,0,0⟩ : Entry),(⟨2,0,0,0,(-1),1,0,20,0⟩ : Entry),(⟨3,5,0,(-1),(-1),1,0,0,0⟩ : Entry),(⟨2,5,0,1,(-1),2,6,9,0⟩ : Entry)]) (hS_c0 := by exact Le.refl _) (h_c0 := by exact ⟨sl_row 2 rfl,sl_row 3 rfl,sl_row 4 rfl,sl_row 5 rfl,sl_row 6 rfl,sl_row 7 rfl⟩) (hS_l1 := by exact Le.refl _) (h_l1 := by exact sl_row 0 rfl) (h := hx21)) ?_
 rintro _ _ ⟨A25,c26,A28,c29,rfl,rfl⟩
 refine r_al tt_ok (en_State (⟨0,0,[],[],0,0,0,0⟩ : State) (⟨(none,0),(none,0)⟩)) ti_38 (by kernel_rfl) fun bq31 => st 0 tt_ok (en_State x22 (⟨(A25,c26),(A28,c29)⟩)) (fn ta_38) rfl<|kr [(2,pp bq31 0),(3,ii x23),(4,ii x24)] fun fr => rd<|rb ?_
 replace h := h_j h; obtain ⟨K40,h,hK41⟩ := h
 refine r_meet (fun fr S => ∃ (x39 : Bool),∃ fr0,K40 x39 = some r ∧ fr = updL [(0,.bool x39)] fr0 ∧ S = ⟨ρ,L⟩) ?_ ?_
 ·apply r_iteh h<;>clear h<;>intro h
  ·refine kp [(2,pp bq31 0),(19,.bool true),(20,ii x24)] fun fr => r_T rfl ?_
   apply r_iteh h<;>clear h<;>intro h
   ·refine r_T rfl<|ld 0 tt_ok (v := .slice A25 x22.Tenants.length c26) ts_35 rfl<|r_T rfl<|r_T rfl ?_
    apply r_iteh h<;>clear h<;>intro h
    ·refine kp [(2,pp bq31 0),(29,.bool true),(30,pp bq31 2)] fun fr => r_T rfl<|ld 0 tt_ok (v := .slice A25 x22.Tenants.length c26) ts_35 rfl<|r_T rfl ?_
     replace h := h_b h; obtain ⟨x35,hx36,h⟩ := h
     refine r_el hx36 (rd_row 1 rfl)<|r_T rfl<|r_T rfl<|r_len (E := eTenantState) tt_ok (en_Window x35.Window) (idx_get hx36) (rd_row 1 rfl) ta_56 rfl (pl1 _ _ _) (by kernel_rfl) (by kernel_rfl)<|r_T rfl<|r_bd tt_ok (en_Window (⟨0,1,0,0,6⟩ : Window)) ti_56 tp_56 (by kernel_rfl)<|r_T rfl<|r_op (fun w => ex_eqS (fun w => eq_Window x35.Window (⟨0,1,0,0,6⟩ : Window) w) (by decide +kernel) rfl rfl rfl w) ?_
     apply r_iteh h<;>clear h<;>intro h
     ·refine kp [(2,pp bq31 0),(38,.bool true),(39,pp bq31 1)] fun fr => r_T rfl<|ld 0 tt_ok (v := ii x22.Count) ts_3 rfl<|r_T rfl ?_
      apply r_iteh h<;>clear h<;>intro h
      ·exact r_T rfl<|ld 0 tt_ok (v := ii x22.Tick) ts_3 rfl<|r_T rfl<|kr [(0,.bool (decide (x22.Tick = 5)))] fun fr => r_le (le_w [false,false,false,false,false,false,false,false,false,false,false])<|rd ⟨decide (x22.Tick = 5),_,h,fe _,by kernel_rfl⟩
      exact r_F rfl<|r_F rfl<|r_F rfl<|kr [(0,.bool false)] fun fr => r_le (le_w [false,false,false,false,false,false,false,false,false,false,false])<|rd ⟨false,_,h,fe _,by kernel_rfl⟩
     exact kp [(2,pp bq31 0),(38,.bool false),(39,undef)] fun fr => r_F rfl<|r_F rfl<|r_F rfl<|r_F rfl<|r_F rfl<|r_F rfl<|r_F rfl<|kr [(0,.bool false)] fun fr => r_le (le_w [false,false,false,false,false,false,false,false,false,false,false])<|rd ⟨false,_,h,fe _,by kernel_rfl⟩
    refine kp [(2,pp bq31 0),(29,.bool false),(30,undef)] fun fr => r_F rfl<|r_F rfl<|r_F rfl<|r_F rfl<|r_F rfl<|r_F rfl<|r_F rfl<|r_F rfl<|kp [(2,pp bq31 0),(38,.bool false),(39,undef)] fun fr => r_F rfl<|r_F rfl<|r_F rfl ?_
    exact r_F rfl<|r_F rfl<|r_F rfl<|r_F rfl<|kr [(0,.bool false)] fun fr => r_le (le_w [false,false,false,false,false,false,false,false,false,false,false])<|rd ⟨false,_,h,fe _,by kernel_rfl⟩
   refine r_F rfl<|r_F rfl<|r_F rfl<|r_F rfl<|r_F rfl<|kp [(2,pp bq31 0),(29,.bool false),(30,undef)] fun fr => r_F rfl<|r_F rfl<|r_F rfl<|r_F rfl<|r_F rfl<|r_F rfl<|r_F rfl ?_
   exact r_F rfl<|kp [(2,pp bq31 0),(38,.bool false),(39,undef)] fun fr => r_F rfl<|r_F rfl<|r_F rfl<|r_F rfl<|r_F rfl<|r_F rfl<|r_F rfl<|kr [(0,.bool false)] fun fr => r_le (le_w [false,false,false,false,false,false,false,false,false,false,false])<|rd ⟨false,_,h,fe _,by kernel_rfl⟩
  refine kp [(2,pp bq31 0),(19,.bool false),(20,undef)] fun fr => r_F rfl<|r_F rfl<|r_F rfl<|r_F rfl<|r_F rfl<|r_F rfl<|r_F rfl<|r_F rfl<|kp [(2,pp bq31 0),(29,.bool false),(30,undef)] fun fr => r_F rfl<|r_F rfl<|r_F rfl ?_
  refine r_F rfl<|r_F rfl<|r_F rfl<|r_F rfl<|r_F rfl<|kp [(2,pp bq31 0),(38,.bool false),(39,undef)] fun fr => r_F rfl<|r_F rfl<|r_F rfl<|r_F rfl<|r_F rfl<|r_F rfl<|r_F rfl ?_
  exact kr [(0,.bool false)] fun fr => r_le (le_w [false,false,false,false,false,false,false,false,false,false,false])<|rd ⟨false,_,h,fe _,by kernel_rfl⟩
 clear h
 rintro fr S ⟨x39,fr,h,rfl,rfl⟩
 replace h := hK41 _ h
 refine rd ?_
 repeat refine rd ?_
 repeat refine rd ?_
 obtain rfl := h_out h
 exact ret_of (RV.tmp RV.nil) (Le.refl _) ⟨rfl,rfl⟩
theorem hc_20 {A_l0 : Option Addr} {c_l0 : Nat} {S_l0 : St} (hS_l0 : Le ⟨ρ,L⟩ S_l0) (l0 : (List Int)) (h_l0 : Sl S_l0 A_l0 l0.length c_l0 (fl eI64.en l0))  : HC Tryz.prog 20 #[.slice A_l0 l0.length c_l0] ⟨ρ,L⟩ (fun v S' => ∃ (bq1 : Nat),∃ (Aq1_0 : Option Addr),∃ (cq1_0 : Nat),v = pp bq1 0 ∧ S' = ⟨ρ,.obj bq1 (en_cellplanemake_Tape (cellplanemake_New l0) (⟨(Aq1_0,cq1_0)⟩)) 94 :: L⟩ ∧ Sl S_l0 Aq1_0 ((cellplanemake_New l0).L).length cq1_0 (fl eI64.en ((cellplanemake_New l0).L))) := by
 generalize h : cellplanemake_New l0 = r
 unfold cellplanemake_New at h
 refine HC.intro (N := 6) (args := [_]) tt_ok Tryz.func20 rfl (by decide +kernel) rfl (Nat.le_of_ble_eq_true rfl)<|rb<|rd<|rb<|r_bd tt_ok (en_cellplanemake_Tape (⟨l0,0⟩ : cellplanemake_Tape) (⟨(A_l0,c_l0)⟩)) ti_94 tp_94 (by kernel_rfl)<|r_bx (en_cellplanemake_Tape (⟨l0,0⟩ : cellplanemake_Tape) (⟨(A_l0,c_l0)⟩)) (by kernel_rfl) fun bq1 => rd ?_
 repeat refine rd ?_
 repeat refine rd ?_
 subst h
 exact ret_of (RV.tmp RV.nil) (Le.refl _) ⟨bq1,A_l0,c_l0,rfl,rfl,h_l0⟩
theorem hc_13   (v0 : Int) (n1 : Int)  {r : Int} (h : cellplanemake_Mod v0 n1 = some r) : HC Tryz.prog 13 #[ii v0,ii n1] ⟨ρ,L⟩ (fun v S' => v = ii r ∧ S' = ⟨ρ,L⟩) := by
 replace h := h_in h
 refine HC.intro (N := 12) (args := [_,_]) tt_ok Tryz.func13 rfl (by decide +kernel) rfl (Nat.le_of_ble_eq_true rfl)<|rb<|rd<|rb ?_
 replace h := h_p h; obtain ⟨hc1,h⟩ := h
 refine r_check hc1<|r_num (e' := Int.tmod v0 n1) rfl<|r_num (e' := w64 ((Int.tmod v0 n1) + n1)) rfl ?_
 replace h := h_p h; obtain ⟨hc2,h⟩ := h
 refine r_check hc2<|r_num (e' := Int.tmod (w64 ((Int.tmod v0 n1) + n1)) n1) rfl<|kr [(4,ii (Int.tmod (w64 ((Int.tmod v0 n1) + n1)) n1))] fun fr => rd ?_
 repeat refine rd ?_
 repeat refine rd ?_
 obtain rfl := h_out h
 exact ret_of (RV.tmp RV.nil) (Le.refl _) ⟨rfl,rfl⟩
theorem hc_33 {bt0 : Nat} {g_t0 : gcellplanemake_Tape} {S_t0 : St} (hS_t0 : Le ⟨ρ,L⟩ S_t0) (t0 : cellplanemake_Tape) (n1 : Int) (h_t0 : Sl_cellplanemake_Tape S_t0 t0 g_t0) {r : (Int × Int)} (h : cellplanemake_Tape_Next t0 n1 = some r) : HC Tryz.prog 33 #[pp bt0 0,ii n1] ⟨ρ,.obj bt0 (en_cellplanemake_Tape t0 g_t0) 94 :: L⟩ (fun v S' => v = ii r.1 ∧ S' = ⟨ρ,.obj bt0 (en_cellplanemake_Tape ({ t0 with At := r.2 }) g_t0) 94 :: L⟩) := by
 replace h := h_in h
 refine HC.intro (N := 53) (args := [_,_]) tt_ok Tryz.func33 rfl (by decide +kernel) rfl (Nat.le_of_ble_eq_true rfl)<|rb<|rd<|rb<|rb<|ld 0 tt_ok (v := .slice g_t0.L.1 t0.L.length g_t0.L.2) ts_22 rfl<|rd ?_
 apply r_iteh h<;>clear h<;>intro h
 ·refine rb<|rd ?_
  repeat refine rd ?_
  repeat refine rd ?_
  obtain rfl := h_out h
  exact ret_of (RV.tmp RV.nil) (Le.refl _) ⟨rfl,rfl⟩
 refine rd<|rb<|r_mix tt_ok hm_ok _ _ [] (.pure 0 (.pure 1 (.pure 2 (.vb 3 (.pure 4 (.pure 5 (.pure 6 (.vb 7 (.pure 8 (.pure 9 (.pure 10 (.vb 11 (.pure 12 (.pure 13 (.vb 14 (.vb 15 (.pure 16 .nil))))))))))))))))) (le_w [true]) (le_w [true]) ?_ ?_
 ·decide +kernel
 refine x_p rfl<|vd<|x_p rfl<|vd<|xp [(0,pp bt0 0),(1,ii n1),(14,pp bt0 0)] fun fr => x_p rfl<|vd<|x_vb rfl<|vl 0 tt_ok (v := .slice g_t0.L.1 t0.L.length g_t0.L.2) ts_22 rfl<|vd<|x_p rfl<|vd<|x_p rfl ?_
 refine vd<|x_p rfl<|vd<|x_vb rfl<|vl 0 tt_ok (v := ii t0.At) ts_3 rfl<|vd<|x_p rfl<|vd<|x_p rfl<|vd<|x_p rfl<|vd<|xp [(0,pp bt0 0),(1,ii n1),(16,.slice g_t0.L.1 t0.L.length g_t0.L.2),(20,ii t0.At),(23,pp bt0 0)] fun fr => ?_
 refine x_vb rfl<|vl 0 tt_ok (v := .slice g_t0.L.1 t0.L.length g_t0.L.2) ts_22 rfl<|vd<|x_p rfl<|vd<|x_p rfl ?_
 replace h := h_p h; obtain ⟨hc2,h⟩ := h
 refine v_check hc2<|v_num (e' := Int.tmod t0.At (t0.L.length : Int)) rfl<|vd<|x_vb rfl ?_
 replace h := h_b h; obtain ⟨x3,hx4,h⟩ := h
 refine v_el hx4 ((h_t0).rd.mono ((le_d 1).trans hS_t0))<|vd<|x_vb rfl<|v_lec (E := eI64) tt_ok (v := ii x3) (idx_get hx4) ((h_t0).rd.mono ((le_d 1).trans hS_t0)) ts_3 rfl (pl0 _ _) (by kernel_rfl)<|vd<|x_p rfl<|vd<|xk [(0,pp bt0 0),(1,ii n1),(5,ii x3)] fun fr => rd<|rb<|r_mix tt_ok hm_ok _ _ [] (.pure 0 (.pure 1 (.pure 2 (.vb 3 (.pure 4 (.pure 5 (.pure 6 (.vb 7 (.pure 8 (.pure 9 (.pure 10 .nil))))))))))) (le_w [true]) (le_w [true]) ?_ ?_
 ·decide +kernel
 refine x_p rfl<|vd<|x_p rfl<|vd<|x_p rfl<|vd<|x_vb rfl<|vl 0 tt_ok (v := ii t0.At) ts_3 rfl<|vd<|x_p rfl<|vd<|x_p rfl<|vd ?_
 refine x_p rfl<|vd<|x_vb rfl<|vl 0 tt_ok (v := .slice g_t0.L.1 t0.L.length g_t0.L.2) ts_22 rfl<|vd<|x_p rfl<|vd<|xp [(0,pp bt0 0),(1,ii n1),(5,ii x3),(32,ii t0.At),(37,ii (t0.L.length : Int))] fun fr => x_p rfl ?_
 replace h := h_p h; obtain ⟨hc5,h⟩ := h
 refine v_check hc5<|v_num (e' := w64 (Int.tdiv t0.At (t0.L.length : Int))) rfl<|vd<|x_p rfl<|vd<|xk [(0,pp bt0 0),(1,ii n1),(5,ii x3),(6,ii (w64 (Int.tdiv t0.At (t0.L.length : Int))))] fun fr => rd<|rb<|ld 0 tt_ok (v := ii t0.At) ts_3 rfl<|r_num (e' := w64 (t0.At + 1)) rfl<|st 0 tt_ok (en_cellplanemake_Tape ({ t0 with At := w64 (t0.At + 1) }) g_t0) (f1 ts_3) rfl<|rd<|rb ?_
 replace h := h_b h; obtain ⟨x7,hx6,h⟩ := h
 refine rc (hc_13 (v0 := x3) (n1 := 1073741824) (h := hx6)) ?_
 rintro _ _ ⟨rfl,rfl⟩
 refine kp [(1,ii n1),(6,ii (w64 (Int.tdiv t0.At (t0.L.length : Int)))),(47,ii x7)] fun fr => r_num (e' := w64 ((w64 (Int.tdiv t0.At (t0.L.length : Int))) * 7)) rfl<|r_num (e' := w64 (x7 + (w64 ((w64 (Int.tdiv t0.At (t0.L.length : Int))) * 7)))) rfl ?_
 replace h := h_b h; obtain ⟨x9,hx8,h⟩ := h
 refine rc (hc_13 (v0 := w64 (x7 + (w64 ((w64 (Int.tdiv t0.At (t0.L.length : Int))) * 7)))) (n1 := n1) (h := hx8)) ?_
 rintro _ _ ⟨rfl,rfl⟩
 refine rd ?_
 repeat refine rd ?_
 repeat refine rd ?_
 obtain rfl := h_out h
 exact ret_of (RV.tmp RV.nil) (Le.refl _) ⟨rfl,rfl⟩
theorem hc_23   (v0 : Int) (low1 : Int) (high2 : Int)  {r : Int} (h : cellplanemake_Between v0 low1 high2 = some r) : HC Tryz.prog 23 #[ii v0,ii low1,ii high2] ⟨ρ,L⟩ (fun v S' => v = ii r ∧ S' = ⟨ρ,L⟩) := by
 replace h := h_in h
 refine HC.intro (N := 15) (args := [_,_,_]) tt_ok Tryz.func23 rfl (by decide +kernel) rfl (Nat.le_of_ble_eq_true rfl)<|rb<|rd<|rb<|r_num (e' := w64 (high2 - low1)) rfl<|r_num (e' := w64 ((w64 (high2 - low1)) + 1)) rfl ?_
 replace h := h_b h; obtain ⟨x2,hx1,h⟩ := h
 refine rc (hc_13 (v0 := v0) (n1 := w64 ((w64 (high2 - low1)) + 1)) (h := hx1)) ?_
 rintro _ _ ⟨rfl,rfl⟩
 refine r_num (e' := w64 (low1 + x2)) rfl<|kp [(6,ii 0),(14,ii (w64 (low1 + x2)))] fun fr => rd ?_
 repeat refine rd ?_
 repeat refine rd ?_
 obtain rfl := h_out h
 exact ret_of (RV.tmp RV.nil) (Le.refl _) ⟨rfl,rfl⟩
theorem hc_34 {bt0 : Nat} {g_t0 : gcellplanemake_Tape} {S_t0 : St} (hS_t0 : Le ⟨ρ,L⟩ S_t0) (t0 : cellplanemake_Tape) (low1 : Int) (high2 : Int) (h_t0 : Sl_cellplanemake_Tape S_t0 t0 g_t0) {r : (Int × Int)} (h : cellplanemake_Tape_Range t0 low1 high2 = some r) : HC Tryz.prog 34 #[pp bt0 0,ii low1,ii high2] ⟨ρ,.obj bt0 (en_cellplanemake_Tape t0 g_t0) 94 :: L⟩ (fun v S' => v = ii r.1 ∧ S' = ⟨ρ,.obj bt0 (en_cellplanemake_Tape ({ t0 with At := r.2 }) g_t0) 94 :: L⟩) := by
 replace h := h_in h
 refine HC.intro (N := 15) (args := [_,_,_]) tt_ok Tryz.func34 rfl (by decide +kernel) rfl (Nat.le_of_ble_eq_true rfl)<|rb<|rd<|rb<|r_num (e' := w64 (high2 - low1)) rfl<|r_num (e' := w64 ((w64 (high2 - low1)) + 1)) rfl ?_
 replace h := h_b h; obtain ⟨⟨x2,x3⟩,hx1,h⟩ := h
 refine rc (hc_33 (bt0 := bt0) (g_t0 := g_t0) (t0 := t0) (n1 := w64 ((w64 (high2 - low1)) + 1)) (hS_t0 := by exact (le_d 0).trans hS_t0) (h_t0 :=h_t0) (h := hx1)) ?_
 rintro _ _ ⟨rfl,rfl⟩
 refine r_num (e' := w64 (low1 + x2)) rfl<|kp [(6,ii 0),(14,ii (w64 (low1 + x2)))] fun fr => rd ?_
 repeat refine rd ?_
 repeat refine rd ?_
 obtain rfl := h_out h
 exact ret_of (RV.tmp RV.nil) (Le.refl _) ⟨rfl,rfl⟩
theorem hc_35 {bt0 : Nat} {g_t0 : gcellplanemake_Tape} {S_t0 : St} (hS_t0 : Le ⟨ρ,L⟩ S_t0) (t0 : cellplanemake_Tape) (n1 : Int) (h_t0 : Sl_cellplanemake_Tape S_t0 t0 g_t0) {r : (Bool × Int)} (h : cellplanemake_Tape_Yes t0 n1 = some r) : HC Tryz.prog 35 #[pp bt0 0,ii n1] ⟨ρ,.obj bt0 (en_cellplanemake_Tape t0 g_t0) 94 :: L⟩ (fun v S' => v = .bool r.1 ∧ S' = ⟨ρ,.obj bt0 (en_cellplanemake_Tape ({ t0 with At := r.2 }) g_t0) 94 :: L⟩) := by
 replace h := h_in h
 refine HC.intro (N := 9) (args := [_,_]) tt_ok Tryz.func35 rfl (by decide +kernel) rfl (Nat.le_of_ble_eq_true rfl)<|rb<|rd<|rb ?_
 replace h := h_b h; obtain ⟨⟨x2,x3⟩,hx1,h⟩ := h
 refine rc (hc_33 (bt0 := bt0) (g_t0 := g_t0) (t0 := t0) (n1 := n1) (hS_t0 := by exact (le_d 0).trans hS_t0) (h_t0 :=h_t0) (h := hx1)) ?_
 rintro _ _ ⟨rfl,rfl⟩
 refine rd ?_
 repeat refine rd ?_
 repeat refine rd ?_
 obtain rfl := h_out h
 exact ret_of (RV.tmp RV.nil) (Le.refl _) ⟨rfl,rfl⟩
theorem hc_11 {A_l0 : Option Addr} {c_l0 : Nat} {S_l0 : St} (hS_l0 : Le ⟨ρ,L⟩ S_l0) (l0 : (List Int)) (h_l0 : Sl S_l0 A_l0 l0.length c_l0 (fl eI64.en l0)) {r : Config} (h : cellplanemake_Config l0 = some r) : HC Tryz.prog 11 #[.slice A_l0 l0.length c_l0] ⟨ρ,L⟩ (fun v S' => ∃ (Aq1_0 : Option Addr),∃ (cq1_0 : Nat),∃ (Aq1_1 : Option Addr),∃ (cq1_1 : Nat),∃ (Aq1_2 : Option Addr),∃ (cq1_2 : Nat),∃ (Aq1_3 : Option Addr),∃ (cq1_3 : Nat),∃ (Aq1_4 : Option Addr),∃ (cq1_4 : Nat),∃ (Aq1_5 : Option Addr),∃ (cq1_5 : Nat),v = .agg (en_Config r (⟨(Aq1_0,cq1_0),(Aq1_1,cq1_1),(Aq1_2,cq1_2),(Aq1_3,cq1_3),(Aq1_4,cq1_4),(Aq1_5,cq1_5)⟩)).toArray ∧ S' = ⟨ρ,.row Aq1_0 r.Zones.length cq1_0 72 1 (fl eZone.en r.Zones) :: .row Aq1_1 r.Cells.length cq1_1 74 2 (fl eCell.en r.Cells) :: .row Aq1_2 r.Tenants.length cq1_2 77 7 (fl eTenant.en r.Tenants) :: .row Aq1_3 r.Versions.length cq1_3 79 2 (fl eVersion.en r.Versions) :: .row Aq1_4 r.Replicas.length cq1_4 3 1 (fl eI64.en r.Replicas) :: .row Aq1_5 r.Observers.length cq1_5 3 1 (fl eI64.en r.Observers) :: L⟩) := by
 replace h := h_in h
 refine HC.intro (N := 182) (args := [_]) tt_ok Tryz.func11 rfl (by decide +kernel) rfl (Nat.le_of_ble_eq_true rfl)<|rb<|r_al tt_ok (en_Config (⟨0,[],[],[],[],[],[],0,0,0⟩ : Config) (⟨(none,0),(none,0),(none,0),(none,0),(none,0),(none,0)⟩)) ti_30 (by kernel_rfl) fun bq1 => rd<|rb<|rc (hc_20 (A_l0 := A_l0) (c_l0 := c_l0) (l0 := l0) (hS_l0 := by exact (le_d 1).trans hS_l0) (h_l0 :=h_l0)) ?_
 rintro _ _ ⟨bq2,A3,c4,rfl,rfl,hs5⟩
 refine rd<|rb ?_
 replace h := h_b h; obtain ⟨⟨x7,x8⟩,hx6,h⟩ := h
 refine rc (hc_33 (bt0 := bq2) (g_t0 := ⟨(A3,c4)⟩) (t0 := (cellplanemake_New l0)) (n1 := 5) (hS_t0 := by exact (le_d 1).trans hS_l0) (h_t0 :=hs5) (h := hx6)) ?_
 rintro _ _ ⟨rfl,rfl⟩
 refine r_num (e' := w64 (x7 + 1)) rfl ?_
 replace h := h_b h; obtain ⟨x10,hx9,h⟩ := h
 refine rc (hc_23 (v0 := w64 (x7 + 1)) (low1 := 1) (high2 := 3) (h := hx9)) ?_
 rintro _ _ ⟨rfl,rfl⟩
 replace h := h_b h; obtain ⟨⟨x12,x13⟩,hx11,h⟩ := h
 refine rc (hc_34 (bt0 := bq2) (g_t0 := ⟨(A3,c4)⟩) (t0 := { (cellplanemake_New l0) with At := x8 }) (low1 := 1) (high2 := 3) (hS_t0 := by exact (le_d 1).trans hS_l0) (h_t0 :=hs5) (h := hx11)) ?_
 rintro _ _ ⟨rfl,rfl⟩
 refine kp [(2,pp bq1 0),(3,pp bq2 0),(19,ii x10),(21,ii x12)] fun fr => ?_
 replace h := h_b h; obtain ⟨⟨x15,x16⟩,hx14,h⟩ := h
 refine rc (hc_34 (bt0 := bq2) (g_t0 := ⟨(A3,c4)⟩) (t0 := { (cellplanemake_New l0) with At := x13 }) (low1 := 2) (high2 := 12) (hS_t0 := by exact (le_d 1).trans hS_l0) (h_t0 :=hs5) (h := hx14)) ?_
 rintro _ _ ⟨rfl,rfl⟩
 replace h := h_b h; obtain ⟨⟨x18,x19⟩,hx17,h⟩ := h
 refine rc (hc_33 (bt0 := bq2) (g_t0 := ⟨(A3,c4)⟩) (t0 := { (cellplanemake_New l0) with At := x16 }) (n1 := 9) (hS_t0 := by exact (le_d 1).trans hS_l0) (h_t0 :=hs5) (h := hx17)) ?_
 rintro _ _ ⟨rfl,rfl⟩
 refine r_bd tt_ok (en_Config (⟨x10,[],[],[],[],[],[],x12,x15,x18⟩ : Config) (⟨(none,0),(none,0),(none,0),(none,0),(none,0),(none,0)⟩)) ti_30 tp_30 (by kernel_rfl)<|r_al tt_ok (en_Config (⟨0,[],[],[],[],[],[],0,0,0⟩ : Config) (⟨(none,0),(none,0),(none,0),(none,0),(none,0),(none,0)⟩)) ti_30 (by kernel_rfl) fun bq20 => st 0 tt_ok (en_Config (⟨x10,[],[],[],[],[],[],x12,x15,x18⟩ : Config) (⟨(none,0),(none,0),(none,0),(none,0),(none,0),(none,0)⟩)) (fn ta_30) rfl<|rd<|rb ?_
 replace h := h_j h; obtain ⟨K100,h,hK101⟩ := h
 refine r_meet (fun fr S => ∃ (at95 : Int),∃ (xs96 : (List Zone)),∃ (A97 : Option Addr),∃ (c98 : Nat),∃ fr0,K100 (at95,xs96) = some r ∧ fr = updL [(2,pp bq1 0),(3,pp bq2 0),(4,pp bq20 0)] fr0 ∧ S = ⟨ρ,.row A97 xs96.length c98 72 1 (fl eZone.en xs96) :: .obj bq20 (en_Config (⟨x10,xs96,[],[],[],[],[],x12,x15,x18⟩ : Config) (⟨(A97,c98),(none,0),(none,0),(none,0),(none,0),(none,0)⟩)) 30 :: .obj bq2 (en_cellplanemake_Tape ({ (cellplanemake_New l0) with At := at95 }) (⟨(A3,c4)⟩)) 94 :: .obj bq1 (en_Config (⟨0,[],[],[],[],[],[],0,0,0⟩ : Config) (⟨(none,0),(none,0),(none,0),(none,0),(none,0),(none,0)⟩)) 30 :: L⟩) ?_ ?_
 ·refine rb<|rd<|rb ?_
  replace h := h_l h; obtain ⟨K91,n92,h,hK93⟩ := h
  refine r_le (le_nil 72 1)<|r_loop (fun n fr S => ∃ (x68 : Int),∃ (at69 : Int),∃ (xs70 : (List Zone)),∃ (A71 : Option Addr),∃ (c72 : Nat),∃ fr0,(runN (cellplanemake_Config.b2 x10 l0) n (x68,at69,xs70)).bind K91 = some r ∧ fr = updL [(2,pp bq1 0),(3,pp bq2 0),(4,pp bq20 0),(5,ii x68)] fr0 ∧ S = ⟨ρ,.row A71 xs70.length c72 72 1 (fl eZone.en xs70) :: .obj bq20 (en_Config (⟨x10,xs70,[],[],[],[],[],x12,x15,x18⟩ : Config) (⟨(A71,c72),(none,0),(none,0),(none,0),(none,0),(none,0)⟩)) 30 :: .obj bq2 (en_cellplanemake_Tape ({ (cellplanemake_New l0) with At := at69 }) (⟨(A3,c4)⟩)) 94 :: .obj bq1 (en_Config (⟨0,[],[],[],[],[],[],0,0,0⟩ : Config) (⟨(none,0),(none,0),(none,0),(none,0),(none,0),(none,0)⟩)) 30 :: L⟩) n92 ⟨0,x19,[],none,0,_,h,fe _,by kernel_rfl⟩ ?_
  clear h
  rintro n92 fr S ⟨x68,at69,xs70,A71,c72,fr,h,rfl,rfl⟩
  replace h := h_r h; obtain ⟨m94,hm94,h⟩ := h
  refine rb<|rb ?_
  replace h := h_j h; obtain ⟨K81,h,hK82⟩ := h
  refine r_meet (fun fr S => ∃ (x79 : Bool),∃ (at80 : Int),∃ fr0,K81 (x79,at80) = some r ∧ fr = updL [(2,pp bq1 0),(3,pp bq2 0),(4,pp bq20 0),(5,ii x68),(38,.bool x79)] fr0 ∧ S = ⟨ρ,.row A71 xs70.length c72 72 1 (fl eZone.en xs70) :: .obj bq20 (en_Config (⟨x10,xs70,[],[],[],[],[],x12,x15,x18⟩ : Config) (⟨(A71,c72),(none,0),(none,0),(none,0),(none,0),(none,0)⟩)) 30 :: .obj bq2 (en_cellplanemake_Tape ({ (cellplanemake_New l0) with At := at80 }) (⟨(A3,c4)⟩)) 94 :: .obj bq1 (en_Config (⟨0,[],[],[],[],[],[],0,0,0⟩ : Config) (⟨(none,0),(none,0),(none,0),(none,0),(none,0),(none,0)⟩)) 30 :: L⟩) ?_ ?_
  ·refine ld 1 tt_ok (v := ii x10) ts_3 rfl ?_
   apply r_iteh h<;>clear h<;>intro h
   ·exact kp [(2,pp bq1 0),(3,pp bq2 0),(4,pp bq20 0),(5,ii x68),(31,.bool true),(32,undef)] fun fr => r_T rfl<|r_T rfl<|r_T rfl<|r_T rfl<|rd ⟨true,at69,_,h,fe _,by kernel_rfl⟩
   refine kp [(2,pp bq1 0),(3,pp bq2 0),(4,pp bq20 0),(5,ii x68),(31,.bool false),(32,pp bq2 0)] fun fr => r_F rfl<|r_le (le_mv 2) ?_
   replace h := h_b h; obtain ⟨⟨x76,x77⟩,hx75,h⟩ := h
   refine rc (hc_35 (bt0 := bq2) (g_t0 := ⟨(A3,c4)⟩) (t0 := { (cellplanemake_New l0) with At := at69 }) (n1 := 3) (hS_t0 := by exact (le_d 3).trans hS_l0) (h_t0 :=hs5) (h := hx75)) ?_
   rintro _ _ ⟨rfl,rfl⟩
   refine r_F rfl ?_
   apply r_iteh h<;>clear h<;>intro h
   ·exact r_T rfl<|r_F rfl<|r_le ((le_mv 3).trans ((le_mv 1).trans ((le_mv 3).trans (le_mv 3))))<|rd ⟨decide (x68 < 6),x77,_,h,fe _,by kernel_rfl⟩
   exact r_F rfl<|r_F rfl<|r_F rfl<|r_le ((le_mv 3).trans ((le_mv 1).trans ((le_mv 3).trans (le_mv 3))))<|rd ⟨false,x77,_,h,fe _,by kernel_rfl⟩
  clear h
  rintro fr S ⟨x79,at80,fr,h,rfl,rfl⟩
  replace h := hK82 _ h
  refine rd ?_
  apply r_iteh h<;>clear h<;>intro h
  ·refine rd<|rb<|rb<|r_mix tt_ok hm_ok _ _ [10] (.pure 0 (.va 1 (.pure 2 (.pure 3 (.va 4 (.pure 5 (.pure 6 (.eff 7 (.eff 8 (.pure 9 (.eff 10 .nil))))))))))) (le_w [false,true,true,true]) (le_w [false,false,true,true]) ?_ ?_
   ·decide +kernel
   refine x_p rfl<|vd<|x_va rfl<|vl 0 tt_ok (v := .slice A71 xs70.length c72) ts_25 rfl<|vd<|x_p rfl<|vd<|x_p rfl<|vd<|x_va rfl<|vl 0 tt_ok (v := ii x10) ts_3 rfl<|vd<|x_p rfl ?_
   replace h := h_p h; obtain ⟨hc84,h⟩ := h
   refine v_check hc84<|v_num (e' := Int.tmod x68 x10) rfl<|vd<|x_p rfl<|v_bd tt_ok (en_Zone (⟨Int.tmod x68 x10⟩ : Zone)) ti_72 tp_72 (by kernel_rfl)<|vd<|x_e rfl<|r_bs tt_ok (fl eZone.en [(⟨Int.tmod x68 x10⟩ : Zone)]) te_25 ti_72 (by kernel_rfl) (by kernel_rfl) (by kernel_rfl) (by kernel_rfl) fun bq85 => rd ⟨rfl,k_a (le_w [false,false,true,true,true]) (le_w [false,false,false,true,true]),?_⟩
   refine x_e rfl ?_
   replace h := h_b h; obtain ⟨xs86,ha87,h⟩ := h
   refine r_app 1 (E := eZone) (xs := xs70) (ys := [(⟨Int.tmod x68 x10⟩ : Zone)]) tt_ok ha87 (rd_row 0 rfl) rfl te_25 ti_72 rfl (by kernel_rfl) rfl (fun A88 c89 => ?_)
   refine rd ⟨rfl,k_a (le_w [false,false,true,true,true]) (le_w [false,false,false,true,true]),?_⟩
   refine xp [(2,pp bq1 0),(3,pp bq2 0),(4,pp bq20 0),(5,ii x68),(49,.slice A88 xs86.length c89)] fun fr => x_p rfl<|vd<|x_e rfl<|st 2 tt_ok (en_Config (⟨x10,xs86,[],[],[],[],[],x12,x15,x18⟩ : Config) (⟨(A88,c89),(none,0),(none,0),(none,0),(none,0),(none,0)⟩)) (f1 ts_25) rfl<|rd ⟨rfl,k_b rfl (le_w [false,false,false,true,true]),?_⟩
   exact xk [(2,pp bq1 0),(3,pp bq2 0),(4,pp bq20 0),(5,ii x68)] fun fr => rd<|rd<|r_num (e' := w64 (x68 + 1)) rfl<|r_le (le_w [false,true,true,true,true])<|rd ⟨m94,lt_s hm94,w64 (x68 + 1),at80,xs86,A88,c89,_,h,fe _,by kernel_rfl⟩
  refine rd<|rd ?_
  replace h := h_m h
  subst hK93
  exact rd ⟨at80,xs70,A71,c72,_,h,fe _,by kernel_rfl⟩
 clear h
 rintro fr S ⟨at95,xs96,A97,c98,fr,h,rfl,rfl⟩
 replace h := hK101 _ h
 refine rd<|rb ?_
 replace h := h_j h; obtain ⟨K190,h,hK191⟩ := h
 refine r_meet (fun fr S => ∃ (at185 : Int),∃ (xs186 : (List Cell)),∃ (A187 : Option Addr),∃ (c188 : Nat),∃ fr0,K190 (at185,xs186) = some r ∧ fr = updL [(2,pp bq1 0),(3,pp bq2 0),(4,pp bq20 0)] fr0 ∧ S = ⟨ρ,.row A187 xs186.length c188 74 2 (fl eCell.en xs186) :: .row A97 xs96.length c98 72 1 (fl eZone.en xs96) :: .obj bq20 (en_Config (⟨x10,xs96,xs186,[],[],[],[],x12,x15,x18⟩ : Config) (⟨(A97,c98),(A187,c188),(none,0),(none,0),(none,0),(none,0)⟩)) 30 :: .obj bq2 (en_cellplanemake_Tape ({ (cellplanemake_New l0) with At := at185 }) (⟨(A3,c4)⟩)) 94 :: .obj bq1 (en_Config (⟨0,[],[],[],[],[],[],0,0,0⟩ : Config) (⟨(none,0),(none,0),(none,0),(none,0),(none,0),(none,0)⟩)) 30 :: L⟩) ?_ ?_
 ·refine rb<|rd<|rb ?_
  replace h := h_l h; obtain ⟨K181,n182,h,hK183⟩ := h
  refine r_le (le_nil 74 2)<|r_loop (fun n fr S => ∃ (x155 : Int),∃ (at156 : Int),∃ (xs157 : (List Cell)),∃ (A158 : Option Addr),∃ (c159 : Nat),∃ fr0,(runN (cellplanemake_Config.b5 xs96 l0) n (x155,at156,xs157)).bind K181 = some r ∧ fr = updL [(2,pp bq1 0),(3,pp bq2 0),(4,pp bq20 0),(6,ii x155)] fr0 ∧ S = ⟨ρ,.row A158 xs157.length c159 74 2 (fl eCell.en xs157) :: .row A97 xs96.length c98 72 1 (fl eZone.en xs96) :: .obj bq20 (en_Config (⟨x10,xs96,xs157,[],[],[],[],x12,x15,x18⟩ : Config) (⟨(A97,c98),(A158,c159),(none,0),(none,0),(none,0),(none,0)⟩)) 30 :: .obj bq2 (en_cellplanemake_Tape ({ (cellplanemake_New l0) with At := at156 }) (⟨(A3,c4)⟩)) 94 :: .obj bq1 (en_Config (⟨0,[],[],[],[],[],[],0,0,0⟩ : Config) (⟨(none,0),(none,0),(none,0),(none,0),(none,0),(none,0)⟩)) 30 :: L⟩) n182 ⟨0,at95,[],none,0,_,h,fe _,by kernel_rfl⟩ ?_
  clear h
  rintro n182 fr S ⟨x155,at156,xs157,A158,c159,fr,h,rfl,rfl⟩
  replace h := h_r h; obtain ⟨m184,hm184,h⟩ := h
  refine rb<|rb ?_
  replace h := h_j h; obtain ⟨K168,h,hK169⟩ := h
  refine r_meet (fun fr S => ∃ (x166 : Bool),∃ (at167 : Int),∃ fr0,K168 (x166,at167) = some r ∧ fr = updL [(2,pp bq1 0),(3,pp bq2 0),(4,pp bq20 0),(6,ii x155),(63,.bool x166)] fr0 ∧ S = ⟨ρ,.row A158 xs157.length c159 74 2 (fl eCell.en xs157) :: .row A97 xs96.length c98 72 1 (fl eZone.en xs96) :: .obj bq20 (en_Config (⟨x10,xs96,xs157,[],[],[],[],x12,x15,x18⟩ : Config) (⟨(A97,c98),(A158,c159),(none,0),(none,0),(none,0),(none,0)⟩)) 30 :: .obj bq2 (en_cellplanemake_Tape ({ (cellplanemake_New l0) with At := at167 }) (⟨(A3,c4)⟩)) 94 :: .obj bq1 (en_Config (⟨0,[],[],[],[],[],[],0,0,0⟩ : Config) (⟨(none,0),(none,0),(none,0),(none,0),(none,0),(none,0)⟩)) 30 :: L⟩) ?_ ?_
  ·refine ld 2 tt_ok (v := .slice A97 xs96.length c98) ts_25 rfl ?_
   apply r_iteh h<;>clear h<;>intro h
   ·exact kp [(2,pp bq1 0),(3,pp bq2 0),(4,pp bq20 0),(6,ii x155),(56,.bool true),(57,undef)] fun fr => r_T rfl<|r_T rfl<|r_T rfl<|r_T rfl<|rd ⟨true,at156,_,h,fe _,by kernel_rfl⟩
   refine kp [(2,pp bq1 0),(3,pp bq2 0),(4,pp bq20 0),(6,ii x155),(56,.bool false),(57,pp bq2 0)] fun fr => r_F rfl<|r_le (le_mv 3) ?_
   replace h := h_b h; obtain ⟨⟨x163,x164⟩,hx162,h⟩ := h
   refine rc (hc_35 (bt0 := bq2) (g_t0 := ⟨(A3,c4)⟩) (t0 := { (cellplanemake_New l0) with At := at156 }) (n1 := 2) (hS_t0 := by exact (le_d 4).trans hS_l0) (h_t0 :=hs5) (h := hx162)) ?_
   rintro _ _ ⟨rfl,rfl⟩
   refine r_F rfl ?_
   apply r_iteh h<;>clear h<;>intro h
   ·exact r_T rfl<|r_F rfl<|r_le ((le_mv 4).trans ((le_mv 1).trans ((le_mv 4).trans ((le_mv 4).trans (le_mv 4)))))<|rd ⟨decide (x155 < 7),x164,_,h,fe _,by kernel_rfl⟩
   exact r_F rfl<|r_F rfl<|r_F rfl<|r_le ((le_mv 4).trans ((le_mv 1).trans ((le_mv 4).trans ((le_mv 4).trans (le_mv 4)))))<|rd ⟨false,x164,_,h,fe _,by kernel_rfl⟩
  clear h
  rintro fr S ⟨x166,at167,fr,h,rfl,rfl⟩
  replace h := hK169 _ h
  refine rd ?_
  apply r_iteh h<;>clear h<;>intro h
  ·refine rd<|rb<|rb<|r_mix tt_ok hm_ok _ _ [14] (.pure 0 (.va 1 (.pure 2 (.pure 3 (.va 4 (.pure 5 (.pure 6 (.pure 7 (.eff 8 (.pure 9 (.pure 10 (.eff 11 (.eff 12 (.pure 13 (.eff 14 .nil))))))))))))))) (le_w [false,true,true,false,true]) (le_w [false,true,false,false,true]) ?_ ?_
   ·decide +kernel
   refine x_p rfl<|vd<|x_va rfl<|vl 1 tt_ok (v := .slice A158 xs157.length c159) ts_26 rfl<|vd<|x_p rfl<|vd<|x_p rfl<|vd<|x_va rfl<|vl 1 tt_ok (v := .slice A97 xs96.length c98) ts_25 rfl<|vd<|x_p rfl ?_
   refine vd<|x_p rfl ?_
   replace h := h_p h; obtain ⟨hc171,h⟩ := h
   refine v_check hc171<|v_num (e' := Int.tmod x155 (xs96.length : Int)) rfl<|vd<|x_p rfl<|vd<|x_e rfl<|r_le (le_mv 3) ?_
   replace h := h_b h; obtain ⟨⟨x173,x174⟩,hx172,h⟩ := h
   refine rc (hc_34 (bt0 := bq2) (g_t0 := ⟨(A3,c4)⟩) (t0 := { (cellplanemake_New l0) with At := at167 }) (low1 := 1) (high2 := 4) (hS_t0 := by exact (le_d 4).trans hS_l0) (h_t0 :=hs5) (h := hx172)) ?_
   rintro _ _ ⟨rfl,rfl⟩
   refine rd ⟨rfl,k_a (le_w [false,false,true,true,true]) (le_w [false,false,true,false,true]),?_⟩
   refine xp [(2,pp bq1 0),(3,pp bq2 0),(4,pp bq20 0),(6,ii x155),(67,.slice A158 xs157.length c159),(72,ii (Int.tmod x155 (xs96.length : Int))),(74,ii x173)] fun fr => x_p rfl<|v_num (e' := w64 (x173 * 10)) rfl<|vd<|x_p rfl<|v_bd tt_ok (en_Cell (⟨Int.tmod x155 (xs96.length : Int),w64 (x173 * 10)⟩ : Cell)) ti_74 tp_74 (by kernel_rfl)<|vd<|x_e rfl<|r_bs tt_ok (fl eCell.en [(⟨Int.tmod x155 (xs96.length : Int),w64 (x173 * 10)⟩ : Cell)]) te_26 ti_74 (by kernel_rfl) (by kernel_rfl) (by kernel_rfl) (by kernel_rfl) fun bq175 => rd ⟨rfl,k_a (le_w [false,false,false,true,true,true]) (le_w [false,false,false,true,false,true]),?_⟩
   refine x_e rfl ?_
   replace h := h_b h; obtain ⟨xs176,ha177,h⟩ := h
   refine r_app 2 (E := eCell) (xs := xs157) (ys := [(⟨Int.tmod x155 (xs96.length : Int),w64 (x173 * 10)⟩ : Cell)]) tt_ok ha177 (rd_row 0 rfl) rfl te_26 ti_74 rfl (by kernel_rfl) rfl (fun A178 c179 => ?_)
   refine rd ⟨rfl,k_a (le_w [false,false,false,true,true,true]) (le_w [false,false,false,true,false,true]),?_⟩
   refine x_p rfl<|vd<|x_e rfl<|st 4 tt_ok (en_Config (⟨x10,xs96,xs176,[],[],[],[],x12,x15,x18⟩ : Config) (⟨(A97,c98),(A178,c179),(none,0),(none,0),(none,0),(none,0)⟩)) (f1 ts_26) rfl<|rd ⟨rfl,k_b rfl (le_w [false,false,false,true,false,true]),?_⟩
   exact xk [(2,pp bq1 0),(3,pp bq2 0),(4,pp bq20 0),(6,ii x155)] fun fr => rd<|rd<|r_num (e' := w64 (x155 + 1)) rfl<|r_le ((le_mv 5).trans ((le_mv 2).trans ((le_mv 5).trans ((le_mv 5).trans ((le_mv 5).trans (le_w [true,true,true,true,true,false]))))))<|rd ⟨m184,lt_s hm184,w64 (x155 + 1),x174,xs176,A178,c179,_,h,fe _,by kernel_rfl⟩
  refine rd<|rd ?_
  replace h := h_m h
  subst hK183
  exact rd ⟨at167,xs157,A158,c159,_,h,fe _,by kernel_rfl⟩
 clear h
 rintro fr S ⟨at185,xs186,A187,c188,fr,h,rfl,rfl⟩
 replace h := hK191 _ h
 refine rd<|rb ?_
 replace h := h_j h; obtain ⟨K499,h,hK500⟩ := h
 refine r_meet (fun fr S => ∃ (at494 : Int),∃ (xs495 : (List Tenant)),∃ (A496 : Option Addr),∃ (c497 : Nat),∃ fr0,K499 (at494,xs495) = some r ∧ fr = updL [(2,pp bq1 0),(3,pp bq2 0),(4,pp bq20 0)] fr0 ∧ S = ⟨ρ,.row A496 xs495.length c497 77 7 (fl eTenant.en xs495) :: .obj bq2 (en_cellplanemake_Tape ({ (cellplanemake_New l0) with At := at494 }) (⟨(A3,c4)⟩)) 94 :: .row A187 xs186.length c188 74 2 (fl eCell.en xs186) :: .row A97 xs96.length c98 72 1 (fl eZone.en xs96) :: .obj bq20 (en_Config (⟨x10,xs96,xs186,xs495,[],[],[],x12,x15,x18⟩ : Config) (⟨(A97,c98),(A187,c188),(A496,c497),(none,0),(none,0),(none,0)⟩)) 30 :: .obj bq1 (en_Config (⟨0,[],[],[],[],[],[],0,0,0⟩ : Config) (⟨(none,0),(none,0),(none,0),(none,0),(none,0),(none,0)⟩)) 30 :: L⟩) ?_ ?_
 ·refine rb<|r_le (le_mv 3) ?_
  replace h := h_b h; obtain ⟨⟨x193,x194⟩,hx192,h⟩ := h
  refine rc (hc_33 (bt0 := bq2) (g_t0 := ⟨(A3,c4)⟩) (t0 := { (cellplanemake_New l0) with At := at185 }) (n1 := 6) (hS_t0 := by exact (le_d 4).trans hS_l0) (h_t0 :=hs5) (h := hx192)) ?_
  rintro _ _ ⟨rfl,rfl⟩
  refine rd<|rb ?_
  replace h := h_l h; obtain ⟨K490,n491,h,hK492⟩ := h
  refine r_le (le_nil 77 7)<|r_loop (fun n fr S => ∃ (x392 : Int),∃ (at393 : Int),∃ (xs394 : (List Tenant)),∃ (A395 : Option Addr),∃ (c396 : Nat),∃ fr0,(runN (cellplanemake_Config.b8 l0 x10) n (x392,at393,xs394)).bind K490 = some r ∧ fr = updL [(2,pp bq1 0),(3,pp bq2 0),(4,pp bq20 0),(7,ii x392)] fr0 ∧ S = ⟨ρ,.row A395 xs394.length c396 77 7 (fl eTenant.en xs394) :: .obj bq2 (en_cellplanemake_Tape ({ (cellplanemake_New l0) with At := at393 }) (⟨(A3,c4)⟩)) 94 :: .row A187 xs186.length c188 74 2 (fl eCell.en xs186) :: .row A97 xs96.length c98 72 1 (fl eZone.en xs96) :: .obj bq20 (en_Config (⟨x10,xs96,xs186,xs394,[],[],[],x12,x15,x18⟩ : Config) (⟨(A97,c98),(A187,c188),(A395,c396),(none,0),(none,0),(none,0)⟩)) 30 :: .obj bq1 (en_Config (⟨0,[],[],[],[],[],[],0,0,0⟩ : Config) (⟨(none,0),(none,0),(none,0),(none,0),(none,0),(none,0)⟩)) 30 :: L⟩) n491 ⟨x193,x194,[],none,0,_,h,fe _,by kernel_rfl⟩ ?_
  clear h
  rintro n491 fr S ⟨x392,at393,xs394,A395,c396,fr,h,rfl,rfl⟩
  replace h := h_r h; obtain ⟨m493,hm493,h⟩ := h
  refine rb<|rb<|rd ?_
  apply r_iteh h<;>clear h<;>intro h
  ·refine rd<|rb<|rb<|rb<|r_le (le_mv 1) ?_
   replace h := h_b h; obtain ⟨⟨x400,x401⟩,hx399,h⟩ := h
   refine rc (hc_34 (bt0 := bq2) (g_t0 := ⟨(A3,c4)⟩) (t0 := { (cellplanemake_New l0) with At := at393 }) (low1 := 1) (high2 := 12) (hS_t0 := by exact (le_d 5).trans hS_l0) (h_t0 :=hs5) (h := hx399)) ?_
   rintro _ _ ⟨rfl,rfl⟩
   refine rd<|rb ?_
   replace h := h_j h; obtain ⟨K471,h,hK472⟩ := h
   refine r_meet (fun fr S => ∃ (y469 : Tenant),∃ (at470 : Int),∃ (bq468 : Nat),∃ fr0,K471 (y469,at470) = some r ∧ fr = updL [(2,pp bq1 0),(3,pp bq2 0),(4,pp bq20 0),(7,ii x392),(9,pp bq468 0)] fr0 ∧ S = ⟨ρ,.obj bq468 (en_Tenant y469) 77 :: .obj bq2 (en_cellplanemake_Tape ({ (cellplanemake_New l0) with At := at470 }) (⟨(A3,c4)⟩)) 94 :: .row A395 xs394.length c396 77 7 (fl eTenant.en xs394) :: .row A187 xs186.length c188 74 2 (fl eCell.en xs186) :: .row A97 xs96.length c98 72 1 (fl eZone.en xs96) :: .obj bq20 (en_Config (⟨x10,xs96,xs186,xs394,[],[],[],x12,x15,x18⟩ : Config) (⟨(A97,c98),(A187,c188),(A395,c396),(none,0),(none,0),(none,0)⟩)) 30 :: .obj bq1 (en_Config (⟨0,[],[],[],[],[],[],0,0,0⟩ : Config) (⟨(none,0),(none,0),(none,0),(none,0),(none,0),(none,0)⟩)) 30 :: L⟩) ?_ ?_
   ·refine r_mix tt_ok hm_ok _ _ [] (.pure 0 (.pure 1 (.pure 2 (.pure 3 (.pure 5 (.pure 7 (.pure 9 (.vb 10 (.pure 11 (.pure 12 (.pure 13 (.pure 14 (.pure 16 (.two 4 19 (.two 6 19 (.two 8 19 (.two 15 19 (.two 17 19 (.pure 18 (.eff 19 (.eff 20 .nil))) (.eff 17 (.pure 18 (.eff 20 .nil)))) (.eff 15 (.eff 17 (.pure 18 (.eff 20 .nil))))) (.eff 8 (.eff 15 (.eff 17 (.pure 18 (.eff 20 .nil)))))) (.eff 6 (.eff 8 (.eff 15 (.eff 17 (.pure 18 (.eff 20 .nil))))))) (.eff 4 (.eff 6 (.eff 8 (.eff 15 (.eff 17 (.pure 18 (.eff 20 .nil))))))))))))))))))))) (le_w [false,true,true,true,true,true]) (le_w [false,true,true,true,true,true]) ?_ ?_
    ·decide +kernel
    refine x_p rfl<|vd<|x_p rfl<|vd<|x_p rfl<|vd<|x_p rfl<|v_num (e' := w64 (x400 + 1)) rfl<|vd<|x_p rfl<|vd<|x_p rfl<|vd ?_
    refine x_p rfl<|vd<|x_vb rfl<|vl 3 tt_ok (v := ii x10) ts_3 rfl<|vd<|x_p rfl<|v_num (e' := IntKind.u64.wrap (x10)) rfl<|vd<|xp [(2,pp bq1 0),(3,pp bq2 0),(4,pp bq20 0),(7,ii x392),(88,ii x400),(89,pp bq2 0),(91,ii (w64 (x400 + 1))),(93,pp bq2 0),(95,pp bq2 0),(99,.int .u64 (IntKind.u64.wrap (x10)))] fun fr => x_p rfl<|v_check (u_nonneg rfl _)<|v_num (e' := shl .i64 1 (IntKind.u64.wrap (x10))) rfl<|vd ?_
    refine x_p rfl<|v_num (e' := w64 ((shl .i64 1 (IntKind.u64.wrap (x10))) - 1)) rfl<|vd<|x_p rfl<|vd<|x_p rfl<|vd<|x_2 rfl rfl ?_ ?_
    ·replace h := h_b h; obtain ⟨⟨x403,x404⟩,hx402,h⟩ := h
     refine rc (hc_33 (bt0 := bq2) (g_t0 := ⟨(A3,c4)⟩) (t0 := { (cellplanemake_New l0) with At := x401 }) (n1 := w64 (x400 + 1)) (hS_t0 := by exact (le_d 5).trans hS_l0) (h_t0 :=hs5) (h := hx402)) ?_
     rintro _ _ ⟨rfl,rfl⟩
     refine rd ⟨rfl,k_a (le_w [false,true,true,true,true,true]) (le_w [false,true,true,true,true,true]),?_⟩
     refine x_2 rfl rfl ?_ ?_
     ·replace h := h_b h; obtain ⟨⟨x406,x407⟩,hx405,h⟩ := h
      refine rc (hc_33 (bt0 := bq2) (g_t0 := ⟨(A3,c4)⟩) (t0 := { (cellplanemake_New l0) with At := x404 }) (n1 := 4) (hS_t0 := by exact (le_d 5).trans hS_l0) (h_t0 :=hs5) (h := hx405)) ?_
      rintro _ _ ⟨rfl,rfl⟩
      refine rd ⟨rfl,k_a (le_w [false,true,true,true,true,true]) (le_w [false,true,true,true,true,true]),?_⟩
      refine x_2 rfl rfl ?_ ?_
      ·replace h := h_b h; obtain ⟨⟨x409,x410⟩,hx408,h⟩ := h
       refine rc (hc_34 (bt0 := bq2) (g_t0 := ⟨(A3,c4)⟩) (t0 := { (cellplanemake_New l0) with At := x407 }) (low1 := (-1)) (high2 := 3) (hS_t0 := by exact (le_d 5).trans hS_l0) (h_t0 :=hs5) (h := hx408)) ?_
       rintro _ _ ⟨rfl,rfl⟩
       refine rd ⟨rfl,k_a (le_w [false,true,true,true,true,true]) (le_w [false,true,true,true,true,true]),?_⟩
       refine x_2 rfl rfl ?_ ?_
       ·replace h := h_b h; obtain ⟨⟨x412,x413⟩,hx411,h⟩ := h
        refine rc (hc_33 (bt0 := bq2) (g_t0 := ⟨(A3,c4)⟩) (t0 := { (cellplanemake_New l0) with At := x410 }) (n1 := 3) (hS_t0 := by exact (le_d 5).trans hS_l0) (h_t0 :=hs5) (h := hx411)) ?_
        rintro _ _ ⟨rfl,rfl⟩
        refine rd ⟨rfl,k_a (le_w [false,true,true,true,true,true]) (le_w [false,true,true,true,true,true]),?_⟩
        refine x_2 rfl rfl ?_ ?_
        ·replace h := h_b h; obtain ⟨⟨x415,x416⟩,hx414,h⟩ := h
         refine rc (hc_35 (bt0 := bq2) (g_t0 := ⟨(A3,c4)⟩) (t0 := { (cellplanemake_New l0) with At := x413 }) (n1 := 4) (hS_t0 := by exact (le_d 5).trans hS_l0) (h_t0 :=hs5) (h := hx414)) ?_
         rintro _ _ ⟨rfl,rfl⟩
         refine rd ⟨rfl,k_a (le_w [false,true,true,true,true,true]) (le_w [false,true,true,true,true,true]),?_⟩
         refine xp [(2,pp bq1 0),(3,pp bq2 0),(4,pp bq20 0),(7,ii x392),(88,ii x400),(92,ii x403),(94,ii x406),(96,ii x409),(101,ii (w64 ((shl .i64 1 (IntKind.u64.wrap (x10))) - 1))),(103,ii x412),(105,.bool x415)] fun fr => x_p rfl<|v_bd tt_ok (en_Tenant (⟨x400,x403,x406,x409,w64 ((shl .i64 1 (IntKind.u64.wrap (x10))) - 1),x412,x415⟩ : Tenant)) ti_77 tp_77 (by kernel_rfl)<|vd<|x_e rfl<|r_al tt_ok (en_Tenant (⟨0,0,0,0,0,0,false⟩ : Tenant)) ti_77 (by kernel_rfl) fun bq417 => rd ⟨rfl,k_a (le_w [false,false,true,true,true,true,true]) (le_w [false,false,true,true,true,true,true]),?_⟩
         refine x_e rfl<|st 0 tt_ok (en_Tenant (⟨x400,x403,x406,x409,w64 ((shl .i64 1 (IntKind.u64.wrap (x10))) - 1),x412,x415⟩ : Tenant)) (fn ta_77) rfl<|rd ⟨rfl,k_a (le_w [false,false,true,true,true,true,true]) (le_w [false,false,true,true,true,true,true]),?_⟩
         exact xk [(2,pp bq1 0),(3,pp bq2 0),(4,pp bq20 0),(7,ii x392),(9,pp bq417 0)] fun fr => rd ⟨(⟨x400,x403,x406,x409,w64 ((shl .i64 1 (IntKind.u64.wrap (x10))) - 1),x412,x415⟩ : Tenant),x416,bq417,_,h,fe _,by kernel_rfl⟩
        refine r_al tt_ok (en_Tenant (⟨0,0,0,0,0,0,false⟩ : Tenant)) ti_77 (by kernel_rfl) fun bq418 => rd ⟨rfl,k_a (le_w [false,false,true,true,true,true,true]) (le_w [false,false,true,true,true,true,true]),?_⟩
        refine x_e rfl<|r_le (le_mv 1) ?_
        replace h := h_b h; obtain ⟨⟨x420,x421⟩,hx419,h⟩ := h
        refine rc (hc_35 (bt0 := bq2) (g_t0 := ⟨(A3,c4)⟩) (t0 := { (cellplanemake_New l0) with At := x413 }) (n1 := 4) (hS_t0 := by exact (le_d 6).trans hS_l0) (h_t0 :=hs5) (h := hx419)) ?_
        rintro _ _ ⟨rfl,rfl⟩
        refine rd ⟨rfl,k_a (le_w [false,false,true,true,true,true,true]) (le_w [false,false,true,true,true,true,true]),?_⟩
        refine x_p rfl<|v_bd tt_ok (en_Tenant (⟨x400,x403,x406,x409,w64 ((shl .i64 1 (IntKind.u64.wrap (x10))) - 1),x412,x420⟩ : Tenant)) ti_77 tp_77 (by kernel_rfl)<|vd<|x_e rfl<|st 1 tt_ok (en_Tenant (⟨x400,x403,x406,x409,w64 ((shl .i64 1 (IntKind.u64.wrap (x10))) - 1),x412,x420⟩ : Tenant)) (fn ta_77) rfl<|rd ⟨rfl,k_a (le_w [false,false,true,true,true,true,true]) (le_w [false,false,true,true,true,true,true]),?_⟩
        exact xk [(2,pp bq1 0),(3,pp bq2 0),(4,pp bq20 0),(7,ii x392),(9,pp bq418 0)] fun fr => r_le ((le_mv 6).trans ((le_mv 6).trans ((le_mv 6).trans ((le_mv 6).trans ((le_mv 6).trans ((le_mv 5).trans (le_mv 6)))))))<|rd ⟨(⟨x400,x403,x406,x409,w64 ((shl .i64 1 (IntKind.u64.wrap (x10))) - 1),x412,x420⟩ : Tenant),x421,bq418,_,h,fe _,by kernel_rfl⟩
       refine r_al tt_ok (en_Tenant (⟨0,0,0,0,0,0,false⟩ : Tenant)) ti_77 (by kernel_rfl) fun bq422 => rd ⟨rfl,k_a (le_w [false,false,true,true,true,true,true]) (le_w [false,false,true,true,true,true,true]),?_⟩
       refine x_e rfl<|r_le (le_mv 1) ?_
       replace h := h_b h; obtain ⟨⟨x424,x425⟩,hx423,h⟩ := h
       refine rc (hc_33 (bt0 := bq2) (g_t0 := ⟨(A3,c4)⟩) (t0 := { (cellplanemake_New l0) with At := x410 }) (n1 := 3) (hS_t0 := by exact (le_d 6).trans hS_l0) (h_t0 :=hs5) (h := hx423)) ?_
       rintro _ _ ⟨rfl,rfl⟩
       refine rd ⟨rfl,k_a (le_w [false,false,true,true,true,true,true]) (le_w [false,false,true,true,true,true,true]),?_⟩
       refine x_e rfl ?_
       replace h := h_b h; obtain ⟨⟨x427,x428⟩,hx426,h⟩ := h
       refine rc (hc_35 (bt0 := bq2) (g_t0 := ⟨(A3,c4)⟩) (t0 := { (cellplanemake_New l0) with At := x425 }) (n1 := 4) (hS_t0 := by exact (le_d 6).trans hS_l0) (h_t0 :=hs5) (h := hx426)) ?_
       rintro _ _ ⟨rfl,rfl⟩
       refine rd ⟨rfl,k_a (le_w [false,false,true,true,true,true,true]) (le_w [false,false,true,true,true,true,true]),?_⟩
       refine x_p rfl<|v_bd tt_ok (en_Tenant (⟨x400,x403,x406,x409,w64 ((shl .i64 1 (IntKind.u64.wrap (x10))) - 1),x424,x427⟩ : Tenant)) ti_77 tp_77 (by kernel_rfl)<|vd<|x_e rfl<|st 1 tt_ok (en_Tenant (⟨x400,x403,x406,x409,w64 ((shl .i64 1 (IntKind.u64.wrap (x10))) - 1),x424,x427⟩ : Tenant)) (fn ta_77) rfl<|rd ⟨rfl,k_a (le_w [false,false,true,true,true,true,true]) (le_w [false,false,true,true,true,true,true]),?_⟩
       exact xk [(2,pp bq1 0),(3,pp bq2 0),(4,pp bq20 0),(7,ii x392),(9,pp bq422 0)] fun fr => r_le ((le_mv 6).trans ((le_mv 6).trans ((le_mv 6).trans ((le_mv 6).trans ((le_mv 6).trans ((le_mv 5).trans (le_mv 6)))))))<|rd ⟨(⟨x400,x403,x406,x409,w64 ((shl .i64 1 (IntKind.u64.wrap (x10))) - 1),x424,x427⟩ : Tenant),x428,bq422,_,h,fe _,by kernel_rfl⟩
      refine r_al tt_ok (en_Tenant (⟨0,0,0,0,0,0,false⟩ : Tenant)) ti_77 (by kernel_rfl) fun bq429 => rd ⟨rfl,k_a (le_w [false,false,true,true,true,true,true]) (le_w [false,false,true,true,true,true,true]),?_⟩
      refine x_e rfl<|r_le (le_mv 1) ?_
      replace h := h_b h; obtain ⟨⟨x431,x432⟩,hx430,h⟩ := h
      refine rc (hc_34 (bt0 := bq2) (g_t0 := ⟨(A3,c4)⟩) (t0 := { (cellplanemake_New l0) with At := x407 }) (low1 := (-1)) (high2 := 3) (hS_t0 := by exact (le_d 6).trans hS_l0) (h_t0 :=hs5) (h := hx430)) ?_
      rintro _ _ ⟨rfl,rfl⟩
      refine rd ⟨rfl,k_a (le_w [false,false,true,true,true,true,true]) (le_w [false,false,true,true,true,true,true]),?_⟩
      refine x_e rfl ?_
      replace h := h_b h; obtain ⟨⟨x434,x435⟩,hx433,h⟩ := h
      refine rc (hc_33 (bt0 := bq2) (g_t0 := ⟨(A3,c4)⟩) (t0 := { (cellplanemake_New l0) with At := x432 }) (n1 := 3) (hS_t0 := by exact (le_d 6).trans hS_l0) (h_t0 :=hs5) (h := hx433)) ?_
      rintro _ _ ⟨rfl,rfl⟩
      refine rd ⟨rfl,k_a (le_w [false,false,true,true,true,true,true]) (le_w [false,false,true,true,true,true,true]),?_⟩
      refine x_e rfl ?_
      replace h := h_b h; obtain ⟨⟨x437,x438⟩,hx436,h⟩ := h
      refine rc (hc_35 (bt0 := bq2) (g_t0 := ⟨(A3,c4)⟩) (t0 := { (cellplanemake_New l0) with At := x435 }) (n1 := 4) (hS_t0 := by exact (le_d 6).trans hS_l0) (h_t0 :=hs5) (h := hx436)) ?_
      rintro _ _ ⟨rfl,rfl⟩
      refine rd ⟨rfl,k_a (le_w [false,false,true,true,true,true,true]) (le_w [false,false,true,true,true,true,true]),?_⟩
      refine x_p rfl<|v_bd tt_ok (en_Tenant (⟨x400,x403,x406,x431,w64 ((shl .i64 1 (IntKind.u64.wrap (x10))) - 1),x434,x437⟩ : Tenant)) ti_77 tp_77 (by kernel_rfl)<|vd<|x_e rfl<|st 1 tt_ok (en_Tenant (⟨x400,x403,x406,x431,w64 ((shl .i64 1 (IntKind.u64.wrap (x10))) - 1),x434,x437⟩ : Tenant)) (fn ta_77) rfl<|rd ⟨rfl,k_a (le_w [false,false,true,true,true,true,true]) (le_w [false,false,true,true,true,true,true]),?_⟩
      exact xk [(2,pp bq1 0),(3,pp bq2 0),(4,pp bq20 0),(7,ii x392),(9,pp bq429 0)] fun fr => r_le ((le_mv 6).trans ((le_mv 6).trans ((le_mv 6).trans ((le_mv 6).trans ((le_mv 6).trans ((le_mv 5).trans (le_mv 6)))))))<|rd ⟨(⟨x400,x403,x406,x431,w64 ((shl .i64 1 (IntKind.u64.wrap (x10))) - 1),x434,x437⟩ : Tenant),x438,bq429,_,h,fe _,by kernel_rfl⟩
     refine r_al tt_ok (en_Tenant (⟨0,0,0,0,0,0,false⟩ : Tenant)) ti_77 (by kernel_rfl) fun bq439 => rd ⟨rfl,k_a (le_w [false,false,true,true,true,true,true]) (le_w [false,false,true,true,true,true,true]),?_⟩
     refine x_e rfl<|r_le (le_mv 1) ?_
     replace h := h_b h; obtain ⟨⟨x441,x442⟩,hx440,h⟩ := h
     refine rc (hc_33 (bt0 := bq2) (g_t0 := ⟨(A3,c4)⟩) (t0 := { (cellplanemake_New l0) with At := x404 }) (n1 := 4) (hS_t0 := by exact (le_d 6).trans hS_l0) (h_t0 :=hs5) (h := hx440)) ?_
     rintro _ _ ⟨rfl,rfl⟩
     refine rd ⟨rfl,k_a (le_w [false,false,true,true,true,true,true]) (le_w [false,false,true,true,true,true,true]),?_⟩
     refine x_e rfl ?_
     replace h := h_b h; obtain ⟨⟨x444,x445⟩,hx443,h⟩ := h
     refine rc (hc_34 (bt0 := bq2) (g_t0 := ⟨(A3,c4)⟩) (t0 := { (cellplanemake_New l0) with At := x442 }) (low1 := (-1)) (high2 := 3) (hS_t0 := by exact (le_d 6).trans hS_l0) (h_t0 :=hs5) (h := hx443)) ?_
     rintro _ _ ⟨rfl,rfl⟩
     refine rd ⟨rfl,k_a (le_w [false,false,true,true,true,true,true]) (le_w [false,false,true,true,true,true,true]),?_⟩
     refine x_e rfl ?_
     replace h := h_b h; obtain ⟨⟨x447,x448⟩,hx446,h⟩ := h
     refine rc (hc_33 (bt0 := bq2) (g_t0 := ⟨(A3,c4)⟩) (t0 := { (cellplanemake_New l0) with At := x445 }) (n1 := 3) (hS_t0 := by exact (le_d 6).trans hS_l0) (h_t0 :=hs5) (h := hx446)) ?_
     rintro _ _ ⟨rfl,rfl⟩
     refine rd ⟨rfl,k_a (le_w [false,false,true,true,true,true,true]) (le_w [false,false,true,true,true,true,true]),?_⟩
     refine x_e rfl ?_
     replace h := h_b h; obtain ⟨⟨x450,x451⟩,hx449,h⟩ := h
     refine rc (hc_35 (bt0 := bq2) (g_t0 := ⟨(A3,c4)⟩) (t0 := { (cellplanemake_New l0) with At := x448 }) (n1 := 4) (hS_t0 := by exact (le_d 6).trans hS_l0) (h_t0 :=hs5) (h := hx449)) ?_
     rintro _ _ ⟨rfl,rfl⟩
     refine rd ⟨rfl,k_a (le_w [false,false,true,true,true,true,true]) (le_w [false,false,true,true,true,true,true]),?_⟩
     refine x_p rfl<|v_bd tt_ok (en_Tenant (⟨x400,x403,x441,x444,w64 ((shl .i64 1 (IntKind.u64.wrap (x10))) - 1),x447,x450⟩ : Tenant)) ti_77 tp_77 (by kernel_rfl)<|vd<|x_e rfl<|st 1 tt_ok (en_Tenant (⟨x400,x403,x441,x444,w64 ((shl .i64 1 (IntKind.u64.wrap (x10))) - 1),x447,x450⟩ : Tenant)) (fn ta_77) rfl<|rd ⟨rfl,k_a (le_w [false,false,true,true,true,true,true]) (le_w [false,false,true,true,true,true,true]),?_⟩
     exact xk [(2,pp bq1 0),(3,pp bq2 0),(4,pp bq20 0),(7,ii x392),(9,pp bq439 0)] fun fr => r_le ((le_mv 6).trans ((le_mv 6).trans ((le_mv 6).trans ((le_mv 6).trans ((le_mv 6).trans ((le_mv 5).trans (le_mv 6)))))))<|rd ⟨(⟨x400,x403,x441,x444,w64 ((shl .i64 1 (IntKind.u64.wrap (x10))) - 1),x447,x450⟩ : Tenant),x451,bq439,_,h,fe _,by kernel_rfl⟩
    refine r_al tt_ok (en_Tenant (⟨0,0,0,0,0,0,false⟩ : Tenant)) ti_77 (by kernel_rfl) fun bq452 => rd ⟨rfl,k_a (le_w [false,false,true,true,true,true,true]) (le_w [false,false,true,true,true,true,true]),?_⟩
    refine x_e rfl<|r_le (le_mv 1) ?_
    replace h := h_b h; obtain ⟨⟨x454,x455⟩,hx453,h⟩ := h
    refine rc (hc_33 (bt0 := bq2) (g_t0 := ⟨(A3,c4)⟩) (t0 := { (cellplanemake_New l0) with At := x401 }) (n1 := w64 (x400 + 1)) (hS_t0 := by exact (le_d 6).trans hS_l0) (h_t0 :=hs5) (h := hx453)) ?_
    rintro _ _ ⟨rfl,rfl⟩
    refine rd ⟨rfl,k_a (le_w [false,false,true,true,true,true,true]) (le_w [false,false,true,true,true,true,true]),?_⟩
    refine x_e rfl ?_
    replace h := h_b h; obtain ⟨⟨x457,x458⟩,hx456,h⟩ := h
    refine rc (hc_33 (bt0 := bq2) (g_t0 := ⟨(A3,c4)⟩) (t0 := { (cellplanemake_New l0) with At := x455 }) (n1 := 4) (hS_t0 := by exact (le_d 6).trans hS_l0) (h_t0 :=hs5) (h := hx456)) ?_
    rintro _ _ ⟨rfl,rfl⟩
    refine rd ⟨rfl,k_a (le_w [false,false,true,true,true,true,true]) (le_w [false,false,true,true,true,true,true]),?_⟩
    refine x_e rfl ?_
    replace h := h_b h; obtain ⟨⟨x460,x461⟩,hx459,h⟩ := h
    refine rc (hc_34 (bt0 := bq2) (g_t0 := ⟨(A3,c4)⟩) (t0 := { (cellplanemake_New l0) with At := x458 }) (low1 := (-1)) (high2 := 3) (hS_t0 := by exact (le_d 6).trans hS_l0) (h_t0 :=hs5) (h := hx459)) ?_
    rintro _ _ ⟨rfl,rfl⟩
    refine rd ⟨rfl,k_a (le_w [false,false,true,true,true,true,true]) (le_w [false,false,true,true,true,true,true]),?_⟩
    refine x_e rfl ?_
    replace h := h_b h; obtain ⟨⟨x463,x464⟩,hx462,h⟩ := h
    refine rc (hc_33 (bt0 := bq2) (g_t0 := ⟨(A3,c4)⟩) (t0 := { (cellplanemake_New l0) with At := x461 }) (n1 := 3) (hS_t0 := by exact (le_d 6).trans hS_l0) (h_t0 :=hs5) (h := hx462)) ?_
    rintro _ _ ⟨rfl,rfl⟩
    refine rd ⟨rfl,k_a (le_w [false,false,true,true,true,true,true]) (le_w [false,false,true,true,true,true,true]),?_⟩
    refine x_e rfl ?_
    replace h := h_b h; obtain ⟨⟨x466,x467⟩,hx465,h⟩ := h
    refine rc (hc_35 (bt0 := bq2) (g_t0 := ⟨(A3,c4)⟩) (t0 := { (cellplanemake_New l0) with At := x464 }) (n1 := 4) (hS_t0 := by exact (le_d 6).trans hS_l0) (h_t0 :=hs5) (h := hx465)) ?_
    rintro _ _ ⟨rfl,rfl⟩
    refine rd ⟨rfl,k_a (le_w [false,false,true,true,true,true,true]) (le_w [false,false,true,true,true,true,true]),?_⟩
    refine x_p rfl<|v_bd tt_ok (en_Tenant (⟨x400,x454,x457,x460,w64 ((shl .i64 1 (IntKind.u64.wrap (x10))) - 1),x463,x466⟩ : Tenant)) ti_77 tp_77 (by kernel_rfl)<|vd<|x_e rfl<|st 1 tt_ok (en_Tenant (⟨x400,x454,x457,x460,w64 ((shl .i64 1 (IntKind.u64.wrap (x10))) - 1),x463,x466⟩ : Tenant)) (fn ta_77) rfl<|rd ⟨rfl,k_a (le_w [false,false,true,true,true,true,true]) (le_w [false,false,true,true,true,true,true]),?_⟩
    exact xk [(2,pp bq1 0),(3,pp bq2 0),(4,pp bq20 0),(7,ii x392),(9,pp bq452 0)] fun fr => r_le ((le_mv 6).trans ((le_mv 6).trans ((le_mv 6).trans ((le_mv 6).trans ((le_mv 6).trans ((le_mv 5).trans (le_mv 6)))))))<|rd ⟨(⟨x400,x454,x457,x460,w64 ((shl .i64 1 (IntKind.u64.wrap (x10))) - 1),x463,x466⟩ : Tenant),x467,bq452,_,h,fe _,by kernel_rfl⟩
   clear h
   rintro fr S ⟨y469,at470,bq468,fr,h,rfl,rfl⟩
   replace h := hK472 _ h
   refine rd<|rb ?_
   replace h := h_j h; obtain ⟨K482,h,hK483⟩ := h
   refine r_meet (fun fr S => ∃ (at480 : Int),∃ (all481 : Int),∃ fr0,K482 (at480,all481) = some r ∧ fr = updL [(2,pp bq1 0),(3,pp bq2 0),(4,pp bq20 0),(7,ii x392),(9,pp bq468 0)] fr0 ∧ S = ⟨ρ,.obj bq2 (en_cellplanemake_Tape ({ (cellplanemake_New l0) with At := at480 }) (⟨(A3,c4)⟩)) 94 :: .obj bq468 (en_Tenant ({ y469 with Allowed := all481 })) 77 :: .row A395 xs394.length c396 77 7 (fl eTenant.en xs394) :: .row A187 xs186.length c188 74 2 (fl eCell.en xs186) :: .row A97 xs96.length c98 72 1 (fl eZone.en xs96) :: .obj bq20 (en_Config (⟨x10,xs96,xs186,xs394,[],[],[],x12,x15,x18⟩ : Config) (⟨(A97,c98),(A187,c188),(A395,c396),(none,0),(none,0),(none,0)⟩)) 30 :: .obj bq1 (en_Config (⟨0,[],[],[],[],[],[],0,0,0⟩ : Config) (⟨(none,0),(none,0),(none,0),(none,0),(none,0),(none,0)⟩)) 30 :: L⟩) ?_ ?_
   ·refine rb<|r_le (le_mv 1) ?_
    replace h := h_b h; obtain ⟨⟨x474,x475⟩,hx473,h⟩ := h
    refine rc (hc_35 (bt0 := bq2) (g_t0 := ⟨(A3,c4)⟩) (t0 := { (cellplanemake_New l0) with At := at470 }) (n1 := 4) (hS_t0 := by exact (le_d 6).trans hS_l0) (h_t0 :=hs5) (h := hx473)) ?_
    rintro _ _ ⟨rfl,rfl⟩
    refine rd ?_
    apply r_iteh h<;>clear h<;>intro h
    ·refine ld 5 tt_ok (v := ii x10) ts_3 rfl<|r_num (e' := IntKind.u64.wrap (x10)) rfl<|r_check (u_nonneg rfl _)<|r_num (e' := shl .i64 1 (IntKind.u64.wrap (x10))) rfl<|kp [(2,pp bq1 0),(3,pp bq2 0),(4,pp bq20 0),(7,ii x392),(9,pp bq468 0),(109,pp bq2 0),(113,ii (shl .i64 1 (IntKind.u64.wrap (x10))))] fun fr => r_num (e' := w64 ((shl .i64 1 (IntKind.u64.wrap (x10))) - 1)) rfl ?_
     replace h := h_b h; obtain ⟨⟨x478,x479⟩,hx477,h⟩ := h
     refine rc (hc_34 (bt0 := bq2) (g_t0 := ⟨(A3,c4)⟩) (t0 := { (cellplanemake_New l0) with At := x475 }) (low1 := 1) (high2 := w64 ((shl .i64 1 (IntKind.u64.wrap (x10))) - 1)) (hS_t0 := by exact (le_d 6).trans hS_l0) (h_t0 :=hs5) (h := hx477)) ?_
     rintro _ _ ⟨rfl,rfl⟩
     exact st 1 tt_ok (en_Tenant ({ y469 with Allowed := x478 })) (f1 ts_3) rfl<|rd ⟨x479,x478,_,h,fe _,by kernel_rfl⟩
    exact rd ⟨x475,y469.Allowed,_,h,fe _,by kernel_rfl⟩
   clear h
   rintro fr S ⟨at480,all481,fr,h,rfl,rfl⟩
   replace h := hK483 _ h
   refine rd<|ld 5 tt_ok (v := .slice A395 xs394.length c396) ts_27 rfl<|ln 1 tt_ok (en_Tenant ({ y469 with Allowed := all481 })) ta_77 rfl<|r_bs tt_ok (fl eTenant.en [{ y469 with Allowed := all481 }]) te_27 ti_77 (by kernel_rfl) (by kernel_rfl) (by kernel_rfl) (by kernel_rfl) fun bq484 => ?_
   replace h := h_b h; obtain ⟨xs485,ha486,h⟩ := h
   refine r_app 3 (E := eTenant) (xs := xs394) (ys := [{ y469 with Allowed := all481 }]) tt_ok ha486 (rd_row 0 rfl) rfl te_27 ti_77 rfl (by kernel_rfl) rfl (fun A487 c488 => ?_)
   exact st 6 tt_ok (en_Config (⟨x10,xs96,xs186,xs485,[],[],[],x12,x15,x18⟩ : Config) (⟨(A97,c98),(A187,c188),(A487,c488),(none,0),(none,0),(none,0)⟩)) (f1 ts_27) rfl<|rd<|rd<|r_num (e' := w64 (x392 - 1)) rfl<|kp [(2,pp bq1 0),(3,pp bq2 0),(4,pp bq20 0),(7,ii x392),(85,ii (w64 (x392 - 1)))] fun fr => r_le ((le_mv 7).trans ((le_mv 7).trans ((le_mv 7).trans ((le_mv 7).trans ((le_mv 5).trans ((le_mv 7).trans (le_w [true,true,true,true,true,true,false,false])))))))<|rd ⟨m493,lt_s hm493,w64 (x392 - 1),at480,xs485,A487,c488,_,h,fe _,by kernel_rfl⟩
  refine rd<|rd ?_
  replace h := h_m h
  subst hK492
  exact rd ⟨at393,xs394,A395,c396,_,h,fe _,by kernel_rfl⟩
 clear h
 rintro fr S ⟨at494,xs495,A496,c497,fr,h,rfl,rfl⟩
 replace h := hK500 _ h
 refine rd<|rb<|r_le (le_mv 1) ?_
 replace h := h_b h; obtain ⟨⟨x502,x503⟩,hx501,h⟩ := h
 refine rc (hc_33 (bt0 := bq2) (g_t0 := ⟨(A3,c4)⟩) (t0 := { (cellplanemake_New l0) with At := at494 }) (n1 := 3) (hS_t0 := by exact (le_d 5).trans hS_l0) (h_t0 :=hs5) (h := hx501)) ?_
 rintro _ _ ⟨rfl,rfl⟩
 refine r_bd tt_ok (en_Version (⟨0,x502⟩ : Version)) ti_79 tp_79 (by kernel_rfl)<|r_bs tt_ok (fl eVersion.en [(⟨0,x502⟩ : Version)]) te_28 ti_79 (by kernel_rfl) (by kernel_rfl) (by kernel_rfl) (by kernel_rfl) fun bq504 => st 5 tt_ok (en_Config (⟨x10,xs96,xs186,xs495,[(⟨0,x502⟩ : Version)],[],[],x12,x15,x18⟩ : Config) (⟨(A97,c98),(A187,c188),(A496,c497),((some ⟨bq504,0,none⟩),1),(none,0),(none,0)⟩)) (f1 ts_28) rfl<|rd<|rb ?_
 replace h := h_j h; obtain ⟨K574,h,hK575⟩ := h
 refine r_meet (fun fr S => ∃ (at569 : Int),∃ (xs570 : (List Version)),∃ (A571 : Option Addr),∃ (c572 : Nat),∃ fr0,K574 (at569,xs570) = some r ∧ fr = updL [(2,pp bq1 0),(3,pp bq2 0),(4,pp bq20 0)] fr0 ∧ S = ⟨ρ,.row A571 xs570.length c572 79 2 (fl eVersion.en xs570) :: .obj bq2 (en_cellplanemake_Tape ({ (cellplanemake_New l0) with At := at569 }) (⟨(A3,c4)⟩)) 94 :: .row A496 xs495.length c497 77 7 (fl eTenant.en xs495) :: .row A187 xs186.length c188 74 2 (fl eCell.en xs186) :: .row A97 xs96.length c98 72 1 (fl eZone.en xs96) :: .obj bq20 (en_Config (⟨x10,xs96,xs186,xs495,xs570,[],[],x12,x15,x18⟩ : Config) (⟨(A97,c98),(A187,c188),(A496,c497),(A571,c572),(none,0),(none,0)⟩)) 30 :: .obj bq1 (en_Config (⟨0,[],[],[],[],[],[],0,0,0⟩ : Config) (⟨(none,0),(none,0),(none,0),(none,0),(none,0),(none,0)⟩)) 30 :: L⟩) ?_ ?_
 ·refine rb<|r_le (le_mv 1) ?_
  replace h := h_b h; obtain ⟨⟨x506,x507⟩,hx505,h⟩ := h
  refine rc (hc_33 (bt0 := bq2) (g_t0 := ⟨(A3,c4)⟩) (t0 := { (cellplanemake_New l0) with At := x503 }) (n1 := 3) (hS_t0 := by exact (le_d 6).trans hS_l0) (h_t0 :=hs5) (h := hx505)) ?_
  rintro _ _ ⟨rfl,rfl⟩
  refine rd<|rb ?_
  replace h := h_l h; obtain ⟨K565,n566,h,hK567⟩ := h
  refine r_le ((le_mv 6).trans ((le_mv 6).trans ((le_mv 6).trans ((le_mv 6).trans ((le_mv 6).trans ((le_mv 5).trans (le_mv 6)))))))<|r_loop (fun n fr S => ∃ (x546 : Int),∃ (at547 : Int),∃ (xs548 : (List Version)),∃ (A549 : Option Addr),∃ (c550 : Nat),∃ fr0,(runN (cellplanemake_Config.b12 l0) n (x546,at547,xs548)).bind K565 = some r ∧ fr = updL [(2,pp bq1 0),(3,pp bq2 0),(4,pp bq20 0),(10,ii x546)] fr0 ∧ S = ⟨ρ,.row A549 xs548.length c550 79 2 (fl eVersion.en xs548) :: .obj bq2 (en_cellplanemake_Tape ({ (cellplanemake_New l0) with At := at547 }) (⟨(A3,c4)⟩)) 94 :: .row A496 xs495.length c497 77 7 (fl eTenant.en xs495) :: .row A187 xs186.length c188 74 2 (fl eCell.en xs186) :: .row A97 xs96.length c98 72 1 (fl eZone.en xs96) :: .obj bq20 (en_Config (⟨x10,xs96,xs186,xs495,xs548,[],[],x12,x15,x18⟩ : Config) (⟨(A97,c98),(A187,c188),(A496,c497),(A549,c550),(none,0),(none,0)⟩)) 30 :: .obj bq1 (en_Config (⟨0,[],[],[],[],[],[],0,0,0⟩ : Config) (⟨(none,0),(none,0),(none,0),(none,0),(none,0),(none,0)⟩)) 30 :: L⟩) n566 ⟨x506,x507,[(⟨0,x502⟩ : Version)],(some ⟨bq504,0,none⟩),1,_,h,fe _,by kernel_rfl⟩ ?_
  clear h
  rintro n566 fr S ⟨x546,at547,xs548,A549,c550,fr,h,rfl,rfl⟩
  replace h := h_r h; obtain ⟨m568,hm568,h⟩ := h
  refine rb<|rb<|rd ?_
  apply r_iteh h<;>clear h<;>intro h
  ·refine rd<|rb<|rb<|rb<|r_le (le_mv 1) ?_
   replace h := h_b h; obtain ⟨⟨x554,x555⟩,hx553,h⟩ := h
   refine rc (hc_33 (bt0 := bq2) (g_t0 := ⟨(A3,c4)⟩) (t0 := { (cellplanemake_New l0) with At := at547 }) (n1 := 2) (hS_t0 := by exact (le_d 6).trans hS_l0) (h_t0 :=hs5) (h := hx553)) ?_
   rintro _ _ ⟨rfl,rfl⟩
   refine rd<|r_mix tt_ok hm_ok _ _ [9,11] (.pure 0 (.va 1 (.pure 2 (.pure 3 (.pure 4 (.eff 5 (.pure 6 (.pure 7 (.eff 8 (.eff 9 (.pure 10 (.eff 11 .nil)))))))))))) (le_w [false,true,true,true,true,true,true]) (le_w [false,false,true,true,true,false,true]) ?_ ?_
   ·decide +kernel
   refine x_p rfl<|vd<|x_va rfl<|vl 4 tt_ok (v := .slice A549 xs548.length c550) ts_28 rfl<|vd<|x_p rfl<|vd<|x_p rfl<|vd<|xp [(2,pp bq1 0),(3,pp bq2 0),(4,pp bq20 0),(10,ii x546),(137,.slice A549 xs548.length c550),(138,ii x554),(139,ii x554)] fun fr => x_p rfl<|vd<|x_e rfl ?_
   replace h := h_b h; obtain ⟨⟨x557,x558⟩,hx556,h⟩ := h
   refine rc (hc_33 (bt0 := bq2) (g_t0 := ⟨(A3,c4)⟩) (t0 := { (cellplanemake_New l0) with At := x555 }) (n1 := 3) (hS_t0 := by exact (le_d 6).trans hS_l0) (h_t0 :=hs5) (h := hx556)) ?_
   rintro _ _ ⟨rfl,rfl⟩
   refine rd ⟨rfl,k_a (le_w [false,true,true,true,true,true,true]) (le_w [false,false,true,true,true,false,true]),?_⟩
   refine x_p rfl<|v_num (e' := w64 (x554 + x557)) rfl<|vd<|x_p rfl<|v_bd tt_ok (en_Version (⟨x554,w64 (x554 + x557)⟩ : Version)) ti_79 tp_79 (by kernel_rfl)<|vd<|x_e rfl<|r_bs tt_ok (fl eVersion.en [(⟨x554,w64 (x554 + x557)⟩ : Version)]) te_28 ti_79 (by kernel_rfl) (by kernel_rfl) (by kernel_rfl) (by kernel_rfl) fun bq559 => rd ⟨rfl,k_a (le_w [false,false,true,true,true,true,true,true]) (le_w [false,false,false,true,true,true,false,true]),?_⟩
   refine x_e rfl ?_
   replace h := h_b h; obtain ⟨xs560,ha561,h⟩ := h
   refine r_app 2 (E := eVersion) (xs := xs548) (ys := [(⟨x554,w64 (x554 + x557)⟩ : Version)]) tt_ok ha561 (rd_row 0 rfl) rfl te_28 ti_79 rfl (by kernel_rfl) rfl (fun A562 c563 => ?_)
   refine rd ⟨rfl,k_b rfl (le_w [false,false,false,true,true,true,false,true]),?_⟩
   refine x_p rfl<|vd<|x_e rfl<|st 6 tt_ok (en_Config (⟨x10,xs96,xs186,xs495,xs560,[],[],x12,x15,x18⟩ : Config) (⟨(A97,c98),(A187,c188),(A496,c497),(A562,c563),(none,0),(none,0)⟩)) (f1 ts_28) rfl<|rd ⟨rfl,k_b rfl (le_w [false,false,false,true,true,true,false,true]),?_⟩
   exact xk [(2,pp bq1 0),(3,pp bq2 0),(4,pp bq20 0),(10,ii x546)] fun fr => rd<|rd<|r_num (e' := w64 (x546 - 1)) rfl<|r_le ((le_mv 7).trans ((le_mv 7).trans ((le_mv 7).trans ((le_mv 7).trans ((le_mv 7).trans ((le_mv 6).trans ((le_mv 7).trans (le_w [true,true,true,true,true,true,true,false]))))))))<|rd ⟨m568,lt_s hm568,w64 (x546 - 1),x558,xs560,A562,c563,_,h,fe _,by kernel_rfl⟩
  refine rd<|rd ?_
  replace h := h_m h
  subst hK567
  exact rd ⟨at547,xs548,A549,c550,_,h,fe _,by kernel_rfl⟩
 clear h
 rintro fr S ⟨at569,xs570,A571,c572,fr,h,rfl,rfl⟩
 replace h := hK575 _ h
 refine rd<|rb ?_
 replace h := h_j h; obtain ⟨K637,h,hK638⟩ := h
 refine r_meet (fun fr S => ∃ (at632 : Int),∃ (xs633 : (List Int)),∃ (A634 : Option Addr),∃ (c635 : Nat),∃ fr0,K637 (at632,xs633) = some r ∧ fr = updL [(2,pp bq1 0),(3,pp bq2 0),(4,pp bq20 0)] fr0 ∧ S = ⟨ρ,.row A634 xs633.length c635 3 1 (fl eI64.en xs633) :: .obj bq2 (en_cellplanemake_Tape ({ (cellplanemake_New l0) with At := at632 }) (⟨(A3,c4)⟩)) 94 :: .row A571 xs570.length c572 79 2 (fl eVersion.en xs570) :: .row A496 xs495.length c497 77 7 (fl eTenant.en xs495) :: .row A187 xs186.length c188 74 2 (fl eCell.en xs186) :: .row A97 xs96.length c98 72 1 (fl eZone.en xs96) :: .obj bq20 (en_Config (⟨x10,xs96,xs186,xs495,xs570,xs633,[],x12,x15,x18⟩ : Config) (⟨(A97,c98),(A187,c188),(A496,c497),(A571,c572),(A634,c635),(none,0)⟩)) 30 :: .obj bq1 (en_Config (⟨0,[],[],[],[],[],[],0,0,0⟩ : Config) (⟨(none,0),(none,0),(none,0),(none,0),(none,0),(none,0)⟩)) 30 :: L⟩) ?_ ?_
 ·refine rb<|r_le (le_mv 1) ?_
  replace h := h_b h; obtain ⟨⟨x577,x578⟩,hx576,h⟩ := h
  refine rc (hc_33 (bt0 := bq2) (g_t0 := ⟨(A3,c4)⟩) (t0 := { (cellplanemake_New l0) with At := at569 }) (n1 := 2) (hS_t0 := by exact (le_d 6).trans hS_l0) (h_t0 :=hs5) (h := hx576)) ?_
  rintro _ _ ⟨rfl,rfl⟩
  refine r_num (e' := w64 (2 * x577)) rfl<|r_num (e' := w64 ((w64 (2 * x577)) + 1)) rfl<|rd<|rb ?_
  replace h := h_l h; obtain ⟨K628,n629,h,hK630⟩ := h
  refine r_le (le_nil 3 1)<|r_loop (fun n fr S => ∃ (x612 : Int),∃ (at613 : Int),∃ (xs614 : (List Int)),∃ (A615 : Option Addr),∃ (c616 : Nat),∃ fr0,(runN (cellplanemake_Config.b14 l0 xs96) n (x612,at613,xs614)).bind K628 = some r ∧ fr = updL [(2,pp bq1 0),(3,pp bq2 0),(4,pp bq20 0),(12,ii x612)] fr0 ∧ S = ⟨ρ,.row A615 xs614.length c616 3 1 (fl eI64.en xs614) :: .obj bq2 (en_cellplanemake_Tape ({ (cellplanemake_New l0) with At := at613 }) (⟨(A3,c4)⟩)) 94 :: .row A571 xs570.length c572 79 2 (fl eVersion.en xs570) :: .row A496 xs495.length c497 77 7 (fl eTenant.en xs495) :: .row A187 xs186.length c188 74 2 (fl eCell.en xs186) :: .row A97 xs96.length c98 72 1 (fl eZone.en xs96) :: .obj bq20 (en_Config (⟨x10,xs96,xs186,xs495,xs570,xs614,[],x12,x15,x18⟩ : Config) (⟨(A97,c98),(A187,c188),(A496,c497),(A571,c572),(A615,c616),(none,0)⟩)) 30 :: .obj bq1 (en_Config (⟨0,[],[],[],[],[],[],0,0,0⟩ : Config) (⟨(none,0),(none,0),(none,0),(none,0),(none,0),(none,0)⟩)) 30 :: L⟩) n629 ⟨w64 ((w64 (2 * x577)) + 1),x578,[],none,0,_,h,fe _,by kernel_rfl⟩ ?_
  clear h
  rintro n629 fr S ⟨x612,at613,xs614,A615,c616,fr,h,rfl,rfl⟩
  replace h := h_r h; obtain ⟨m631,hm631,h⟩ := h
  refine rb<|rb<|rd ?_
  apply r_iteh h<;>clear h<;>intro h
  ·refine rd<|rb<|rb<|r_mix tt_ok hm_ok _ _ [10] (.pure 0 (.va 1 (.pure 2 (.pure 3 (.va 4 (.pure 5 (.eff 6 (.eff 7 (.eff 8 (.pure 9 (.eff 10 .nil))))))))))) (le_w [false,false,true,true,true,true,true,true]) (le_w [false,false,true,true,true,true,false,true]) ?_ ?_
   ·decide +kernel
   refine x_p rfl<|vd<|x_va rfl<|vl 4 tt_ok (v := .slice A615 xs614.length c616) ts_22 rfl<|vd<|x_p rfl<|vd<|x_p rfl<|vd<|x_va rfl<|vl 4 tt_ok (v := .slice A97 xs96.length c98) ts_25 rfl<|vd<|x_p rfl ?_
   refine vd<|x_e rfl<|r_le (le_mv 1) ?_
   replace h := h_b h; obtain ⟨⟨x620,x621⟩,hx619,h⟩ := h
   refine rc (hc_33 (bt0 := bq2) (g_t0 := ⟨(A3,c4)⟩) (t0 := { (cellplanemake_New l0) with At := at613 }) (n1 := (xs96.length : Int)) (hS_t0 := by exact (le_d 7).trans hS_l0) (h_t0 :=hs5) (h := hx619)) ?_
   rintro _ _ ⟨rfl,rfl⟩
   refine rd ⟨rfl,k_a (le_w [false,false,true,true,true,true,true,true]) (le_w [false,false,true,true,true,true,false,true]),?_⟩
   refine xp [(2,pp bq1 0),(3,pp bq2 0),(4,pp bq20 0),(12,ii x612),(156,.slice A615 xs614.length c616),(161,ii x620)] fun fr => x_e rfl<|r_bs tt_ok (fl eI64.en [x620]) te_22 ti_3 (by kernel_rfl) (by kernel_rfl) (by kernel_rfl) (by kernel_rfl) fun bq622 => rd ⟨rfl,k_a (le_w [false,false,false,true,true,true,true,true,true]) (le_w [false,false,false,true,true,true,true,false,true]),?_⟩
   refine x_e rfl ?_
   replace h := h_b h; obtain ⟨xs623,ha624,h⟩ := h
   refine r_app 2 (E := eI64) (xs := xs614) (ys := [x620]) tt_ok ha624 (rd_row 0 rfl) rfl te_22 ti_3 rfl (by kernel_rfl) rfl (fun A625 c626 => ?_)
   refine rd ⟨rfl,k_a (le_w [false,false,false,true,true,true,true,true,true]) (le_w [false,false,false,true,true,true,true,false,true]),?_⟩
   refine x_p rfl<|vd<|x_e rfl<|st 7 tt_ok (en_Config (⟨x10,xs96,xs186,xs495,xs570,xs623,[],x12,x15,x18⟩ : Config) (⟨(A97,c98),(A187,c188),(A496,c497),(A571,c572),(A625,c626),(none,0)⟩)) (f1 ts_22) rfl<|rd ⟨rfl,k_b rfl (le_w [false,false,false,true,true,true,true,false,true]),?_⟩
   exact xk [(2,pp bq1 0),(3,pp bq2 0),(4,pp bq20 0),(12,ii x612)] fun fr => rd<|rd<|r_num (e' := w64 (x612 - 1)) rfl<|r_le ((le_mv 8).trans ((le_mv 8).trans ((le_mv 8).trans ((le_mv 8).trans ((le_mv 8).trans ((le_mv 8).trans ((le_mv 7).trans ((le_mv 8).trans (le_w [true,true,true,true,true,true,true,true,false])))))))))<|rd ⟨m631,lt_s hm631,w64 (x612 - 1),x621,xs623,A625,c626,_,h,fe _,by kernel_rfl⟩
  refine rd<|rd ?_
  replace h := h_m h
  subst hK630
  exact rd ⟨at613,xs614,A615,c616,_,h,fe _,by kernel_rfl⟩
 clear h
 rintro fr S ⟨at632,xs633,A634,c635,fr,h,rfl,rfl⟩
 replace h := hK638 _ h
 refine rd<|rb<|rb<|r_le (le_mv 1) ?_
 replace h := h_b h; obtain ⟨⟨x640,x641⟩,hx639,h⟩ := h
 refine rc (hc_34 (bt0 := bq2) (g_t0 := ⟨(A3,c4)⟩) (t0 := { (cellplanemake_New l0) with At := at632 }) (low1 := 1) (high2 := 4) (hS_t0 := by exact (le_d 7).trans hS_l0) (h_t0 :=hs5) (h := hx639)) ?_
 rintro _ _ ⟨rfl,rfl⟩
 refine rd<|rb ?_
 replace h := h_l h; obtain ⟨K691,n692,h,hK693⟩ := h
 refine r_le (le_nil 3 1)<|r_loop (fun n fr S => ∃ (x675 : Int),∃ (at676 : Int),∃ (xs677 : (List Int)),∃ (A678 : Option Addr),∃ (c679 : Nat),∃ fr0,(runN (cellplanemake_Config.b15 l0 xs96 x10 xs186 xs495 xs570 xs633 x12 x15 x18) n (x675,at676,xs677)).bind K691 = some r ∧ fr = updL [(2,pp bq1 0),(3,pp bq2 0),(4,pp bq20 0),(13,ii x675)] fr0 ∧ S = ⟨ρ,.row A678 xs677.length c679 3 1 (fl eI64.en xs677) :: .obj bq2 (en_cellplanemake_Tape ({ (cellplanemake_New l0) with At := at676 }) (⟨(A3,c4)⟩)) 94 :: .row A634 xs633.length c635 3 1 (fl eI64.en xs633) :: .row A571 xs570.length c572 79 2 (fl eVersion.en xs570) :: .row A496 xs495.length c497 77 7 (fl eTenant.en xs495) :: .row A187 xs186.length c188 74 2 (fl eCell.en xs186) :: .row A97 xs96.length c98 72 1 (fl eZone.en xs96) :: .obj bq20 (en_Config (⟨x10,xs96,xs186,xs495,xs570,xs633,xs677,x12,x15,x18⟩ : Config) (⟨(A97,c98),(A187,c188),(A496,c497),(A571,c572),(A634,c635),(A678,c679)⟩)) 30 :: .obj bq1 (en_Config (⟨0,[],[],[],[],[],[],0,0,0⟩ : Config) (⟨(none,0),(none,0),(none,0),(none,0),(none,0),(none,0)⟩)) 30 :: L⟩) n692 ⟨x640,x641,[],none,0,_,h,fe _,by kernel_rfl⟩ ?_
 clear h
 rintro n692 fr S ⟨x675,at676,xs677,A678,c679,fr,h,rfl,rfl⟩
 replace h := h_r h; obtain ⟨m694,hm694,h⟩ := h
 refine rb<|rb<|rd ?_
 apply r_iteh h<;>clear h<;>intro h
 ·refine rd<|rb<|rb<|r_mix tt_ok hm_ok _ _ [10] (.pure 0 (.va 1 (.pure 2 (.pure 3 (.va 4 (.pure 5 (.eff 6 (.eff 7 (.eff 8 (.pure 9 (.eff 10 .nil))))))))))) (le_w [false,false,true,true,true,true,true,true,true]) (le_w [false,false,true,true,true,true,true,false,true]) ?_ ?_
  ·decide +kernel
  refine x_p rfl<|vd<|x_va rfl<|vl 5 tt_ok (v := .slice A678 xs677.length c679) ts_22 rfl<|vd<|x_p rfl<|vd<|x_p rfl<|vd<|x_va rfl<|vl 5 tt_ok (v := .slice A97 xs96.length c98) ts_25 rfl<|vd<|x_p rfl ?_
  refine vd<|x_e rfl<|r_le (le_mv 1) ?_
  replace h := h_b h; obtain ⟨⟨x683,x684⟩,hx682,h⟩ := h
  refine rc (hc_33 (bt0 := bq2) (g_t0 := ⟨(A3,c4)⟩) (t0 := { (cellplanemake_New l0) with At := at676 }) (n1 := (xs96.length : Int)) (hS_t0 := by exact (le_d 8).trans hS_l0) (h_t0 :=hs5) (h := hx682)) ?_
  rintro _ _ ⟨rfl,rfl⟩
  refine rd ⟨rfl,k_a (le_w [false,false,true,true,true,true,true,true,true]) (le_w [false,false,true,true,true,true,true,false,true]),?_⟩
  refine xp [(2,pp bq1 0),(3,pp bq2 0),(4,pp bq20 0),(13,ii x675),(172,.slice A678 xs677.length c679),(177,ii x683)] fun fr => x_e rfl<|r_bs tt_ok (fl eI64.en [x683]) te_22 ti_3 (by kernel_rfl) (by kernel_rfl) (by kernel_rfl) (by kernel_rfl) fun bq685 => rd ⟨rfl,k_a (le_w [false,false,false,true,true,true,true,true,true,true]) (le_w [false,false,false,true,true,true,true,true,false,true]),?_⟩
  refine x_e rfl ?_
  replace h := h_b h; obtain ⟨xs686,ha687,h⟩ := h
  refine r_app 2 (E := eI64) (xs := xs677) (ys := [x683]) tt_ok ha687 (rd_row 0 rfl) rfl te_22 ti_3 rfl (by kernel_rfl) rfl (fun A688 c689 => ?_)
  refine rd ⟨rfl,k_a (le_w [false,false,false,true,true,true,true,true,true,true]) (le_w [false,false,false,true,true,true,true,true,false,true]),?_⟩
  refine x_p rfl<|vd<|x_e rfl<|st 8 tt_ok (en_Config (⟨x10,xs96,xs186,xs495,xs570,xs633,xs686,x12,x15,x18⟩ : Config) (⟨(A97,c98),(A187,c188),(A496,c497),(A571,c572),(A634,c635),(A688,c689)⟩)) (f1 ts_22) rfl<|rd ⟨rfl,k_b rfl (le_w [false,false,false,true,true,true,true,true,false,true]),?_⟩
  exact xk [(2,pp bq1 0),(3,pp bq2 0),(4,pp bq20 0),(13,ii x675)] fun fr => rd<|rd<|r_num (e' := w64 (x675 - 1)) rfl<|r_le ((le_mv 9).trans ((le_mv 9).trans ((le_mv 9).trans ((le_mv 9).trans ((le_mv 9).trans ((le_mv 9).trans ((le_mv 9).trans ((le_mv 8).trans ((le_mv 9).trans (le_w [true,true,true,true,true,true,true,true,true,false]))))))))))<|rd ⟨m694,lt_s hm694,w64 (x675 - 1),x684,xs686,A688,c689,_,h,fe _,by kernel_rfl⟩
 refine rd<|rd ?_
 replace h := h_m h
 subst hK693
 refine rd<|rb<|ln 7 tt_ok (en_Config (⟨x10,xs96,xs186,xs495,xs570,xs633,xs677,x12,x15,x18⟩ : Config) (⟨(A97,c98),(A187,c188),(A496,c497),(A571,c572),(A634,c635),(A678,c679)⟩)) ta_30 rfl<|st 8 tt_ok (en_Config (⟨x10,xs96,xs186,xs495,xs570,xs633,xs677,x12,x15,x18⟩ : Config) (⟨(A97,c98),(A187,c188),(A496,c497),(A571,c572),(A634,c635),(A678,c679)⟩)) (fn ta_30) rfl<|rd ?_
 repeat refine rd ?_
 repeat refine rd ?_
 obtain rfl := h_out h
 exact ret_of (rv_cell 8 tt_ok (by kernel_rfl) ta_30 rfl rfl RV.nil) ((le_mv 2).trans ((le_mv 3).trans ((le_mv 4).trans ((le_mv 5).trans ((le_mv 6).trans (le_w [true,true,true,true,true,true,false,false,false])))))) ⟨A97,c98,A187,c188,A496,c497,A571,c572,A634,c635,A678,c679,rfl,rfl⟩
theorem hc_36 {g_c0 : gConfig} {S_c0 : St} (hS_c0 : Le ⟨ρ,L⟩ S_c0) (c0 : Config) (h_c0 : Sl_Config S_c0 c0 g_c0) {r : State} (h : cellplaneref12_New c0 = some r) : HC Tryz.prog 36 #[.agg (en_Config c0 g_c0).toArray] ⟨ρ,L⟩ (fun v S' => ∃ (Aq1_0 : Option Addr),∃ (cq1_0 : Nat),∃ (Aq1_1 : Option Addr),∃ (cq1_1 : Nat),v = .agg (en_State r (⟨(Aq1_0,cq1_0),(Aq1_1,cq1_1)⟩)).toArray ∧ S' = ⟨ρ,.row Aq1_0 r.Tenants.length cq1_0 58 12 (fl eTenantState.en r.Tenants) :: .row Aq1_1 r.Cells.length cq1_1 54 4 (fl eCellState.en r.Cells) :: L⟩) := by
 replace h := h_in h
 refine HC.intro (N := 35) (args := [_]) tt_ok Tryz.func36 rfl (by decide +kernel) rfl (Nat.le_of_ble_eq_true rfl)<|rb<|r_bx (en_Config c0 g_c0) (by kernel_rfl) fun bq1 => r_al tt_ok (en_State (⟨0,0,[],[],0,0,0,0⟩ : State) (⟨(none,0),(none,0)⟩)) ti_38 (by kernel_rfl) fun bq2 => rd<|rb<|r_bd tt_ok (en_State (⟨0,0,[],[],1,0,0,0⟩ : State) (⟨(none,0),(none,0)⟩)) ti_38 tp_38 (by kernel_rfl)<|r_al tt_ok (en_State (⟨0,0,[],[],0,0,0,0⟩ : State) (⟨(none,0),(none,0)⟩)) ti_38 (by kernel_rfl) fun bq3 => st 0 tt_ok (en_State (⟨0,0,[],[],1,0,0,0⟩ : State) (⟨(none,0),(none,0)⟩)) (fn ta_38) rfl<|rd<|rb ?_
 replace h := h_j h; obtain ⟨K49,h,hK50⟩ := h
 refine r_meet (fun fr S => ∃ (xs45 : (List TenantState)),∃ (A46 : Option Addr),∃ (c47 : Nat),∃ fr0,K49 xs45 = some r ∧ fr = updL [(1,pp bq1 0),(2,pp bq2 0),(3,pp bq3 0)] fr0 ∧ S = ⟨ρ,.row A46 xs45.length c47 58 12 (fl eTenantState.en xs45) :: .obj bq3 (en_State (⟨0,0,xs45,[],1,0,0,0⟩ : State) (⟨(A46,c47),(none,0)⟩)) 38 :: .obj bq2 (en_State (⟨0,0,[],[],0,0,0,0⟩ : State) (⟨(none,0),(none,0)⟩)) 38 :: .obj bq1 (en_Config c0 g_c0) 30 :: L⟩) ?_ ?_
 ·refine rb<|rd<|rb ?_
  replace h := h_l h; obtain ⟨K41,n42,h,hK43⟩ := h
  refine r_le (le_nil 58 12)<|r_loop (fun n fr S => ∃ (x29 : Int),∃ (xs30 : (List TenantState)),∃ (A31 : Option Addr),∃ (c32 : Nat),∃ fr0,(runN (cellplaneref12_New.b2 c0) n (x29,xs30)).bind K41 = some r ∧ fr = updL [(1,pp bq1 0),(2,pp bq2 0),(3,pp bq3 0),(4,ii x29)] fr0 ∧ S = ⟨ρ,.row A31 xs30.length c32 58 12 (fl eTenantState.en xs30) :: .obj bq3 (en_State (⟨0,0,xs30,[],1,0,0,0⟩ : State) (⟨(A31,c32),(none,0)⟩)) 38 :: .obj bq2 (en_State (⟨0,0,[],[],0,0,0,0⟩ : State) (⟨(none,0),(none,0)⟩)) 38 :: .obj bq1 (en_Config c0 g_c0) 30 :: L⟩) n42 ⟨0,[],none,0,_,h,fe _,by kernel_rfl⟩ ?_
  clear h
  rintro n42 fr S ⟨x29,xs30,A31,c32,fr,h,rfl,rfl⟩
  replace h := h_r h; obtain ⟨m44,hm44,h⟩ := h
  refine rb<|rb<|ld 3 tt_ok (v := .slice g_c0.Tenants.1 c0.Tenants.length g_c0.Tenants.2) ts_27 rfl<|rd ?_
  apply r_iteh h<;>clear h<;>intro h
  ·refine rd<|rb<|rb<|ld 1 tt_ok (v := .slice A31 xs30.length c32) ts_35 rfl<|r_bd tt_ok (en_Window (⟨(-1),0,0,0,0⟩ : Window)) ti_56 tp_56 (by kernel_rfl)<|r_bd tt_ok (en_TenantState (⟨false,false,(-1),(-1),(-1),(-1),0,(⟨(-1),0,0,0,0⟩ : Window)⟩ : TenantState)) ti_58 tp_58 (by kernel_rfl)<|kp [(1,pp bq1 0),(2,pp bq2 0),(3,pp bq3 0),(4,ii x29),(15,.slice A31 xs30.length c32),(17,.agg (en_TenantState (⟨false,false,(-1),(-1),(-1),(-1),0,(⟨(-1),0,0,0,0⟩ : Window)⟩ : TenantState)).toArray)] fun fr => r_bs tt_ok (fl eTenantState.en [(⟨false,false,(-1),(-1),(-1),(-1),0,(⟨(-1),0,0,0,0⟩ : Window)⟩ : TenantState)]) te_35 ti_58 (by kernel_rfl) (by kernel_rfl) (by kernel_rfl) (by kernel_rfl) fun bq35 => ?_
   replace h := h_b h; obtain ⟨xs36,ha37,h⟩ := h
   refine r_app 1 (E := eTenantState) (xs := xs30) (ys := [(⟨false,false,(-1),(-1),(-1),(-1),0,(⟨(-1),0,0,0,0⟩ : Window)⟩ : TenantState)]) tt_ok ha37 (rd_row 0 rfl) rfl te_35 ti_58 rfl (by kernel_rfl) rfl (fun A38 c39 => ?_)
   exact st 2 tt_ok (en_State (⟨0,0,xs36,[],1,0,0,0⟩ : State) (⟨(A38,c39),(none,0)⟩)) (f1 ts_35) rfl<|rd<|rd<|r_num (e' := w64 (x29 + 1)) rfl<|r_le (le_w [false,true,true,true,true])<|rd ⟨m44,lt_s hm44,w64 (x29 + 1),xs36,A38,c39,_,h,fe _,by kernel_rfl⟩
  refine rd<|rd ?_
  replace h := h_m h
  subst hK43
  exact rd ⟨xs30,A31,c32,_,h,fe _,by kernel_rfl⟩
 clear h
 rintro fr S ⟨xs45,A46,c47,fr,h,rfl,rfl⟩
 replace h := hK50 _ h
 refine rd<|rb<|rb<|rd<|rb ?_
 replace h := h_l h; obtain ⟨K88,n89,h,hK90⟩ := h
 refine r_le (le_nil 54 4)<|r_loop (fun n fr S => ∃ (x76 : Int),∃ (xs77 : (List CellState)),∃ (A78 : Option Addr),∃ (c79 : Nat),∃ fr0,(runN (cellplaneref12_New.b3 c0 xs45) n (x76,xs77)).bind K88 = some r ∧ fr = updL [(1,pp bq1 0),(2,pp bq2 0),(3,pp bq3 0),(5,ii x76)] fr0 ∧ S = ⟨ρ,.row A78 xs77.length c79 54 4 (fl eCellState.en xs77) :: .row A46 xs45.length c47 58 12 (fl eTenantState.en xs45) :: .obj bq3 (en_State (⟨0,0,xs45,xs77,1,0,0,0⟩ : State) (⟨(A46,c47),(A78,c79)⟩)) 38 :: .obj bq2 (en_State (⟨0,0,[],[],0,0,0,0⟩ : State) (⟨(none,0),(none,0)⟩)) 38 :: .obj bq1 (en_Config c0 g_c0) 30 :: L⟩) n89 ⟨0,[],none,0,_,h,fe _,by kernel_rfl⟩ ?_
 clear h
 rintro n89 fr S ⟨x76,xs77,A78,c79,fr,h,rfl,rfl⟩
 replace h := h_r h; obtain ⟨m91,hm91,h⟩ := h
 refine rb<|rb<|ld 4 tt_ok (v := .slice g_c0.Cells.1 c0.Cells.length g_c0.Cells.2) ts_26 rfl<|rd ?_
 apply r_iteh h<;>clear h<;>intro h
 ·refine rd<|rb<|rb<|ld 2 tt_ok (v := .slice A78 xs77.length c79) ts_36 rfl<|r_bd tt_ok (en_CellState (⟨1,0,0,0⟩ : CellState)) ti_54 tp_54 (by kernel_rfl)<|r_bs tt_ok (fl eCellState.en [(⟨1,0,0,0⟩ : CellState)]) te_36 ti_54 (by kernel_rfl) (by kernel_rfl) (by kernel_rfl) (by kernel_rfl) fun bq82 => kp [(1,pp bq1 0),(2,pp bq2 0),(3,pp bq3 0),(5,ii x76),(29,.slice A78 xs77.length c79),(31,.slice (some ⟨bq82,0,none⟩) [(⟨1,0,0,0⟩ : CellState)].length 1)] fun fr => ?_
  replace h := h_b h; obtain ⟨xs83,ha84,h⟩ := h
  refine r_app 1 (E := eCellState) (xs := xs77) (ys := [(⟨1,0,0,0⟩ : CellState)]) tt_ok ha84 (rd_row 0 rfl) rfl te_36 ti_54 rfl (by kernel_rfl) rfl (fun A85 c86 => ?_)
  exact st 3 tt_ok (en_State (⟨0,0,xs45,xs83,1,0,0,0⟩ : State) (⟨(A46,c47),(A85,c86)⟩)) (f1 ts_36) rfl<|rd<|rd<|r_num (e' := w64 (x76 + 1)) rfl<|r_le (le_w [false,true,true,true,true,true])<|rd ⟨m91,lt_s hm91,w64 (x76 + 1),xs83,A85,c86,_,h,fe _,by kernel_rfl⟩
 refine rd<|rd ?_
 replace h := h_m h
 subst hK90
 refine rd<|rb<|ln 2 tt_ok (en_State (⟨0,0,xs45,xs77,1,0,0,0⟩ : State) (⟨(A46,c47),(A78,c79)⟩)) ta_38 rfl<|st 3 tt_ok (en_State (⟨0,0,xs45,xs77,1,0,0,0⟩ : State) (⟨(A46,c47),(A78,c79)⟩)) (fn ta_38) rfl<|rd ?_
 repeat refine rd ?_
 repeat refine rd ?_
 obtain rfl := h_out h
 exact ret_of (rv_cell 3 tt_ok (by kernel_rfl) ta_38 rfl rfl RV.nil) ((le_mv 1).trans (le_w [true,true,false,false,false])) ⟨A46,c47,A78,c79,rfl,rfl⟩
theorem hc_37 {bt0 : Nat} {g_t0 : gcellplanemake_Tape} {S_t0 : St} (hS_t0 : Le ⟨ρ,L⟩ S_t0) (t0 : cellplanemake_Tape) (h_t0 : Sl_cellplanemake_Tape S_t0 t0 g_t0)  : HC Tryz.prog 37 #[pp bt0 0] ⟨ρ,.obj bt0 (en_cellplanemake_Tape t0 g_t0) 94 :: L⟩ (fun v S' => v = .bool (cellplanemake_Tape_More t0) ∧ S' = ⟨ρ,.obj bt0 (en_cellplanemake_Tape t0 g_t0) 94 :: L⟩) := by
 generalize h : cellplanemake_Tape_More t0 = r
 unfold cellplanemake_Tape_More at h
 refine HC.intro (N := 13) (args := [_]) tt_ok Tryz.func37 rfl (by decide +kernel) rfl (Nat.le_of_ble_eq_true rfl)<|rb<|rd<|rb<|r_mix tt_ok hm_ok _ _ [] (.pure 0 (.pure 1 (.pure 2 (.vb 3 (.pure 4 (.pure 5 (.pure 6 (.vb 7 (.pure 8 (.pure 9 (.pure 10 .nil))))))))))) (le_w [true]) (le_w [true]) ?_ ?_
 ·decide +kernel
 refine x_p rfl<|vd<|x_p rfl<|vd<|x_p rfl<|vd<|x_vb rfl<|vl 0 tt_ok (v := ii t0.At) ts_3 rfl<|vd<|x_p rfl<|vd<|x_p rfl<|vd ?_
 refine x_p rfl<|vd<|x_vb rfl<|vl 0 tt_ok (v := .slice g_t0.L.1 t0.L.length g_t0.L.2) ts_22 rfl<|vd<|xp [(2,.bool false),(6,ii t0.At),(10,.slice g_t0.L.1 t0.L.length g_t0.L.2)] fun fr => x_p rfl<|vd<|x_p rfl<|vd<|x_p rfl<|vd<|xk [(2,.bool (decide (t0.At < (t0.L.length : Int))))] fun fr => ?_
 refine rd ?_
 repeat refine rd ?_
 repeat refine rd ?_
 subst h
 exact ret_of (RV.tmp RV.nil) (Le.refl _) ⟨rfl,rfl⟩
theorem hc_43   (kind0 : Int) (tick1 : Int)   : HC Tryz.prog 43 #[ii kind0,ii tick1] ⟨ρ,L⟩ (fun v S' => v = .agg (en_Entry (cellplanemake_none kind0 tick1)).toArray ∧ S' = ⟨ρ,L⟩) := by
 generalize h : cellplanemake_none kind0 tick1 = r
 unfold cellplanemake_none at h
 refine HC.intro (N := 8) (args := [_,_]) tt_ok Tryz.func43 rfl (by decide +kernel) rfl (Nat.le_of_ble_eq_true rfl)<|rb<|r_al tt_ok (en_Entry (⟨0,0,0,0,0,0,0,0,0⟩ : Entry)) ti_45 (by kernel_rfl) fun bq1 => rd<|rb<|r_bd tt_ok (en_Entry (⟨kind0,tick1,(-1),(-1),(-1),0,0,0,0⟩ : Entry)) ti_45 tp_45 (by kernel_rfl)<|st 0 tt_ok (en_Entry (⟨kind0,tick1,(-1),(-1),(-1),0,0,0,0⟩ : Entry)) (fn ta_45) rfl<|rd ?_
 repeat refine rd ?_
 repeat refine rd ?_
 subst h
 exact ret_of (rv_cell 0 tt_ok (by kernel_rfl) ta_45 rfl rfl RV.nil) (le_w [false]) ⟨rfl,rfl⟩
theorem hc_60   (set0 : Int) (i1 : Int)   : HC Tryz.prog 60 #[ii set0,ii i1] ⟨ρ,L⟩ (fun v S' => v = .bool (cellplaneref04_Has set0 i1) ∧ S' = ⟨ρ,L⟩) := by
 generalize h : cellplaneref04_Has set0 i1 = r
 unfold cellplaneref04_Has at h
 refine HC.intro (N := 19) (args := [_,_]) tt_ok Tryz.func60 rfl (by decide +kernel) rfl (Nat.le_of_ble_eq_true rfl)<|rb<|rd<|rb<|r_meet (fun fr S => ∃ fr0,fr = updL [(4,.bool ((decide (0 ≤ i1)) && ((decide (i1 < 62)) && (!decide (Int.tmod (shr .i64 set0 (IntKind.u64.wrap (i1))) 2 = 0)))))] fr0 ∧ S = ⟨ρ,L⟩) ?_ ?_
 ·refine r_ite (fun (hb1 : (decide (0 ≤ i1)) = true) => ?_) (fun (hb1 : (decide (0 ≤ i1)) = false) => ?_)
  ·refine kp [(0,ii set0),(1,ii i1),(4,.bool false),(7,.bool true),(8,ii i1)] fun fr => r_T rfl<|r_ite (fun (hb2 : (decide (i1 < 62)) = true) => ?_) (fun (hb2 : (decide (i1 < 62)) = false) => ?_)
   ·exact r_T rfl<|r_T rfl<|r_num (e' := IntKind.u64.wrap (i1)) rfl<|r_T rfl<|r_check (u_nonneg rfl _)<|r_num (e' := shr .i64 set0 (IntKind.u64.wrap (i1))) rfl<|r_T rfl<|r_check (by decide)<|r_num (e' := Int.tmod (shr .i64 set0 (IntKind.u64.wrap (i1))) 2) rfl<|r_T rfl<|kp [(4,.bool false),(11,.bool true),(17,.bool (!decide (Int.tmod (shr .i64 set0 (IntKind.u64.wrap (i1))) 2 = 0)))] fun fr => rd ⟨_,fr_eq _ (by (try rw [hb2]); (try rw [hb1]); kernel_rfl),by kernel_rfl⟩
   exact r_F rfl<|r_F rfl<|r_F rfl<|r_F rfl<|r_F rfl<|kp [(4,.bool false),(11,.bool false),(17,undef)] fun fr => r_F rfl<|rd ⟨_,fr_eq _ (by (try rw [hb2]); (try rw [hb1]); kernel_rfl),by kernel_rfl⟩
  exact kp [(0,ii set0),(1,ii i1),(4,.bool false),(7,.bool false),(8,undef)] fun fr => r_F rfl<|r_F rfl<|r_F rfl<|r_F rfl<|r_F rfl<|r_F rfl<|r_F rfl<|r_F rfl<|kp [(4,.bool false),(11,.bool false),(17,undef)] fun fr => r_F rfl<|rd ⟨_,fr_eq _ (by (try rw [hb1]); kernel_rfl),by kernel_rfl⟩
 rintro fr S ⟨fr,rfl,rfl⟩
 refine rd ?_
 repeat refine rd ?_
 repeat refine rd ?_
 subst h
 exact ret_of (RV.tmp RV.nil) (Le.refl _) ⟨rfl,rfl⟩
theorem hc_42 {bt0 : Nat} {g_t0 : gcellplanemake_Tape} {g_c1 : gConfig} {g_s2 : gState} {S_t0 : St} (hS_t0 : Le ⟨ρ,L⟩ S_t0) {S_c1 : St} (hS_c1 : Le ⟨ρ,L⟩ S_c1) {S_s2 : St} (hS_s2 : Le ⟨ρ,L⟩ S_s2) (t0 : cellplanemake_Tape) (c1 : Config) (s2 : State) (tick3 : Int) (h_t0 : Sl_cellplanemake_Tape S_t0 t0 g_t0) (h_c1 : Sl_Config S_c1 c1 g_c1) (h_s2 : Sl_State S_s2 s2 g_s2) {r : (Entry × Int)} (h : cellplanemake_platform t0 c1 s2 tick3 = some r) : HC Tryz.prog 42 #[pp bt0 0,.agg (en_Config c1 g_c1).toArray,.agg (en_State s2 g_s2).toArray,ii tick3] ⟨ρ,.obj bt0 (en_cellplanemake_Tape t0 g_t0) 94 :: L⟩ (fun v S' => v = .agg (en_Entry r.1).toArray ∧ S' = ⟨ρ,.obj bt0 (en_cellplanemake_Tape ({ t0 with At := r.2 }) g_t0) 94 :: L⟩) := by
 replace h := h_in h
 refine HC.intro (N := 112) (args := [_,_,_,_]) tt_ok Tryz.func42 rfl (by decide +kernel) rfl (Nat.le_of_ble_eq_true rfl)<|rb<|r_bx (en_Config c1 g_c1) (by kernel_rfl) fun bq1 => r_bx (en_State s2 g_s2) (by kernel_rfl) fun bq2 => r_al tt_ok (en_Entry (⟨0,0,0,0,0,0,0,0,0⟩ : Entry)) ti_45 (by kernel_rfl) fun bq3 => rd<|rb<|rc (hc_43 (kind0 := 16) (tick1 := tick3)) ?_
 rintro _ _ ⟨rfl,rfl⟩
 refine r_al tt_ok (en_Entry (⟨0,0,0,0,0,0,0,0,0⟩ : Entry)) ti_45 (by kernel_rfl) fun bq4 => st 0 tt_ok (en_Entry (cellplanemake_none 16 tick3)) (fn ta_45) rfl<|rd<|rb<|ld 3 tt_ok (v := .slice g_c1.Cells.1 c1.Cells.length g_c1.Cells.2) ts_26 rfl<|kp [(0,pp bt0 0),(3,ii tick3),(5,pp bq1 0),(6,pp bq2 0),(8,pp bq3 0),(9,pp bq4 0),(14,pp bt0 0),(16,.slice g_c1.Cells.1 c1.Cells.length g_c1.Cells.2)] fun fr => r_le (le_mv 4) ?_
 replace h := h_b h; obtain ⟨⟨x6,x7⟩,hx5,h⟩ := h
 refine rc (hc_33 (bt0 := bt0) (g_t0 := g_t0) (t0 := t0) (n1 := (c1.Cells.length : Int)) (hS_t0 := by exact (le_d 4).trans hS_t0) (h_t0 :=h_t0) (h := hx5)) ?_
 rintro _ _ ⟨rfl,rfl⟩
 refine rd<|rb<|ld 3 tt_ok (v := .slice g_s2.Cells.1 s2.Cells.length g_s2.Cells.2) ts_36 rfl ?_
 replace h := h_b h; obtain ⟨x8,hx9,h⟩ := h
 refine r_el hx9 ((h_s2.2).rd.mono ((le_d 5).trans hS_s2))<|r_len (E := eCellState) tt_ok (en_CellState x8) (idx_get hx9) ((h_s2.2).rd.mono ((le_d 5).trans hS_s2)) ta_54 rfl (pl0 _ _) (by kernel_rfl) (by kernel_rfl)<|r_al tt_ok (en_CellState (⟨0,0,0,0⟩ : CellState)) ti_54 (by kernel_rfl) fun bq10 => kp [(0,pp bt0 0),(3,ii tick3),(5,pp bq1 0),(6,pp bq2 0),(8,pp bq3 0),(9,pp bq4 0),(10,ii x6),(11,pp bq10 0),(23,.agg (en_CellState x8).toArray)] fun fr => st 0 tt_ok (en_CellState x8) (fn ta_54) rfl<|rd<|rb<|rb<|r_le (le_mv 1) ?_
 replace h := h_b h; obtain ⟨⟨x12,x13⟩,hx11,h⟩ := h
 refine rc (hc_33 (bt0 := bt0) (g_t0 := g_t0) (t0 := { t0 with At := x7 }) (n1 := 12) (hS_t0 := by exact (le_d 5).trans hS_t0) (h_t0 :=h_t0) (h := hx11)) ?_
 rintro _ _ ⟨rfl,rfl⟩
 refine rd<|rb<|rb<|rd ?_
 apply r_iteh h<;>clear h<;>intro h
 ·replace h := h_b h; obtain ⟨⟨x16,x17⟩,hx15,h⟩ := h
  refine rc (hc_34 (bt0 := bt0) (g_t0 := g_t0) (t0 := { t0 with At := x13 }) (low1 := 1) (high2 := 3) (hS_t0 := by exact (le_d 5).trans hS_t0) (h_t0 :=h_t0) (h := hx15)) ?_
  rintro _ _ ⟨rfl,rfl⟩
  refine st 2 tt_ok (en_Entry ({ (cellplanemake_none 16 tick3) with Kind := 9 })) (f1 ts_3) rfl<|kp [(8,pp bq3 0),(9,pp bq4 0),(31,ii x6),(33,ii x16)] fun fr => st 2 tt_ok (en_Entry ({ (cellplanemake_none 16 tick3) with Kind := 9,Cell := x6 })) (f1 ts_3) rfl<|st 2 tt_ok (en_Entry ({ (cellplanemake_none 16 tick3) with Kind := 9,Cell := x6,N := x16 })) (f1 ts_3) rfl<|rd<|rd<|rb<|ln 2 tt_ok (en_Entry ({ (cellplanemake_none 16 tick3) with Kind := 9,Cell := x6,N := x16 })) ta_45 rfl<|st 3 tt_ok (en_Entry ({ (cellplanemake_none 16 tick3) with Kind := 9,Cell := x6,N := x16 })) (fn ta_45) rfl<|rd ?_
  repeat refine rd ?_
  repeat refine rd ?_
  obtain rfl := h_out h
  exact ret_of (rv_cell 3 tt_ok (by kernel_rfl) ta_45 rfl rfl RV.nil) (le_w [true,false,false,false,false,false]) ⟨rfl,rfl⟩
 refine rb<|rd ?_
 apply r_iteh h<;>clear h<;>intro h
 ·refine st 2 tt_ok (en_Entry ({ (cellplanemake_none 16 tick3) with Kind := 9 })) (f1 ts_3) rfl<|kp [(8,pp bq3 0),(9,pp bq4 0),(39,ii x6)] fun fr => st 2 tt_ok (en_Entry ({ (cellplanemake_none 16 tick3) with Kind := 9,Cell := x6 })) (f1 ts_3) rfl<|st 2 tt_ok (en_Entry ({ (cellplanemake_none 16 tick3) with Kind := 9,Cell := x6,N := 1 })) (f1 ts_3) rfl<|rd<|rd<|rb<|ln 2 tt_ok (en_Entry ({ (cellplanemake_none 16 tick3) with Kind := 9,Cell := x6,N := 1 })) ta_45 rfl<|st 3 tt_ok (en_Entry ({ (cellplanemake_none 16 tick3) with Kind := 9,Cell := x6,N := 1 })) (fn ta_45) rfl<|rd ?_
  repeat refine rd ?_
  repeat refine rd ?_
  obtain rfl := h_out h
  exact ret_of (rv_cell 3 tt_ok (by kernel_rfl) ta_45 rfl rfl RV.nil) (le_w [true,false,false,false,false,false]) ⟨rfl,rfl⟩
 refine rb ?_
 replace h := h_j h; obtain ⟨K22,h,hK23⟩ := h
 refine r_meet (fun fr S => ∃ (x21 : Bool),∃ fr0,K22 x21 = some r ∧ fr = updL [(0,pp bt0 0),(3,ii tick3),(5,pp bq1 0),(6,pp bq2 0),(8,pp bq3 0),(9,pp bq4 0),(10,ii x6),(11,pp bq10 0),(25,ii x12),(43,.bool x21)] fr0 ∧ S = ⟨ρ,.obj bt0 (en_cellplanemake_Tape ({ t0 with At := x13 }) g_t0) 94 :: .obj bq10 (en_CellState x8) 54 :: .obj bq4 (en_Entry (cellplanemake_none 16 tick3)) 45 :: .obj bq3 (en_Entry (⟨0,0,0,0,0,0,0,0,0⟩ : Entry)) 45 :: .obj bq2 (en_State s2 g_s2) 38 :: .obj bq1 (en_Config c1 g_c1) 30 :: L⟩) ?_ ?_
 ·refine rb<|rd ?_
  apply r_iteh h<;>clear h<;>intro h
  ·exact rd ⟨true,_,h,fe _,by kernel_rfl⟩
  refine rb<|rd ?_
  apply r_iteh h<;>clear h<;>intro h
  ·exact rd ⟨true,_,h,fe _,by kernel_rfl⟩
  exact rd ⟨decide (x12 = 4),_,h,fe _,by kernel_rfl⟩
 clear h
 rintro fr S ⟨x21,fr,h,rfl,rfl⟩
 replace h := hK23 _ h
 refine rd ?_
 apply r_iteh h<;>clear h<;>intro h
 ·refine ld 5 tt_ok (v := .slice g_c1.Versions.1 c1.Versions.length g_c1.Versions.2) ts_28 rfl ?_
  replace h := h_b h; obtain ⟨⟨x26,x27⟩,hx25,h⟩ := h
  refine rc (hc_33 (bt0 := bt0) (g_t0 := g_t0) (t0 := { t0 with At := x13 }) (n1 := (c1.Versions.length : Int)) (hS_t0 := by exact (le_d 5).trans hS_t0) (h_t0 :=h_t0) (h := hx25)) ?_
  rintro _ _ ⟨rfl,rfl⟩
  refine st 2 tt_ok (en_Entry ({ (cellplanemake_none 16 tick3) with Kind := 10 })) (f1 ts_3) rfl<|st 2 tt_ok (en_Entry ({ (cellplanemake_none 16 tick3) with Kind := 10,Cell := x6 })) (f1 ts_3) rfl<|kp [(8,pp bq3 0),(9,pp bq4 0),(52,ii x26)] fun fr => st 2 tt_ok (en_Entry ({ (cellplanemake_none 16 tick3) with Kind := 10,Cell := x6,N := x26 })) (f1 ts_3) rfl<|rd<|rd<|rb<|ln 2 tt_ok (en_Entry ({ (cellplanemake_none 16 tick3) with Kind := 10,Cell := x6,N := x26 })) ta_45 rfl<|st 3 tt_ok (en_Entry ({ (cellplanemake_none 16 tick3) with Kind := 10,Cell := x6,N := x26 })) (fn ta_45) rfl<|rd ?_
  repeat refine rd ?_
  repeat refine rd ?_
  obtain rfl := h_out h
  exact ret_of (rv_cell 3 tt_ok (by kernel_rfl) ta_45 rfl rfl RV.nil) (le_w [true,false,false,false,false,false]) ⟨rfl,rfl⟩
 refine rb ?_
 replace h := h_j h; obtain ⟨K31,h,hK32⟩ := h
 refine r_meet (fun fr S => ∃ (x30 : Bool),∃ fr0,K31 x30 = some r ∧ fr = updL [(0,pp bt0 0),(3,ii tick3),(5,pp bq1 0),(6,pp bq2 0),(8,pp bq3 0),(9,pp bq4 0),(10,ii x6),(11,pp bq10 0),(25,ii x12),(56,.bool x30)] fr0 ∧ S = ⟨ρ,.obj bt0 (en_cellplanemake_Tape ({ t0 with At := x13 }) g_t0) 94 :: .obj bq10 (en_CellState x8) 54 :: .obj bq4 (en_Entry (cellplanemake_none 16 tick3)) 45 :: .obj bq3 (en_Entry (⟨0,0,0,0,0,0,0,0,0⟩ : Entry)) 45 :: .obj bq2 (en_State s2 g_s2) 38 :: .obj bq1 (en_Config c1 g_c1) 30 :: L⟩) ?_ ?_
 ·refine rb<|rd ?_
  apply r_iteh h<;>clear h<;>intro h
  ·exact rd ⟨true,_,h,fe _,by kernel_rfl⟩
  refine rb<|rd ?_
  apply r_iteh h<;>clear h<;>intro h
  ·exact rd ⟨true,_,h,fe _,by kernel_rfl⟩
  exact rd ⟨decide (x12 = 7),_,h,fe _,by kernel_rfl⟩
 clear h
 rintro fr S ⟨x30,fr,h,rfl,rfl⟩
 replace h := hK32 _ h
 refine rd ?_
 apply r_iteh h<;>clear h<;>intro h
 ·refine rb<|r_mix tt_ok hm_ok _ _ [] (.pure 0 (.pure 1 (.vb 2 (.pure 3 (.eff 4 (.pure 5 (.eff 6 (.pure 7 (.eff 8 .nil))))))))) (le_w [true,true,false,true,true,true]) (le_w [true,true,false,true,true,true]) ?_ ?_
  ·decide +kernel
  refine x_p rfl<|vd<|x_p rfl<|vd<|x_vb rfl<|vl 1 tt_ok (v := ii x8.Wanted) ts_3 rfl<|vd<|x_p rfl<|vd<|x_e rfl<|st 2 tt_ok (en_Entry ({ (cellplanemake_none 16 tick3) with Kind := 11 })) (f1 ts_3) rfl<|rd ⟨rfl,k_a (le_w [true,true,false,true,true,true]) (le_w [true,true,false,true,true,true]),?_⟩
  refine x_p rfl<|vd<|x_e rfl<|st 2 tt_ok (en_Entry ({ (cellplanemake_none 16 tick3) with Kind := 11,Cell := x6 })) (f1 ts_3) rfl<|rd ⟨rfl,k_a (le_w [true,true,false,true,true,true]) (le_w [true,true,false,true,true,true]),?_⟩
  refine x_p rfl<|vd<|x_e rfl<|st 2 tt_ok (en_Entry ({ (cellplanemake_none 16 tick3) with Kind := 11,Cell := x6,N := x8.Wanted })) (f1 ts_3) rfl<|rd ⟨rfl,k_a (le_w [true,true,false,true,true,true]) (le_w [true,true,false,true,true,true]),?_⟩
  refine xk [(0,pp bt0 0),(3,ii tick3),(5,pp bq1 0),(8,pp bq3 0),(9,pp bq4 0)] fun fr => rd<|ld 5 tt_ok (v := ii c1.Lease) ts_3 rfl ?_
  replace h := h_b h; obtain ⟨⟨x35,x36⟩,hx34,h⟩ := h
  refine rc (hc_33 (bt0 := bt0) (g_t0 := g_t0) (t0 := { t0 with At := x13 }) (n1 := c1.Lease) (hS_t0 := by exact (le_d 5).trans hS_t0) (h_t0 :=h_t0) (h := hx34)) ?_
  rintro _ _ ⟨rfl,rfl⟩
  refine r_num (e' := w64 (tick3 + x35)) rfl<|st 2 tt_ok (en_Entry ({ (cellplanemake_none 16 tick3) with Kind := 11,Tick := w64 (tick3 + x35),Cell := x6,N := x8.Wanted })) (f1 ts_3) rfl<|rd<|rd<|rb<|ln 2 tt_ok (en_Entry ({ (cellplanemake_none 16 tick3) with Kind := 11,Tick := w64 (tick3 + x35),Cell := x6,N := x8.Wanted })) ta_45 rfl<|kp [(8,pp bq3 0),(111,.agg (en_Entry ({ (cellplanemake_none 16 tick3) with Kind := 11,Tick := w64 (tick3 + x35),Cell := x6,N := x8.Wanted })).toArray)] fun fr => st 3 tt_ok (en_Entry ({ (cellplanemake_none 16 tick3) with Kind := 11,Tick := w64 (tick3 + x35),Cell := x6,N := x8.Wanted })) (fn ta_45) rfl<|rd ?_
  repeat refine rd ?_
  repeat refine rd ?_
  obtain rfl := h_out h
  exact ret_of (rv_cell 3 tt_ok (by kernel_rfl) ta_45 rfl rfl RV.nil) (le_w [true,false,false,false,false,false]) ⟨rfl,rfl⟩
 refine rb<|rd ?_
 apply r_iteh h<;>clear h<;>intro h
 ·refine rb<|r_mix tt_ok hm_ok _ _ [] (.pure 0 (.vb 1 (.pure 2 (.eff 3 (.pure 4 (.eff 5 .nil)))))) (le_w [true,true,false,true,true,true]) (le_w [true,true,false,true,true,true]) ?_ ?_
  ·decide +kernel
  refine x_p rfl<|vd<|x_vb rfl<|vl 1 tt_ok (v := ii x8.Running) ts_3 rfl<|vd<|x_p rfl<|vd<|x_e rfl<|st 2 tt_ok (en_Entry ({ (cellplanemake_none 16 tick3) with Kind := 12 })) (f1 ts_3) rfl<|rd ⟨rfl,k_a (le_w [true,true,false,true,true,true]) (le_w [true,true,false,true,true,true]),?_⟩
  refine x_p rfl<|vd<|x_e rfl<|st 2 tt_ok (en_Entry ({ (cellplanemake_none 16 tick3) with Kind := 12,N := x8.Running })) (f1 ts_3) rfl<|rd ⟨rfl,k_a (le_w [true,true,false,true,true,true]) (le_w [true,true,false,true,true,true]),?_⟩
  refine xk [(0,pp bt0 0),(3,ii tick3),(5,pp bq1 0),(8,pp bq3 0),(9,pp bq4 0)] fun fr => rd<|ld 5 tt_ok (v := ii c1.Bake) ts_3 rfl<|r_num (e' := w64 (c1.Bake + 1)) rfl ?_
  replace h := h_b h; obtain ⟨⟨x39,x40⟩,hx38,h⟩ := h
  refine rc (hc_33 (bt0 := bt0) (g_t0 := g_t0) (t0 := { t0 with At := x13 }) (n1 := w64 (c1.Bake + 1)) (hS_t0 := by exact (le_d 5).trans hS_t0) (h_t0 :=h_t0) (h := hx38)) ?_
  rintro _ _ ⟨rfl,rfl⟩
  refine r_num (e' := w64 (tick3 + x39)) rfl<|st 2 tt_ok (en_Entry ({ (cellplanemake_none 16 tick3) with Kind := 12,Tick := w64 (tick3 + x39),N := x8.Running })) (f1 ts_3) rfl<|kr [(8,pp bq3 0),(9,pp bq4 0)] fun fr => rd<|rd<|rb<|ln 2 tt_ok (en_Entry ({ (cellplanemake_none 16 tick3) with Kind := 12,Tick := w64 (tick3 + x39),N := x8.Running })) ta_45 rfl<|st 3 tt_ok (en_Entry ({ (cellplanemake_none 16 tick3) with Kind := 12,Tick := w64 (tick3 + x39),N := x8.Running })) (fn ta_45) rfl<|rd ?_
  repeat refine rd ?_
  repeat refine rd ?_
  obtain rfl := h_out h
  exact ret_of (rv_cell 3 tt_ok (by kernel_rfl) ta_45 rfl rfl RV.nil) (le_w [true,false,false,false,false,false]) ⟨rfl,rfl⟩
 refine rb<|rd ?_
 apply r_iteh h<;>clear h<;>intro h
 ·refine rb<|ld 5 tt_ok (v := ii c1.Regions) ts_3 rfl ?_
  replace h := h_b h; obtain ⟨⟨x43,x44⟩,hx42,h⟩ := h
  refine rc (hc_33 (bt0 := bt0) (g_t0 := g_t0) (t0 := { t0 with At := x13 }) (n1 := c1.Regions) (hS_t0 := by exact (le_d 5).trans hS_t0) (h_t0 :=h_t0) (h := hx42)) ?_
  rintro _ _ ⟨rfl,rfl⟩
  refine st 2 tt_ok (en_Entry ({ (cellplanemake_none 16 tick3) with Kind := 13 })) (f1 ts_3) rfl<|kp [(6,pp bq2 0),(8,pp bq3 0),(9,pp bq4 0),(92,ii x43)] fun fr => st 2 tt_ok (en_Entry ({ (cellplanemake_none 16 tick3) with Kind := 13,Other := x43 })) (f1 ts_3) rfl<|st 2 tt_ok (en_Entry ({ (cellplanemake_none 16 tick3) with Kind := 13,Other := x43,N := 1 })) (f1 ts_3) rfl<|rd<|rb<|ld 4 tt_ok (v := ii s2.Evacuating) ts_3 rfl<|ld 2 tt_ok (v := ii x43) ts_3 rfl<|rc (hc_60 (set0 := s2.Evacuating) (i1 := x43)) ?_
  rintro _ _ ⟨rfl,rfl⟩
  refine kr [(8,pp bq3 0),(9,pp bq4 0),(100,.bool (cellplaneref04_Has s2.Evacuating x43))] fun fr => rd ?_
  apply r_iteh h<;>clear h<;>intro h
  ·refine st 2 tt_ok (en_Entry ({ (cellplanemake_none 16 tick3) with Kind := 13,Other := x43,N := 0 })) (f1 ts_3) rfl<|rd<|rd<|rb<|ln 2 tt_ok (en_Entry ({ (cellplanemake_none 16 tick3) with Kind := 13,Other := x43,N := 0 })) ta_45 rfl<|st 3 tt_ok (en_Entry ({ (cellplanemake_none 16 tick3) with Kind := 13,Other := x43,N := 0 })) (fn ta_45) rfl<|rd ?_
   repeat refine rd ?_
   repeat refine rd ?_
   obtain rfl := h_out h
   exact ret_of (rv_cell 3 tt_ok (by kernel_rfl) ta_45 rfl rfl RV.nil) (le_w [true,false,false,false,false,false]) ⟨rfl,rfl⟩
  refine rd<|rd<|rb<|ln 2 tt_ok (en_Entry ({ (cellplanemake_none 16 tick3) with Kind := 13,Other := x43,N := 1 })) ta_45 rfl<|st 3 tt_ok (en_Entry ({ (cellplanemake_none 16 tick3) with Kind := 13,Other := x43,N := 1 })) (fn ta_45) rfl<|rd ?_
  repeat refine rd ?_
  repeat refine rd ?_
  obtain rfl := h_out h
  exact ret_of (rv_cell 3 tt_ok (by kernel_rfl) ta_45 rfl rfl RV.nil) (le_w [true,false,false,false,false,false]) ⟨rfl,rfl⟩
 refine rb<|rd ?_
 apply r_iteh h<;>clear h<;>intro h
 ·refine rb<|st 2 tt_ok (en_Entry ({ (cellplanemake_none 16 tick3) with Kind := 14 })) (f1 ts_3) rfl<|rd<|rb<|ld 4 tt_ok (v := ii s2.High) ts_3 rfl<|kp [(6,pp bq2 0),(8,pp bq3 0),(9,pp bq4 0),(106,ii s2.High)] fun fr => ld 4 tt_ok (v := ii s2.Low) ts_3 rfl<|rd ?_
  apply r_iteh h<;>clear h<;>intro h
  ·refine st 2 tt_ok (en_Entry ({ (cellplanemake_none 16 tick3) with Kind := 15 })) (f1 ts_3) rfl<|rd<|rd<|rb<|ln 2 tt_ok (en_Entry ({ (cellplanemake_none 16 tick3) with Kind := 15 })) ta_45 rfl<|st 3 tt_ok (en_Entry ({ (cellplanemake_none 16 tick3) with Kind := 15 })) (fn ta_45) rfl<|rd ?_
   repeat refine rd ?_
   repeat refine rd ?_
   obtain rfl := h_out h
   exact ret_of (rv_cell 3 tt_ok (by kernel_rfl) ta_45 rfl rfl RV.nil) (le_w [true,false,false,false,false,false]) ⟨rfl,rfl⟩
  refine rd<|rd<|rb<|ln 2 tt_ok (en_Entry ({ (cellplanemake_none 16 tick3) with Kind := 14 })) ta_45 rfl<|st 3 tt_ok (en_Entry ({ (cellplanemake_none 16 tick3) with Kind := 14 })) (fn ta_45) rfl<|rd ?_
  repeat refine rd ?_
  repeat refine rd ?_
  obtain rfl := h_out h
  exact ret_of (rv_cell 3 tt_ok (by kernel_rfl) ta_45 rfl rfl RV.nil) (le_w [true,false,false,false,false,false]) ⟨rfl,rfl⟩
 replace h := h_b h; obtain ⟨⟨x49,x50⟩,hx48,h⟩ := h
 refine rc (hc_33 (bt0 := bt0) (g_t0 := g_t0) (t0 := { t0 with At := x13 }) (n1 := 100) (hS_t0 := by exact (le_d 5).trans hS_t0) (h_t0 :=h_t0) (h := hx48)) ?_
 rintro _ _ ⟨rfl,rfl⟩
 refine st 2 tt_ok (en_Entry ({ (cellplanemake_none 16 tick3) with N := x49 })) (f1 ts_3) rfl<|kr [(8,pp bq3 0),(9,pp bq4 0)] fun fr => rd<|rd<|rb<|ln 2 tt_ok (en_Entry ({ (cellplanemake_none 16 tick3) with N := x49 })) ta_45 rfl<|st 3 tt_ok (en_Entry ({ (cellplanemake_none 16 tick3) with N := x49 })) (fn ta_45) rfl<|rd ?_
 repeat refine rd ?_
 repeat refine rd ?_
 obtain rfl := h_out h
 exact ret_of (rv_cell 3 tt_ok (by kernel_rfl) ta_45 rfl rfl RV.nil) (le_w [true,false,false,false,false,false]) ⟨rfl,rfl⟩
theorem hc_125 {g_c0 : gConfig} {S_c0 : St} (hS_c0 : Le ⟨ρ,L⟩ S_c0) (c0 : Config) (cell1 : Int) (h_c0 : Sl_Config S_c0 c0 g_c0) {r : Int} (h : cellplaneref04_ZoneOf c0 cell1 = some r) : HC Tryz.prog 125 #[.agg (en_Config c0 g_c0).toArray,ii cell1] ⟨ρ,L⟩ (fun v S' => v = ii r ∧ S' = ⟨ρ,L⟩) := by
 replace h := h_in h
 refine HC.intro (N := 20) (args := [_,_]) tt_ok Tryz.func125 rfl (by decide +kernel) rfl (Nat.le_of_ble_eq_true rfl)<|rb<|r_bx (en_Config c0 g_c0) (by kernel_rfl) fun bq1 => rd<|rb<|rb<|r_meet (fun fr S => ∃ fr0,fr = updL [(1,ii cell1),(2,pp bq1 0),(13,.bool ((decide (cell1 < 0)) || (decide ((c0.Cells.length : Int) ≤ cell1))))] fr0 ∧ S = ⟨ρ,.obj bq1 (en_Config c0 g_c0) 30 :: L⟩) ?_ ?_
 ·refine r_ite (fun (hb2 : (decide (cell1 < 0)) = true) => ?_) (fun (hb2 : (decide (cell1 < 0)) = false) => ?_)
  ·exact kp [(1,ii cell1),(2,pp bq1 0),(7,.bool true),(8,undef)] fun fr => r_T rfl<|r_T rfl<|r_T rfl<|r_T rfl<|r_T rfl<|rd ⟨_,fr_eq _ (by (try rw [hb2]); kernel_rfl),by kernel_rfl⟩
  exact kp [(1,ii cell1),(2,pp bq1 0),(7,.bool false),(8,ii cell1)] fun fr => r_F rfl<|r_F rfl<|ld 0 tt_ok (v := .slice g_c0.Cells.1 c0.Cells.length g_c0.Cells.2) ts_26 rfl<|r_F rfl<|r_F rfl<|rd ⟨_,fr_eq _ (by (try rw [hb2]); kernel_rfl),by kernel_rfl⟩
 rintro fr S ⟨fr,rfl,rfl⟩
 refine rd ?_
 apply r_iteh h<;>clear h<;>intro h
 ·refine rb<|rd ?_
  repeat refine rd ?_
  repeat refine rd ?_
  obtain rfl := h_out h
  exact ret_of (RV.tmp RV.nil) (le_w [false]) ⟨rfl,rfl⟩
 refine rd<|rb<|ld 0 tt_ok (v := .slice g_c0.Cells.1 c0.Cells.length g_c0.Cells.2) ts_26 rfl ?_
 replace h := h_b h; obtain ⟨x4,hx5,h⟩ := h
 refine r_el hx5 ((h_c0.2.1).rd.mono ((le_d 1).trans hS_c0))<|r_lec (E := eCell) tt_ok (v := ii x4.Zone) (idx_get hx5) ((h_c0.2.1).rd.mono ((le_d 1).trans hS_c0)) ts_3 rfl (pl1 _ _ _) (by kernel_rfl)<|rd ?_
 repeat refine rd ?_
 repeat refine rd ?_
 obtain rfl := h_out h
 exact ret_of (RV.tmp RV.nil) (le_w [false]) ⟨rfl,rfl⟩
theorem hc_115 {g_c0 : gConfig} {S_c0 : St} (hS_c0 : Le ⟨ρ,L⟩ S_c0) (c0 : Config) (cell1 : Int) (h_c0 : Sl_Config S_c0 c0 g_c0) {r : Int} (h : cellplaneref04_RegionOf c0 cell1 = some r) : HC Tryz.prog 115 #[.agg (en_Config c0 g_c0).toArray,ii cell1] ⟨ρ,L⟩ (fun v S' => v = ii r ∧ S' = ⟨ρ,L⟩) := by
 replace h := h_in h
 refine HC.intro (N := 17) (args := [_,_]) tt_ok Tryz.func115 rfl (by decide +kernel) rfl (Nat.le_of_ble_eq_true rfl)<|rb<|r_bx (en_Config c0 g_c0) (by kernel_rfl) fun bq1 => rd<|rb<|ln 0 tt_ok (en_Config c0 g_c0) ta_30 rfl ?_
 replace h := h_b h; obtain ⟨x3,hx2,h⟩ := h
 refine rc (hc_125 (g_c0 := g_c0) (c0 := c0) (cell1 := cell1) (hS_c0 := by exact (le_d 1).trans hS_c0) (h_c0 :=h_c0) (h := hx2)) ?_
 rintro _ _ ⟨rfl,rfl⟩
 refine rd<|rb<|rb<|rd ?_
 apply r_iteh h<;>clear h<;>intro h
 ·refine rb<|kr [(4,ii (-1))] fun fr => rd ?_
  repeat refine rd ?_
  repeat refine rd ?_
  obtain rfl := h_out h
  exact ret_of (RV.tmp RV.nil) (le_w [false]) ⟨rfl,rfl⟩
 refine rd<|rb<|ld 0 tt_ok (v := .slice g_c0.Zones.1 c0.Zones.length g_c0.Zones.2) ts_25 rfl<|kp [(4,ii 0),(5,ii x3),(12,.slice g_c0.Zones.1 c0.Zones.length g_c0.Zones.2)] fun fr => ?_
 replace h := h_b h; obtain ⟨x5,hx6,h⟩ := h
 refine r_el hx6 ((h_c0.1).rd.mono ((le_d 1).trans hS_c0))<|r_lec (E := eZone) tt_ok (v := ii x5.Region) (idx_get hx6) ((h_c0.1).rd.mono ((le_d 1).trans hS_c0)) ts_3 rfl (pl1 _ _ _) (by kernel_rfl)<|rd ?_
 repeat refine rd ?_
 repeat refine rd ?_
 obtain rfl := h_out h
 exact ret_of (RV.tmp RV.nil) (le_w [false]) ⟨rfl,rfl⟩
theorem hc_86 {g_c0 : gConfig} {S_c0 : St} (hS_c0 : Le ⟨ρ,L⟩ S_c0) (c0 : Config) (tenant1 : Int) (cell2 : Int) (h_c0 : Sl_Config S_c0 c0 g_c0) {r : Bool} (h : cellplaneref05_May c0 tenant1 cell2 = some r) : HC Tryz.prog 86 #[.agg (en_Config c0 g_c0).toArray,ii tenant1,ii cell2] ⟨ρ,L⟩ (fun v S' => v = .bool r ∧ S' = ⟨ρ,L⟩) := by
 replace h := h_in h
 refine HC.intro (N := 28) (args := [_,_,_]) tt_ok Tryz.func86 rfl (by decide +kernel) rfl (Nat.le_of_ble_eq_true rfl)<|rb<|r_bx (en_Config c0 g_c0) (by kernel_rfl) fun bq1 => rd<|rb ?_
 replace h := h_j h; obtain ⟨K9,h,hK10⟩ := h
 refine r_meet (fun fr S => ∃ (x8 : Bool),∃ fr0,K9 x8 = some r ∧ fr = updL [(6,.bool x8)] fr0 ∧ S = ⟨ρ,L⟩) ?_ ?_
 refine r_mix tt_ok hm_ok _ _ [] (.pure 0 (.pure 1 (.pure 2 (.pure 3 (.pure 4 (.vb 5 (.pure 6 (.pure 7 (.pure 8 (.pure 9 (.pure 10 (.vb 11 (.pure 12 (.vb 13 (.pure 14 (.vb 15 (.vb 16 (.pure 17 (.eff 18 (.eff 19 (.pure 20 (.pure 21 .nil)))))))))))))))))))))) (le_w [true]) (le_w [true]) ?_ ?_
 ·decide +kernel
 refine x_p rfl<|vd<|x_p rfl<|vd<|x_p rfl<|vd<|x_p rfl ?_
 apply v_iteh h<;>clear h<;>intro h
 ·refine vd<|x_p rfl<|v_T rfl<|vd<|x_vb rfl<|v_T rfl<|vl 0 tt_ok (v := .slice g_c0.Tenants.1 c0.Tenants.length g_c0.Tenants.2) ts_27 rfl<|vd<|x_p rfl<|v_T rfl<|vd<|x_p rfl<|v_T rfl ?_
  refine vd<|xp [(1,ii tenant1),(2,ii cell2),(3,pp bq1 0),(6,.bool false),(9,.bool true),(14,.bool (decide (tenant1 < (c0.Tenants.length : Int))))] fun fr => x_p rfl<|vd<|x_p rfl<|vd<|x_p rfl ?_
  apply v_iteh h<;>clear h<;>intro h
  ·refine vd<|x_vb rfl<|v_T rfl<|vl 0 tt_ok (v := .slice g_c0.Tenants.1 c0.Tenants.length g_c0.Tenants.2) ts_27 rfl<|vd<|x_p rfl<|v_T rfl<|vd<|x_vb rfl<|v_T rfl ?_
   replace h := h_b h; obtain ⟨x4,hx5,h⟩ := h
   refine v_el hx5 ((h_c0.2.2.1).rd.mono ((le_d 1).trans hS_c0))<|vd<|x_p rfl<|v_T rfl<|vd<|x_vb rfl<|v_T rfl<|v_lec (E := eTenant) tt_ok (v := ii x4.Allowed) (idx_get hx5) ((h_c0.2.2.1).rd.mono ((le_d 1).trans hS_c0)) ts_3 rfl (pl1 _ _ _) (by kernel_rfl)<|vd<|x_vb rfl<|v_T rfl<|vn 0 tt_ok (en_Config c0 g_c0) ta_30 rfl<|vd ?_
   refine xp [(2,ii cell2),(6,.bool false),(16,.bool true),(22,ii x4.Allowed),(23,.agg (en_Config c0 g_c0).toArray)] fun fr => x_p rfl<|v_T rfl<|vd<|x_e rfl<|r_T rfl ?_
   replace h := h_b h; obtain ⟨x7,hx6,h⟩ := h
   refine rc (hc_115 (g_c0 := g_c0) (c0 := c0) (cell1 := cell2) (hS_c0 := by exact (le_d 1).trans hS_c0) (h_c0 :=h_c0) (h := hx6)) ?_
   rintro _ _ ⟨rfl,rfl⟩
   refine rd ⟨rfl,k_a (le_w [true]) (le_w [true]),?_⟩
   refine x_e rfl<|r_T rfl<|rc (hc_60 (set0 := x4.Allowed) (i1 := x7)) ?_
   rintro _ _ ⟨rfl,rfl⟩
   refine rd ⟨rfl,k_a (le_w [true]) (le_w [true]),?_⟩
   exact x_p rfl<|vd<|x_p rfl<|vd<|xk [(6,.bool (cellplaneref04_Has x4.Allowed x7))] fun fr => r_le (le_w [false])<|rd ⟨(cellplaneref04_Has x4.Allowed x7),_,h,fe _,by kernel_rfl⟩
  refine vd<|x_vb rfl<|v_F rfl<|vd<|x_p rfl<|v_F rfl<|vd<|x_vb rfl<|v_F rfl<|vd<|x_p rfl<|v_F rfl<|vd ?_
  refine x_vb rfl<|v_F rfl<|vd<|x_vb rfl<|v_F rfl<|vd<|xp [(2,ii cell2),(6,.bool false),(16,.bool false),(22,undef),(23,undef)] fun fr => x_p rfl<|v_F rfl<|vd<|x_e rfl<|r_F rfl<|rd ⟨rfl,k_a (le_w [true]) (le_w [true]),?_⟩
  refine x_e rfl<|r_F rfl<|rd ⟨rfl,k_a (le_w [true]) (le_w [true]),?_⟩
  exact x_p rfl<|v_F rfl<|vd<|x_p rfl<|vd<|xk [(6,.bool false)] fun fr => r_le (le_w [false])<|rd ⟨false,_,h,fe _,by kernel_rfl⟩
 refine vd<|x_p rfl<|v_F rfl<|vd<|x_vb rfl<|v_F rfl<|vd<|x_p rfl<|v_F rfl<|vd<|x_p rfl<|v_F rfl<|vd ?_
 refine xp [(1,ii tenant1),(2,ii cell2),(3,pp bq1 0),(6,.bool false),(9,.bool false),(14,undef)] fun fr => x_p rfl<|v_F rfl<|vd<|x_p rfl<|vd<|x_p rfl<|v_F rfl<|vd<|x_vb rfl<|v_F rfl<|vd<|x_p rfl ?_
 refine v_F rfl<|vd<|x_vb rfl<|v_F rfl<|vd<|x_p rfl<|v_F rfl<|vd<|x_vb rfl<|v_F rfl<|vd<|x_vb rfl<|v_F rfl ?_
 refine vd<|xp [(2,ii cell2),(6,.bool false),(16,.bool false),(22,undef),(23,undef)] fun fr => x_p rfl<|v_F rfl<|vd<|x_e rfl<|r_F rfl<|rd ⟨rfl,k_a (le_w [true]) (le_w [true]),?_⟩
 refine x_e rfl<|r_F rfl<|rd ⟨rfl,k_a (le_w [true]) (le_w [true]),?_⟩
 exact x_p rfl<|v_F rfl<|vd<|x_p rfl<|vd<|xk [(6,.bool false)] fun fr => r_le (le_w [false])<|rd ⟨false,_,h,fe _,by kernel_rfl⟩
 clear h
 rintro fr S ⟨x8,fr,h,rfl,rfl⟩
 replace h := hK10 _ h
 refine rd ?_
 repeat refine rd ?_
 repeat refine rd ?_
 obtain rfl := h_out h
 exact ret_of (RV.tmp RV.nil) (Le.refl _) ⟨rfl,rfl⟩
theorem hc_45 {g_c0 : gConfig} {S_c0 : St} (hS_c0 : Le ⟨ρ,L⟩ S_c0) (c0 : Config) (tenant1 : Int) (h_c0 : Sl_Config S_c0 c0 g_c0) {r : (List Int)} (h : cellplaneref05_Homes c0 tenant1 = some r) : HC Tryz.prog 45 #[.agg (en_Config c0 g_c0).toArray,ii tenant1] ⟨ρ,L⟩ (fun v S' => ∃ (Aq1_0 : Option Addr),∃ (cq1_0 : Nat),v = .slice Aq1_0 r.length cq1_0 ∧ S' = ⟨ρ,.row Aq1_0 r.length cq1_0 3 1 (fl eI64.en r) :: L⟩) := by
 replace h := h_in h
 refine HC.intro (N := 23) (args := [_,_]) tt_ok Tryz.func45 rfl (by decide +kernel) rfl (Nat.le_of_ble_eq_true rfl)<|rb<|r_bx (en_Config c0 g_c0) (by kernel_rfl) fun bq1 => rd<|rb<|rd<|rb<|rb<|rd<|rb ?_
 replace h := h_l h; obtain ⟨K48,n49,h,hK50⟩ := h
 refine r_le (le_nil 3 1)<|r_loop (fun n fr S => ∃ (xs33 : (List Int)),∃ (x37 : Int),∃ (A34 : Option Addr),∃ (c35 : Nat),∃ fr0,(runN (cellplaneref05_Homes.b1 c0 tenant1) n (xs33,x37)).bind K48 = some r ∧ fr = updL [(1,ii tenant1),(2,pp bq1 0),(5,.slice A34 xs33.length c35),(6,ii x37)] fr0 ∧ S = ⟨ρ,.row A34 xs33.length c35 3 1 (fl eI64.en xs33) :: .obj bq1 (en_Config c0 g_c0) 30 :: L⟩) n49 ⟨[],0,none,0,_,h,fe _,by kernel_rfl⟩ ?_
 clear h
 rintro n49 fr S ⟨xs33,x37,A34,c35,fr,h,rfl,rfl⟩
 replace h := h_r h; obtain ⟨m51,hm51,h⟩ := h
 refine rb<|rb<|ld 1 tt_ok (v := .slice g_c0.Cells.1 c0.Cells.length g_c0.Cells.2) ts_26 rfl<|rd ?_
 apply r_iteh h<;>clear h<;>intro h
 ·refine rd<|rb<|rb<|rb<|ln 1 tt_ok (en_Config c0 g_c0) ta_30 rfl ?_
  replace h := h_b h; obtain ⟨x40,hx39,h⟩ := h
  refine rc (hc_86 (g_c0 := g_c0) (c0 := c0) (tenant1 := tenant1) (cell2 := x37) (hS_c0 := by exact (le_d 2).trans hS_c0) (h_c0 :=h_c0) (h := hx39)) ?_
  rintro _ _ ⟨rfl,rfl⟩
  refine kr [(1,ii tenant1),(2,pp bq1 0),(5,.slice A34 xs33.length c35),(6,ii x37),(17,.bool x40)] fun fr => rd ?_
  apply r_iteh h<;>clear h<;>intro h
  ·refine r_bs tt_ok (fl eI64.en [x37]) te_22 ti_3 (by kernel_rfl) (by kernel_rfl) (by kernel_rfl) (by kernel_rfl) fun bq42 => ?_
   replace h := h_b h; obtain ⟨xs43,ha44,h⟩ := h
   refine r_app 1 (E := eI64) (xs := xs33) (ys := [x37]) tt_ok ha44 (rd_row 0 rfl) rfl te_22 ti_3 rfl (by kernel_rfl) rfl (fun A45 c46 => ?_)
   exact rd<|rd<|r_num (e' := w64 (x37 + 1)) rfl<|r_le (le_w [false,true,true])<|rd ⟨m51,lt_s hm51,xs43,w64 (x37 + 1),A45,c46,_,h,fe _,by kernel_rfl⟩
  exact rd<|rd<|r_num (e' := w64 (x37 + 1)) rfl<|rd ⟨m51,lt_s hm51,xs33,w64 (x37 + 1),A34,c35,_,h,fe _,by kernel_rfl⟩
 refine rd<|rd ?_
 replace h := h_m h
 subst hK50
 refine rd<|rb<|rd ?_
 repeat refine rd ?_
 repeat refine rd ?_
 obtain rfl := h_out h
 exact ret_of (RV.tmp RV.nil) (le_w [true,false]) ⟨A34,c35,rfl,rfl⟩
theorem hc_44 {bt0 : Nat} {g_t0 : gcellplanemake_Tape} {A_l1 : Option Addr} {c_l1 : Nat} {S_t0 : St} (hS_t0 : Le ⟨ρ,L⟩ S_t0) {S_l1 : St} (hS_l1 : Le ⟨ρ,L⟩ S_l1) (t0 : cellplanemake_Tape) (l1 : (List Int)) (h_t0 : Sl_cellplanemake_Tape S_t0 t0 g_t0) (h_l1 : Sl S_l1 A_l1 l1.length c_l1 (fl eI64.en l1)) {r : (Int × Int)} (h : cellplanemake_pick t0 l1 = some r) : HC Tryz.prog 44 #[pp bt0 0,.slice A_l1 l1.length c_l1] ⟨ρ,.obj bt0 (en_cellplanemake_Tape t0 g_t0) 94 :: L⟩ (fun v S' => v = ii r.1 ∧ S' = ⟨ρ,.obj bt0 (en_cellplanemake_Tape ({ t0 with At := r.2 }) g_t0) 94 :: L⟩) := by
 replace h := h_in h
 refine HC.intro (N := 15) (args := [_,_]) tt_ok Tryz.func44 rfl (by decide +kernel) rfl (Nat.le_of_ble_eq_true rfl)<|rb<|rd<|rb<|rb<|rd ?_
 apply r_iteh h<;>clear h<;>intro h
 ·refine rb<|rd ?_
  repeat refine rd ?_
  repeat refine rd ?_
  obtain rfl := h_out h
  exact ret_of (RV.tmp RV.nil) (Le.refl _) ⟨rfl,rfl⟩
 refine rd<|rb ?_
 replace h := h_b h; obtain ⟨⟨x3,x4⟩,hx2,h⟩ := h
 refine rc (hc_33 (bt0 := bt0) (g_t0 := g_t0) (t0 := t0) (n1 := (l1.length : Int)) (hS_t0 := by exact (le_d 0).trans hS_t0) (h_t0 :=h_t0) (h := hx2)) ?_
 rintro _ _ ⟨rfl,rfl⟩
 refine kp [(4,ii 0),(8,.slice A_l1 l1.length c_l1),(12,ii x3)] fun fr => ?_
 replace h := h_b h; obtain ⟨x5,hx6,h⟩ := h
 refine r_el hx6 ((h_l1).rd.mono ((le_d 1).trans hS_l1))<|r_lec (E := eI64) tt_ok (v := ii x5) (idx_get hx6) ((h_l1).rd.mono ((le_d 1).trans hS_l1)) ts_3 rfl (pl0 _ _) (by kernel_rfl)<|rd ?_
 repeat refine rd ?_
 repeat refine rd ?_
 obtain rfl := h_out h
 exact ret_of (RV.tmp RV.nil) (Le.refl _) ⟨rfl,rfl⟩
theorem hc_87 {g_c0 : gConfig} {S_c0 : St} (hS_c0 : Le ⟨ρ,L⟩ S_c0) (c0 : Config) (a1 : Int) (b2 : Int) (h_c0 : Sl_Config S_c0 c0 g_c0) {r : Bool} (h : cellplaneref05_Apart c0 a1 b2 = some r) : HC Tryz.prog 87 #[.agg (en_Config c0 g_c0).toArray,ii a1,ii b2] ⟨ρ,L⟩ (fun v S' => v = .bool r ∧ S' = ⟨ρ,L⟩) := by
 replace h := h_in h
 refine HC.intro (N := 26) (args := [_,_,_]) tt_ok Tryz.func87 rfl (by decide +kernel) rfl (Nat.le_of_ble_eq_true rfl)<|rb<|r_bx (en_Config c0 g_c0) (by kernel_rfl) fun bq1 => rd<|rb<|r_mix tt_ok hm_ok _ _ [] (.vb 0 (.pure 1 (.vb 3 (.pure 4 (.eff 2 (.eff 5 (.pure 6 (.pure 7 .nil)))))))) (le_w [true]) (le_w [true]) ?_ ?_
 ·decide +kernel
 refine x_vb rfl<|vn 0 tt_ok (en_Config c0 g_c0) ta_30 rfl<|vd<|x_p rfl<|vd<|x_vb rfl<|vn 0 tt_ok (en_Config c0 g_c0) ta_30 rfl<|vd<|x_p rfl<|vd<|x_e rfl ?_
 replace h := h_b h; obtain ⟨x3,hx2,h⟩ := h
 refine rc (hc_115 (g_c0 := g_c0) (c0 := c0) (cell1 := a1) (hS_c0 := by exact (le_d 1).trans hS_c0) (h_c0 :=h_c0) (h := hx2)) ?_
 rintro _ _ ⟨rfl,rfl⟩
 refine rd ⟨rfl,k_a (le_w [true]) (le_w [true]),?_⟩
 refine x_e rfl ?_
 replace h := h_b h; obtain ⟨x5,hx4,h⟩ := h
 refine rc (hc_115 (g_c0 := g_c0) (c0 := c0) (cell1 := b2) (hS_c0 := by exact (le_d 1).trans hS_c0) (h_c0 :=h_c0) (h := hx4)) ?_
 rintro _ _ ⟨rfl,rfl⟩
 refine rd ⟨rfl,k_a (le_w [true]) (le_w [true]),?_⟩
 refine x_p rfl<|vd<|xp [(7,ii x3),(14,ii x5)] fun fr => x_p rfl<|vd<|xk [(7,ii x3),(8,ii x5)] fun fr => rd<|rb<|r_meet (fun fr S => ∃ fr0,fr = updL [(6,.bool ((decide (0 ≤ x3)) && ((decide (0 ≤ x5)) && (!decide (x3 = x5)))))] fr0 ∧ S = ⟨ρ,.obj bq1 (en_Config c0 g_c0) 30 :: L⟩) ?_ ?_
 ·refine r_ite (fun (hb6 : (decide (0 ≤ x3)) = true) => ?_) (fun (hb6 : (decide (0 ≤ x3)) = false) => ?_)
  ·refine r_T rfl<|kp [(7,ii x3),(8,ii x5),(17,.bool true),(19,.bool (decide (0 ≤ x5)))] fun fr => r_ite (fun (hb7 : (decide (0 ≤ x5)) = true) => ?_) (fun (hb7 : (decide (0 ≤ x5)) = false) => ?_)
   ·exact r_T rfl<|r_T rfl<|rd ⟨_,fr_eq _ (by (try rw [hb7]); (try rw [hb6]); kernel_rfl),by kernel_rfl⟩
   exact r_F rfl<|r_F rfl<|r_F rfl<|rd ⟨_,fr_eq _ (by (try rw [hb7]); (try rw [hb6]); kernel_rfl),by kernel_rfl⟩
  exact r_F rfl<|kp [(7,ii x3),(8,ii x5),(17,.bool false),(19,undef)] fun fr => r_F rfl<|r_F rfl<|r_F rfl<|r_F rfl<|r_F rfl<|rd ⟨_,fr_eq _ (by (try rw [hb6]); kernel_rfl),by kernel_rfl⟩
 rintro fr S ⟨fr,rfl,rfl⟩
 refine rd ?_
 repeat refine rd ?_
 repeat refine rd ?_
 obtain rfl := h_out h
 exact ret_of (RV.tmp RV.nil) (le_w [false]) ⟨rfl,rfl⟩
theorem hc_46 {g_c0 : gConfig} {S_c0 : St} (hS_c0 : Le ⟨ρ,L⟩ S_c0) (c0 : Config) (tenant1 : Int) (home2 : Int) (h_c0 : Sl_Config S_c0 c0 g_c0) {r : (List Int)} (h : cellplaneref05_Standbys c0 tenant1 home2 = some r) : HC Tryz.prog 46 #[.agg (en_Config c0 g_c0).toArray,ii tenant1,ii home2] ⟨ρ,L⟩ (fun v S' => ∃ (Aq1_0 : Option Addr),∃ (cq1_0 : Nat),v = .slice Aq1_0 r.length cq1_0 ∧ S' = ⟨ρ,.row Aq1_0 r.length cq1_0 3 1 (fl eI64.en r) :: L⟩) := by
 replace h := h_in h
 refine HC.intro (N := 31) (args := [_,_,_]) tt_ok Tryz.func46 rfl (by decide +kernel) rfl (Nat.le_of_ble_eq_true rfl)<|rb<|r_bx (en_Config c0 g_c0) (by kernel_rfl) fun bq1 => rd<|rb<|rd<|rb<|rb<|rd<|rb ?_
 replace h := h_l h; obtain ⟨K66,n67,h,hK68⟩ := h
 refine r_le (le_nil 3 1)<|r_loop (fun n fr S => ∃ (xs45 : (List Int)),∃ (x49 : Int),∃ (A46 : Option Addr),∃ (c47 : Nat),∃ fr0,(runN (cellplaneref05_Standbys.b1 c0 tenant1 home2) n (xs45,x49)).bind K66 = some r ∧ fr = updL [(1,ii tenant1),(2,ii home2),(3,pp bq1 0),(7,.slice A46 xs45.length c47),(8,ii x49)] fr0 ∧ S = ⟨ρ,.row A46 xs45.length c47 3 1 (fl eI64.en xs45) :: .obj bq1 (en_Config c0 g_c0) 30 :: L⟩) n67 ⟨[],0,none,0,_,h,fe _,by kernel_rfl⟩ ?_
 clear h
 rintro n67 fr S ⟨xs45,x49,A46,c47,fr,h,rfl,rfl⟩
 replace h := h_r h; obtain ⟨m69,hm69,h⟩ := h
 refine rb<|rb<|ld 1 tt_ok (v := .slice g_c0.Cells.1 c0.Cells.length g_c0.Cells.2) ts_26 rfl<|rd ?_
 apply r_iteh h<;>clear h<;>intro h
 ·refine rd<|rb<|rb<|rb ?_
  replace h := h_j h; obtain ⟨K57,h,hK58⟩ := h
  refine r_meet (fun fr S => ∃ (x56 : Bool),∃ fr0,K57 x56 = some r ∧ fr = updL [(1,ii tenant1),(2,ii home2),(3,pp bq1 0),(7,.slice A46 xs45.length c47),(8,ii x49),(25,.bool x56)] fr0 ∧ S = ⟨ρ,.row A46 xs45.length c47 3 1 (fl eI64.en xs45) :: .obj bq1 (en_Config c0 g_c0) 30 :: L⟩) ?_ ?_
  ·refine ln 1 tt_ok (en_Config c0 g_c0) ta_30 rfl<|kp [(1,ii tenant1),(2,ii home2),(3,pp bq1 0),(7,.slice A46 xs45.length c47),(8,ii x49),(16,.agg (en_Config c0 g_c0).toArray)] fun fr => ?_
   replace h := h_b h; obtain ⟨x52,hx51,h⟩ := h
   refine rc (hc_86 (g_c0 := g_c0) (c0 := c0) (tenant1 := tenant1) (cell2 := x49) (hS_c0 := by exact (le_d 2).trans hS_c0) (h_c0 :=h_c0) (h := hx51)) ?_
   rintro _ _ ⟨rfl,rfl⟩
   apply r_iteh h<;>clear h<;>intro h
   ·refine ln 1 tt_ok (en_Config c0 g_c0) ta_30 rfl<|r_T rfl<|r_T rfl<|r_T rfl ?_
    replace h := h_b h; obtain ⟨x55,hx54,h⟩ := h
    refine rc (hc_87 (g_c0 := g_c0) (c0 := c0) (a1 := home2) (b2 := x49) (hS_c0 := by exact (le_d 2).trans hS_c0) (h_c0 :=h_c0) (h := hx54)) ?_
    rintro _ _ ⟨rfl,rfl⟩
    exact kr [(1,ii tenant1),(2,ii home2),(3,pp bq1 0),(7,.slice A46 xs45.length c47),(8,ii x49),(21,.agg (en_Config c0 g_c0).toArray),(22,ii home2),(23,ii x49),(24,.bool x55),(25,.bool x55)] fun fr => rd ⟨x55,_,h,fe _,by kernel_rfl⟩
   exact r_F rfl<|r_F rfl<|r_F rfl<|r_F rfl<|kr [(1,ii tenant1),(2,ii home2),(3,pp bq1 0),(7,.slice A46 xs45.length c47),(8,ii x49),(25,.bool false)] fun fr => rd ⟨false,_,h,fe _,by kernel_rfl⟩
  clear h
  rintro fr S ⟨x56,fr,h,rfl,rfl⟩
  replace h := hK58 _ h
  refine rd ?_
  apply r_iteh h<;>clear h<;>intro h
  ·refine r_bs tt_ok (fl eI64.en [x49]) te_22 ti_3 (by kernel_rfl) (by kernel_rfl) (by kernel_rfl) (by kernel_rfl) fun bq60 => ?_
   replace h := h_b h; obtain ⟨xs61,ha62,h⟩ := h
   refine r_app 1 (E := eI64) (xs := xs45) (ys := [x49]) tt_ok ha62 (rd_row 0 rfl) rfl te_22 ti_3 rfl (by kernel_rfl) rfl (fun A63 c64 => ?_)
   exact rd<|rd<|r_num (e' := w64 (x49 + 1)) rfl<|r_le (le_w [false,true,true])<|rd ⟨m69,lt_s hm69,xs61,w64 (x49 + 1),A63,c64,_,h,fe _,by kernel_rfl⟩
  exact rd<|rd<|r_num (e' := w64 (x49 + 1)) rfl<|rd ⟨m69,lt_s hm69,xs45,w64 (x49 + 1),A46,c47,_,h,fe _,by kernel_rfl⟩
 refine rd<|rd ?_
 replace h := h_m h
 subst hK68
 refine rd<|rb<|rd ?_
 repeat refine rd ?_
 repeat refine rd ?_
 obtain rfl := h_out h
 exact ret_of (RV.tmp RV.nil) (le_w [true,false]) ⟨A46,c47,rfl,rfl⟩
end Go.Proofs.YtcdoangbkgaapaaGreatK
