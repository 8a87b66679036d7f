/- The code of 35 functions computes what it is to. No condition. -/
import Derived.Test.YtcdoangbkgaapaaGreatE
set_option linter.unusedVariables false
set_option maxHeartbeats 4000000
namespace Go.Proofs.YtcdoangbkgaapaaGreatK
open Go Go.RowKit
variable {ρ : Addr → Option Value} {L : List Ent}
theorem hc_9 {A_l0 : Option Addr} {c_l0 : Nat} {S_l0 : St} (hS_l0 : Le ⟨ρ,L⟩ S_l0) (l0 : (List Int)) (h_l0 : Sl S_l0 A_l0 l0.length c_l0 (fl eI64.en l0))  : HC Tryz.prog 9 #[.slice A_l0 l0.length c_l0] ⟨ρ,L⟩ (fun v S' => v = .bool (cellplanemake_Light l0) ∧ S' = ⟨ρ,L⟩) := by
 generalize h : cellplanemake_Light l0 = r
 unfold cellplanemake_Light at h
 refine HC.intro (N := 6) (args := [_]) tt_ok Tryz.func9 rfl (by decide +kernel) rfl (Nat.le_of_ble_eq_true rfl)<|rb<|rd<|rb<|rd ?_
 repeat refine rd ?_
 repeat refine rd ?_
 subst h
 exact ret_of (RV.tmp RV.nil) (Le.refl _) ⟨rfl,rfl⟩
theorem hc_32      : HC Tryz.prog 32 #[] ⟨ρ,L⟩ (fun v S' => ∃ (Aq1_0 : Option Addr),∃ (cq1_0 : Nat),∃ (Aq1_1 : Option Addr),∃ (cq1_1 : Nat),∃ (Aq1_2 : Option Addr),∃ (cq1_2 : Nat),∃ (Aq1_3 : Option Addr),∃ (cq1_3 : Nat),∃ (Aq1_4 : Option Addr),∃ (cq1_4 : Nat),∃ (Aq1_5 : Option Addr),∃ (cq1_5 : Nat),v = .agg (en_Config cellplanelaw12_two (⟨(Aq1_0,cq1_0),(Aq1_1,cq1_1),(Aq1_2,cq1_2),(Aq1_3,cq1_3),(Aq1_4,cq1_4),(Aq1_5,cq1_5)⟩)).toArray ∧ S' = ⟨ρ,.row Aq1_0 cellplanelaw12_two.Zones.length cq1_0 72 1 (fl eZone.en cellplanelaw12_two.Zones) :: .row Aq1_1 cellplanelaw12_two.Cells.length cq1_1 74 2 (fl eCell.en cellplanelaw12_two.Cells) :: .row Aq1_2 cellplanelaw12_two.Tenants.length cq1_2 77 7 (fl eTenant.en cellplanelaw12_two.Tenants) :: .row Aq1_3 cellplanelaw12_two.Versions.length cq1_3 79 2 (fl eVersion.en cellplanelaw12_two.Versions) :: .row Aq1_4 cellplanelaw12_two.Replicas.length cq1_4 3 1 (fl eI64.en cellplanelaw12_two.Replicas) :: .row Aq1_5 cellplanelaw12_two.Observers.length cq1_5 3 1 (fl eI64.en cellplanelaw12_two.Observers) :: L⟩) := by
 generalize h : cellplanelaw12_two = r
 unfold cellplanelaw12_two at h
 refine HC.intro (N := 14) (args := []) tt_ok Tryz.func32 rfl (by decide +kernel) rfl (Nat.le_of_ble_eq_true rfl)<|rb<|r_al tt_ok (en_Config (⟨0,[],[],[],[],[],[],0,0,0⟩ : Config) (⟨(none,0),(none,0),(none,0),(none,0),(none,0),(none,0)⟩)) ti_30 (by kernel_rfl) fun bq1 => rd<|rb<|r_bd tt_ok (en_Zone (⟨0⟩ : Zone)) ti_72 tp_72 (by kernel_rfl)<|r_bd tt_ok (en_Zone (⟨1⟩ : Zone)) ti_72 tp_72 (by kernel_rfl)<|r_bs tt_ok (fl eZone.en [(⟨0⟩ : Zone),(⟨1⟩ : Zone)]) te_25 ti_72 (by kernel_rfl) (by kernel_rfl) (by kernel_rfl) (by kernel_rfl) fun bq2 => r_bd tt_ok (en_Cell (⟨0,9⟩ : Cell)) ti_74 tp_74 (by kernel_rfl)<|r_bd tt_ok (en_Cell (⟨1,9⟩ : Cell)) ti_74 tp_74 (by kernel_rfl)<|r_bs tt_ok (fl eCell.en [(⟨0,9⟩ : Cell),(⟨1,9⟩ : Cell)]) te_26 ti_74 (by kernel_rfl) (by kernel_rfl) (by kernel_rfl) (by kernel_rfl) fun bq3 => r_bd tt_ok (en_Tenant (⟨5,2,0,0,3,0,false⟩ : Tenant)) ti_77 tp_77 (by kernel_rfl)<|r_bs tt_ok (fl eTenant.en [(⟨5,2,0,0,3,0,false⟩ : Tenant)]) te_27 ti_77 (by kernel_rfl) (by kernel_rfl) (by kernel_rfl) (by kernel_rfl) fun bq4 => ?_
 refine kp [(0,pp bq1 0),(3,.slice (some ⟨bq2,0,none⟩) [(⟨0⟩ : Zone),(⟨1⟩ : Zone)].length 2),(6,.slice (some ⟨bq3,0,none⟩) [(⟨0,9⟩ : Cell),(⟨1,9⟩ : Cell)].length 2),(8,.slice (some ⟨bq4,0,none⟩) [(⟨5,2,0,0,3,0,false⟩ : Tenant)].length 1)] fun fr => r_bd tt_ok (en_Version (⟨0,0⟩ : Version)) ti_79 tp_79 (by kernel_rfl)<|r_bs tt_ok (fl eVersion.en [(⟨0,0⟩ : Version)]) te_28 ti_79 (by kernel_rfl) (by kernel_rfl) (by kernel_rfl) (by kernel_rfl) fun bq5 => r_bs tt_ok (fl eI64.en [0]) te_22 ti_3 (by kernel_rfl) (by kernel_rfl) (by kernel_rfl) (by kernel_rfl) fun bq6 => r_bs tt_ok (fl eI64.en [0]) te_22 ti_3 (by kernel_rfl) (by kernel_rfl) (by kernel_rfl) (by kernel_rfl) fun bq7 => r_bd tt_ok (en_Config (⟨2,[(⟨0⟩ : Zone),(⟨1⟩ : Zone)],[(⟨0,9⟩ : Cell),(⟨1,9⟩ : Cell)],[(⟨5,2,0,0,3,0,false⟩ : Tenant)],[(⟨0,0⟩ : Version)],[0],[0],1,20,0⟩ : Config) (⟨((some ⟨bq2,0,none⟩),2),((some ⟨bq3,0,none⟩),2),((some ⟨bq4,0,none⟩),1),((some ⟨bq5,0,none⟩),1),((some ⟨bq6,0,none⟩),1),((some ⟨bq7,0,none⟩),1)⟩)) ti_30 tp_30 (by kernel_rfl)<|st 6 tt_ok (en_Config (⟨2,[(⟨0⟩ : Zone),(⟨1⟩ : Zone)],[(⟨0,9⟩ : Cell),(⟨1,9⟩ : Cell)],[(⟨5,2,0,0,3,0,false⟩ : Tenant)],[(⟨0,0⟩ : Version)],[0],[0],1,20,0⟩ : Config) (⟨((some ⟨bq2,0,none⟩),2),((some ⟨bq3,0,none⟩),2),((some ⟨bq4,0,none⟩),1),((some ⟨bq5,0,none⟩),1),((some ⟨bq6,0,none⟩),1),((some ⟨bq7,0,none⟩),1)⟩)) (fn ta_30) rfl<|rd ?_
 repeat refine rd ?_
 repeat refine rd ?_
 subst h
 exact ret_of (rv_cell 6 tt_ok (by kernel_rfl) ta_30 rfl rfl RV.nil) ((le_mv 1).trans ((le_mv 2).trans ((le_mv 3).trans ((le_mv 4).trans ((le_mv 5).trans (le_w [true,true,true,true,true,true,false])))))) ⟨(some ⟨bq2,0,none⟩),2,(some ⟨bq3,0,none⟩),2,(some ⟨bq4,0,none⟩),1,(some ⟨bq5,0,none⟩),1,(some ⟨bq6,0,none⟩),1,(some ⟨bq7,0,none⟩),1,rfl,rfl⟩
theorem hc_38 {g_c0 : gConfig} {S_c0 : St} (hS_c0 : Le ⟨ρ,L⟩ S_c0) (c0 : Config) (h_c0 : Sl_Config S_c0 c0 g_c0) {r : State} (h : state_New c0 = some r) : HC Tryz.prog 38 #[.agg (en_Config c0 g_c0).toArray] ⟨ρ,L⟩ (fun v S' => ∃ (Aq1_0 : Option Addr),∃ (cq1_0 : Nat),∃ (Aq1_1 : Option Addr),∃ (cq1_1 : Nat),v = .agg (en_State r (⟨(Aq1_0,cq1_0),(Aq1_1,cq1_1)⟩)).toArray ∧ S' = ⟨ρ,.row Aq1_0 r.Tenants.length cq1_0 58 12 (fl eTenantState.en r.Tenants) :: .row Aq1_1 r.Cells.length cq1_1 54 4 (fl eCellState.en r.Cells) :: L⟩) := by
 replace h := h_in h
 refine HC.intro (N := 31) (args := [_]) tt_ok Tryz.func38 rfl (by decide +kernel) rfl (Nat.le_of_ble_eq_true rfl)<|rb<|r_bx (en_Config c0 g_c0) (by kernel_rfl) fun bq1 => r_al tt_ok (en_State (⟨0,0,[],[],0,0,0,0⟩ : State) (⟨(none,0),(none,0)⟩)) ti_38 (by kernel_rfl) fun bq2 => rd<|rb<|r_bd tt_ok (en_State (⟨0,0,[],[],1,0,0,0⟩ : State) (⟨(none,0),(none,0)⟩)) ti_38 tp_38 (by kernel_rfl)<|r_al tt_ok (en_State (⟨0,0,[],[],0,0,0,0⟩ : State) (⟨(none,0),(none,0)⟩)) ti_38 (by kernel_rfl) fun bq3 => st 0 tt_ok (en_State (⟨0,0,[],[],1,0,0,0⟩ : State) (⟨(none,0),(none,0)⟩)) (fn ta_38) rfl<|rd<|rb ?_
 replace h := h_j h; obtain ⟨K49,h,hK50⟩ := h
 refine r_meet (fun fr S => ∃ (xs45 : (List TenantState)),∃ (A46 : Option Addr),∃ (c47 : Nat),∃ fr0,K49 xs45 = some r ∧ fr = updL [(1,pp bq1 0),(2,pp bq2 0),(3,pp bq3 0)] fr0 ∧ S = ⟨ρ,.row A46 xs45.length c47 58 12 (fl eTenantState.en xs45) :: .obj bq3 (en_State (⟨0,0,xs45,[],1,0,0,0⟩ : State) (⟨(A46,c47),(none,0)⟩)) 38 :: .obj bq2 (en_State (⟨0,0,[],[],0,0,0,0⟩ : State) (⟨(none,0),(none,0)⟩)) 38 :: .obj bq1 (en_Config c0 g_c0) 30 :: L⟩) ?_ ?_
 ·refine rb<|ld 2 tt_ok (v := .slice g_c0.Tenants.1 c0.Tenants.length g_c0.Tenants.2) ts_27 rfl<|rd<|rb ?_
  replace h := h_l h; obtain ⟨K41,n42,h,hK43⟩ := h
  refine r_le (le_nil 58 12)<|r_loop (fun n fr S => ∃ (x29 : Int),∃ (xs30 : (List TenantState)),∃ (A31 : Option Addr),∃ (c32 : Nat),∃ fr0,(runN (state_New.b2 c0) n (x29,xs30)).bind K41 = some r ∧ fr = updL [(1,pp bq1 0),(2,pp bq2 0),(3,pp bq3 0),(7,ii (c0.Tenants.length : Int)),(8,ii x29)] fr0 ∧ S = ⟨ρ,.row A31 xs30.length c32 58 12 (fl eTenantState.en xs30) :: .obj bq3 (en_State (⟨0,0,xs30,[],1,0,0,0⟩ : State) (⟨(A31,c32),(none,0)⟩)) 38 :: .obj bq2 (en_State (⟨0,0,[],[],0,0,0,0⟩ : State) (⟨(none,0),(none,0)⟩)) 38 :: .obj bq1 (en_Config c0 g_c0) 30 :: L⟩) n42 ⟨0,[],none,0,_,h,fe _,by kernel_rfl⟩ ?_
  clear h
  rintro n42 fr S ⟨x29,xs30,A31,c32,fr,h,rfl,rfl⟩
  replace h := h_r h; obtain ⟨m44,hm44,h⟩ := h
  refine rb<|rd<|rb ?_
  apply r_iteh h<;>clear h<;>intro h
  ·refine rd<|rb<|rb<|ld 1 tt_ok (v := .slice A31 xs30.length c32) ts_35 rfl<|r_bd tt_ok (en_Window (⟨(-1),0,0,0,0⟩ : Window)) ti_56 tp_56 (by kernel_rfl)<|r_bd tt_ok (en_TenantState (⟨false,false,(-1),(-1),(-1),(-1),0,(⟨(-1),0,0,0,0⟩ : Window)⟩ : TenantState)) ti_58 tp_58 (by kernel_rfl)<|r_bs tt_ok (fl eTenantState.en [(⟨false,false,(-1),(-1),(-1),(-1),0,(⟨(-1),0,0,0,0⟩ : Window)⟩ : TenantState)]) te_35 ti_58 (by kernel_rfl) (by kernel_rfl) (by kernel_rfl) (by kernel_rfl) fun bq35 => ?_
   replace h := h_b h; obtain ⟨xs36,ha37,h⟩ := h
   refine r_app 1 (E := eTenantState) (xs := xs30) (ys := [(⟨false,false,(-1),(-1),(-1),(-1),0,(⟨(-1),0,0,0,0⟩ : Window)⟩ : TenantState)]) tt_ok ha37 (rd_row 0 rfl) rfl te_35 ti_58 rfl (by kernel_rfl) rfl (fun A38 c39 => ?_)
   exact st 2 tt_ok (en_State (⟨0,0,xs36,[],1,0,0,0⟩ : State) (⟨(A38,c39),(none,0)⟩)) (f1 ts_35) rfl<|kr [(1,pp bq1 0),(2,pp bq2 0),(3,pp bq3 0),(7,ii (c0.Tenants.length : Int)),(8,ii x29)] fun fr => rd<|rd<|r_num (e' := w64 (x29 + 1)) rfl<|r_le (le_w [false,true,true,true,true])<|rd ⟨m44,lt_s hm44,w64 (x29 + 1),xs36,A38,c39,_,h,fe _,by kernel_rfl⟩
  refine rd<|rd ?_
  replace h := h_m h
  subst hK43
  exact rd ⟨xs30,A31,c32,_,h,fe _,by kernel_rfl⟩
 clear h
 rintro fr S ⟨xs45,A46,c47,fr,h,rfl,rfl⟩
 replace h := hK50 _ h
 refine rd<|rb<|rb<|ld 3 tt_ok (v := .slice g_c0.Cells.1 c0.Cells.length g_c0.Cells.2) ts_26 rfl<|rd<|rb ?_
 replace h := h_l h; obtain ⟨K88,n89,h,hK90⟩ := h
 refine r_le ((le_nil 54 4).trans (le_w [true,true,true,true,false]))<|r_loop (fun n fr S => ∃ (x76 : Int),∃ (xs77 : (List CellState)),∃ (A78 : Option Addr),∃ (c79 : Nat),∃ fr0,(runN (state_New.b3 c0 xs45) n (x76,xs77)).bind K88 = some r ∧ fr = updL [(2,pp bq2 0),(3,pp bq3 0),(20,ii (c0.Cells.length : Int)),(21,ii x76)] fr0 ∧ S = ⟨ρ,.row A78 xs77.length c79 54 4 (fl eCellState.en xs77) :: .row A46 xs45.length c47 58 12 (fl eTenantState.en xs45) :: .obj bq3 (en_State (⟨0,0,xs45,xs77,1,0,0,0⟩ : State) (⟨(A46,c47),(A78,c79)⟩)) 38 :: .obj bq2 (en_State (⟨0,0,[],[],0,0,0,0⟩ : State) (⟨(none,0),(none,0)⟩)) 38 :: L⟩) n89 ⟨0,[],none,0,_,h,fe _,by kernel_rfl⟩ ?_
 clear h
 rintro n89 fr S ⟨x76,xs77,A78,c79,fr,h,rfl,rfl⟩
 replace h := h_r h; obtain ⟨m91,hm91,h⟩ := h
 refine rb<|rd<|rb ?_
 apply r_iteh h<;>clear h<;>intro h
 ·refine rd<|rb<|rb<|ld 2 tt_ok (v := .slice A78 xs77.length c79) ts_36 rfl<|r_bd tt_ok (en_CellState (⟨1,0,0,0⟩ : CellState)) ti_54 tp_54 (by kernel_rfl)<|r_bs tt_ok (fl eCellState.en [(⟨1,0,0,0⟩ : CellState)]) te_36 ti_54 (by kernel_rfl) (by kernel_rfl) (by kernel_rfl) (by kernel_rfl) fun bq82 => ?_
  replace h := h_b h; obtain ⟨xs83,ha84,h⟩ := h
  refine r_app 1 (E := eCellState) (xs := xs77) (ys := [(⟨1,0,0,0⟩ : CellState)]) tt_ok ha84 (rd_row 0 rfl) rfl te_36 ti_54 rfl (by kernel_rfl) rfl (fun A85 c86 => ?_)
  exact st 3 tt_ok (en_State (⟨0,0,xs45,xs83,1,0,0,0⟩ : State) (⟨(A46,c47),(A85,c86)⟩)) (f1 ts_36) rfl<|rd<|rd<|r_num (e' := w64 (x76 + 1)) rfl<|kp [(2,pp bq2 0),(3,pp bq3 0),(20,ii (c0.Cells.length : Int)),(21,ii x76),(29,ii (w64 (x76 + 1)))] fun fr => r_le (le_w [false,true,true,true,true])<|rd ⟨m91,lt_s hm91,w64 (x76 + 1),xs83,A85,c86,_,h,fe _,by kernel_rfl⟩
 refine rd<|rd ?_
 replace h := h_m h
 subst hK90
 refine rd<|rb<|ln 2 tt_ok (en_State (⟨0,0,xs45,xs77,1,0,0,0⟩ : State) (⟨(A46,c47),(A78,c79)⟩)) ta_38 rfl<|st 3 tt_ok (en_State (⟨0,0,xs45,xs77,1,0,0,0⟩ : State) (⟨(A46,c47),(A78,c79)⟩)) (fn ta_38) rfl<|rd ?_
 repeat refine rd ?_
 repeat refine rd ?_
 obtain rfl := h_out h
 exact ret_of (rv_cell 3 tt_ok (by kernel_rfl) ta_38 rfl rfl RV.nil) ((le_mv 1).trans (le_w [true,true,false,false])) ⟨A46,c47,A78,c79,rfl,rfl⟩
theorem hc_98   (n0 : Int) (low1 : Int) (high2 : Int)   : HC Tryz.prog 98 #[ii n0,ii low1,ii high2] ⟨ρ,L⟩ (fun v S' => v = .bool (entry_between n0 low1 high2) ∧ S' = ⟨ρ,L⟩) := by
 generalize h : entry_between n0 low1 high2 = r
 unfold entry_between at h
 refine HC.intro (N := 15) (args := [_,_,_]) tt_ok Tryz.func98 rfl (by decide +kernel) rfl (Nat.le_of_ble_eq_true rfl)<|rb<|rd<|rb<|r_meet (fun fr S => ∃ fr0,fr = updL [(6,.bool ((decide (low1 ≤ n0)) && (decide (n0 ≤ high2))))] fr0 ∧ S = ⟨ρ,L⟩) ?_ ?_
 ·refine r_ite (fun (hb1 : (decide (low1 ≤ n0)) = true) => ?_) (fun (hb1 : (decide (low1 ≤ n0)) = false) => ?_)
  ·exact kp [(2,ii high2),(6,.bool false),(10,.bool true),(11,ii n0)] fun fr => r_T rfl<|r_T rfl<|rd ⟨_,fr_eq _ (by (try rw [hb1]); kernel_rfl),by kernel_rfl⟩
  exact kp [(2,ii high2),(6,.bool false),(10,.bool false),(11,undef)] fun fr => r_F rfl<|r_F rfl<|r_F rfl<|rd ⟨_,fr_eq _ (by (try rw [hb1]); kernel_rfl),by kernel_rfl⟩
 rintro fr S ⟨fr,rfl,rfl⟩
 refine rd ?_
 repeat refine rd ?_
 repeat refine rd ?_
 subst h
 exact ret_of (RV.tmp RV.nil) (Le.refl _) ⟨rfl,rfl⟩
theorem hc_100   (n0 : Int) (size1 : Int)   : HC Tryz.prog 100 #[ii n0,ii size1] ⟨ρ,L⟩ (fun v S' => v = .bool (entry_index n0 size1) ∧ S' = ⟨ρ,L⟩) := by
 generalize h : entry_index n0 size1 = r
 unfold entry_index at h
 refine HC.intro (N := 12) (args := [_,_]) tt_ok Tryz.func100 rfl (by decide +kernel) rfl (Nat.le_of_ble_eq_true rfl)<|rb<|rd<|rb<|r_meet (fun fr S => ∃ fr0,fr = updL [(4,.bool ((decide (0 ≤ n0)) && (decide (n0 < size1))))] fr0 ∧ S = ⟨ρ,L⟩) ?_ ?_
 ·refine r_ite (fun (hb1 : (decide (0 ≤ n0)) = true) => ?_) (fun (hb1 : (decide (0 ≤ n0)) = false) => ?_)
  ·exact kp [(1,ii size1),(4,.bool false),(7,.bool true),(8,ii n0)] fun fr => r_T rfl<|r_T rfl<|rd ⟨_,fr_eq _ (by (try rw [hb1]); kernel_rfl),by kernel_rfl⟩
  exact kp [(1,ii size1),(4,.bool false),(7,.bool false),(8,undef)] fun fr => r_F rfl<|r_F rfl<|r_F rfl<|rd ⟨_,fr_eq _ (by (try rw [hb1]); kernel_rfl),by kernel_rfl⟩
 rintro fr S ⟨fr,rfl,rfl⟩
 refine rd ?_
 repeat refine rd ?_
 repeat refine rd ?_
 subst h
 exact ret_of (RV.tmp RV.nil) (Le.refl _) ⟨rfl,rfl⟩
theorem hc_68   (e0 : Entry) (z1 : entry_sizes)  {r : Bool} (h : entry_fits e0 z1 = some r) : HC Tryz.prog 68 #[.agg (en_Entry e0).toArray,.agg (en_entry_sizes z1).toArray] ⟨ρ,L⟩ (fun v S' => v = .bool r ∧ S' = ⟨ρ,L⟩) := by
 replace h := h_in h
 refine HC.intro (N := 179) (args := [_,_]) tt_ok Tryz.func68 rfl (by decide +kernel) rfl (Nat.le_of_ble_eq_true rfl)<|rb<|r_bx (en_Entry e0) (by kernel_rfl) fun bq1 => r_bx (en_entry_sizes z1) (by kernel_rfl) fun bq2 => rd<|rb<|ld 1 tt_ok (v := ii e0.Kind) ts_3 rfl<|ld 1 tt_ok (v := ii e0.Tick) ts_3 rfl<|r_bd tt_ok (en_Entry (⟨e0.Kind,e0.Tick,(-1),(-1),(-1),0,0,0,0⟩ : Entry)) ti_45 tp_45 (by kernel_rfl)<|r_al tt_ok (en_Entry (⟨0,0,0,0,0,0,0,0,0⟩ : Entry)) ti_45 (by kernel_rfl) fun bq3 => kp [(2,pp bq1 0),(3,pp bq2 0),(5,pp bq3 0),(15,.agg (en_Entry (⟨e0.Kind,e0.Tick,(-1),(-1),(-1),0,0,0,0⟩ : Entry)).toArray)] fun fr => st 0 tt_ok (en_Entry (⟨e0.Kind,e0.Tick,(-1),(-1),(-1),0,0,0,0⟩ : Entry)) (fn ta_45) rfl<|rd ?_
 refine rb<|rb<|ld 2 tt_ok (v := ii e0.Tick) ts_3 rfl<|rc (hc_98 (n0 := e0.Tick) (low1 := 0) (high2 := 1073741824)) ?_
 rintro _ _ ⟨rfl,rfl⟩
 refine rd ?_
 apply r_iteh h<;>clear h<;>intro h
 ·refine rb<|rd ?_
  repeat refine rd ?_
  repeat refine rd ?_
  obtain rfl := h_out h
  exact ret_of (RV.tmp RV.nil) (le_w [false,false,false]) ⟨rfl,rfl⟩
 refine rd<|rb<|r_al tt_ok ([.bool false]) ti_4 (by kernel_rfl) fun bq5 => st 0 tt_ok ([.bool true]) (f1 ts_4) rfl<|rd<|rb<|kr [(2,pp bq1 0),(3,pp bq2 0),(5,pp bq3 0),(6,pp bq5 0),(7,.func (.func 99) #[] #[pp bq1 0,pp bq5 0,pp bq2 0,pp bq3 0])] fun fr => rd<|rb<|rd<|rb<|rd<|rb ?_
 refine rd<|rb ?_
 replace h := h_k h; obtain ⟨K89,h,hK90⟩ := h
 refine r_meet (fun fr S => ∃ (y87 : Entry),∃ (y88 : Bool),∃ fr0,(entry_fits.j1 e0 y87 y88).bind K89 = some r ∧ fr = updL [(2,pp bq1 0),(5,pp bq3 0),(6,pp bq5 0)] fr0 ∧ S = ⟨ρ,.obj bq5 ([.bool y88]) 4 :: .obj bq3 (en_Entry y87) 45 :: .obj bq1 (en_Entry e0) 45 :: L⟩) ?_ ?_
 ·refine rb<|ld 3 tt_ok (v := ii e0.Kind) ts_3 rfl<|rd<|rb<|rb<|rd ?_
  apply r_iteh h<;>clear h<;>intro h
  ·refine rb<|r_inl (HC.intro (N := 15) (args := [_,_,_,_]) tt_ok Tryz.func99 rfl (by decide +kernel) rfl (Nat.le_of_ble_eq_true rfl) ?_)
   refine r_mix tt_ok hm_ok _ _ [12] (.pure 0 (.vb 1 (.va 2 (.pure 3 (.pure 4 (.vb 5 (.pure 6 (.vb 7 (.pure 10 (.eff 8 (.pure 9 (.eff 11 (.eff 12 .nil))))))))))))) (le_w [true,false,true,true]) (le_w [false,false,true,true]) ?_ ?_
   ·decide +kernel
   refine x_p rfl<|vd<|x_vb rfl<|vl 1 tt_ok (v := ii e0.Tenant) ts_3 rfl<|vd<|x_va rfl<|vl 0 tt_ok (v := .bool true) ts_4 rfl<|vd<|x_p rfl<|vd<|x_p rfl<|v_T rfl<|vd ?_
   refine x_vb rfl<|v_T rfl<|vl 1 tt_ok (v := ii e0.Tenant) ts_3 rfl<|vd<|x_p rfl<|v_T rfl<|vd<|x_vb rfl<|v_T rfl<|vl 0 tt_ok (v := ii z1.tenants) ts_3 rfl<|vd<|x_p rfl<|vd ?_
   refine xp [(1,pp bq5 0),(5,ii e0.Tenant),(7,.bool true),(9,ii e0.Tenant),(11,ii z1.tenants),(14,pp bq3 2)] fun fr => x_e rfl<|r_T rfl<|rc (hc_100 (n0 := e0.Tenant) (size1 := z1.tenants)) ?_
   rintro _ _ ⟨rfl,rfl⟩
   refine rd ⟨rfl,k_a (le_w [true,false,true,true]) (le_w [false,false,true,true]),?_⟩
   refine x_p rfl<|vd<|x_e rfl<|st 1 tt_ok (en_Entry (⟨e0.Kind,e0.Tick,e0.Tenant,(-1),(-1),0,0,0,0⟩ : Entry)) (f1 ts_3) rfl<|rd ⟨rfl,k_a (le_w [true,false,true,true]) (le_w [false,false,true,true]),?_⟩
   refine x_e rfl<|st 0 tt_ok ([.bool (entry_index e0.Tenant z1.tenants)]) (f1 ts_4) rfl<|rd ⟨rfl,k_b rfl (le_w [false,false,true,true]),?_⟩
   refine xk [] fun fr => ?_
   repeat refine rd ?_
   refine ret_of RV.nil (Le.refl _)<|rd<|rb<|r_inl (HC.intro (N := 15) (args := [_,_,_,_]) tt_ok Tryz.func101 rfl (by decide +kernel) rfl (Nat.le_of_ble_eq_true rfl) ?_)
   replace h := h_j h; obtain ⟨K9,h,hK10⟩ := h
   refine r_meet (fun fr S => ∃ (y8 : Bool),∃ fr0,K9 y8 = some r ∧ fr = updL [] fr0 ∧ S = ⟨ρ,.obj bq5 ([.bool y8]) 4 :: .obj bq3 (en_Entry (⟨e0.Kind,e0.Tick,e0.Tenant,e0.Cell,(-1),0,0,0,0⟩ : Entry)) 45 :: .obj bq2 (en_entry_sizes z1) 106 :: .obj bq1 (en_Entry e0) 45 :: L⟩) ?_ ?_
   refine r_mix tt_ok hm_ok _ _ [12] (.pure 0 (.vb 1 (.va 2 (.pure 3 (.pure 4 (.vb 5 (.pure 6 (.vb 7 (.pure 10 (.eff 8 (.pure 9 (.eff 11 (.eff 12 .nil))))))))))))) (le_w [true,false,true,true]) (le_w [false,false,true,true]) ?_ ?_
   ·decide +kernel
   refine x_p rfl<|vd<|x_vb rfl<|vl 1 tt_ok (v := ii e0.Cell) ts_3 rfl<|vd<|x_va rfl<|vl 0 tt_ok (v := .bool (entry_index e0.Tenant z1.tenants)) ts_4 rfl<|vd<|x_p rfl<|vd<|x_p rfl ?_
   apply v_iteh h<;>clear h<;>intro h
   ·refine vd<|x_vb rfl<|v_T rfl<|vl 1 tt_ok (v := ii e0.Cell) ts_3 rfl<|vd<|x_p rfl<|v_T rfl<|vd<|x_vb rfl<|v_T rfl<|vl 0 tt_ok (v := ii z1.cells) ts_3 rfl<|vd<|xp [(1,pp bq5 0),(3,pp bq3 0),(5,ii e0.Cell),(7,.bool true),(9,ii e0.Cell),(11,ii z1.cells)] fun fr => ?_
    refine x_p rfl<|vd<|x_e rfl<|r_T rfl<|rc (hc_100 (n0 := e0.Cell) (size1 := z1.cells)) ?_
    rintro _ _ ⟨rfl,rfl⟩
    refine rd ⟨rfl,k_a (le_w [true,false,true,true]) (le_w [false,false,true,true]),?_⟩
    refine x_p rfl<|vd<|x_e rfl<|st 1 tt_ok (en_Entry (⟨e0.Kind,e0.Tick,e0.Tenant,e0.Cell,(-1),0,0,0,0⟩ : Entry)) (f1 ts_3) rfl<|rd ⟨rfl,k_a (le_w [true,false,true,true]) (le_w [false,false,true,true]),?_⟩
    refine x_e rfl<|st 0 tt_ok ([.bool (entry_index e0.Cell z1.cells)]) (f1 ts_4) rfl<|rd ⟨rfl,k_b rfl (le_w [false,false,true,true]),?_⟩
    exact xk [] fun fr => rd ⟨(entry_index e0.Cell z1.cells),_,h,fe _,by kernel_rfl⟩
   refine vd<|x_vb rfl<|v_F rfl<|vd<|x_p rfl<|v_F rfl<|vd<|x_vb rfl<|v_F rfl<|vd<|xp [(1,pp bq5 0),(3,pp bq3 0),(5,ii e0.Cell),(7,.bool false),(9,undef),(11,undef)] fun fr => x_p rfl<|vd ?_
   refine x_e rfl<|r_F rfl<|rd ⟨rfl,k_a (le_w [true,false,true,true]) (le_w [false,false,true,true]),?_⟩
   refine x_p rfl<|v_F rfl<|vd<|x_e rfl<|st 1 tt_ok (en_Entry (⟨e0.Kind,e0.Tick,e0.Tenant,e0.Cell,(-1),0,0,0,0⟩ : Entry)) (f1 ts_3) rfl<|rd ⟨rfl,k_a (le_w [true,false,true,true]) (le_w [false,false,true,true]),?_⟩
   refine x_e rfl<|st 0 tt_ok ([.bool false]) (f1 ts_4) rfl<|rd ⟨rfl,k_b rfl (le_w [false,false,true,true]),?_⟩
   exact xk [] fun fr => rd ⟨false,_,h,fe _,by kernel_rfl⟩
   clear h
   rintro fr S ⟨y8,fr,h,rfl,rfl⟩
   replace h := hK10 _ h
   repeat refine rd ?_
   refine ret_of RV.nil (Le.refl _)<|rd ?_
   replace h := h_j h; obtain ⟨K15,h,hK16⟩ := h
   refine r_meet (fun fr S => ∃ (y14 : Bool),∃ fr0,K15 y14 = some r ∧ fr = updL [(2,pp bq1 0),(5,pp bq3 0),(6,pp bq5 0)] fr0 ∧ S = ⟨ρ,.obj bq5 ([.bool y14]) 4 :: .obj bq3 (en_Entry (⟨e0.Kind,e0.Tick,e0.Tenant,e0.Cell,e0.Other,0,0,0,0⟩ : Entry)) 45 :: .obj bq1 (en_Entry e0) 45 :: L⟩) ?_ ?_
   refine r_mix tt_ok hm_ok _ _ [24] (.pure 0 (.vb 1 (.va 2 (.pure 3 (.pure 4 (.vb 5 (.pure 6 (.vb 7 (.pure 8 (.pure 9 (.pure 10 (.pure 11 (.vb 12 (.pure 13 (.pure 14 (.pure 15 (.vb 16 (.pure 17 (.vb 18 (.pure 22 (.eff 19 (.pure 20 (.pure 21 (.eff 23 (.eff 24 .nil))))))))))))))))))))))))) (le_w [true,false,true,true]) (le_w [false,false,true,true]) ?_ ?_
   ·decide +kernel
   refine xp [(2,pp bq1 0),(3,pp bq2 0),(5,pp bq3 0),(6,pp bq5 0)] fun fr => x_p rfl<|vd<|x_vb rfl<|vl 1 tt_ok (v := ii e0.Other) ts_3 rfl<|vd<|x_va rfl<|vl 0 tt_ok (v := .bool y8) ts_4 rfl<|vd<|x_p rfl<|vd<|x_p rfl ?_
   apply v_iteh h<;>clear h<;>intro h
   ·refine vd<|x_vb rfl<|v_T rfl<|vl 1 tt_ok (v := ii e0.Other) ts_3 rfl<|vd<|x_p rfl<|v_T rfl<|vd<|x_vb rfl<|v_T rfl<|vl 1 tt_ok (v := ii e0.Cell) ts_3 rfl<|vd<|x_p rfl ?_
    refine v_T rfl<|vd<|xp [(2,pp bq1 0),(3,pp bq2 0),(5,pp bq3 0),(6,pp bq5 0),(33,ii e0.Other),(35,.bool true),(40,.bool (!decide (e0.Other = e0.Cell)))] fun fr => x_p rfl<|vd<|x_p rfl<|vd<|x_p rfl ?_
    apply v_iteh h<;>clear h<;>intro h
    ·refine vd<|x_vb rfl<|v_T rfl<|vl 1 tt_ok (v := ii e0.Other) ts_3 rfl<|vd<|x_p rfl<|v_T rfl<|vd<|x_p rfl<|v_T rfl<|vd<|x_p rfl ?_
     apply v_iteh h<;>clear h<;>intro h
     ·refine vd<|x_vb rfl<|v_T rfl<|vd<|x_p rfl<|v_T rfl<|vd<|xp [(2,pp bq1 0),(5,pp bq3 0),(6,pp bq5 0),(33,ii e0.Other),(42,.bool true),(46,.bool true),(48,undef),(49,undef)] fun fr => x_vb rfl<|v_T rfl<|vd<|x_p rfl<|vd ?_
      refine x_e rfl<|r_T rfl<|rd ⟨rfl,k_a (le_w [true,false,true,true]) (le_w [false,false,true,true]),?_⟩
      refine x_p rfl<|v_T rfl<|v_T rfl<|vd<|x_p rfl<|vd<|x_e rfl<|st 1 tt_ok (en_Entry (⟨e0.Kind,e0.Tick,e0.Tenant,e0.Cell,e0.Other,0,0,0,0⟩ : Entry)) (f1 ts_3) rfl<|rd ⟨rfl,k_a (le_w [true,false,true,true]) (le_w [false,false,true,true]),?_⟩
      refine x_e rfl<|st 0 tt_ok ([.bool true]) (f1 ts_4) rfl<|rd ⟨rfl,k_b rfl (le_w [false,false,true,true]),?_⟩
      exact xk [(2,pp bq1 0),(5,pp bq3 0),(6,pp bq5 0)] fun fr => r_le (le_w [true,true,false,true])<|rd ⟨true,_,h,fe _,by kernel_rfl⟩
     refine vd<|x_vb rfl<|v_F rfl<|vl 1 tt_ok (v := ii e0.Other) ts_3 rfl<|vd<|x_p rfl<|v_F rfl<|vd<|xp [(2,pp bq1 0),(5,pp bq3 0),(6,pp bq5 0),(33,ii e0.Other),(42,.bool true),(46,.bool false),(48,ii e0.Other),(49,pp bq2 1)] fun fr => x_vb rfl<|v_F rfl<|vl 0 tt_ok (v := ii z1.cells) ts_3 rfl<|vd ?_
     refine x_p rfl<|vd<|x_e rfl<|r_F rfl<|rc (hc_100 (n0 := e0.Other) (size1 := z1.cells)) ?_
     rintro _ _ ⟨rfl,rfl⟩
     refine rd ⟨rfl,k_a (le_w [true,false,true,true]) (le_w [false,false,true,true]),?_⟩
     refine x_p rfl<|v_T rfl<|vd<|x_p rfl<|vd<|x_e rfl<|st 1 tt_ok (en_Entry (⟨e0.Kind,e0.Tick,e0.Tenant,e0.Cell,e0.Other,0,0,0,0⟩ : Entry)) (f1 ts_3) rfl<|rd ⟨rfl,k_a (le_w [true,false,true,true]) (le_w [false,false,true,true]),?_⟩
     refine x_e rfl<|st 0 tt_ok ([.bool (entry_index e0.Other z1.cells)]) (f1 ts_4) rfl<|rd ⟨rfl,k_b rfl (le_w [false,false,true,true]),?_⟩
     exact xk [(2,pp bq1 0),(5,pp bq3 0),(6,pp bq5 0)] fun fr => r_le (le_w [true,true,false,true])<|rd ⟨(entry_index e0.Other z1.cells),_,h,fe _,by kernel_rfl⟩
    refine vd<|x_vb rfl<|v_F rfl<|vd<|x_p rfl<|v_F rfl<|vd<|x_p rfl<|v_F rfl<|vd<|x_p rfl<|vd<|x_vb rfl ?_
    refine vd<|x_p rfl<|vd<|xp [(2,pp bq1 0),(5,pp bq3 0),(6,pp bq5 0),(33,ii e0.Other),(42,.bool false),(46,undef),(48,undef),(49,undef)] fun fr => x_vb rfl<|vd<|x_p rfl<|vd<|x_e rfl<|rd ⟨rfl,k_a (le_w [true,false,true,true]) (le_w [false,false,true,true]),?_⟩
    refine x_p rfl<|v_F rfl<|vd<|x_p rfl<|v_F rfl<|vd<|x_e rfl<|st 1 tt_ok (en_Entry (⟨e0.Kind,e0.Tick,e0.Tenant,e0.Cell,e0.Other,0,0,0,0⟩ : Entry)) (f1 ts_3) rfl<|rd ⟨rfl,k_a (le_w [true,false,true,true]) (le_w [false,false,true,true]),?_⟩
    refine x_e rfl<|st 0 tt_ok ([.bool false]) (f1 ts_4) rfl<|rd ⟨rfl,k_b rfl (le_w [false,false,true,true]),?_⟩
    exact xk [(2,pp bq1 0),(5,pp bq3 0),(6,pp bq5 0)] fun fr => r_le (le_w [true,true,false,true])<|rd ⟨false,_,h,fe _,by kernel_rfl⟩
   refine vd<|x_vb rfl<|v_F rfl<|vd<|x_p rfl<|v_F rfl<|vd<|x_vb rfl<|v_F rfl<|vd<|x_p rfl<|v_F rfl<|vd ?_
   refine xp [(2,pp bq1 0),(3,pp bq2 0),(5,pp bq3 0),(6,pp bq5 0),(33,ii e0.Other),(35,.bool false),(40,undef)] fun fr => x_p rfl<|v_F rfl<|vd<|x_p rfl<|vd<|x_p rfl<|v_F rfl<|vd<|x_vb rfl<|v_F rfl<|vd<|x_p rfl ?_
   refine v_F rfl<|vd<|x_p rfl<|v_F rfl<|vd<|x_p rfl<|vd<|x_vb rfl<|vd<|x_p rfl<|vd<|xp [(2,pp bq1 0),(5,pp bq3 0),(6,pp bq5 0),(33,ii e0.Other),(42,.bool false),(46,undef),(48,undef),(49,undef)] fun fr => x_vb rfl ?_
   refine vd<|x_p rfl<|vd<|x_e rfl<|rd ⟨rfl,k_a (le_w [true,false,true,true]) (le_w [false,false,true,true]),?_⟩
   refine x_p rfl<|v_F rfl<|vd<|x_p rfl<|v_F rfl<|vd<|x_e rfl<|st 1 tt_ok (en_Entry (⟨e0.Kind,e0.Tick,e0.Tenant,e0.Cell,e0.Other,0,0,0,0⟩ : Entry)) (f1 ts_3) rfl<|rd ⟨rfl,k_a (le_w [true,false,true,true]) (le_w [false,false,true,true]),?_⟩
   refine x_e rfl<|st 0 tt_ok ([.bool false]) (f1 ts_4) rfl<|rd ⟨rfl,k_b rfl (le_w [false,false,true,true]),?_⟩
   exact xk [(2,pp bq1 0),(5,pp bq3 0),(6,pp bq5 0)] fun fr => r_le (le_w [true,true,false,true])<|rd ⟨false,_,h,fe _,by kernel_rfl⟩
   clear h
   rintro fr S ⟨y14,fr,h,rfl,rfl⟩
   replace h := hK16 _ h
   exact rd<|rd ⟨(⟨e0.Kind,e0.Tick,e0.Tenant,e0.Cell,e0.Other,0,0,0,0⟩ : Entry),y14,_,h,fe _,by kernel_rfl⟩
  refine rb<|rd ?_
  apply r_iteh h<;>clear h<;>intro h
  ·refine rb<|r_inl (HC.intro (N := 15) (args := [_,_,_,_]) tt_ok Tryz.func99 rfl (by decide +kernel) rfl (Nat.le_of_ble_eq_true rfl) ?_)
   refine r_mix tt_ok hm_ok _ _ [12] (.pure 0 (.vb 1 (.va 2 (.pure 3 (.pure 4 (.vb 5 (.pure 6 (.vb 7 (.pure 10 (.eff 8 (.pure 9 (.eff 11 (.eff 12 .nil))))))))))))) (le_w [true,false,true,true]) (le_w [false,false,true,true]) ?_ ?_
   ·decide +kernel
   refine x_p rfl<|vd<|x_vb rfl<|vl 1 tt_ok (v := ii e0.Tenant) ts_3 rfl<|vd<|x_va rfl<|vl 0 tt_ok (v := .bool true) ts_4 rfl<|vd<|x_p rfl<|vd<|x_p rfl<|v_T rfl<|vd ?_
   refine x_vb rfl<|v_T rfl<|vl 1 tt_ok (v := ii e0.Tenant) ts_3 rfl<|vd<|x_p rfl<|v_T rfl<|vd<|x_vb rfl<|v_T rfl<|vl 0 tt_ok (v := ii z1.tenants) ts_3 rfl<|vd<|x_p rfl<|vd ?_
   refine xp [(1,pp bq5 0),(5,ii e0.Tenant),(7,.bool true),(9,ii e0.Tenant),(11,ii z1.tenants),(14,pp bq3 2)] fun fr => x_e rfl<|r_T rfl<|rc (hc_100 (n0 := e0.Tenant) (size1 := z1.tenants)) ?_
   rintro _ _ ⟨rfl,rfl⟩
   refine rd ⟨rfl,k_a (le_w [true,false,true,true]) (le_w [false,false,true,true]),?_⟩
   refine x_p rfl<|vd<|x_e rfl<|st 1 tt_ok (en_Entry (⟨e0.Kind,e0.Tick,e0.Tenant,(-1),(-1),0,0,0,0⟩ : Entry)) (f1 ts_3) rfl<|rd ⟨rfl,k_a (le_w [true,false,true,true]) (le_w [false,false,true,true]),?_⟩
   refine x_e rfl<|st 0 tt_ok ([.bool (entry_index e0.Tenant z1.tenants)]) (f1 ts_4) rfl<|rd ⟨rfl,k_b rfl (le_w [false,false,true,true]),?_⟩
   refine xk [] fun fr => ?_
   repeat refine rd ?_
   refine ret_of RV.nil (Le.refl _)<|rd<|rb<|r_inl (HC.intro (N := 15) (args := [_,_,_,_]) tt_ok Tryz.func101 rfl (by decide +kernel) rfl (Nat.le_of_ble_eq_true rfl) ?_)
   replace h := h_j h; obtain ⟨K20,h,hK21⟩ := h
   refine r_meet (fun fr S => ∃ (y19 : Bool),∃ fr0,K20 y19 = some r ∧ fr = updL [] fr0 ∧ S = ⟨ρ,.obj bq5 ([.bool y19]) 4 :: .obj bq3 (en_Entry (⟨e0.Kind,e0.Tick,e0.Tenant,e0.Cell,(-1),0,0,0,0⟩ : Entry)) 45 :: .obj bq2 (en_entry_sizes z1) 106 :: .obj bq1 (en_Entry e0) 45 :: L⟩) ?_ ?_
   refine r_mix tt_ok hm_ok _ _ [12] (.pure 0 (.vb 1 (.va 2 (.pure 3 (.pure 4 (.vb 5 (.pure 6 (.vb 7 (.pure 10 (.eff 8 (.pure 9 (.eff 11 (.eff 12 .nil))))))))))))) (le_w [true,false,true,true]) (le_w [false,false,true,true]) ?_ ?_
   ·decide +kernel
   refine x_p rfl<|vd<|x_vb rfl<|vl 1 tt_ok (v := ii e0.Cell) ts_3 rfl<|vd<|x_va rfl<|vl 0 tt_ok (v := .bool (entry_index e0.Tenant z1.tenants)) ts_4 rfl<|vd<|x_p rfl<|vd<|x_p rfl ?_
   apply v_iteh h<;>clear h<;>intro h
   ·refine vd<|x_vb rfl<|v_T rfl<|vl 1 tt_ok (v := ii e0.Cell) ts_3 rfl<|vd<|x_p rfl<|v_T rfl<|vd<|x_vb rfl<|v_T rfl<|vl 0 tt_ok (v := ii z1.cells) ts_3 rfl<|vd<|xp [(1,pp bq5 0),(3,pp bq3 0),(5,ii e0.Cell),(7,.bool true),(9,ii e0.Cell),(11,ii z1.cells)] fun fr => ?_
    refine x_p rfl<|vd<|x_e rfl<|r_T rfl<|rc (hc_100 (n0 := e0.Cell) (size1 := z1.cells)) ?_
    rintro _ _ ⟨rfl,rfl⟩
    refine rd ⟨rfl,k_a (le_w [true,false,true,true]) (le_w [false,false,true,true]),?_⟩
    refine x_p rfl<|vd<|x_e rfl<|st 1 tt_ok (en_Entry (⟨e0.Kind,e0.Tick,e0.Tenant,e0.Cell,(-1),0,0,0,0⟩ : Entry)) (f1 ts_3) rfl<|rd ⟨rfl,k_a (le_w [true,false,true,true]) (le_w [false,false,true,true]),?_⟩
    refine x_e rfl<|st 0 tt_ok ([.bool (entry_index e0.Cell z1.cells)]) (f1 ts_4) rfl<|rd ⟨rfl,k_b rfl (le_w [false,false,true,true]),?_⟩
    exact xk [] fun fr => rd ⟨(entry_index e0.Cell z1.cells),_,h,fe _,by kernel_rfl⟩
   refine vd<|x_vb rfl<|v_F rfl<|vd<|x_p rfl<|v_F rfl<|vd<|x_vb rfl<|v_F rfl<|vd<|xp [(1,pp bq5 0),(3,pp bq3 0),(5,ii e0.Cell),(7,.bool false),(9,undef),(11,undef)] fun fr => x_p rfl<|vd ?_
   refine x_e rfl<|r_F rfl<|rd ⟨rfl,k_a (le_w [true,false,true,true]) (le_w [false,false,true,true]),?_⟩
   refine x_p rfl<|v_F rfl<|vd<|x_e rfl<|st 1 tt_ok (en_Entry (⟨e0.Kind,e0.Tick,e0.Tenant,e0.Cell,(-1),0,0,0,0⟩ : Entry)) (f1 ts_3) rfl<|rd ⟨rfl,k_a (le_w [true,false,true,true]) (le_w [false,false,true,true]),?_⟩
   refine x_e rfl<|st 0 tt_ok ([.bool false]) (f1 ts_4) rfl<|rd ⟨rfl,k_b rfl (le_w [false,false,true,true]),?_⟩
   exact xk [] fun fr => rd ⟨false,_,h,fe _,by kernel_rfl⟩
   clear h
   rintro fr S ⟨y19,fr,h,rfl,rfl⟩
   replace h := hK21 _ h
   repeat refine rd ?_
   refine ret_of RV.nil (Le.refl _)<|kr [(2,pp bq1 0),(3,pp bq2 0),(5,pp bq3 0),(6,pp bq5 0),(9,.func (.func 102) #[] #[pp bq1 0,pp bq5 0,pp bq3 0]),(10,.func (.func 103) #[] #[pp bq1 0,pp bq5 0,pp bq3 0])] fun fr => rd<|rb<|r_inl (HC.intro (N := 12) (args := [_,_,_]) tt_ok Tryz.func103 rfl (by decide +kernel) rfl (Nat.le_of_ble_eq_true rfl) ?_)
   replace h := h_j h; obtain ⟨K24,h,hK25⟩ := h
   refine r_meet (fun fr S => ∃ (y23 : Bool),∃ fr0,K24 y23 = some r ∧ fr = updL [] fr0 ∧ S = ⟨ρ,.obj bq5 ([.bool y23]) 4 :: .obj bq3 (en_Entry (⟨e0.Kind,e0.Tick,e0.Tenant,e0.Cell,(-1),e0.Epoch,0,0,0⟩ : Entry)) 45 :: .obj bq2 (en_entry_sizes z1) 106 :: .obj bq1 (en_Entry e0) 45 :: L⟩) ?_ ?_
   refine r_mix tt_ok hm_ok _ _ [10] (.pure 0 (.vb 1 (.va 2 (.pure 3 (.pure 4 (.vb 5 (.pure 8 (.eff 6 (.pure 7 (.eff 9 (.eff 10 .nil))))))))))) (le_w [true,false,true,true]) (le_w [false,false,true,true]) ?_ ?_
   ·decide +kernel
   refine x_p rfl<|vd<|x_vb rfl<|vl 1 tt_ok (v := ii e0.Epoch) ts_3 rfl<|vd<|x_va rfl<|vl 0 tt_ok (v := .bool y19) ts_4 rfl<|vd<|x_p rfl<|vd<|x_p rfl ?_
   apply v_iteh h<;>clear h<;>intro h
   ·refine vd<|x_vb rfl<|v_T rfl<|vl 1 tt_ok (v := ii e0.Epoch) ts_3 rfl<|vd<|x_p rfl<|vd<|x_e rfl<|r_T rfl<|rc (hc_98 (n0 := e0.Epoch) (low1 := 1) (high2 := 1048576)) ?_
    rintro _ _ ⟨rfl,rfl⟩
    refine rd ⟨rfl,k_a (le_w [true,false,true,true]) (le_w [false,false,true,true]),?_⟩
    refine xp [(1,pp bq5 0),(4,ii e0.Epoch),(6,.bool true),(9,.bool (entry_between e0.Epoch 1 1048576)),(11,pp bq3 5)] fun fr => x_p rfl<|vd<|x_e rfl<|st 1 tt_ok (en_Entry (⟨e0.Kind,e0.Tick,e0.Tenant,e0.Cell,(-1),e0.Epoch,0,0,0⟩ : Entry)) (f1 ts_3) rfl<|rd ⟨rfl,k_a (le_w [true,false,true,true]) (le_w [false,false,true,true]),?_⟩
    refine x_e rfl<|st 0 tt_ok ([.bool (entry_between e0.Epoch 1 1048576)]) (f1 ts_4) rfl<|rd ⟨rfl,k_b rfl (le_w [false,false,true,true]),?_⟩
    exact xk [] fun fr => rd ⟨(entry_between e0.Epoch 1 1048576),_,h,fe _,by kernel_rfl⟩
   refine vd<|x_vb rfl<|v_F rfl<|vd<|x_p rfl<|vd<|x_e rfl<|r_F rfl<|rd ⟨rfl,k_a (le_w [true,false,true,true]) (le_w [false,false,true,true]),?_⟩
   refine xp [(1,pp bq5 0),(4,ii e0.Epoch),(6,.bool false),(9,undef),(11,pp bq3 5)] fun fr => x_p rfl<|v_F rfl<|vd<|x_e rfl<|st 1 tt_ok (en_Entry (⟨e0.Kind,e0.Tick,e0.Tenant,e0.Cell,(-1),e0.Epoch,0,0,0⟩ : Entry)) (f1 ts_3) rfl<|rd ⟨rfl,k_a (le_w [true,false,true,true]) (le_w [false,false,true,true]),?_⟩
   refine x_e rfl<|st 0 tt_ok ([.bool false]) (f1 ts_4) rfl<|rd ⟨rfl,k_b rfl (le_w [false,false,true,true]),?_⟩
   exact xk [] fun fr => rd ⟨false,_,h,fe _,by kernel_rfl⟩
   clear h
   rintro fr S ⟨y23,fr,h,rfl,rfl⟩
   replace h := hK25 _ h
   repeat refine rd ?_
   refine ret_of RV.nil (Le.refl _)<|rd<|rb<|ld 2 tt_ok (v := ii z1.versions) ts_3 rfl<|r_num (e' := w64 (z1.versions - 1)) rfl<|r_inl (HC.intro (N := 18) (args := [_,_,_,_,_]) tt_ok Tryz.func102 rfl (by decide +kernel) rfl (Nat.le_of_ble_eq_true rfl) ?_)
   replace h := h_j h; obtain ⟨K28,h,hK29⟩ := h
   refine r_meet (fun fr S => ∃ (y27 : Bool),∃ fr0,K28 y27 = some r ∧ fr = updL [] fr0 ∧ S = ⟨ρ,.obj bq5 ([.bool y27]) 4 :: .obj bq3 (en_Entry (⟨e0.Kind,e0.Tick,e0.Tenant,e0.Cell,(-1),e0.Epoch,0,0,e0.N⟩ : Entry)) 45 :: .obj bq2 (en_entry_sizes z1) 106 :: .obj bq1 (en_Entry e0) 45 :: L⟩) ?_ ?_
   refine r_mix tt_ok hm_ok _ _ [12] (.pure 0 (.vb 1 (.va 2 (.pure 3 (.pure 4 (.vb 5 (.pure 6 (.pure 7 (.pure 10 (.eff 8 (.pure 9 (.eff 11 (.eff 12 .nil))))))))))))) (le_w [true,false,true,true]) (le_w [false,false,true,true]) ?_ ?_
   ·decide +kernel
   refine x_p rfl<|vd<|x_vb rfl<|vl 1 tt_ok (v := ii e0.N) ts_3 rfl<|vd<|x_va rfl<|vl 0 tt_ok (v := .bool y23) ts_4 rfl<|vd<|x_p rfl<|vd<|x_p rfl ?_
   apply v_iteh h<;>clear h<;>intro h
   ·refine vd<|x_vb rfl<|v_T rfl<|vl 1 tt_ok (v := ii e0.N) ts_3 rfl<|vd<|x_p rfl<|v_T rfl<|vd<|x_p rfl<|v_T rfl<|vd<|xp [(3,pp bq5 0),(4,pp bq3 0),(8,ii e0.N),(10,.bool true),(12,ii e0.N),(13,ii 0),(14,ii (w64 (z1.versions - 1)))] fun fr => x_p rfl ?_
    refine vd<|x_e rfl<|r_T rfl<|rc (hc_98 (n0 := e0.N) (low1 := 0) (high2 := w64 (z1.versions - 1))) ?_
    rintro _ _ ⟨rfl,rfl⟩
    refine rd ⟨rfl,k_a (le_w [true,false,true,true]) (le_w [false,false,true,true]),?_⟩
    refine x_p rfl<|vd<|x_e rfl<|st 1 tt_ok (en_Entry (⟨e0.Kind,e0.Tick,e0.Tenant,e0.Cell,(-1),e0.Epoch,0,0,e0.N⟩ : Entry)) (f1 ts_3) rfl<|rd ⟨rfl,k_a (le_w [true,false,true,true]) (le_w [false,false,true,true]),?_⟩
    refine x_e rfl<|st 0 tt_ok ([.bool (entry_between e0.N 0 (w64 (z1.versions - 1)))]) (f1 ts_4) rfl<|rd ⟨rfl,k_b rfl (le_w [false,false,true,true]),?_⟩
    exact xk [] fun fr => rd ⟨(entry_between e0.N 0 (w64 (z1.versions - 1))),_,h,fe _,by kernel_rfl⟩
   refine vd<|x_vb rfl<|v_F rfl<|vd<|x_p rfl<|v_F rfl<|vd<|x_p rfl<|v_F rfl<|vd<|xp [(3,pp bq5 0),(4,pp bq3 0),(8,ii e0.N),(10,.bool false),(12,undef),(13,undef),(14,undef)] fun fr => x_p rfl<|vd ?_
   refine x_e rfl<|r_F rfl<|rd ⟨rfl,k_a (le_w [true,false,true,true]) (le_w [false,false,true,true]),?_⟩
   refine x_p rfl<|v_F rfl<|vd<|x_e rfl<|st 1 tt_ok (en_Entry (⟨e0.Kind,e0.Tick,e0.Tenant,e0.Cell,(-1),e0.Epoch,0,0,e0.N⟩ : Entry)) (f1 ts_3) rfl<|rd ⟨rfl,k_a (le_w [true,false,true,true]) (le_w [false,false,true,true]),?_⟩
   refine x_e rfl<|st 0 tt_ok ([.bool false]) (f1 ts_4) rfl<|rd ⟨rfl,k_b rfl (le_w [false,false,true,true]),?_⟩
   exact xk [] fun fr => rd ⟨false,_,h,fe _,by kernel_rfl⟩
   clear h
   rintro fr S ⟨y27,fr,h,rfl,rfl⟩
   replace h := hK29 _ h
   repeat refine rd ?_
   refine ret_of RV.nil (Le.refl _)<|rd<|rb<|r_mix tt_ok hm_ok _ _ [] (.pure 0 (.vb 1 (.pure 2 (.vb 3 (.pure 4 (.eff 5 (.pure 6 (.eff 7 .nil)))))))) (le_w [true,false,true,true]) (le_w [true,false,true,true]) ?_ ?_
   ·decide +kernel
   refine x_p rfl<|vd<|x_vb rfl<|vl 2 tt_ok (v := ii e0.From) ts_3 rfl<|vd<|xp [(2,pp bq1 0),(5,pp bq3 0),(6,pp bq5 0),(69,ii e0.From)] fun fr => x_p rfl<|vd<|x_vb rfl<|vl 2 tt_ok (v := ii e0.Until) ts_3 rfl<|vd<|x_p rfl<|vd ?_
   refine x_e rfl<|st 1 tt_ok (en_Entry (⟨e0.Kind,e0.Tick,e0.Tenant,e0.Cell,(-1),e0.Epoch,e0.From,0,e0.N⟩ : Entry)) (f1 ts_3) rfl<|rd ⟨rfl,k_a (le_w [true,false,true,true]) (le_w [true,false,true,true]),?_⟩
   refine x_p rfl<|vd<|x_e rfl<|st 1 tt_ok (en_Entry (⟨e0.Kind,e0.Tick,e0.Tenant,e0.Cell,(-1),e0.Epoch,e0.From,e0.Until,e0.N⟩ : Entry)) (f1 ts_3) rfl<|rd ⟨rfl,k_a (le_w [true,false,true,true]) (le_w [true,false,true,true]),?_⟩
   refine xk [(2,pp bq1 0),(5,pp bq3 0),(6,pp bq5 0)] fun fr => rd ?_
   replace h := h_j h; obtain ⟨K33,h,hK34⟩ := h
   refine r_meet (fun fr S => ∃ (y32 : Bool),∃ fr0,K33 y32 = some r ∧ fr = updL [(2,pp bq1 0),(5,pp bq3 0),(6,pp bq5 0)] fr0 ∧ S = ⟨ρ,.obj bq5 ([.bool y32]) 4 :: .obj bq3 (en_Entry (⟨e0.Kind,e0.Tick,e0.Tenant,e0.Cell,(-1),e0.Epoch,e0.From,e0.Until,e0.N⟩ : Entry)) 45 :: .obj bq1 (en_Entry e0) 45 :: L⟩) ?_ ?_
   ·refine ld 0 tt_ok (v := .bool y27) ts_4 rfl ?_
    apply r_iteh h<;>clear h<;>intro h
    ·refine kp [(2,pp bq1 0),(5,pp bq3 0),(6,pp bq5 0),(75,.bool true),(76,pp bq1 6)] fun fr => r_T rfl<|ld 3 tt_ok (v := ii e0.From) ts_3 rfl<|r_T rfl<|rc (hc_98 (n0 := e0.From) (low1 := 0) (high2 := 1073741824)) ?_
     rintro _ _ ⟨rfl,rfl⟩
     apply r_iteh h<;>clear h<;>intro h
     ·refine r_T rfl<|ld 3 tt_ok (v := ii e0.Until) ts_3 rfl<|r_T rfl<|rc (hc_98 (n0 := e0.Until) (low1 := 0) (high2 := 1073741824)) ?_
      rintro _ _ ⟨rfl,rfl⟩
      exact st 0 tt_ok ([.bool (entry_between e0.Until 0 1073741824)]) (f1 ts_4) rfl<|kr [(2,pp bq1 0),(5,pp bq3 0),(6,pp bq5 0)] fun fr => r_le (le_w [true,true,false,true])<|rd ⟨(entry_between e0.Until 0 1073741824),_,h,fe _,by kernel_rfl⟩
     exact r_F rfl<|r_F rfl<|r_F rfl<|st 0 tt_ok ([.bool false]) (f1 ts_4) rfl<|kr [(2,pp bq1 0),(5,pp bq3 0),(6,pp bq5 0)] fun fr => r_le (le_w [true,true,false,true])<|rd ⟨false,_,h,fe _,by kernel_rfl⟩
    exact kp [(2,pp bq1 0),(5,pp bq3 0),(6,pp bq5 0),(75,.bool false),(76,undef)] fun fr => r_F rfl<|r_F rfl<|r_F rfl<|r_F rfl<|r_F rfl<|r_F rfl<|r_F rfl<|st 0 tt_ok ([.bool false]) (f1 ts_4) rfl<|kr [(2,pp bq1 0),(5,pp bq3 0),(6,pp bq5 0)] fun fr => r_le (le_w [true,true,false,true])<|rd ⟨false,_,h,fe _,by kernel_rfl⟩
   clear h
   rintro fr S ⟨y32,fr,h,rfl,rfl⟩
   replace h := hK34 _ h
   exact rd<|rd ⟨(⟨e0.Kind,e0.Tick,e0.Tenant,e0.Cell,(-1),e0.Epoch,e0.From,e0.Until,e0.N⟩ : Entry),y32,_,h,fe _,by kernel_rfl⟩
  refine rb<|rd ?_
  apply r_iteh h<;>clear h<;>intro h
  ·refine rb<|r_inl (HC.intro (N := 15) (args := [_,_,_,_]) tt_ok Tryz.func99 rfl (by decide +kernel) rfl (Nat.le_of_ble_eq_true rfl) ?_)
   refine r_mix tt_ok hm_ok _ _ [12] (.pure 0 (.vb 1 (.va 2 (.pure 3 (.pure 4 (.vb 5 (.pure 6 (.vb 7 (.pure 10 (.eff 8 (.pure 9 (.eff 11 (.eff 12 .nil))))))))))))) (le_w [true,false,true,true]) (le_w [false,false,true,true]) ?_ ?_
   ·decide +kernel
   refine x_p rfl<|vd<|x_vb rfl<|vl 1 tt_ok (v := ii e0.Tenant) ts_3 rfl<|vd<|x_va rfl<|vl 0 tt_ok (v := .bool true) ts_4 rfl<|vd<|x_p rfl<|vd<|x_p rfl<|v_T rfl<|vd ?_
   refine x_vb rfl<|v_T rfl<|vl 1 tt_ok (v := ii e0.Tenant) ts_3 rfl<|vd<|x_p rfl<|v_T rfl<|vd<|x_vb rfl<|v_T rfl<|vl 0 tt_ok (v := ii z1.tenants) ts_3 rfl<|vd<|x_p rfl<|vd ?_
   refine xp [(1,pp bq5 0),(5,ii e0.Tenant),(7,.bool true),(9,ii e0.Tenant),(11,ii z1.tenants),(14,pp bq3 2)] fun fr => x_e rfl<|r_T rfl<|rc (hc_100 (n0 := e0.Tenant) (size1 := z1.tenants)) ?_
   rintro _ _ ⟨rfl,rfl⟩
   refine rd ⟨rfl,k_a (le_w [true,false,true,true]) (le_w [false,false,true,true]),?_⟩
   refine x_p rfl<|vd<|x_e rfl<|st 1 tt_ok (en_Entry (⟨e0.Kind,e0.Tick,e0.Tenant,(-1),(-1),0,0,0,0⟩ : Entry)) (f1 ts_3) rfl<|rd ⟨rfl,k_a (le_w [true,false,true,true]) (le_w [false,false,true,true]),?_⟩
   refine x_e rfl<|st 0 tt_ok ([.bool (entry_index e0.Tenant z1.tenants)]) (f1 ts_4) rfl<|rd ⟨rfl,k_b rfl (le_w [false,false,true,true]),?_⟩
   refine xk [] fun fr => ?_
   repeat refine rd ?_
   refine ret_of RV.nil (Le.refl _)<|kr [(2,pp bq1 0),(5,pp bq3 0),(6,pp bq5 0),(10,.func (.func 103) #[] #[pp bq1 0,pp bq5 0,pp bq3 0])] fun fr => rd<|r_inl (HC.intro (N := 12) (args := [_,_,_]) tt_ok Tryz.func103 rfl (by decide +kernel) rfl (Nat.le_of_ble_eq_true rfl) ?_)
   replace h := h_j h; obtain ⟨K38,h,hK39⟩ := h
   refine r_meet (fun fr S => ∃ (y37 : Bool),∃ fr0,K38 y37 = some r ∧ fr = updL [] fr0 ∧ S = ⟨ρ,.obj bq5 ([.bool y37]) 4 :: .obj bq3 (en_Entry (⟨e0.Kind,e0.Tick,e0.Tenant,(-1),(-1),e0.Epoch,0,0,0⟩ : Entry)) 45 :: .obj bq2 (en_entry_sizes z1) 106 :: .obj bq1 (en_Entry e0) 45 :: L⟩) ?_ ?_
   refine r_mix tt_ok hm_ok _ _ [10] (.pure 0 (.vb 1 (.va 2 (.pure 3 (.pure 4 (.vb 5 (.pure 8 (.eff 6 (.pure 7 (.eff 9 (.eff 10 .nil))))))))))) (le_w [true,false,true,true]) (le_w [false,false,true,true]) ?_ ?_
   ·decide +kernel
   refine x_p rfl<|vd<|x_vb rfl<|vl 1 tt_ok (v := ii e0.Epoch) ts_3 rfl<|vd<|x_va rfl<|vl 0 tt_ok (v := .bool (entry_index e0.Tenant z1.tenants)) ts_4 rfl<|vd<|x_p rfl<|vd<|x_p rfl ?_
   apply v_iteh h<;>clear h<;>intro h
   ·refine vd<|x_vb rfl<|v_T rfl<|vl 1 tt_ok (v := ii e0.Epoch) ts_3 rfl<|vd<|x_p rfl<|vd<|x_e rfl<|r_T rfl<|rc (hc_98 (n0 := e0.Epoch) (low1 := 1) (high2 := 1048576)) ?_
    rintro _ _ ⟨rfl,rfl⟩
    refine rd ⟨rfl,k_a (le_w [true,false,true,true]) (le_w [false,false,true,true]),?_⟩
    refine xp [(1,pp bq5 0),(4,ii e0.Epoch),(6,.bool true),(9,.bool (entry_between e0.Epoch 1 1048576)),(11,pp bq3 5)] fun fr => x_p rfl<|vd<|x_e rfl<|st 1 tt_ok (en_Entry (⟨e0.Kind,e0.Tick,e0.Tenant,(-1),(-1),e0.Epoch,0,0,0⟩ : Entry)) (f1 ts_3) rfl<|rd ⟨rfl,k_a (le_w [true,false,true,true]) (le_w [false,false,true,true]),?_⟩
    refine x_e rfl<|st 0 tt_ok ([.bool (entry_between e0.Epoch 1 1048576)]) (f1 ts_4) rfl<|rd ⟨rfl,k_b rfl (le_w [false,false,true,true]),?_⟩
    exact xk [] fun fr => rd ⟨(entry_between e0.Epoch 1 1048576),_,h,fe _,by kernel_rfl⟩
   refine vd<|x_vb rfl<|v_F rfl<|vd<|x_p rfl<|vd<|x_e rfl<|r_F rfl<|rd ⟨rfl,k_a (le_w [true,false,true,true]) (le_w [false,false,true,true]),?_⟩
   refine xp [(1,pp bq5 0),(4,ii e0.Epoch),(6,.bool false),(9,undef),(11,pp bq3 5)] fun fr => x_p rfl<|v_F rfl<|vd<|x_e rfl<|st 1 tt_ok (en_Entry (⟨e0.Kind,e0.Tick,e0.Tenant,(-1),(-1),e0.Epoch,0,0,0⟩ : Entry)) (f1 ts_3) rfl<|rd ⟨rfl,k_a (le_w [true,false,true,true]) (le_w [false,false,true,true]),?_⟩
   refine x_e rfl<|st 0 tt_ok ([.bool false]) (f1 ts_4) rfl<|rd ⟨rfl,k_b rfl (le_w [false,false,true,true]),?_⟩
   exact xk [] fun fr => rd ⟨false,_,h,fe _,by kernel_rfl⟩
   clear h
   rintro fr S ⟨y37,fr,h,rfl,rfl⟩
   replace h := hK39 _ h
   repeat refine rd ?_
   exact ret_of RV.nil (Le.refl _)<|rd<|r_le (le_w [true,true,false,true])<|rd ⟨(⟨e0.Kind,e0.Tick,e0.Tenant,(-1),(-1),e0.Epoch,0,0,0⟩ : Entry),y37,_,h,fe _,by kernel_rfl⟩
  refine rb<|kr [(2,pp bq1 0),(3,pp bq2 0),(5,pp bq3 0),(6,pp bq5 0),(7,.func (.func 99) #[] #[pp bq1 0,pp bq5 0,pp bq2 0,pp bq3 0]),(8,.func (.func 101) #[] #[pp bq1 0,pp bq5 0,pp bq2 0,pp bq3 0]),(9,.func (.func 102) #[] #[pp bq1 0,pp bq5 0,pp bq3 0]),(25,ii e0.Kind),(91,.bool (decide (e0.Kind = 4)))] fun fr => rd ?_
  apply r_iteh h<;>clear h<;>intro h
  ·refine rb<|r_inl (HC.intro (N := 15) (args := [_,_,_,_]) tt_ok Tryz.func99 rfl (by decide +kernel) rfl (Nat.le_of_ble_eq_true rfl) ?_)
   refine r_mix tt_ok hm_ok _ _ [12] (.pure 0 (.vb 1 (.va 2 (.pure 3 (.pure 4 (.vb 5 (.pure 6 (.vb 7 (.pure 10 (.eff 8 (.pure 9 (.eff 11 (.eff 12 .nil))))))))))))) (le_w [true,false,true,true]) (le_w [false,false,true,true]) ?_ ?_
   ·decide +kernel
   refine x_p rfl<|vd<|x_vb rfl<|vl 1 tt_ok (v := ii e0.Tenant) ts_3 rfl<|vd<|x_va rfl<|vl 0 tt_ok (v := .bool true) ts_4 rfl<|vd<|x_p rfl<|vd<|x_p rfl<|v_T rfl<|vd ?_
   refine x_vb rfl<|v_T rfl<|vl 1 tt_ok (v := ii e0.Tenant) ts_3 rfl<|vd<|x_p rfl<|v_T rfl<|vd<|x_vb rfl<|v_T rfl<|vl 0 tt_ok (v := ii z1.tenants) ts_3 rfl<|vd<|x_p rfl<|vd ?_
   refine xp [(1,pp bq5 0),(5,ii e0.Tenant),(7,.bool true),(9,ii e0.Tenant),(11,ii z1.tenants),(14,pp bq3 2)] fun fr => x_e rfl<|r_T rfl<|rc (hc_100 (n0 := e0.Tenant) (size1 := z1.tenants)) ?_
   rintro _ _ ⟨rfl,rfl⟩
   refine rd ⟨rfl,k_a (le_w [true,false,true,true]) (le_w [false,false,true,true]),?_⟩
   refine x_p rfl<|vd<|x_e rfl<|st 1 tt_ok (en_Entry (⟨e0.Kind,e0.Tick,e0.Tenant,(-1),(-1),0,0,0,0⟩ : Entry)) (f1 ts_3) rfl<|rd ⟨rfl,k_a (le_w [true,false,true,true]) (le_w [false,false,true,true]),?_⟩
   refine x_e rfl<|st 0 tt_ok ([.bool (entry_index e0.Tenant z1.tenants)]) (f1 ts_4) rfl<|rd ⟨rfl,k_b rfl (le_w [false,false,true,true]),?_⟩
   refine xk [] fun fr => ?_
   repeat refine rd ?_
   refine ret_of RV.nil (Le.refl _)<|rd ?_
   replace h := h_j h; obtain ⟨K44,h,hK45⟩ := h
   refine r_meet (fun fr S => ∃ (y43 : Bool),∃ fr0,K44 y43 = some r ∧ fr = updL [(2,pp bq1 0),(5,pp bq3 0),(6,pp bq5 0)] fr0 ∧ S = ⟨ρ,.obj bq5 ([.bool y43]) 4 :: .obj bq3 (en_Entry (⟨e0.Kind,e0.Tick,e0.Tenant,e0.Cell,(-1),0,0,0,0⟩ : Entry)) 45 :: .obj bq1 (en_Entry e0) 45 :: L⟩) ?_ ?_
   refine r_mix tt_ok hm_ok _ _ [17] (.pure 0 (.vb 1 (.va 2 (.pure 3 (.pure 4 (.vb 5 (.pure 6 (.pure 7 (.pure 8 (.vb 9 (.pure 10 (.vb 11 (.pure 15 (.eff 12 (.pure 13 (.pure 14 (.eff 16 (.eff 17 .nil)))))))))))))))))) (le_w [true,false,true,true]) (le_w [false,false,true,true]) ?_ ?_
   ·decide +kernel
   refine x_p rfl<|vd<|x_vb rfl<|vl 1 tt_ok (v := ii e0.Cell) ts_3 rfl<|vd<|x_va rfl<|vl 0 tt_ok (v := .bool (entry_index e0.Tenant z1.tenants)) ts_4 rfl<|vd<|x_p rfl<|vd<|x_p rfl ?_
   apply v_iteh h<;>clear h<;>intro h
   ·refine vd<|x_vb rfl<|v_T rfl<|vl 1 tt_ok (v := ii e0.Cell) ts_3 rfl<|vd<|xp [(2,pp bq1 0),(3,pp bq2 0),(5,pp bq3 0),(6,pp bq5 0),(96,ii e0.Cell),(98,.bool true),(100,ii e0.Cell)] fun fr => x_p rfl<|v_T rfl<|vd<|x_p rfl<|v_T rfl<|vd<|x_p rfl ?_
    apply v_iteh h<;>clear h<;>intro h
    ·refine vd<|x_vb rfl<|v_T rfl<|vd<|x_p rfl<|v_T rfl<|vd<|x_vb rfl<|v_T rfl<|vd<|x_p rfl<|vd<|x_e rfl ?_
     refine r_T rfl<|rd ⟨rfl,k_a (le_w [true,false,true,true]) (le_w [false,false,true,true]),?_⟩
     refine x_p rfl<|v_T rfl<|v_T rfl<|vd<|xp [(2,pp bq1 0),(5,pp bq3 0),(6,pp bq5 0),(96,ii e0.Cell),(98,.bool true),(108,.bool true),(110,pp bq3 3)] fun fr => x_p rfl<|vd<|x_e rfl<|st 1 tt_ok (en_Entry (⟨e0.Kind,e0.Tick,e0.Tenant,e0.Cell,(-1),0,0,0,0⟩ : Entry)) (f1 ts_3) rfl<|rd ⟨rfl,k_a (le_w [true,false,true,true]) (le_w [false,false,true,true]),?_⟩
     refine x_e rfl<|st 0 tt_ok ([.bool true]) (f1 ts_4) rfl<|rd ⟨rfl,k_b rfl (le_w [false,false,true,true]),?_⟩
     exact xk [(2,pp bq1 0),(5,pp bq3 0),(6,pp bq5 0)] fun fr => r_le (le_w [true,true,false,true])<|rd ⟨true,_,h,fe _,by kernel_rfl⟩
    refine vd<|x_vb rfl<|v_F rfl<|vl 1 tt_ok (v := ii e0.Cell) ts_3 rfl<|vd<|x_p rfl<|v_F rfl<|vd<|x_vb rfl<|v_F rfl<|vl 0 tt_ok (v := ii z1.cells) ts_3 rfl<|vd<|x_p rfl ?_
    refine vd<|x_e rfl<|r_F rfl<|rc (hc_100 (n0 := e0.Cell) (size1 := z1.cells)) ?_
    rintro _ _ ⟨rfl,rfl⟩
    refine rd ⟨rfl,k_a (le_w [true,false,true,true]) (le_w [false,false,true,true]),?_⟩
    refine x_p rfl<|v_T rfl<|vd<|xp [(2,pp bq1 0),(5,pp bq3 0),(6,pp bq5 0),(96,ii e0.Cell),(98,.bool true),(108,.bool (entry_index e0.Cell z1.cells)),(110,pp bq3 3)] fun fr => x_p rfl<|vd<|x_e rfl<|st 1 tt_ok (en_Entry (⟨e0.Kind,e0.Tick,e0.Tenant,e0.Cell,(-1),0,0,0,0⟩ : Entry)) (f1 ts_3) rfl<|rd ⟨rfl,k_a (le_w [true,false,true,true]) (le_w [false,false,true,true]),?_⟩
    refine x_e rfl<|st 0 tt_ok ([.bool (entry_index e0.Cell z1.cells)]) (f1 ts_4) rfl<|rd ⟨rfl,k_b rfl (le_w [false,false,true,true]),?_⟩
    exact xk [(2,pp bq1 0),(5,pp bq3 0),(6,pp bq5 0)] fun fr => r_le (le_w [true,true,false,true])<|rd ⟨(entry_index e0.Cell z1.cells),_,h,fe _,by kernel_rfl⟩
   refine vd<|x_vb rfl<|v_F rfl<|vd<|xp [(2,pp bq1 0),(3,pp bq2 0),(5,pp bq3 0),(6,pp bq5 0),(96,ii e0.Cell),(98,.bool false),(100,undef)] fun fr => x_p rfl<|v_F rfl<|vd<|x_p rfl<|v_F rfl<|vd<|x_p rfl<|vd ?_
   refine x_vb rfl<|vd<|x_p rfl<|vd<|x_vb rfl<|vd<|x_p rfl<|vd<|x_e rfl<|rd ⟨rfl,k_a (le_w [true,false,true,true]) (le_w [false,false,true,true]),?_⟩
   refine x_p rfl<|v_F rfl<|vd<|xp [(2,pp bq1 0),(5,pp bq3 0),(6,pp bq5 0),(96,ii e0.Cell),(98,.bool false),(108,undef),(110,pp bq3 3)] fun fr => x_p rfl<|v_F rfl<|vd<|x_e rfl<|st 1 tt_ok (en_Entry (⟨e0.Kind,e0.Tick,e0.Tenant,e0.Cell,(-1),0,0,0,0⟩ : Entry)) (f1 ts_3) rfl<|rd ⟨rfl,k_a (le_w [true,false,true,true]) (le_w [false,false,true,true]),?_⟩
   refine x_e rfl<|st 0 tt_ok ([.bool false]) (f1 ts_4) rfl<|rd ⟨rfl,k_b rfl (le_w [false,false,true,true]),?_⟩
   exact xk [(2,pp bq1 0),(5,pp bq3 0),(6,pp bq5 0)] fun fr => r_le (le_w [true,true,false,true])<|rd ⟨false,_,h,fe _,by kernel_rfl⟩
   clear h
   rintro fr S ⟨y43,fr,h,rfl,rfl⟩
   replace h := hK45 _ h
   exact rd<|rd ⟨(⟨e0.Kind,e0.Tick,e0.Tenant,e0.Cell,(-1),0,0,0,0⟩ : Entry),y43,_,h,fe _,by kernel_rfl⟩
  refine rb ?_
  replace h := h_j h; obtain ⟨K48,h,hK49⟩ := h
  refine r_meet (fun fr S => ∃ (x47 : Bool),∃ fr0,K48 x47 = some r ∧ fr = updL [(2,pp bq1 0),(3,pp bq2 0),(5,pp bq3 0),(6,pp bq5 0),(7,.func (.func 99) #[] #[pp bq1 0,pp bq5 0,pp bq2 0,pp bq3 0]),(8,.func (.func 101) #[] #[pp bq1 0,pp bq5 0,pp bq2 0,pp bq3 0]),(9,.func (.func 102) #[] #[pp bq1 0,pp bq5 0,pp bq3 0]),(25,ii e0.Kind),(111,.bool x47)] fr0 ∧ S = ⟨ρ,.obj bq5 ([.bool true]) 4 :: .obj bq3 (en_Entry (⟨e0.Kind,e0.Tick,(-1),(-1),(-1),0,0,0,0⟩ : Entry)) 45 :: .obj bq2 (en_entry_sizes z1) 106 :: .obj bq1 (en_Entry e0) 45 :: L⟩) ?_ ?_
  ·refine rb<|rd ?_
   apply r_iteh h<;>clear h<;>intro h
   ·exact rd ⟨true,_,h,fe _,by kernel_rfl⟩
   exact rd ⟨decide (e0.Kind = 6),_,h,fe _,by kernel_rfl⟩
  clear h
  rintro fr S ⟨x47,fr,h,rfl,rfl⟩
  replace h := hK49 _ h
  refine rd ?_
  apply r_iteh h<;>clear h<;>intro h
  ·refine rb<|r_inl (HC.intro (N := 15) (args := [_,_,_,_]) tt_ok Tryz.func99 rfl (by decide +kernel) rfl (Nat.le_of_ble_eq_true rfl) ?_)
   refine r_mix tt_ok hm_ok _ _ [12] (.pure 0 (.vb 1 (.va 2 (.pure 3 (.pure 4 (.vb 5 (.pure 6 (.vb 7 (.pure 10 (.eff 8 (.pure 9 (.eff 11 (.eff 12 .nil))))))))))))) (le_w [true,false,true,true]) (le_w [false,false,true,true]) ?_ ?_
   ·decide +kernel
   refine x_p rfl<|vd<|x_vb rfl<|vl 1 tt_ok (v := ii e0.Tenant) ts_3 rfl<|vd<|x_va rfl<|vl 0 tt_ok (v := .bool true) ts_4 rfl<|vd<|x_p rfl<|vd<|x_p rfl<|v_T rfl<|vd ?_
   refine x_vb rfl<|v_T rfl<|vl 1 tt_ok (v := ii e0.Tenant) ts_3 rfl<|vd<|x_p rfl<|v_T rfl<|vd<|x_vb rfl<|v_T rfl<|vl 0 tt_ok (v := ii z1.tenants) ts_3 rfl<|vd<|x_p rfl<|vd ?_
   refine xp [(1,pp bq5 0),(5,ii e0.Tenant),(7,.bool true),(9,ii e0.Tenant),(11,ii z1.tenants),(14,pp bq3 2)] fun fr => x_e rfl<|r_T rfl<|rc (hc_100 (n0 := e0.Tenant) (size1 := z1.tenants)) ?_
   rintro _ _ ⟨rfl,rfl⟩
   refine rd ⟨rfl,k_a (le_w [true,false,true,true]) (le_w [false,false,true,true]),?_⟩
   refine x_p rfl<|vd<|x_e rfl<|st 1 tt_ok (en_Entry (⟨e0.Kind,e0.Tick,e0.Tenant,(-1),(-1),0,0,0,0⟩ : Entry)) (f1 ts_3) rfl<|rd ⟨rfl,k_a (le_w [true,false,true,true]) (le_w [false,false,true,true]),?_⟩
   refine x_e rfl<|st 0 tt_ok ([.bool (entry_index e0.Tenant z1.tenants)]) (f1 ts_4) rfl<|rd ⟨rfl,k_b rfl (le_w [false,false,true,true]),?_⟩
   refine xk [] fun fr => ?_
   repeat refine rd ?_
   refine ret_of RV.nil (Le.refl _)<|rd<|r_inl (HC.intro (N := 15) (args := [_,_,_,_]) tt_ok Tryz.func101 rfl (by decide +kernel) rfl (Nat.le_of_ble_eq_true rfl) ?_)
   replace h := h_j h; obtain ⟨K53,h,hK54⟩ := h
   refine r_meet (fun fr S => ∃ (y52 : Bool),∃ fr0,K53 y52 = some r ∧ fr = updL [] fr0 ∧ S = ⟨ρ,.obj bq5 ([.bool y52]) 4 :: .obj bq3 (en_Entry (⟨e0.Kind,e0.Tick,e0.Tenant,e0.Cell,(-1),0,0,0,0⟩ : Entry)) 45 :: .obj bq2 (en_entry_sizes z1) 106 :: .obj bq1 (en_Entry e0) 45 :: L⟩) ?_ ?_
   refine r_mix tt_ok hm_ok _ _ [12] (.pure 0 (.vb 1 (.va 2 (.pure 3 (.pure 4 (.vb 5 (.pure 6 (.vb 7 (.pure 10 (.eff 8 (.pure 9 (.eff 11 (.eff 12 .nil))))))))))))) (le_w [true,false,true,true]) (le_w [false,false,true,true]) ?_ ?_
   ·decide +kernel
   refine x_p rfl<|vd<|x_vb rfl<|vl 1 tt_ok (v := ii e0.Cell) ts_3 rfl<|vd<|x_va rfl<|vl 0 tt_ok (v := .bool (entry_index e0.Tenant z1.tenants)) ts_4 rfl<|vd<|x_p rfl<|vd<|x_p rfl ?_
   apply v_iteh h<;>clear h<;>intro h
   ·refine vd<|x_vb rfl<|v_T rfl<|vl 1 tt_ok (v := ii e0.Cell) ts_3 rfl<|vd<|x_p rfl<|v_T rfl<|vd<|x_vb rfl<|v_T rfl<|vl 0 tt_ok (v := ii z1.cells) ts_3 rfl<|vd<|xp [(1,pp bq5 0),(3,pp bq3 0),(5,ii e0.Cell),(7,.bool true),(9,ii e0.Cell),(11,ii z1.cells)] fun fr => ?_
    refine x_p rfl<|vd<|x_e rfl<|r_T rfl<|rc (hc_100 (n0 := e0.Cell) (size1 := z1.cells)) ?_
    rintro _ _ ⟨rfl,rfl⟩
    refine rd ⟨rfl,k_a (le_w [true,false,true,true]) (le_w [false,false,true,true]),?_⟩
    refine x_p rfl<|vd<|x_e rfl<|st 1 tt_ok (en_Entry (⟨e0.Kind,e0.Tick,e0.Tenant,e0.Cell,(-1),0,0,0,0⟩ : Entry)) (f1 ts_3) rfl<|rd ⟨rfl,k_a (le_w [true,false,true,true]) (le_w [false,false,true,true]),?_⟩
    refine x_e rfl<|st 0 tt_ok ([.bool (entry_index e0.Cell z1.cells)]) (f1 ts_4) rfl<|rd ⟨rfl,k_b rfl (le_w [false,false,true,true]),?_⟩
    exact xk [] fun fr => rd ⟨(entry_index e0.Cell z1.cells),_,h,fe _,by kernel_rfl⟩
   refine vd<|x_vb rfl<|v_F rfl<|vd<|x_p rfl<|v_F rfl<|vd<|x_vb rfl<|v_F rfl<|vd<|xp [(1,pp bq5 0),(3,pp bq3 0),(5,ii e0.Cell),(7,.bool false),(9,undef),(11,undef)] fun fr => x_p rfl<|vd ?_
   refine x_e rfl<|r_F rfl<|rd ⟨rfl,k_a (le_w [true,false,true,true]) (le_w [false,false,true,true]),?_⟩
   refine x_p rfl<|v_F rfl<|vd<|x_e rfl<|st 1 tt_ok (en_Entry (⟨e0.Kind,e0.Tick,e0.Tenant,e0.Cell,(-1),0,0,0,0⟩ : Entry)) (f1 ts_3) rfl<|rd ⟨rfl,k_a (le_w [true,false,true,true]) (le_w [false,false,true,true]),?_⟩
   refine x_e rfl<|st 0 tt_ok ([.bool false]) (f1 ts_4) rfl<|rd ⟨rfl,k_b rfl (le_w [false,false,true,true]),?_⟩
   exact xk [] fun fr => rd ⟨false,_,h,fe _,by kernel_rfl⟩
   clear h
   rintro fr S ⟨y52,fr,h,rfl,rfl⟩
   replace h := hK54 _ h
   repeat refine rd ?_
   exact ret_of RV.nil (Le.refl _)<|rd<|r_le (le_w [true,true,false,true])<|rd ⟨(⟨e0.Kind,e0.Tick,e0.Tenant,e0.Cell,(-1),0,0,0,0⟩ : Entry),y52,_,h,fe _,by kernel_rfl⟩
  refine rb<|rd ?_
  apply r_iteh h<;>clear h<;>intro h
  ·refine r_inl (HC.intro (N := 15) (args := [_,_,_,_]) tt_ok Tryz.func99 rfl (by decide +kernel) rfl (Nat.le_of_ble_eq_true rfl) ?_)
   refine r_mix tt_ok hm_ok _ _ [12] (.pure 0 (.vb 1 (.va 2 (.pure 3 (.pure 4 (.vb 5 (.pure 6 (.vb 7 (.pure 10 (.eff 8 (.pure 9 (.eff 11 (.eff 12 .nil))))))))))))) (le_w [true,false,true,true]) (le_w [false,false,true,true]) ?_ ?_
   ·decide +kernel
   refine x_p rfl<|vd<|x_vb rfl<|vl 1 tt_ok (v := ii e0.Tenant) ts_3 rfl<|vd<|x_va rfl<|vl 0 tt_ok (v := .bool true) ts_4 rfl<|vd<|x_p rfl<|vd<|x_p rfl<|v_T rfl<|vd ?_
   refine x_vb rfl<|v_T rfl<|vl 1 tt_ok (v := ii e0.Tenant) ts_3 rfl<|vd<|x_p rfl<|v_T rfl<|vd<|x_vb rfl<|v_T rfl<|vl 0 tt_ok (v := ii z1.tenants) ts_3 rfl<|vd<|x_p rfl<|vd ?_
   refine xp [(1,pp bq5 0),(5,ii e0.Tenant),(7,.bool true),(9,ii e0.Tenant),(11,ii z1.tenants),(14,pp bq3 2)] fun fr => x_e rfl<|r_T rfl<|rc (hc_100 (n0 := e0.Tenant) (size1 := z1.tenants)) ?_
   rintro _ _ ⟨rfl,rfl⟩
   refine rd ⟨rfl,k_a (le_w [true,false,true,true]) (le_w [false,false,true,true]),?_⟩
   refine x_p rfl<|vd<|x_e rfl<|st 1 tt_ok (en_Entry (⟨e0.Kind,e0.Tick,e0.Tenant,(-1),(-1),0,0,0,0⟩ : Entry)) (f1 ts_3) rfl<|rd ⟨rfl,k_a (le_w [true,false,true,true]) (le_w [false,false,true,true]),?_⟩
   refine x_e rfl<|st 0 tt_ok ([.bool (entry_index e0.Tenant z1.tenants)]) (f1 ts_4) rfl<|rd ⟨rfl,k_b rfl (le_w [false,false,true,true]),?_⟩
   refine xk [] fun fr => ?_
   repeat refine rd ?_
   exact ret_of RV.nil (Le.refl _)<|rd<|r_le (le_w [true,true,false,true])<|rd ⟨(⟨e0.Kind,e0.Tick,e0.Tenant,(-1),(-1),0,0,0,0⟩ : Entry),(entry_index e0.Tenant z1.tenants),_,h,fe _,by kernel_rfl⟩
  refine rb<|rd ?_
  apply r_iteh h<;>clear h<;>intro h
  ·refine rb<|r_inl (HC.intro (N := 15) (args := [_,_,_,_]) tt_ok Tryz.func99 rfl (by decide +kernel) rfl (Nat.le_of_ble_eq_true rfl) ?_)
   refine r_mix tt_ok hm_ok _ _ [12] (.pure 0 (.vb 1 (.va 2 (.pure 3 (.pure 4 (.vb 5 (.pure 6 (.vb 7 (.pure 10 (.eff 8 (.pure 9 (.eff 11 (.eff 12 .nil))))))))))))) (le_w [true,false,true,true]) (le_w [false,false,true,true]) ?_ ?_
   ·decide +kernel
   refine x_p rfl<|vd<|x_vb rfl<|vl 1 tt_ok (v := ii e0.Tenant) ts_3 rfl<|vd<|x_va rfl<|vl 0 tt_ok (v := .bool true) ts_4 rfl<|vd<|x_p rfl<|vd<|x_p rfl<|v_T rfl<|vd ?_
   refine x_vb rfl<|v_T rfl<|vl 1 tt_ok (v := ii e0.Tenant) ts_3 rfl<|vd<|x_p rfl<|v_T rfl<|vd<|x_vb rfl<|v_T rfl<|vl 0 tt_ok (v := ii z1.tenants) ts_3 rfl<|vd<|x_p rfl<|vd ?_
   refine xp [(1,pp bq5 0),(5,ii e0.Tenant),(7,.bool true),(9,ii e0.Tenant),(11,ii z1.tenants),(14,pp bq3 2)] fun fr => x_e rfl<|r_T rfl<|rc (hc_100 (n0 := e0.Tenant) (size1 := z1.tenants)) ?_
   rintro _ _ ⟨rfl,rfl⟩
   refine rd ⟨rfl,k_a (le_w [true,false,true,true]) (le_w [false,false,true,true]),?_⟩
   refine x_p rfl<|vd<|x_e rfl<|st 1 tt_ok (en_Entry (⟨e0.Kind,e0.Tick,e0.Tenant,(-1),(-1),0,0,0,0⟩ : Entry)) (f1 ts_3) rfl<|rd ⟨rfl,k_a (le_w [true,false,true,true]) (le_w [false,false,true,true]),?_⟩
   refine x_e rfl<|st 0 tt_ok ([.bool (entry_index e0.Tenant z1.tenants)]) (f1 ts_4) rfl<|rd ⟨rfl,k_b rfl (le_w [false,false,true,true]),?_⟩
   refine xk [] fun fr => ?_
   repeat refine rd ?_
   refine ret_of RV.nil (Le.refl _)<|rd<|r_inl (HC.intro (N := 18) (args := [_,_,_,_,_]) tt_ok Tryz.func102 rfl (by decide +kernel) rfl (Nat.le_of_ble_eq_true rfl) ?_)
   replace h := h_j h; obtain ⟨K59,h,hK60⟩ := h
   refine r_meet (fun fr S => ∃ (y58 : Bool),∃ fr0,K59 y58 = some r ∧ fr = updL [] fr0 ∧ S = ⟨ρ,.obj bq5 ([.bool y58]) 4 :: .obj bq3 (en_Entry (⟨e0.Kind,e0.Tick,e0.Tenant,(-1),(-1),0,0,0,e0.N⟩ : Entry)) 45 :: .obj bq2 (en_entry_sizes z1) 106 :: .obj bq1 (en_Entry e0) 45 :: L⟩) ?_ ?_
   refine r_mix tt_ok hm_ok _ _ [12] (.pure 0 (.vb 1 (.va 2 (.pure 3 (.pure 4 (.vb 5 (.pure 6 (.pure 7 (.pure 10 (.eff 8 (.pure 9 (.eff 11 (.eff 12 .nil))))))))))))) (le_w [true,false,true,true]) (le_w [false,false,true,true]) ?_ ?_
   ·decide +kernel
   refine x_p rfl<|vd<|x_vb rfl<|vl 1 tt_ok (v := ii e0.N) ts_3 rfl<|vd<|x_va rfl<|vl 0 tt_ok (v := .bool (entry_index e0.Tenant z1.tenants)) ts_4 rfl<|vd<|x_p rfl<|vd<|x_p rfl ?_
   apply v_iteh h<;>clear h<;>intro h
   ·refine vd<|x_vb rfl<|v_T rfl<|vl 1 tt_ok (v := ii e0.N) ts_3 rfl<|vd<|x_p rfl<|v_T rfl<|vd<|x_p rfl<|v_T rfl<|vd<|xp [(3,pp bq5 0),(4,pp bq3 0),(8,ii e0.N),(10,.bool true),(12,ii e0.N),(13,ii 0),(14,ii 1)] fun fr => x_p rfl ?_
    refine vd<|x_e rfl<|r_T rfl<|rc (hc_98 (n0 := e0.N) (low1 := 0) (high2 := 1)) ?_
    rintro _ _ ⟨rfl,rfl⟩
    refine rd ⟨rfl,k_a (le_w [true,false,true,true]) (le_w [false,false,true,true]),?_⟩
    refine x_p rfl<|vd<|x_e rfl<|st 1 tt_ok (en_Entry (⟨e0.Kind,e0.Tick,e0.Tenant,(-1),(-1),0,0,0,e0.N⟩ : Entry)) (f1 ts_3) rfl<|rd ⟨rfl,k_a (le_w [true,false,true,true]) (le_w [false,false,true,true]),?_⟩
    refine x_e rfl<|st 0 tt_ok ([.bool (entry_between e0.N 0 1)]) (f1 ts_4) rfl<|rd ⟨rfl,k_b rfl (le_w [false,false,true,true]),?_⟩
    exact xk [] fun fr => rd ⟨(entry_between e0.N 0 1),_,h,fe _,by kernel_rfl⟩
   refine vd<|x_vb rfl<|v_F rfl<|vd<|x_p rfl<|v_F rfl<|vd<|x_p rfl<|v_F rfl<|vd<|xp [(3,pp bq5 0),(4,pp bq3 0),(8,ii e0.N),(10,.bool false),(12,undef),(13,undef),(14,undef)] fun fr => x_p rfl<|vd ?_
   refine x_e rfl<|r_F rfl<|rd ⟨rfl,k_a (le_w [true,false,true,true]) (le_w [false,false,true,true]),?_⟩
   refine x_p rfl<|v_F rfl<|vd<|x_e rfl<|st 1 tt_ok (en_Entry (⟨e0.Kind,e0.Tick,e0.Tenant,(-1),(-1),0,0,0,e0.N⟩ : Entry)) (f1 ts_3) rfl<|rd ⟨rfl,k_a (le_w [true,false,true,true]) (le_w [false,false,true,true]),?_⟩
   refine x_e rfl<|st 0 tt_ok ([.bool false]) (f1 ts_4) rfl<|rd ⟨rfl,k_b rfl (le_w [false,false,true,true]),?_⟩
   exact xk [] fun fr => rd ⟨false,_,h,fe _,by kernel_rfl⟩
   clear h
   rintro fr S ⟨y58,fr,h,rfl,rfl⟩
   replace h := hK60 _ h
   repeat refine rd ?_
   exact ret_of RV.nil (Le.refl _)<|rd<|r_le (le_w [true,true,false,true])<|rd ⟨(⟨e0.Kind,e0.Tick,e0.Tenant,(-1),(-1),0,0,0,e0.N⟩ : Entry),y58,_,h,fe _,by kernel_rfl⟩
  refine rb<|rd ?_
  apply r_iteh h<;>clear h<;>intro h
  ·refine rb<|r_inl (HC.intro (N := 15) (args := [_,_,_,_]) tt_ok Tryz.func101 rfl (by decide +kernel) rfl (Nat.le_of_ble_eq_true rfl) ?_)
   refine r_mix tt_ok hm_ok _ _ [12] (.pure 0 (.vb 1 (.va 2 (.pure 3 (.pure 4 (.vb 5 (.pure 6 (.vb 7 (.pure 10 (.eff 8 (.pure 9 (.eff 11 (.eff 12 .nil))))))))))))) (le_w [true,false,true,true]) (le_w [false,false,true,true]) ?_ ?_
   ·decide +kernel
   refine x_p rfl<|vd<|x_vb rfl<|vl 1 tt_ok (v := ii e0.Cell) ts_3 rfl<|vd<|x_va rfl<|vl 0 tt_ok (v := .bool true) ts_4 rfl<|vd<|x_p rfl<|vd<|x_p rfl<|v_T rfl<|vd ?_
   refine x_vb rfl<|v_T rfl<|vl 1 tt_ok (v := ii e0.Cell) ts_3 rfl<|vd<|x_p rfl<|v_T rfl<|vd<|x_vb rfl<|v_T rfl<|vl 0 tt_ok (v := ii z1.cells) ts_3 rfl<|vd<|x_p rfl<|vd ?_
   refine xp [(1,pp bq5 0),(5,ii e0.Cell),(7,.bool true),(9,ii e0.Cell),(11,ii z1.cells),(14,pp bq3 3)] fun fr => x_e rfl<|r_T rfl<|rc (hc_100 (n0 := e0.Cell) (size1 := z1.cells)) ?_
   rintro _ _ ⟨rfl,rfl⟩
   refine rd ⟨rfl,k_a (le_w [true,false,true,true]) (le_w [false,false,true,true]),?_⟩
   refine x_p rfl<|vd<|x_e rfl<|st 1 tt_ok (en_Entry (⟨e0.Kind,e0.Tick,(-1),e0.Cell,(-1),0,0,0,0⟩ : Entry)) (f1 ts_3) rfl<|rd ⟨rfl,k_a (le_w [true,false,true,true]) (le_w [false,false,true,true]),?_⟩
   refine x_e rfl<|st 0 tt_ok ([.bool (entry_index e0.Cell z1.cells)]) (f1 ts_4) rfl<|rd ⟨rfl,k_b rfl (le_w [false,false,true,true]),?_⟩
   refine xk [] fun fr => ?_
   repeat refine rd ?_
   refine ret_of RV.nil (Le.refl _)<|rd<|r_inl (HC.intro (N := 18) (args := [_,_,_,_,_]) tt_ok Tryz.func102 rfl (by decide +kernel) rfl (Nat.le_of_ble_eq_true rfl) ?_)
   replace h := h_j h; obtain ⟨K64,h,hK65⟩ := h
   refine r_meet (fun fr S => ∃ (y63 : Bool),∃ fr0,K64 y63 = some r ∧ fr = updL [] fr0 ∧ S = ⟨ρ,.obj bq5 ([.bool y63]) 4 :: .obj bq3 (en_Entry (⟨e0.Kind,e0.Tick,(-1),e0.Cell,(-1),0,0,0,e0.N⟩ : Entry)) 45 :: .obj bq2 (en_entry_sizes z1) 106 :: .obj bq1 (en_Entry e0) 45 :: L⟩) ?_ ?_
   refine r_mix tt_ok hm_ok _ _ [12] (.pure 0 (.vb 1 (.va 2 (.pure 3 (.pure 4 (.vb 5 (.pure 6 (.pure 7 (.pure 10 (.eff 8 (.pure 9 (.eff 11 (.eff 12 .nil))))))))))))) (le_w [true,false,true,true]) (le_w [false,false,true,true]) ?_ ?_
   ·decide +kernel
   refine x_p rfl<|vd<|x_vb rfl<|vl 1 tt_ok (v := ii e0.N) ts_3 rfl<|vd<|x_va rfl<|vl 0 tt_ok (v := .bool (entry_index e0.Cell z1.cells)) ts_4 rfl<|vd<|x_p rfl<|vd<|x_p rfl ?_
   apply v_iteh h<;>clear h<;>intro h
   ·refine vd<|x_vb rfl<|v_T rfl<|vl 1 tt_ok (v := ii e0.N) ts_3 rfl<|vd<|x_p rfl<|v_T rfl<|vd<|x_p rfl<|v_T rfl<|vd<|xp [(3,pp bq5 0),(4,pp bq3 0),(8,ii e0.N),(10,.bool true),(12,ii e0.N),(13,ii 1),(14,ii 3)] fun fr => x_p rfl ?_
    refine vd<|x_e rfl<|r_T rfl<|rc (hc_98 (n0 := e0.N) (low1 := 1) (high2 := 3)) ?_
    rintro _ _ ⟨rfl,rfl⟩
    refine rd ⟨rfl,k_a (le_w [true,false,true,true]) (le_w [false,false,true,true]),?_⟩
    refine x_p rfl<|vd<|x_e rfl<|st 1 tt_ok (en_Entry (⟨e0.Kind,e0.Tick,(-1),e0.Cell,(-1),0,0,0,e0.N⟩ : Entry)) (f1 ts_3) rfl<|rd ⟨rfl,k_a (le_w [true,false,true,true]) (le_w [false,false,true,true]),?_⟩
    refine x_e rfl<|st 0 tt_ok ([.bool (entry_between e0.N 1 3)]) (f1 ts_4) rfl<|rd ⟨rfl,k_b rfl (le_w [false,false,true,true]),?_⟩
    exact xk [] fun fr => rd ⟨(entry_between e0.N 1 3),_,h,fe _,by kernel_rfl⟩
   refine vd<|x_vb rfl<|v_F rfl<|vd<|x_p rfl<|v_F rfl<|vd<|x_p rfl<|v_F rfl<|vd<|xp [(3,pp bq5 0),(4,pp bq3 0),(8,ii e0.N),(10,.bool false),(12,undef),(13,undef),(14,undef)] fun fr => x_p rfl<|vd ?_
   refine x_e rfl<|r_F rfl<|rd ⟨rfl,k_a (le_w [true,false,true,true]) (le_w [false,false,true,true]),?_⟩
   refine x_p rfl<|v_F rfl<|vd<|x_e rfl<|st 1 tt_ok (en_Entry (⟨e0.Kind,e0.Tick,(-1),e0.Cell,(-1),0,0,0,e0.N⟩ : Entry)) (f1 ts_3) rfl<|rd ⟨rfl,k_a (le_w [true,false,true,true]) (le_w [false,false,true,true]),?_⟩
   refine x_e rfl<|st 0 tt_ok ([.bool false]) (f1 ts_4) rfl<|rd ⟨rfl,k_b rfl (le_w [false,false,true,true]),?_⟩
   exact xk [] fun fr => rd ⟨false,_,h,fe _,by kernel_rfl⟩
   clear h
   rintro fr S ⟨y63,fr,h,rfl,rfl⟩
   replace h := hK65 _ h
   repeat refine rd ?_
   exact ret_of RV.nil (Le.refl _)<|kr [(2,pp bq1 0),(5,pp bq3 0),(6,pp bq5 0)] fun fr => rd<|r_le (le_w [true,true,false,true])<|rd ⟨(⟨e0.Kind,e0.Tick,(-1),e0.Cell,(-1),0,0,0,e0.N⟩ : Entry),y63,_,h,fe _,by kernel_rfl⟩
  refine rb ?_
  replace h := h_j h; obtain ⟨K68,h,hK69⟩ := h
  refine r_meet (fun fr S => ∃ (x67 : Bool),∃ fr0,K68 x67 = some r ∧ fr = updL [(2,pp bq1 0),(3,pp bq2 0),(5,pp bq3 0),(6,pp bq5 0),(8,.func (.func 101) #[] #[pp bq1 0,pp bq5 0,pp bq2 0,pp bq3 0]),(9,.func (.func 102) #[] #[pp bq1 0,pp bq5 0,pp bq3 0]),(25,ii e0.Kind),(134,.bool x67)] fr0 ∧ S = ⟨ρ,.obj bq5 ([.bool true]) 4 :: .obj bq3 (en_Entry (⟨e0.Kind,e0.Tick,(-1),(-1),(-1),0,0,0,0⟩ : Entry)) 45 :: .obj bq2 (en_entry_sizes z1) 106 :: .obj bq1 (en_Entry e0) 45 :: L⟩) ?_ ?_
  ·refine rb<|kr [(2,pp bq1 0),(3,pp bq2 0),(5,pp bq3 0),(6,pp bq5 0),(8,.func (.func 101) #[] #[pp bq1 0,pp bq5 0,pp bq2 0,pp bq3 0]),(9,.func (.func 102) #[] #[pp bq1 0,pp bq5 0,pp bq3 0]),(25,ii e0.Kind),(134,.bool (decide (e0.Kind = 10)))] fun fr => rd ?_
   apply r_iteh h<;>clear h<;>intro h
   ·exact rd ⟨true,_,h,fe _,by kernel_rfl⟩
   exact rd ⟨decide (e0.Kind = 11),_,h,fe _,by kernel_rfl⟩
  clear h
  rintro fr S ⟨x67,fr,h,rfl,rfl⟩
  replace h := hK69 _ h
  refine rd ?_
  apply r_iteh h<;>clear h<;>intro h
  ·refine rb<|r_inl (HC.intro (N := 15) (args := [_,_,_,_]) tt_ok Tryz.func101 rfl (by decide +kernel) rfl (Nat.le_of_ble_eq_true rfl) ?_)
   refine r_mix tt_ok hm_ok _ _ [12] (.pure 0 (.vb 1 (.va 2 (.pure 3 (.pure 4 (.vb 5 (.pure 6 (.vb 7 (.pure 10 (.eff 8 (.pure 9 (.eff 11 (.eff 12 .nil))))))))))))) (le_w [true,false,true,true]) (le_w [false,false,true,true]) ?_ ?_
   ·decide +kernel
   refine x_p rfl<|vd<|x_vb rfl<|vl 1 tt_ok (v := ii e0.Cell) ts_3 rfl<|vd<|x_va rfl<|vl 0 tt_ok (v := .bool true) ts_4 rfl<|vd<|x_p rfl<|vd<|x_p rfl<|v_T rfl<|vd ?_
   refine x_vb rfl<|v_T rfl<|vl 1 tt_ok (v := ii e0.Cell) ts_3 rfl<|vd<|x_p rfl<|v_T rfl<|vd<|x_vb rfl<|v_T rfl<|vl 0 tt_ok (v := ii z1.cells) ts_3 rfl<|vd<|x_p rfl<|vd ?_
   refine xp [(1,pp bq5 0),(5,ii e0.Cell),(7,.bool true),(9,ii e0.Cell),(11,ii z1.cells),(14,pp bq3 3)] fun fr => x_e rfl<|r_T rfl<|rc (hc_100 (n0 := e0.Cell) (size1 := z1.cells)) ?_
   rintro _ _ ⟨rfl,rfl⟩
   refine rd ⟨rfl,k_a (le_w [true,false,true,true]) (le_w [false,false,true,true]),?_⟩
   refine x_p rfl<|vd<|x_e rfl<|st 1 tt_ok (en_Entry (⟨e0.Kind,e0.Tick,(-1),e0.Cell,(-1),0,0,0,0⟩ : Entry)) (f1 ts_3) rfl<|rd ⟨rfl,k_a (le_w [true,false,true,true]) (le_w [false,false,true,true]),?_⟩
   refine x_e rfl<|st 0 tt_ok ([.bool (entry_index e0.Cell z1.cells)]) (f1 ts_4) rfl<|rd ⟨rfl,k_b rfl (le_w [false,false,true,true]),?_⟩
   refine xk [] fun fr => ?_
   repeat refine rd ?_
   refine ret_of RV.nil (Le.refl _)<|rd<|ld 2 tt_ok (v := ii z1.versions) ts_3 rfl<|r_num (e' := w64 (z1.versions - 1)) rfl<|r_inl (HC.intro (N := 18) (args := [_,_,_,_,_]) tt_ok Tryz.func102 rfl (by decide +kernel) rfl (Nat.le_of_ble_eq_true rfl) ?_)
   replace h := h_j h; obtain ⟨K73,h,hK74⟩ := h
   refine r_meet (fun fr S => ∃ (y72 : Bool),∃ fr0,K73 y72 = some r ∧ fr = updL [] fr0 ∧ S = ⟨ρ,.obj bq5 ([.bool y72]) 4 :: .obj bq3 (en_Entry (⟨e0.Kind,e0.Tick,(-1),e0.Cell,(-1),0,0,0,e0.N⟩ : Entry)) 45 :: .obj bq2 (en_entry_sizes z1) 106 :: .obj bq1 (en_Entry e0) 45 :: L⟩) ?_ ?_
   refine r_mix tt_ok hm_ok _ _ [12] (.pure 0 (.vb 1 (.va 2 (.pure 3 (.pure 4 (.vb 5 (.pure 6 (.pure 7 (.pure 10 (.eff 8 (.pure 9 (.eff 11 (.eff 12 .nil))))))))))))) (le_w [true,false,true,true]) (le_w [false,false,true,true]) ?_ ?_
   ·decide +kernel
   refine x_p rfl<|vd<|x_vb rfl<|vl 1 tt_ok (v := ii e0.N) ts_3 rfl<|vd<|x_va rfl<|vl 0 tt_ok (v := .bool (entry_index e0.Cell z1.cells)) ts_4 rfl<|vd<|x_p rfl<|vd<|x_p rfl ?_
   apply v_iteh h<;>clear h<;>intro h
   ·refine vd<|x_vb rfl<|v_T rfl<|vl 1 tt_ok (v := ii e0.N) ts_3 rfl<|vd<|x_p rfl<|v_T rfl<|vd<|x_p rfl<|v_T rfl<|vd<|xp [(3,pp bq5 0),(4,pp bq3 0),(8,ii e0.N),(10,.bool true),(12,ii e0.N),(13,ii 0),(14,ii (w64 (z1.versions - 1)))] fun fr => x_p rfl ?_
    refine vd<|x_e rfl<|r_T rfl<|rc (hc_98 (n0 := e0.N) (low1 := 0) (high2 := w64 (z1.versions - 1))) ?_
    rintro _ _ ⟨rfl,rfl⟩
    refine rd ⟨rfl,k_a (le_w [true,false,true,true]) (le_w [false,false,true,true]),?_⟩
    refine x_p rfl<|vd<|x_e rfl<|st 1 tt_ok (en_Entry (⟨e0.Kind,e0.Tick,(-1),e0.Cell,(-1),0,0,0,e0.N⟩ : Entry)) (f1 ts_3) rfl<|rd ⟨rfl,k_a (le_w [true,false,true,true]) (le_w [false,false,true,true]),?_⟩
    refine x_e rfl<|st 0 tt_ok ([.bool (entry_between e0.N 0 (w64 (z1.versions - 1)))]) (f1 ts_4) rfl<|rd ⟨rfl,k_b rfl (le_w [false,false,true,true]),?_⟩
    exact xk [] fun fr => rd ⟨(entry_between e0.N 0 (w64 (z1.versions - 1))),_,h,fe _,by kernel_rfl⟩
   refine vd<|x_vb rfl<|v_F rfl<|vd<|x_p rfl<|v_F rfl<|vd<|x_p rfl<|v_F rfl<|vd<|xp [(3,pp bq5 0),(4,pp bq3 0),(8,ii e0.N),(10,.bool false),(12,undef),(13,undef),(14,undef)] fun fr => x_p rfl<|vd ?_
   refine x_e rfl<|r_F rfl<|rd ⟨rfl,k_a (le_w [true,false,true,true]) (le_w [false,false,true,true]),?_⟩
   refine x_p rfl<|v_F rfl<|vd<|x_e rfl<|st 1 tt_ok (en_Entry (⟨e0.Kind,e0.Tick,(-1),e0.Cell,(-1),0,0,0,e0.N⟩ : Entry)) (f1 ts_3) rfl<|rd ⟨rfl,k_a (le_w [true,false,true,true]) (le_w [false,false,true,true]),?_⟩
   refine x_e rfl<|st 0 tt_ok ([.bool false]) (f1 ts_4) rfl<|rd ⟨rfl,k_b rfl (le_w [false,false,true,true]),?_⟩
   exact xk [] fun fr => rd ⟨false,_,h,fe _,by kernel_rfl⟩
   clear h
   rintro fr S ⟨y72,fr,h,rfl,rfl⟩
   replace h := hK74 _ h
   repeat refine rd ?_
   exact ret_of RV.nil (Le.refl _)<|rd<|r_le (le_w [true,true,false,true])<|rd ⟨(⟨e0.Kind,e0.Tick,(-1),e0.Cell,(-1),0,0,0,e0.N⟩ : Entry),y72,_,h,fe _,by kernel_rfl⟩
  refine rb<|rd ?_
  apply r_iteh h<;>clear h<;>intro h
  ·refine ld 2 tt_ok (v := ii z1.versions) ts_3 rfl<|r_num (e' := w64 (z1.versions - 1)) rfl<|r_inl (HC.intro (N := 18) (args := [_,_,_,_,_]) tt_ok Tryz.func102 rfl (by decide +kernel) rfl (Nat.le_of_ble_eq_true rfl) ?_)
   refine r_mix tt_ok hm_ok _ _ [12] (.pure 0 (.vb 1 (.va 2 (.pure 3 (.pure 4 (.vb 5 (.pure 6 (.pure 7 (.pure 10 (.eff 8 (.pure 9 (.eff 11 (.eff 12 .nil))))))))))))) (le_w [true,false,true,true]) (le_w [false,false,true,true]) ?_ ?_
   ·decide +kernel
   refine x_p rfl<|vd<|x_vb rfl<|vl 1 tt_ok (v := ii e0.N) ts_3 rfl<|vd<|x_va rfl<|vl 0 tt_ok (v := .bool true) ts_4 rfl<|vd<|x_p rfl<|vd<|x_p rfl<|v_T rfl<|vd ?_
   refine x_vb rfl<|v_T rfl<|vl 1 tt_ok (v := ii e0.N) ts_3 rfl<|vd<|x_p rfl<|v_T rfl<|vd<|x_p rfl<|v_T rfl<|vd<|x_p rfl<|vd<|xp [(3,pp bq5 0),(8,ii e0.N),(10,.bool true),(12,ii e0.N),(13,ii 0),(14,ii (w64 (z1.versions - 1))),(17,pp bq3 8)] fun fr => ?_
   refine x_e rfl<|r_T rfl<|rc (hc_98 (n0 := e0.N) (low1 := 0) (high2 := w64 (z1.versions - 1))) ?_
   rintro _ _ ⟨rfl,rfl⟩
   refine rd ⟨rfl,k_a (le_w [true,false,true,true]) (le_w [false,false,true,true]),?_⟩
   refine x_p rfl<|vd<|x_e rfl<|st 1 tt_ok (en_Entry (⟨e0.Kind,e0.Tick,(-1),(-1),(-1),0,0,0,e0.N⟩ : Entry)) (f1 ts_3) rfl<|rd ⟨rfl,k_a (le_w [true,false,true,true]) (le_w [false,false,true,true]),?_⟩
   refine x_e rfl<|st 0 tt_ok ([.bool (entry_between e0.N 0 (w64 (z1.versions - 1)))]) (f1 ts_4) rfl<|rd ⟨rfl,k_b rfl (le_w [false,false,true,true]),?_⟩
   refine xk [] fun fr => ?_
   repeat refine rd ?_
   exact ret_of RV.nil (Le.refl _)<|rd<|r_le (le_w [true,true,false,true])<|rd ⟨(⟨e0.Kind,e0.Tick,(-1),(-1),(-1),0,0,0,e0.N⟩ : Entry),(entry_between e0.N 0 (w64 (z1.versions - 1))),_,h,fe _,by kernel_rfl⟩
  refine rb<|rd ?_
  apply r_iteh h<;>clear h<;>intro h
  ·refine rb<|r_mix tt_ok hm_ok _ _ [12] (.pure 0 (.vb 1 (.va 2 (.pure 3 (.pure 4 (.vb 5 (.pure 6 (.vb 7 (.pure 10 (.eff 8 (.pure 9 (.eff 11 (.eff 12 .nil))))))))))))) (le_w [true,false,true,true]) (le_w [false,false,true,true]) ?_ ?_
   ·decide +kernel
   refine x_p rfl<|vd<|x_vb rfl<|vl 1 tt_ok (v := ii e0.Other) ts_3 rfl<|vd<|x_va rfl<|vl 0 tt_ok (v := .bool true) ts_4 rfl<|vd<|x_p rfl<|vd<|x_p rfl<|v_T rfl<|vd ?_
   refine x_vb rfl<|v_T rfl<|vl 1 tt_ok (v := ii e0.Other) ts_3 rfl<|vd<|x_p rfl<|v_T rfl<|vd<|x_vb rfl<|v_T rfl<|vl 0 tt_ok (v := ii z1.regions) ts_3 rfl<|vd<|x_p rfl<|vd ?_
   refine xp [(2,pp bq1 0),(5,pp bq3 0),(6,pp bq5 0),(9,.func (.func 102) #[] #[pp bq1 0,pp bq5 0,pp bq3 0]),(154,ii e0.Other),(156,.bool true),(158,ii e0.Other),(160,ii z1.regions),(163,pp bq3 4)] fun fr => x_e rfl<|r_T rfl<|rc (hc_100 (n0 := e0.Other) (size1 := z1.regions)) ?_
   rintro _ _ ⟨rfl,rfl⟩
   refine rd ⟨rfl,k_a (le_w [true,false,true,true]) (le_w [false,false,true,true]),?_⟩
   refine x_p rfl<|vd<|x_e rfl<|st 1 tt_ok (en_Entry (⟨e0.Kind,e0.Tick,(-1),(-1),e0.Other,0,0,0,0⟩ : Entry)) (f1 ts_3) rfl<|rd ⟨rfl,k_a (le_w [true,false,true,true]) (le_w [false,false,true,true]),?_⟩
   refine x_e rfl<|st 0 tt_ok ([.bool (entry_index e0.Other z1.regions)]) (f1 ts_4) rfl<|rd ⟨rfl,k_b rfl (le_w [false,false,true,true]),?_⟩
   refine xk [(2,pp bq1 0),(5,pp bq3 0),(6,pp bq5 0),(9,.func (.func 102) #[] #[pp bq1 0,pp bq5 0,pp bq3 0])] fun fr => rd<|r_inl (HC.intro (N := 18) (args := [_,_,_,_,_]) tt_ok Tryz.func102 rfl (by decide +kernel) rfl (Nat.le_of_ble_eq_true rfl) ?_)
   replace h := h_j h; obtain ⟨K79,h,hK80⟩ := h
   refine r_meet (fun fr S => ∃ (y78 : Bool),∃ fr0,K79 y78 = some r ∧ fr = updL [] fr0 ∧ S = ⟨ρ,.obj bq5 ([.bool y78]) 4 :: .obj bq3 (en_Entry (⟨e0.Kind,e0.Tick,(-1),(-1),e0.Other,0,0,0,e0.N⟩ : Entry)) 45 :: .obj bq2 (en_entry_sizes z1) 106 :: .obj bq1 (en_Entry e0) 45 :: L⟩) ?_ ?_
   refine r_mix tt_ok hm_ok _ _ [12] (.pure 0 (.vb 1 (.va 2 (.pure 3 (.pure 4 (.vb 5 (.pure 6 (.pure 7 (.pure 10 (.eff 8 (.pure 9 (.eff 11 (.eff 12 .nil))))))))))))) (le_w [true,false,true,true]) (le_w [false,false,true,true]) ?_ ?_
   ·decide +kernel
   refine x_p rfl<|vd<|x_vb rfl<|vl 1 tt_ok (v := ii e0.N) ts_3 rfl<|vd<|x_va rfl<|vl 0 tt_ok (v := .bool (entry_index e0.Other z1.regions)) ts_4 rfl<|vd<|x_p rfl<|vd<|x_p rfl ?_
   apply v_iteh h<;>clear h<;>intro h
   ·refine vd<|x_vb rfl<|v_T rfl<|vl 1 tt_ok (v := ii e0.N) ts_3 rfl<|vd<|x_p rfl<|v_T rfl<|vd<|x_p rfl<|v_T rfl<|vd<|xp [(3,pp bq5 0),(4,pp bq3 0),(8,ii e0.N),(10,.bool true),(12,ii e0.N),(13,ii 0),(14,ii 1)] fun fr => x_p rfl ?_
    refine vd<|x_e rfl<|r_T rfl<|rc (hc_98 (n0 := e0.N) (low1 := 0) (high2 := 1)) ?_
    rintro _ _ ⟨rfl,rfl⟩
    refine rd ⟨rfl,k_a (le_w [true,false,true,true]) (le_w [false,false,true,true]),?_⟩
    refine x_p rfl<|vd<|x_e rfl<|st 1 tt_ok (en_Entry (⟨e0.Kind,e0.Tick,(-1),(-1),e0.Other,0,0,0,e0.N⟩ : Entry)) (f1 ts_3) rfl<|rd ⟨rfl,k_a (le_w [true,false,true,true]) (le_w [false,false,true,true]),?_⟩
    refine x_e rfl<|st 0 tt_ok ([.bool (entry_between e0.N 0 1)]) (f1 ts_4) rfl<|rd ⟨rfl,k_b rfl (le_w [false,false,true,true]),?_⟩
    exact xk [] fun fr => rd ⟨(entry_between e0.N 0 1),_,h,fe _,by kernel_rfl⟩
   refine vd<|x_vb rfl<|v_F rfl<|vd<|x_p rfl<|v_F rfl<|vd<|x_p rfl<|v_F rfl<|vd<|xp [(3,pp bq5 0),(4,pp bq3 0),(8,ii e0.N),(10,.bool false),(12,undef),(13,undef),(14,undef)] fun fr => x_p rfl<|vd ?_
   refine x_e rfl<|r_F rfl<|rd ⟨rfl,k_a (le_w [true,false,true,true]) (le_w [false,false,true,true]),?_⟩
   refine x_p rfl<|v_F rfl<|vd<|x_e rfl<|st 1 tt_ok (en_Entry (⟨e0.Kind,e0.Tick,(-1),(-1),e0.Other,0,0,0,e0.N⟩ : Entry)) (f1 ts_3) rfl<|rd ⟨rfl,k_a (le_w [true,false,true,true]) (le_w [false,false,true,true]),?_⟩
   refine x_e rfl<|st 0 tt_ok ([.bool false]) (f1 ts_4) rfl<|rd ⟨rfl,k_b rfl (le_w [false,false,true,true]),?_⟩
   exact xk [] fun fr => rd ⟨false,_,h,fe _,by kernel_rfl⟩
   clear h
   rintro fr S ⟨y78,fr,h,rfl,rfl⟩
   replace h := hK80 _ h
   repeat refine rd ?_
   exact ret_of RV.nil (Le.refl _)<|rd<|r_le (le_w [true,true,false,true])<|rd ⟨(⟨e0.Kind,e0.Tick,(-1),(-1),e0.Other,0,0,0,e0.N⟩ : Entry),y78,_,h,fe _,by kernel_rfl⟩
  refine rb ?_
  replace h := h_j h; obtain ⟨K83,h,hK84⟩ := h
  refine r_meet (fun fr S => ∃ (x82 : Bool),∃ fr0,K83 x82 = some r ∧ fr = updL [(2,pp bq1 0),(5,pp bq3 0),(6,pp bq5 0),(9,.func (.func 102) #[] #[pp bq1 0,pp bq5 0,pp bq3 0]),(25,ii e0.Kind),(166,.bool x82)] fr0 ∧ S = ⟨ρ,.obj bq5 ([.bool true]) 4 :: .obj bq3 (en_Entry (⟨e0.Kind,e0.Tick,(-1),(-1),(-1),0,0,0,0⟩ : Entry)) 45 :: .obj bq1 (en_Entry e0) 45 :: L⟩) ?_ ?_
  ·refine rb<|rd ?_
   apply r_iteh h<;>clear h<;>intro h
   ·exact r_le (le_w [true,true,false,true])<|rd ⟨true,_,h,fe _,by kernel_rfl⟩
   exact kr [(2,pp bq1 0),(5,pp bq3 0),(6,pp bq5 0),(9,.func (.func 102) #[] #[pp bq1 0,pp bq5 0,pp bq3 0]),(25,ii e0.Kind),(166,.bool (decide (e0.Kind = 15)))] fun fr => r_le (le_w [true,true,false,true])<|rd ⟨decide (e0.Kind = 15),_,h,fe _,by kernel_rfl⟩
  clear h
  rintro fr S ⟨x82,fr,h,rfl,rfl⟩
  replace h := hK84 _ h
  refine rd ?_
  apply r_iteh h<;>clear h<;>intro h
  ·exact rd<|rd ⟨(⟨e0.Kind,e0.Tick,(-1),(-1),(-1),0,0,0,0⟩ : Entry),true,_,h,fe _,by kernel_rfl⟩
  refine rb<|rd ?_
  apply r_iteh h<;>clear h<;>intro h
  ·refine r_inl (HC.intro (N := 18) (args := [_,_,_,_,_]) tt_ok Tryz.func102 rfl (by decide +kernel) rfl (Nat.le_of_ble_eq_true rfl) ?_)
   refine r_mix tt_ok hm_ok _ _ [12] (.pure 0 (.vb 1 (.va 2 (.pure 3 (.pure 4 (.vb 5 (.pure 6 (.pure 7 (.pure 10 (.eff 8 (.pure 9 (.eff 11 (.eff 12 .nil))))))))))))) (le_w [true,false,true]) (le_w [false,false,true]) ?_ ?_
   ·decide +kernel
   refine x_p rfl<|vd<|x_vb rfl<|vl 0 tt_ok (v := ii e0.N) ts_3 rfl<|vd<|x_va rfl<|vl 0 tt_ok (v := .bool true) ts_4 rfl<|vd<|x_p rfl<|vd<|x_p rfl<|v_T rfl<|vd ?_
   refine x_vb rfl<|v_T rfl<|vl 0 tt_ok (v := ii e0.N) ts_3 rfl<|vd<|x_p rfl<|v_T rfl<|vd<|x_p rfl<|v_T rfl<|vd<|x_p rfl<|vd<|xp [(3,pp bq5 0),(8,ii e0.N),(10,.bool true),(12,ii e0.N),(13,ii 0),(14,ii 1073741824),(17,pp bq3 8)] fun fr => ?_
   refine x_e rfl<|r_T rfl<|rc (hc_98 (n0 := e0.N) (low1 := 0) (high2 := 1073741824)) ?_
   rintro _ _ ⟨rfl,rfl⟩
   refine rd ⟨rfl,k_a (le_w [true,false,true]) (le_w [false,false,true]),?_⟩
   refine x_p rfl<|vd<|x_e rfl<|st 1 tt_ok (en_Entry (⟨e0.Kind,e0.Tick,(-1),(-1),(-1),0,0,0,e0.N⟩ : Entry)) (f1 ts_3) rfl<|rd ⟨rfl,k_a (le_w [true,false,true]) (le_w [false,false,true]),?_⟩
   refine x_e rfl<|st 0 tt_ok ([.bool (entry_between e0.N 0 1073741824)]) (f1 ts_4) rfl<|rd ⟨rfl,k_b rfl (le_w [false,false,true]),?_⟩
   refine xk [] fun fr => ?_
   repeat refine rd ?_
   exact ret_of RV.nil (Le.refl _)<|rd<|rd ⟨(⟨e0.Kind,e0.Tick,(-1),(-1),(-1),0,0,0,e0.N⟩ : Entry),(entry_between e0.N 0 1073741824),_,h,fe _,by kernel_rfl⟩
  refine rb<|rd ?_
  repeat refine rd ?_
  subst hK90
  repeat refine rd ?_
  obtain rfl := h_out h
  exact ret_of (RV.tmp RV.nil) (le_w [false,false,false]) ⟨rfl,rfl⟩
 clear h
 rintro fr S ⟨y87,y88,fr,h,rfl,rfl⟩
 subst hK90
 refine rd<|rb<|r_meet (fun fr S => ∃ fr0,fr = updL [(4,.bool (y88 && (decide (e0 = y87))))] fr0 ∧ S = ⟨ρ,.obj bq5 ([.bool y88]) 4 :: .obj bq3 (en_Entry y87) 45 :: .obj bq1 (en_Entry e0) 45 :: L⟩) ?_ ?_
 ·refine ld 0 tt_ok (v := .bool y88) ts_4 rfl<|r_ite (fun (hb91 : y88 = true) => ?_) (fun (hb91 : y88 = false) => ?_)
  ·exact ln 2 tt_ok (en_Entry e0) ta_45 rfl<|r_T rfl<|ln 1 tt_ok (en_Entry y87) ta_45 rfl<|r_T rfl<|r_op (fun w => ex_eqS (fun w => eq_Entry e0 y87 w) (by decide +kernel) rfl rfl rfl w)<|kr [(4,.bool (decide (e0 = y87)))] fun fr => rd ⟨_,fr_eq _ (by (try rw [hb91]); kernel_rfl),by kernel_rfl⟩
  exact r_F rfl<|r_F rfl<|r_F rfl<|kp [(178,.bool false)] fun fr => rd ⟨_,fr_eq _ (by (try rw [hb91]); kernel_rfl),by kernel_rfl⟩
 rintro fr S ⟨fr,rfl,rfl⟩
 refine rd ?_
 repeat refine rd ?_
 repeat refine rd ?_
 obtain rfl := h_out h
 exact ret_of (RV.tmp RV.nil) (le_w [false,false,false]) ⟨rfl,rfl⟩
theorem hc_67   (e0 : Entry)  {r : Bool} (h : entry_Shape e0 = some r) : HC Tryz.prog 67 #[.agg (en_Entry e0).toArray] ⟨ρ,L⟩ (fun v S' => v = .bool r ∧ S' = ⟨ρ,L⟩) := by
 replace h := h_in h
 refine HC.intro (N := 6) (args := [_]) tt_ok Tryz.func67 rfl (by decide +kernel) rfl (Nat.le_of_ble_eq_true rfl)<|rb<|r_bx (en_Entry e0) (by kernel_rfl) fun bq1 => rd<|rb<|ln 0 tt_ok (en_Entry e0) ta_45 rfl<|r_bd tt_ok (en_entry_sizes (⟨32,16,4,30⟩ : entry_sizes)) ti_106 tp_106 (by kernel_rfl) ?_
 replace h := h_b h; obtain ⟨x3,hx2,h⟩ := h
 refine rc (hc_68 (e0 := e0) (z1 := (⟨32,16,4,30⟩ : entry_sizes)) (h := hx2)) ?_
 rintro _ _ ⟨rfl,rfl⟩
 refine rd ?_
 repeat refine rd ?_
 repeat refine rd ?_
 obtain rfl := h_out h
 exact ret_of (RV.tmp RV.nil) (le_w [false]) ⟨rfl,rfl⟩
theorem hc_39 {g_c0 : gConfig} {S_c0 : St} (hS_c0 : Le ⟨ρ,L⟩ S_c0) (c0 : Config) (e1 : Entry) (h_c0 : Sl_Config S_c0 c0 g_c0) {r : Bool} (h : entry_Valid c0 e1 = some r) : HC Tryz.prog 39 #[.agg (en_Config c0 g_c0).toArray,.agg (en_Entry e1).toArray] ⟨ρ,L⟩ (fun v S' => v = .bool r ∧ S' = ⟨ρ,L⟩) := by
 replace h := h_in h
 refine HC.intro (N := 23) (args := [_,_]) tt_ok Tryz.func39 rfl (by decide +kernel) rfl (Nat.le_of_ble_eq_true rfl)<|rb<|r_bx (en_Config c0 g_c0) (by kernel_rfl) fun bq1 => r_bx (en_Entry e1) (by kernel_rfl) fun bq2 => rd<|rb ?_
 replace h := h_j h; obtain ⟨K9,h,hK10⟩ := h
 refine r_meet (fun fr S => ∃ (x8 : Bool),∃ fr0,K9 x8 = some r ∧ fr = updL [(4,.bool x8)] fr0 ∧ S = ⟨ρ,L⟩) ?_ ?_
 ·refine ln 0 tt_ok (en_Entry e1) ta_45 rfl ?_
  replace h := h_b h; obtain ⟨x4,hx3,h⟩ := h
  refine rc (hc_67 (e0 := e1) (h := hx3)) ?_
  rintro _ _ ⟨rfl,rfl⟩
  apply r_iteh h<;>clear h<;>intro h
  ·refine ln 0 tt_ok (en_Entry e1) ta_45 rfl<|r_T rfl<|r_T rfl<|ld 1 tt_ok (v := .slice g_c0.Tenants.1 c0.Tenants.length g_c0.Tenants.2) ts_27 rfl<|r_T rfl<|kp [(2,pp bq1 0),(4,.bool false),(7,.bool true),(8,.agg (en_Entry e1).toArray),(11,ii (c0.Tenants.length : Int))] fun fr => r_T rfl<|r_T rfl<|ld 1 tt_ok (v := .slice g_c0.Cells.1 c0.Cells.length g_c0.Cells.2) ts_26 rfl<|r_T rfl<|r_T rfl<|r_T rfl<|ld 1 tt_ok (v := ii c0.Regions) ts_3 rfl ?_
   refine r_T rfl<|r_T rfl<|ld 1 tt_ok (v := .slice g_c0.Versions.1 c0.Versions.length g_c0.Versions.2) ts_28 rfl<|r_T rfl<|r_T rfl<|r_bd tt_ok (en_entry_sizes (⟨(c0.Tenants.length : Int),(c0.Cells.length : Int),c0.Regions,(c0.Versions.length : Int)⟩ : entry_sizes)) ti_106 tp_106 (by kernel_rfl)<|kp [(4,.bool false),(7,.bool true),(8,.agg (en_Entry e1).toArray),(20,.agg (en_entry_sizes (⟨(c0.Tenants.length : Int),(c0.Cells.length : Int),c0.Regions,(c0.Versions.length : Int)⟩ : entry_sizes)).toArray)] fun fr => r_T rfl ?_
   replace h := h_b h; obtain ⟨x7,hx6,h⟩ := h
   refine rc (hc_68 (e0 := e1) (z1 := (⟨(c0.Tenants.length : Int),(c0.Cells.length : Int),c0.Regions,(c0.Versions.length : Int)⟩ : entry_sizes)) (h := hx6)) ?_
   rintro _ _ ⟨rfl,rfl⟩
   exact r_le (le_w [false,false])<|rd ⟨x7,_,h,fe _,by kernel_rfl⟩
  refine r_F rfl<|r_F rfl<|r_F rfl<|kp [(2,pp bq1 0),(4,.bool false),(7,.bool false),(8,undef),(11,undef)] fun fr => r_F rfl<|r_F rfl<|r_F rfl<|r_F rfl<|r_F rfl<|r_F rfl<|r_F rfl<|r_F rfl<|r_F rfl ?_
  exact kp [(4,.bool false),(7,.bool false),(8,undef),(20,undef)] fun fr => r_F rfl<|r_F rfl<|r_le (le_w [false,false])<|rd ⟨false,_,h,fe _,by kernel_rfl⟩
 clear h
 rintro fr S ⟨x8,fr,h,rfl,rfl⟩
 replace h := hK10 _ h
 refine rd ?_
 repeat refine rd ?_
 repeat refine rd ?_
 obtain rfl := h_out h
 exact ret_of (RV.tmp RV.nil) (Le.refl _) ⟨rfl,rfl⟩
theorem hc_69 {A_s0 : Option Addr} {c_s0 : Nat} {S_s0 : St} (hS_s0 : Le ⟨ρ,L⟩ S_s0) (s0 : (List TenantState)) (h_s0 : Sl S_s0 A_s0 s0.length c_s0 (fl eTenantState.en s0)) {r : (List TenantState)} (h : slices_Clone_api_TenantState_api_TenantState s0 = some r) : HC Tryz.prog 69 #[.slice A_s0 s0.length c_s0] ⟨ρ,L⟩ (fun v S' => ∃ (Aq1_0 : Option Addr),∃ (cq1_0 : Nat),v = .slice Aq1_0 r.length cq1_0 ∧ S' = ⟨ρ,.row Aq1_0 r.length cq1_0 58 12 (fl eTenantState.en r) :: L⟩) := by
 replace h := h_in h
 refine HC.fact ⟨_,Tryz.func69,by decide +kernel,by decide +kernel⟩ (sl_nilout h_s0 hS_s0) fun hnil => HC.intro (N := 8) (args := [_]) tt_ok Tryz.func69 rfl (by decide +kernel) rfl (Nat.le_of_ble_eq_true rfl)<|rb<|rd<|rb<|rb<|r_op (fun w => ex_eqn tt_ok te_35 rfl rfl rfl w)<|rd<|r_ite (fun hb1 => ?_) (fun hb1 => ?_)
 ·have hx2 : s0 = [] := hnil (by simpa using hb1)
  clear hb1
  subst hx2
  replace h := h_b h; obtain ⟨xs3,ha4,h⟩ := h
  obtain rfl : xs3 = [] := (app_out ha4).1
  refine rb<|rd ?_
  repeat refine rd ?_
  repeat refine rd ?_
  obtain rfl := h_out h
  exact ret_of (RV.tmp RV.nil) (le_nil 58 12) ⟨none,0,rfl,rfl⟩
 ·clear hb1
  refine rd<|rb<|r_bs tt_ok (fl eTenantState.en ([] : (List TenantState))) te_35 ti_58 (by kernel_rfl) (by kernel_rfl) (by kernel_rfl) (by kernel_rfl) fun bq5 => ?_
  replace h := h_b h; obtain ⟨xs6,ha7,h⟩ := h
  refine r_app 0 (E := eTenantState) (xs := ([] : (List TenantState))) (ys := s0) tt_ok ha7 ((h_s0).rd.mono ((le_d 1).trans hS_s0)) rfl te_35 ti_58 rfl (by kernel_rfl) rfl (fun A8 c9 => ?_)
  refine rd ?_
  repeat refine rd ?_
  repeat refine rd ?_
  obtain rfl := h_out h
  exact ret_of (RV.tmp RV.nil) (Le.refl _) ⟨A8,c9,rfl,rfl⟩
theorem hc_70 {A_s0 : Option Addr} {c_s0 : Nat} {S_s0 : St} (hS_s0 : Le ⟨ρ,L⟩ S_s0) (s0 : (List CellState)) (h_s0 : Sl S_s0 A_s0 s0.length c_s0 (fl eCellState.en s0)) {r : (List CellState)} (h : slices_Clone_api_CellState_api_CellState s0 = some r) : HC Tryz.prog 70 #[.slice A_s0 s0.length c_s0] ⟨ρ,L⟩ (fun v S' => ∃ (Aq1_0 : Option Addr),∃ (cq1_0 : Nat),v = .slice Aq1_0 r.length cq1_0 ∧ S' = ⟨ρ,.row Aq1_0 r.length cq1_0 54 4 (fl eCellState.en r) :: L⟩) := by
 replace h := h_in h
 refine HC.fact ⟨_,Tryz.func70,by decide +kernel,by decide +kernel⟩ (sl_nilout h_s0 hS_s0) fun hnil => HC.intro (N := 8) (args := [_]) tt_ok Tryz.func70 rfl (by decide +kernel) rfl (Nat.le_of_ble_eq_true rfl)<|rb<|rd<|rb<|rb<|r_op (fun w => ex_eqn tt_ok te_36 rfl rfl rfl w)<|rd<|r_ite (fun hb1 => ?_) (fun hb1 => ?_)
 ·have hx2 : s0 = [] := hnil (by simpa using hb1)
  clear hb1
  subst hx2
  replace h := h_b h; obtain ⟨xs3,ha4,h⟩ := h
  obtain rfl : xs3 = [] := (app_out ha4).1
  refine rb<|rd ?_
  repeat refine rd ?_
  repeat refine rd ?_
  obtain rfl := h_out h
  exact ret_of (RV.tmp RV.nil) (le_nil 54 4) ⟨none,0,rfl,rfl⟩
 ·clear hb1
  refine rd<|rb<|r_bs tt_ok (fl eCellState.en ([] : (List CellState))) te_36 ti_54 (by kernel_rfl) (by kernel_rfl) (by kernel_rfl) (by kernel_rfl) fun bq5 => ?_
  replace h := h_b h; obtain ⟨xs6,ha7,h⟩ := h
  refine r_app 0 (E := eCellState) (xs := ([] : (List CellState))) (ys := s0) tt_ok ha7 ((h_s0).rd.mono ((le_d 1).trans hS_s0)) rfl te_36 ti_54 rfl (by kernel_rfl) rfl (fun A8 c9 => ?_)
  refine rd ?_
  repeat refine rd ?_
  repeat refine rd ?_
  obtain rfl := h_out h
  exact ret_of (RV.tmp RV.nil) (Le.refl _) ⟨A8,c9,rfl,rfl⟩
theorem hc_40 {g_s0 : gState} {S_s0 : St} (hS_s0 : Le ⟨ρ,L⟩ S_s0) (s0 : State) (h_s0 : Sl_State S_s0 s0 g_s0) {r : State} (h : state_copied s0 = some r) : HC Tryz.prog 40 #[.agg (en_State s0 g_s0).toArray] ⟨ρ,L⟩ (fun v S' => ∃ (Aq1_0 : Option Addr),∃ (cq1_0 : Nat),∃ (Aq1_1 : Option Addr),∃ (cq1_1 : Nat),v = .agg (en_State r (⟨(Aq1_0,cq1_0),(Aq1_1,cq1_1)⟩)).toArray ∧ S' = ⟨ρ,.row Aq1_0 r.Tenants.length cq1_0 58 12 (fl eTenantState.en r.Tenants) :: .row Aq1_1 r.Cells.length cq1_1 54 4 (fl eCellState.en r.Cells) :: L⟩) := by
 replace h := h_in h
 refine HC.intro (N := 12) (args := [_]) tt_ok Tryz.func40 rfl (by decide +kernel) rfl (Nat.le_of_ble_eq_true rfl)<|rb<|r_bx (en_State s0 g_s0) (by kernel_rfl) fun bq1 => r_al tt_ok (en_State (⟨0,0,[],[],0,0,0,0⟩ : State) (⟨(none,0),(none,0)⟩)) ti_38 (by kernel_rfl) fun bq2 => rd<|rb<|ld 1 tt_ok (v := .slice g_s0.Tenants.1 s0.Tenants.length g_s0.Tenants.2) ts_35 rfl ?_
 replace h := h_b h; obtain ⟨xs4,hx3,h⟩ := h
 refine rc (hc_69 (A_s0 := g_s0.Tenants.1) (c_s0 := g_s0.Tenants.2) (s0 := s0.Tenants) (hS_s0 := by exact (le_d 2).trans hS_s0) (h_s0 := by exact h_s0.1) (h := hx3)) ?_
 rintro _ _ ⟨A5,c6,rfl,rfl⟩
 refine st 2 tt_ok (en_State ({ s0 with Tenants := xs4 }) (⟨(A5,c6),(g_s0.Cells.1,g_s0.Cells.2)⟩)) (f1 ts_35) rfl<|rd<|rb<|ld 2 tt_ok (v := .slice g_s0.Cells.1 s0.Cells.length g_s0.Cells.2) ts_36 rfl<|kp [(1,pp bq1 0),(2,pp bq2 0),(8,.slice g_s0.Cells.1 s0.Cells.length g_s0.Cells.2)] fun fr => ?_
 replace h := h_b h; obtain ⟨xs9,hx8,h⟩ := h
 refine rc (hc_70 (A_s0 := g_s0.Cells.1) (c_s0 := g_s0.Cells.2) (s0 := s0.Cells) (hS_s0 := by exact (le_d 3).trans hS_s0) (h_s0 := by exact h_s0.2) (h := hx8)) ?_
 rintro _ _ ⟨A10,c11,rfl,rfl⟩
 refine st 3 tt_ok (en_State ({ s0 with Tenants := xs4,Cells := xs9 }) (⟨(A5,c6),(A10,c11)⟩)) (f1 ts_36) rfl<|rd<|rb<|ln 3 tt_ok (en_State ({ s0 with Tenants := xs4,Cells := xs9 }) (⟨(A5,c6),(A10,c11)⟩)) ta_38 rfl<|st 2 tt_ok (en_State ({ s0 with Tenants := xs4,Cells := xs9 }) (⟨(A5,c6),(A10,c11)⟩)) (fn ta_38) rfl<|rd ?_
 repeat refine rd ?_
 repeat refine rd ?_
 obtain rfl := h_out h
 exact ret_of (rv_cell 2 tt_ok (by kernel_rfl) ta_38 rfl rfl RV.nil) ((le_mv 1).trans (le_w [true,true,false,false])) ⟨A5,c6,A10,c11,rfl,rfl⟩
theorem hc_104 {bf0 : Nat} {g_f0 : gstate_fold} {S_f0 : St} (hS_f0 : Le ⟨ρ,L⟩ S_f0) (f0 : state_fold) (cell1 : Int) (h_f0 : Sl_state_fold S_f0 f0 g_f0) (h_f0_t : g_f0.t = fptr g_f0.s_Tenants.1 f0.e.Tenant 12) (h_f0_cell : g_f0.cell = fptr g_f0.s_Cells.1 f0.e.Cell 4) {r : Bool} (h : state_fold_up f0 cell1 = some r) : HC Tryz.prog 104 #[pp bf0 0,ii cell1] ⟨ρ,.row g_f0.s_Tenants.1 f0.s.Tenants.length g_f0.s_Tenants.2 58 12 (fl eTenantState.en f0.s.Tenants) :: .row g_f0.s_Cells.1 f0.s.Cells.length g_f0.s_Cells.2 54 4 (fl eCellState.en f0.s.Cells) :: .obj bf0 (en_state_fold f0 g_f0) 85 :: L⟩ (fun v S' => v = .bool r ∧ S' = ⟨ρ,.row g_f0.s_Tenants.1 f0.s.Tenants.length g_f0.s_Tenants.2 58 12 (fl eTenantState.en f0.s.Tenants) :: .row g_f0.s_Cells.1 f0.s.Cells.length g_f0.s_Cells.2 54 4 (fl eCellState.en f0.s.Cells) :: .obj bf0 (en_state_fold f0 g_f0) 85 :: L⟩) := by
 replace h := h_in h
 refine HC.intro (N := 15) (args := [_,_]) tt_ok Tryz.func104 rfl (by decide +kernel) rfl (Nat.le_of_ble_eq_true rfl)<|rb<|rd<|rb<|ld 2 tt_ok (v := .slice g_f0.s_Cells.1 f0.s.Cells.length g_f0.s_Cells.2) ts_36 rfl ?_
 replace h := h_b h; obtain ⟨x1,hx2,h⟩ := h
 refine r_el hx2 (rd_row 1 rfl)<|r_lec (E := eCellState) tt_ok (v := ii x1.Mode) (idx_get hx2) (rd_row 1 rfl) ts_3 rfl (pl1 _ _ _) (by kernel_rfl)<|kp [(4,.bool false),(13,ii x1.Mode)] fun fr => rd ?_
 repeat refine rd ?_
 repeat refine rd ?_
 obtain rfl := h_out h
 exact ret_of (RV.tmp RV.nil) (Le.refl _) ⟨rfl,rfl⟩
theorem hc_134   (n0 : Int) (low1 : Int) (high2 : Int)   : HC Tryz.prog 134 #[ii n0,ii low1,ii high2] ⟨ρ,L⟩ (fun v S' => v = .bool (topo_between n0 low1 high2) ∧ S' = ⟨ρ,L⟩) := by
 generalize h : topo_between n0 low1 high2 = r
 unfold topo_between at h
 refine HC.intro (N := 15) (args := [_,_,_]) tt_ok Tryz.func134 rfl (by decide +kernel) rfl (Nat.le_of_ble_eq_true rfl)<|rb<|rd<|rb<|r_meet (fun fr S => ∃ fr0,fr = updL [(6,.bool ((decide (low1 ≤ n0)) && (decide (n0 ≤ high2))))] fr0 ∧ S = ⟨ρ,L⟩) ?_ ?_
 ·refine r_ite (fun (hb1 : (decide (low1 ≤ n0)) = true) => ?_) (fun (hb1 : (decide (low1 ≤ n0)) = false) => ?_)
  ·exact kp [(2,ii high2),(6,.bool false),(10,.bool true),(11,ii n0)] fun fr => r_T rfl<|r_T rfl<|rd ⟨_,fr_eq _ (by (try rw [hb1]); kernel_rfl),by kernel_rfl⟩
  exact kp [(2,ii high2),(6,.bool false),(10,.bool false),(11,undef)] fun fr => r_F rfl<|r_F rfl<|r_F rfl<|rd ⟨_,fr_eq _ (by (try rw [hb1]); kernel_rfl),by kernel_rfl⟩
 rintro fr S ⟨fr,rfl,rfl⟩
 refine rd ?_
 repeat refine rd ?_
 repeat refine rd ?_
 subst h
 exact ret_of (RV.tmp RV.nil) (Le.refl _) ⟨rfl,rfl⟩
theorem hc_129 {g_c0 : gConfig} {S_c0 : St} (hS_c0 : Le ⟨ρ,L⟩ S_c0) (c0 : Config) (cell1 : Int) (h_c0 : Sl_Config S_c0 c0 g_c0) {r : Int} (h : topo_ZoneOf c0 cell1 = some r) : HC Tryz.prog 129 #[.agg (en_Config c0 g_c0).toArray,ii cell1] ⟨ρ,L⟩ (fun v S' => v = ii r ∧ S' = ⟨ρ,L⟩) := by
 replace h := h_in h
 refine HC.intro (N := 18) (args := [_,_]) tt_ok Tryz.func129 rfl (by decide +kernel) rfl (Nat.le_of_ble_eq_true rfl)<|rb<|r_bx (en_Config c0 g_c0) (by kernel_rfl) fun bq1 => rd<|rb<|rb<|ld 0 tt_ok (v := .slice g_c0.Cells.1 c0.Cells.length g_c0.Cells.2) ts_26 rfl<|r_num (e' := w64 ((c0.Cells.length : Int) - 1)) rfl<|rc (hc_134 (n0 := cell1) (low1 := 0) (high2 := w64 ((c0.Cells.length : Int) - 1))) ?_
 rintro _ _ ⟨rfl,rfl⟩
 refine kr [(1,ii cell1),(2,pp bq1 0),(11,.bool (!(topo_between cell1 0 (w64 ((c0.Cells.length : Int) - 1)))))] fun fr => rd ?_
 apply r_iteh h<;>clear h<;>intro h
 ·refine rb<|rd ?_
  repeat refine rd ?_
  repeat refine rd ?_
  obtain rfl := h_out h
  exact ret_of (RV.tmp RV.nil) (le_w [false]) ⟨rfl,rfl⟩
 refine rd<|rb<|ld 0 tt_ok (v := .slice g_c0.Cells.1 c0.Cells.length g_c0.Cells.2) ts_26 rfl ?_
 replace h := h_b h; obtain ⟨x3,hx4,h⟩ := h
 refine r_el hx4 ((h_c0.2.1).rd.mono ((le_d 1).trans hS_c0))<|r_lec (E := eCell) tt_ok (v := ii x3.Zone) (idx_get hx4) ((h_c0.2.1).rd.mono ((le_d 1).trans hS_c0)) ts_3 rfl (pl1 _ _ _) (by kernel_rfl)<|rd ?_
 repeat refine rd ?_
 repeat refine rd ?_
 obtain rfl := h_out h
 exact ret_of (RV.tmp RV.nil) (le_w [false]) ⟨rfl,rfl⟩
theorem hc_128 {g_c0 : gConfig} {S_c0 : St} (hS_c0 : Le ⟨ρ,L⟩ S_c0) (c0 : Config) (zone1 : Int) (h_c0 : Sl_Config S_c0 c0 g_c0) {r : Int} (h : topo_region c0 zone1 = some r) : HC Tryz.prog 128 #[.agg (en_Config c0 g_c0).toArray,ii zone1] ⟨ρ,L⟩ (fun v S' => v = ii r ∧ S' = ⟨ρ,L⟩) := by
 replace h := h_in h
 refine HC.intro (N := 18) (args := [_,_]) tt_ok Tryz.func128 rfl (by decide +kernel) rfl (Nat.le_of_ble_eq_true rfl)<|rb<|r_bx (en_Config c0 g_c0) (by kernel_rfl) fun bq1 => rd<|rb<|rb<|ld 0 tt_ok (v := .slice g_c0.Zones.1 c0.Zones.length g_c0.Zones.2) ts_25 rfl<|r_num (e' := w64 ((c0.Zones.length : Int) - 1)) rfl<|rc (hc_134 (n0 := zone1) (low1 := 0) (high2 := w64 ((c0.Zones.length : Int) - 1))) ?_
 rintro _ _ ⟨rfl,rfl⟩
 refine kr [(1,ii zone1),(2,pp bq1 0),(11,.bool (!(topo_between zone1 0 (w64 ((c0.Zones.length : Int) - 1)))))] fun fr => rd ?_
 apply r_iteh h<;>clear h<;>intro h
 ·refine rb<|rd ?_
  repeat refine rd ?_
  repeat refine rd ?_
  obtain rfl := h_out h
  exact ret_of (RV.tmp RV.nil) (le_w [false]) ⟨rfl,rfl⟩
 refine rd<|rb<|ld 0 tt_ok (v := .slice g_c0.Zones.1 c0.Zones.length g_c0.Zones.2) ts_25 rfl ?_
 replace h := h_b h; obtain ⟨x3,hx4,h⟩ := h
 refine r_el hx4 ((h_c0.1).rd.mono ((le_d 1).trans hS_c0))<|r_lec (E := eZone) tt_ok (v := ii x3.Region) (idx_get hx4) ((h_c0.1).rd.mono ((le_d 1).trans hS_c0)) ts_3 rfl (pl1 _ _ _) (by kernel_rfl)<|rd ?_
 repeat refine rd ?_
 repeat refine rd ?_
 obtain rfl := h_out h
 exact ret_of (RV.tmp RV.nil) (le_w [false]) ⟨rfl,rfl⟩
theorem hc_118 {g_c0 : gConfig} {S_c0 : St} (hS_c0 : Le ⟨ρ,L⟩ S_c0) (c0 : Config) (cell1 : Int) (h_c0 : Sl_Config S_c0 c0 g_c0) {r : Int} (h : topo_RegionOf c0 cell1 = some r) : HC Tryz.prog 118 #[.agg (en_Config c0 g_c0).toArray,ii cell1] ⟨ρ,L⟩ (fun v S' => v = ii r ∧ S' = ⟨ρ,L⟩) := by
 replace h := h_in h
 refine HC.intro (N := 10) (args := [_,_]) tt_ok Tryz.func118 rfl (by decide +kernel) rfl (Nat.le_of_ble_eq_true rfl)<|rb<|r_bx (en_Config c0 g_c0) (by kernel_rfl) fun bq1 => rd<|rb<|r_mix tt_ok hm_ok _ _ [] (.vb 0 (.vb 1 (.pure 2 (.eff 3 (.eff 4 (.pure 5 .nil)))))) (le_w [true]) (le_w [true]) ?_ ?_
 ·decide +kernel
 refine x_vb rfl<|vn 0 tt_ok (en_Config c0 g_c0) ta_30 rfl<|vd<|x_vb rfl<|vn 0 tt_ok (en_Config c0 g_c0) ta_30 rfl<|vd<|x_p rfl<|vd<|x_e rfl ?_
 replace h := h_b h; obtain ⟨x3,hx2,h⟩ := h
 refine rc (hc_129 (g_c0 := g_c0) (c0 := c0) (cell1 := cell1) (hS_c0 := by exact (le_d 1).trans hS_c0) (h_c0 :=h_c0) (h := hx2)) ?_
 rintro _ _ ⟨rfl,rfl⟩
 refine rd ⟨rfl,k_a (le_w [true]) (le_w [true]),?_⟩
 refine x_e rfl ?_
 replace h := h_b h; obtain ⟨x5,hx4,h⟩ := h
 refine rc (hc_128 (g_c0 := g_c0) (c0 := c0) (zone1 := x3) (hS_c0 := by exact (le_d 1).trans hS_c0) (h_c0 :=h_c0) (h := hx4)) ?_
 rintro _ _ ⟨rfl,rfl⟩
 refine rd ⟨rfl,k_a (le_w [true]) (le_w [true]),?_⟩
 refine x_p rfl<|vd<|xk [(4,ii x5)] fun fr => rd ?_
 repeat refine rd ?_
 repeat refine rd ?_
 obtain rfl := h_out h
 exact ret_of (RV.tmp RV.nil) (le_w [false]) ⟨rfl,rfl⟩
theorem hc_105 {bf0 : Nat} {g_f0 : gstate_fold} {S_f0 : St} (hS_f0 : Le ⟨ρ,L⟩ S_f0) (f0 : state_fold) (cell1 : Int) (h_f0 : Sl_state_fold S_f0 f0 g_f0) (h_f0_t : g_f0.t = fptr g_f0.s_Tenants.1 f0.e.Tenant 12) (h_f0_cell : g_f0.cell = fptr g_f0.s_Cells.1 f0.e.Cell 4) {r : Bool} (h : state_fold_evacuating f0 cell1 = some r) : HC Tryz.prog 105 #[pp bf0 0,ii cell1] ⟨ρ,.row g_f0.s_Tenants.1 f0.s.Tenants.length g_f0.s_Tenants.2 58 12 (fl eTenantState.en f0.s.Tenants) :: .row g_f0.s_Cells.1 f0.s.Cells.length g_f0.s_Cells.2 54 4 (fl eCellState.en f0.s.Cells) :: .obj bf0 (en_state_fold f0 g_f0) 85 :: L⟩ (fun v S' => v = .bool r ∧ S' = ⟨ρ,.row g_f0.s_Tenants.1 f0.s.Tenants.length g_f0.s_Tenants.2 58 12 (fl eTenantState.en f0.s.Tenants) :: .row g_f0.s_Cells.1 f0.s.Cells.length g_f0.s_Cells.2 54 4 (fl eCellState.en f0.s.Cells) :: .obj bf0 (en_state_fold f0 g_f0) 85 :: L⟩) := by
 replace h := h_in h
 refine HC.intro (N := 29) (args := [_,_]) tt_ok Tryz.func105 rfl (by decide +kernel) rfl (Nat.le_of_ble_eq_true rfl)<|rb<|rd<|rb<|ln 2 tt_ok (en_Config f0.c (⟨(g_f0.c_Zones.1,g_f0.c_Zones.2),(g_f0.c_Cells.1,g_f0.c_Cells.2),(g_f0.c_Tenants.1,g_f0.c_Tenants.2),(g_f0.c_Versions.1,g_f0.c_Versions.2),(g_f0.c_Replicas.1,g_f0.c_Replicas.2),(g_f0.c_Observers.1,g_f0.c_Observers.2)⟩)) ta_30 rfl ?_
 replace h := h_b h; obtain ⟨x2,hx1,h⟩ := h
 refine rc (hc_118 (g_c0 := ⟨(g_f0.c_Zones.1,g_f0.c_Zones.2),(g_f0.c_Cells.1,g_f0.c_Cells.2),(g_f0.c_Tenants.1,g_f0.c_Tenants.2),(g_f0.c_Versions.1,g_f0.c_Versions.2),(g_f0.c_Replicas.1,g_f0.c_Replicas.2),(g_f0.c_Observers.1,g_f0.c_Observers.2)⟩) (c0 := f0.c) (cell1 := cell1) (hS_c0 := by exact (le_d 3).trans hS_f0) (h_c0 :=h_f0) (h := hx1)) ?_
 rintro _ _ ⟨rfl,rfl⟩
 refine rd<|rb ?_
 replace h := h_j h; obtain ⟨K7,h,hK8⟩ := h
 refine r_meet (fun fr S => ∃ (x6 : Bool),∃ fr0,K7 x6 = some r ∧ fr = updL [(4,.bool x6)] fr0 ∧ S = ⟨ρ,.row g_f0.s_Tenants.1 f0.s.Tenants.length g_f0.s_Tenants.2 58 12 (fl eTenantState.en f0.s.Tenants) :: .row g_f0.s_Cells.1 f0.s.Cells.length g_f0.s_Cells.2 54 4 (fl eCellState.en f0.s.Cells) :: .obj bf0 (en_state_fold f0 g_f0) 85 :: L⟩) ?_ ?_
 ·apply r_iteh h<;>clear h<;>intro h
  ·refine kp [(0,pp bf0 0),(4,.bool false),(5,ii x2),(14,.bool true),(15,ii x2)] fun fr => r_T rfl ?_
   apply r_iteh h<;>clear h<;>intro h
   ·refine r_T rfl<|r_T rfl<|r_T rfl<|r_T rfl<|ld 2 tt_ok (v := ii f0.s.Evacuating) ts_3 rfl<|r_T rfl<|kp [(4,.bool false),(18,.bool true),(23,ii f0.s.Evacuating),(24,ii x2)] fun fr => r_T rfl ?_
    replace h := h_p h; obtain ⟨hc5,h⟩ := h
    exact r_check hc5<|r_num (e' := shr .i64 f0.s.Evacuating x2) rfl<|r_T rfl<|r_num (e' := bAnd .i64 (shr .i64 f0.s.Evacuating x2) 1) rfl<|r_T rfl<|rd ⟨decide (bAnd .i64 (shr .i64 f0.s.Evacuating x2) 1 = 1),_,h,fe _,by kernel_rfl⟩
   exact r_F rfl<|r_F rfl<|r_F rfl<|r_F rfl<|r_F rfl<|kp [(4,.bool false),(18,.bool false),(23,undef),(24,undef)] fun fr => r_F rfl<|r_F rfl<|r_F rfl<|r_F rfl<|rd ⟨false,_,h,fe _,by kernel_rfl⟩
  refine kp [(0,pp bf0 0),(4,.bool false),(5,ii x2),(14,.bool false),(15,undef)] fun fr => r_F rfl<|r_F rfl<|r_F rfl<|r_F rfl<|r_F rfl<|r_F rfl<|r_F rfl<|r_F rfl<|kp [(4,.bool false),(18,.bool false),(23,undef),(24,undef)] fun fr => r_F rfl<|r_F rfl<|r_F rfl ?_
  exact r_F rfl<|rd ⟨false,_,h,fe _,by kernel_rfl⟩
 clear h
 rintro fr S ⟨x6,fr,h,rfl,rfl⟩
 replace h := hK8 _ h
 refine rd ?_
 repeat refine rd ?_
 repeat refine rd ?_
 obtain rfl := h_out h
 exact ret_of (RV.tmp RV.nil) (Le.refl _) ⟨rfl,rfl⟩
theorem hc_119 {g_c0 : gConfig} {S_c0 : St} (hS_c0 : Le ⟨ρ,L⟩ S_c0) (c0 : Config) (a1 : Int) (b2 : Int) (h_c0 : Sl_Config S_c0 c0 g_c0) {r : Bool} (h : tenant_Apart c0 a1 b2 = some r) : HC Tryz.prog 119 #[.agg (en_Config c0 g_c0).toArray,ii a1,ii b2] ⟨ρ,L⟩ (fun v S' => v = .bool r ∧ S' = ⟨ρ,L⟩) := by
 replace h := h_in h
 refine HC.intro (N := 26) (args := [_,_,_]) tt_ok Tryz.func119 rfl (by decide +kernel) rfl (Nat.le_of_ble_eq_true rfl)<|rb<|r_bx (en_Config c0 g_c0) (by kernel_rfl) fun bq1 => rd<|rb<|r_mix tt_ok hm_ok _ _ [] (.vb 0 (.pure 1 (.vb 3 (.pure 4 (.eff 2 (.eff 5 (.pure 6 (.pure 7 .nil)))))))) (le_w [true]) (le_w [true]) ?_ ?_
 ·decide +kernel
 refine x_vb rfl<|vn 0 tt_ok (en_Config c0 g_c0) ta_30 rfl<|vd<|x_p rfl<|vd<|x_vb rfl<|vn 0 tt_ok (en_Config c0 g_c0) ta_30 rfl<|vd<|x_p rfl<|vd<|x_e rfl ?_
 replace h := h_b h; obtain ⟨x3,hx2,h⟩ := h
 refine rc (hc_118 (g_c0 := g_c0) (c0 := c0) (cell1 := a1) (hS_c0 := by exact (le_d 1).trans hS_c0) (h_c0 :=h_c0) (h := hx2)) ?_
 rintro _ _ ⟨rfl,rfl⟩
 refine rd ⟨rfl,k_a (le_w [true]) (le_w [true]),?_⟩
 refine x_e rfl ?_
 replace h := h_b h; obtain ⟨x5,hx4,h⟩ := h
 refine rc (hc_118 (g_c0 := g_c0) (c0 := c0) (cell1 := b2) (hS_c0 := by exact (le_d 1).trans hS_c0) (h_c0 :=h_c0) (h := hx4)) ?_
 rintro _ _ ⟨rfl,rfl⟩
 refine rd ⟨rfl,k_a (le_w [true]) (le_w [true]),?_⟩
 refine x_p rfl<|vd<|xp [(7,ii x3),(14,ii x5)] fun fr => x_p rfl<|vd<|xk [(7,ii x3),(8,ii x5)] fun fr => rd<|rb<|r_meet (fun fr S => ∃ fr0,fr = updL [(6,.bool ((decide (0 ≤ x3)) && ((decide (0 ≤ x5)) && (!decide (x3 = x5)))))] fr0 ∧ S = ⟨ρ,.obj bq1 (en_Config c0 g_c0) 30 :: L⟩) ?_ ?_
 ·refine r_ite (fun (hb6 : (decide (0 ≤ x3)) = true) => ?_) (fun (hb6 : (decide (0 ≤ x3)) = false) => ?_)
  ·refine r_T rfl<|kp [(7,ii x3),(8,ii x5),(17,.bool true),(19,.bool (decide (0 ≤ x5)))] fun fr => r_ite (fun (hb7 : (decide (0 ≤ x5)) = true) => ?_) (fun (hb7 : (decide (0 ≤ x5)) = false) => ?_)
   ·exact r_T rfl<|r_T rfl<|rd ⟨_,fr_eq _ (by (try rw [hb7]); (try rw [hb6]); kernel_rfl),by kernel_rfl⟩
   exact r_F rfl<|r_F rfl<|r_F rfl<|rd ⟨_,fr_eq _ (by (try rw [hb7]); (try rw [hb6]); kernel_rfl),by kernel_rfl⟩
  exact r_F rfl<|kp [(7,ii x3),(8,ii x5),(17,.bool false),(19,undef)] fun fr => r_F rfl<|r_F rfl<|r_F rfl<|r_F rfl<|r_F rfl<|rd ⟨_,fr_eq _ (by (try rw [hb6]); kernel_rfl),by kernel_rfl⟩
 rintro fr S ⟨fr,rfl,rfl⟩
 refine rd ?_
 repeat refine rd ?_
 repeat refine rd ?_
 obtain rfl := h_out h
 exact ret_of (RV.tmp RV.nil) (le_w [false]) ⟨rfl,rfl⟩
theorem hc_130   (n0 : Int) (low1 : Int) (high2 : Int)   : HC Tryz.prog 130 #[ii n0,ii low1,ii high2] ⟨ρ,L⟩ (fun v S' => v = .bool (tenant_between n0 low1 high2) ∧ S' = ⟨ρ,L⟩) := by
 generalize h : tenant_between n0 low1 high2 = r
 unfold tenant_between at h
 refine HC.intro (N := 15) (args := [_,_,_]) tt_ok Tryz.func130 rfl (by decide +kernel) rfl (Nat.le_of_ble_eq_true rfl)<|rb<|rd<|rb<|r_meet (fun fr S => ∃ fr0,fr = updL [(6,.bool ((decide (low1 ≤ n0)) && (decide (n0 ≤ high2))))] fr0 ∧ S = ⟨ρ,L⟩) ?_ ?_
 ·refine r_ite (fun (hb1 : (decide (low1 ≤ n0)) = true) => ?_) (fun (hb1 : (decide (low1 ≤ n0)) = false) => ?_)
  ·exact kp [(2,ii high2),(6,.bool false),(10,.bool true),(11,ii n0)] fun fr => r_T rfl<|r_T rfl<|rd ⟨_,fr_eq _ (by (try rw [hb1]); kernel_rfl),by kernel_rfl⟩
  exact kp [(2,ii high2),(6,.bool false),(10,.bool false),(11,undef)] fun fr => r_F rfl<|r_F rfl<|r_F rfl<|rd ⟨_,fr_eq _ (by (try rw [hb1]); kernel_rfl),by kernel_rfl⟩
 rintro fr S ⟨fr,rfl,rfl⟩
 refine rd ?_
 repeat refine rd ?_
 repeat refine rd ?_
 subst h
 exact ret_of (RV.tmp RV.nil) (Le.refl _) ⟨rfl,rfl⟩
theorem hc_120 {g_c0 : gConfig} {S_c0 : St} (hS_c0 : Le ⟨ρ,L⟩ S_c0) (c0 : Config) (tenant1 : Int) (cell2 : Int) (h_c0 : Sl_Config S_c0 c0 g_c0) {r : Bool} (h : tenant_May c0 tenant1 cell2 = some r) : HC Tryz.prog 120 #[.agg (en_Config c0 g_c0).toArray,ii tenant1,ii cell2] ⟨ρ,L⟩ (fun v S' => v = .bool r ∧ S' = ⟨ρ,L⟩) := by
 replace h := h_in h
 refine HC.intro (N := 33) (args := [_,_,_]) tt_ok Tryz.func120 rfl (by decide +kernel) rfl (Nat.le_of_ble_eq_true rfl)<|rb<|r_bx (en_Config c0 g_c0) (by kernel_rfl) fun bq1 => rd<|rb<|ln 0 tt_ok (en_Config c0 g_c0) ta_30 rfl ?_
 replace h := h_b h; obtain ⟨x3,hx2,h⟩ := h
 refine rc (hc_118 (g_c0 := g_c0) (c0 := c0) (cell1 := cell2) (hS_c0 := by exact (le_d 1).trans hS_c0) (h_c0 :=h_c0) (h := hx2)) ?_
 rintro _ _ ⟨rfl,rfl⟩
 refine rd<|rb ?_
 replace h := h_j h; obtain ⟨K10,h,hK11⟩ := h
 refine r_meet (fun fr S => ∃ (x9 : Bool),∃ fr0,K10 x9 = some r ∧ fr = updL [(6,.bool x9)] fr0 ∧ S = ⟨ρ,L⟩) ?_ ?_
 ·refine ld 0 tt_ok (v := .slice g_c0.Tenants.1 c0.Tenants.length g_c0.Tenants.2) ts_27 rfl<|r_num (e' := w64 ((c0.Tenants.length : Int) - 1)) rfl<|rc (hc_130 (n0 := tenant1) (low1 := 0) (high2 := w64 ((c0.Tenants.length : Int) - 1))) ?_
  rintro _ _ ⟨rfl,rfl⟩
  refine kp [(1,ii tenant1),(3,pp bq1 0),(6,.bool false),(7,ii x3),(16,.bool (tenant_between tenant1 0 (w64 ((c0.Tenants.length : Int) - 1))))] fun fr => ?_
  apply r_iteh h<;>clear h<;>intro h
  ·refine r_T rfl<|rc (hc_130 (n0 := x3) (low1 := 0) (high2 := 3)) ?_
   rintro _ _ ⟨rfl,rfl⟩
   apply r_iteh h<;>clear h<;>intro h
   ·refine r_T rfl<|ld 0 tt_ok (v := .slice g_c0.Tenants.1 c0.Tenants.length g_c0.Tenants.2) ts_27 rfl<|r_T rfl<|r_T rfl ?_
    replace h := h_b h; obtain ⟨x6,hx7,h⟩ := h
    refine r_el hx7 ((h_c0.2.2.1).rd.mono ((le_d 1).trans hS_c0))<|kp [(6,.bool false),(7,ii x3),(21,.bool true),(25,.pointer (some ((adr g_c0.Tenants.1).add (tenant1.toNat * 7))))] fun fr => r_T rfl<|r_T rfl<|r_lec (E := eTenant) tt_ok (v := ii x6.Allowed) (idx_get hx7) ((h_c0.2.2.1).rd.mono ((le_d 1).trans hS_c0)) ts_3 rfl (pl1 _ _ _) (by kernel_rfl)<|r_T rfl<|r_T rfl ?_
    replace h := h_p h; obtain ⟨hc8,h⟩ := h
    exact r_check hc8<|r_num (e' := shr .i64 x6.Allowed x3) rfl<|r_T rfl<|r_num (e' := bAnd .i64 (shr .i64 x6.Allowed x3) 1) rfl<|r_T rfl<|r_le (le_w [false])<|rd ⟨decide (bAnd .i64 (shr .i64 x6.Allowed x3) 1 = 1),_,h,fe _,by kernel_rfl⟩
   exact r_F rfl<|r_F rfl<|r_F rfl<|kp [(6,.bool false),(7,ii x3),(21,.bool false),(25,undef)] fun fr => r_F rfl<|r_F rfl<|r_F rfl<|r_F rfl<|r_F rfl<|r_F rfl<|r_F rfl<|r_le (le_w [false])<|rd ⟨false,_,h,fe _,by kernel_rfl⟩
  refine r_F rfl<|r_F rfl<|r_F rfl<|r_F rfl<|r_F rfl<|r_F rfl<|kp [(6,.bool false),(7,ii x3),(21,.bool false),(25,undef)] fun fr => r_F rfl<|r_F rfl<|r_F rfl<|r_F rfl<|r_F rfl<|r_F rfl ?_
  exact r_F rfl<|r_le (le_w [false])<|rd ⟨false,_,h,fe _,by kernel_rfl⟩
 clear h
 rintro fr S ⟨x9,fr,h,rfl,rfl⟩
 replace h := hK11 _ h
 refine rd ?_
 repeat refine rd ?_
 repeat refine rd ?_
 obtain rfl := h_out h
 exact ret_of (RV.tmp RV.nil) (Le.refl _) ⟨rfl,rfl⟩
theorem hc_106 {bf0 : Nat} {g_f0 : gstate_fold} {A_others2 : Option Addr} {c_others2 : Nat} {S_f0 : St} (hS_f0 : Le ⟨ρ,L⟩ S_f0) {S_others2 : St} (hS_others2 : Le ⟨ρ,L⟩ S_others2) (f0 : state_fold) (cell1 : Int) (others2 : (List Int)) (h_f0 : Sl_state_fold S_f0 f0 g_f0) (h_others2 : Sl S_others2 A_others2 others2.length c_others2 (fl eI64.en others2)) (h_f0_t : g_f0.t = fptr g_f0.s_Tenants.1 f0.e.Tenant 12) (h_f0_cell : g_f0.cell = fptr g_f0.s_Cells.1 f0.e.Cell 4) {r : Bool} (h : state_fold_may f0 cell1 others2 = some r) : HC Tryz.prog 106 #[pp bf0 0,ii cell1,.slice A_others2 others2.length c_others2] ⟨ρ,.row g_f0.s_Tenants.1 f0.s.Tenants.length g_f0.s_Tenants.2 58 12 (fl eTenantState.en f0.s.Tenants) :: .row g_f0.s_Cells.1 f0.s.Cells.length g_f0.s_Cells.2 54 4 (fl eCellState.en f0.s.Cells) :: .obj bf0 (en_state_fold f0 g_f0) 85 :: L⟩ (fun v S' => v = .bool r ∧ S' = ⟨ρ,.row g_f0.s_Tenants.1 f0.s.Tenants.length g_f0.s_Tenants.2 58 12 (fl eTenantState.en f0.s.Tenants) :: .row g_f0.s_Cells.1 f0.s.Cells.length g_f0.s_Cells.2 54 4 (fl eCellState.en f0.s.Cells) :: .obj bf0 (en_state_fold f0 g_f0) 85 :: L⟩) := by
 replace h := h_in h
 refine HC.intro (N := 39) (args := [_,_,_]) tt_ok Tryz.func106 rfl (by decide +kernel) rfl (Nat.le_of_ble_eq_true rfl)<|rb<|rd<|rb ?_
 replace h := h_k h; obtain ⟨K38,h,hK39⟩ := h
 refine r_meet (fun fr S => ∃ fr0,(state_fold_may.j1 f0 cell1).bind K38 = some r ∧ fr = updL [(0,pp bf0 0),(1,ii cell1)] fr0 ∧ S = ⟨ρ,.row g_f0.s_Tenants.1 f0.s.Tenants.length g_f0.s_Tenants.2 58 12 (fl eTenantState.en f0.s.Tenants) :: .row g_f0.s_Cells.1 f0.s.Cells.length g_f0.s_Cells.2 54 4 (fl eCellState.en f0.s.Cells) :: .obj bf0 (en_state_fold f0 g_f0) 85 :: L⟩) ?_ ?_
 ·refine rb<|rd<|rb ?_
  replace h := h_l h; obtain ⟨K34,n35,h,hK36⟩ := h
  refine r_loop (fun n fr S => ∃ (x23 : Int),∃ fr0,(runN (state_fold_may.b2 others2 f0 cell1) n x23).bind K34 = some r ∧ fr = updL [(0,pp bf0 0),(1,ii cell1),(9,.slice A_others2 others2.length c_others2),(10,ii (others2.length : Int)),(11,ii x23)] fr0 ∧ S = ⟨ρ,.row g_f0.s_Tenants.1 f0.s.Tenants.length g_f0.s_Tenants.2 58 12 (fl eTenantState.en f0.s.Tenants) :: .row g_f0.s_Cells.1 f0.s.Cells.length g_f0.s_Cells.2 54 4 (fl eCellState.en f0.s.Cells) :: .obj bf0 (en_state_fold f0 g_f0) 85 :: L⟩) n35 ⟨0,_,h,fe _,by kernel_rfl⟩ ?_
  clear h
  rintro n35 fr S ⟨x23,fr,h,rfl,rfl⟩
  replace h := h_r h; obtain ⟨m37,hm37,h⟩ := h
  refine rb<|rd<|rb ?_
  apply r_iteh h<;>clear h<;>intro h
  ·refine rd<|rb<|rb<|rb ?_
   replace h := h_b h; obtain ⟨x25,hx26,h⟩ := h
   refine r_el hx26 ((h_others2).rd.mono ((le_d 3).trans hS_others2))<|r_lec (E := eI64) tt_ok (v := ii x25) (idx_get hx26) ((h_others2).rd.mono ((le_d 3).trans hS_others2)) ts_3 rfl (pl0 _ _) (by kernel_rfl)<|rd<|rb ?_
   replace h := h_j h; obtain ⟨K31,h,hK32⟩ := h
   refine r_meet (fun fr S => ∃ (x30 : Bool),∃ fr0,K31 x30 = some r ∧ fr = updL [(0,pp bf0 0),(1,ii cell1),(9,.slice A_others2 others2.length c_others2),(10,ii (others2.length : Int)),(11,ii x23),(26,.bool x30)] fr0 ∧ S = ⟨ρ,.row g_f0.s_Tenants.1 f0.s.Tenants.length g_f0.s_Tenants.2 58 12 (fl eTenantState.en f0.s.Tenants) :: .row g_f0.s_Cells.1 f0.s.Cells.length g_f0.s_Cells.2 54 4 (fl eCellState.en f0.s.Cells) :: .obj bf0 (en_state_fold f0 g_f0) 85 :: L⟩) ?_ ?_
   ·apply r_iteh h<;>clear h<;>intro h
    ·refine kp [(0,pp bf0 0),(1,ii cell1),(8,ii x25),(9,.slice A_others2 others2.length c_others2),(10,ii (others2.length : Int)),(11,ii x23),(17,.bool true),(18,pp bf0 0)] fun fr => r_T rfl<|r_T rfl<|r_T rfl<|ln 2 tt_ok (en_Config f0.c (⟨(g_f0.c_Zones.1,g_f0.c_Zones.2),(g_f0.c_Cells.1,g_f0.c_Cells.2),(g_f0.c_Tenants.1,g_f0.c_Tenants.2),(g_f0.c_Versions.1,g_f0.c_Versions.2),(g_f0.c_Replicas.1,g_f0.c_Replicas.2),(g_f0.c_Observers.1,g_f0.c_Observers.2)⟩)) ta_30 rfl<|r_T rfl<|r_T rfl<|r_T rfl ?_
     replace h := h_b h; obtain ⟨x29,hx28,h⟩ := h
     refine rc (hc_119 (g_c0 := ⟨(g_f0.c_Zones.1,g_f0.c_Zones.2),(g_f0.c_Cells.1,g_f0.c_Cells.2),(g_f0.c_Tenants.1,g_f0.c_Tenants.2),(g_f0.c_Versions.1,g_f0.c_Versions.2),(g_f0.c_Replicas.1,g_f0.c_Replicas.2),(g_f0.c_Observers.1,g_f0.c_Observers.2)⟩) (c0 := f0.c) (a1 := cell1) (b2 := x25) (hS_c0 := by exact (le_d 3).trans hS_f0) (h_c0 :=h_f0) (h := hx28)) ?_
     rintro _ _ ⟨rfl,rfl⟩
     exact r_T rfl<|rd ⟨!x29,_,h,fe _,by kernel_rfl⟩
    exact kp [(0,pp bf0 0),(1,ii cell1),(8,ii x25),(9,.slice A_others2 others2.length c_others2),(10,ii (others2.length : Int)),(11,ii x23),(17,.bool false),(18,undef)] fun fr => r_F rfl<|r_F rfl<|r_F rfl<|r_F rfl<|r_F rfl<|r_F rfl<|r_F rfl<|r_F rfl<|rd ⟨false,_,h,fe _,by kernel_rfl⟩
   clear h
   rintro fr S ⟨x30,fr,h,rfl,rfl⟩
   replace h := hK32 _ h
   refine rd ?_
   apply r_iteh h<;>clear h<;>intro h
   ·refine rb<|rd ?_
    repeat refine rd ?_
    replace h := h_m h
    subst hK36
    subst hK39
    repeat refine rd ?_
    obtain rfl := h_out h
    exact ret_of (RV.tmp RV.nil) (Le.refl _) ⟨rfl,rfl⟩
   exact rd<|rd<|r_num (e' := w64 (x23 + 1)) rfl<|rd ⟨m37,lt_s hm37,w64 (x23 + 1),_,h,fe _,by kernel_rfl⟩
  refine rd<|rd ?_
  replace h := h_m h
  subst hK36
  exact rd ⟨_,h,fe _,by kernel_rfl⟩
 clear h
 rintro fr S ⟨fr,h,rfl,rfl⟩
 subst hK39
 refine rd<|rb<|r_mix tt_ok hm_ok _ _ [] (.pure 0 (.pure 1 (.pure 2 (.vb 3 (.pure 4 (.pure 5 (.pure 6 (.pure 7 (.vb 8 (.pure 9 (.eff 10 (.pure 11 .nil)))))))))))) (le_w [true,true,true]) (le_w [true,true,true]) ?_ ?_
 ·decide +kernel
 refine x_p rfl<|vd<|x_p rfl<|vd<|x_p rfl<|vd<|x_vb rfl<|vn 2 tt_ok (en_Config f0.c (⟨(g_f0.c_Zones.1,g_f0.c_Zones.2),(g_f0.c_Cells.1,g_f0.c_Cells.2),(g_f0.c_Tenants.1,g_f0.c_Tenants.2),(g_f0.c_Versions.1,g_f0.c_Versions.2),(g_f0.c_Replicas.1,g_f0.c_Replicas.2),(g_f0.c_Observers.1,g_f0.c_Observers.2)⟩)) ta_30 rfl<|vd<|x_p rfl<|vd<|x_p rfl<|vd ?_
 refine x_p rfl<|vd<|x_p rfl<|vd<|x_vb rfl<|vl 2 tt_ok (v := ii f0.e.Tenant) ts_3 rfl<|vd<|xp [(1,ii cell1),(31,.agg (en_Config f0.c (⟨(g_f0.c_Zones.1,g_f0.c_Zones.2),(g_f0.c_Cells.1,g_f0.c_Cells.2),(g_f0.c_Tenants.1,g_f0.c_Tenants.2),(g_f0.c_Versions.1,g_f0.c_Versions.2),(g_f0.c_Replicas.1,g_f0.c_Replicas.2),(g_f0.c_Observers.1,g_f0.c_Observers.2)⟩)).toArray),(36,ii f0.e.Tenant)] fun fr => x_p rfl<|vd<|x_e rfl ?_
 replace h := h_b h; obtain ⟨x41,hx40,h⟩ := h
 refine rc (hc_120 (g_c0 := ⟨(g_f0.c_Zones.1,g_f0.c_Zones.2),(g_f0.c_Cells.1,g_f0.c_Cells.2),(g_f0.c_Tenants.1,g_f0.c_Tenants.2),(g_f0.c_Versions.1,g_f0.c_Versions.2),(g_f0.c_Replicas.1,g_f0.c_Replicas.2),(g_f0.c_Observers.1,g_f0.c_Observers.2)⟩) (c0 := f0.c) (tenant1 := f0.e.Tenant) (cell2 := cell1) (hS_c0 := by exact (le_d 3).trans hS_f0) (h_c0 :=h_f0) (h := hx40)) ?_
 rintro _ _ ⟨rfl,rfl⟩
 refine rd ⟨rfl,k_a (le_w [true,true,true]) (le_w [true,true,true]),?_⟩
 refine x_p rfl<|vd<|xk [(6,.bool x41)] fun fr => rd ?_
 repeat refine rd ?_
 repeat refine rd ?_
 obtain rfl := h_out h
 exact ret_of (RV.tmp RV.nil) (Le.refl _) ⟨rfl,rfl⟩
theorem hc_137   (x0 : TenantState)   : HC Tryz.prog 137 #[.agg (en_TenantState x0).toArray] ⟨ρ,L⟩ (fun v S' => v = .bool (load_active x0) ∧ S' = ⟨ρ,L⟩) := by
 generalize h : load_active x0 = r
 unfold load_active at h
 refine HC.intro (N := 10) (args := [_]) tt_ok Tryz.func137 rfl (by decide +kernel) rfl (Nat.le_of_ble_eq_true rfl)<|rb<|r_bx (en_TenantState x0) (by kernel_rfl) fun bq1 => rd<|rb<|r_meet (fun fr S => ∃ fr0,fr = updL [(2,.bool (x0.Placed && (!x0.Shed)))] fr0 ∧ S = ⟨ρ,.obj bq1 (en_TenantState x0) 58 :: L⟩) ?_ ?_
 ·refine ld 0 tt_ok (v := .bool x0.Placed) ts_4 rfl<|r_ite (fun (hb2 : x0.Placed = true) => ?_) (fun (hb2 : x0.Placed = false) => ?_)
  ·exact kp [(2,.bool false),(5,.bool true),(6,pp bq1 1)] fun fr => r_T rfl<|ld 0 tt_ok (v := .bool x0.Shed) ts_4 rfl<|r_T rfl<|rd ⟨_,fr_eq _ (by (try rw [hb2]); kernel_rfl),by kernel_rfl⟩
  exact kp [(2,.bool false),(5,.bool false),(6,undef)] fun fr => r_F rfl<|r_F rfl<|r_F rfl<|rd ⟨_,fr_eq _ (by (try rw [hb2]); kernel_rfl),by kernel_rfl⟩
 rintro fr S ⟨fr,rfl,rfl⟩
 refine rd ?_
 repeat refine rd ?_
 repeat refine rd ?_
 subst h
 exact ret_of (RV.tmp RV.nil) (le_w [false]) ⟨rfl,rfl⟩
theorem hc_138 {A_l0 : Option Addr} {c_l0 : Nat}  (l0 : (List Int)) (cell1 : Int) (n2 : Int)  {r : (List Int)} (h : load_sums_add l0 cell1 n2 = some r) : HC Tryz.prog 138 #[.slice A_l0 l0.length c_l0,ii cell1,ii n2] ⟨ρ,.row A_l0 l0.length c_l0 3 1 (fl eI64.en l0) :: L⟩ (fun v S' => v = .tuple #[] ∧ S' = ⟨ρ,.row A_l0 r.length c_l0 3 1 (fl eI64.en r) :: L⟩ ∧ r.length = l0.length) := by
 replace h := h_in h
 refine HC.intro (N := 21) (args := [_,_,_]) tt_ok Tryz.func138 rfl (by decide +kernel) rfl (Nat.le_of_ble_eq_true rfl)<|rb<|r_meet (fun fr S => ∃ fr0,fr = updL [(0,.slice A_l0 l0.length c_l0),(1,ii cell1),(2,ii n2),(13,.bool ((decide (0 ≤ cell1)) && (decide (cell1 < (l0.length : Int)))))] fr0 ∧ S = ⟨ρ,.row A_l0 l0.length c_l0 3 1 (fl eI64.en l0) :: L⟩) ?_ ?_
 ·refine r_ite (fun (hb1 : (decide (0 ≤ cell1)) = true) => ?_) (fun (hb1 : (decide (0 ≤ cell1)) = false) => ?_)
  ·exact r_T rfl<|kp [(0,.slice A_l0 l0.length c_l0),(1,ii cell1),(2,ii n2),(8,.bool true),(9,ii cell1),(10,.slice A_l0 l0.length c_l0)] fun fr => r_T rfl<|r_T rfl<|rd ⟨_,fr_eq _ (by (try rw [hb1]); kernel_rfl),by kernel_rfl⟩
  exact r_F rfl<|kp [(0,.slice A_l0 l0.length c_l0),(1,ii cell1),(2,ii n2),(8,.bool false),(9,undef),(10,undef)] fun fr => r_F rfl<|r_F rfl<|r_F rfl<|rd ⟨_,fr_eq _ (by (try rw [hb1]); kernel_rfl),by kernel_rfl⟩
 rintro fr S ⟨fr,rfl,rfl⟩
 refine rd ?_
 apply r_iteh h<;>clear h<;>intro h
 ·replace h := h_b h; obtain ⟨x3,hx4,h⟩ := h
  refine r_el hx4 (rd_row 0 rfl)<|r_lec (E := eI64) tt_ok (v := ii x3) (idx_get hx4) (rd_row 0 rfl) ts_3 rfl (pl0 _ _) (by kernel_rfl)<|r_num (e' := w64 (x3 + n2)) rfl<|r_el hx4 (rd_row 0 rfl)<|r_sec 0 (E := eI64) tt_ok (w64 (x3 + n2)) (idx_get hx4) (f1 ts_3) rfl rfl (pl0 _ _) (by kernel_rfl) (by kernel_rfl) (List.cons_ne_nil _ _) ?_
  rw [← @List.length_set _ l0 cell1.toNat (w64 (x3 + n2))]
  repeat refine rd ?_
  obtain rfl := h_out h
  exact ret_of RV.nil (Le.refl _) ⟨rfl,rfl,(by simp)⟩
 repeat refine rd ?_
 obtain rfl := h_out h
 exact ret_of RV.nil (Le.refl _) ⟨rfl,rfl,(by simp)⟩
theorem hc_131 {g_c0 : gConfig} {g_s1 : gState} {S_c0 : St} (hS_c0 : Le ⟨ρ,L⟩ S_c0) {S_s1 : St} (hS_s1 : Le ⟨ρ,L⟩ S_s1) (c0 : Config) (s1 : State) (h_c0 : Sl_Config S_c0 c0 g_c0) (h_s1 : Sl_State S_s1 s1 g_s1) {r : (List Int)} (h : load_Booked c0 s1 = some r) : HC Tryz.prog 131 #[.agg (en_Config c0 g_c0).toArray,.agg (en_State s1 g_s1).toArray] ⟨ρ,L⟩ (fun v S' => ∃ (Aq1_0 : Option Addr),∃ (cq1_0 : Nat),v = .slice Aq1_0 r.length cq1_0 ∧ S' = ⟨ρ,.row Aq1_0 r.length cq1_0 3 1 (fl eI64.en r) :: L⟩) := by
 replace h := h_in h
 refine HC.intro (N := 15) (args := [_,_]) tt_ok Tryz.func131 rfl (by decide +kernel) rfl (Nat.le_of_ble_eq_true rfl)<|rb<|r_bx (en_Config c0 g_c0) (by kernel_rfl) fun bq1 => r_bx (en_State s1 g_s1) (by kernel_rfl) fun bq2 => rd<|rb<|ld 1 tt_ok (v := .slice g_c0.Cells.1 c0.Cells.length g_c0.Cells.2) ts_26 rfl ?_
 replace h := h_b h; obtain ⟨xs3,hz4,h⟩ := h
 refine r_mks tt_ok 0 (E := eI64) hz4 te_129 ti_3 rfl (by kernel_rfl) rfl rfl fun bq5 => r_al tt_ok ([.slice none 0 0]) ti_129 (by kernel_rfl) fun bq6 => st 0 tt_ok ([.slice (some ⟨bq5,0,none⟩) xs3.length xs3.length]) (f1 ts_129) rfl<|kr [(2,pp bq1 0),(3,pp bq2 0),(5,pp bq6 0)] fun fr => rd<|rb<|ln 3 tt_ok (en_Config c0 g_c0) ta_30 rfl<|ln 2 tt_ok (en_State s1 g_s1) ta_38 rfl<|r_inl (HC.intro (N := 33) (args := [_,_,_]) tt_ok Tryz.func135 rfl (by decide +kernel) rfl (Nat.le_of_ble_eq_true rfl) ?_)
 refine rb<|r_bx (en_Config c0 g_c0) (by kernel_rfl) fun bq7 => r_bx (en_State s1 g_s1) (by kernel_rfl) fun bq8 => rd<|rb<|ld 0 tt_ok (v := .slice g_s1.Tenants.1 s1.Tenants.length g_s1.Tenants.2) ts_35 rfl<|ld 0 tt_ok (v := .slice g_s1.Tenants.1 s1.Tenants.length g_s1.Tenants.2) ts_35 rfl<|ld 1 tt_ok (v := .slice g_c0.Tenants.1 c0.Tenants.length g_c0.Tenants.2) ts_27 rfl<|kp [(2,.func (.func 136) #[] #[pp bq6 0]),(3,pp bq7 0),(9,.slice g_s1.Tenants.1 s1.Tenants.length g_s1.Tenants.2),(12,ii (s1.Tenants.length : Int)),(14,.slice g_c0.Tenants.1 c0.Tenants.length g_c0.Tenants.2)] fun fr => ?_
 replace h := h_b h; obtain ⟨xs9,hz10,h⟩ := h
 refine r_cut (E := eTenantState) ((le_d 6).trans hS_s1) tt_ok hz10 h_s1.1 te_35 rfl (.inl ⟨rfl,rfl⟩) (.inr ⟨_,rfl⟩) (fun A11 c12 hs13 => ?_)
 refine rd<|rb ?_
 replace h := h_l h; obtain ⟨K113,n114,h,hK115⟩ := h
 refine r_le ((le_mv 5).trans ((le_mv 5).trans ((le_mv 4).trans ((le_mv 4).trans ((le_mv 5).trans (le_w [true,true,true,true,true,false]))))))<|r_loop (fun n fr S => ∃ (x80 : Int),∃ (xs81 : (List Int)),∃ fr0,(runN (load_Booked.b1 xs9 c0) n (x80,xs81)).bind K113 = some r ∧ fr = updL [(2,.func (.func 136) #[] #[pp bq6 0]),(3,pp bq7 0),(17,.slice A11 xs9.length c12),(18,ii (xs9.length : Int)),(19,ii x80)] fr0 ∧ S = ⟨ρ,.row (some ⟨bq5,0,none⟩) xs81.length xs3.length 3 1 (fl eI64.en xs81) :: .obj bq7 (en_Config c0 g_c0) 30 :: .obj bq6 ([.slice (some ⟨bq5,0,none⟩) xs81.length xs3.length]) 129 :: .obj bq2 (en_State s1 g_s1) 38 :: .obj bq1 (en_Config c0 g_c0) 30 :: L⟩) n114 ⟨0,xs3,_,h,fe _,by kernel_rfl⟩ ?_
 clear h
 rintro n114 fr S ⟨x80,xs81,fr,h,rfl,rfl⟩
 replace h := h_r h; obtain ⟨m116,hm116,h⟩ := h
 refine rb<|rd<|rb ?_
 apply r_iteh h<;>clear h<;>intro h
 ·refine rd<|rb<|rb<|rb ?_
  replace h := h_b h; obtain ⟨x84,hx85,h⟩ := h
  refine r_el hx85 ((hs13).rd.mono ((le_d 5).trans hS_s1))<|r_len (E := eTenantState) tt_ok (en_TenantState x84) (idx_get hx85) ((hs13).rd.mono ((le_d 5).trans hS_s1)) ta_58 rfl (pl0 _ _) (by kernel_rfl) (by kernel_rfl)<|r_al tt_ok (en_TenantState (⟨false,false,0,0,0,0,0,(⟨0,0,0,0,0⟩ : Window)⟩ : TenantState)) ti_58 (by kernel_rfl) fun bq86 => st 0 tt_ok (en_TenantState x84) (fn ta_58) rfl<|rd<|r_mix tt_ok hm_ok _ _ [] (.pure 0 (.vb 1 (.pure 2 (.vb 3 (.pure 4 (.vb 5 (.vb 6 (.eff 7 .nil)))))))) (le_w [true,false,true,false,true,true]) (le_w [true,false,true,false,true,true]) ?_ ?_
  ·decide +kernel
  refine x_p rfl<|vd<|x_vb rfl<|vn 0 tt_ok (en_TenantState x84) ta_58 rfl<|vd<|xp [(2,.func (.func 136) #[] #[pp bq6 0]),(3,pp bq7 0),(6,ii x80),(17,.slice A11 xs9.length c12),(18,ii (xs9.length : Int)),(19,ii x80),(24,.func (.func 136) #[] #[pp bq6 0]),(25,.agg (en_TenantState x84).toArray)] fun fr => x_p rfl<|vd<|x_vb rfl<|vl 1 tt_ok (v := .slice g_c0.Tenants.1 c0.Tenants.length g_c0.Tenants.2) ts_27 rfl<|vd<|x_p rfl<|vd ?_
  refine x_vb rfl ?_
  replace h := h_b h; obtain ⟨x87,hx88,h⟩ := h
  refine v_el hx88 ((h_c0.2.2.1).rd.mono ((le_d 4).trans hS_c0))<|vd<|x_vb rfl<|v_len (E := eTenant) tt_ok (en_Tenant x87) (idx_get hx88) ((h_c0.2.2.1).rd.mono ((le_d 4).trans hS_c0)) ta_77 rfl (pl0 _ _) (by kernel_rfl) (by kernel_rfl)<|vd<|x_e rfl ?_
  replace h := h_j h; obtain ⟨K111,h,hK112⟩ := h
  refine rc (Post := fun v S => ∃ (xs109 : (List Int)),K111 xs109 = some r ∧ v = .tuple #[] ∧ S = ⟨ρ,.row (some ⟨bq5,0,none⟩) xs109.length xs3.length 3 1 (fl eI64.en xs109) :: .obj bq86 (en_TenantState x84) 58 :: .obj bq7 (en_Config c0 g_c0) 30 :: .obj bq6 ([.slice (some ⟨bq5,0,none⟩) xs109.length xs3.length]) 129 :: .obj bq2 (en_State s1 g_s1) 38 :: .obj bq1 (en_Config c0 g_c0) 30 :: L⟩) ?_ ?_
  ·refine HC.intro (N := 33) (args := [_,_,_]) tt_ok Tryz.func136 rfl (by decide +kernel) rfl (Nat.le_of_ble_eq_true rfl)<|rb<|r_bx (en_TenantState x84) (by kernel_rfl) fun bq89 => r_bx (en_Tenant x87) (by kernel_rfl) fun bq90 => rd<|rb ?_
   replace h := h_j h; obtain ⟨K100,h,hK101⟩ := h
   refine r_meet (fun fr S => ∃ (xs98 : (List Int)),∃ fr0,K100 xs98 = some r ∧ fr = updL [(2,pp bq6 0),(3,pp bq89 0),(4,pp bq90 0)] fr0 ∧ S = ⟨ρ,.row (some ⟨bq5,0,none⟩) xs98.length xs3.length 3 1 (fl eI64.en xs98) :: .obj bq90 (en_Tenant x87) 77 :: .obj bq89 (en_TenantState x84) 58 :: .obj bq86 (en_TenantState x84) 58 :: .obj bq7 (en_Config c0 g_c0) 30 :: .obj bq6 ([.slice (some ⟨bq5,0,none⟩) xs98.length xs3.length]) 129 :: .obj bq2 (en_State s1 g_s1) 38 :: .obj bq1 (en_Config c0 g_c0) 30 :: L⟩) ?_ ?_
   ·refine rb<|ln 1 tt_ok (en_TenantState x84) ta_58 rfl<|rc (hc_137 (x0 := x84)) ?_
    rintro _ _ ⟨rfl,rfl⟩
    refine rd ?_
    apply r_iteh h<;>clear h<;>intro h
    ·refine rb<|ld 5 tt_ok (v := .slice (some ⟨bq5,0,none⟩) xs81.length xs3.length) ts_129 rfl<|ld 1 tt_ok (v := ii x84.Home) ts_3 rfl<|kp [(2,pp bq6 0),(3,pp bq89 0),(4,pp bq90 0),(7,.slice (some ⟨bq5,0,none⟩) xs81.length xs3.length),(9,ii x84.Home)] fun fr => ld 0 tt_ok (v := ii x87.Load) ts_3 rfl<|r_le (le_mv 3) ?_
     replace h := h_b h; obtain ⟨xs93,hx92,h⟩ := h
     refine rc (hc_138 (A_l0 := (some ⟨bq5,0,none⟩)) (c_l0 := xs3.length) (l0 := xs81) (cell1 := x84.Home) (n2 := x87.Load) (h := hx92)) ?_
     rintro _ _ ⟨rfl,rfl,hl94⟩
     rw [← hl94]
     refine rd<|ld 5 tt_ok (v := .slice (some ⟨bq5,0,none⟩) xs93.length xs3.length) ts_129 rfl<|ld 2 tt_ok (v := ii x84.Target) ts_3 rfl<|ld 1 tt_ok (v := ii x87.Load) ts_3 rfl ?_
     replace h := h_b h; obtain ⟨xs96,hx95,h⟩ := h
     refine rc (hc_138 (A_l0 := (some ⟨bq5,0,none⟩)) (c_l0 := xs3.length) (l0 := xs93) (cell1 := x84.Target) (n2 := x87.Load) (h := hx95)) ?_
     rintro _ _ ⟨rfl,rfl,hl97⟩
     rw [← hl97]
     exact kr [(2,pp bq6 0),(3,pp bq89 0),(4,pp bq90 0)] fun fr => rd ⟨xs96,_,h,fe _,by kernel_rfl⟩
    exact r_le ((le_mv 7).trans ((le_mv 7).trans ((le_mv 7).trans ((le_mv 7).trans ((le_mv 6).trans ((le_mv 6).trans ((le_mv 6).trans (le_mv 7))))))))<|rd ⟨xs81,_,h,fe _,by kernel_rfl⟩
   clear h
   rintro fr S ⟨xs98,fr,h,rfl,rfl⟩
   replace h := hK101 _ h
   refine rd<|rb<|ld 2 tt_ok (v := .bool x84.Placed) ts_4 rfl<|rd ?_
   apply r_iteh h<;>clear h<;>intro h
   ·refine rb<|ld 5 tt_ok (v := .slice (some ⟨bq5,0,none⟩) xs98.length xs3.length) ts_129 rfl<|ld 2 tt_ok (v := ii x84.Standby) ts_3 rfl<|ld 1 tt_ok (v := ii x87.Shadow) ts_3 rfl ?_
    replace h := h_b h; obtain ⟨xs104,hx103,h⟩ := h
    refine rc (hc_138 (A_l0 := (some ⟨bq5,0,none⟩)) (c_l0 := xs3.length) (l0 := xs98) (cell1 := x84.Standby) (n2 := x87.Shadow) (h := hx103)) ?_
    rintro _ _ ⟨rfl,rfl,hl105⟩
    rw [← hl105]
    refine rd<|ld 5 tt_ok (v := .slice (some ⟨bq5,0,none⟩) xs104.length xs3.length) ts_129 rfl<|kp [(3,pp bq89 0),(4,pp bq90 0),(27,.slice (some ⟨bq5,0,none⟩) xs104.length xs3.length)] fun fr => ld 2 tt_ok (v := ii x84.Next) ts_3 rfl<|ld 1 tt_ok (v := ii x87.Shadow) ts_3 rfl ?_
    replace h := h_b h; obtain ⟨xs107,hx106,h⟩ := h
    refine rc (hc_138 (A_l0 := (some ⟨bq5,0,none⟩)) (c_l0 := xs3.length) (l0 := xs104) (cell1 := x84.Next) (n2 := x87.Shadow) (h := hx106)) ?_
    rintro _ _ ⟨rfl,rfl,hl108⟩
    rw [← hl108]
    repeat refine rd ?_
    exact ret_of RV.nil (le_w [true,false,false,true,true,true,true,true]) ⟨xs107,h,rfl,rfl⟩
   repeat refine rd ?_
   exact ret_of RV.nil (le_w [true,false,false,true,true,true,true,true]) ⟨xs98,h,rfl,rfl⟩
  clear h
  rintro v S ⟨xs109,h,rfl,rfl⟩
  replace h := hK112 _ h
  refine rd ⟨rfl,k_a (le_w [false,true,true,false,true,true]) (le_w [false,true,true,false,true,true]),?_⟩
  exact xk [(2,.func (.func 136) #[] #[pp bq6 0]),(3,pp bq7 0),(17,.slice A11 xs9.length c12),(18,ii (xs9.length : Int)),(19,ii x80)] fun fr => rd<|rd<|r_num (e' := w64 (x80 + 1)) rfl<|r_le (le_w [true,false,true,true,true,true])<|rd ⟨m116,lt_s hm116,w64 (x80 + 1),xs109,_,h,fe _,by kernel_rfl⟩
 refine rd<|rd ?_
 replace h := h_m h
 subst hK115
 repeat refine rd ?_
 refine ret_of RV.nil (Le.refl _)<|rd<|rb<|ld 2 tt_ok (v := .slice (some ⟨bq5,0,none⟩) xs81.length xs3.length) ts_129 rfl<|rd ?_
 repeat refine rd ?_
 repeat refine rd ?_
 obtain rfl := h_out h
 exact ret_of (RV.tmp RV.nil) (le_w [true,false,false,false,false]) ⟨(some ⟨bq5,0,none⟩),xs3.length,rfl,rfl⟩
theorem hc_121 {g_c0 : gConfig} {g_s1 : gState} {S_c0 : St} (hS_c0 : Le ⟨ρ,L⟩ S_c0) {S_s1 : St} (hS_s1 : Le ⟨ρ,L⟩ S_s1) (c0 : Config) (s1 : State) (h_c0 : Sl_Config S_c0 c0 g_c0) (h_s1 : Sl_State S_s1 s1 g_s1) {r : (List Int)} (h : load_Over c0 s1 = some r) : HC Tryz.prog 121 #[.agg (en_Config c0 g_c0).toArray,.agg (en_State s1 g_s1).toArray] ⟨ρ,L⟩ (fun v S' => ∃ (Aq1_0 : Option Addr),∃ (cq1_0 : Nat),v = .slice Aq1_0 r.length cq1_0 ∧ S' = ⟨ρ,.row Aq1_0 r.length cq1_0 3 1 (fl eI64.en r) :: L⟩) := by
 replace h := h_in h
 refine HC.intro (N := 31) (args := [_,_]) tt_ok Tryz.func121 rfl (by decide +kernel) rfl (Nat.le_of_ble_eq_true rfl)<|rb<|r_bx (en_Config c0 g_c0) (by kernel_rfl) fun bq1 => r_bx (en_State s1 g_s1) (by kernel_rfl) fun bq2 => rd<|rb<|rd<|rb<|rb<|ln 1 tt_ok (en_Config c0 g_c0) ta_30 rfl<|ln 0 tt_ok (en_State s1 g_s1) ta_38 rfl ?_
 replace h := h_b h; obtain ⟨xs4,hx3,h⟩ := h
 refine rc (hc_131 (g_c0 := g_c0) (c0 := c0) (g_s1 := g_s1) (s1 := s1) (hS_c0 := by exact (le_d 2).trans hS_c0) (h_c0 :=h_c0) (hS_s1 := by exact (le_d 2).trans hS_s1) (h_s1 :=h_s1) (h := hx3)) ?_
 rintro _ _ ⟨A5,c6,rfl,rfl⟩
 refine kr [(2,pp bq1 0),(5,.slice none 0 0),(10,.slice A5 xs4.length c6),(11,ii (xs4.length : Int)),(12,ii 0)] fun fr => rd<|rb ?_
 replace h := h_l h; obtain ⟨K60,n61,h,hK62⟩ := h
 refine r_le ((le_nil 3 1).trans (le_w [true,true,false,true]))<|r_loop (fun n fr S => ∃ (xs43 : (List Int)),∃ (x47 : Int),∃ (A44 : Option Addr),∃ (c45 : Nat),∃ fr0,(runN (load_Over.b1 xs4 c0) n (xs43,x47)).bind K60 = some r ∧ fr = updL [(2,pp bq1 0),(5,.slice A44 xs43.length c45),(10,.slice A5 xs4.length c6),(11,ii (xs4.length : Int)),(12,ii x47)] fr0 ∧ S = ⟨ρ,.row A44 xs43.length c45 3 1 (fl eI64.en xs43) :: .row A5 xs4.length c6 3 1 (fl eI64.en xs4) :: .obj bq1 (en_Config c0 g_c0) 30 :: L⟩) n61 ⟨[],0,none,0,_,h,fe _,by kernel_rfl⟩ ?_
 clear h
 rintro n61 fr S ⟨xs43,x47,A44,c45,fr,h,rfl,rfl⟩
 replace h := h_r h; obtain ⟨m63,hm63,h⟩ := h
 refine rb<|rd<|rb ?_
 apply r_iteh h<;>clear h<;>intro h
 ·refine rd<|rb<|rb<|rb ?_
  replace h := h_b h; obtain ⟨x49,hx50,h⟩ := h
  refine r_el hx50 (rd_row 1 rfl)<|r_lec (E := eI64) tt_ok (v := ii x49) (idx_get hx50) (rd_row 1 rfl) ts_3 rfl (pl0 _ _) (by kernel_rfl)<|rd<|rb<|ld 2 tt_ok (v := .slice g_c0.Cells.1 c0.Cells.length g_c0.Cells.2) ts_26 rfl<|kp [(2,pp bq1 0),(5,.slice A44 xs43.length c45),(6,ii x47),(10,.slice A5 xs4.length c6),(11,ii (xs4.length : Int)),(12,ii x47),(17,ii x49),(19,.slice g_c0.Cells.1 c0.Cells.length g_c0.Cells.2)] fun fr => ?_
  replace h := h_b h; obtain ⟨x51,hx52,h⟩ := h
  refine r_el hx52 ((h_c0.2.1).rd.mono ((le_d 3).trans hS_c0))<|r_lec (E := eCell) tt_ok (v := ii x51.Capacity) (idx_get hx52) ((h_c0.2.1).rd.mono ((le_d 3).trans hS_c0)) ts_3 rfl (pl1 _ _ _) (by kernel_rfl)<|rd ?_
  apply r_iteh h<;>clear h<;>intro h
  ·refine r_bs tt_ok (fl eI64.en [x47]) te_22 ti_3 (by kernel_rfl) (by kernel_rfl) (by kernel_rfl) (by kernel_rfl) fun bq54 => ?_
   replace h := h_b h; obtain ⟨xs55,ha56,h⟩ := h
   refine r_app 1 (E := eI64) (xs := xs43) (ys := [x47]) tt_ok ha56 (rd_row 0 rfl) rfl te_22 ti_3 rfl (by kernel_rfl) rfl (fun A57 c58 => ?_)
   exact kp [(2,pp bq1 0),(5,.slice A44 xs43.length c45),(10,.slice A5 xs4.length c6),(11,ii (xs4.length : Int)),(12,ii x47),(28,.slice A57 xs55.length c58)] fun fr => rd<|rd<|r_num (e' := w64 (x47 + 1)) rfl<|r_le (le_w [false,true,true,true])<|rd ⟨m63,lt_s hm63,xs55,w64 (x47 + 1),A57,c58,_,h,fe _,by kernel_rfl⟩
  exact rd<|rd<|r_num (e' := w64 (x47 + 1)) rfl<|rd ⟨m63,lt_s hm63,xs43,w64 (x47 + 1),A44,c45,_,h,fe _,by kernel_rfl⟩
 refine rd<|rd ?_
 replace h := h_m h
 subst hK62
 refine rd<|rb<|rd ?_
 repeat refine rd ?_
 repeat refine rd ?_
 obtain rfl := h_out h
 exact ret_of (RV.tmp RV.nil) (le_w [true,false,false]) ⟨A44,c45,rfl,rfl⟩
theorem hc_107 {bf0 : Nat} {g_f0 : gstate_fold} {S_f0 : St} (hS_f0 : Le ⟨ρ,L⟩ S_f0) (f0 : state_fold) (h_f0 : Sl_state_fold S_f0 f0 g_f0) (h_f0_t : g_f0.t = fptr g_f0.s_Tenants.1 f0.e.Tenant 12) (h_f0_cell : g_f0.cell = fptr g_f0.s_Cells.1 f0.e.Cell 4) {r : Int} (h : state_fold_full f0 = some r) : HC Tryz.prog 107 #[pp bf0 0] ⟨ρ,.row g_f0.s_Tenants.1 f0.s.Tenants.length g_f0.s_Tenants.2 58 12 (fl eTenantState.en f0.s.Tenants) :: .row g_f0.s_Cells.1 f0.s.Cells.length g_f0.s_Cells.2 54 4 (fl eCellState.en f0.s.Cells) :: .obj bf0 (en_state_fold f0 g_f0) 85 :: L⟩ (fun v S' => v = ii r ∧ S' = ⟨ρ,.row g_f0.s_Tenants.1 f0.s.Tenants.length g_f0.s_Tenants.2 58 12 (fl eTenantState.en f0.s.Tenants) :: .row g_f0.s_Cells.1 f0.s.Cells.length g_f0.s_Cells.2 54 4 (fl eCellState.en f0.s.Cells) :: .obj bf0 (en_state_fold f0 g_f0) 85 :: L⟩) := by
 replace h := h_in h
 refine HC.intro (N := 14) (args := [_]) tt_ok Tryz.func107 rfl (by decide +kernel) rfl (Nat.le_of_ble_eq_true rfl)<|rb<|rd<|rb<|rb<|r_mix tt_ok hm_ok _ _ [] (.pure 0 (.pure 1 (.pure 2 (.vb 3 (.pure 4 (.pure 5 (.pure 6 (.vb 7 (.eff 8 (.pure 9 (.pure 10 .nil))))))))))) (le_w [true,true,true]) (le_w [true,true,true]) ?_ ?_
 ·decide +kernel
 refine x_p rfl<|vd<|x_p rfl<|vd<|x_p rfl<|vd<|x_vb rfl<|vn 2 tt_ok (en_Config f0.c (⟨(g_f0.c_Zones.1,g_f0.c_Zones.2),(g_f0.c_Cells.1,g_f0.c_Cells.2),(g_f0.c_Tenants.1,g_f0.c_Tenants.2),(g_f0.c_Versions.1,g_f0.c_Versions.2),(g_f0.c_Replicas.1,g_f0.c_Replicas.2),(g_f0.c_Observers.1,g_f0.c_Observers.2)⟩)) ta_30 rfl<|vd<|x_p rfl<|vd<|x_p rfl<|vd ?_
 refine x_p rfl<|vd<|x_vb rfl<|vn 2 tt_ok (en_State f0.s (⟨(g_f0.s_Tenants.1,g_f0.s_Tenants.2),(g_f0.s_Cells.1,g_f0.s_Cells.2)⟩)) ta_38 rfl<|vd<|xp [(6,.agg (en_Config f0.c (⟨(g_f0.c_Zones.1,g_f0.c_Zones.2),(g_f0.c_Cells.1,g_f0.c_Cells.2),(g_f0.c_Tenants.1,g_f0.c_Tenants.2),(g_f0.c_Versions.1,g_f0.c_Versions.2),(g_f0.c_Replicas.1,g_f0.c_Replicas.2),(g_f0.c_Observers.1,g_f0.c_Observers.2)⟩)).toArray),(10,.agg (en_State f0.s (⟨(g_f0.s_Tenants.1,g_f0.s_Tenants.2),(g_f0.s_Cells.1,g_f0.s_Cells.2)⟩)).toArray)] fun fr => x_e rfl ?_
 replace h := h_b h; obtain ⟨xs2,hx1,h⟩ := h
 refine rc (hc_121 (g_c0 := ⟨(g_f0.c_Zones.1,g_f0.c_Zones.2),(g_f0.c_Cells.1,g_f0.c_Cells.2),(g_f0.c_Tenants.1,g_f0.c_Tenants.2),(g_f0.c_Versions.1,g_f0.c_Versions.2),(g_f0.c_Replicas.1,g_f0.c_Replicas.2),(g_f0.c_Observers.1,g_f0.c_Observers.2)⟩) (c0 := f0.c) (g_s1 := ⟨(g_f0.s_Tenants.1,g_f0.s_Tenants.2),(g_f0.s_Cells.1,g_f0.s_Cells.2)⟩) (s1 := f0.s) (hS_c0 := by exact (le_d 3).trans hS_f0) (h_c0 :=h_f0) (hS_s1 := by exact Le.refl _) (h_s1 := by exact ⟨sl_row 0 rfl,sl_row 1 rfl⟩) (h := hx1)) ?_
 rintro _ _ ⟨A3,c4,rfl,rfl⟩
 refine rd ⟨rfl,k_a (le_w [false,true,true,true]) (le_w [false,true,true,true]),?_⟩
 refine x_p rfl<|vd<|x_p rfl<|vd<|xk [(13,.bool (decide (0 < (xs2.length : Int))))] fun fr => rd ?_
 apply r_iteh h<;>clear h<;>intro h
 ·refine rb<|rd ?_
  repeat refine rd ?_
  repeat refine rd ?_
  obtain rfl := h_out h
  exact ret_of (RV.tmp RV.nil) (le_w [false,true,true,true]) ⟨rfl,rfl⟩
 refine rd<|rb<|rd ?_
 repeat refine rd ?_
 repeat refine rd ?_
 obtain rfl := h_out h
 exact ret_of (RV.tmp RV.nil) (le_w [false,true,true,true]) ⟨rfl,rfl⟩
theorem hc_71 {bf0 : Nat} {g_f0 : gstate_fold} {S_f0 : St} (hS_f0 : Le ⟨ρ,L⟩ S_f0) (f0 : state_fold) (h_f0 : Sl_state_fold S_f0 f0 g_f0) (h_f0_t : g_f0.t = fptr g_f0.s_Tenants.1 f0.e.Tenant 12) (h_f0_cell : g_f0.cell = fptr g_f0.s_Cells.1 f0.e.Cell 4) {r : (Int × State)} (h : state_fold_place f0 = some r) : HC Tryz.prog 71 #[pp bf0 0] ⟨ρ,.row g_f0.s_Tenants.1 f0.s.Tenants.length g_f0.s_Tenants.2 58 12 (fl eTenantState.en f0.s.Tenants) :: .row g_f0.s_Cells.1 f0.s.Cells.length g_f0.s_Cells.2 54 4 (fl eCellState.en f0.s.Cells) :: .obj bf0 (en_state_fold f0 g_f0) 85 :: L⟩ (fun v S' => v = ii r.1 ∧ S' = ⟨ρ,.row g_f0.s_Tenants.1 r.2.Tenants.length g_f0.s_Tenants.2 58 12 (fl eTenantState.en r.2.Tenants) :: .row g_f0.s_Cells.1 r.2.Cells.length g_f0.s_Cells.2 54 4 (fl eCellState.en r.2.Cells) :: .obj bf0 (en_state_fold ({ f0 with s := r.2 }) g_f0) 85 :: L⟩) := by
 replace h := h_in h
 refine HC.intro (N := 90) (args := [_]) tt_ok Tryz.func71 rfl (by decide +kernel) rfl (Nat.le_of_ble_eq_true rfl)<|rb<|rd<|rb<|r_mix tt_ok hm_ok _ _ [] (.pure 0 (.pure 1 (.pure 2 (.pure 3 (.vb 4 (.pure 5 (.pure 6 (.pure 7 (.pure 8 (.vb 9 (.pure 10 (.pure 11 .nil)))))))))))) (le_w [true,true,true]) (le_w [true,true,true]) ?_ ?_
 ·decide +kernel
 refine x_p rfl<|vd<|x_p rfl<|vd<|x_p rfl<|vd<|x_p rfl<|vd<|x_vb rfl<|vl 2 tt_ok (v := ii f0.e.Cell) ts_3 rfl<|vd<|x_p rfl<|vd ?_
 refine x_p rfl<|vd<|x_p rfl<|vd<|xp [(0,pp bf0 0),(9,ii f0.e.Cell),(12,pp bf0 18)] fun fr => x_p rfl<|vd<|x_vb rfl<|vl 2 tt_ok (v := ii f0.e.Other) ts_3 rfl<|vd<|x_p rfl<|vd<|x_p rfl ?_
 refine vd<|xk [(0,pp bf0 0),(3,ii f0.e.Cell),(4,ii f0.e.Other)] fun fr => rd<|rb<|rb<|rb ?_
 replace h := h_b h; obtain ⟨x1,hx2,h⟩ := h
 refine r_ld 2 tt_ok (v := .pointer (some ((adr g_f0.s_Tenants.1).add (f0.e.Tenant.toNat * 12)))) ts_82 rfl (by rw [← fptr_at h_f0_t hx2]; kernel_rfl)<|r_lec (E := eTenantState) tt_ok (v := .bool x1.Placed) (idx_get hx2) (rd_row 0 rfl) ts_4 rfl (pl1 _ _ _) (by kernel_rfl)<|rd ?_
 apply r_iteh h<;>clear h<;>intro h
 ·refine rb<|kr [(2,ii 4)] fun fr => rd ?_
  repeat refine rd ?_
  repeat refine rd ?_
  obtain rfl := h_out h
  exact ret_of (RV.tmp RV.nil) (Le.refl _) ⟨rfl,rfl⟩
 refine rb ?_
 replace h := h_j h; obtain ⟨K11,h,hK12⟩ := h
 refine r_meet (fun fr S => ∃ (x10 : Bool),∃ fr0,K11 x10 = some r ∧ fr = updL [(0,pp bf0 0),(3,ii f0.e.Cell),(4,ii f0.e.Other),(23,.bool x10)] fr0 ∧ S = ⟨ρ,.row g_f0.s_Tenants.1 f0.s.Tenants.length g_f0.s_Tenants.2 58 12 (fl eTenantState.en f0.s.Tenants) :: .row g_f0.s_Cells.1 f0.s.Cells.length g_f0.s_Cells.2 54 4 (fl eCellState.en f0.s.Cells) :: .obj bf0 (en_state_fold f0 g_f0) 85 :: L⟩) ?_ ?_
 ·replace h := h_b h; obtain ⟨x5,hx4,h⟩ := h
  refine rc (hc_104 (bf0 := bf0) (g_f0 := g_f0) (f0 := f0) (cell1 := f0.e.Cell) (hS_f0 := by exact (le_d 0).trans hS_f0) (h_f0 :=h_f0) (h_f0_t :=h_f0_t) (h_f0_cell :=h_f0_cell) (h := hx4)) ?_
  rintro _ _ ⟨rfl,rfl⟩
  refine kp [(0,pp bf0 0),(3,ii f0.e.Cell),(4,ii f0.e.Other),(26,.bool x5)] fun fr => ?_
  apply r_iteh h<;>clear h<;>intro h
  ·exact r_T rfl<|r_T rfl<|r_T rfl<|kp [(0,pp bf0 0),(3,ii f0.e.Cell),(4,ii f0.e.Other),(28,.bool true),(36,undef)] fun fr => r_T rfl<|rd ⟨true,_,h,fe _,by kernel_rfl⟩
  refine r_F rfl<|r_F rfl ?_
  apply r_iteh h<;>clear h<;>intro h
  ·refine r_T rfl<|r_T rfl ?_
   replace h := h_b h; obtain ⟨x9,hx8,h⟩ := h
   refine rc (hc_104 (bf0 := bf0) (g_f0 := g_f0) (f0 := f0) (cell1 := f0.e.Other) (hS_f0 := by exact (le_d 0).trans hS_f0) (h_f0 :=h_f0) (h_f0_t :=h_f0_t) (h_f0_cell :=h_f0_cell) (h := hx8)) ?_
   rintro _ _ ⟨rfl,rfl⟩
   exact r_T rfl<|kp [(0,pp bf0 0),(3,ii f0.e.Cell),(4,ii f0.e.Other),(28,.bool false),(31,.bool true),(35,.bool (!x9))] fun fr => r_F rfl<|rd ⟨!x9,_,h,fe _,by kernel_rfl⟩
  exact r_F rfl<|r_F rfl<|r_F rfl<|kp [(0,pp bf0 0),(3,ii f0.e.Cell),(4,ii f0.e.Other),(28,.bool false),(31,.bool false),(35,undef)] fun fr => r_F rfl<|r_F rfl<|rd ⟨false,_,h,fe _,by kernel_rfl⟩
 clear h
 rintro fr S ⟨x10,fr,h,rfl,rfl⟩
 replace h := hK12 _ h
 refine rd ?_
 apply r_iteh h<;>clear h<;>intro h
 ·refine rb<|rd ?_
  repeat refine rd ?_
  repeat refine rd ?_
  obtain rfl := h_out h
  exact ret_of (RV.tmp RV.nil) (Le.refl _) ⟨rfl,rfl⟩
 refine rb ?_
 replace h := h_j h; obtain ⟨K21,h,hK22⟩ := h
 refine r_meet (fun fr S => ∃ (x20 : Bool),∃ fr0,K21 x20 = some r ∧ fr = updL [(0,pp bf0 0),(3,ii f0.e.Cell),(4,ii f0.e.Other),(38,.bool x20)] fr0 ∧ S = ⟨ρ,.row g_f0.s_Tenants.1 f0.s.Tenants.length g_f0.s_Tenants.2 58 12 (fl eTenantState.en f0.s.Tenants) :: .row g_f0.s_Cells.1 f0.s.Cells.length g_f0.s_Cells.2 54 4 (fl eCellState.en f0.s.Cells) :: .obj bf0 (en_state_fold f0 g_f0) 85 :: L⟩) ?_ ?_
 ·replace h := h_b h; obtain ⟨x15,hx14,h⟩ := h
  refine rc (hc_105 (bf0 := bf0) (g_f0 := g_f0) (f0 := f0) (cell1 := f0.e.Cell) (hS_f0 := by exact (le_d 0).trans hS_f0) (h_f0 :=h_f0) (h_f0_t :=h_f0_t) (h_f0_cell :=h_f0_cell) (h := hx14)) ?_
  rintro _ _ ⟨rfl,rfl⟩
  refine kp [(0,pp bf0 0),(3,ii f0.e.Cell),(4,ii f0.e.Other),(41,.bool x15)] fun fr => ?_
  apply r_iteh h<;>clear h<;>intro h
  ·exact r_T rfl<|r_T rfl<|r_T rfl<|r_T rfl<|kp [(0,pp bf0 0),(3,ii f0.e.Cell),(4,ii f0.e.Other),(50,.bool true)] fun fr => rd ⟨true,_,h,fe _,by kernel_rfl⟩
  refine r_F rfl<|r_F rfl ?_
  apply r_iteh h<;>clear h<;>intro h
  ·refine r_T rfl<|r_T rfl ?_
   replace h := h_b h; obtain ⟨x19,hx18,h⟩ := h
   refine rc (hc_105 (bf0 := bf0) (g_f0 := g_f0) (f0 := f0) (cell1 := f0.e.Other) (hS_f0 := by exact (le_d 0).trans hS_f0) (h_f0 :=h_f0) (h_f0_t :=h_f0_t) (h_f0_cell :=h_f0_cell) (h := hx18)) ?_
   rintro _ _ ⟨rfl,rfl⟩
   exact r_F rfl<|kr [(0,pp bf0 0),(3,ii f0.e.Cell),(4,ii f0.e.Other),(38,.bool x19)] fun fr => rd ⟨x19,_,h,fe _,by kernel_rfl⟩
  exact r_F rfl<|r_F rfl<|r_F rfl<|r_F rfl<|kr [(0,pp bf0 0),(3,ii f0.e.Cell),(4,ii f0.e.Other),(38,.bool false)] fun fr => rd ⟨false,_,h,fe _,by kernel_rfl⟩
 clear h
 rintro fr S ⟨x20,fr,h,rfl,rfl⟩
 replace h := hK22 _ h
 refine rd ?_
 apply r_iteh h<;>clear h<;>intro h
 ·refine rb<|rd ?_
  repeat refine rd ?_
  repeat refine rd ?_
  obtain rfl := h_out h
  exact ret_of (RV.tmp RV.nil) (Le.refl _) ⟨rfl,rfl⟩
 refine rb ?_
 replace h := h_j h; obtain ⟨K32,h,hK33⟩ := h
 refine r_meet (fun fr S => ∃ (x31 : Bool),∃ fr0,K32 x31 = some r ∧ fr = updL [(0,pp bf0 0),(3,ii f0.e.Cell),(4,ii f0.e.Other),(51,.bool x31)] fr0 ∧ S = ⟨ρ,.row g_f0.s_Tenants.1 f0.s.Tenants.length g_f0.s_Tenants.2 58 12 (fl eTenantState.en f0.s.Tenants) :: .row g_f0.s_Cells.1 f0.s.Cells.length g_f0.s_Cells.2 54 4 (fl eCellState.en f0.s.Cells) :: .obj bf0 (en_state_fold f0 g_f0) 85 :: L⟩) ?_ ?_
 ·replace h := h_b h; obtain ⟨x25,hx24,h⟩ := h
  refine rc (hc_106 (bf0 := bf0) (g_f0 := g_f0) (f0 := f0) (cell1 := f0.e.Cell) (A_others2 := none) (c_others2 := 0) (others2 := []) (hS_f0 := by exact (le_d 0).trans hS_f0) (h_f0 :=h_f0) (hS_others2 := by exact Le.refl _) (h_others2 := by exact sl_nil _ eI64) (h_f0_t :=h_f0_t) (h_f0_cell :=h_f0_cell) (h := hx24)) ?_
  rintro _ _ ⟨rfl,rfl⟩
  apply r_iteh h<;>clear h<;>intro h
  ·exact kp [(0,pp bf0 0),(3,ii f0.e.Cell),(4,ii f0.e.Other),(56,.bool true),(57,undef)] fun fr => r_T rfl<|r_T rfl<|r_T rfl<|kp [(0,pp bf0 0),(3,ii f0.e.Cell),(4,ii f0.e.Other),(56,.bool true),(66,undef)] fun fr => r_T rfl<|rd ⟨true,_,h,fe _,by kernel_rfl⟩
  refine kp [(0,pp bf0 0),(3,ii f0.e.Cell),(4,ii f0.e.Other),(56,.bool false),(57,ii f0.e.Other)] fun fr => r_F rfl<|r_F rfl ?_
  apply r_iteh h<;>clear h<;>intro h
  ·refine r_T rfl<|r_T rfl<|r_T rfl<|r_bs tt_ok (fl eI64.en [f0.e.Cell]) te_22 ti_3 (by kernel_rfl) (by kernel_rfl) (by kernel_rfl) (by kernel_rfl) fun bq28 => r_T rfl<|r_le ((le_mv 3).trans ((le_mv 3).trans (le_mv 3))) ?_
   replace h := h_b h; obtain ⟨x30,hx29,h⟩ := h
   refine rc (hc_106 (bf0 := bf0) (g_f0 := g_f0) (f0 := f0) (cell1 := f0.e.Other) (A_others2 := (some ⟨bq28,0,none⟩)) (c_others2 := 1) (others2 := [f0.e.Cell]) (hS_f0 := by exact (le_d 1).trans hS_f0) (h_f0 :=h_f0) (hS_others2 := by exact Le.refl _) (h_others2 := by exact sl_row 0 rfl) (h_f0_t :=h_f0_t) (h_f0_cell :=h_f0_cell) (h := hx29)) ?_
   rintro _ _ ⟨rfl,rfl⟩
   exact r_T rfl<|r_F rfl<|kp [(0,pp bf0 0),(3,ii f0.e.Cell),(4,ii f0.e.Other),(56,.bool false),(66,.bool (!x30))] fun fr => r_le (le_w [true,true,true,false])<|rd ⟨!x30,_,h,fe _,by kernel_rfl⟩
  exact r_F rfl<|r_F rfl<|r_F rfl<|r_F rfl<|r_F rfl<|r_F rfl<|r_F rfl<|kp [(0,pp bf0 0),(3,ii f0.e.Cell),(4,ii f0.e.Other),(56,.bool false),(66,.bool false)] fun fr => rd ⟨false,_,h,fe _,by kernel_rfl⟩
 clear h
 rintro fr S ⟨x31,fr,h,rfl,rfl⟩
 replace h := hK33 _ h
 refine rd ?_
 apply r_iteh h<;>clear h<;>intro h
 ·refine rb<|rd ?_
  repeat refine rd ?_
  repeat refine rd ?_
  obtain rfl := h_out h
  exact ret_of (RV.tmp RV.nil) (Le.refl _) ⟨rfl,rfl⟩
 refine rd<|rd<|rb<|r_mix tt_ok hm_ok _ _ [] (.pure 0 (.pure 1 (.pure 2 (.vb 3 (.pure 4 (.pure 5 (.pure 6 (.vb 7 (.pure 8 (.pure 9 (.pure 10 (.vb 11 (.pure 12 (.pure 13 (.pure 14 (.pure 15 (.eff 16 (.pure 17 (.pure 18 (.eff 19 (.pure 20 (.pure 21 (.eff 22 .nil))))))))))))))))))))))) (le_w [false,true,true]) (le_w [false,true,true]) ?_ ?_
 ·decide +kernel
 refine x_p rfl<|vd<|x_p rfl<|vd<|x_p rfl<|vd<|x_vb rfl ?_
 replace h := h_b h; obtain ⟨x35,hx36,h⟩ := h
 refine v_ld 1 tt_ok (v := .pointer (some ((adr g_f0.s_Tenants.1).add (f0.e.Tenant.toNat * 12)))) ts_82 rfl (by rw [← fptr_at h_f0_t hx36]; kernel_rfl)<|vd<|x_p rfl<|vd<|x_p rfl<|vd<|x_p rfl<|vd<|x_vb rfl<|v_ld 1 tt_ok (v := .pointer (some ((adr g_f0.s_Tenants.1).add (f0.e.Tenant.toNat * 12)))) ts_82 rfl (by rw [← fptr_at h_f0_t hx36]; kernel_rfl)<|vd<|x_p rfl<|vd ?_
 refine xp [(0,pp bf0 0),(3,ii f0.e.Cell),(4,ii f0.e.Other),(71,.pointer (some ((adr g_f0.s_Tenants.1).add (f0.e.Tenant.toNat * 12)))),(75,.pointer (some ((adr g_f0.s_Tenants.1).add (f0.e.Tenant.toNat * 12)))),(76,pp bf0 0)] fun fr => x_p rfl<|vd<|x_p rfl<|vd<|x_vb rfl<|v_ld 1 tt_ok (v := .pointer (some ((adr g_f0.s_Tenants.1).add (f0.e.Tenant.toNat * 12)))) ts_82 rfl (by rw [← fptr_at h_f0_t hx36]; kernel_rfl)<|vd<|x_p rfl<|vd<|x_p rfl<|vd<|x_p rfl ?_
 refine vd<|x_p rfl<|vd<|x_e rfl<|r_sec 0 (E := eTenantState) tt_ok ({ x35 with Placed := true }) (idx_get hx36) (f1 ts_4) rfl rfl (pl1 _ _ _) (by kernel_rfl) (by kernel_rfl) (List.cons_ne_nil _ _) ?_
 rw [show (en_state_fold f0 g_f0) = (en_state_fold ({ f0 with s := { f0.s with Tenants := (f0.s.Tenants.set f0.e.Tenant.toNat ({ x35 with Placed := true })) } }) g_f0) by simp [en_state_fold]]
 rw [← @List.length_set _ f0.s.Tenants f0.e.Tenant.toNat ({ x35 with Placed := true })]
 refine rd ⟨rfl,k_a (le_w [false,true,true]) (le_w [false,true,true]),?_⟩
 refine x_p rfl<|vd<|xp [(0,pp bf0 0),(79,.pointer (some ((adr g_f0.s_Tenants.1).add (f0.e.Tenant.toNat * 12)))),(80,ii f0.e.Cell),(81,ii f0.e.Other),(84,.pointer (some ((adr g_f0.s_Tenants.1).add (f0.e.Tenant.toNat * 12))))] fun fr => x_p rfl<|vd<|x_e rfl<|r_sec 0 (E := eTenantState) tt_ok ({ x35 with Placed := true,Home := f0.e.Cell }) (get_set (idx_get hx36) _) (f1 ts_3) rfl rfl (pl1 _ _ _) (by kernel_rfl) (by kernel_rfl) (List.cons_ne_nil _ _) ?_
 rw [show (en_state_fold ({ f0 with s := { f0.s with Tenants := (f0.s.Tenants.set f0.e.Tenant.toNat ({ x35 with Placed := true })) } }) g_f0) = (en_state_fold ({ f0 with s := { f0.s with Tenants := ((f0.s.Tenants.set f0.e.Tenant.toNat ({ x35 with Placed := true })).set f0.e.Tenant.toNat ({ x35 with Placed := true,Home := f0.e.Cell })) } }) g_f0) by simp [en_state_fold]]
 rw [← @List.length_set _ (f0.s.Tenants.set f0.e.Tenant.toNat ({ x35 with Placed := true })) f0.e.Tenant.toNat ({ x35 with Placed := true,Home := f0.e.Cell })]
 refine rd ⟨rfl,k_a (le_w [false,true,true]) (le_w [false,true,true]),?_⟩
 refine x_p rfl<|vd<|x_p rfl<|vd<|x_e rfl<|r_sec 0 (E := eTenantState) tt_ok ({ x35 with Placed := true,Home := f0.e.Cell,Standby := f0.e.Other }) (get_set (get_set (idx_get hx36) _) _) (f1 ts_3) rfl rfl (pl1 _ _ _) (by kernel_rfl) (by kernel_rfl) (List.cons_ne_nil _ _) ?_
 rw [show (en_state_fold ({ f0 with s := { f0.s with Tenants := ((f0.s.Tenants.set f0.e.Tenant.toNat ({ x35 with Placed := true })).set f0.e.Tenant.toNat ({ x35 with Placed := true,Home := f0.e.Cell })) } }) g_f0) = (en_state_fold ({ f0 with s := { f0.s with Tenants := (((f0.s.Tenants.set f0.e.Tenant.toNat ({ x35 with Placed := true })).set f0.e.Tenant.toNat ({ x35 with Placed := true,Home := f0.e.Cell })).set f0.e.Tenant.toNat ({ x35 with Placed := true,Home := f0.e.Cell,Standby := f0.e.Other })) } }) g_f0) by simp [en_state_fold]]
 rw [← @List.length_set _ ((f0.s.Tenants.set f0.e.Tenant.toNat ({ x35 with Placed := true })).set f0.e.Tenant.toNat ({ x35 with Placed := true,Home := f0.e.Cell })) f0.e.Tenant.toNat ({ x35 with Placed := true,Home := f0.e.Cell,Standby := f0.e.Other })]
 refine rd ⟨rfl,k_a (le_w [false,true,true]) (le_w [false,true,true]),?_⟩
 refine xk [(0,pp bf0 0)] fun fr => rd<|rb ?_
 replace h := h_b h; obtain ⟨x38,hx37,h⟩ := h
 refine rc (hc_107 (bf0 := bf0) (g_f0 := g_f0) (f0 := { f0 with s := { f0.s with Tenants := (((f0.s.Tenants.set f0.e.Tenant.toNat ({ x35 with Placed := true })).set f0.e.Tenant.toNat ({ x35 with Placed := true,Home := f0.e.Cell })).set f0.e.Tenant.toNat ({ x35 with Placed := true,Home := f0.e.Cell,Standby := f0.e.Other })) } }) (hS_f0 := by exact (le_d 0).trans hS_f0) (h_f0 :=h_f0) (h_f0_t :=h_f0_t) (h_f0_cell :=h_f0_cell) (h := hx37)) ?_
 rintro _ _ ⟨rfl,rfl⟩
 refine rd ?_
 repeat refine rd ?_
 repeat refine rd ?_
 obtain rfl := h_out h
 exact ret_of (RV.tmp RV.nil) (Le.refl _) ⟨rfl,rfl⟩
theorem hc_108 {bf0 : Nat} {g_f0 : gstate_fold} {S_f0 : St} (hS_f0 : Le ⟨ρ,L⟩ S_f0) (f0 : state_fold) (h_f0 : Sl_state_fold S_f0 f0 g_f0) (h_f0_t : g_f0.t = fptr g_f0.s_Tenants.1 f0.e.Tenant 12) (h_f0_cell : g_f0.cell = fptr g_f0.s_Cells.1 f0.e.Cell 4) {r : Bool} (h : state_fold_fits f0 = some r) : HC Tryz.prog 108 #[pp bf0 0] ⟨ρ,.row g_f0.s_Tenants.1 f0.s.Tenants.length g_f0.s_Tenants.2 58 12 (fl eTenantState.en f0.s.Tenants) :: .row g_f0.s_Cells.1 f0.s.Cells.length g_f0.s_Cells.2 54 4 (fl eCellState.en f0.s.Cells) :: .obj bf0 (en_state_fold f0 g_f0) 85 :: L⟩ (fun v S' => v = .bool r ∧ S' = ⟨ρ,.row g_f0.s_Tenants.1 f0.s.Tenants.length g_f0.s_Tenants.2 58 12 (fl eTenantState.en f0.s.Tenants) :: .row g_f0.s_Cells.1 f0.s.Cells.length g_f0.s_Cells.2 54 4 (fl eCellState.en f0.s.Cells) :: .obj bf0 (en_state_fold f0 g_f0) 85 :: L⟩) := by
 replace h := h_in h
 refine HC.intro (N := 65) (args := [_]) tt_ok Tryz.func108 rfl (by decide +kernel) rfl (Nat.le_of_ble_eq_true rfl)<|rb<|rd<|rb<|r_mix tt_ok hm_ok _ _ [] (.pure 0 (.pure 1 (.pure 2 (.pure 3 (.vb 4 (.pure 5 (.pure 6 (.pure 7 (.pure 8 (.vb 9 (.pure 10 (.pure 11 .nil)))))))))))) (le_w [true,true,true]) (le_w [true,true,true]) ?_ ?_
 ·decide +kernel
 refine x_p rfl<|vd<|x_p rfl<|vd<|x_p rfl<|vd<|x_p rfl<|vd<|x_vb rfl<|vl 2 tt_ok (v := ii f0.e.From) ts_3 rfl<|vd<|x_p rfl<|vd ?_
 refine x_p rfl<|vd<|x_p rfl<|vd<|xp [(0,pp bf0 0),(9,ii f0.e.From),(12,pp bf0 18)] fun fr => x_p rfl<|vd<|x_vb rfl<|vl 2 tt_ok (v := ii f0.e.Until) ts_3 rfl<|vd<|x_p rfl<|vd<|x_p rfl ?_
 refine vd<|xk [(0,pp bf0 0),(3,ii f0.e.From),(4,ii f0.e.Until)] fun fr => rd<|rb ?_
 replace h := h_j h; obtain ⟨K8,h,hK9⟩ := h
 refine r_meet (fun fr S => ∃ (x7 : Bool),∃ fr0,K8 x7 = some r ∧ fr = updL [(2,.bool x7)] fr0 ∧ S = ⟨ρ,.row g_f0.s_Tenants.1 f0.s.Tenants.length g_f0.s_Tenants.2 58 12 (fl eTenantState.en f0.s.Tenants) :: .row g_f0.s_Cells.1 f0.s.Cells.length g_f0.s_Cells.2 54 4 (fl eCellState.en f0.s.Cells) :: .obj bf0 (en_state_fold f0 g_f0) 85 :: L⟩) ?_ ?_
 refine r_mix tt_ok hm_ok _ _ [] (.pure 0 (.pure 1 (.pure 2 (.pure 3 (.pure 4 (.vb 5 (.pure 6 (.pure 7 (.pure 8 (.pure 9 (.pure 10 (.pure 11 (.pure 12 (.vb 13 (.pure 14 (.pure 15 (.pure 16 (.pure 17 (.vb 18 (.pure 19 (.pure 20 (.pure 21 (.pure 22 (.pure 23 (.pure 24 (.pure 25 (.pure 26 (.pure 27 (.pure 28 (.pure 29 (.pure 30 (.pure 31 (.pure 32 (.pure 33 (.pure 34 (.vb 35 (.pure 36 (.pure 37 (.pure 38 (.pure 39 (.pure 40 (.pure 41 (.pure 42 (.vb 43 (.pure 44 (.pure 45 (.pure 46 (.vb 47 (.pure 48 (.pure 49 (.pure 50 .nil))))))))))))))))))))))))))))))))))))))))))))))))))) (le_w [true,true,true]) (le_w [true,true,true]) ?_ ?_
 ·decide +kernel
 refine xp [(0,pp bf0 0),(3,ii f0.e.From),(4,ii f0.e.Until)] fun fr => x_p rfl<|vd<|x_p rfl<|vd<|x_p rfl<|vd<|x_p rfl<|vd<|x_p rfl<|vd<|x_vb rfl<|vl 2 tt_ok (v := ii f0.e.Tick) ts_3 rfl ?_
 refine vd<|x_p rfl<|vd<|x_p rfl<|vd<|x_p rfl ?_
 apply v_iteh h<;>clear h<;>intro h
 ·refine vd<|xp [(0,pp bf0 0),(3,ii f0.e.From),(4,ii f0.e.Until),(22,.bool true),(23,ii f0.e.From)] fun fr => x_p rfl<|v_T rfl<|vd<|x_p rfl<|v_T rfl<|vd<|x_p rfl<|v_T rfl<|vd<|x_p rfl<|v_T rfl ?_
  refine vd<|x_vb rfl<|v_T rfl<|vl 2 tt_ok (v := ii f0.e.Tick) ts_3 rfl<|vd<|x_p rfl<|v_T rfl<|vd<|x_p rfl<|v_T rfl<|vd<|x_p rfl<|v_T rfl ?_
  refine vd<|x_p rfl<|v_T rfl<|vd<|xp [(0,pp bf0 0),(3,ii f0.e.From),(4,ii f0.e.Until),(22,.bool true),(23,ii f0.e.From),(28,ii f0.e.Tick),(32,pp bf0 8)] fun fr => x_vb rfl<|v_T rfl<|vl 2 tt_ok (v := ii f0.c.Lease) ts_3 rfl<|vd<|x_p rfl<|v_T rfl<|v_num (e' := w64 (f0.e.Tick + f0.c.Lease)) rfl<|vd ?_
  refine x_p rfl<|v_T rfl<|vd<|x_p rfl<|vd<|x_p rfl<|vd<|x_p rfl ?_
  apply v_iteh h<;>clear h<;>intro h
  ·refine vd<|x_p rfl<|v_T rfl<|vd<|x_p rfl<|v_T rfl<|vd<|x_p rfl<|vd<|xp [(0,pp bf0 0),(3,ii f0.e.From),(4,ii f0.e.Until),(41,.bool (decide (f0.e.From < f0.e.Until)))] fun fr => x_p rfl<|vd<|x_p rfl ?_
   apply v_iteh h<;>clear h<;>intro h
   ·refine vd<|x_p rfl<|v_T rfl<|vd<|x_p rfl<|v_T rfl<|v_num (e' := w64 (f0.e.Until - f0.e.From)) rfl<|vd<|x_p rfl<|v_T rfl<|vd<|x_p rfl<|v_T rfl ?_
    refine vd<|x_p rfl<|v_T rfl<|vd<|x_p rfl<|v_T rfl<|vd<|x_vb rfl<|v_T rfl<|vl 2 tt_ok (v := ii f0.c.Lease) ts_3 rfl<|vd<|xp [(0,pp bf0 0),(3,ii f0.e.From),(42,.bool true),(45,ii (w64 (f0.e.Until - f0.e.From))),(50,ii f0.c.Lease)] fun fr => x_p rfl ?_
    refine v_T rfl<|vd<|x_p rfl<|vd<|x_p rfl<|vd<|x_p rfl ?_
    apply v_iteh h<;>clear h<;>intro h
    ·refine vd<|x_p rfl<|v_T rfl<|vd<|x_p rfl<|v_T rfl<|vd<|x_p rfl<|v_T rfl<|vd<|x_vb rfl<|v_T rfl ?_
     replace h := h_b h; obtain ⟨x5,hx6,h⟩ := h
     refine v_ld 2 tt_ok (v := .pointer (some ((adr g_f0.s_Tenants.1).add (f0.e.Tenant.toNat * 12)))) ts_82 rfl (by rw [← fptr_at h_f0_t hx6]; kernel_rfl)<|vd<|x_p rfl<|v_T rfl<|vd<|xp [(53,.bool true),(54,ii f0.e.From),(59,.pointer (some ((adr g_f0.s_Tenants.1).add (f0.e.Tenant.toNat * 12))))] fun fr => x_p rfl<|v_T rfl<|vd<|x_p rfl<|v_T rfl<|vd<|x_vb rfl ?_
     exact v_T rfl<|v_lec (E := eTenantState) tt_ok (v := ii x5.Window.Until) (idx_get hx6) (rd_row 0 rfl) ts_3 rfl (pl2 _ _ _ _) (by kernel_rfl)<|vd<|x_p rfl<|v_T rfl<|vd<|x_p rfl<|vd<|x_p rfl<|vd<|xk [(2,.bool (decide (x5.Window.Until ≤ f0.e.From)))] fun fr => rd ⟨decide (x5.Window.Until ≤ f0.e.From),_,h,fe _,by kernel_rfl⟩
    refine vd<|x_p rfl<|v_F rfl<|vd<|x_p rfl<|v_F rfl<|vd<|x_p rfl<|v_F rfl<|vd<|x_vb rfl<|v_F rfl<|vd ?_
    refine x_p rfl<|v_F rfl<|vd<|xp [(53,.bool false),(54,undef),(59,undef)] fun fr => x_p rfl<|v_F rfl<|vd<|x_p rfl<|v_F rfl<|vd<|x_vb rfl<|v_F rfl<|vd ?_
    exact x_p rfl<|v_F rfl<|vd<|x_p rfl<|v_F rfl<|vd<|x_p rfl<|vd<|xk [(2,.bool false)] fun fr => rd ⟨false,_,h,fe _,by kernel_rfl⟩
   refine vd<|x_p rfl<|v_F rfl<|vd<|x_p rfl<|v_F rfl<|vd<|x_p rfl<|v_F rfl<|vd<|x_p rfl<|v_F rfl<|vd ?_
   refine x_p rfl<|v_F rfl<|vd<|x_p rfl<|v_F rfl<|vd<|x_vb rfl<|v_F rfl<|vd<|xp [(0,pp bf0 0),(3,ii f0.e.From),(42,.bool false),(45,undef),(50,undef)] fun fr => x_p rfl<|v_F rfl<|vd ?_
   refine x_p rfl<|v_F rfl<|vd<|x_p rfl<|vd<|x_p rfl<|v_F rfl<|vd<|x_p rfl<|v_F rfl<|vd<|x_p rfl<|v_F rfl ?_
   refine vd<|x_p rfl<|v_F rfl<|vd<|x_vb rfl<|v_F rfl<|vd<|x_p rfl<|v_F rfl<|vd<|xp [(53,.bool false),(54,undef),(59,undef)] fun fr => x_p rfl<|v_F rfl ?_
   refine vd<|x_p rfl<|v_F rfl<|vd<|x_vb rfl<|v_F rfl<|vd<|x_p rfl<|v_F rfl<|vd<|x_p rfl<|v_F rfl<|vd ?_
   exact x_p rfl<|vd<|xk [(2,.bool false)] fun fr => rd ⟨false,_,h,fe _,by kernel_rfl⟩
  refine vd<|x_p rfl<|v_F rfl<|vd<|x_p rfl<|v_F rfl<|vd<|x_p rfl<|v_F rfl<|vd<|xp [(0,pp bf0 0),(3,ii f0.e.From),(4,ii f0.e.Until),(41,.bool false)] fun fr => x_p rfl<|vd ?_
  refine x_p rfl<|v_F rfl<|vd<|x_p rfl<|v_F rfl<|vd<|x_p rfl<|v_F rfl<|vd<|x_p rfl<|v_F rfl<|vd<|x_p rfl ?_
  refine v_F rfl<|vd<|x_p rfl<|v_F rfl<|vd<|x_p rfl<|v_F rfl<|vd<|x_vb rfl<|v_F rfl<|vd<|xp [(0,pp bf0 0),(3,ii f0.e.From),(42,.bool false),(45,undef),(50,undef)] fun fr => x_p rfl ?_
  refine v_F rfl<|vd<|x_p rfl<|v_F rfl<|vd<|x_p rfl<|vd<|x_p rfl<|v_F rfl<|vd<|x_p rfl<|v_F rfl<|vd ?_
  refine x_p rfl<|v_F rfl<|vd<|x_p rfl<|v_F rfl<|vd<|x_vb rfl<|v_F rfl<|vd<|x_p rfl<|v_F rfl<|vd<|xp [(53,.bool false),(54,undef),(59,undef)] fun fr => ?_
  refine x_p rfl<|v_F rfl<|vd<|x_p rfl<|v_F rfl<|vd<|x_vb rfl<|v_F rfl<|vd<|x_p rfl<|v_F rfl<|vd<|x_p rfl ?_
  exact v_F rfl<|vd<|x_p rfl<|vd<|xk [(2,.bool false)] fun fr => rd ⟨false,_,h,fe _,by kernel_rfl⟩
 refine vd<|xp [(0,pp bf0 0),(3,ii f0.e.From),(4,ii f0.e.Until),(22,.bool false),(23,undef)] fun fr => x_p rfl<|v_F rfl<|vd<|x_p rfl<|v_F rfl<|vd<|x_p rfl<|v_F rfl<|vd<|x_p rfl<|v_F rfl ?_
 refine vd<|x_vb rfl<|v_F rfl<|vd<|x_p rfl<|v_F rfl<|vd<|x_p rfl<|v_F rfl<|vd<|x_p rfl<|v_F rfl<|vd ?_
 refine x_p rfl<|v_F rfl<|vd<|xp [(0,pp bf0 0),(3,ii f0.e.From),(4,ii f0.e.Until),(22,.bool false),(23,undef),(28,undef),(32,undef)] fun fr => x_vb rfl<|v_F rfl<|vd<|x_p rfl<|v_F rfl<|vd<|x_p rfl<|v_F rfl<|vd ?_
 refine x_p rfl<|v_F rfl<|vd<|x_p rfl<|vd<|x_p rfl<|v_F rfl<|vd<|x_p rfl<|v_F rfl<|vd<|x_p rfl<|v_F rfl ?_
 refine vd<|x_p rfl<|v_F rfl<|vd<|xp [(0,pp bf0 0),(3,ii f0.e.From),(4,ii f0.e.Until),(41,.bool false)] fun fr => x_p rfl<|vd<|x_p rfl<|v_F rfl<|vd<|x_p rfl<|v_F rfl<|vd ?_
 refine x_p rfl<|v_F rfl<|vd<|x_p rfl<|v_F rfl<|vd<|x_p rfl<|v_F rfl<|vd<|x_p rfl<|v_F rfl<|vd<|x_p rfl ?_
 refine v_F rfl<|vd<|x_vb rfl<|v_F rfl<|vd<|xp [(0,pp bf0 0),(3,ii f0.e.From),(42,.bool false),(45,undef),(50,undef)] fun fr => x_p rfl<|v_F rfl<|vd<|x_p rfl<|v_F rfl<|vd<|x_p rfl ?_
 refine vd<|x_p rfl<|v_F rfl<|vd<|x_p rfl<|v_F rfl<|vd<|x_p rfl<|v_F rfl<|vd<|x_p rfl<|v_F rfl<|vd ?_
 refine x_vb rfl<|v_F rfl<|vd<|x_p rfl<|v_F rfl<|vd<|xp [(53,.bool false),(54,undef),(59,undef)] fun fr => x_p rfl<|v_F rfl<|vd<|x_p rfl<|v_F rfl<|vd ?_
 exact x_vb rfl<|v_F rfl<|vd<|x_p rfl<|v_F rfl<|vd<|x_p rfl<|v_F rfl<|vd<|x_p rfl<|vd<|xk [(2,.bool false)] fun fr => rd ⟨false,_,h,fe _,by kernel_rfl⟩
 clear h
 rintro fr S ⟨x7,fr,h,rfl,rfl⟩
 replace h := hK9 _ h
 refine rd ?_
 repeat refine rd ?_
 repeat refine rd ?_
 obtain rfl := h_out h
 exact ret_of (RV.tmp RV.nil) (Le.refl _) ⟨rfl,rfl⟩
theorem hc_72 {bf0 : Nat} {g_f0 : gstate_fold} {S_f0 : St} (hS_f0 : Le ⟨ρ,L⟩ S_f0) (f0 : state_fold) (h_f0 : Sl_state_fold S_f0 f0 g_f0) (h_f0_t : g_f0.t = fptr g_f0.s_Tenants.1 f0.e.Tenant 12) (h_f0_cell : g_f0.cell = fptr g_f0.s_Cells.1 f0.e.Cell 4) {r : (Int × State)} (h : state_fold_grant f0 = some r) : HC Tryz.prog 72 #[pp bf0 0] ⟨ρ,.row g_f0.s_Tenants.1 f0.s.Tenants.length g_f0.s_Tenants.2 58 12 (fl eTenantState.en f0.s.Tenants) :: .row g_f0.s_Cells.1 f0.s.Cells.length g_f0.s_Cells.2 54 4 (fl eCellState.en f0.s.Cells) :: .obj bf0 (en_state_fold f0 g_f0) 85 :: L⟩ (fun v S' => v = ii r.1 ∧ S' = ⟨ρ,.row g_f0.s_Tenants.1 r.2.Tenants.length g_f0.s_Tenants.2 58 12 (fl eTenantState.en r.2.Tenants) :: .row g_f0.s_Cells.1 r.2.Cells.length g_f0.s_Cells.2 54 4 (fl eCellState.en r.2.Cells) :: .obj bf0 (en_state_fold ({ f0 with s := r.2 }) g_f0) 85 :: L⟩) := by
 replace h := h_in h
 refine HC.intro (N := 275) (args := [_]) tt_ok Tryz.func72 rfl (by decide +kernel) rfl (Nat.le_of_ble_eq_true rfl)<|rb<|rd<|rb<|r_mix tt_ok hm_ok _ _ [] (.pure 0 (.pure 1 (.pure 2 (.pure 3 (.vb 4 (.pure 5 (.pure 6 (.pure 7 (.pure 8 (.vb 9 (.pure 10 (.pure 11 (.pure 12 (.vb 13 (.pure 14 (.pure 15 (.vb 16 (.pure 17 (.pure 18 (.pure 19 .nil)))))))))))))))))))) (le_w [true,true,true]) (le_w [true,true,true]) ?_ ?_
 ·decide +kernel
 refine x_p rfl<|vd<|x_p rfl<|vd<|x_p rfl<|vd<|x_p rfl<|vd<|x_vb rfl<|vl 2 tt_ok (v := ii f0.e.Cell) ts_3 rfl<|vd<|x_p rfl<|vd ?_
 refine x_p rfl<|vd<|x_p rfl<|vd<|xp [(0,pp bf0 0),(9,ii f0.e.Cell),(12,pp bf0 18)] fun fr => x_p rfl<|vd<|x_vb rfl<|vl 2 tt_ok (v := ii f0.e.Cell) ts_3 rfl<|vd<|x_p rfl<|vd<|x_p rfl ?_
 refine vd<|x_p rfl<|vd<|x_vb rfl ?_
 replace h := h_b h; obtain ⟨x1,hx2,h⟩ := h
 refine v_ld 2 tt_ok (v := .pointer (some ((adr g_f0.s_Tenants.1).add (f0.e.Tenant.toNat * 12)))) ts_82 rfl (by rw [← fptr_at h_f0_t hx2]; kernel_rfl)<|vd<|x_p rfl<|vd<|x_p rfl<|vd<|x_vb rfl<|v_lec (E := eTenantState) tt_ok (v := ii x1.Home) (idx_get hx2) (rd_row 0 rfl) ts_3 rfl (pl1 _ _ _) (by kernel_rfl)<|vd<|xp [(0,pp bf0 0),(9,ii f0.e.Cell),(14,ii f0.e.Cell),(21,ii x1.Home)] fun fr => x_p rfl<|vd<|x_p rfl ?_
 refine vd<|x_p rfl<|vd<|xk [(0,pp bf0 0),(3,ii f0.e.Cell),(4,.bool (decide (f0.e.Cell = x1.Home)))] fun fr => rd<|rb<|rb<|rb<|r_meet (fun fr S => ∃ fr0,fr = updL [(0,pp bf0 0),(3,ii f0.e.Cell),(4,.bool (decide (f0.e.Cell = x1.Home))),(23,.bool ((!x1.Placed) || (x1.Shed && (!decide (f0.e.Cell = x1.Standby)))))] fr0 ∧ S = ⟨ρ,.row g_f0.s_Tenants.1 f0.s.Tenants.length g_f0.s_Tenants.2 58 12 (fl eTenantState.en f0.s.Tenants) :: .row g_f0.s_Cells.1 f0.s.Cells.length g_f0.s_Cells.2 54 4 (fl eCellState.en f0.s.Cells) :: .obj bf0 (en_state_fold f0 g_f0) 85 :: L⟩) ?_ ?_
 ·refine r_ld 2 tt_ok (v := .pointer (some ((adr g_f0.s_Tenants.1).add (f0.e.Tenant.toNat * 12)))) ts_82 rfl (by rw [← fptr_at h_f0_t hx2]; kernel_rfl)<|kp [(0,pp bf0 0),(3,ii f0.e.Cell),(4,.bool (decide (f0.e.Cell = x1.Home))),(27,.pointer (some ((adr g_f0.s_Tenants.1).add (f0.e.Tenant.toNat * 12))))] fun fr => r_lec (E := eTenantState) tt_ok (v := .bool x1.Placed) (idx_get hx2) (rd_row 0 rfl) ts_4 rfl (pl1 _ _ _) (by kernel_rfl)<|r_ite (fun (hb3 : (!x1.Placed) = true) => ?_) (fun (hb3 : (!x1.Placed) = false) => ?_)
  ·exact r_T rfl<|r_T rfl<|r_T rfl<|kp [(0,pp bf0 0),(3,ii f0.e.Cell),(4,.bool (decide (f0.e.Cell = x1.Home))),(32,.bool true),(36,undef)] fun fr => r_T rfl<|r_T rfl<|r_T rfl<|r_T rfl<|r_T rfl<|kp [(0,pp bf0 0),(3,ii f0.e.Cell),(4,.bool (decide (f0.e.Cell = x1.Home))),(32,.bool true),(50,undef)] fun fr => r_T rfl<|rd ⟨_,fr_eq _ (by (try rw [hb3]); kernel_rfl),by kernel_rfl⟩
  refine r_F rfl<|r_F rfl<|r_F rfl<|r_ld 2 tt_ok (v := .pointer (some ((adr g_f0.s_Tenants.1).add (f0.e.Tenant.toNat * 12)))) ts_82 rfl (by rw [← fptr_at h_f0_t hx2]; kernel_rfl)<|kp [(0,pp bf0 0),(3,ii f0.e.Cell),(4,.bool (decide (f0.e.Cell = x1.Home))),(32,.bool false),(36,.pointer (some ((adr g_f0.s_Tenants.1).add (f0.e.Tenant.toNat * 12))))] fun fr => r_F rfl<|r_F rfl<|r_F rfl<|r_lec (E := eTenantState) tt_ok (v := .bool x1.Shed) (idx_get hx2) (rd_row 0 rfl) ts_4 rfl (pl1 _ _ _) (by kernel_rfl)<|r_F rfl<|r_ite (fun (hb4 : x1.Shed = true) => ?_) (fun (hb4 : x1.Shed = false) => ?_)
  ·exact r_T rfl<|r_T rfl<|r_T rfl<|r_T rfl<|r_ld 2 tt_ok (v := .pointer (some ((adr g_f0.s_Tenants.1).add (f0.e.Tenant.toNat * 12)))) ts_82 rfl (by rw [← fptr_at h_f0_t hx2]; kernel_rfl)<|kp [(0,pp bf0 0),(3,ii f0.e.Cell),(4,.bool (decide (f0.e.Cell = x1.Home))),(32,.bool false),(40,.bool true),(41,ii f0.e.Cell),(45,.pointer (some ((adr g_f0.s_Tenants.1).add (f0.e.Tenant.toNat * 12))))] fun fr => r_T rfl<|r_T rfl<|r_T rfl<|r_lec (E := eTenantState) tt_ok (v := ii x1.Standby) (idx_get hx2) (rd_row 0 rfl) ts_3 rfl (pl1 _ _ _) (by kernel_rfl)<|r_T rfl<|r_F rfl<|rd ⟨_,fr_eq _ (by (try rw [hb4]); (try rw [hb3]); kernel_rfl),by kernel_rfl⟩
  exact r_F rfl<|r_F rfl<|r_F rfl<|r_F rfl<|kp [(0,pp bf0 0),(3,ii f0.e.Cell),(4,.bool (decide (f0.e.Cell = x1.Home))),(32,.bool false),(40,.bool false),(41,undef),(45,undef)] fun fr => r_F rfl<|r_F rfl<|r_F rfl<|r_F rfl<|r_F rfl<|r_F rfl<|rd ⟨_,fr_eq _ (by (try rw [hb4]); (try rw [hb3]); kernel_rfl),by kernel_rfl⟩
 rintro fr S ⟨fr,rfl,rfl⟩
 refine rd ?_
 apply r_iteh h<;>clear h<;>intro h
 ·refine rb<|rd ?_
  repeat refine rd ?_
  repeat refine rd ?_
  obtain rfl := h_out h
  exact ret_of (RV.tmp RV.nil) (Le.refl _) ⟨rfl,rfl⟩
 refine rb<|r_meet (fun fr S => ∃ fr0,fr = updL [(0,pp bf0 0),(3,ii f0.e.Cell),(4,.bool (decide (f0.e.Cell = x1.Home))),(52,.bool ((!(decide (f0.e.Cell = x1.Home))) && ((!decide (f0.e.Cell = x1.Standby)) && (!decide (f0.e.Cell = x1.Target)))))] fr0 ∧ S = ⟨ρ,.row g_f0.s_Tenants.1 f0.s.Tenants.length g_f0.s_Tenants.2 58 12 (fl eTenantState.en f0.s.Tenants) :: .row g_f0.s_Cells.1 f0.s.Cells.length g_f0.s_Cells.2 54 4 (fl eCellState.en f0.s.Cells) :: .obj bf0 (en_state_fold f0 g_f0) 85 :: L⟩) ?_ ?_
 ·refine r_ite (fun (hb6 : (!(decide (f0.e.Cell = x1.Home))) = true) => ?_) (fun (hb6 : (!(decide (f0.e.Cell = x1.Home))) = false) => ?_)
  ·refine r_T rfl<|kp [(0,pp bf0 0),(3,ii f0.e.Cell),(4,.bool (decide (f0.e.Cell = x1.Home))),(55,.bool true),(56,ii f0.e.Cell),(57,pp bf0 0)] fun fr => r_T rfl<|r_T rfl<|r_T rfl<|r_ld 2 tt_ok (v := .pointer (some ((adr g_f0.s_Tenants.1).add (f0.e.Tenant.toNat * 12)))) ts_82 rfl (by rw [← fptr_at h_f0_t hx2]; kernel_rfl)<|r_T rfl<|r_T rfl<|r_T rfl<|r_lec (E := eTenantState) tt_ok (v := ii x1.Standby) (idx_get hx2) (rd_row 0 rfl) ts_3 rfl (pl1 _ _ _) (by kernel_rfl)<|r_T rfl<|r_ite (fun (hb7 : (!decide (f0.e.Cell = x1.Standby)) = true) => ?_) (fun (hb7 : (!decide (f0.e.Cell = x1.Standby)) = false) => ?_)
   ·exact kp [(0,pp bf0 0),(3,ii f0.e.Cell),(4,.bool (decide (f0.e.Cell = x1.Home))),(66,.bool true),(67,ii f0.e.Cell)] fun fr => r_T rfl<|r_T rfl<|r_T rfl<|r_T rfl<|r_ld 2 tt_ok (v := .pointer (some ((adr g_f0.s_Tenants.1).add (f0.e.Tenant.toNat * 12)))) ts_82 rfl (by rw [← fptr_at h_f0_t hx2]; kernel_rfl)<|r_T rfl<|r_T rfl<|r_T rfl<|r_lec (E := eTenantState) tt_ok (v := ii x1.Target) (idx_get hx2) (rd_row 0 rfl) ts_3 rfl (pl1 _ _ _) (by kernel_rfl)<|r_T rfl<|kr [(0,pp bf0 0),(3,ii f0.e.Cell),(4,.bool (decide (f0.e.Cell = x1.Home))),(52,.bool (!decide (f0.e.Cell = x1.Target)))] fun fr => rd ⟨_,fr_eq _ (by (try rw [hb7]); (try rw [hb6]); kernel_rfl),by kernel_rfl⟩
   exact kp [(0,pp bf0 0),(3,ii f0.e.Cell),(4,.bool (decide (f0.e.Cell = x1.Home))),(66,.bool false),(67,undef)] fun fr => r_F rfl<|r_F rfl<|r_F rfl<|r_F rfl<|r_F rfl<|r_F rfl<|r_F rfl<|r_F rfl<|r_F rfl<|kp [(0,pp bf0 0),(3,ii f0.e.Cell),(4,.bool (decide (f0.e.Cell = x1.Home))),(76,.bool false)] fun fr => rd ⟨_,fr_eq _ (by (try rw [hb7]); (try rw [hb6]); kernel_rfl),by kernel_rfl⟩
  refine r_F rfl<|kp [(0,pp bf0 0),(3,ii f0.e.Cell),(4,.bool (decide (f0.e.Cell = x1.Home))),(55,.bool false),(56,undef),(57,undef)] fun fr => r_F rfl<|r_F rfl<|r_F rfl<|r_F rfl<|r_F rfl<|r_F rfl<|r_F rfl<|r_F rfl<|r_F rfl<|kp [(0,pp bf0 0),(3,ii f0.e.Cell),(4,.bool (decide (f0.e.Cell = x1.Home))),(66,.bool false),(67,undef)] fun fr => r_F rfl ?_
  exact r_F rfl<|r_F rfl<|r_F rfl<|r_F rfl<|r_F rfl<|r_F rfl<|r_F rfl<|r_F rfl<|kp [(0,pp bf0 0),(3,ii f0.e.Cell),(4,.bool (decide (f0.e.Cell = x1.Home))),(76,.bool false)] fun fr => rd ⟨_,fr_eq _ (by (try rw [hb6]); kernel_rfl),by kernel_rfl⟩
 rintro fr S ⟨fr,rfl,rfl⟩
 refine rd ?_
 apply r_iteh h<;>clear h<;>intro h
 ·refine rb<|rd ?_
  repeat refine rd ?_
  repeat refine rd ?_
  obtain rfl := h_out h
  exact ret_of (RV.tmp RV.nil) (Le.refl _) ⟨rfl,rfl⟩
 refine rb ?_
 replace h := h_j h; obtain ⟨K14,h,hK15⟩ := h
 refine r_meet (fun fr S => ∃ (x13 : Bool),∃ fr0,K14 x13 = some r ∧ fr = updL [(0,pp bf0 0),(3,ii f0.e.Cell),(4,.bool (decide (f0.e.Cell = x1.Home))),(77,.bool x13)] fr0 ∧ S = ⟨ρ,.row g_f0.s_Tenants.1 f0.s.Tenants.length g_f0.s_Tenants.2 58 12 (fl eTenantState.en f0.s.Tenants) :: .row g_f0.s_Cells.1 f0.s.Cells.length g_f0.s_Cells.2 54 4 (fl eCellState.en f0.s.Cells) :: .obj bf0 (en_state_fold f0 g_f0) 85 :: L⟩) ?_ ?_
 ·replace h := h_b h; obtain ⟨x9,hx10,h⟩ := h
  refine r_ld 2 tt_ok (v := .pointer (some ((adr g_f0.s_Cells.1).add (f0.e.Cell.toNat * 4)))) ts_83 rfl (by rw [← fptr_at h_f0_cell hx10]; kernel_rfl)<|kp [(0,pp bf0 0),(3,ii f0.e.Cell),(4,.bool (decide (f0.e.Cell = x1.Home))),(81,.pointer (some ((adr g_f0.s_Cells.1).add (f0.e.Cell.toNat * 4))))] fun fr => r_lec (E := eCellState) tt_ok (v := ii x9.Mode) (idx_get hx10) (rd_row 1 rfl) ts_3 rfl (pl1 _ _ _) (by kernel_rfl) ?_
  apply r_iteh h<;>clear h<;>intro h
  ·exact r_T rfl<|r_T rfl<|r_T rfl<|kp [(0,pp bf0 0),(3,ii f0.e.Cell),(4,.bool (decide (f0.e.Cell = x1.Home))),(86,.bool true),(90,undef)] fun fr => r_T rfl<|r_T rfl<|r_T rfl<|r_T rfl<|r_T rfl<|r_T rfl<|r_T rfl<|kp [(0,pp bf0 0),(3,ii f0.e.Cell),(4,.bool (decide (f0.e.Cell = x1.Home))),(99,.bool true)] fun fr => rd ⟨true,_,h,fe _,by kernel_rfl⟩
  refine r_F rfl<|r_F rfl<|r_F rfl<|r_ld 2 tt_ok (v := .pointer (some ((adr g_f0.s_Cells.1).add (f0.e.Cell.toNat * 4)))) ts_83 rfl (by rw [← fptr_at h_f0_cell hx10]; kernel_rfl)<|kp [(0,pp bf0 0),(3,ii f0.e.Cell),(4,.bool (decide (f0.e.Cell = x1.Home))),(86,.bool false),(90,.pointer (some ((adr g_f0.s_Cells.1).add (f0.e.Cell.toNat * 4))))] fun fr => r_F rfl<|r_F rfl<|r_F rfl<|r_lec (E := eCellState) tt_ok (v := ii x9.Mode) (idx_get hx10) (rd_row 1 rfl) ts_3 rfl (pl1 _ _ _) (by kernel_rfl)<|r_F rfl<|r_F rfl ?_
  apply r_iteh h<;>clear h<;>intro h
  ·exact r_T rfl<|r_F rfl<|kr [(0,pp bf0 0),(3,ii f0.e.Cell),(4,.bool (decide (f0.e.Cell = x1.Home))),(77,.bool (!(decide (f0.e.Cell = x1.Home))))] fun fr => rd ⟨!(decide (f0.e.Cell = x1.Home)),_,h,fe _,by kernel_rfl⟩
  exact r_F rfl<|r_F rfl<|r_F rfl<|kr [(0,pp bf0 0),(3,ii f0.e.Cell),(4,.bool (decide (f0.e.Cell = x1.Home))),(77,.bool false)] fun fr => rd ⟨false,_,h,fe _,by kernel_rfl⟩
 clear h
 rintro fr S ⟨x13,fr,h,rfl,rfl⟩
 replace h := hK15 _ h
 refine rd ?_
 apply r_iteh h<;>clear h<;>intro h
 ·refine rb<|rd ?_
  repeat refine rd ?_
  repeat refine rd ?_
  obtain rfl := h_out h
  exact ret_of (RV.tmp RV.nil) (Le.refl _) ⟨rfl,rfl⟩
 refine rb ?_
 replace h := h_j h; obtain ⟨K22,h,hK23⟩ := h
 refine r_meet (fun fr S => ∃ (x21 : Bool),∃ fr0,K22 x21 = some r ∧ fr = updL [(0,pp bf0 0),(3,ii f0.e.Cell),(4,.bool (decide (f0.e.Cell = x1.Home))),(100,.bool x21)] fr0 ∧ S = ⟨ρ,.row g_f0.s_Tenants.1 f0.s.Tenants.length g_f0.s_Tenants.2 58 12 (fl eTenantState.en f0.s.Tenants) :: .row g_f0.s_Cells.1 f0.s.Cells.length g_f0.s_Cells.2 54 4 (fl eCellState.en f0.s.Cells) :: .obj bf0 (en_state_fold f0 g_f0) 85 :: L⟩) ?_ ?_
 refine r_mix tt_ok hm_ok _ _ [] (.pure 0 (.pure 1 (.pure 2 (.pure 3 (.vb 4 (.pure 5 (.pure 6 (.pure 7 (.vb 8 (.pure 9 (.pure 10 (.vb 11 (.pure 12 (.pure 13 (.pure 14 (.pure 15 (.pure 16 (.pure 17 (.pure 18 (.pure 19 (.pure 20 (.vb 21 (.pure 22 (.pure 23 (.pure 24 (.vb 25 (.pure 26 (.pure 27 (.vb 28 (.pure 29 (.pure 30 (.pure 31 (.pure 32 (.pure 33 .nil)))))))))))))))))))))))))))))))))) (le_w [true,true,true]) (le_w [true,true,true]) ?_ ?_
 ·decide +kernel
 refine x_p rfl<|vd<|x_p rfl<|vd<|x_p rfl<|vd<|x_p rfl<|vd<|xp [(0,pp bf0 0),(3,ii f0.e.Cell),(4,.bool (decide (f0.e.Cell = x1.Home))),(104,pp bf0 23)] fun fr => x_vb rfl<|vl 2 tt_ok (v := ii f0.e.Epoch) ts_3 rfl<|vd<|x_p rfl ?_
 refine vd<|x_p rfl<|vd<|x_p rfl<|vd<|x_vb rfl ?_
 replace h := h_b h; obtain ⟨x17,hx18,h⟩ := h
 refine v_ld 2 tt_ok (v := .pointer (some ((adr g_f0.s_Tenants.1).add (f0.e.Tenant.toNat * 12)))) ts_82 rfl (by rw [← fptr_at h_f0_t hx18]; kernel_rfl)<|vd<|x_p rfl<|vd<|x_p rfl<|vd<|x_vb rfl<|v_lec (E := eTenantState) tt_ok (v := ii x17.Epoch) (idx_get hx18) (rd_row 0 rfl) ts_3 rfl (pl1 _ _ _) (by kernel_rfl)<|vd<|x_p rfl<|v_num (e' := w64 (x17.Epoch + 1)) rfl<|vd<|xp [(0,pp bf0 0),(3,ii f0.e.Cell),(4,.bool (decide (f0.e.Cell = x1.Home))),(105,ii f0.e.Epoch),(113,ii (w64 (x17.Epoch + 1)))] fun fr => ?_
 refine x_p rfl<|vd<|x_p rfl<|vd<|x_p rfl ?_
 apply v_iteh h<;>clear h<;>intro h
 ·refine vd<|x_p rfl<|v_T rfl<|vd<|x_p rfl ?_
  apply v_iteh h<;>clear h<;>intro h
  ·refine vd<|x_p rfl<|v_T rfl<|vd<|x_p rfl<|v_T rfl<|vd<|x_p rfl<|v_T rfl<|vd<|x_vb rfl<|v_T rfl<|vl 2 tt_ok (v := ii f0.e.Epoch) ts_3 rfl ?_
   refine vd<|xp [(0,pp bf0 0),(3,ii f0.e.Cell),(4,.bool (decide (f0.e.Cell = x1.Home))),(115,.bool true),(117,.bool true),(122,ii f0.e.Epoch)] fun fr => x_p rfl<|v_T rfl<|vd<|x_p rfl<|v_T rfl<|vd<|x_p rfl<|v_T rfl<|vd<|x_vb rfl<|v_T rfl ?_
   refine v_ld 2 tt_ok (v := .pointer (some ((adr g_f0.s_Tenants.1).add (f0.e.Tenant.toNat * 12)))) ts_82 rfl (by rw [← fptr_at h_f0_t hx18]; kernel_rfl)<|vd<|x_p rfl<|v_T rfl<|vd<|x_p rfl<|v_T rfl<|vd<|x_vb rfl<|v_T rfl<|v_lec (E := eTenantState) tt_ok (v := ii x17.Epoch) (idx_get hx18) (rd_row 0 rfl) ts_3 rfl (pl1 _ _ _) (by kernel_rfl)<|vd<|x_p rfl ?_
   refine v_T rfl<|vd<|x_p rfl<|v_T rfl<|vd<|xp [(0,pp bf0 0),(3,ii f0.e.Cell),(4,.bool (decide (f0.e.Cell = x1.Home))),(115,.bool true),(131,.bool (decide (f0.e.Epoch = x17.Epoch)))] fun fr => x_p rfl<|v_T rfl<|vd<|x_p rfl<|vd<|x_p rfl<|vd ?_
   exact xk [(0,pp bf0 0),(3,ii f0.e.Cell),(4,.bool (decide (f0.e.Cell = x1.Home))),(100,.bool (!(decide (f0.e.Epoch = x17.Epoch))))] fun fr => rd ⟨!(decide (f0.e.Epoch = x17.Epoch)),_,h,fe _,by kernel_rfl⟩
  refine vd<|x_p rfl<|v_F rfl<|vd<|x_p rfl<|v_F rfl<|vd<|x_p rfl<|v_F rfl<|vd<|x_vb rfl<|v_F rfl<|vd ?_
  refine xp [(0,pp bf0 0),(3,ii f0.e.Cell),(4,.bool (decide (f0.e.Cell = x1.Home))),(115,.bool true),(117,.bool false),(122,undef)] fun fr => x_p rfl<|v_F rfl<|vd<|x_p rfl<|v_F rfl<|vd<|x_p rfl<|v_F rfl<|vd<|x_vb rfl<|v_F rfl<|vd ?_
  refine x_p rfl<|v_F rfl<|vd<|x_p rfl<|v_F rfl<|vd<|x_vb rfl<|v_F rfl<|vd<|x_p rfl<|v_F rfl<|vd<|x_p rfl ?_
  exact v_T rfl<|v_F rfl<|vd<|xp [(0,pp bf0 0),(3,ii f0.e.Cell),(4,.bool (decide (f0.e.Cell = x1.Home))),(115,.bool true),(131,.bool false)] fun fr => x_p rfl<|v_T rfl<|vd<|x_p rfl<|vd<|x_p rfl<|vd<|xk [(0,pp bf0 0),(3,ii f0.e.Cell),(4,.bool (decide (f0.e.Cell = x1.Home))),(100,.bool true)] fun fr => rd ⟨true,_,h,fe _,by kernel_rfl⟩
 refine vd<|x_p rfl<|v_F rfl<|vd<|x_p rfl<|vd<|x_p rfl<|vd<|x_p rfl<|vd<|x_p rfl<|vd<|x_vb rfl ?_
 refine vd<|xp [(0,pp bf0 0),(3,ii f0.e.Cell),(4,.bool (decide (f0.e.Cell = x1.Home))),(115,.bool false),(117,undef),(122,undef)] fun fr => x_p rfl<|vd<|x_p rfl<|vd<|x_p rfl<|vd<|x_vb rfl<|vd<|x_p rfl<|vd<|x_p rfl ?_
 refine vd<|x_vb rfl<|vd<|x_p rfl<|vd<|x_p rfl<|v_F rfl<|vd<|xp [(0,pp bf0 0),(3,ii f0.e.Cell),(4,.bool (decide (f0.e.Cell = x1.Home))),(115,.bool false),(131,undef)] fun fr => x_p rfl<|v_F rfl<|vd<|x_p rfl ?_
 exact v_F rfl<|vd<|x_p rfl<|vd<|xk [(0,pp bf0 0),(3,ii f0.e.Cell),(4,.bool (decide (f0.e.Cell = x1.Home))),(100,.bool false)] fun fr => rd ⟨false,_,h,fe _,by kernel_rfl⟩
 clear h
 rintro fr S ⟨x21,fr,h,rfl,rfl⟩
 replace h := hK23 _ h
 refine rd ?_
 apply r_iteh h<;>clear h<;>intro h
 ·refine rb<|rd ?_
  repeat refine rd ?_
  repeat refine rd ?_
  obtain rfl := h_out h
  exact ret_of (RV.tmp RV.nil) (Le.refl _) ⟨rfl,rfl⟩
 refine rb ?_
 replace h := h_j h; obtain ⟨K29,h,hK30⟩ := h
 refine r_meet (fun fr S => ∃ (x28 : Bool),∃ fr0,K29 x28 = some r ∧ fr = updL [(0,pp bf0 0),(3,ii f0.e.Cell),(4,.bool (decide (f0.e.Cell = x1.Home))),(134,.bool x28)] fr0 ∧ S = ⟨ρ,.row g_f0.s_Tenants.1 f0.s.Tenants.length g_f0.s_Tenants.2 58 12 (fl eTenantState.en f0.s.Tenants) :: .row g_f0.s_Cells.1 f0.s.Cells.length g_f0.s_Cells.2 54 4 (fl eCellState.en f0.s.Cells) :: .obj bf0 (en_state_fold f0 g_f0) 85 :: L⟩) ?_ ?_
 refine r_mix tt_ok hm_ok _ _ [] (.pure 0 (.pure 1 (.pure 2 (.pure 3 (.vb 4 (.pure 5 (.pure 6 (.pure 7 (.vb 8 (.pure 9 (.pure 10 (.vb 11 (.pure 12 (.pure 13 (.pure 14 (.pure 15 (.pure 16 (.vb 17 (.pure 18 (.pure 19 (.vb 20 (.pure 21 (.pure 22 (.pure 23 (.vb 24 (.pure 25 (.pure 26 (.vb 27 (.pure 28 (.pure 29 (.pure 30 .nil))))))))))))))))))))))))))))))) (le_w [true,true,true]) (le_w [true,true,true]) ?_ ?_
 ·decide +kernel
 refine x_p rfl<|vd<|x_p rfl<|vd<|x_p rfl<|vd<|x_p rfl<|vd<|x_vb rfl<|vl 2 tt_ok (v := ii f0.e.N) ts_3 rfl<|vd<|x_p rfl<|vd ?_
 refine xp [(0,pp bf0 0),(3,ii f0.e.Cell),(4,.bool (decide (f0.e.Cell = x1.Home))),(139,ii f0.e.N),(140,pp bf0 0)] fun fr => x_p rfl<|vd<|x_p rfl<|vd<|x_vb rfl ?_
 replace h := h_b h; obtain ⟨x25,hx26,h⟩ := h
 refine v_ld 2 tt_ok (v := .pointer (some ((adr g_f0.s_Cells.1).add (f0.e.Cell.toNat * 4)))) ts_83 rfl (by rw [← fptr_at h_f0_cell hx26]; kernel_rfl)<|vd<|x_p rfl<|vd<|x_p rfl<|vd<|x_vb rfl<|v_lec (E := eCellState) tt_ok (v := ii x25.Running) (idx_get hx26) (rd_row 1 rfl) ts_3 rfl (pl1 _ _ _) (by kernel_rfl)<|vd<|x_p rfl<|vd<|x_p rfl<|vd ?_
 refine x_p rfl ?_
 apply v_iteh h<;>clear h<;>intro h
 ·refine vd<|xp [(0,pp bf0 0),(3,ii f0.e.Cell),(4,.bool (decide (f0.e.Cell = x1.Home))),(148,.bool true),(149,undef)] fun fr => x_p rfl<|v_T rfl<|vd<|x_p rfl<|v_T rfl<|vd<|x_vb rfl<|v_T rfl<|vd<|x_p rfl<|v_T rfl ?_
  refine vd<|x_p rfl<|v_T rfl<|vd<|x_vb rfl<|v_T rfl<|vd<|x_p rfl<|v_T rfl<|vd<|x_p rfl<|v_T rfl<|vd ?_
  refine x_p rfl<|v_T rfl<|vd<|xp [(0,pp bf0 0),(3,ii f0.e.Cell),(4,.bool (decide (f0.e.Cell = x1.Home))),(148,.bool true),(155,undef),(158,undef)] fun fr => x_vb rfl<|v_T rfl<|vd<|x_p rfl<|v_T rfl<|vd<|x_p rfl<|v_T rfl<|vd ?_
  exact x_vb rfl<|v_T rfl<|vd<|x_p rfl<|v_T rfl<|vd<|x_p rfl<|v_T rfl<|vd<|x_p rfl<|vd<|xk [(0,pp bf0 0),(3,ii f0.e.Cell),(4,.bool (decide (f0.e.Cell = x1.Home))),(134,.bool true)] fun fr => rd ⟨true,_,h,fe _,by kernel_rfl⟩
 refine vd<|xp [(0,pp bf0 0),(3,ii f0.e.Cell),(4,.bool (decide (f0.e.Cell = x1.Home))),(148,.bool false),(149,pp bf0 0)] fun fr => x_p rfl<|v_F rfl<|vd<|x_p rfl<|v_F rfl<|vd<|x_vb rfl<|v_F rfl<|v_ld 2 tt_ok (v := .pointer (some ((adr g_f0.s_Cells.1).add (f0.e.Cell.toNat * 4)))) ts_83 rfl (by rw [← fptr_at h_f0_cell hx26]; kernel_rfl)<|vd<|x_p rfl ?_
 refine v_F rfl<|vd<|x_p rfl<|v_F rfl<|vd<|x_vb rfl<|v_F rfl<|v_lec (E := eCellState) tt_ok (v := ii x25.Running) (idx_get hx26) (rd_row 1 rfl) ts_3 rfl (pl1 _ _ _) (by kernel_rfl)<|vd<|x_p rfl<|v_F rfl<|vd<|x_p rfl ?_
 refine v_F rfl<|vd<|x_p rfl<|v_F rfl<|vd<|xp [(0,pp bf0 0),(3,ii f0.e.Cell),(4,.bool (decide (f0.e.Cell = x1.Home))),(148,.bool false),(155,ii x25.Running),(158,pp bf0 28)] fun fr => x_vb rfl<|v_F rfl<|v_ld 2 tt_ok (v := .pointer (some ((adr g_f0.s_Cells.1).add (f0.e.Cell.toNat * 4)))) ts_83 rfl (by rw [← fptr_at h_f0_cell hx26]; kernel_rfl)<|vd<|x_p rfl<|v_F rfl<|vd ?_
 refine x_p rfl<|v_F rfl<|vd<|x_vb rfl<|v_F rfl<|v_lec (E := eCellState) tt_ok (v := ii x25.Wanted) (idx_get hx26) (rd_row 1 rfl) ts_3 rfl (pl1 _ _ _) (by kernel_rfl)<|vd<|x_p rfl<|v_F rfl<|vd<|x_p rfl<|vd<|x_p rfl ?_
 exact vd<|xk [(0,pp bf0 0),(3,ii f0.e.Cell),(4,.bool (decide (f0.e.Cell = x1.Home))),(134,.bool (!decide (x25.Running = x25.Wanted)))] fun fr => rd ⟨!decide (x25.Running = x25.Wanted),_,h,fe _,by kernel_rfl⟩
 clear h
 rintro fr S ⟨x28,fr,h,rfl,rfl⟩
 replace h := hK30 _ h
 refine rd ?_
 apply r_iteh h<;>clear h<;>intro h
 ·refine rb<|rd ?_
  repeat refine rd ?_
  repeat refine rd ?_
  obtain rfl := h_out h
  exact ret_of (RV.tmp RV.nil) (Le.refl _) ⟨rfl,rfl⟩
 refine rb ?_
 replace h := h_j h; obtain ⟨K39,h,hK40⟩ := h
 refine r_meet (fun fr S => ∃ (x38 : Bool),∃ fr0,K39 x38 = some r ∧ fr = updL [(0,pp bf0 0),(3,ii f0.e.Cell),(4,.bool (decide (f0.e.Cell = x1.Home))),(165,.bool x38)] fr0 ∧ S = ⟨ρ,.row g_f0.s_Tenants.1 f0.s.Tenants.length g_f0.s_Tenants.2 58 12 (fl eTenantState.en f0.s.Tenants) :: .row g_f0.s_Cells.1 f0.s.Cells.length g_f0.s_Cells.2 54 4 (fl eCellState.en f0.s.Cells) :: .obj bf0 (en_state_fold f0 g_f0) 85 :: L⟩) ?_ ?_
 refine r_mix tt_ok hm_ok _ _ [] (.pure 0 (.eff 1 (.pure 2 (.pure 3 (.pure 4 (.pure 5 (.pure 6 (.pure 7 (.pure 8 (.pure 9 (.vb 10 (.pure 11 (.pure 12 (.pure 13 (.vb 14 (.pure 15 (.pure 16 (.pure 17 (.pure 18 (.vb 19 (.pure 20 (.pure 21 (.pure 22 (.pure 23 .nil)))))))))))))))))))))))) (le_w [true,true,true]) (le_w [true,true,true]) ?_ ?_
 ·decide +kernel
 refine x_p rfl<|vd<|x_e rfl ?_
 replace h := h_b h; obtain ⟨x33,hx32,h⟩ := h
 refine rc (hc_108 (bf0 := bf0) (g_f0 := g_f0) (f0 := f0) (hS_f0 := by exact (le_d 0).trans hS_f0) (h_f0 :=h_f0) (h_f0_t :=h_f0_t) (h_f0_cell :=h_f0_cell) (h := hx32)) ?_
 rintro _ _ ⟨rfl,rfl⟩
 refine rd ⟨rfl,k_a (le_w [true,true,true]) (le_w [true,true,true]),?_⟩
 refine x_p rfl<|vd<|x_p rfl<|vd<|x_p rfl ?_
 apply v_iteh h<;>clear h<;>intro h
 ·refine vd<|x_p rfl<|v_T rfl<|vd<|x_p rfl<|v_T rfl<|vd<|x_p rfl<|vd<|xp [(0,pp bf0 0),(3,ii f0.e.Cell),(4,.bool (decide (f0.e.Cell = x1.Home))),(169,.bool true),(172,undef),(173,undef)] fun fr => x_p rfl<|vd<|x_p rfl ?_
  refine vd<|x_vb rfl<|vd<|x_p rfl<|vd<|x_p rfl<|vd<|x_p rfl<|vd<|x_vb rfl<|vd<|x_p rfl<|vd ?_
  refine x_p rfl<|vd<|xp [(0,pp bf0 0),(3,ii f0.e.Cell),(4,.bool (decide (f0.e.Cell = x1.Home))),(169,.bool true),(172,undef),(180,undef),(182,undef)] fun fr => x_p rfl<|vd<|x_p rfl<|vd<|x_vb rfl<|vd<|x_p rfl<|vd<|x_p rfl<|v_T rfl ?_
  exact vd<|x_p rfl<|v_T rfl<|vd<|x_p rfl<|vd<|xk [(0,pp bf0 0),(3,ii f0.e.Cell),(4,.bool (decide (f0.e.Cell = x1.Home))),(165,.bool true)] fun fr => rd ⟨true,_,h,fe _,by kernel_rfl⟩
 refine vd<|x_p rfl<|v_F rfl<|vd<|x_p rfl<|v_F rfl<|vd<|x_p rfl ?_
 apply v_iteh h<;>clear h<;>intro h
 ·refine vd<|xp [(0,pp bf0 0),(3,ii f0.e.Cell),(4,.bool (decide (f0.e.Cell = x1.Home))),(169,.bool false),(172,.bool true),(173,pp bf0 0)] fun fr => x_p rfl<|v_T rfl<|vd<|x_p rfl<|v_T rfl<|vd<|x_vb rfl<|v_T rfl ?_
  replace h := h_b h; obtain ⟨x36,hx37,h⟩ := h
  refine v_ld 2 tt_ok (v := .pointer (some ((adr g_f0.s_Tenants.1).add (f0.e.Tenant.toNat * 12)))) ts_82 rfl (by rw [← fptr_at h_f0_t hx37]; kernel_rfl)<|vd<|x_p rfl<|v_T rfl<|vd<|x_p rfl<|v_T rfl<|vd<|x_p rfl<|v_T rfl<|vd<|x_vb rfl<|v_T rfl ?_
  refine v_lec (E := eTenantState) tt_ok (v := ii x36.Window.Until) (idx_get hx37) (rd_row 0 rfl) ts_3 rfl (pl2 _ _ _ _) (by kernel_rfl)<|vd<|x_p rfl<|v_T rfl<|vd<|x_p rfl<|v_T rfl<|vd<|xp [(0,pp bf0 0),(3,ii f0.e.Cell),(4,.bool (decide (f0.e.Cell = x1.Home))),(169,.bool false),(172,.bool true),(180,ii x36.Window.Until),(182,pp bf0 0)] fun fr => x_p rfl<|v_T rfl<|vd<|x_p rfl ?_
  refine v_T rfl<|vd<|x_vb rfl<|v_T rfl<|vl 2 tt_ok (v := ii f0.e.Tick) ts_3 rfl<|vd<|x_p rfl<|v_T rfl<|vd<|x_p rfl<|v_F rfl<|vd<|x_p rfl ?_
  exact vd<|x_p rfl<|vd<|xk [(0,pp bf0 0),(3,ii f0.e.Cell),(4,.bool (decide (f0.e.Cell = x1.Home))),(165,.bool (decide (f0.e.Tick < x36.Window.Until)))] fun fr => rd ⟨decide (f0.e.Tick < x36.Window.Until),_,h,fe _,by kernel_rfl⟩
 refine vd<|xp [(0,pp bf0 0),(3,ii f0.e.Cell),(4,.bool (decide (f0.e.Cell = x1.Home))),(169,.bool false),(172,.bool false),(173,undef)] fun fr => x_p rfl<|v_F rfl<|vd<|x_p rfl<|v_F rfl<|vd<|x_vb rfl<|v_F rfl<|vd<|x_p rfl<|v_F rfl ?_
 refine vd<|x_p rfl<|v_F rfl<|vd<|x_p rfl<|v_F rfl<|vd<|x_vb rfl<|v_F rfl<|vd<|x_p rfl<|v_F rfl<|vd ?_
 refine x_p rfl<|v_F rfl<|vd<|xp [(0,pp bf0 0),(3,ii f0.e.Cell),(4,.bool (decide (f0.e.Cell = x1.Home))),(169,.bool false),(172,.bool false),(180,undef),(182,undef)] fun fr => x_p rfl<|v_F rfl<|vd<|x_p rfl<|v_F rfl<|vd<|x_vb rfl<|v_F rfl<|vd ?_
 exact x_p rfl<|v_F rfl<|vd<|x_p rfl<|v_F rfl<|v_F rfl<|vd<|x_p rfl<|vd<|x_p rfl<|vd<|xk [(0,pp bf0 0),(3,ii f0.e.Cell),(4,.bool (decide (f0.e.Cell = x1.Home))),(165,.bool false)] fun fr => rd ⟨false,_,h,fe _,by kernel_rfl⟩
 clear h
 rintro fr S ⟨x38,fr,h,rfl,rfl⟩
 replace h := hK40 _ h
 refine rd ?_
 apply r_iteh h<;>clear h<;>intro h
 ·refine rb<|rd ?_
  repeat refine rd ?_
  repeat refine rd ?_
  obtain rfl := h_out h
  exact ret_of (RV.tmp RV.nil) (Le.refl _) ⟨rfl,rfl⟩
 refine rd<|rd<|rb<|r_mix tt_ok hm_ok _ _ [] (.pure 0 (.pure 1 (.pure 2 (.vb 3 (.pure 4 (.pure 5 (.pure 6 (.pure 7 (.pure 8 (.vb 9 (.pure 10 (.pure 11 (.pure 12 (.pure 13 (.vb 14 (.pure 15 (.pure 16 (.pure 17 (.pure 18 (.vb 19 (.pure 20 (.pure 21 (.pure 22 (.pure 23 (.vb 24 (.pure 25 (.pure 26 (.pure 27 (.eff 28 .nil))))))))))))))))))))))))))))) (le_w [false,true,true]) (le_w [false,true,true]) ?_ ?_
 ·decide +kernel
 refine x_p rfl<|vd<|x_p rfl<|vd<|x_p rfl<|vd<|x_vb rfl ?_
 replace h := h_b h; obtain ⟨x42,hx43,h⟩ := h
 refine v_ld 1 tt_ok (v := .pointer (some ((adr g_f0.s_Tenants.1).add (f0.e.Tenant.toNat * 12)))) ts_82 rfl (by rw [← fptr_at h_f0_t hx43]; kernel_rfl)<|vd<|x_p rfl<|vd<|x_p rfl<|vd<|x_p rfl<|vd<|x_p rfl<|vd<|x_p rfl<|vd<|xp [(0,pp bf0 0),(3,ii f0.e.Cell),(4,.bool (decide (f0.e.Cell = x1.Home))),(192,.pointer (some ((adr g_f0.s_Tenants.1).add (f0.e.Tenant.toNat * 12)))),(193,ii f0.e.Cell),(197,pp bf0 23)] fun fr => ?_
 refine x_vb rfl<|vl 1 tt_ok (v := ii f0.e.Epoch) ts_3 rfl<|vd<|x_p rfl<|vd<|x_p rfl<|vd<|x_p rfl<|vd<|x_p rfl<|vd<|x_vb rfl<|vl 1 tt_ok (v := ii f0.e.N) ts_3 rfl ?_
 refine vd<|x_p rfl<|vd<|x_p rfl<|vd<|x_p rfl<|vd<|xp [(0,pp bf0 0),(3,ii f0.e.Cell),(4,.bool (decide (f0.e.Cell = x1.Home))),(192,.pointer (some ((adr g_f0.s_Tenants.1).add (f0.e.Tenant.toNat * 12)))),(193,ii f0.e.Cell),(198,ii f0.e.Epoch),(203,ii f0.e.N),(206,pp bf0 18)] fun fr => x_p rfl<|vd<|x_vb rfl<|vl 1 tt_ok (v := ii f0.e.From) ts_3 rfl<|vd ?_
 refine x_p rfl<|vd<|x_p rfl<|vd<|x_p rfl<|vd<|x_p rfl<|vd<|x_vb rfl<|vl 1 tt_ok (v := ii f0.e.Until) ts_3 rfl<|vd<|x_p rfl<|v_bd tt_ok (en_Window (⟨f0.e.Cell,f0.e.Epoch,f0.e.N,f0.e.From,f0.e.Until⟩ : Window)) ti_56 tp_56 (by kernel_rfl) ?_
 refine vd<|x_p rfl<|vd<|xp [(0,pp bf0 0),(3,ii f0.e.Cell),(4,.bool (decide (f0.e.Cell = x1.Home))),(214,.agg (en_Window (⟨f0.e.Cell,f0.e.Epoch,f0.e.N,f0.e.From,f0.e.Until⟩ : Window)).toArray),(215,.pointer (some ((adr g_f0.s_Tenants.1).add (f0.e.Tenant.toNat * 12))))] fun fr => x_p rfl<|vd<|x_e rfl<|r_sec 0 (E := eTenantState) tt_ok ({ x42 with Window := (⟨f0.e.Cell,f0.e.Epoch,f0.e.N,f0.e.From,f0.e.Until⟩ : Window) }) (idx_get hx43) (fn ta_56) rfl rfl (pl1 _ _ _) (by kernel_rfl) (by kernel_rfl) (List.cons_ne_nil _ _) ?_
 rw [show (en_state_fold f0 g_f0) = (en_state_fold ({ f0 with s := { f0.s with Tenants := (f0.s.Tenants.set f0.e.Tenant.toNat ({ x42 with Window := (⟨f0.e.Cell,f0.e.Epoch,f0.e.N,f0.e.From,f0.e.Until⟩ : Window) })) } }) g_f0) by simp [en_state_fold]]
 rw [← @List.length_set _ f0.s.Tenants f0.e.Tenant.toNat ({ x42 with Window := (⟨f0.e.Cell,f0.e.Epoch,f0.e.N,f0.e.From,f0.e.Until⟩ : Window) })]
 refine rd ⟨rfl,k_a (le_w [false,true,true]) (le_w [false,true,true]),?_⟩
 refine xk [(0,pp bf0 0),(3,ii f0.e.Cell),(4,.bool (decide (f0.e.Cell = x1.Home)))] fun fr => rd<|rb<|r_mix tt_ok hm_ok _ _ [] (.pure 0 (.pure 1 (.pure 2 (.vb 3 (.pure 4 (.pure 5 (.pure 6 (.pure 7 (.vb 8 (.pure 9 (.pure 10 (.eff 11 .nil)))))))))))) (le_w [false,true,true]) (le_w [false,true,true]) ?_ ?_
 ·decide +kernel
 refine x_p rfl<|vd<|x_p rfl<|vd<|x_p rfl<|vd<|x_vb rfl<|v_ld 1 tt_ok (v := .pointer (some ((adr g_f0.s_Tenants.1).add (f0.e.Tenant.toNat * 12)))) ts_82 rfl (by rw [← fptr_at h_f0_t hx43]; kernel_rfl)<|vd<|x_p rfl<|vd<|x_p rfl<|vd ?_
 refine x_p rfl<|vd<|x_p rfl<|vd<|x_vb rfl<|vl 1 tt_ok (v := ii f0.e.Epoch) ts_3 rfl<|vd<|xp [(0,pp bf0 0),(3,ii f0.e.Cell),(4,.bool (decide (f0.e.Cell = x1.Home))),(220,.pointer (some ((adr g_f0.s_Tenants.1).add (f0.e.Tenant.toNat * 12)))),(225,ii f0.e.Epoch)] fun fr => x_p rfl<|vd<|x_p rfl<|vd<|x_e rfl ?_
 refine r_sec 0 (E := eTenantState) tt_ok ({ x42 with Epoch := f0.e.Epoch,Window := (⟨f0.e.Cell,f0.e.Epoch,f0.e.N,f0.e.From,f0.e.Until⟩ : Window) }) (idx_get (idx_set hx43 _)) (f1 ts_3) rfl rfl (pl1 _ _ _) (by kernel_rfl) (by kernel_rfl) (List.cons_ne_nil _ _) ?_
 rw [show (en_state_fold ({ f0 with s := { f0.s with Tenants := (f0.s.Tenants.set f0.e.Tenant.toNat ({ x42 with Window := (⟨f0.e.Cell,f0.e.Epoch,f0.e.N,f0.e.From,f0.e.Until⟩ : Window) })) } }) g_f0) = (en_state_fold ({ f0 with s := { f0.s with Tenants := ((f0.s.Tenants.set f0.e.Tenant.toNat ({ x42 with Window := (⟨f0.e.Cell,f0.e.Epoch,f0.e.N,f0.e.From,f0.e.Until⟩ : Window) })).set f0.e.Tenant.toNat ({ x42 with Epoch := f0.e.Epoch,Window := (⟨f0.e.Cell,f0.e.Epoch,f0.e.N,f0.e.From,f0.e.Until⟩ : Window) })) } }) g_f0) by simp [en_state_fold]]
 rw [← @List.length_set _ (f0.s.Tenants.set f0.e.Tenant.toNat ({ x42 with Window := (⟨f0.e.Cell,f0.e.Epoch,f0.e.N,f0.e.From,f0.e.Until⟩ : Window) })) f0.e.Tenant.toNat ({ x42 with Epoch := f0.e.Epoch,Window := (⟨f0.e.Cell,f0.e.Epoch,f0.e.N,f0.e.From,f0.e.Until⟩ : Window) })]
 refine rd ⟨rfl,k_a (le_w [false,true,true]) (le_w [false,true,true]),?_⟩
 refine xk [(0,pp bf0 0),(3,ii f0.e.Cell),(4,.bool (decide (f0.e.Cell = x1.Home)))] fun fr => rd<|rb ?_
 replace h := h_j h; obtain ⟨K48,h,hK49⟩ := h
 refine r_meet (fun fr S => ∃ (xs46 : (List TenantState)),∃ fr0,K48 xs46 = some r ∧ fr = updL [(0,pp bf0 0),(3,ii f0.e.Cell),(4,.bool (decide (f0.e.Cell = x1.Home)))] fr0 ∧ S = ⟨ρ,.row g_f0.s_Tenants.1 xs46.length g_f0.s_Tenants.2 58 12 (fl eTenantState.en xs46) :: .row g_f0.s_Cells.1 f0.s.Cells.length g_f0.s_Cells.2 54 4 (fl eCellState.en f0.s.Cells) :: .obj bf0 (en_state_fold ({ f0 with s := { f0.s with Tenants := xs46 } }) g_f0) 85 :: L⟩) ?_ ?_
 ·refine rb<|rb<|rd ?_
  apply r_iteh h<;>clear h<;>intro h
  ·exact rd<|rd ⟨((f0.s.Tenants.set f0.e.Tenant.toNat ({ x42 with Window := (⟨f0.e.Cell,f0.e.Epoch,f0.e.N,f0.e.From,f0.e.Until⟩ : Window) })).set f0.e.Tenant.toNat ({ x42 with Epoch := f0.e.Epoch,Window := (⟨f0.e.Cell,f0.e.Epoch,f0.e.N,f0.e.From,f0.e.Until⟩ : Window) })),_,h,fe _,by kernel_rfl⟩
  refine rb<|r_ld 2 tt_ok (v := .pointer (some ((adr g_f0.s_Tenants.1).add (f0.e.Tenant.toNat * 12)))) ts_82 rfl (by rw [← fptr_at h_f0_t hx43]; kernel_rfl)<|kp [(0,pp bf0 0),(3,ii f0.e.Cell),(4,.bool (decide (f0.e.Cell = x1.Home))),(231,ii f0.e.Cell),(235,.pointer (some ((adr g_f0.s_Tenants.1).add (f0.e.Tenant.toNat * 12))))] fun fr => r_lec (E := eTenantState) tt_ok (v := ii x42.Standby) (idx_get (idx_set (idx_set hx43 _) _)) (rd_row 0 rfl) ts_3 rfl (pl1 _ _ _) (by kernel_rfl)<|rd ?_
  apply r_iteh h<;>clear h<;>intro h
  ·refine r_mix tt_ok hm_ok _ _ [] (.pure 0 (.pure 1 (.pure 2 (.vb 3 (.pure 4 (.pure 5 (.pure 6 (.vb 7 (.pure 8 (.pure 9 (.pure 10 (.vb 11 (.pure 12 (.pure 13 (.eff 14 (.pure 15 (.pure 16 (.eff 17 (.pure 18 (.pure 19 (.eff 20 .nil))))))))))))))))))))) (le_w [false,true,true]) (le_w [false,true,true]) ?_ ?_
   ·decide +kernel
   refine x_p rfl<|vd<|x_p rfl<|vd<|x_p rfl<|vd<|x_vb rfl<|v_ld 1 tt_ok (v := .pointer (some ((adr g_f0.s_Tenants.1).add (f0.e.Tenant.toNat * 12)))) ts_82 rfl (by rw [← fptr_at h_f0_t hx43]; kernel_rfl)<|vd<|xp [(0,pp bf0 0),(3,ii f0.e.Cell),(4,.bool (decide (f0.e.Cell = x1.Home))),(243,.pointer (some ((adr g_f0.s_Tenants.1).add (f0.e.Tenant.toNat * 12))))] fun fr => x_p rfl<|vd<|x_p rfl ?_
   refine vd<|x_p rfl<|vd<|x_vb rfl<|v_ld 1 tt_ok (v := .pointer (some ((adr g_f0.s_Tenants.1).add (f0.e.Tenant.toNat * 12)))) ts_82 rfl (by rw [← fptr_at h_f0_t hx43]; kernel_rfl)<|vd<|x_p rfl<|vd<|x_p rfl<|vd<|x_p rfl<|vd<|x_vb rfl ?_
   refine v_ld 1 tt_ok (v := .pointer (some ((adr g_f0.s_Tenants.1).add (f0.e.Tenant.toNat * 12)))) ts_82 rfl (by rw [← fptr_at h_f0_t hx43]; kernel_rfl)<|vd<|x_p rfl<|vd<|xp [(0,pp bf0 0),(3,ii f0.e.Cell),(4,.bool (decide (f0.e.Cell = x1.Home))),(247,.pointer (some ((adr g_f0.s_Tenants.1).add (f0.e.Tenant.toNat * 12)))),(251,.pointer (some ((adr g_f0.s_Tenants.1).add (f0.e.Tenant.toNat * 12)))),(252,.pointer (some ((adr g_f0.s_Tenants.1).add (f0.e.Tenant.toNat * 12))))] fun fr => x_p rfl<|vd<|x_e rfl<|r_sec 0 (E := eTenantState) tt_ok ({ x42 with Standby := (-1),Epoch := f0.e.Epoch,Window := (⟨f0.e.Cell,f0.e.Epoch,f0.e.N,f0.e.From,f0.e.Until⟩ : Window) }) (idx_get (idx_set (idx_set hx43 _) _)) (f1 ts_3) rfl rfl (pl1 _ _ _) (by kernel_rfl) (by kernel_rfl) (List.cons_ne_nil _ _) ?_
   rw [show (en_state_fold ({ f0 with s := { f0.s with Tenants := ((f0.s.Tenants.set f0.e.Tenant.toNat ({ x42 with Window := (⟨f0.e.Cell,f0.e.Epoch,f0.e.N,f0.e.From,f0.e.Until⟩ : Window) })).set f0.e.Tenant.toNat ({ x42 with Epoch := f0.e.Epoch,Window := (⟨f0.e.Cell,f0.e.Epoch,f0.e.N,f0.e.From,f0.e.Until⟩ : Window) })) } }) g_f0) = (en_state_fold ({ f0 with s := { f0.s with Tenants := (((f0.s.Tenants.set f0.e.Tenant.toNat ({ x42 with Window := (⟨f0.e.Cell,f0.e.Epoch,f0.e.N,f0.e.From,f0.e.Until⟩ : Window) })).set f0.e.Tenant.toNat ({ x42 with Epoch := f0.e.Epoch,Window := (⟨f0.e.Cell,f0.e.Epoch,f0.e.N,f0.e.From,f0.e.Until⟩ : Window) })).set f0.e.Tenant.toNat ({ x42 with Standby := (-1),Epoch := f0.e.Epoch,Window := (⟨f0.e.Cell,f0.e.Epoch,f0.e.N,f0.e.From,f0.e.Until⟩ : Window) })) } }) g_f0) by simp [en_state_fold]]
   rw [← @List.length_set _ ((f0.s.Tenants.set f0.e.Tenant.toNat ({ x42 with Window := (⟨f0.e.Cell,f0.e.Epoch,f0.e.N,f0.e.From,f0.e.Until⟩ : Window) })).set f0.e.Tenant.toNat ({ x42 with Epoch := f0.e.Epoch,Window := (⟨f0.e.Cell,f0.e.Epoch,f0.e.N,f0.e.From,f0.e.Until⟩ : Window) })) f0.e.Tenant.toNat ({ x42 with Standby := (-1),Epoch := f0.e.Epoch,Window := (⟨f0.e.Cell,f0.e.Epoch,f0.e.N,f0.e.From,f0.e.Until⟩ : Window) })]
   refine rd ⟨rfl,k_a (le_w [false,true,true]) (le_w [false,true,true]),?_⟩
   refine x_p rfl<|vd<|x_p rfl<|vd<|x_e rfl<|r_sec 0 (E := eTenantState) tt_ok ({ x42 with Standby := (-1),Next := (-1),Epoch := f0.e.Epoch,Window := (⟨f0.e.Cell,f0.e.Epoch,f0.e.N,f0.e.From,f0.e.Until⟩ : Window) }) (get_set (idx_get (idx_set (idx_set hx43 _) _)) _) (f1 ts_3) rfl rfl (pl1 _ _ _) (by kernel_rfl) (by kernel_rfl) (List.cons_ne_nil _ _) ?_
   rw [show (en_state_fold ({ f0 with s := { f0.s with Tenants := (((f0.s.Tenants.set f0.e.Tenant.toNat ({ x42 with Window := (⟨f0.e.Cell,f0.e.Epoch,f0.e.N,f0.e.From,f0.e.Until⟩ : Window) })).set f0.e.Tenant.toNat ({ x42 with Epoch := f0.e.Epoch,Window := (⟨f0.e.Cell,f0.e.Epoch,f0.e.N,f0.e.From,f0.e.Until⟩ : Window) })).set f0.e.Tenant.toNat ({ x42 with Standby := (-1),Epoch := f0.e.Epoch,Window := (⟨f0.e.Cell,f0.e.Epoch,f0.e.N,f0.e.From,f0.e.Until⟩ : Window) })) } }) g_f0) = (en_state_fold ({ f0 with s := { f0.s with Tenants := ((((f0.s.Tenants.set f0.e.Tenant.toNat ({ x42 with Window := (⟨f0.e.Cell,f0.e.Epoch,f0.e.N,f0.e.From,f0.e.Until⟩ : Window) })).set f0.e.Tenant.toNat ({ x42 with Epoch := f0.e.Epoch,Window := (⟨f0.e.Cell,f0.e.Epoch,f0.e.N,f0.e.From,f0.e.Until⟩ : Window) })).set f0.e.Tenant.toNat ({ x42 with Standby := (-1),Epoch := f0.e.Epoch,Window := (⟨f0.e.Cell,f0.e.Epoch,f0.e.N,f0.e.From,f0.e.Until⟩ : Window) })).set f0.e.Tenant.toNat ({ x42 with Standby := (-1),Next := (-1),Epoch := f0.e.Epoch,Window := (⟨f0.e.Cell,f0.e.Epoch,f0.e.N,f0.e.From,f0.e.Until⟩ : Window) })) } }) g_f0) by simp [en_state_fold]]
   rw [← @List.length_set _ (((f0.s.Tenants.set f0.e.Tenant.toNat ({ x42 with Window := (⟨f0.e.Cell,f0.e.Epoch,f0.e.N,f0.e.From,f0.e.Until⟩ : Window) })).set f0.e.Tenant.toNat ({ x42 with Epoch := f0.e.Epoch,Window := (⟨f0.e.Cell,f0.e.Epoch,f0.e.N,f0.e.From,f0.e.Until⟩ : Window) })).set f0.e.Tenant.toNat ({ x42 with Standby := (-1),Epoch := f0.e.Epoch,Window := (⟨f0.e.Cell,f0.e.Epoch,f0.e.N,f0.e.From,f0.e.Until⟩ : Window) })) f0.e.Tenant.toNat ({ x42 with Standby := (-1),Next := (-1),Epoch := f0.e.Epoch,Window := (⟨f0.e.Cell,f0.e.Epoch,f0.e.N,f0.e.From,f0.e.Until⟩ : Window) })]
   refine rd ⟨rfl,k_a (le_w [false,true,true]) (le_w [false,true,true]),?_⟩
   refine x_p rfl<|vd<|x_p rfl<|vd<|x_e rfl<|r_sec 0 (E := eTenantState) tt_ok ({ x42 with Shed := false,Standby := (-1),Next := (-1),Epoch := f0.e.Epoch,Window := (⟨f0.e.Cell,f0.e.Epoch,f0.e.N,f0.e.From,f0.e.Until⟩ : Window) }) (get_set (get_set (idx_get (idx_set (idx_set hx43 _) _)) _) _) (f1 ts_4) rfl rfl (pl1 _ _ _) (by kernel_rfl) (by kernel_rfl) (List.cons_ne_nil _ _) ?_
   rw [show (en_state_fold ({ f0 with s := { f0.s with Tenants := ((((f0.s.Tenants.set f0.e.Tenant.toNat ({ x42 with Window := (⟨f0.e.Cell,f0.e.Epoch,f0.e.N,f0.e.From,f0.e.Until⟩ : Window) })).set f0.e.Tenant.toNat ({ x42 with Epoch := f0.e.Epoch,Window := (⟨f0.e.Cell,f0.e.Epoch,f0.e.N,f0.e.From,f0.e.Until⟩ : Window) })).set f0.e.Tenant.toNat ({ x42 with Standby := (-1),Epoch := f0.e.Epoch,Window := (⟨f0.e.Cell,f0.e.Epoch,f0.e.N,f0.e.From,f0.e.Until⟩ : Window) })).set f0.e.Tenant.toNat ({ x42 with Standby := (-1),Next := (-1),Epoch := f0.e.Epoch,Window := (⟨f0.e.Cell,f0.e.Epoch,f0.e.N,f0.e.From,f0.e.Until⟩ : Window) })) } }) g_f0) = (en_state_fold ({ f0 with s := { f0.s with Tenants := (((((f0.s.Tenants.set f0.e.Tenant.toNat ({ x42 with Window := (⟨f0.e.Cell,f0.e.Epoch,f0.e.N,f0.e.From,f0.e.Until⟩ : Window) })).set f0.e.Tenant.toNat ({ x42 with Epoch := f0.e.Epoch,Window := (⟨f0.e.Cell,f0.e.Epoch,f0.e.N,f0.e.From,f0.e.Until⟩ : Window) })).set f0.e.Tenant.toNat ({ x42 with Standby := (-1),Epoch := f0.e.Epoch,Window := (⟨f0.e.Cell,f0.e.Epoch,f0.e.N,f0.e.From,f0.e.Until⟩ : Window) })).set f0.e.Tenant.toNat ({ x42 with Standby := (-1),Next := (-1),Epoch := f0.e.Epoch,Window := (⟨f0.e.Cell,f0.e.Epoch,f0.e.N,f0.e.From,f0.e.Until⟩ : Window) })).set f0.e.Tenant.toNat ({ x42 with Shed := false,Standby := (-1),Next := (-1),Epoch := f0.e.Epoch,Window := (⟨f0.e.Cell,f0.e.Epoch,f0.e.N,f0.e.From,f0.e.Until⟩ : Window) })) } }) g_f0) by simp [en_state_fold]]
   rw [← @List.length_set _ ((((f0.s.Tenants.set f0.e.Tenant.toNat ({ x42 with Window := (⟨f0.e.Cell,f0.e.Epoch,f0.e.N,f0.e.From,f0.e.Until⟩ : Window) })).set f0.e.Tenant.toNat ({ x42 with Epoch := f0.e.Epoch,Window := (⟨f0.e.Cell,f0.e.Epoch,f0.e.N,f0.e.From,f0.e.Until⟩ : Window) })).set f0.e.Tenant.toNat ({ x42 with Standby := (-1),Epoch := f0.e.Epoch,Window := (⟨f0.e.Cell,f0.e.Epoch,f0.e.N,f0.e.From,f0.e.Until⟩ : Window) })).set f0.e.Tenant.toNat ({ x42 with Standby := (-1),Next := (-1),Epoch := f0.e.Epoch,Window := (⟨f0.e.Cell,f0.e.Epoch,f0.e.N,f0.e.From,f0.e.Until⟩ : Window) })) f0.e.Tenant.toNat ({ x42 with Shed := false,Standby := (-1),Next := (-1),Epoch := f0.e.Epoch,Window := (⟨f0.e.Cell,f0.e.Epoch,f0.e.N,f0.e.From,f0.e.Until⟩ : Window) })]
   refine rd ⟨rfl,k_a (le_w [false,true,true]) (le_w [false,true,true]),?_⟩
   exact xk [(0,pp bf0 0),(3,ii f0.e.Cell),(4,.bool (decide (f0.e.Cell = x1.Home)))] fun fr => rd<|rd ⟨(((((f0.s.Tenants.set f0.e.Tenant.toNat ({ x42 with Window := (⟨f0.e.Cell,f0.e.Epoch,f0.e.N,f0.e.From,f0.e.Until⟩ : Window) })).set f0.e.Tenant.toNat ({ x42 with Epoch := f0.e.Epoch,Window := (⟨f0.e.Cell,f0.e.Epoch,f0.e.N,f0.e.From,f0.e.Until⟩ : Window) })).set f0.e.Tenant.toNat ({ x42 with Standby := (-1),Epoch := f0.e.Epoch,Window := (⟨f0.e.Cell,f0.e.Epoch,f0.e.N,f0.e.From,f0.e.Until⟩ : Window) })).set f0.e.Tenant.toNat ({ x42 with Standby := (-1),Next := (-1),Epoch := f0.e.Epoch,Window := (⟨f0.e.Cell,f0.e.Epoch,f0.e.N,f0.e.From,f0.e.Until⟩ : Window) })).set f0.e.Tenant.toNat ({ x42 with Shed := false,Standby := (-1),Next := (-1),Epoch := f0.e.Epoch,Window := (⟨f0.e.Cell,f0.e.Epoch,f0.e.N,f0.e.From,f0.e.Until⟩ : Window) })),_,h,fe _,by kernel_rfl⟩
  exact rd<|rd ⟨((f0.s.Tenants.set f0.e.Tenant.toNat ({ x42 with Window := (⟨f0.e.Cell,f0.e.Epoch,f0.e.N,f0.e.From,f0.e.Until⟩ : Window) })).set f0.e.Tenant.toNat ({ x42 with Epoch := f0.e.Epoch,Window := (⟨f0.e.Cell,f0.e.Epoch,f0.e.N,f0.e.From,f0.e.Until⟩ : Window) })),_,h,fe _,by kernel_rfl⟩
 clear h
 rintro fr S ⟨xs46,fr,h,rfl,rfl⟩
 replace h := hK49 _ h
 refine rd<|rb ?_
 replace h := h_j h; obtain ⟨K55,h,hK56⟩ := h
 refine r_meet (fun fr S => ∃ (xs53 : (List TenantState)),∃ fr0,K55 xs53 = some r ∧ fr = updL [(0,pp bf0 0)] fr0 ∧ S = ⟨ρ,.row g_f0.s_Tenants.1 xs53.length g_f0.s_Tenants.2 58 12 (fl eTenantState.en xs53) :: .row g_f0.s_Cells.1 f0.s.Cells.length g_f0.s_Cells.2 54 4 (fl eCellState.en f0.s.Cells) :: .obj bf0 (en_state_fold ({ f0 with s := { f0.s with Tenants := xs53 } }) g_f0) 85 :: L⟩) ?_ ?_
 ·refine rb<|rd ?_
  apply r_iteh h<;>clear h<;>intro h
  ·refine r_mix tt_ok hm_ok _ _ [] (.pure 0 (.pure 1 (.pure 2 (.vb 3 (.pure 4 (.pure 5 (.pure 6 (.vb 7 (.pure 8 (.pure 9 (.pure 10 (.eff 11 (.pure 12 (.pure 13 (.eff 14 .nil))))))))))))))) (le_w [false,true,true]) (le_w [false,true,true]) ?_ ?_
   ·decide +kernel
   refine x_p rfl<|vd<|x_p rfl<|vd<|x_p rfl<|vd<|x_vb rfl ?_
   replace h := h_b h; obtain ⟨x51,hx52,h⟩ := h
   refine v_ld 1 tt_ok (v := .pointer (some ((adr g_f0.s_Tenants.1).add (f0.e.Tenant.toNat * 12)))) ts_82 rfl (by rw [← fptr_at h_f0_t hx52]; kernel_rfl)<|vd<|x_p rfl<|vd<|xp [(0,pp bf0 0),(3,ii f0.e.Cell),(263,.pointer (some ((adr g_f0.s_Tenants.1).add (f0.e.Tenant.toNat * 12)))),(264,pp bf0 0)] fun fr => x_p rfl<|vd<|x_p rfl<|vd<|x_vb rfl<|v_ld 1 tt_ok (v := .pointer (some ((adr g_f0.s_Tenants.1).add (f0.e.Tenant.toNat * 12)))) ts_82 rfl (by rw [← fptr_at h_f0_t hx52]; kernel_rfl)<|vd<|x_p rfl ?_
   refine vd<|x_p rfl<|vd<|x_p rfl<|vd<|x_e rfl<|r_sec 0 (E := eTenantState) tt_ok ({ x51 with Home := f0.e.Cell }) (idx_get hx52) (f1 ts_3) rfl rfl (pl1 _ _ _) (by kernel_rfl) (by kernel_rfl) (List.cons_ne_nil _ _) ?_
   rw [show (en_state_fold ({ f0 with s := { f0.s with Tenants := xs46 } }) g_f0) = (en_state_fold ({ f0 with s := { f0.s with Tenants := (xs46.set f0.e.Tenant.toNat ({ x51 with Home := f0.e.Cell })) } }) g_f0) by simp [en_state_fold]]
   rw [← @List.length_set _ xs46 f0.e.Tenant.toNat ({ x51 with Home := f0.e.Cell })]
   refine rd ⟨rfl,k_a (le_w [false,true,true]) (le_w [false,true,true]),?_⟩
   refine x_p rfl<|vd<|x_p rfl<|vd<|xp [(0,pp bf0 0),(272,.pointer (some (((adr g_f0.s_Tenants.1).add (f0.e.Tenant.toNat * 12)).add 5)))] fun fr => x_e rfl<|r_sec 0 (E := eTenantState) tt_ok ({ x51 with Home := f0.e.Cell,Target := (-1) }) (get_set (idx_get hx52) _) (f1 ts_3) rfl rfl (pl1 _ _ _) (by kernel_rfl) (by kernel_rfl) (List.cons_ne_nil _ _) ?_
   rw [show (en_state_fold ({ f0 with s := { f0.s with Tenants := (xs46.set f0.e.Tenant.toNat ({ x51 with Home := f0.e.Cell })) } }) g_f0) = (en_state_fold ({ f0 with s := { f0.s with Tenants := ((xs46.set f0.e.Tenant.toNat ({ x51 with Home := f0.e.Cell })).set f0.e.Tenant.toNat ({ x51 with Home := f0.e.Cell,Target := (-1) })) } }) g_f0) by simp [en_state_fold]]
   rw [← @List.length_set _ (xs46.set f0.e.Tenant.toNat ({ x51 with Home := f0.e.Cell })) f0.e.Tenant.toNat ({ x51 with Home := f0.e.Cell,Target := (-1) })]
   refine rd ⟨rfl,k_a (le_w [false,true,true]) (le_w [false,true,true]),?_⟩
   exact xk [(0,pp bf0 0)] fun fr => rd ⟨((xs46.set f0.e.Tenant.toNat ({ x51 with Home := f0.e.Cell })).set f0.e.Tenant.toNat ({ x51 with Home := f0.e.Cell,Target := (-1) })),_,h,fe _,by kernel_rfl⟩
  exact rd ⟨xs46,_,h,fe _,by kernel_rfl⟩
 clear h
 rintro fr S ⟨xs53,fr,h,rfl,rfl⟩
 replace h := hK56 _ h
 refine rd<|rb ?_
 replace h := h_b h; obtain ⟨x58,hx57,h⟩ := h
 refine rc (hc_107 (bf0 := bf0) (g_f0 := g_f0) (f0 := { f0 with s := { f0.s with Tenants := xs53 } }) (hS_f0 := by exact (le_d 0).trans hS_f0) (h_f0 :=h_f0) (h_f0_t :=h_f0_t) (h_f0_cell :=h_f0_cell) (h := hx57)) ?_
 rintro _ _ ⟨rfl,rfl⟩
 refine rd ?_
 repeat refine rd ?_
 repeat refine rd ?_
 obtain rfl := h_out h
 exact ret_of (RV.tmp RV.nil) (Le.refl _) ⟨rfl,rfl⟩
theorem hc_73 {bf0 : Nat} {g_f0 : gstate_fold} {S_f0 : St} (hS_f0 : Le ⟨ρ,L⟩ S_f0) (f0 : state_fold) (h_f0 : Sl_state_fold S_f0 f0 g_f0) (h_f0_t : g_f0.t = fptr g_f0.s_Tenants.1 f0.e.Tenant 12) (h_f0_cell : g_f0.cell = fptr g_f0.s_Cells.1 f0.e.Cell 4) {r : (Int × State)} (h : state_fold_cut f0 = some r) : HC Tryz.prog 73 #[pp bf0 0] ⟨ρ,.row g_f0.s_Tenants.1 f0.s.Tenants.length g_f0.s_Tenants.2 58 12 (fl eTenantState.en f0.s.Tenants) :: .row g_f0.s_Cells.1 f0.s.Cells.length g_f0.s_Cells.2 54 4 (fl eCellState.en f0.s.Cells) :: .obj bf0 (en_state_fold f0 g_f0) 85 :: L⟩ (fun v S' => v = ii r.1 ∧ S' = ⟨ρ,.row g_f0.s_Tenants.1 r.2.Tenants.length g_f0.s_Tenants.2 58 12 (fl eTenantState.en r.2.Tenants) :: .row g_f0.s_Cells.1 r.2.Cells.length g_f0.s_Cells.2 54 4 (fl eCellState.en r.2.Cells) :: .obj bf0 (en_state_fold ({ f0 with s := r.2 }) g_f0) 85 :: L⟩) := by
 replace h := h_in h
 refine HC.intro (N := 59) (args := [_]) tt_ok Tryz.func73 rfl (by decide +kernel) rfl (Nat.le_of_ble_eq_true rfl)<|rb<|rd<|rb<|rb<|rb ?_
 replace h := h_b h; obtain ⟨x1,hx2,h⟩ := h
 refine r_ld 2 tt_ok (v := .pointer (some ((adr g_f0.s_Tenants.1).add (f0.e.Tenant.toNat * 12)))) ts_82 rfl (by rw [← fptr_at h_f0_t hx2]; kernel_rfl)<|r_lec (E := eTenantState) tt_ok (v := .bool x1.Placed) (idx_get hx2) (rd_row 0 rfl) ts_4 rfl (pl1 _ _ _) (by kernel_rfl)<|kr [(0,pp bf0 0),(4,.bool (!x1.Placed))] fun fr => rd ?_
 apply r_iteh h<;>clear h<;>intro h
 ·refine rb<|rd ?_
  repeat refine rd ?_
  repeat refine rd ?_
  obtain rfl := h_out h
  exact ret_of (RV.tmp RV.nil) (Le.refl _) ⟨rfl,rfl⟩
 refine rb<|r_mix tt_ok hm_ok _ _ [] (.pure 0 (.pure 1 (.pure 2 (.pure 3 (.vb 4 (.pure 5 (.pure 6 (.pure 7 (.vb 8 (.pure 9 (.pure 10 (.vb 11 (.pure 12 (.pure 13 .nil)))))))))))))) (le_w [true,true,true]) (le_w [true,true,true]) ?_ ?_
 ·decide +kernel
 refine x_p rfl<|vd<|x_p rfl<|vd<|x_p rfl<|vd<|x_p rfl<|vd<|x_vb rfl<|vl 2 tt_ok (v := ii f0.e.Epoch) ts_3 rfl<|vd<|x_p rfl<|vd ?_
 refine x_p rfl<|vd<|x_p rfl<|vd<|x_vb rfl<|v_ld 2 tt_ok (v := .pointer (some ((adr g_f0.s_Tenants.1).add (f0.e.Tenant.toNat * 12)))) ts_82 rfl (by rw [← fptr_at h_f0_t hx2]; kernel_rfl)<|vd<|xp [(0,pp bf0 0),(18,ii f0.e.Epoch),(22,.pointer (some ((adr g_f0.s_Tenants.1).add (f0.e.Tenant.toNat * 12))))] fun fr => x_p rfl<|vd<|x_p rfl<|vd<|x_vb rfl ?_
 refine v_lec (E := eTenantState) tt_ok (v := ii x1.Epoch) (idx_get hx2) (rd_row 0 rfl) ts_3 rfl (pl1 _ _ _) (by kernel_rfl)<|vd<|x_p rfl<|vd<|x_p rfl<|vd<|xk [(0,pp bf0 0),(13,.bool (!decide (f0.e.Epoch = x1.Epoch)))] fun fr => rd ?_
 apply r_iteh h<;>clear h<;>intro h
 ·refine rb<|rd ?_
  repeat refine rd ?_
  repeat refine rd ?_
  obtain rfl := h_out h
  exact ret_of (RV.tmp RV.nil) (Le.refl _) ⟨rfl,rfl⟩
 refine rd<|rd<|rb<|r_ld 2 tt_ok (v := .pointer (some ((adr g_f0.s_Tenants.1).add (f0.e.Tenant.toNat * 12)))) ts_82 rfl (by rw [← fptr_at h_f0_t hx2]; kernel_rfl)<|rd<|rb<|r_mix tt_ok hm_ok _ _ [14] (.pure 0 (.pure 1 (.pure 2 (.pure 3 (.va 4 (.pure 5 (.pure 6 (.pure 7 (.pure 8 (.vb 9 (.pure 10 (.pure 11 (.pure 12 (.pure 13 (.eff 14 .nil))))))))))))))) (le_w [true,true,true]) (le_w [false,true,true]) ?_ ?_
 ·decide +kernel
 refine x_p rfl<|vd<|x_p rfl<|vd<|xp [(0,pp bf0 0),(3,.pointer (some (((adr g_f0.s_Tenants.1).add (f0.e.Tenant.toNat * 12)).add 7))),(33,.pointer (some (((adr g_f0.s_Tenants.1).add (f0.e.Tenant.toNat * 12)).add 7))),(34,.pointer (some (((adr g_f0.s_Tenants.1).add (f0.e.Tenant.toNat * 12)).add 7)))] fun fr => x_p rfl<|vd<|x_p rfl<|vd<|x_va rfl<|v_lec (E := eTenantState) tt_ok (v := ii x1.Window.Until) (idx_get hx2) (rd_row 0 rfl) ts_3 rfl (pl2 _ _ _ _) (by kernel_rfl)<|vd<|x_p rfl ?_
 refine vd<|x_p rfl<|vd<|x_p rfl<|vd<|x_p rfl<|vd<|x_vb rfl<|vl 1 tt_ok (v := ii f0.e.Tick) ts_3 rfl<|vd<|x_p rfl<|v_num (e' := w64 (f0.e.Tick + 1)) rfl<|vd ?_
 refine xp [(3,.pointer (some (((adr g_f0.s_Tenants.1).add (f0.e.Tenant.toNat * 12)).add 7))),(33,.pointer (some (((adr g_f0.s_Tenants.1).add (f0.e.Tenant.toNat * 12)).add 7))),(37,ii x1.Window.Until),(43,ii (w64 (f0.e.Tick + 1)))] fun fr => x_p rfl<|vd<|x_p rfl<|vd<|x_p rfl<|vd<|x_e rfl<|r_sec 0 (E := eTenantState) tt_ok ({ x1 with Window := { x1.Window with Until := mn x1.Window.Until (w64 (f0.e.Tick + 1)) } }) (idx_get hx2) (f1 ts_3) rfl rfl (pl2 _ _ _ _) (by kernel_rfl) (by kernel_rfl) (List.cons_ne_nil _ _) ?_
 rw [show (en_state_fold f0 g_f0) = (en_state_fold ({ f0 with s := { f0.s with Tenants := (f0.s.Tenants.set f0.e.Tenant.toNat ({ x1 with Window := { x1.Window with Until := mn x1.Window.Until (w64 (f0.e.Tick + 1)) } })) } }) g_f0) by simp [en_state_fold]]
 rw [← @List.length_set _ f0.s.Tenants f0.e.Tenant.toNat ({ x1 with Window := { x1.Window with Until := mn x1.Window.Until (w64 (f0.e.Tick + 1)) } })]
 refine rd ⟨rfl,k_b rfl (le_w [false,true,true]),?_⟩
 refine xk [(3,.pointer (some (((adr g_f0.s_Tenants.1).add (f0.e.Tenant.toNat * 12)).add 7)))] fun fr => rd<|rb<|r_mix tt_ok hm_ok _ _ [12] (.pure 0 (.pure 1 (.pure 2 (.pure 3 (.va 4 (.pure 5 (.pure 6 (.pure 7 (.va 8 (.pure 9 (.pure 10 (.pure 11 (.eff 12 .nil))))))))))))) (le_w [true,true,true]) (le_w [false,true,true]) ?_ ?_
 ·decide +kernel
 refine x_p rfl<|vd<|x_p rfl<|vd<|x_p rfl<|vd<|x_p rfl<|vd<|x_va rfl<|v_lec (E := eTenantState) tt_ok (v := ii x1.Window.From) (get_set (idx_get hx2) _) (rd_row 0 rfl) ts_3 rfl (pl2 _ _ _ _) (by kernel_rfl)<|vd<|x_p rfl<|vd ?_
 refine x_p rfl<|vd<|x_p rfl<|vd<|x_va rfl<|v_lec (E := eTenantState) tt_ok (v := ii (mn x1.Window.Until (w64 (f0.e.Tick + 1)))) (get_set (idx_get hx2) _) (rd_row 0 rfl) ts_3 rfl (pl2 _ _ _ _) (by kernel_rfl)<|vd<|xp [(47,.pointer (some (((adr g_f0.s_Tenants.1).add (f0.e.Tenant.toNat * 12)).add 7))),(51,ii x1.Window.From),(55,ii (mn x1.Window.Until (w64 (f0.e.Tick + 1))))] fun fr => x_p rfl<|vd<|x_p rfl<|vd<|x_p rfl ?_
 refine vd<|x_e rfl<|r_sec 0 (E := eTenantState) tt_ok ({ x1 with Window := { x1.Window with From := mn x1.Window.From (mn x1.Window.Until (w64 (f0.e.Tick + 1))),Until := mn x1.Window.Until (w64 (f0.e.Tick + 1)) } }) (get_set (idx_get hx2) _) (f1 ts_3) rfl rfl (pl2 _ _ _ _) (by kernel_rfl) (by kernel_rfl) (List.cons_ne_nil _ _) ?_
 rw [show (en_state_fold ({ f0 with s := { f0.s with Tenants := (f0.s.Tenants.set f0.e.Tenant.toNat ({ x1 with Window := { x1.Window with Until := mn x1.Window.Until (w64 (f0.e.Tick + 1)) } })) } }) g_f0) = (en_state_fold ({ f0 with s := { f0.s with Tenants := ((f0.s.Tenants.set f0.e.Tenant.toNat ({ x1 with Window := { x1.Window with Until := mn x1.Window.Until (w64 (f0.e.Tick + 1)) } })).set f0.e.Tenant.toNat ({ x1 with Window := { x1.Window with From := mn x1.Window.From (mn x1.Window.Until (w64 (f0.e.Tick + 1))),Until := mn x1.Window.Until (w64 (f0.e.Tick + 1)) } })) } }) g_f0) by simp [en_state_fold]]
 rw [← @List.length_set _ (f0.s.Tenants.set f0.e.Tenant.toNat ({ x1 with Window := { x1.Window with Until := mn x1.Window.Until (w64 (f0.e.Tick + 1)) } })) f0.e.Tenant.toNat ({ x1 with Window := { x1.Window with From := mn x1.Window.From (mn x1.Window.Until (w64 (f0.e.Tick + 1))),Until := mn x1.Window.Until (w64 (f0.e.Tick + 1)) } })]
 refine rd ⟨rfl,k_b rfl (le_w [false,true,true]),?_⟩
 refine xk [] fun fr => rd<|rb<|rd ?_
 repeat refine rd ?_
 repeat refine rd ?_
 obtain rfl := h_out h
 exact ret_of (RV.tmp RV.nil) (Le.refl _) ⟨rfl,rfl⟩
theorem hc_74 {bf0 : Nat} {g_f0 : gstate_fold} {S_f0 : St} (hS_f0 : Le ⟨ρ,L⟩ S_f0) (f0 : state_fold) (h_f0 : Sl_state_fold S_f0 f0 g_f0) (h_f0_t : g_f0.t = fptr g_f0.s_Tenants.1 f0.e.Tenant 12) (h_f0_cell : g_f0.cell = fptr g_f0.s_Cells.1 f0.e.Cell 4) {r : (Int × State)} (h : state_fold_standby f0 = some r) : HC Tryz.prog 74 #[pp bf0 0] ⟨ρ,.row g_f0.s_Tenants.1 f0.s.Tenants.length g_f0.s_Tenants.2 58 12 (fl eTenantState.en f0.s.Tenants) :: .row g_f0.s_Cells.1 f0.s.Cells.length g_f0.s_Cells.2 54 4 (fl eCellState.en f0.s.Cells) :: .obj bf0 (en_state_fold f0 g_f0) 85 :: L⟩ (fun v S' => v = ii r.1 ∧ S' = ⟨ρ,.row g_f0.s_Tenants.1 r.2.Tenants.length g_f0.s_Tenants.2 58 12 (fl eTenantState.en r.2.Tenants) :: .row g_f0.s_Cells.1 r.2.Cells.length g_f0.s_Cells.2 54 4 (fl eCellState.en r.2.Cells) :: .obj bf0 (en_state_fold ({ f0 with s := r.2 }) g_f0) 85 :: L⟩) := by
 replace h := h_in h
 refine HC.intro (N := 95) (args := [_]) tt_ok Tryz.func74 rfl (by decide +kernel) rfl (Nat.le_of_ble_eq_true rfl)<|rb<|rd<|rb<|ld 2 tt_ok (v := ii f0.e.Cell) ts_3 rfl<|rd<|rb<|rb ?_
 replace h := h_b h; obtain ⟨x1,hx2,h⟩ := h
 refine r_ld 2 tt_ok (v := .pointer (some ((adr g_f0.s_Tenants.1).add (f0.e.Tenant.toNat * 12)))) ts_82 rfl (by rw [← fptr_at h_f0_t hx2]; kernel_rfl)<|kp [(0,pp bf0 0),(3,ii f0.e.Cell),(12,.pointer (some ((adr g_f0.s_Tenants.1).add (f0.e.Tenant.toNat * 12))))] fun fr => r_lec (E := eTenantState) tt_ok (v := .bool x1.Placed) (idx_get hx2) (rd_row 0 rfl) ts_4 rfl (pl1 _ _ _) (by kernel_rfl)<|rd ?_
 apply r_iteh h<;>clear h<;>intro h
 ·refine rb<|rd ?_
  repeat refine rd ?_
  repeat refine rd ?_
  obtain rfl := h_out h
  exact ret_of (RV.tmp RV.nil) (Le.refl _) ⟨rfl,rfl⟩
 refine rd<|rb<|rb<|rd ?_
 apply r_iteh h<;>clear h<;>intro h
 ·refine rb<|r_ld 2 tt_ok (v := .pointer (some ((adr g_f0.s_Tenants.1).add (f0.e.Tenant.toNat * 12)))) ts_82 rfl (by rw [← fptr_at h_f0_t hx2]; kernel_rfl)<|kp [(22,.pointer (some ((adr g_f0.s_Tenants.1).add (f0.e.Tenant.toNat * 12))))] fun fr => r_sec 0 (E := eTenantState) tt_ok ({ x1 with Next := (-1) }) (idx_get hx2) (f1 ts_3) rfl rfl (pl1 _ _ _) (by kernel_rfl) (by kernel_rfl) (List.cons_ne_nil _ _) ?_
  rw [show (en_state_fold f0 g_f0) = (en_state_fold ({ f0 with s := { f0.s with Tenants := (f0.s.Tenants.set f0.e.Tenant.toNat ({ x1 with Next := (-1) })) } }) g_f0) by simp [en_state_fold]]
  rw [← @List.length_set _ f0.s.Tenants f0.e.Tenant.toNat ({ x1 with Next := (-1) })]
  refine rd<|rb<|rd ?_
  repeat refine rd ?_
  repeat refine rd ?_
  obtain rfl := h_out h
  exact ret_of (RV.tmp RV.nil) (Le.refl _) ⟨rfl,rfl⟩
 refine rd<|rb<|rb<|rb<|r_meet (fun fr S => ∃ fr0,fr = updL [(0,pp bf0 0),(3,ii f0.e.Cell),(25,.bool ((decide (f0.e.Cell = x1.Home)) || ((decide (f0.e.Cell = x1.Standby)) || (decide (f0.e.Cell = x1.Target)))))] fr0 ∧ S = ⟨ρ,.row g_f0.s_Tenants.1 f0.s.Tenants.length g_f0.s_Tenants.2 58 12 (fl eTenantState.en f0.s.Tenants) :: .row g_f0.s_Cells.1 f0.s.Cells.length g_f0.s_Cells.2 54 4 (fl eCellState.en f0.s.Cells) :: .obj bf0 (en_state_fold f0 g_f0) 85 :: L⟩) ?_ ?_
 ·refine r_ld 2 tt_ok (v := .pointer (some ((adr g_f0.s_Tenants.1).add (f0.e.Tenant.toNat * 12)))) ts_82 rfl (by rw [← fptr_at h_f0_t hx2]; kernel_rfl)<|kp [(0,pp bf0 0),(3,ii f0.e.Cell),(26,ii f0.e.Cell),(30,.pointer (some ((adr g_f0.s_Tenants.1).add (f0.e.Tenant.toNat * 12))))] fun fr => r_lec (E := eTenantState) tt_ok (v := ii x1.Home) (idx_get hx2) (rd_row 0 rfl) ts_3 rfl (pl1 _ _ _) (by kernel_rfl)<|r_ite (fun (hb5 : (decide (f0.e.Cell = x1.Home)) = true) => ?_) (fun (hb5 : (decide (f0.e.Cell = x1.Home)) = false) => ?_)
  ·refine r_T rfl<|r_T rfl<|r_T rfl<|kp [(0,pp bf0 0),(3,ii f0.e.Cell),(35,.bool true),(36,undef),(39,undef)] fun fr => r_T rfl<|r_T rfl<|r_T rfl<|r_T rfl<|r_T rfl<|r_T rfl<|r_T rfl<|r_T rfl<|kp [(0,pp bf0 0),(3,ii f0.e.Cell),(46,.bool true),(47,undef),(48,undef)] fun fr => ?_
   exact r_T rfl<|r_T rfl<|r_T rfl<|r_T rfl<|r_T rfl<|r_T rfl<|r_T rfl<|r_T rfl<|kr [(0,pp bf0 0),(3,ii f0.e.Cell),(25,.bool true)] fun fr => rd ⟨_,fr_eq _ (by (try rw [hb5]); kernel_rfl),by kernel_rfl⟩
  refine r_F rfl<|r_F rfl<|r_F rfl<|kp [(0,pp bf0 0),(3,ii f0.e.Cell),(35,.bool false),(36,ii f0.e.Cell),(39,pp bf0 27)] fun fr => r_F rfl<|r_ld 2 tt_ok (v := .pointer (some ((adr g_f0.s_Tenants.1).add (f0.e.Tenant.toNat * 12)))) ts_82 rfl (by rw [← fptr_at h_f0_t hx2]; kernel_rfl)<|r_F rfl<|r_F rfl<|r_F rfl<|r_lec (E := eTenantState) tt_ok (v := ii x1.Standby) (idx_get hx2) (rd_row 0 rfl) ts_3 rfl (pl1 _ _ _) (by kernel_rfl)<|r_F rfl<|r_ite (fun (hb6 : (decide (f0.e.Cell = x1.Standby)) = true) => ?_) (fun (hb6 : (decide (f0.e.Cell = x1.Standby)) = false) => ?_)
  ·exact r_T rfl<|kp [(0,pp bf0 0),(3,ii f0.e.Cell),(46,.bool true),(47,undef),(48,undef)] fun fr => r_T rfl<|r_T rfl<|r_T rfl<|r_T rfl<|r_T rfl<|r_T rfl<|r_T rfl<|r_T rfl<|kr [(0,pp bf0 0),(3,ii f0.e.Cell),(25,.bool true)] fun fr => rd ⟨_,fr_eq _ (by (try rw [hb6]); (try rw [hb5]); kernel_rfl),by kernel_rfl⟩
  exact r_F rfl<|kp [(0,pp bf0 0),(3,ii f0.e.Cell),(46,.bool false),(47,ii f0.e.Cell),(48,pp bf0 0)] fun fr => r_F rfl<|r_F rfl<|r_F rfl<|r_ld 2 tt_ok (v := .pointer (some ((adr g_f0.s_Tenants.1).add (f0.e.Tenant.toNat * 12)))) ts_82 rfl (by rw [← fptr_at h_f0_t hx2]; kernel_rfl)<|r_F rfl<|r_F rfl<|r_F rfl<|r_lec (E := eTenantState) tt_ok (v := ii x1.Target) (idx_get hx2) (rd_row 0 rfl) ts_3 rfl (pl1 _ _ _) (by kernel_rfl)<|r_F rfl<|kr [(0,pp bf0 0),(3,ii f0.e.Cell),(25,.bool (decide (f0.e.Cell = x1.Target)))] fun fr => rd ⟨_,fr_eq _ (by (try rw [hb6]); (try rw [hb5]); kernel_rfl),by kernel_rfl⟩
 rintro fr S ⟨fr,rfl,rfl⟩
 refine rd ?_
 apply r_iteh h<;>clear h<;>intro h
 ·refine rb<|rd ?_
  repeat refine rd ?_
  repeat refine rd ?_
  obtain rfl := h_out h
  exact ret_of (RV.tmp RV.nil) (Le.refl _) ⟨rfl,rfl⟩
 refine rb ?_
 replace h := h_b h; obtain ⟨x9,hx8,h⟩ := h
 refine rc (hc_104 (bf0 := bf0) (g_f0 := g_f0) (f0 := f0) (cell1 := f0.e.Cell) (hS_f0 := by exact (le_d 0).trans hS_f0) (h_f0 :=h_f0) (h_f0_t :=h_f0_t) (h_f0_cell :=h_f0_cell) (h := hx8)) ?_
 rintro _ _ ⟨rfl,rfl⟩
 refine rd ?_
 apply r_iteh h<;>clear h<;>intro h
 ·refine rb<|rd ?_
  repeat refine rd ?_
  repeat refine rd ?_
  obtain rfl := h_out h
  exact ret_of (RV.tmp RV.nil) (Le.refl _) ⟨rfl,rfl⟩
 refine rb ?_
 replace h := h_b h; obtain ⟨x12,hx11,h⟩ := h
 refine rc (hc_105 (bf0 := bf0) (g_f0 := g_f0) (f0 := f0) (cell1 := f0.e.Cell) (hS_f0 := by exact (le_d 0).trans hS_f0) (h_f0 :=h_f0) (h_f0_t :=h_f0_t) (h_f0_cell :=h_f0_cell) (h := hx11)) ?_
 rintro _ _ ⟨rfl,rfl⟩
 refine kr [(0,pp bf0 0),(3,ii f0.e.Cell),(62,.bool x12)] fun fr => rd ?_
 apply r_iteh h<;>clear h<;>intro h
 ·refine rb<|rd ?_
  repeat refine rd ?_
  repeat refine rd ?_
  obtain rfl := h_out h
  exact ret_of (RV.tmp RV.nil) (Le.refl _) ⟨rfl,rfl⟩
 refine rb<|r_mix tt_ok hm_ok _ _ [] (.pure 0 (.pure 1 (.pure 2 (.pure 3 (.pure 4 (.vb 5 (.pure 6 (.pure 7 (.vb 8 (.pure 9 (.pure 10 (.pure 11 (.vb 12 (.pure 13 (.pure 14 (.vb 15 (.eff 16 (.eff 17 (.pure 18 (.pure 19 .nil)))))))))))))))))))) (le_w [true,true,true]) (le_w [true,true,true]) ?_ ?_
 ·decide +kernel
 refine x_p rfl<|vd<|x_p rfl<|vd<|x_p rfl<|vd<|x_p rfl<|vd<|x_p rfl<|vd<|x_vb rfl<|v_ld 2 tt_ok (v := .pointer (some ((adr g_f0.s_Tenants.1).add (f0.e.Tenant.toNat * 12)))) ts_82 rfl (by rw [← fptr_at h_f0_t hx2]; kernel_rfl)<|vd ?_
 refine x_p rfl<|vd<|x_p rfl<|vd<|x_vb rfl<|v_lec (E := eTenantState) tt_ok (v := ii x1.Home) (idx_get hx2) (rd_row 0 rfl) ts_3 rfl (pl1 _ _ _) (by kernel_rfl)<|vd<|xp [(0,pp bf0 0),(3,ii f0.e.Cell),(67,pp bf0 0),(68,ii f0.e.Cell),(75,ii x1.Home)] fun fr => x_p rfl<|vd<|x_p rfl<|vd<|x_p rfl ?_
 refine vd<|x_vb rfl<|v_ld 2 tt_ok (v := .pointer (some ((adr g_f0.s_Tenants.1).add (f0.e.Tenant.toNat * 12)))) ts_82 rfl (by rw [← fptr_at h_f0_t hx2]; kernel_rfl)<|vd<|x_p rfl<|vd<|x_p rfl<|vd<|x_vb rfl<|v_lec (E := eTenantState) tt_ok (v := ii x1.Target) (idx_get hx2) (rd_row 0 rfl) ts_3 rfl (pl1 _ _ _) (by kernel_rfl)<|vd<|x_e rfl<|r_bs tt_ok (fl eI64.en [x1.Home,x1.Target]) te_22 ti_3 (by kernel_rfl) (by kernel_rfl) (by kernel_rfl) (by kernel_rfl) fun bq14 => ?_
 refine rd ⟨rfl,k_a (le_w [false,true,true,true]) (le_w [false,true,true,true]),?_⟩
 refine x_e rfl<|r_le ((le_mv 3).trans ((le_mv 3).trans (le_mv 3))) ?_
 replace h := h_b h; obtain ⟨x16,hx15,h⟩ := h
 refine rc (hc_106 (bf0 := bf0) (g_f0 := g_f0) (f0 := f0) (cell1 := f0.e.Cell) (A_others2 := (some ⟨bq14,0,none⟩)) (c_others2 := 2) (others2 := [x1.Home,x1.Target]) (hS_f0 := by exact (le_d 1).trans hS_f0) (h_f0 :=h_f0) (hS_others2 := by exact Le.refl _) (h_others2 := by exact sl_row 0 rfl) (h_f0_t :=h_f0_t) (h_f0_cell :=h_f0_cell) (h := hx15)) ?_
 rintro _ _ ⟨rfl,rfl⟩
 refine rd ⟨rfl,k_a (le_w [true,true,true,false]) (le_w [true,true,true,false]),?_⟩
 refine xp [(0,pp bf0 0),(3,ii f0.e.Cell),(84,.bool x16)] fun fr => x_p rfl<|vd<|x_p rfl<|vd<|xk [(0,pp bf0 0),(3,ii f0.e.Cell),(66,.bool (!x16))] fun fr => rd ?_
 apply r_iteh h<;>clear h<;>intro h
 ·refine rb<|rd ?_
  repeat refine rd ?_
  repeat refine rd ?_
  obtain rfl := h_out h
  exact ret_of (RV.tmp RV.nil) (le_w [true,true,true,false]) ⟨rfl,rfl⟩
 refine rd<|rd<|rb<|r_ld 2 tt_ok (v := .pointer (some ((adr g_f0.s_Tenants.1).add (f0.e.Tenant.toNat * 12)))) ts_82 rfl (by rw [← fptr_at h_f0_t hx2]; kernel_rfl)<|r_sec 0 (E := eTenantState) tt_ok ({ x1 with Next := f0.e.Cell }) (idx_get hx2) (f1 ts_3) rfl rfl (pl1 _ _ _) (by kernel_rfl) (by kernel_rfl) (List.cons_ne_nil _ _) ?_
 rw [show (en_state_fold f0 g_f0) = (en_state_fold ({ f0 with s := { f0.s with Tenants := (f0.s.Tenants.set f0.e.Tenant.toNat ({ x1 with Next := f0.e.Cell })) } }) g_f0) by simp [en_state_fold]]
 rw [← @List.length_set _ f0.s.Tenants f0.e.Tenant.toNat ({ x1 with Next := f0.e.Cell })]
 refine rd<|rb ?_
 replace h := h_b h; obtain ⟨x19,hx18,h⟩ := h
 refine rc (hc_107 (bf0 := bf0) (g_f0 := g_f0) (f0 := { f0 with s := { f0.s with Tenants := (f0.s.Tenants.set f0.e.Tenant.toNat ({ x1 with Next := f0.e.Cell })) } }) (hS_f0 := by exact (le_d 1).trans hS_f0) (h_f0 :=h_f0) (h_f0_t :=h_f0_t) (h_f0_cell :=h_f0_cell) (h := hx18)) ?_
 rintro _ _ ⟨rfl,rfl⟩
 refine kp [(94,ii x19)] fun fr => rd ?_
 repeat refine rd ?_
 repeat refine rd ?_
 obtain rfl := h_out h
 exact ret_of (RV.tmp RV.nil) (le_w [true,true,true,false]) ⟨rfl,rfl⟩
theorem hc_75 {bf0 : Nat} {g_f0 : gstate_fold} {S_f0 : St} (hS_f0 : Le ⟨ρ,L⟩ S_f0) (f0 : state_fold) (h_f0 : Sl_state_fold S_f0 f0 g_f0) (h_f0_t : g_f0.t = fptr g_f0.s_Tenants.1 f0.e.Tenant 12) (h_f0_cell : g_f0.cell = fptr g_f0.s_Cells.1 f0.e.Cell 4) {r : (Int × State)} (h : state_fold_ready f0 = some r) : HC Tryz.prog 75 #[pp bf0 0] ⟨ρ,.row g_f0.s_Tenants.1 f0.s.Tenants.length g_f0.s_Tenants.2 58 12 (fl eTenantState.en f0.s.Tenants) :: .row g_f0.s_Cells.1 f0.s.Cells.length g_f0.s_Cells.2 54 4 (fl eCellState.en f0.s.Cells) :: .obj bf0 (en_state_fold f0 g_f0) 85 :: L⟩ (fun v S' => v = ii r.1 ∧ S' = ⟨ρ,.row g_f0.s_Tenants.1 r.2.Tenants.length g_f0.s_Tenants.2 58 12 (fl eTenantState.en r.2.Tenants) :: .row g_f0.s_Cells.1 r.2.Cells.length g_f0.s_Cells.2 54 4 (fl eCellState.en r.2.Cells) :: .obj bf0 (en_state_fold ({ f0 with s := r.2 }) g_f0) 85 :: L⟩) := by
 replace h := h_in h
 refine HC.intro (N := 52) (args := [_]) tt_ok Tryz.func75 rfl (by decide +kernel) rfl (Nat.le_of_ble_eq_true rfl)<|rb<|rd<|rb<|rb<|rb ?_
 replace h := h_b h; obtain ⟨x1,hx2,h⟩ := h
 refine r_ld 2 tt_ok (v := .pointer (some ((adr g_f0.s_Tenants.1).add (f0.e.Tenant.toNat * 12)))) ts_82 rfl (by rw [← fptr_at h_f0_t hx2]; kernel_rfl)<|r_lec (E := eTenantState) tt_ok (v := .bool x1.Placed) (idx_get hx2) (rd_row 0 rfl) ts_4 rfl (pl1 _ _ _) (by kernel_rfl)<|kr [(0,pp bf0 0),(3,.bool (!x1.Placed))] fun fr => rd ?_
 apply r_iteh h<;>clear h<;>intro h
 ·refine rb<|rd ?_
  repeat refine rd ?_
  repeat refine rd ?_
  obtain rfl := h_out h
  exact ret_of (RV.tmp RV.nil) (Le.refl _) ⟨rfl,rfl⟩
 refine rb<|r_mix tt_ok hm_ok _ _ [] (.pure 0 (.pure 1 (.pure 2 (.pure 3 (.vb 4 (.pure 5 (.pure 6 (.pure 7 (.vb 8 (.pure 9 (.pure 10 (.vb 11 (.pure 12 (.pure 13 .nil)))))))))))))) (le_w [true,true,true]) (le_w [true,true,true]) ?_ ?_
 ·decide +kernel
 refine x_p rfl<|vd<|x_p rfl<|vd<|x_p rfl<|vd<|x_p rfl<|vd<|x_vb rfl<|vl 2 tt_ok (v := ii f0.e.Cell) ts_3 rfl<|vd<|x_p rfl<|vd ?_
 refine x_p rfl<|vd<|x_p rfl<|vd<|x_vb rfl<|v_ld 2 tt_ok (v := .pointer (some ((adr g_f0.s_Tenants.1).add (f0.e.Tenant.toNat * 12)))) ts_82 rfl (by rw [← fptr_at h_f0_t hx2]; kernel_rfl)<|vd<|xp [(0,pp bf0 0),(17,ii f0.e.Cell),(21,.pointer (some ((adr g_f0.s_Tenants.1).add (f0.e.Tenant.toNat * 12))))] fun fr => x_p rfl<|vd<|x_p rfl<|vd<|x_vb rfl ?_
 refine v_lec (E := eTenantState) tt_ok (v := ii x1.Next) (idx_get hx2) (rd_row 0 rfl) ts_3 rfl (pl1 _ _ _) (by kernel_rfl)<|vd<|x_p rfl<|vd<|x_p rfl<|vd<|xk [(0,pp bf0 0),(12,.bool (!decide (f0.e.Cell = x1.Next)))] fun fr => rd ?_
 apply r_iteh h<;>clear h<;>intro h
 ·refine rb<|rd ?_
  repeat refine rd ?_
  repeat refine rd ?_
  obtain rfl := h_out h
  exact ret_of (RV.tmp RV.nil) (Le.refl _) ⟨rfl,rfl⟩
 refine rb ?_
 replace h := h_b h; obtain ⟨x5,hx6,h⟩ := h
 refine r_ld 2 tt_ok (v := .pointer (some ((adr g_f0.s_Cells.1).add (f0.e.Cell.toNat * 4)))) ts_83 rfl (by rw [← fptr_at h_f0_cell hx6]; kernel_rfl)<|r_lec (E := eCellState) tt_ok (v := ii x5.Mode) (idx_get hx6) (rd_row 1 rfl) ts_3 rfl (pl1 _ _ _) (by kernel_rfl)<|kr [(0,pp bf0 0),(26,.bool (decide (x5.Mode = 3)))] fun fr => rd ?_
 apply r_iteh h<;>clear h<;>intro h
 ·refine rb<|rd ?_
  repeat refine rd ?_
  repeat refine rd ?_
  obtain rfl := h_out h
  exact ret_of (RV.tmp RV.nil) (Le.refl _) ⟨rfl,rfl⟩
 refine rd<|rd<|rb<|r_mix tt_ok hm_ok _ _ [] (.pure 0 (.pure 1 (.pure 2 (.vb 3 (.pure 4 (.pure 5 (.pure 6 (.vb 7 (.pure 8 (.pure 9 (.pure 10 (.pure 11 (.vb 12 (.pure 13 (.pure 14 (.eff 15 (.pure 16 (.pure 17 (.eff 18 .nil))))))))))))))))))) (le_w [false,true,true]) (le_w [false,true,true]) ?_ ?_
 ·decide +kernel
 refine x_p rfl<|vd<|x_p rfl<|vd<|x_p rfl<|vd<|x_vb rfl<|v_ld 1 tt_ok (v := .pointer (some ((adr g_f0.s_Tenants.1).add (f0.e.Tenant.toNat * 12)))) ts_82 rfl (by rw [← fptr_at h_f0_t hx2]; kernel_rfl)<|vd<|x_p rfl<|vd<|x_p rfl<|vd ?_
 refine x_p rfl<|vd<|x_vb rfl<|v_ld 1 tt_ok (v := .pointer (some ((adr g_f0.s_Tenants.1).add (f0.e.Tenant.toNat * 12)))) ts_82 rfl (by rw [← fptr_at h_f0_t hx2]; kernel_rfl)<|vd<|x_p rfl<|vd<|xp [(38,.pointer (some ((adr g_f0.s_Tenants.1).add (f0.e.Tenant.toNat * 12)))),(42,.pointer (some ((adr g_f0.s_Tenants.1).add (f0.e.Tenant.toNat * 12)))),(43,pp bf0 0)] fun fr => x_p rfl<|vd<|x_p rfl<|vd<|x_p rfl ?_
 refine vd<|x_vb rfl<|vl 1 tt_ok (v := ii f0.e.Cell) ts_3 rfl<|vd<|x_p rfl<|vd<|x_p rfl<|vd<|x_e rfl<|r_sec 0 (E := eTenantState) tt_ok ({ x1 with Standby := f0.e.Cell }) (idx_get hx2) (f1 ts_3) rfl rfl (pl1 _ _ _) (by kernel_rfl) (by kernel_rfl) (List.cons_ne_nil _ _) ?_
 rw [show (en_state_fold f0 g_f0) = (en_state_fold ({ f0 with s := { f0.s with Tenants := (f0.s.Tenants.set f0.e.Tenant.toNat ({ x1 with Standby := f0.e.Cell })) } }) g_f0) by simp [en_state_fold]]
 rw [← @List.length_set _ f0.s.Tenants f0.e.Tenant.toNat ({ x1 with Standby := f0.e.Cell })]
 refine rd ⟨rfl,k_a (le_w [false,true,true]) (le_w [false,true,true]),?_⟩
 refine x_p rfl<|vd<|x_p rfl<|vd<|xp [(51,.pointer (some (((adr g_f0.s_Tenants.1).add (f0.e.Tenant.toNat * 12)).add 4)))] fun fr => x_e rfl<|r_sec 0 (E := eTenantState) tt_ok ({ x1 with Standby := f0.e.Cell,Next := (-1) }) (get_set (idx_get hx2) _) (f1 ts_3) rfl rfl (pl1 _ _ _) (by kernel_rfl) (by kernel_rfl) (List.cons_ne_nil _ _) ?_
 rw [show (en_state_fold ({ f0 with s := { f0.s with Tenants := (f0.s.Tenants.set f0.e.Tenant.toNat ({ x1 with Standby := f0.e.Cell })) } }) g_f0) = (en_state_fold ({ f0 with s := { f0.s with Tenants := ((f0.s.Tenants.set f0.e.Tenant.toNat ({ x1 with Standby := f0.e.Cell })).set f0.e.Tenant.toNat ({ x1 with Standby := f0.e.Cell,Next := (-1) })) } }) g_f0) by simp [en_state_fold]]
 rw [← @List.length_set _ (f0.s.Tenants.set f0.e.Tenant.toNat ({ x1 with Standby := f0.e.Cell })) f0.e.Tenant.toNat ({ x1 with Standby := f0.e.Cell,Next := (-1) })]
 refine rd ⟨rfl,k_a (le_w [false,true,true]) (le_w [false,true,true]),?_⟩
 refine xk [] fun fr => rd<|rb<|rd ?_
 repeat refine rd ?_
 repeat refine rd ?_
 obtain rfl := h_out h
 exact ret_of (RV.tmp RV.nil) (Le.refl _) ⟨rfl,rfl⟩
theorem hc_76 {bf0 : Nat} {g_f0 : gstate_fold} {S_f0 : St} (hS_f0 : Le ⟨ρ,L⟩ S_f0) (f0 : state_fold) (h_f0 : Sl_state_fold S_f0 f0 g_f0) (h_f0_t : g_f0.t = fptr g_f0.s_Tenants.1 f0.e.Tenant 12) (h_f0_cell : g_f0.cell = fptr g_f0.s_Cells.1 f0.e.Cell 4) {r : (Int × State)} (h : state_fold_migrate f0 = some r) : HC Tryz.prog 76 #[pp bf0 0] ⟨ρ,.row g_f0.s_Tenants.1 f0.s.Tenants.length g_f0.s_Tenants.2 58 12 (fl eTenantState.en f0.s.Tenants) :: .row g_f0.s_Cells.1 f0.s.Cells.length g_f0.s_Cells.2 54 4 (fl eCellState.en f0.s.Cells) :: .obj bf0 (en_state_fold f0 g_f0) 85 :: L⟩ (fun v S' => v = ii r.1 ∧ S' = ⟨ρ,.row g_f0.s_Tenants.1 r.2.Tenants.length g_f0.s_Tenants.2 58 12 (fl eTenantState.en r.2.Tenants) :: .row g_f0.s_Cells.1 r.2.Cells.length g_f0.s_Cells.2 54 4 (fl eCellState.en r.2.Cells) :: .obj bf0 (en_state_fold ({ f0 with s := r.2 }) g_f0) 85 :: L⟩) := by
 replace h := h_in h
 refine HC.intro (N := 107) (args := [_]) tt_ok Tryz.func76 rfl (by decide +kernel) rfl (Nat.le_of_ble_eq_true rfl)<|rb<|rd<|rb<|ld 2 tt_ok (v := ii f0.e.Cell) ts_3 rfl<|rd<|rb<|rb<|rb ?_
 replace h := h_j h; obtain ⟨K6,h,hK7⟩ := h
 refine r_meet (fun fr S => ∃ (x5 : Bool),∃ fr0,K6 x5 = some r ∧ fr = updL [(0,pp bf0 0),(3,ii f0.e.Cell),(9,.bool x5)] fr0 ∧ S = ⟨ρ,.row g_f0.s_Tenants.1 f0.s.Tenants.length g_f0.s_Tenants.2 58 12 (fl eTenantState.en f0.s.Tenants) :: .row g_f0.s_Cells.1 f0.s.Cells.length g_f0.s_Cells.2 54 4 (fl eCellState.en f0.s.Cells) :: .obj bf0 (en_state_fold f0 g_f0) 85 :: L⟩) ?_ ?_
 ·replace h := h_b h; obtain ⟨x1,hx2,h⟩ := h
  refine r_ld 2 tt_ok (v := .pointer (some ((adr g_f0.s_Tenants.1).add (f0.e.Tenant.toNat * 12)))) ts_82 rfl (by rw [← fptr_at h_f0_t hx2]; kernel_rfl)<|kp [(0,pp bf0 0),(3,ii f0.e.Cell),(13,.pointer (some ((adr g_f0.s_Tenants.1).add (f0.e.Tenant.toNat * 12))))] fun fr => r_lec (E := eTenantState) tt_ok (v := .bool x1.Placed) (idx_get hx2) (rd_row 0 rfl) ts_4 rfl (pl1 _ _ _) (by kernel_rfl) ?_
  apply r_iteh h<;>clear h<;>intro h
  ·refine r_T rfl<|r_T rfl<|r_T rfl<|kp [(0,pp bf0 0),(3,ii f0.e.Cell),(18,.bool true),(22,undef)] fun fr => r_T rfl<|r_T rfl<|r_T rfl<|r_T rfl<|r_T rfl<|r_T rfl<|r_T rfl<|r_T rfl<|kp [(0,pp bf0 0),(3,ii f0.e.Cell),(27,.bool true),(31,undef)] fun fr => ?_
   exact r_T rfl<|r_T rfl<|r_T rfl<|r_T rfl<|r_T rfl<|rd ⟨true,_,h,fe _,by kernel_rfl⟩
  refine r_F rfl<|r_F rfl<|r_F rfl<|r_ld 2 tt_ok (v := .pointer (some ((adr g_f0.s_Tenants.1).add (f0.e.Tenant.toNat * 12)))) ts_82 rfl (by rw [← fptr_at h_f0_t hx2]; kernel_rfl)<|kp [(0,pp bf0 0),(3,ii f0.e.Cell),(18,.bool false),(22,.pointer (some ((adr g_f0.s_Tenants.1).add (f0.e.Tenant.toNat * 12))))] fun fr => r_F rfl<|r_F rfl<|r_F rfl<|r_lec (E := eTenantState) tt_ok (v := .bool x1.Shed) (idx_get hx2) (rd_row 0 rfl) ts_4 rfl (pl1 _ _ _) (by kernel_rfl) ?_
  apply r_iteh h<;>clear h<;>intro h
  ·exact r_T rfl<|r_T rfl<|r_T rfl<|kp [(0,pp bf0 0),(3,ii f0.e.Cell),(27,.bool true),(31,undef)] fun fr => r_T rfl<|r_T rfl<|r_T rfl<|r_T rfl<|r_T rfl<|rd ⟨true,_,h,fe _,by kernel_rfl⟩
  exact r_F rfl<|r_F rfl<|r_F rfl<|r_ld 2 tt_ok (v := .pointer (some ((adr g_f0.s_Tenants.1).add (f0.e.Tenant.toNat * 12)))) ts_82 rfl (by rw [← fptr_at h_f0_t hx2]; kernel_rfl)<|kp [(0,pp bf0 0),(3,ii f0.e.Cell),(27,.bool false),(31,.pointer (some ((adr g_f0.s_Tenants.1).add (f0.e.Tenant.toNat * 12))))] fun fr => r_F rfl<|r_F rfl<|r_F rfl<|r_lec (E := eTenantState) tt_ok (v := ii x1.Target) (idx_get hx2) (rd_row 0 rfl) ts_3 rfl (pl1 _ _ _) (by kernel_rfl)<|r_F rfl<|rd ⟨!decide (x1.Target = (-1)),_,h,fe _,by kernel_rfl⟩
 clear h
 rintro fr S ⟨x5,fr,h,rfl,rfl⟩
 replace h := hK7 _ h
 refine rd ?_
 apply r_iteh h<;>clear h<;>intro h
 ·refine rb<|rd ?_
  repeat refine rd ?_
  repeat refine rd ?_
  obtain rfl := h_out h
  exact ret_of (RV.tmp RV.nil) (Le.refl _) ⟨rfl,rfl⟩
 refine rb ?_
 replace h := h_j h; obtain ⟨K14,h,hK15⟩ := h
 refine r_meet (fun fr S => ∃ (x13 : Bool),∃ fr0,K14 x13 = some r ∧ fr = updL [(0,pp bf0 0),(3,ii f0.e.Cell),(37,.bool x13)] fr0 ∧ S = ⟨ρ,.row g_f0.s_Tenants.1 f0.s.Tenants.length g_f0.s_Tenants.2 58 12 (fl eTenantState.en f0.s.Tenants) :: .row g_f0.s_Cells.1 f0.s.Cells.length g_f0.s_Cells.2 54 4 (fl eCellState.en f0.s.Cells) :: .obj bf0 (en_state_fold f0 g_f0) 85 :: L⟩) ?_ ?_
 ·replace h := h_b h; obtain ⟨x9,hx10,h⟩ := h
  refine r_ld 2 tt_ok (v := .pointer (some ((adr g_f0.s_Tenants.1).add (f0.e.Tenant.toNat * 12)))) ts_82 rfl (by rw [← fptr_at h_f0_t hx10]; kernel_rfl)<|kp [(0,pp bf0 0),(3,ii f0.e.Cell),(38,ii f0.e.Cell),(42,.pointer (some ((adr g_f0.s_Tenants.1).add (f0.e.Tenant.toNat * 12))))] fun fr => r_lec (E := eTenantState) tt_ok (v := ii x9.Home) (idx_get hx10) (rd_row 0 rfl) ts_3 rfl (pl1 _ _ _) (by kernel_rfl) ?_
  apply r_iteh h<;>clear h<;>intro h
  ·refine r_T rfl<|r_T rfl<|r_T rfl<|kp [(0,pp bf0 0),(3,ii f0.e.Cell),(47,.bool true),(48,undef),(51,undef)] fun fr => r_T rfl<|r_T rfl<|r_T rfl<|r_T rfl<|r_T rfl<|r_T rfl<|r_T rfl<|r_T rfl<|kp [(0,pp bf0 0),(3,ii f0.e.Cell),(58,.bool true),(59,undef),(60,undef)] fun fr => ?_
   exact r_T rfl<|r_T rfl<|r_T rfl<|r_T rfl<|r_T rfl<|r_T rfl<|r_T rfl<|r_T rfl<|kr [(0,pp bf0 0),(3,ii f0.e.Cell),(37,.bool true)] fun fr => rd ⟨true,_,h,fe _,by kernel_rfl⟩
  refine r_F rfl<|r_F rfl<|r_F rfl<|kp [(0,pp bf0 0),(3,ii f0.e.Cell),(47,.bool false),(48,ii f0.e.Cell),(51,pp bf0 27)] fun fr => r_F rfl<|r_ld 2 tt_ok (v := .pointer (some ((adr g_f0.s_Tenants.1).add (f0.e.Tenant.toNat * 12)))) ts_82 rfl (by rw [← fptr_at h_f0_t hx10]; kernel_rfl)<|r_F rfl<|r_F rfl<|r_F rfl<|r_lec (E := eTenantState) tt_ok (v := ii x9.Standby) (idx_get hx10) (rd_row 0 rfl) ts_3 rfl (pl1 _ _ _) (by kernel_rfl)<|r_F rfl ?_
  apply r_iteh h<;>clear h<;>intro h
  ·exact r_T rfl<|kp [(0,pp bf0 0),(3,ii f0.e.Cell),(58,.bool true),(59,undef),(60,undef)] fun fr => r_T rfl<|r_T rfl<|r_T rfl<|r_T rfl<|r_T rfl<|r_T rfl<|r_T rfl<|r_T rfl<|kr [(0,pp bf0 0),(3,ii f0.e.Cell),(37,.bool true)] fun fr => rd ⟨true,_,h,fe _,by kernel_rfl⟩
  exact r_F rfl<|kp [(0,pp bf0 0),(3,ii f0.e.Cell),(58,.bool false),(59,ii f0.e.Cell),(60,pp bf0 0)] fun fr => r_F rfl<|r_F rfl<|r_F rfl<|r_ld 2 tt_ok (v := .pointer (some ((adr g_f0.s_Tenants.1).add (f0.e.Tenant.toNat * 12)))) ts_82 rfl (by rw [← fptr_at h_f0_t hx10]; kernel_rfl)<|r_F rfl<|r_F rfl<|r_F rfl<|r_lec (E := eTenantState) tt_ok (v := ii x9.Next) (idx_get hx10) (rd_row 0 rfl) ts_3 rfl (pl1 _ _ _) (by kernel_rfl)<|r_F rfl<|kr [(0,pp bf0 0),(3,ii f0.e.Cell),(37,.bool (decide (f0.e.Cell = x9.Next)))] fun fr => rd ⟨decide (f0.e.Cell = x9.Next),_,h,fe _,by kernel_rfl⟩
 clear h
 rintro fr S ⟨x13,fr,h,rfl,rfl⟩
 replace h := hK15 _ h
 refine rd ?_
 apply r_iteh h<;>clear h<;>intro h
 ·refine rb<|rd ?_
  repeat refine rd ?_
  repeat refine rd ?_
  obtain rfl := h_out h
  exact ret_of (RV.tmp RV.nil) (Le.refl _) ⟨rfl,rfl⟩
 refine rb ?_
 replace h := h_b h; obtain ⟨x18,hx17,h⟩ := h
 refine rc (hc_104 (bf0 := bf0) (g_f0 := g_f0) (f0 := f0) (cell1 := f0.e.Cell) (hS_f0 := by exact (le_d 0).trans hS_f0) (h_f0 :=h_f0) (h_f0_t :=h_f0_t) (h_f0_cell :=h_f0_cell) (h := hx17)) ?_
 rintro _ _ ⟨rfl,rfl⟩
 refine rd ?_
 apply r_iteh h<;>clear h<;>intro h
 ·refine rb<|rd ?_
  repeat refine rd ?_
  repeat refine rd ?_
  obtain rfl := h_out h
  exact ret_of (RV.tmp RV.nil) (Le.refl _) ⟨rfl,rfl⟩
 refine rb ?_
 replace h := h_b h; obtain ⟨x21,hx20,h⟩ := h
 refine rc (hc_105 (bf0 := bf0) (g_f0 := g_f0) (f0 := f0) (cell1 := f0.e.Cell) (hS_f0 := by exact (le_d 0).trans hS_f0) (h_f0 :=h_f0) (h_f0_t :=h_f0_t) (h_f0_cell :=h_f0_cell) (h := hx20)) ?_
 rintro _ _ ⟨rfl,rfl⟩
 refine kr [(0,pp bf0 0),(3,ii f0.e.Cell),(74,.bool x21)] fun fr => rd ?_
 apply r_iteh h<;>clear h<;>intro h
 ·refine rb<|rd ?_
  repeat refine rd ?_
  repeat refine rd ?_
  obtain rfl := h_out h
  exact ret_of (RV.tmp RV.nil) (Le.refl _) ⟨rfl,rfl⟩
 refine rb<|r_mix tt_ok hm_ok _ _ [] (.pure 0 (.pure 1 (.pure 2 (.pure 3 (.pure 4 (.vb 5 (.pure 6 (.pure 7 (.vb 8 (.pure 9 (.pure 10 (.pure 11 (.vb 12 (.pure 13 (.pure 14 (.vb 15 (.eff 16 (.eff 17 (.pure 18 (.pure 19 .nil)))))))))))))))))))) (le_w [true,true,true]) (le_w [true,true,true]) ?_ ?_
 ·decide +kernel
 refine x_p rfl<|vd<|x_p rfl<|vd<|x_p rfl<|vd<|x_p rfl<|vd<|x_p rfl<|vd<|x_vb rfl ?_
 replace h := h_b h; obtain ⟨x23,hx24,h⟩ := h
 refine v_ld 2 tt_ok (v := .pointer (some ((adr g_f0.s_Tenants.1).add (f0.e.Tenant.toNat * 12)))) ts_82 rfl (by rw [← fptr_at h_f0_t hx24]; kernel_rfl)<|vd<|x_p rfl<|vd<|x_p rfl<|vd<|x_vb rfl<|v_lec (E := eTenantState) tt_ok (v := ii x23.Standby) (idx_get hx24) (rd_row 0 rfl) ts_3 rfl (pl1 _ _ _) (by kernel_rfl)<|vd<|xp [(0,pp bf0 0),(3,ii f0.e.Cell),(79,pp bf0 0),(80,ii f0.e.Cell),(87,ii x23.Standby)] fun fr => x_p rfl<|vd<|x_p rfl ?_
 refine vd<|x_p rfl<|vd<|x_vb rfl<|v_ld 2 tt_ok (v := .pointer (some ((adr g_f0.s_Tenants.1).add (f0.e.Tenant.toNat * 12)))) ts_82 rfl (by rw [← fptr_at h_f0_t hx24]; kernel_rfl)<|vd<|x_p rfl<|vd<|x_p rfl<|vd<|x_vb rfl<|v_lec (E := eTenantState) tt_ok (v := ii x23.Next) (idx_get hx24) (rd_row 0 rfl) ts_3 rfl (pl1 _ _ _) (by kernel_rfl)<|vd ?_
 refine x_e rfl<|r_bs tt_ok (fl eI64.en [x23.Standby,x23.Next]) te_22 ti_3 (by kernel_rfl) (by kernel_rfl) (by kernel_rfl) (by kernel_rfl) fun bq25 => rd ⟨rfl,k_a (le_w [false,true,true,true]) (le_w [false,true,true,true]),?_⟩
 refine x_e rfl<|r_le ((le_mv 3).trans ((le_mv 3).trans (le_mv 3))) ?_
 replace h := h_b h; obtain ⟨x27,hx26,h⟩ := h
 refine rc (hc_106 (bf0 := bf0) (g_f0 := g_f0) (f0 := f0) (cell1 := f0.e.Cell) (A_others2 := (some ⟨bq25,0,none⟩)) (c_others2 := 2) (others2 := [x23.Standby,x23.Next]) (hS_f0 := by exact (le_d 1).trans hS_f0) (h_f0 :=h_f0) (hS_others2 := by exact Le.refl _) (h_others2 := by exact sl_row 0 rfl) (h_f0_t :=h_f0_t) (h_f0_cell :=h_f0_cell) (h := hx26)) ?_
 rintro _ _ ⟨rfl,rfl⟩
 refine rd ⟨rfl,k_a (le_w [true,true,true,false]) (le_w [true,true,true,false]),?_⟩
 refine xp [(0,pp bf0 0),(3,ii f0.e.Cell),(96,.bool x27)] fun fr => x_p rfl<|vd<|x_p rfl<|vd<|xk [(0,pp bf0 0),(3,ii f0.e.Cell),(78,.bool (!x27))] fun fr => rd ?_
 apply r_iteh h<;>clear h<;>intro h
 ·refine rb<|rd ?_
  repeat refine rd ?_
  repeat refine rd ?_
  obtain rfl := h_out h
  exact ret_of (RV.tmp RV.nil) (le_w [true,true,true,false]) ⟨rfl,rfl⟩
 refine rd<|rd<|rb<|r_ld 2 tt_ok (v := .pointer (some ((adr g_f0.s_Tenants.1).add (f0.e.Tenant.toNat * 12)))) ts_82 rfl (by rw [← fptr_at h_f0_t hx24]; kernel_rfl)<|r_sec 0 (E := eTenantState) tt_ok ({ x23 with Target := f0.e.Cell }) (idx_get hx24) (f1 ts_3) rfl rfl (pl1 _ _ _) (by kernel_rfl) (by kernel_rfl) (List.cons_ne_nil _ _) ?_
 rw [show (en_state_fold f0 g_f0) = (en_state_fold ({ f0 with s := { f0.s with Tenants := (f0.s.Tenants.set f0.e.Tenant.toNat ({ x23 with Target := f0.e.Cell })) } }) g_f0) by simp [en_state_fold]]
 rw [← @List.length_set _ f0.s.Tenants f0.e.Tenant.toNat ({ x23 with Target := f0.e.Cell })]
 refine rd<|rb ?_
 replace h := h_b h; obtain ⟨x30,hx29,h⟩ := h
 refine rc (hc_107 (bf0 := bf0) (g_f0 := g_f0) (f0 := { f0 with s := { f0.s with Tenants := (f0.s.Tenants.set f0.e.Tenant.toNat ({ x23 with Target := f0.e.Cell })) } }) (hS_f0 := by exact (le_d 1).trans hS_f0) (h_f0 :=h_f0) (h_f0_t :=h_f0_t) (h_f0_cell :=h_f0_cell) (h := hx29)) ?_
 rintro _ _ ⟨rfl,rfl⟩
 refine kp [(106,ii x30)] fun fr => rd ?_
 repeat refine rd ?_
 repeat refine rd ?_
 obtain rfl := h_out h
 exact ret_of (RV.tmp RV.nil) (le_w [true,true,true,false]) ⟨rfl,rfl⟩
theorem hc_77 {bf0 : Nat} {g_f0 : gstate_fold} {S_f0 : St} (hS_f0 : Le ⟨ρ,L⟩ S_f0) (f0 : state_fold) (h_f0 : Sl_state_fold S_f0 f0 g_f0) (h_f0_t : g_f0.t = fptr g_f0.s_Tenants.1 f0.e.Tenant 12) (h_f0_cell : g_f0.cell = fptr g_f0.s_Cells.1 f0.e.Cell 4) {r : (Int × State)} (h : state_fold_abandon f0 = some r) : HC Tryz.prog 77 #[pp bf0 0] ⟨ρ,.row g_f0.s_Tenants.1 f0.s.Tenants.length g_f0.s_Tenants.2 58 12 (fl eTenantState.en f0.s.Tenants) :: .row g_f0.s_Cells.1 f0.s.Cells.length g_f0.s_Cells.2 54 4 (fl eCellState.en f0.s.Cells) :: .obj bf0 (en_state_fold f0 g_f0) 85 :: L⟩ (fun v S' => v = ii r.1 ∧ S' = ⟨ρ,.row g_f0.s_Tenants.1 r.2.Tenants.length g_f0.s_Tenants.2 58 12 (fl eTenantState.en r.2.Tenants) :: .row g_f0.s_Cells.1 r.2.Cells.length g_f0.s_Cells.2 54 4 (fl eCellState.en r.2.Cells) :: .obj bf0 (en_state_fold ({ f0 with s := r.2 }) g_f0) 85 :: L⟩) := by
 replace h := h_in h
 refine HC.intro (N := 27) (args := [_]) tt_ok Tryz.func77 rfl (by decide +kernel) rfl (Nat.le_of_ble_eq_true rfl)<|rb<|rd<|rb<|rb ?_
 replace h := h_j h; obtain ⟨K5,h,hK6⟩ := h
 refine r_meet (fun fr S => ∃ (x4 : Bool),∃ fr0,K5 x4 = some r ∧ fr = updL [(0,pp bf0 0),(20,.bool x4)] fr0 ∧ S = ⟨ρ,.row g_f0.s_Tenants.1 f0.s.Tenants.length g_f0.s_Tenants.2 58 12 (fl eTenantState.en f0.s.Tenants) :: .row g_f0.s_Cells.1 f0.s.Cells.length g_f0.s_Cells.2 54 4 (fl eCellState.en f0.s.Cells) :: .obj bf0 (en_state_fold f0 g_f0) 85 :: L⟩) ?_ ?_
 ·replace h := h_b h; obtain ⟨x1,hx2,h⟩ := h
  refine r_ld 2 tt_ok (v := .pointer (some ((adr g_f0.s_Tenants.1).add (f0.e.Tenant.toNat * 12)))) ts_82 rfl (by rw [← fptr_at h_f0_t hx2]; kernel_rfl)<|kp [(0,pp bf0 0),(6,.pointer (some ((adr g_f0.s_Tenants.1).add (f0.e.Tenant.toNat * 12))))] fun fr => r_lec (E := eTenantState) tt_ok (v := .bool x1.Placed) (idx_get hx2) (rd_row 0 rfl) ts_4 rfl (pl1 _ _ _) (by kernel_rfl) ?_
  apply r_iteh h<;>clear h<;>intro h
  ·exact r_T rfl<|r_T rfl<|r_T rfl<|kp [(0,pp bf0 0),(11,.bool true),(15,undef)] fun fr => r_T rfl<|r_T rfl<|r_T rfl<|r_T rfl<|r_T rfl<|rd ⟨true,_,h,fe _,by kernel_rfl⟩
  exact r_F rfl<|r_F rfl<|r_F rfl<|r_ld 2 tt_ok (v := .pointer (some ((adr g_f0.s_Tenants.1).add (f0.e.Tenant.toNat * 12)))) ts_82 rfl (by rw [← fptr_at h_f0_t hx2]; kernel_rfl)<|kp [(0,pp bf0 0),(11,.bool false),(15,.pointer (some ((adr g_f0.s_Tenants.1).add (f0.e.Tenant.toNat * 12))))] fun fr => r_F rfl<|r_F rfl<|r_F rfl<|r_lec (E := eTenantState) tt_ok (v := ii x1.Target) (idx_get hx2) (rd_row 0 rfl) ts_3 rfl (pl1 _ _ _) (by kernel_rfl)<|r_F rfl<|rd ⟨decide (x1.Target = (-1)),_,h,fe _,by kernel_rfl⟩
 clear h
 rintro fr S ⟨x4,fr,h,rfl,rfl⟩
 replace h := hK6 _ h
 refine rd ?_
 apply r_iteh h<;>clear h<;>intro h
 ·refine rb<|rd ?_
  repeat refine rd ?_
  repeat refine rd ?_
  obtain rfl := h_out h
  exact ret_of (RV.tmp RV.nil) (Le.refl _) ⟨rfl,rfl⟩
 refine rd<|rb ?_
 replace h := h_b h; obtain ⟨x8,hx9,h⟩ := h
 refine r_ld 2 tt_ok (v := .pointer (some ((adr g_f0.s_Tenants.1).add (f0.e.Tenant.toNat * 12)))) ts_82 rfl (by rw [← fptr_at h_f0_t hx9]; kernel_rfl)<|r_sec 0 (E := eTenantState) tt_ok ({ x8 with Target := (-1) }) (idx_get hx9) (f1 ts_3) rfl rfl (pl1 _ _ _) (by kernel_rfl) (by kernel_rfl) (List.cons_ne_nil _ _) ?_
 rw [show (en_state_fold f0 g_f0) = (en_state_fold ({ f0 with s := { f0.s with Tenants := (f0.s.Tenants.set f0.e.Tenant.toNat ({ x8 with Target := (-1) })) } }) g_f0) by simp [en_state_fold]]
 rw [← @List.length_set _ f0.s.Tenants f0.e.Tenant.toNat ({ x8 with Target := (-1) })]
 refine rd<|rb<|rd ?_
 repeat refine rd ?_
 repeat refine rd ?_
 obtain rfl := h_out h
 exact ret_of (RV.tmp RV.nil) (Le.refl _) ⟨rfl,rfl⟩
theorem hc_109 {bf0 : Nat} {g_f0 : gstate_fold} {S_f0 : St} (hS_f0 : Le ⟨ρ,L⟩ S_f0) (f0 : state_fold) (cell1 : Int) (h_f0 : Sl_state_fold S_f0 f0 g_f0) (h_f0_t : g_f0.t = fptr g_f0.s_Tenants.1 f0.e.Tenant 12) (h_f0_cell : g_f0.cell = fptr g_f0.s_Cells.1 f0.e.Cell 4) {r : Bool} (h : state_fold_down f0 cell1 = some r) : HC Tryz.prog 109 #[pp bf0 0,ii cell1] ⟨ρ,.row g_f0.s_Tenants.1 f0.s.Tenants.length g_f0.s_Tenants.2 58 12 (fl eTenantState.en f0.s.Tenants) :: .row g_f0.s_Cells.1 f0.s.Cells.length g_f0.s_Cells.2 54 4 (fl eCellState.en f0.s.Cells) :: .obj bf0 (en_state_fold f0 g_f0) 85 :: L⟩ (fun v S' => v = .bool r ∧ S' = ⟨ρ,.row g_f0.s_Tenants.1 f0.s.Tenants.length g_f0.s_Tenants.2 58 12 (fl eTenantState.en f0.s.Tenants) :: .row g_f0.s_Cells.1 f0.s.Cells.length g_f0.s_Cells.2 54 4 (fl eCellState.en f0.s.Cells) :: .obj bf0 (en_state_fold f0 g_f0) 85 :: L⟩) := by
 replace h := h_in h
 refine HC.intro (N := 29) (args := [_,_]) tt_ok Tryz.func109 rfl (by decide +kernel) rfl (Nat.le_of_ble_eq_true rfl)<|rb<|rd<|rb ?_
 replace h := h_j h; obtain ⟨K6,h,hK7⟩ := h
 refine r_meet (fun fr S => ∃ (x5 : Bool),∃ fr0,K6 x5 = some r ∧ fr = updL [(4,.bool x5)] fr0 ∧ S = ⟨ρ,.row g_f0.s_Tenants.1 f0.s.Tenants.length g_f0.s_Tenants.2 58 12 (fl eTenantState.en f0.s.Tenants) :: .row g_f0.s_Cells.1 f0.s.Cells.length g_f0.s_Cells.2 54 4 (fl eCellState.en f0.s.Cells) :: .obj bf0 (en_state_fold f0 g_f0) 85 :: L⟩) ?_ ?_
 ·apply r_iteh h<;>clear h<;>intro h
  ·refine kp [(0,pp bf0 0),(1,ii cell1),(4,.bool false),(7,.bool true),(8,ii cell1)] fun fr => r_T rfl<|r_T rfl<|r_T rfl<|r_T rfl<|r_T rfl<|ld 2 tt_ok (v := .slice g_f0.s_Cells.1 f0.s.Cells.length g_f0.s_Cells.2) ts_36 rfl<|r_T rfl<|r_T rfl ?_
   apply r_iteh h<;>clear h<;>intro h
   ·refine kp [(1,ii cell1),(4,.bool false),(17,.bool true),(18,pp bf0 0)] fun fr => r_T rfl<|r_T rfl<|r_T rfl<|r_T rfl<|ld 2 tt_ok (v := .slice g_f0.s_Cells.1 f0.s.Cells.length g_f0.s_Cells.2) ts_36 rfl<|r_T rfl<|r_T rfl ?_
    replace h := h_b h; obtain ⟨x3,hx4,h⟩ := h
    exact r_el hx4 (rd_row 1 rfl)<|r_T rfl<|r_T rfl<|r_lec (E := eCellState) tt_ok (v := ii x3.Mode) (idx_get hx4) (rd_row 1 rfl) ts_3 rfl (pl1 _ _ _) (by kernel_rfl)<|r_T rfl<|kp [(4,.bool false),(17,.bool true),(27,.bool (decide (x3.Mode = 3)))] fun fr => rd ⟨decide (x3.Mode = 3),_,h,fe _,by kernel_rfl⟩
   exact kp [(1,ii cell1),(4,.bool false),(17,.bool false),(18,undef)] fun fr => r_F rfl<|r_F rfl<|r_F rfl<|r_F rfl<|r_F rfl<|r_F rfl<|r_F rfl<|r_F rfl<|r_F rfl<|kp [(4,.bool false),(17,.bool false),(27,undef)] fun fr => r_F rfl<|rd ⟨false,_,h,fe _,by kernel_rfl⟩
  refine kp [(0,pp bf0 0),(1,ii cell1),(4,.bool false),(7,.bool false),(8,undef)] fun fr => r_F rfl<|r_F rfl<|r_F rfl<|r_F rfl<|r_F rfl<|r_F rfl<|r_F rfl<|r_F rfl<|r_F rfl<|kp [(1,ii cell1),(4,.bool false),(17,.bool false),(18,undef)] fun fr => r_F rfl<|r_F rfl ?_
  exact r_F rfl<|r_F rfl<|r_F rfl<|r_F rfl<|r_F rfl<|r_F rfl<|r_F rfl<|kp [(4,.bool false),(17,.bool false),(27,undef)] fun fr => r_F rfl<|rd ⟨false,_,h,fe _,by kernel_rfl⟩
 clear h
 rintro fr S ⟨x5,fr,h,rfl,rfl⟩
 replace h := hK7 _ h
 refine rd ?_
 repeat refine rd ?_
 repeat refine rd ?_
 obtain rfl := h_out h
 exact ret_of (RV.tmp RV.nil) (Le.refl _) ⟨rfl,rfl⟩
end Go.Proofs.YtcdoangbkgaapaaGreatK
