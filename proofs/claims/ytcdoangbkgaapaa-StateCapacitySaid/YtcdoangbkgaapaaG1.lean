/- The code of 28 functions computes what it is to. No condition. -/
import Derived.Test.YtcdoangbkgaapaaE
set_option linter.unusedVariables false
set_option maxHeartbeats 4000000
namespace Go.Proofs.YtcdoangbkgaapaaK
open Go Go.RowKit
theorem hc_9 {ρ : Addr → Option Value} {L : List Ent} {A_l0 : Option Addr} {c_l0 : Nat} {S_l0 : St} (hS_l0 : Le ⟨ρ,L⟩ S_l0) (l0 : (List Int)) (h_l0 : Sl S_l0 A_l0 l0.length c_l0 (fl eI64.en l0))  : HC Try.prog 9 #[.slice A_l0 l0.length c_l0] ⟨ρ,L⟩ (fun v S' => v = .bool (cellplanemake_Light l0) ∧ S' = ⟨ρ,L⟩) := by
 generalize h : cellplanemake_Light l0 = r
 unfold cellplanemake_Light at h
 refine HC.intro (N := 6) (args := [_]) tt_ok Try.func9 rfl (by decide +kernel) rfl (Nat.le_of_ble_eq_true rfl) ?_
 refine r_bind ?_
 refine r_done ?_
 refine r_bind ?_
 refine r_done ?_
 repeat refine r_done ?_
 repeat refine r_done ?_
 subst h
 exact ret_of (RV.tmp RV.nil) (Le.refl _) ⟨rfl,rfl⟩
theorem hc_16 {ρ : Addr → Option Value} {L : List Ent}      : HC Try.prog 16 #[] ⟨ρ,L⟩ (fun v S' => ∃ (Aq1_0 : Option Addr),∃ (cq1_0 : Nat),∃ (Aq1_1 : Option Addr),∃ (cq1_1 : Nat),∃ (Aq1_2 : Option Addr),∃ (cq1_2 : Nat),∃ (Aq1_3 : Option Addr),∃ (cq1_3 : Nat),∃ (Aq1_4 : Option Addr),∃ (cq1_4 : Nat),∃ (Aq1_5 : Option Addr),∃ (cq1_5 : Nat),v = .agg (en_Config cellplanelaw12_two (⟨(Aq1_0,cq1_0),(Aq1_1,cq1_1),(Aq1_2,cq1_2),(Aq1_3,cq1_3),(Aq1_4,cq1_4),(Aq1_5,cq1_5)⟩)).toArray ∧ S' = ⟨ρ,.row Aq1_0 cellplanelaw12_two.Zones.length cq1_0 58 1 (fl eZone.en cellplanelaw12_two.Zones) :: .row Aq1_1 cellplanelaw12_two.Cells.length cq1_1 60 2 (fl eCell.en cellplanelaw12_two.Cells) :: .row Aq1_2 cellplanelaw12_two.Tenants.length cq1_2 63 7 (fl eTenant.en cellplanelaw12_two.Tenants) :: .row Aq1_3 cellplanelaw12_two.Versions.length cq1_3 65 2 (fl eVersion.en cellplanelaw12_two.Versions) :: .row Aq1_4 cellplanelaw12_two.Replicas.length cq1_4 3 1 (fl eI64.en cellplanelaw12_two.Replicas) :: .row Aq1_5 cellplanelaw12_two.Observers.length cq1_5 3 1 (fl eI64.en cellplanelaw12_two.Observers) :: L⟩) := by
 generalize h : cellplanelaw12_two = r
 unfold cellplanelaw12_two at h
 refine HC.intro (N := 14) (args := []) tt_ok Try.func16 rfl (by decide +kernel) rfl (Nat.le_of_ble_eq_true rfl) ?_
 refine r_bind ?_
 refine r_al tt_ok (en_Config (⟨0,[],[],[],[],[],[],0,0,0⟩ : Config) (⟨(none,0),(none,0),(none,0),(none,0),(none,0),(none,0)⟩)) ti_30 (by kernel_rfl) fun bq1 => ?_
 refine r_done ?_
 refine r_bind ?_
 refine r_bd tt_ok (en_Zone (⟨0⟩ : Zone)) ti_58 tp_58 (by kernel_rfl) ?_
 refine r_bd tt_ok (en_Zone (⟨1⟩ : Zone)) ti_58 tp_58 (by kernel_rfl) ?_
 refine r_bs tt_ok (fl eZone.en [(⟨0⟩ : Zone),(⟨1⟩ : Zone)]) te_25 ti_58 (by kernel_rfl) (by kernel_rfl) (by kernel_rfl) (by kernel_rfl) fun bq2 => ?_
 refine r_bd tt_ok (en_Cell (⟨0,9⟩ : Cell)) ti_60 tp_60 (by kernel_rfl) ?_
 refine r_bd tt_ok (en_Cell (⟨1,9⟩ : Cell)) ti_60 tp_60 (by kernel_rfl) ?_
 refine r_bs tt_ok (fl eCell.en [(⟨0,9⟩ : Cell),(⟨1,9⟩ : Cell)]) te_26 ti_60 (by kernel_rfl) (by kernel_rfl) (by kernel_rfl) (by kernel_rfl) fun bq3 => ?_
 refine r_bd tt_ok (en_Tenant (⟨5,2,0,0,3,0,false⟩ : Tenant)) ti_63 tp_63 (by kernel_rfl) ?_
 refine r_bs tt_ok (fl eTenant.en [(⟨5,2,0,0,3,0,false⟩ : Tenant)]) te_27 ti_63 (by kernel_rfl) (by kernel_rfl) (by kernel_rfl) (by kernel_rfl) fun bq4 => ?_
 refine r_kp [(0,.pointer (some ⟨bq1,0,none⟩)),(3,.slice (some ⟨bq2,0,none⟩) [(⟨0⟩ : Zone),(⟨1⟩ : Zone)].length 2),(6,.slice (some ⟨bq3,0,none⟩) [(⟨0,9⟩ : Cell),(⟨1,9⟩ : Cell)].length 2),(8,.slice (some ⟨bq4,0,none⟩) [(⟨5,2,0,0,3,0,false⟩ : Tenant)].length 1)] (by kernel_rfl) fun fr => ?_
 refine r_bd tt_ok (en_Version (⟨0,0⟩ : Version)) ti_65 tp_65 (by kernel_rfl) ?_
 refine r_bs tt_ok (fl eVersion.en [(⟨0,0⟩ : Version)]) te_28 ti_65 (by kernel_rfl) (by kernel_rfl) (by kernel_rfl) (by kernel_rfl) fun bq5 => ?_
 refine r_bs tt_ok (fl eI64.en [0]) te_22 ti_3 (by kernel_rfl) (by kernel_rfl) (by kernel_rfl) (by kernel_rfl) fun bq6 => ?_
 refine r_bs tt_ok (fl eI64.en [0]) te_22 ti_3 (by kernel_rfl) (by kernel_rfl) (by kernel_rfl) (by kernel_rfl) fun bq7 => ?_
 refine r_bd tt_ok (en_Config (⟨2,[(⟨0⟩ : Zone),(⟨1⟩ : Zone)],[(⟨0,9⟩ : Cell),(⟨1,9⟩ : Cell)],[(⟨5,2,0,0,3,0,false⟩ : Tenant)],[(⟨0,0⟩ : Version)],[0],[0],1,20,0⟩ : Config) (⟨((some ⟨bq2,0,none⟩),2),((some ⟨bq3,0,none⟩),2),((some ⟨bq4,0,none⟩),1),((some ⟨bq5,0,none⟩),1),((some ⟨bq6,0,none⟩),1),((some ⟨bq7,0,none⟩),1)⟩)) ti_30 tp_30 (by kernel_rfl) ?_
 refine r_s 6 tt_ok (en_Config (⟨2,[(⟨0⟩ : Zone),(⟨1⟩ : Zone)],[(⟨0,9⟩ : Cell),(⟨1,9⟩ : Cell)],[(⟨5,2,0,0,3,0,false⟩ : Tenant)],[(⟨0,0⟩ : Version)],[0],[0],1,20,0⟩ : Config) (⟨((some ⟨bq2,0,none⟩),2),((some ⟨bq3,0,none⟩),2),((some ⟨bq4,0,none⟩),1),((some ⟨bq5,0,none⟩),1),((some ⟨bq6,0,none⟩),1),((some ⟨bq7,0,none⟩),1)⟩)) (fitn ta_30 (by kernel_rfl)) rfl (by kernel_rfl) (by kernel_rfl) ?_
 refine r_done ?_
 repeat refine r_done ?_
 repeat refine r_done ?_
 subst h
 exact ret_of (rv_cell 6 tt_ok (by kernel_rfl) ta_30 rfl rfl RV.nil) ((le_mv 1).trans ((le_mv 2).trans ((le_mv 3).trans ((le_mv 4).trans ((le_mv 5).trans (le_w [true,true,true,true,true,true,false])))))) ⟨(some ⟨bq2,0,none⟩),2,(some ⟨bq3,0,none⟩),2,(some ⟨bq4,0,none⟩),1,(some ⟨bq5,0,none⟩),1,(some ⟨bq6,0,none⟩),1,(some ⟨bq7,0,none⟩),1,rfl,rfl⟩
theorem hc_13 {ρ : Addr → Option Value} {L : List Ent} {g_c0 : gConfig} {S_c0 : St} (hS_c0 : Le ⟨ρ,L⟩ S_c0) (c0 : Config) (h_c0 : Sl_Config S_c0 c0 g_c0) {r : State} (h : state_New c0 = some r) : HC Try.prog 13 #[.agg (en_Config c0 g_c0).toArray] ⟨ρ,L⟩ (fun v S' => ∃ (Aq1_0 : Option Addr),∃ (cq1_0 : Nat),∃ (Aq1_1 : Option Addr),∃ (cq1_1 : Nat),v = .agg (en_State r (⟨(Aq1_0,cq1_0),(Aq1_1,cq1_1)⟩)).toArray ∧ S' = ⟨ρ,.row Aq1_0 r.Tenants.length cq1_0 50 12 (fl eTenantState.en r.Tenants) :: .row Aq1_1 r.Cells.length cq1_1 67 4 (fl eCellState.en r.Cells) :: L⟩) := by
 replace h := h_in h
 refine HC.intro (N := 31) (args := [_]) tt_ok Try.func13 rfl (by decide +kernel) rfl (Nat.le_of_ble_eq_true rfl) ?_
 refine r_bind ?_
 refine r_bx (en_Config c0 g_c0) (by kernel_rfl) fun bq1 => ?_
 refine r_al tt_ok (en_State (⟨0,0,[],[],0,0,0,0⟩ : State) (⟨(none,0),(none,0)⟩)) ti_36 (by kernel_rfl) fun bq2 => ?_
 refine r_done ?_
 refine r_bind ?_
 refine r_bd tt_ok (en_State (⟨0,0,[],[],1,0,0,0⟩ : State) (⟨(none,0),(none,0)⟩)) ti_36 tp_36 (by kernel_rfl) ?_
 refine r_al tt_ok (en_State (⟨0,0,[],[],0,0,0,0⟩ : State) (⟨(none,0),(none,0)⟩)) ti_36 (by kernel_rfl) fun bq3 => ?_
 refine r_s 0 tt_ok (en_State (⟨0,0,[],[],1,0,0,0⟩ : State) (⟨(none,0),(none,0)⟩)) (fitn ta_36 (by kernel_rfl)) rfl (by kernel_rfl) (by kernel_rfl) ?_
 refine r_done ?_
 refine r_bind ?_
 replace h := h_j h; obtain ⟨K49,h,hK50⟩ := h
 refine r_meet (fun fr S => ∃ (xs45 : (List TenantState)),∃ (A46 : Option Addr),∃ (c47 : Nat),∃ fr0,K49 xs45 = some r ∧ fr = updL [(1,.pointer (some ⟨bq1,0,none⟩)),(2,.pointer (some ⟨bq2,0,none⟩)),(3,.pointer (some ⟨bq3,0,none⟩))] fr0 ∧ S = ⟨ρ,.row A46 xs45.length c47 50 12 (fl eTenantState.en xs45) :: .obj bq3 (en_State (⟨0,0,xs45,[],1,0,0,0⟩ : State) (⟨(A46,c47),(none,0)⟩)) 36 :: .obj bq2 (en_State (⟨0,0,[],[],0,0,0,0⟩ : State) (⟨(none,0),(none,0)⟩)) 36 :: .obj bq1 (en_Config c0 g_c0) 30 :: L⟩) ?_ ?_
 ·refine r_bind ?_
  refine r_ld 2 tt_ok (v := .slice g_c0.Tenants.1 c0.Tenants.length g_c0.Tenants.2) ts_27 rfl (by kernel_rfl) ?_
  refine r_done ?_
  refine r_bind ?_
  replace h := h_l h; obtain ⟨K41,n42,h,hK43⟩ := h
  refine r_le (le_nil 50 12) ?_
  refine r_loop (fun n fr S => ∃ (x29 : Int),∃ (xs30 : (List TenantState)),∃ (A31 : Option Addr),∃ (c32 : Nat),∃ fr0,(runN (state_New.b2 c0) n (x29,xs30)).bind K41 = some r ∧ fr = updL [(1,.pointer (some ⟨bq1,0,none⟩)),(2,.pointer (some ⟨bq2,0,none⟩)),(3,.pointer (some ⟨bq3,0,none⟩)),(7,.int .i64 (c0.Tenants.length : Int)),(8,.int .i64 x29)] fr0 ∧ S = ⟨ρ,.row A31 xs30.length c32 50 12 (fl eTenantState.en xs30) :: .obj bq3 (en_State (⟨0,0,xs30,[],1,0,0,0⟩ : State) (⟨(A31,c32),(none,0)⟩)) 36 :: .obj bq2 (en_State (⟨0,0,[],[],0,0,0,0⟩ : State) (⟨(none,0),(none,0)⟩)) 36 :: .obj bq1 (en_Config c0 g_c0) 30 :: L⟩) n42 ⟨0,[],none,0,_,h,fr_eq _ (by kernel_rfl),(by kernel_rfl)⟩ ?_
  clear h
  rintro n42 fr S ⟨x29,xs30,A31,c32,fr,h,rfl,rfl⟩
  replace h := h_r h; obtain ⟨m44,hm44,h⟩ := h
  refine r_bind ?_
  refine r_done ?_
  refine r_bind ?_
  refine r_ite (fun hb34 => ?_) (fun hb34 => ?_)
  ·replace h := h_t h hb34
   clear hb34
   refine r_done ?_
   refine r_bind ?_
   refine r_bind ?_
   refine r_ld 1 tt_ok (v := .slice A31 xs30.length c32) ts_33 rfl (by kernel_rfl) ?_
   refine r_bd tt_ok (en_Window (⟨(-1),0,0,0,0⟩ : Window)) ti_48 tp_48 (by kernel_rfl) ?_
   refine r_bd tt_ok (en_TenantState (⟨false,false,(-1),(-1),(-1),(-1),0,(⟨(-1),0,0,0,0⟩ : Window)⟩ : TenantState)) ti_50 tp_50 (by kernel_rfl) ?_
   refine r_bs tt_ok (fl eTenantState.en [(⟨false,false,(-1),(-1),(-1),(-1),0,(⟨(-1),0,0,0,0⟩ : Window)⟩ : TenantState)]) te_33 ti_50 (by kernel_rfl) (by kernel_rfl) (by kernel_rfl) (by kernel_rfl) fun bq35 => ?_
   replace h := h_b h; obtain ⟨xs36,ha37,h⟩ := h
   refine r_app 1 (E := eTenantState) (xs := xs30) (ys := [(⟨false,false,(-1),(-1),(-1),(-1),0,(⟨(-1),0,0,0,0⟩ : Window)⟩ : TenantState)]) tt_ok ha37 (rd_row 0 rfl) rfl te_33 ti_50 rfl (by kernel_rfl) rfl (fun A38 c39 => ?_)
   refine r_s 2 tt_ok (en_State (⟨0,0,xs36,[],1,0,0,0⟩ : State) (⟨(A38,c39),(none,0)⟩)) (fit1 ts_33 (by kernel_rfl)) rfl (by kernel_rfl) (by kernel_rfl) ?_
   refine r_keep [(1,.pointer (some ⟨bq1,0,none⟩)),(2,.pointer (some ⟨bq2,0,none⟩)),(3,.pointer (some ⟨bq3,0,none⟩)),(7,.int .i64 (c0.Tenants.length : Int)),(8,.int .i64 x29)] (by kernel_rfl) fun fr => ?_
   refine r_done ?_
   refine r_done ?_
   refine r_num (e' := w64 (x29 + 1)) rfl ?_
   refine r_le (le_w [false,true,true,true,true]) ?_
   exact r_done ⟨m44,lt_s hm44,w64 (x29 + 1),xs36,A38,c39,_,h,fr_eq _ (by kernel_rfl),(by kernel_rfl)⟩
  ·replace h := h_f h hb34
   clear hb34
   refine r_done ?_
   refine r_done ?_
   replace h := h_m h
   subst hK43
   exact r_done ⟨xs30,A31,c32,_,h,fr_eq _ (by kernel_rfl),(by kernel_rfl)⟩
 clear h
 rintro fr S ⟨xs45,A46,c47,fr,h,rfl,rfl⟩
 replace h := hK50 _ h
 refine r_done ?_
 refine r_bind ?_
 refine r_bind ?_
 refine r_ld 3 tt_ok (v := .slice g_c0.Cells.1 c0.Cells.length g_c0.Cells.2) ts_26 rfl (by kernel_rfl) ?_
 refine r_done ?_
 refine r_bind ?_
 replace h := h_l h; obtain ⟨K88,n89,h,hK90⟩ := h
 refine r_le ((le_nil 67 4).trans (le_w [true,true,true,true,false])) ?_
 refine r_loop (fun n fr S => ∃ (x76 : Int),∃ (xs77 : (List CellState)),∃ (A78 : Option Addr),∃ (c79 : Nat),∃ fr0,(runN (state_New.b3 c0 xs45) n (x76,xs77)).bind K88 = some r ∧ fr = updL [(2,.pointer (some ⟨bq2,0,none⟩)),(3,.pointer (some ⟨bq3,0,none⟩)),(20,.int .i64 (c0.Cells.length : Int)),(21,.int .i64 x76)] fr0 ∧ S = ⟨ρ,.row A78 xs77.length c79 67 4 (fl eCellState.en xs77) :: .row A46 xs45.length c47 50 12 (fl eTenantState.en xs45) :: .obj bq3 (en_State (⟨0,0,xs45,xs77,1,0,0,0⟩ : State) (⟨(A46,c47),(A78,c79)⟩)) 36 :: .obj bq2 (en_State (⟨0,0,[],[],0,0,0,0⟩ : State) (⟨(none,0),(none,0)⟩)) 36 :: L⟩) n89 ⟨0,[],none,0,_,h,fr_eq _ (by kernel_rfl),(by kernel_rfl)⟩ ?_
 clear h
 rintro n89 fr S ⟨x76,xs77,A78,c79,fr,h,rfl,rfl⟩
 replace h := h_r h; obtain ⟨m91,hm91,h⟩ := h
 refine r_bind ?_
 refine r_done ?_
 refine r_bind ?_
 refine r_ite (fun hb81 => ?_) (fun hb81 => ?_)
 ·replace h := h_t h hb81
  clear hb81
  refine r_done ?_
  refine r_bind ?_
  refine r_bind ?_
  refine r_ld 2 tt_ok (v := .slice A78 xs77.length c79) ts_34 rfl (by kernel_rfl) ?_
  refine r_bd tt_ok (en_CellState (⟨1,0,0,0⟩ : CellState)) ti_67 tp_67 (by kernel_rfl) ?_
  refine r_bs tt_ok (fl eCellState.en [(⟨1,0,0,0⟩ : CellState)]) te_34 ti_67 (by kernel_rfl) (by kernel_rfl) (by kernel_rfl) (by kernel_rfl) fun bq82 => ?_
  replace h := h_b h; obtain ⟨xs83,ha84,h⟩ := h
  refine r_app 1 (E := eCellState) (xs := xs77) (ys := [(⟨1,0,0,0⟩ : CellState)]) tt_ok ha84 (rd_row 0 rfl) rfl te_34 ti_67 rfl (by kernel_rfl) rfl (fun A85 c86 => ?_)
  refine r_s 3 tt_ok (en_State (⟨0,0,xs45,xs83,1,0,0,0⟩ : State) (⟨(A46,c47),(A85,c86)⟩)) (fit1 ts_34 (by kernel_rfl)) rfl (by kernel_rfl) (by kernel_rfl) ?_
  refine r_done ?_
  refine r_done ?_
  refine r_num (e' := w64 (x76 + 1)) rfl ?_
  refine r_kp [(2,.pointer (some ⟨bq2,0,none⟩)),(3,.pointer (some ⟨bq3,0,none⟩)),(20,.int .i64 (c0.Cells.length : Int)),(21,.int .i64 x76),(29,.int .i64 (w64 (x76 + 1)))] (by kernel_rfl) fun fr => ?_
  refine r_le (le_w [false,true,true,true,true]) ?_
  exact r_done ⟨m91,lt_s hm91,w64 (x76 + 1),xs83,A85,c86,_,h,fr_eq _ (by kernel_rfl),(by kernel_rfl)⟩
 ·replace h := h_f h hb81
  clear hb81
  refine r_done ?_
  refine r_done ?_
  replace h := h_m h
  subst hK90
  refine r_done ?_
  refine r_bind ?_
  refine r_ldn 2 tt_ok (en_State (⟨0,0,xs45,xs77,1,0,0,0⟩ : State) (⟨(A46,c47),(A78,c79)⟩)) ta_36 rfl (by kernel_rfl) (by kernel_rfl) ?_
  refine r_s 3 tt_ok (en_State (⟨0,0,xs45,xs77,1,0,0,0⟩ : State) (⟨(A46,c47),(A78,c79)⟩)) (fitn ta_36 (by kernel_rfl)) rfl (by kernel_rfl) (by kernel_rfl) ?_
  refine r_done ?_
  repeat refine r_done ?_
  repeat refine r_done ?_
  obtain rfl := h_out h
  exact ret_of (rv_cell 3 tt_ok (by kernel_rfl) ta_36 rfl rfl RV.nil) ((le_mv 1).trans (le_w [true,true,false,false])) ⟨A46,c47,A78,c79,rfl,rfl⟩
theorem hc_65 {ρ : Addr → Option Value} {L : List Ent}   (n0 : Int) (low1 : Int) (high2 : Int)   : HC Try.prog 65 #[.int .i64 n0,.int .i64 low1,.int .i64 high2] ⟨ρ,L⟩ (fun v S' => v = .bool (entry_between n0 low1 high2) ∧ S' = ⟨ρ,L⟩) := by
 generalize h : entry_between n0 low1 high2 = r
 unfold entry_between at h
 refine HC.intro (N := 15) (args := [_,_,_]) tt_ok Try.func65 rfl (by decide +kernel) rfl (Nat.le_of_ble_eq_true rfl) ?_
 refine r_bind ?_
 refine r_done ?_
 refine r_bind ?_
 refine r_meet (fun fr S => ∃ fr0,fr = updL [(6,.bool ((decide (low1 ≤ n0)) && (decide (n0 ≤ high2))))] fr0 ∧ S = ⟨ρ,L⟩) ?_ ?_
 ·refine r_ite (fun (hb1 : (decide (low1 ≤ n0)) = true) => ?_) (fun (hb1 : (decide (low1 ≤ n0)) = false) => ?_)
  ·refine r_kp [(2,.int .i64 high2),(6,.bool false),(10,.bool true),(11,.int .i64 n0)] (by kernel_rfl) fun fr => ?_
   refine r_T rfl ?_
   refine r_T rfl ?_
   exact r_done ⟨_,fr_eq _ (by (try rw [hb1]); kernel_rfl),(by kernel_rfl)⟩
  ·refine r_kp [(2,.int .i64 high2),(6,.bool false),(10,.bool false),(11,undef)] (by kernel_rfl) fun fr => ?_
   refine r_F rfl ?_
   refine r_F rfl ?_
   refine r_F rfl ?_
   exact r_done ⟨_,fr_eq _ (by (try rw [hb1]); kernel_rfl),(by kernel_rfl)⟩
 rintro fr S ⟨fr,rfl,rfl⟩
 refine r_done ?_
 repeat refine r_done ?_
 repeat refine r_done ?_
 subst h
 exact ret_of (RV.tmp RV.nil) (Le.refl _) ⟨rfl,rfl⟩
theorem hc_67 {ρ : Addr → Option Value} {L : List Ent}   (n0 : Int) (size1 : Int)   : HC Try.prog 67 #[.int .i64 n0,.int .i64 size1] ⟨ρ,L⟩ (fun v S' => v = .bool (entry_index n0 size1) ∧ S' = ⟨ρ,L⟩) := by
 generalize h : entry_index n0 size1 = r
 unfold entry_index at h
 refine HC.intro (N := 12) (args := [_,_]) tt_ok Try.func67 rfl (by decide +kernel) rfl (Nat.le_of_ble_eq_true rfl) ?_
 refine r_bind ?_
 refine r_done ?_
 refine r_bind ?_
 refine r_meet (fun fr S => ∃ fr0,fr = updL [(4,.bool ((decide (0 ≤ n0)) && (decide (n0 < size1))))] fr0 ∧ S = ⟨ρ,L⟩) ?_ ?_
 ·refine r_ite (fun (hb1 : (decide (0 ≤ n0)) = true) => ?_) (fun (hb1 : (decide (0 ≤ n0)) = false) => ?_)
  ·refine r_kp [(1,.int .i64 size1),(4,.bool false),(7,.bool true),(8,.int .i64 n0)] (by kernel_rfl) fun fr => ?_
   refine r_T rfl ?_
   refine r_T rfl ?_
   exact r_done ⟨_,fr_eq _ (by (try rw [hb1]); kernel_rfl),(by kernel_rfl)⟩
  ·refine r_kp [(1,.int .i64 size1),(4,.bool false),(7,.bool false),(8,undef)] (by kernel_rfl) fun fr => ?_
   refine r_F rfl ?_
   refine r_F rfl ?_
   refine r_F rfl ?_
   exact r_done ⟨_,fr_eq _ (by (try rw [hb1]); kernel_rfl),(by kernel_rfl)⟩
 rintro fr S ⟨fr,rfl,rfl⟩
 refine r_done ?_
 repeat refine r_done ?_
 repeat refine r_done ?_
 subst h
 exact ret_of (RV.tmp RV.nil) (Le.refl _) ⟨rfl,rfl⟩
theorem hc_43 {ρ : Addr → Option Value} {L : List Ent}   (e0 : Entry) (z1 : entry_sizes)  {r : Bool} (h : entry_fits e0 z1 = some r) : HC Try.prog 43 #[.agg (en_Entry e0).toArray,.agg (en_entry_sizes z1).toArray] ⟨ρ,L⟩ (fun v S' => v = .bool r ∧ S' = ⟨ρ,L⟩) := by
 replace h := h_in h
 refine HC.intro (N := 179) (args := [_,_]) tt_ok Try.func43 rfl (by decide +kernel) rfl (Nat.le_of_ble_eq_true rfl) ?_
 refine r_bind ?_
 refine r_bx (en_Entry e0) (by kernel_rfl) fun bq1 => ?_
 refine r_bx (en_entry_sizes z1) (by kernel_rfl) fun bq2 => ?_
 refine r_done ?_
 refine r_bind ?_
 refine r_ld 1 tt_ok (v := .int .i64 e0.Kind) ts_3 rfl (by kernel_rfl) ?_
 refine r_ld 1 tt_ok (v := .int .i64 e0.Tick) ts_3 rfl (by kernel_rfl) ?_
 refine r_bd tt_ok (en_Entry (⟨e0.Kind,e0.Tick,(-1),(-1),(-1),0,0,0,0⟩ : Entry)) ti_45 tp_45 (by kernel_rfl) ?_
 refine r_al tt_ok (en_Entry (⟨0,0,0,0,0,0,0,0,0⟩ : Entry)) ti_45 (by kernel_rfl) fun bq3 => ?_
 refine r_kp [(2,.pointer (some ⟨bq1,0,none⟩)),(3,.pointer (some ⟨bq2,0,none⟩)),(5,.pointer (some ⟨bq3,0,none⟩)),(15,.agg (en_Entry (⟨e0.Kind,e0.Tick,(-1),(-1),(-1),0,0,0,0⟩ : Entry)).toArray)] (by kernel_rfl) fun fr => ?_
 refine r_s 0 tt_ok (en_Entry (⟨e0.Kind,e0.Tick,(-1),(-1),(-1),0,0,0,0⟩ : Entry)) (fitn ta_45 (by kernel_rfl)) rfl (by kernel_rfl) (by kernel_rfl) ?_
 refine r_done ?_
 refine r_bind ?_
 refine r_bind ?_
 refine r_ld 2 tt_ok (v := .int .i64 e0.Tick) ts_3 rfl (by kernel_rfl) ?_
 refine r_call (hc_65 (n0 := e0.Tick) (low1 := 0) (high2 := 1073741824)) ?_
 rintro _ _ ⟨rfl,rfl⟩
 refine r_done ?_
 refine r_ite (fun hb4 => ?_) (fun hb4 => ?_)
 ·replace h := h_t h hb4
  clear hb4
  refine r_bind ?_
  refine r_done ?_
  repeat refine r_done ?_
  repeat refine r_done ?_
  obtain rfl := h_out h
  exact ret_of (RV.tmp RV.nil) (le_w [false,false,false]) ⟨rfl,rfl⟩
 ·replace h := h_f h hb4
  clear hb4
  refine r_done ?_
  refine r_bind ?_
  refine r_al tt_ok ([.bool false]) ti_4 (by kernel_rfl) fun bq5 => ?_
  refine r_s 0 tt_ok ([.bool true]) (fit1 ts_4 (by kernel_rfl)) rfl (by kernel_rfl) (by kernel_rfl) ?_
  refine r_done ?_
  refine r_bind ?_
  refine r_keep [(2,.pointer (some ⟨bq1,0,none⟩)),(3,.pointer (some ⟨bq2,0,none⟩)),(5,.pointer (some ⟨bq3,0,none⟩)),(6,.pointer (some ⟨bq5,0,none⟩)),(7,.func (.func 66) #[] #[.pointer (some ⟨bq1,0,none⟩),.pointer (some ⟨bq5,0,none⟩),.pointer (some ⟨bq2,0,none⟩),.pointer (some ⟨bq3,0,none⟩)])] (by kernel_rfl) fun fr => ?_
  refine r_done ?_
  refine r_bind ?_
  refine r_done ?_
  refine r_bind ?_
  refine r_done ?_
  refine r_bind ?_
  refine r_done ?_
  refine r_bind ?_
  replace h := h_k h; obtain ⟨K89,h,hK90⟩ := h
  refine r_meet (fun fr S => ∃ (y87 : Entry),∃ (y88 : Bool),∃ fr0,(entry_fits.j1 e0 y87 y88).bind K89 = some r ∧ fr = updL [(2,.pointer (some ⟨bq1,0,none⟩)),(5,.pointer (some ⟨bq3,0,none⟩)),(6,.pointer (some ⟨bq5,0,none⟩))] fr0 ∧ S = ⟨ρ,.obj bq5 ([.bool y88]) 4 :: .obj bq3 (en_Entry y87) 45 :: .obj bq1 (en_Entry e0) 45 :: L⟩) ?_ ?_
  ·refine r_bind ?_
   refine r_ld 3 tt_ok (v := .int .i64 e0.Kind) ts_3 rfl (by kernel_rfl) ?_
   refine r_done ?_
   refine r_bind ?_
   refine r_bind ?_
   refine r_done ?_
   refine r_ite (fun hb6 => ?_) (fun hb6 => ?_)
   ·replace h := h_t h hb6
    clear hb6
    refine r_bind ?_
    refine r_inl (HC.intro (N := 15) (args := [_,_,_,_]) tt_ok Try.func66 rfl (by decide +kernel) rfl (Nat.le_of_ble_eq_true rfl) ?_)
    refine r_mix tt_ok hm_ok _ _ [12] (.pure 0 (.vb 1 (.va 2 (.pure 3 (.pure 4 (.vb 5 (.pure 6 (.vb 7 (.pure 10 (.eff 8 (.pure 9 (.eff 11 (.eff 12 .nil))))))))))))) (le_w [true,false,true,true]) (le_w [false,false,true,true]) ?_ ?_
    ·decide +kernel
    refine x_p rfl ?_
    refine v_done ?_
    refine x_vb rfl ?_
    refine v_ld 1 tt_ok (v := .int .i64 e0.Tenant) ts_3 rfl (by kernel_rfl) ?_
    refine v_done ?_
    refine x_va rfl ?_
    refine v_ld 0 tt_ok (v := .bool true) ts_4 rfl (by kernel_rfl) ?_
    refine v_done ?_
    refine x_p rfl ?_
    refine v_done ?_
    refine x_p rfl ?_
    refine v_T rfl ?_
    refine v_done ?_
    refine x_vb rfl ?_
    refine v_T rfl ?_
    refine v_ld 1 tt_ok (v := .int .i64 e0.Tenant) ts_3 rfl (by kernel_rfl) ?_
    refine v_done ?_
    refine x_p rfl ?_
    refine v_T rfl ?_
    refine v_done ?_
    refine x_vb rfl ?_
    refine v_T rfl ?_
    refine v_ld 0 tt_ok (v := .int .i64 z1.tenants) ts_3 rfl (by kernel_rfl) ?_
    refine v_done ?_
    refine x_p rfl ?_
    refine v_done ?_
    refine x_kp [(1,.pointer (some ⟨bq5,0,none⟩)),(5,.int .i64 e0.Tenant),(7,.bool true),(9,.int .i64 e0.Tenant),(11,.int .i64 z1.tenants),(14,.pointer (some ⟨bq3,2,none⟩))] (by kernel_rfl) fun fr => ?_
    refine x_e rfl ?_
    refine r_T rfl ?_
    refine r_call (hc_67 (n0 := e0.Tenant) (size1 := z1.tenants)) ?_
    rintro _ _ ⟨rfl,rfl⟩
    refine r_done ⟨rfl,k_a (le_w [true,false,true,true]) (le_w [false,false,true,true]),?_⟩
    refine x_p rfl ?_
    refine v_done ?_
    refine x_e rfl ?_
    refine r_s 1 tt_ok (en_Entry (⟨e0.Kind,e0.Tick,e0.Tenant,(-1),(-1),0,0,0,0⟩ : Entry)) (fit1 ts_3 (by kernel_rfl)) rfl (by kernel_rfl) (by kernel_rfl) ?_
    refine r_done ⟨rfl,k_a (le_w [true,false,true,true]) (le_w [false,false,true,true]),?_⟩
    refine x_e rfl ?_
    refine r_s 0 tt_ok ([.bool (entry_index e0.Tenant z1.tenants)]) (fit1 ts_4 (by kernel_rfl)) rfl (by kernel_rfl) (by kernel_rfl) ?_
    refine r_done ⟨rfl,k_b rfl (le_w [false,false,true,true]),?_⟩
    refine x_k [] (by kernel_rfl) fun fr => ?_
    repeat refine r_done ?_
    refine ret_of RV.nil (Le.refl _) ?_
    refine r_done ?_
    refine r_bind ?_
    refine r_inl (HC.intro (N := 15) (args := [_,_,_,_]) tt_ok Try.func68 rfl (by decide +kernel) rfl (Nat.le_of_ble_eq_true rfl) ?_)
    replace h := h_j h; obtain ⟨K9,h,hK10⟩ := h
    refine r_meet (fun fr S => ∃ (y8 : Bool),∃ fr0,K9 y8 = some r ∧ fr = updL [] fr0 ∧ S = ⟨ρ,.obj bq5 ([.bool y8]) 4 :: .obj bq3 (en_Entry (⟨e0.Kind,e0.Tick,e0.Tenant,e0.Cell,(-1),0,0,0,0⟩ : Entry)) 45 :: .obj bq2 (en_entry_sizes z1) 93 :: .obj bq1 (en_Entry e0) 45 :: L⟩) ?_ ?_
    refine r_mix tt_ok hm_ok _ _ [12] (.pure 0 (.vb 1 (.va 2 (.pure 3 (.pure 4 (.vb 5 (.pure 6 (.vb 7 (.pure 10 (.eff 8 (.pure 9 (.eff 11 (.eff 12 .nil))))))))))))) (le_w [true,false,true,true]) (le_w [false,false,true,true]) ?_ ?_
    ·decide +kernel
    refine x_p rfl ?_
    refine v_done ?_
    refine x_vb rfl ?_
    refine v_ld 1 tt_ok (v := .int .i64 e0.Cell) ts_3 rfl (by kernel_rfl) ?_
    refine v_done ?_
    refine x_va rfl ?_
    refine v_ld 0 tt_ok (v := .bool (entry_index e0.Tenant z1.tenants)) ts_4 rfl (by kernel_rfl) ?_
    refine v_done ?_
    refine x_p rfl ?_
    refine v_done ?_
    refine x_p rfl ?_
    refine v_ite (fun (hb7 : (entry_index e0.Tenant z1.tenants) = true) => ?_) (fun (hb7 : (entry_index e0.Tenant z1.tenants) = false) => ?_)
    ·replace h := h_t h hb7
     clear hb7
     refine v_done ?_
     refine x_vb rfl ?_
     refine v_T rfl ?_
     refine v_ld 1 tt_ok (v := .int .i64 e0.Cell) ts_3 rfl (by kernel_rfl) ?_
     refine v_done ?_
     refine x_p rfl ?_
     refine v_T rfl ?_
     refine v_done ?_
     refine x_vb rfl ?_
     refine v_T rfl ?_
     refine v_ld 0 tt_ok (v := .int .i64 z1.cells) ts_3 rfl (by kernel_rfl) ?_
     refine v_done ?_
     refine x_kp [(1,.pointer (some ⟨bq5,0,none⟩)),(3,.pointer (some ⟨bq3,0,none⟩)),(5,.int .i64 e0.Cell),(7,.bool true),(9,.int .i64 e0.Cell),(11,.int .i64 z1.cells)] (by kernel_rfl) fun fr => ?_
     refine x_p rfl ?_
     refine v_done ?_
     refine x_e rfl ?_
     refine r_T rfl ?_
     refine r_call (hc_67 (n0 := e0.Cell) (size1 := z1.cells)) ?_
     rintro _ _ ⟨rfl,rfl⟩
     refine r_done ⟨rfl,k_a (le_w [true,false,true,true]) (le_w [false,false,true,true]),?_⟩
     refine x_p rfl ?_
     refine v_done ?_
     refine x_e rfl ?_
     refine r_s 1 tt_ok (en_Entry (⟨e0.Kind,e0.Tick,e0.Tenant,e0.Cell,(-1),0,0,0,0⟩ : Entry)) (fit1 ts_3 (by kernel_rfl)) rfl (by kernel_rfl) (by kernel_rfl) ?_
     refine r_done ⟨rfl,k_a (le_w [true,false,true,true]) (le_w [false,false,true,true]),?_⟩
     refine x_e rfl ?_
     refine r_s 0 tt_ok ([.bool (entry_index e0.Cell z1.cells)]) (fit1 ts_4 (by kernel_rfl)) rfl (by kernel_rfl) (by kernel_rfl) ?_
     refine r_done ⟨rfl,k_b rfl (le_w [false,false,true,true]),?_⟩
     refine x_k [] (by kernel_rfl) fun fr => ?_
     exact r_done ⟨(entry_index e0.Cell z1.cells),_,h,fr_eq _ (by kernel_rfl),(by kernel_rfl)⟩
    ·replace h := h_f h hb7
     clear hb7
     refine v_done ?_
     refine x_vb rfl ?_
     refine v_F rfl ?_
     refine v_done ?_
     refine x_p rfl ?_
     refine v_F rfl ?_
     refine v_done ?_
     refine x_vb rfl ?_
     refine v_F rfl ?_
     refine v_done ?_
     refine x_kp [(1,.pointer (some ⟨bq5,0,none⟩)),(3,.pointer (some ⟨bq3,0,none⟩)),(5,.int .i64 e0.Cell),(7,.bool false),(9,undef),(11,undef)] (by kernel_rfl) fun fr => ?_
     refine x_p rfl ?_
     refine v_done ?_
     refine x_e rfl ?_
     refine r_F rfl ?_
     refine r_done ⟨rfl,k_a (le_w [true,false,true,true]) (le_w [false,false,true,true]),?_⟩
     refine x_p rfl ?_
     refine v_F rfl ?_
     refine v_done ?_
     refine x_e rfl ?_
     refine r_s 1 tt_ok (en_Entry (⟨e0.Kind,e0.Tick,e0.Tenant,e0.Cell,(-1),0,0,0,0⟩ : Entry)) (fit1 ts_3 (by kernel_rfl)) rfl (by kernel_rfl) (by kernel_rfl) ?_
     refine r_done ⟨rfl,k_a (le_w [true,false,true,true]) (le_w [false,false,true,true]),?_⟩
     refine x_e rfl ?_
     refine r_s 0 tt_ok ([.bool false]) (fit1 ts_4 (by kernel_rfl)) rfl (by kernel_rfl) (by kernel_rfl) ?_
     refine r_done ⟨rfl,k_b rfl (le_w [false,false,true,true]),?_⟩
     refine x_k [] (by kernel_rfl) fun fr => ?_
     exact r_done ⟨false,_,h,fr_eq _ (by kernel_rfl),(by kernel_rfl)⟩
    clear h
    rintro fr S ⟨y8,fr,h,rfl,rfl⟩
    replace h := hK10 _ h
    repeat refine r_done ?_
    refine ret_of RV.nil (Le.refl _) ?_
    refine r_done ?_
    replace h := h_j h; obtain ⟨K15,h,hK16⟩ := h
    refine r_meet (fun fr S => ∃ (y14 : Bool),∃ fr0,K15 y14 = some r ∧ fr = updL [(2,.pointer (some ⟨bq1,0,none⟩)),(5,.pointer (some ⟨bq3,0,none⟩)),(6,.pointer (some ⟨bq5,0,none⟩))] fr0 ∧ S = ⟨ρ,.obj bq5 ([.bool y14]) 4 :: .obj bq3 (en_Entry (⟨e0.Kind,e0.Tick,e0.Tenant,e0.Cell,e0.Other,0,0,0,0⟩ : Entry)) 45 :: .obj bq1 (en_Entry e0) 45 :: L⟩) ?_ ?_
    refine r_mix tt_ok hm_ok _ _ [24] (.pure 0 (.vb 1 (.va 2 (.pure 3 (.pure 4 (.vb 5 (.pure 6 (.vb 7 (.pure 8 (.pure 9 (.pure 10 (.pure 11 (.vb 12 (.pure 13 (.pure 14 (.pure 15 (.vb 16 (.pure 17 (.vb 18 (.pure 22 (.eff 19 (.pure 20 (.pure 21 (.eff 23 (.eff 24 .nil))))))))))))))))))))))))) (le_w [true,false,true,true]) (le_w [false,false,true,true]) ?_ ?_
    ·decide +kernel
    refine x_kp [(2,.pointer (some ⟨bq1,0,none⟩)),(3,.pointer (some ⟨bq2,0,none⟩)),(5,.pointer (some ⟨bq3,0,none⟩)),(6,.pointer (some ⟨bq5,0,none⟩))] (by kernel_rfl) fun fr => ?_
    refine x_p rfl ?_
    refine v_done ?_
    refine x_vb rfl ?_
    refine v_ld 1 tt_ok (v := .int .i64 e0.Other) ts_3 rfl (by kernel_rfl) ?_
    refine v_done ?_
    refine x_va rfl ?_
    refine v_ld 0 tt_ok (v := .bool y8) ts_4 rfl (by kernel_rfl) ?_
    refine v_done ?_
    refine x_p rfl ?_
    refine v_done ?_
    refine x_p rfl ?_
    refine v_ite (fun (hb11 : y8 = true) => ?_) (fun (hb11 : y8 = false) => ?_)
    ·replace h := h_t h hb11
     clear hb11
     refine v_done ?_
     refine x_vb rfl ?_
     refine v_T rfl ?_
     refine v_ld 1 tt_ok (v := .int .i64 e0.Other) ts_3 rfl (by kernel_rfl) ?_
     refine v_done ?_
     refine x_p rfl ?_
     refine v_T rfl ?_
     refine v_done ?_
     refine x_vb rfl ?_
     refine v_T rfl ?_
     refine v_ld 1 tt_ok (v := .int .i64 e0.Cell) ts_3 rfl (by kernel_rfl) ?_
     refine v_done ?_
     refine x_p rfl ?_
     refine v_T rfl ?_
     refine v_done ?_
     refine x_kp [(2,.pointer (some ⟨bq1,0,none⟩)),(3,.pointer (some ⟨bq2,0,none⟩)),(5,.pointer (some ⟨bq3,0,none⟩)),(6,.pointer (some ⟨bq5,0,none⟩)),(33,.int .i64 e0.Other),(35,.bool true),(40,.bool (!decide (e0.Other = e0.Cell)))] (by kernel_rfl) fun fr => ?_
     refine x_p rfl ?_
     refine v_done ?_
     refine x_p rfl ?_
     refine v_done ?_
     refine x_p rfl ?_
     refine v_ite (fun (hb12 : (!decide (e0.Other = e0.Cell)) = true) => ?_) (fun (hb12 : (!decide (e0.Other = e0.Cell)) = false) => ?_)
     ·replace h := h_t h hb12
      clear hb12
      refine v_done ?_
      refine x_vb rfl ?_
      refine v_T rfl ?_
      refine v_ld 1 tt_ok (v := .int .i64 e0.Other) ts_3 rfl (by kernel_rfl) ?_
      refine v_done ?_
      refine x_p rfl ?_
      refine v_T rfl ?_
      refine v_done ?_
      refine x_p rfl ?_
      refine v_T rfl ?_
      refine v_done ?_
      refine x_p rfl ?_
      refine v_ite (fun (hb13 : (decide (e0.Other = (-1))) = true) => ?_) (fun (hb13 : (decide (e0.Other = (-1))) = false) => ?_)
      ·replace h := h_t h hb13
       clear hb13
       refine v_done ?_
       refine x_vb rfl ?_
       refine v_T rfl ?_
       refine v_done ?_
       refine x_p rfl ?_
       refine v_T rfl ?_
       refine v_done ?_
       refine x_kp [(2,.pointer (some ⟨bq1,0,none⟩)),(5,.pointer (some ⟨bq3,0,none⟩)),(6,.pointer (some ⟨bq5,0,none⟩)),(33,.int .i64 e0.Other),(42,.bool true),(46,.bool true),(48,undef),(49,undef)] (by kernel_rfl) fun fr => ?_
       refine x_vb rfl ?_
       refine v_T rfl ?_
       refine v_done ?_
       refine x_p rfl ?_
       refine v_done ?_
       refine x_e rfl ?_
       refine r_T rfl ?_
       refine r_done ⟨rfl,k_a (le_w [true,false,true,true]) (le_w [false,false,true,true]),?_⟩
       refine x_p rfl ?_
       refine v_T rfl ?_
       refine v_T rfl ?_
       refine v_done ?_
       refine x_p rfl ?_
       refine v_done ?_
       refine x_e rfl ?_
       refine r_s 1 tt_ok (en_Entry (⟨e0.Kind,e0.Tick,e0.Tenant,e0.Cell,e0.Other,0,0,0,0⟩ : Entry)) (fit1 ts_3 (by kernel_rfl)) rfl (by kernel_rfl) (by kernel_rfl) ?_
       refine r_done ⟨rfl,k_a (le_w [true,false,true,true]) (le_w [false,false,true,true]),?_⟩
       refine x_e rfl ?_
       refine r_s 0 tt_ok ([.bool true]) (fit1 ts_4 (by kernel_rfl)) rfl (by kernel_rfl) (by kernel_rfl) ?_
       refine r_done ⟨rfl,k_b rfl (le_w [false,false,true,true]),?_⟩
       refine x_k [(2,.pointer (some ⟨bq1,0,none⟩)),(5,.pointer (some ⟨bq3,0,none⟩)),(6,.pointer (some ⟨bq5,0,none⟩))] (by kernel_rfl) fun fr => ?_
       refine r_le (le_w [true,true,false,true]) ?_
       exact r_done ⟨true,_,h,fr_eq _ (by kernel_rfl),(by kernel_rfl)⟩
      ·replace h := h_f h hb13
       clear hb13
       refine v_done ?_
       refine x_vb rfl ?_
       refine v_F rfl ?_
       refine v_ld 1 tt_ok (v := .int .i64 e0.Other) ts_3 rfl (by kernel_rfl) ?_
       refine v_done ?_
       refine x_p rfl ?_
       refine v_F rfl ?_
       refine v_done ?_
       refine x_kp [(2,.pointer (some ⟨bq1,0,none⟩)),(5,.pointer (some ⟨bq3,0,none⟩)),(6,.pointer (some ⟨bq5,0,none⟩)),(33,.int .i64 e0.Other),(42,.bool true),(46,.bool false),(48,.int .i64 e0.Other),(49,.pointer (some ⟨bq2,1,none⟩))] (by kernel_rfl) fun fr => ?_
       refine x_vb rfl ?_
       refine v_F rfl ?_
       refine v_ld 0 tt_ok (v := .int .i64 z1.cells) ts_3 rfl (by kernel_rfl) ?_
       refine v_done ?_
       refine x_p rfl ?_
       refine v_done ?_
       refine x_e rfl ?_
       refine r_F rfl ?_
       refine r_call (hc_67 (n0 := e0.Other) (size1 := z1.cells)) ?_
       rintro _ _ ⟨rfl,rfl⟩
       refine r_done ⟨rfl,k_a (le_w [true,false,true,true]) (le_w [false,false,true,true]),?_⟩
       refine x_p rfl ?_
       refine v_T rfl ?_
       refine v_done ?_
       refine x_p rfl ?_
       refine v_done ?_
       refine x_e rfl ?_
       refine r_s 1 tt_ok (en_Entry (⟨e0.Kind,e0.Tick,e0.Tenant,e0.Cell,e0.Other,0,0,0,0⟩ : Entry)) (fit1 ts_3 (by kernel_rfl)) rfl (by kernel_rfl) (by kernel_rfl) ?_
       refine r_done ⟨rfl,k_a (le_w [true,false,true,true]) (le_w [false,false,true,true]),?_⟩
       refine x_e rfl ?_
       refine r_s 0 tt_ok ([.bool (entry_index e0.Other z1.cells)]) (fit1 ts_4 (by kernel_rfl)) rfl (by kernel_rfl) (by kernel_rfl) ?_
       refine r_done ⟨rfl,k_b rfl (le_w [false,false,true,true]),?_⟩
       refine x_k [(2,.pointer (some ⟨bq1,0,none⟩)),(5,.pointer (some ⟨bq3,0,none⟩)),(6,.pointer (some ⟨bq5,0,none⟩))] (by kernel_rfl) fun fr => ?_
       refine r_le (le_w [true,true,false,true]) ?_
       exact r_done ⟨(entry_index e0.Other z1.cells),_,h,fr_eq _ (by kernel_rfl),(by kernel_rfl)⟩
     ·replace h := h_f h hb12
      clear hb12
      refine v_done ?_
      refine x_vb rfl ?_
      refine v_F rfl ?_
      refine v_done ?_
      refine x_p rfl ?_
      refine v_F rfl ?_
      refine v_done ?_
      refine x_p rfl ?_
      refine v_F rfl ?_
      refine v_done ?_
      refine x_p rfl ?_
      refine v_done ?_
      refine x_vb rfl ?_
      refine v_done ?_
      refine x_p rfl ?_
      refine v_done ?_
      refine x_kp [(2,.pointer (some ⟨bq1,0,none⟩)),(5,.pointer (some ⟨bq3,0,none⟩)),(6,.pointer (some ⟨bq5,0,none⟩)),(33,.int .i64 e0.Other),(42,.bool false),(46,undef),(48,undef),(49,undef)] (by kernel_rfl) fun fr => ?_
      refine x_vb rfl ?_
      refine v_done ?_
      refine x_p rfl ?_
      refine v_done ?_
      refine x_e rfl ?_
      refine r_done ⟨rfl,k_a (le_w [true,false,true,true]) (le_w [false,false,true,true]),?_⟩
      refine x_p rfl ?_
      refine v_F rfl ?_
      refine v_done ?_
      refine x_p rfl ?_
      refine v_F rfl ?_
      refine v_done ?_
      refine x_e rfl ?_
      refine r_s 1 tt_ok (en_Entry (⟨e0.Kind,e0.Tick,e0.Tenant,e0.Cell,e0.Other,0,0,0,0⟩ : Entry)) (fit1 ts_3 (by kernel_rfl)) rfl (by kernel_rfl) (by kernel_rfl) ?_
      refine r_done ⟨rfl,k_a (le_w [true,false,true,true]) (le_w [false,false,true,true]),?_⟩
      refine x_e rfl ?_
      refine r_s 0 tt_ok ([.bool false]) (fit1 ts_4 (by kernel_rfl)) rfl (by kernel_rfl) (by kernel_rfl) ?_
      refine r_done ⟨rfl,k_b rfl (le_w [false,false,true,true]),?_⟩
      refine x_k [(2,.pointer (some ⟨bq1,0,none⟩)),(5,.pointer (some ⟨bq3,0,none⟩)),(6,.pointer (some ⟨bq5,0,none⟩))] (by kernel_rfl) fun fr => ?_
      refine r_le (le_w [true,true,false,true]) ?_
      exact r_done ⟨false,_,h,fr_eq _ (by kernel_rfl),(by kernel_rfl)⟩
    ·replace h := h_f h hb11
     clear hb11
     refine v_done ?_
     refine x_vb rfl ?_
     refine v_F rfl ?_
     refine v_done ?_
     refine x_p rfl ?_
     refine v_F rfl ?_
     refine v_done ?_
     refine x_vb rfl ?_
     refine v_F rfl ?_
     refine v_done ?_
     refine x_p rfl ?_
     refine v_F rfl ?_
     refine v_done ?_
     refine x_kp [(2,.pointer (some ⟨bq1,0,none⟩)),(3,.pointer (some ⟨bq2,0,none⟩)),(5,.pointer (some ⟨bq3,0,none⟩)),(6,.pointer (some ⟨bq5,0,none⟩)),(33,.int .i64 e0.Other),(35,.bool false),(40,undef)] (by kernel_rfl) fun fr => ?_
     refine x_p rfl ?_
     refine v_F rfl ?_
     refine v_done ?_
     refine x_p rfl ?_
     refine v_done ?_
     refine x_p rfl ?_
     refine v_F rfl ?_
     refine v_done ?_
     refine x_vb rfl ?_
     refine v_F rfl ?_
     refine v_done ?_
     refine x_p rfl ?_
     refine v_F rfl ?_
     refine v_done ?_
     refine x_p rfl ?_
     refine v_F rfl ?_
     refine v_done ?_
     refine x_p rfl ?_
     refine v_done ?_
     refine x_vb rfl ?_
     refine v_done ?_
     refine x_p rfl ?_
     refine v_done ?_
     refine x_kp [(2,.pointer (some ⟨bq1,0,none⟩)),(5,.pointer (some ⟨bq3,0,none⟩)),(6,.pointer (some ⟨bq5,0,none⟩)),(33,.int .i64 e0.Other),(42,.bool false),(46,undef),(48,undef),(49,undef)] (by kernel_rfl) fun fr => ?_
     refine x_vb rfl ?_
     refine v_done ?_
     refine x_p rfl ?_
     refine v_done ?_
     refine x_e rfl ?_
     refine r_done ⟨rfl,k_a (le_w [true,false,true,true]) (le_w [false,false,true,true]),?_⟩
     refine x_p rfl ?_
     refine v_F rfl ?_
     refine v_done ?_
     refine x_p rfl ?_
     refine v_F rfl ?_
     refine v_done ?_
     refine x_e rfl ?_
     refine r_s 1 tt_ok (en_Entry (⟨e0.Kind,e0.Tick,e0.Tenant,e0.Cell,e0.Other,0,0,0,0⟩ : Entry)) (fit1 ts_3 (by kernel_rfl)) rfl (by kernel_rfl) (by kernel_rfl) ?_
     refine r_done ⟨rfl,k_a (le_w [true,false,true,true]) (le_w [false,false,true,true]),?_⟩
     refine x_e rfl ?_
     refine r_s 0 tt_ok ([.bool false]) (fit1 ts_4 (by kernel_rfl)) rfl (by kernel_rfl) (by kernel_rfl) ?_
     refine r_done ⟨rfl,k_b rfl (le_w [false,false,true,true]),?_⟩
     refine x_k [(2,.pointer (some ⟨bq1,0,none⟩)),(5,.pointer (some ⟨bq3,0,none⟩)),(6,.pointer (some ⟨bq5,0,none⟩))] (by kernel_rfl) fun fr => ?_
     refine r_le (le_w [true,true,false,true]) ?_
     exact r_done ⟨false,_,h,fr_eq _ (by kernel_rfl),(by kernel_rfl)⟩
    clear h
    rintro fr S ⟨y14,fr,h,rfl,rfl⟩
    replace h := hK16 _ h
    refine r_done ?_
    exact r_done ⟨(⟨e0.Kind,e0.Tick,e0.Tenant,e0.Cell,e0.Other,0,0,0,0⟩ : Entry),y14,_,h,fr_eq _ (by kernel_rfl),(by kernel_rfl)⟩
   ·replace h := h_f h hb6
    clear hb6
    refine r_bind ?_
    refine r_done ?_
    refine r_ite (fun hb17 => ?_) (fun hb17 => ?_)
    ·replace h := h_t h hb17
     clear hb17
     refine r_bind ?_
     refine r_inl (HC.intro (N := 15) (args := [_,_,_,_]) tt_ok Try.func66 rfl (by decide +kernel) rfl (Nat.le_of_ble_eq_true rfl) ?_)
     refine r_mix tt_ok hm_ok _ _ [12] (.pure 0 (.vb 1 (.va 2 (.pure 3 (.pure 4 (.vb 5 (.pure 6 (.vb 7 (.pure 10 (.eff 8 (.pure 9 (.eff 11 (.eff 12 .nil))))))))))))) (le_w [true,false,true,true]) (le_w [false,false,true,true]) ?_ ?_
     ·decide +kernel
     refine x_p rfl ?_
     refine v_done ?_
     refine x_vb rfl ?_
     refine v_ld 1 tt_ok (v := .int .i64 e0.Tenant) ts_3 rfl (by kernel_rfl) ?_
     refine v_done ?_
     refine x_va rfl ?_
     refine v_ld 0 tt_ok (v := .bool true) ts_4 rfl (by kernel_rfl) ?_
     refine v_done ?_
     refine x_p rfl ?_
     refine v_done ?_
     refine x_p rfl ?_
     refine v_T rfl ?_
     refine v_done ?_
     refine x_vb rfl ?_
     refine v_T rfl ?_
     refine v_ld 1 tt_ok (v := .int .i64 e0.Tenant) ts_3 rfl (by kernel_rfl) ?_
     refine v_done ?_
     refine x_p rfl ?_
     refine v_T rfl ?_
     refine v_done ?_
     refine x_vb rfl ?_
     refine v_T rfl ?_
     refine v_ld 0 tt_ok (v := .int .i64 z1.tenants) ts_3 rfl (by kernel_rfl) ?_
     refine v_done ?_
     refine x_p rfl ?_
     refine v_done ?_
     refine x_kp [(1,.pointer (some ⟨bq5,0,none⟩)),(5,.int .i64 e0.Tenant),(7,.bool true),(9,.int .i64 e0.Tenant),(11,.int .i64 z1.tenants),(14,.pointer (some ⟨bq3,2,none⟩))] (by kernel_rfl) fun fr => ?_
     refine x_e rfl ?_
     refine r_T rfl ?_
     refine r_call (hc_67 (n0 := e0.Tenant) (size1 := z1.tenants)) ?_
     rintro _ _ ⟨rfl,rfl⟩
     refine r_done ⟨rfl,k_a (le_w [true,false,true,true]) (le_w [false,false,true,true]),?_⟩
     refine x_p rfl ?_
     refine v_done ?_
     refine x_e rfl ?_
     refine r_s 1 tt_ok (en_Entry (⟨e0.Kind,e0.Tick,e0.Tenant,(-1),(-1),0,0,0,0⟩ : Entry)) (fit1 ts_3 (by kernel_rfl)) rfl (by kernel_rfl) (by kernel_rfl) ?_
     refine r_done ⟨rfl,k_a (le_w [true,false,true,true]) (le_w [false,false,true,true]),?_⟩
     refine x_e rfl ?_
     refine r_s 0 tt_ok ([.bool (entry_index e0.Tenant z1.tenants)]) (fit1 ts_4 (by kernel_rfl)) rfl (by kernel_rfl) (by kernel_rfl) ?_
     refine r_done ⟨rfl,k_b rfl (le_w [false,false,true,true]),?_⟩
     refine x_k [] (by kernel_rfl) fun fr => ?_
     repeat refine r_done ?_
     refine ret_of RV.nil (Le.refl _) ?_
     refine r_done ?_
     refine r_bind ?_
     refine r_inl (HC.intro (N := 15) (args := [_,_,_,_]) tt_ok Try.func68 rfl (by decide +kernel) rfl (Nat.le_of_ble_eq_true rfl) ?_)
     replace h := h_j h; obtain ⟨K20,h,hK21⟩ := h
     refine r_meet (fun fr S => ∃ (y19 : Bool),∃ fr0,K20 y19 = some r ∧ fr = updL [] fr0 ∧ S = ⟨ρ,.obj bq5 ([.bool y19]) 4 :: .obj bq3 (en_Entry (⟨e0.Kind,e0.Tick,e0.Tenant,e0.Cell,(-1),0,0,0,0⟩ : Entry)) 45 :: .obj bq2 (en_entry_sizes z1) 93 :: .obj bq1 (en_Entry e0) 45 :: L⟩) ?_ ?_
     refine r_mix tt_ok hm_ok _ _ [12] (.pure 0 (.vb 1 (.va 2 (.pure 3 (.pure 4 (.vb 5 (.pure 6 (.vb 7 (.pure 10 (.eff 8 (.pure 9 (.eff 11 (.eff 12 .nil))))))))))))) (le_w [true,false,true,true]) (le_w [false,false,true,true]) ?_ ?_
     ·decide +kernel
     refine x_p rfl ?_
     refine v_done ?_
     refine x_vb rfl ?_
     refine v_ld 1 tt_ok (v := .int .i64 e0.Cell) ts_3 rfl (by kernel_rfl) ?_
     refine v_done ?_
     refine x_va rfl ?_
     refine v_ld 0 tt_ok (v := .bool (entry_index e0.Tenant z1.tenants)) ts_4 rfl (by kernel_rfl) ?_
     refine v_done ?_
     refine x_p rfl ?_
     refine v_done ?_
     refine x_p rfl ?_
     refine v_ite (fun (hb18 : (entry_index e0.Tenant z1.tenants) = true) => ?_) (fun (hb18 : (entry_index e0.Tenant z1.tenants) = false) => ?_)
     ·replace h := h_t h hb18
      clear hb18
      refine v_done ?_
      refine x_vb rfl ?_
      refine v_T rfl ?_
      refine v_ld 1 tt_ok (v := .int .i64 e0.Cell) ts_3 rfl (by kernel_rfl) ?_
      refine v_done ?_
      refine x_p rfl ?_
      refine v_T rfl ?_
      refine v_done ?_
      refine x_vb rfl ?_
      refine v_T rfl ?_
      refine v_ld 0 tt_ok (v := .int .i64 z1.cells) ts_3 rfl (by kernel_rfl) ?_
      refine v_done ?_
      refine x_kp [(1,.pointer (some ⟨bq5,0,none⟩)),(3,.pointer (some ⟨bq3,0,none⟩)),(5,.int .i64 e0.Cell),(7,.bool true),(9,.int .i64 e0.Cell),(11,.int .i64 z1.cells)] (by kernel_rfl) fun fr => ?_
      refine x_p rfl ?_
      refine v_done ?_
      refine x_e rfl ?_
      refine r_T rfl ?_
      refine r_call (hc_67 (n0 := e0.Cell) (size1 := z1.cells)) ?_
      rintro _ _ ⟨rfl,rfl⟩
      refine r_done ⟨rfl,k_a (le_w [true,false,true,true]) (le_w [false,false,true,true]),?_⟩
      refine x_p rfl ?_
      refine v_done ?_
      refine x_e rfl ?_
      refine r_s 1 tt_ok (en_Entry (⟨e0.Kind,e0.Tick,e0.Tenant,e0.Cell,(-1),0,0,0,0⟩ : Entry)) (fit1 ts_3 (by kernel_rfl)) rfl (by kernel_rfl) (by kernel_rfl) ?_
      refine r_done ⟨rfl,k_a (le_w [true,false,true,true]) (le_w [false,false,true,true]),?_⟩
      refine x_e rfl ?_
      refine r_s 0 tt_ok ([.bool (entry_index e0.Cell z1.cells)]) (fit1 ts_4 (by kernel_rfl)) rfl (by kernel_rfl) (by kernel_rfl) ?_
      refine r_done ⟨rfl,k_b rfl (le_w [false,false,true,true]),?_⟩
      refine x_k [] (by kernel_rfl) fun fr => ?_
      exact r_done ⟨(entry_index e0.Cell z1.cells),_,h,fr_eq _ (by kernel_rfl),(by kernel_rfl)⟩
     ·replace h := h_f h hb18
      clear hb18
      refine v_done ?_
      refine x_vb rfl ?_
      refine v_F rfl ?_
      refine v_done ?_
      refine x_p rfl ?_
      refine v_F rfl ?_
      refine v_done ?_
      refine x_vb rfl ?_
      refine v_F rfl ?_
      refine v_done ?_
      refine x_kp [(1,.pointer (some ⟨bq5,0,none⟩)),(3,.pointer (some ⟨bq3,0,none⟩)),(5,.int .i64 e0.Cell),(7,.bool false),(9,undef),(11,undef)] (by kernel_rfl) fun fr => ?_
      refine x_p rfl ?_
      refine v_done ?_
      refine x_e rfl ?_
      refine r_F rfl ?_
      refine r_done ⟨rfl,k_a (le_w [true,false,true,true]) (le_w [false,false,true,true]),?_⟩
      refine x_p rfl ?_
      refine v_F rfl ?_
      refine v_done ?_
      refine x_e rfl ?_
      refine r_s 1 tt_ok (en_Entry (⟨e0.Kind,e0.Tick,e0.Tenant,e0.Cell,(-1),0,0,0,0⟩ : Entry)) (fit1 ts_3 (by kernel_rfl)) rfl (by kernel_rfl) (by kernel_rfl) ?_
      refine r_done ⟨rfl,k_a (le_w [true,false,true,true]) (le_w [false,false,true,true]),?_⟩
      refine x_e rfl ?_
      refine r_s 0 tt_ok ([.bool false]) (fit1 ts_4 (by kernel_rfl)) rfl (by kernel_rfl) (by kernel_rfl) ?_
      refine r_done ⟨rfl,k_b rfl (le_w [false,false,true,true]),?_⟩
      refine x_k [] (by kernel_rfl) fun fr => ?_
      exact r_done ⟨false,_,h,fr_eq _ (by kernel_rfl),(by kernel_rfl)⟩
     clear h
     rintro fr S ⟨y19,fr,h,rfl,rfl⟩
     replace h := hK21 _ h
     repeat refine r_done ?_
     refine ret_of RV.nil (Le.refl _) ?_
     refine r_keep [(2,.pointer (some ⟨bq1,0,none⟩)),(3,.pointer (some ⟨bq2,0,none⟩)),(5,.pointer (some ⟨bq3,0,none⟩)),(6,.pointer (some ⟨bq5,0,none⟩)),(9,.func (.func 69) #[] #[.pointer (some ⟨bq1,0,none⟩),.pointer (some ⟨bq5,0,none⟩),.pointer (some ⟨bq3,0,none⟩)]),(10,.func (.func 70) #[] #[.pointer (some ⟨bq1,0,none⟩),.pointer (some ⟨bq5,0,none⟩),.pointer (some ⟨bq3,0,none⟩)])] (by kernel_rfl) fun fr => ?_
     refine r_done ?_
     refine r_bind ?_
     refine r_inl (HC.intro (N := 12) (args := [_,_,_]) tt_ok Try.func70 rfl (by decide +kernel) rfl (Nat.le_of_ble_eq_true rfl) ?_)
     replace h := h_j h; obtain ⟨K24,h,hK25⟩ := h
     refine r_meet (fun fr S => ∃ (y23 : Bool),∃ fr0,K24 y23 = some r ∧ fr = updL [] fr0 ∧ S = ⟨ρ,.obj bq5 ([.bool y23]) 4 :: .obj bq3 (en_Entry (⟨e0.Kind,e0.Tick,e0.Tenant,e0.Cell,(-1),e0.Epoch,0,0,0⟩ : Entry)) 45 :: .obj bq2 (en_entry_sizes z1) 93 :: .obj bq1 (en_Entry e0) 45 :: L⟩) ?_ ?_
     refine r_mix tt_ok hm_ok _ _ [10] (.pure 0 (.vb 1 (.va 2 (.pure 3 (.pure 4 (.vb 5 (.pure 8 (.eff 6 (.pure 7 (.eff 9 (.eff 10 .nil))))))))))) (le_w [true,false,true,true]) (le_w [false,false,true,true]) ?_ ?_
     ·decide +kernel
     refine x_p rfl ?_
     refine v_done ?_
     refine x_vb rfl ?_
     refine v_ld 1 tt_ok (v := .int .i64 e0.Epoch) ts_3 rfl (by kernel_rfl) ?_
     refine v_done ?_
     refine x_va rfl ?_
     refine v_ld 0 tt_ok (v := .bool y19) ts_4 rfl (by kernel_rfl) ?_
     refine v_done ?_
     refine x_p rfl ?_
     refine v_done ?_
     refine x_p rfl ?_
     refine v_ite (fun (hb22 : y19 = true) => ?_) (fun (hb22 : y19 = false) => ?_)
     ·replace h := h_t h hb22
      clear hb22
      refine v_done ?_
      refine x_vb rfl ?_
      refine v_T rfl ?_
      refine v_ld 1 tt_ok (v := .int .i64 e0.Epoch) ts_3 rfl (by kernel_rfl) ?_
      refine v_done ?_
      refine x_p rfl ?_
      refine v_done ?_
      refine x_e rfl ?_
      refine r_T rfl ?_
      refine r_call (hc_65 (n0 := e0.Epoch) (low1 := 1) (high2 := 1048576)) ?_
      rintro _ _ ⟨rfl,rfl⟩
      refine r_done ⟨rfl,k_a (le_w [true,false,true,true]) (le_w [false,false,true,true]),?_⟩
      refine x_kp [(1,.pointer (some ⟨bq5,0,none⟩)),(4,.int .i64 e0.Epoch),(6,.bool true),(9,.bool (entry_between e0.Epoch 1 1048576)),(11,.pointer (some ⟨bq3,5,none⟩))] (by kernel_rfl) fun fr => ?_
      refine x_p rfl ?_
      refine v_done ?_
      refine x_e rfl ?_
      refine r_s 1 tt_ok (en_Entry (⟨e0.Kind,e0.Tick,e0.Tenant,e0.Cell,(-1),e0.Epoch,0,0,0⟩ : Entry)) (fit1 ts_3 (by kernel_rfl)) rfl (by kernel_rfl) (by kernel_rfl) ?_
      refine r_done ⟨rfl,k_a (le_w [true,false,true,true]) (le_w [false,false,true,true]),?_⟩
      refine x_e rfl ?_
      refine r_s 0 tt_ok ([.bool (entry_between e0.Epoch 1 1048576)]) (fit1 ts_4 (by kernel_rfl)) rfl (by kernel_rfl) (by kernel_rfl) ?_
      refine r_done ⟨rfl,k_b rfl (le_w [false,false,true,true]),?_⟩
      refine x_k [] (by kernel_rfl) fun fr => ?_
      exact r_done ⟨(entry_between e0.Epoch 1 1048576),_,h,fr_eq _ (by kernel_rfl),(by kernel_rfl)⟩
     ·replace h := h_f h hb22
      clear hb22
      refine v_done ?_
      refine x_vb rfl ?_
      refine v_F rfl ?_
      refine v_done ?_
      refine x_p rfl ?_
      refine v_done ?_
      refine x_e rfl ?_
      refine r_F rfl ?_
      refine r_done ⟨rfl,k_a (le_w [true,false,true,true]) (le_w [false,false,true,true]),?_⟩
      refine x_kp [(1,.pointer (some ⟨bq5,0,none⟩)),(4,.int .i64 e0.Epoch),(6,.bool false),(9,undef),(11,.pointer (some ⟨bq3,5,none⟩))] (by kernel_rfl) fun fr => ?_
      refine x_p rfl ?_
      refine v_F rfl ?_
      refine v_done ?_
      refine x_e rfl ?_
      refine r_s 1 tt_ok (en_Entry (⟨e0.Kind,e0.Tick,e0.Tenant,e0.Cell,(-1),e0.Epoch,0,0,0⟩ : Entry)) (fit1 ts_3 (by kernel_rfl)) rfl (by kernel_rfl) (by kernel_rfl) ?_
      refine r_done ⟨rfl,k_a (le_w [true,false,true,true]) (le_w [false,false,true,true]),?_⟩
      refine x_e rfl ?_
      refine r_s 0 tt_ok ([.bool false]) (fit1 ts_4 (by kernel_rfl)) rfl (by kernel_rfl) (by kernel_rfl) ?_
      refine r_done ⟨rfl,k_b rfl (le_w [false,false,true,true]),?_⟩
      refine x_k [] (by kernel_rfl) fun fr => ?_
      exact r_done ⟨false,_,h,fr_eq _ (by kernel_rfl),(by kernel_rfl)⟩
     clear h
     rintro fr S ⟨y23,fr,h,rfl,rfl⟩
     replace h := hK25 _ h
     repeat refine r_done ?_
     refine ret_of RV.nil (Le.refl _) ?_
     refine r_done ?_
     refine r_bind ?_
     refine r_ld 2 tt_ok (v := .int .i64 z1.versions) ts_3 rfl (by kernel_rfl) ?_
     refine r_num (e' := w64 (z1.versions - 1)) rfl ?_
     refine r_inl (HC.intro (N := 18) (args := [_,_,_,_,_]) tt_ok Try.func69 rfl (by decide +kernel) rfl (Nat.le_of_ble_eq_true rfl) ?_)
     replace h := h_j h; obtain ⟨K28,h,hK29⟩ := h
     refine r_meet (fun fr S => ∃ (y27 : Bool),∃ fr0,K28 y27 = some r ∧ fr = updL [] fr0 ∧ S = ⟨ρ,.obj bq5 ([.bool y27]) 4 :: .obj bq3 (en_Entry (⟨e0.Kind,e0.Tick,e0.Tenant,e0.Cell,(-1),e0.Epoch,0,0,e0.N⟩ : Entry)) 45 :: .obj bq2 (en_entry_sizes z1) 93 :: .obj bq1 (en_Entry e0) 45 :: L⟩) ?_ ?_
     refine r_mix tt_ok hm_ok _ _ [12] (.pure 0 (.vb 1 (.va 2 (.pure 3 (.pure 4 (.vb 5 (.pure 6 (.pure 7 (.pure 10 (.eff 8 (.pure 9 (.eff 11 (.eff 12 .nil))))))))))))) (le_w [true,false,true,true]) (le_w [false,false,true,true]) ?_ ?_
     ·decide +kernel
     refine x_p rfl ?_
     refine v_done ?_
     refine x_vb rfl ?_
     refine v_ld 1 tt_ok (v := .int .i64 e0.N) ts_3 rfl (by kernel_rfl) ?_
     refine v_done ?_
     refine x_va rfl ?_
     refine v_ld 0 tt_ok (v := .bool y23) ts_4 rfl (by kernel_rfl) ?_
     refine v_done ?_
     refine x_p rfl ?_
     refine v_done ?_
     refine x_p rfl ?_
     refine v_ite (fun (hb26 : y23 = true) => ?_) (fun (hb26 : y23 = false) => ?_)
     ·replace h := h_t h hb26
      clear hb26
      refine v_done ?_
      refine x_vb rfl ?_
      refine v_T rfl ?_
      refine v_ld 1 tt_ok (v := .int .i64 e0.N) ts_3 rfl (by kernel_rfl) ?_
      refine v_done ?_
      refine x_p rfl ?_
      refine v_T rfl ?_
      refine v_done ?_
      refine x_p rfl ?_
      refine v_T rfl ?_
      refine v_done ?_
      refine x_kp [(3,.pointer (some ⟨bq5,0,none⟩)),(4,.pointer (some ⟨bq3,0,none⟩)),(8,.int .i64 e0.N),(10,.bool true),(12,.int .i64 e0.N),(13,.int .i64 0),(14,.int .i64 (w64 (z1.versions - 1)))] (by kernel_rfl) fun fr => ?_
      refine x_p rfl ?_
      refine v_done ?_
      refine x_e rfl ?_
      refine r_T rfl ?_
      refine r_call (hc_65 (n0 := e0.N) (low1 := 0) (high2 := w64 (z1.versions - 1))) ?_
      rintro _ _ ⟨rfl,rfl⟩
      refine r_done ⟨rfl,k_a (le_w [true,false,true,true]) (le_w [false,false,true,true]),?_⟩
      refine x_p rfl ?_
      refine v_done ?_
      refine x_e rfl ?_
      refine r_s 1 tt_ok (en_Entry (⟨e0.Kind,e0.Tick,e0.Tenant,e0.Cell,(-1),e0.Epoch,0,0,e0.N⟩ : Entry)) (fit1 ts_3 (by kernel_rfl)) rfl (by kernel_rfl) (by kernel_rfl) ?_
      refine r_done ⟨rfl,k_a (le_w [true,false,true,true]) (le_w [false,false,true,true]),?_⟩
      refine x_e rfl ?_
      refine r_s 0 tt_ok ([.bool (entry_between e0.N 0 (w64 (z1.versions - 1)))]) (fit1 ts_4 (by kernel_rfl)) rfl (by kernel_rfl) (by kernel_rfl) ?_
      refine r_done ⟨rfl,k_b rfl (le_w [false,false,true,true]),?_⟩
      refine x_k [] (by kernel_rfl) fun fr => ?_
      exact r_done ⟨(entry_between e0.N 0 (w64 (z1.versions - 1))),_,h,fr_eq _ (by kernel_rfl),(by kernel_rfl)⟩
     ·replace h := h_f h hb26
      clear hb26
      refine v_done ?_
      refine x_vb rfl ?_
      refine v_F rfl ?_
      refine v_done ?_
      refine x_p rfl ?_
      refine v_F rfl ?_
      refine v_done ?_
      refine x_p rfl ?_
      refine v_F rfl ?_
      refine v_done ?_
      refine x_kp [(3,.pointer (some ⟨bq5,0,none⟩)),(4,.pointer (some ⟨bq3,0,none⟩)),(8,.int .i64 e0.N),(10,.bool false),(12,undef),(13,undef),(14,undef)] (by kernel_rfl) fun fr => ?_
      refine x_p rfl ?_
      refine v_done ?_
      refine x_e rfl ?_
      refine r_F rfl ?_
      refine r_done ⟨rfl,k_a (le_w [true,false,true,true]) (le_w [false,false,true,true]),?_⟩
      refine x_p rfl ?_
      refine v_F rfl ?_
      refine v_done ?_
      refine x_e rfl ?_
      refine r_s 1 tt_ok (en_Entry (⟨e0.Kind,e0.Tick,e0.Tenant,e0.Cell,(-1),e0.Epoch,0,0,e0.N⟩ : Entry)) (fit1 ts_3 (by kernel_rfl)) rfl (by kernel_rfl) (by kernel_rfl) ?_
      refine r_done ⟨rfl,k_a (le_w [true,false,true,true]) (le_w [false,false,true,true]),?_⟩
      refine x_e rfl ?_
      refine r_s 0 tt_ok ([.bool false]) (fit1 ts_4 (by kernel_rfl)) rfl (by kernel_rfl) (by kernel_rfl) ?_
      refine r_done ⟨rfl,k_b rfl (le_w [false,false,true,true]),?_⟩
      refine x_k [] (by kernel_rfl) fun fr => ?_
      exact r_done ⟨false,_,h,fr_eq _ (by kernel_rfl),(by kernel_rfl)⟩
     clear h
     rintro fr S ⟨y27,fr,h,rfl,rfl⟩
     replace h := hK29 _ h
     repeat refine r_done ?_
     refine ret_of RV.nil (Le.refl _) ?_
     refine r_done ?_
     refine r_bind ?_
     refine r_mix tt_ok hm_ok _ _ [] (.pure 0 (.vb 1 (.pure 2 (.vb 3 (.pure 4 (.eff 5 (.pure 6 (.eff 7 .nil)))))))) (le_w [true,false,true,true]) (le_w [true,false,true,true]) ?_ ?_
     ·decide +kernel
     refine x_p rfl ?_
     refine v_done ?_
     refine x_vb rfl ?_
     refine v_ld 2 tt_ok (v := .int .i64 e0.From) ts_3 rfl (by kernel_rfl) ?_
     refine v_done ?_
     refine x_kp [(2,.pointer (some ⟨bq1,0,none⟩)),(5,.pointer (some ⟨bq3,0,none⟩)),(6,.pointer (some ⟨bq5,0,none⟩)),(69,.int .i64 e0.From)] (by kernel_rfl) fun fr => ?_
     refine x_p rfl ?_
     refine v_done ?_
     refine x_vb rfl ?_
     refine v_ld 2 tt_ok (v := .int .i64 e0.Until) ts_3 rfl (by kernel_rfl) ?_
     refine v_done ?_
     refine x_p rfl ?_
     refine v_done ?_
     refine x_e rfl ?_
     refine r_s 1 tt_ok (en_Entry (⟨e0.Kind,e0.Tick,e0.Tenant,e0.Cell,(-1),e0.Epoch,e0.From,0,e0.N⟩ : Entry)) (fit1 ts_3 (by kernel_rfl)) rfl (by kernel_rfl) (by kernel_rfl) ?_
     refine r_done ⟨rfl,k_a (le_w [true,false,true,true]) (le_w [true,false,true,true]),?_⟩
     refine x_p rfl ?_
     refine v_done ?_
     refine x_e rfl ?_
     refine r_s 1 tt_ok (en_Entry (⟨e0.Kind,e0.Tick,e0.Tenant,e0.Cell,(-1),e0.Epoch,e0.From,e0.Until,e0.N⟩ : Entry)) (fit1 ts_3 (by kernel_rfl)) rfl (by kernel_rfl) (by kernel_rfl) ?_
     refine r_done ⟨rfl,k_a (le_w [true,false,true,true]) (le_w [true,false,true,true]),?_⟩
     refine x_k [(2,.pointer (some ⟨bq1,0,none⟩)),(5,.pointer (some ⟨bq3,0,none⟩)),(6,.pointer (some ⟨bq5,0,none⟩))] (by kernel_rfl) fun fr => ?_
     refine r_done ?_
     replace h := h_j h; obtain ⟨K33,h,hK34⟩ := h
     refine r_meet (fun fr S => ∃ (y32 : Bool),∃ fr0,K33 y32 = some r ∧ fr = updL [(2,.pointer (some ⟨bq1,0,none⟩)),(5,.pointer (some ⟨bq3,0,none⟩)),(6,.pointer (some ⟨bq5,0,none⟩))] fr0 ∧ S = ⟨ρ,.obj bq5 ([.bool y32]) 4 :: .obj bq3 (en_Entry (⟨e0.Kind,e0.Tick,e0.Tenant,e0.Cell,(-1),e0.Epoch,e0.From,e0.Until,e0.N⟩ : Entry)) 45 :: .obj bq1 (en_Entry e0) 45 :: L⟩) ?_ ?_
     ·refine r_ld 0 tt_ok (v := .bool y27) ts_4 rfl (by kernel_rfl) ?_
      refine r_ite (fun (hb30 : y27 = true) => ?_) (fun (hb30 : y27 = false) => ?_)
      ·replace h := h_t h hb30
       clear hb30
       refine r_kp [(2,.pointer (some ⟨bq1,0,none⟩)),(5,.pointer (some ⟨bq3,0,none⟩)),(6,.pointer (some ⟨bq5,0,none⟩)),(75,.bool true),(76,.pointer (some ⟨bq1,6,none⟩))] (by kernel_rfl) fun fr => ?_
       refine r_T rfl ?_
       refine r_ld 3 tt_ok (v := .int .i64 e0.From) ts_3 rfl (by kernel_rfl) ?_
       refine r_T rfl ?_
       refine r_call (hc_65 (n0 := e0.From) (low1 := 0) (high2 := 1073741824)) ?_
       rintro _ _ ⟨rfl,rfl⟩
       refine r_ite (fun (hb31 : (entry_between e0.From 0 1073741824) = true) => ?_) (fun (hb31 : (entry_between e0.From 0 1073741824) = false) => ?_)
       ·replace h := h_t h hb31
        clear hb31
        refine r_T rfl ?_
        refine r_ld 3 tt_ok (v := .int .i64 e0.Until) ts_3 rfl (by kernel_rfl) ?_
        refine r_T rfl ?_
        refine r_call (hc_65 (n0 := e0.Until) (low1 := 0) (high2 := 1073741824)) ?_
        rintro _ _ ⟨rfl,rfl⟩
        refine r_s 0 tt_ok ([.bool (entry_between e0.Until 0 1073741824)]) (fit1 ts_4 (by kernel_rfl)) rfl (by kernel_rfl) (by kernel_rfl) ?_
        refine r_keep [(2,.pointer (some ⟨bq1,0,none⟩)),(5,.pointer (some ⟨bq3,0,none⟩)),(6,.pointer (some ⟨bq5,0,none⟩))] (by kernel_rfl) fun fr => ?_
        refine r_le (le_w [true,true,false,true]) ?_
        exact r_done ⟨(entry_between e0.Until 0 1073741824),_,h,fr_eq _ (by kernel_rfl),(by kernel_rfl)⟩
       ·replace h := h_f h hb31
        clear hb31
        refine r_F rfl ?_
        refine r_F rfl ?_
        refine r_F rfl ?_
        refine r_s 0 tt_ok ([.bool false]) (fit1 ts_4 (by kernel_rfl)) rfl (by kernel_rfl) (by kernel_rfl) ?_
        refine r_keep [(2,.pointer (some ⟨bq1,0,none⟩)),(5,.pointer (some ⟨bq3,0,none⟩)),(6,.pointer (some ⟨bq5,0,none⟩))] (by kernel_rfl) fun fr => ?_
        refine r_le (le_w [true,true,false,true]) ?_
        exact r_done ⟨false,_,h,fr_eq _ (by kernel_rfl),(by kernel_rfl)⟩
      ·replace h := h_f h hb30
       clear hb30
       refine r_kp [(2,.pointer (some ⟨bq1,0,none⟩)),(5,.pointer (some ⟨bq3,0,none⟩)),(6,.pointer (some ⟨bq5,0,none⟩)),(75,.bool false),(76,undef)] (by kernel_rfl) fun fr => ?_
       refine r_F rfl ?_
       refine r_F rfl ?_
       refine r_F rfl ?_
       refine r_F rfl ?_
       refine r_F rfl ?_
       refine r_F rfl ?_
       refine r_F rfl ?_
       refine r_s 0 tt_ok ([.bool false]) (fit1 ts_4 (by kernel_rfl)) rfl (by kernel_rfl) (by kernel_rfl) ?_
       refine r_keep [(2,.pointer (some ⟨bq1,0,none⟩)),(5,.pointer (some ⟨bq3,0,none⟩)),(6,.pointer (some ⟨bq5,0,none⟩))] (by kernel_rfl) fun fr => ?_
       refine r_le (le_w [true,true,false,true]) ?_
       exact r_done ⟨false,_,h,fr_eq _ (by kernel_rfl),(by kernel_rfl)⟩
     clear h
     rintro fr S ⟨y32,fr,h,rfl,rfl⟩
     replace h := hK34 _ h
     refine r_done ?_
     exact r_done ⟨(⟨e0.Kind,e0.Tick,e0.Tenant,e0.Cell,(-1),e0.Epoch,e0.From,e0.Until,e0.N⟩ : Entry),y32,_,h,fr_eq _ (by kernel_rfl),(by kernel_rfl)⟩
    ·replace h := h_f h hb17
     clear hb17
     refine r_bind ?_
     refine r_done ?_
     refine r_ite (fun hb35 => ?_) (fun hb35 => ?_)
     ·replace h := h_t h hb35
      clear hb35
      refine r_bind ?_
      refine r_inl (HC.intro (N := 15) (args := [_,_,_,_]) tt_ok Try.func66 rfl (by decide +kernel) rfl (Nat.le_of_ble_eq_true rfl) ?_)
      refine r_mix tt_ok hm_ok _ _ [12] (.pure 0 (.vb 1 (.va 2 (.pure 3 (.pure 4 (.vb 5 (.pure 6 (.vb 7 (.pure 10 (.eff 8 (.pure 9 (.eff 11 (.eff 12 .nil))))))))))))) (le_w [true,false,true,true]) (le_w [false,false,true,true]) ?_ ?_
      ·decide +kernel
      refine x_p rfl ?_
      refine v_done ?_
      refine x_vb rfl ?_
      refine v_ld 1 tt_ok (v := .int .i64 e0.Tenant) ts_3 rfl (by kernel_rfl) ?_
      refine v_done ?_
      refine x_va rfl ?_
      refine v_ld 0 tt_ok (v := .bool true) ts_4 rfl (by kernel_rfl) ?_
      refine v_done ?_
      refine x_p rfl ?_
      refine v_done ?_
      refine x_p rfl ?_
      refine v_T rfl ?_
      refine v_done ?_
      refine x_vb rfl ?_
      refine v_T rfl ?_
      refine v_ld 1 tt_ok (v := .int .i64 e0.Tenant) ts_3 rfl (by kernel_rfl) ?_
      refine v_done ?_
      refine x_p rfl ?_
      refine v_T rfl ?_
      refine v_done ?_
      refine x_vb rfl ?_
      refine v_T rfl ?_
      refine v_ld 0 tt_ok (v := .int .i64 z1.tenants) ts_3 rfl (by kernel_rfl) ?_
      refine v_done ?_
      refine x_p rfl ?_
      refine v_done ?_
      refine x_kp [(1,.pointer (some ⟨bq5,0,none⟩)),(5,.int .i64 e0.Tenant),(7,.bool true),(9,.int .i64 e0.Tenant),(11,.int .i64 z1.tenants),(14,.pointer (some ⟨bq3,2,none⟩))] (by kernel_rfl) fun fr => ?_
      refine x_e rfl ?_
      refine r_T rfl ?_
      refine r_call (hc_67 (n0 := e0.Tenant) (size1 := z1.tenants)) ?_
      rintro _ _ ⟨rfl,rfl⟩
      refine r_done ⟨rfl,k_a (le_w [true,false,true,true]) (le_w [false,false,true,true]),?_⟩
      refine x_p rfl ?_
      refine v_done ?_
      refine x_e rfl ?_
      refine r_s 1 tt_ok (en_Entry (⟨e0.Kind,e0.Tick,e0.Tenant,(-1),(-1),0,0,0,0⟩ : Entry)) (fit1 ts_3 (by kernel_rfl)) rfl (by kernel_rfl) (by kernel_rfl) ?_
      refine r_done ⟨rfl,k_a (le_w [true,false,true,true]) (le_w [false,false,true,true]),?_⟩
      refine x_e rfl ?_
      refine r_s 0 tt_ok ([.bool (entry_index e0.Tenant z1.tenants)]) (fit1 ts_4 (by kernel_rfl)) rfl (by kernel_rfl) (by kernel_rfl) ?_
      refine r_done ⟨rfl,k_b rfl (le_w [false,false,true,true]),?_⟩
      refine x_k [] (by kernel_rfl) fun fr => ?_
      repeat refine r_done ?_
      refine ret_of RV.nil (Le.refl _) ?_
      refine r_keep [(2,.pointer (some ⟨bq1,0,none⟩)),(5,.pointer (some ⟨bq3,0,none⟩)),(6,.pointer (some ⟨bq5,0,none⟩)),(10,.func (.func 70) #[] #[.pointer (some ⟨bq1,0,none⟩),.pointer (some ⟨bq5,0,none⟩),.pointer (some ⟨bq3,0,none⟩)])] (by kernel_rfl) fun fr => ?_
      refine r_done ?_
      refine r_inl (HC.intro (N := 12) (args := [_,_,_]) tt_ok Try.func70 rfl (by decide +kernel) rfl (Nat.le_of_ble_eq_true rfl) ?_)
      replace h := h_j h; obtain ⟨K38,h,hK39⟩ := h
      refine r_meet (fun fr S => ∃ (y37 : Bool),∃ fr0,K38 y37 = some r ∧ fr = updL [] fr0 ∧ S = ⟨ρ,.obj bq5 ([.bool y37]) 4 :: .obj bq3 (en_Entry (⟨e0.Kind,e0.Tick,e0.Tenant,(-1),(-1),e0.Epoch,0,0,0⟩ : Entry)) 45 :: .obj bq2 (en_entry_sizes z1) 93 :: .obj bq1 (en_Entry e0) 45 :: L⟩) ?_ ?_
      refine r_mix tt_ok hm_ok _ _ [10] (.pure 0 (.vb 1 (.va 2 (.pure 3 (.pure 4 (.vb 5 (.pure 8 (.eff 6 (.pure 7 (.eff 9 (.eff 10 .nil))))))))))) (le_w [true,false,true,true]) (le_w [false,false,true,true]) ?_ ?_
      ·decide +kernel
      refine x_p rfl ?_
      refine v_done ?_
      refine x_vb rfl ?_
      refine v_ld 1 tt_ok (v := .int .i64 e0.Epoch) ts_3 rfl (by kernel_rfl) ?_
      refine v_done ?_
      refine x_va rfl ?_
      refine v_ld 0 tt_ok (v := .bool (entry_index e0.Tenant z1.tenants)) ts_4 rfl (by kernel_rfl) ?_
      refine v_done ?_
      refine x_p rfl ?_
      refine v_done ?_
      refine x_p rfl ?_
      refine v_ite (fun (hb36 : (entry_index e0.Tenant z1.tenants) = true) => ?_) (fun (hb36 : (entry_index e0.Tenant z1.tenants) = false) => ?_)
      ·replace h := h_t h hb36
       clear hb36
       refine v_done ?_
       refine x_vb rfl ?_
       refine v_T rfl ?_
       refine v_ld 1 tt_ok (v := .int .i64 e0.Epoch) ts_3 rfl (by kernel_rfl) ?_
       refine v_done ?_
       refine x_p rfl ?_
       refine v_done ?_
       refine x_e rfl ?_
       refine r_T rfl ?_
       refine r_call (hc_65 (n0 := e0.Epoch) (low1 := 1) (high2 := 1048576)) ?_
       rintro _ _ ⟨rfl,rfl⟩
       refine r_done ⟨rfl,k_a (le_w [true,false,true,true]) (le_w [false,false,true,true]),?_⟩
       refine x_kp [(1,.pointer (some ⟨bq5,0,none⟩)),(4,.int .i64 e0.Epoch),(6,.bool true),(9,.bool (entry_between e0.Epoch 1 1048576)),(11,.pointer (some ⟨bq3,5,none⟩))] (by kernel_rfl) fun fr => ?_
       refine x_p rfl ?_
       refine v_done ?_
       refine x_e rfl ?_
       refine r_s 1 tt_ok (en_Entry (⟨e0.Kind,e0.Tick,e0.Tenant,(-1),(-1),e0.Epoch,0,0,0⟩ : Entry)) (fit1 ts_3 (by kernel_rfl)) rfl (by kernel_rfl) (by kernel_rfl) ?_
       refine r_done ⟨rfl,k_a (le_w [true,false,true,true]) (le_w [false,false,true,true]),?_⟩
       refine x_e rfl ?_
       refine r_s 0 tt_ok ([.bool (entry_between e0.Epoch 1 1048576)]) (fit1 ts_4 (by kernel_rfl)) rfl (by kernel_rfl) (by kernel_rfl) ?_
       refine r_done ⟨rfl,k_b rfl (le_w [false,false,true,true]),?_⟩
       refine x_k [] (by kernel_rfl) fun fr => ?_
       exact r_done ⟨(entry_between e0.Epoch 1 1048576),_,h,fr_eq _ (by kernel_rfl),(by kernel_rfl)⟩
      ·replace h := h_f h hb36
       clear hb36
       refine v_done ?_
       refine x_vb rfl ?_
       refine v_F rfl ?_
       refine v_done ?_
       refine x_p rfl ?_
       refine v_done ?_
       refine x_e rfl ?_
       refine r_F rfl ?_
       refine r_done ⟨rfl,k_a (le_w [true,false,true,true]) (le_w [false,false,true,true]),?_⟩
       refine x_kp [(1,.pointer (some ⟨bq5,0,none⟩)),(4,.int .i64 e0.Epoch),(6,.bool false),(9,undef),(11,.pointer (some ⟨bq3,5,none⟩))] (by kernel_rfl) fun fr => ?_
       refine x_p rfl ?_
       refine v_F rfl ?_
       refine v_done ?_
       refine x_e rfl ?_
       refine r_s 1 tt_ok (en_Entry (⟨e0.Kind,e0.Tick,e0.Tenant,(-1),(-1),e0.Epoch,0,0,0⟩ : Entry)) (fit1 ts_3 (by kernel_rfl)) rfl (by kernel_rfl) (by kernel_rfl) ?_
       refine r_done ⟨rfl,k_a (le_w [true,false,true,true]) (le_w [false,false,true,true]),?_⟩
       refine x_e rfl ?_
       refine r_s 0 tt_ok ([.bool false]) (fit1 ts_4 (by kernel_rfl)) rfl (by kernel_rfl) (by kernel_rfl) ?_
       refine r_done ⟨rfl,k_b rfl (le_w [false,false,true,true]),?_⟩
       refine x_k [] (by kernel_rfl) fun fr => ?_
       exact r_done ⟨false,_,h,fr_eq _ (by kernel_rfl),(by kernel_rfl)⟩
      clear h
      rintro fr S ⟨y37,fr,h,rfl,rfl⟩
      replace h := hK39 _ h
      repeat refine r_done ?_
      refine ret_of RV.nil (Le.refl _) ?_
      refine r_done ?_
      refine r_le (le_w [true,true,false,true]) ?_
      exact r_done ⟨(⟨e0.Kind,e0.Tick,e0.Tenant,(-1),(-1),e0.Epoch,0,0,0⟩ : Entry),y37,_,h,fr_eq _ (by kernel_rfl),(by kernel_rfl)⟩
     ·replace h := h_f h hb35
      clear hb35
      refine r_bind ?_
      refine r_keep [(2,.pointer (some ⟨bq1,0,none⟩)),(3,.pointer (some ⟨bq2,0,none⟩)),(5,.pointer (some ⟨bq3,0,none⟩)),(6,.pointer (some ⟨bq5,0,none⟩)),(7,.func (.func 66) #[] #[.pointer (some ⟨bq1,0,none⟩),.pointer (some ⟨bq5,0,none⟩),.pointer (some ⟨bq2,0,none⟩),.pointer (some ⟨bq3,0,none⟩)]),(8,.func (.func 68) #[] #[.pointer (some ⟨bq1,0,none⟩),.pointer (some ⟨bq5,0,none⟩),.pointer (some ⟨bq2,0,none⟩),.pointer (some ⟨bq3,0,none⟩)]),(9,.func (.func 69) #[] #[.pointer (some ⟨bq1,0,none⟩),.pointer (some ⟨bq5,0,none⟩),.pointer (some ⟨bq3,0,none⟩)]),(25,.int .i64 e0.Kind),(91,.bool (decide (e0.Kind = 4)))] (by kernel_rfl) fun fr => ?_
      refine r_done ?_
      refine r_ite (fun hb40 => ?_) (fun hb40 => ?_)
      ·replace h := h_t h hb40
       clear hb40
       refine r_bind ?_
       refine r_inl (HC.intro (N := 15) (args := [_,_,_,_]) tt_ok Try.func66 rfl (by decide +kernel) rfl (Nat.le_of_ble_eq_true rfl) ?_)
       refine r_mix tt_ok hm_ok _ _ [12] (.pure 0 (.vb 1 (.va 2 (.pure 3 (.pure 4 (.vb 5 (.pure 6 (.vb 7 (.pure 10 (.eff 8 (.pure 9 (.eff 11 (.eff 12 .nil))))))))))))) (le_w [true,false,true,true]) (le_w [false,false,true,true]) ?_ ?_
       ·decide +kernel
       refine x_p rfl ?_
       refine v_done ?_
       refine x_vb rfl ?_
       refine v_ld 1 tt_ok (v := .int .i64 e0.Tenant) ts_3 rfl (by kernel_rfl) ?_
       refine v_done ?_
       refine x_va rfl ?_
       refine v_ld 0 tt_ok (v := .bool true) ts_4 rfl (by kernel_rfl) ?_
       refine v_done ?_
       refine x_p rfl ?_
       refine v_done ?_
       refine x_p rfl ?_
       refine v_T rfl ?_
       refine v_done ?_
       refine x_vb rfl ?_
       refine v_T rfl ?_
       refine v_ld 1 tt_ok (v := .int .i64 e0.Tenant) ts_3 rfl (by kernel_rfl) ?_
       refine v_done ?_
       refine x_p rfl ?_
       refine v_T rfl ?_
       refine v_done ?_
       refine x_vb rfl ?_
       refine v_T rfl ?_
       refine v_ld 0 tt_ok (v := .int .i64 z1.tenants) ts_3 rfl (by kernel_rfl) ?_
       refine v_done ?_
       refine x_p rfl ?_
       refine v_done ?_
       refine x_kp [(1,.pointer (some ⟨bq5,0,none⟩)),(5,.int .i64 e0.Tenant),(7,.bool true),(9,.int .i64 e0.Tenant),(11,.int .i64 z1.tenants),(14,.pointer (some ⟨bq3,2,none⟩))] (by kernel_rfl) fun fr => ?_
       refine x_e rfl ?_
       refine r_T rfl ?_
       refine r_call (hc_67 (n0 := e0.Tenant) (size1 := z1.tenants)) ?_
       rintro _ _ ⟨rfl,rfl⟩
       refine r_done ⟨rfl,k_a (le_w [true,false,true,true]) (le_w [false,false,true,true]),?_⟩
       refine x_p rfl ?_
       refine v_done ?_
       refine x_e rfl ?_
       refine r_s 1 tt_ok (en_Entry (⟨e0.Kind,e0.Tick,e0.Tenant,(-1),(-1),0,0,0,0⟩ : Entry)) (fit1 ts_3 (by kernel_rfl)) rfl (by kernel_rfl) (by kernel_rfl) ?_
       refine r_done ⟨rfl,k_a (le_w [true,false,true,true]) (le_w [false,false,true,true]),?_⟩
       refine x_e rfl ?_
       refine r_s 0 tt_ok ([.bool (entry_index e0.Tenant z1.tenants)]) (fit1 ts_4 (by kernel_rfl)) rfl (by kernel_rfl) (by kernel_rfl) ?_
       refine r_done ⟨rfl,k_b rfl (le_w [false,false,true,true]),?_⟩
       refine x_k [] (by kernel_rfl) fun fr => ?_
       repeat refine r_done ?_
       refine ret_of RV.nil (Le.refl _) ?_
       refine r_done ?_
       replace h := h_j h; obtain ⟨K44,h,hK45⟩ := h
       refine r_meet (fun fr S => ∃ (y43 : Bool),∃ fr0,K44 y43 = some r ∧ fr = updL [(2,.pointer (some ⟨bq1,0,none⟩)),(5,.pointer (some ⟨bq3,0,none⟩)),(6,.pointer (some ⟨bq5,0,none⟩))] fr0 ∧ S = ⟨ρ,.obj bq5 ([.bool y43]) 4 :: .obj bq3 (en_Entry (⟨e0.Kind,e0.Tick,e0.Tenant,e0.Cell,(-1),0,0,0,0⟩ : Entry)) 45 :: .obj bq1 (en_Entry e0) 45 :: L⟩) ?_ ?_
       refine r_mix tt_ok hm_ok _ _ [17] (.pure 0 (.vb 1 (.va 2 (.pure 3 (.pure 4 (.vb 5 (.pure 6 (.pure 7 (.pure 8 (.vb 9 (.pure 10 (.vb 11 (.pure 15 (.eff 12 (.pure 13 (.pure 14 (.eff 16 (.eff 17 .nil)))))))))))))))))) (le_w [true,false,true,true]) (le_w [false,false,true,true]) ?_ ?_
       ·decide +kernel
       refine x_p rfl ?_
       refine v_done ?_
       refine x_vb rfl ?_
       refine v_ld 1 tt_ok (v := .int .i64 e0.Cell) ts_3 rfl (by kernel_rfl) ?_
       refine v_done ?_
       refine x_va rfl ?_
       refine v_ld 0 tt_ok (v := .bool (entry_index e0.Tenant z1.tenants)) ts_4 rfl (by kernel_rfl) ?_
       refine v_done ?_
       refine x_p rfl ?_
       refine v_done ?_
       refine x_p rfl ?_
       refine v_ite (fun (hb41 : (entry_index e0.Tenant z1.tenants) = true) => ?_) (fun (hb41 : (entry_index e0.Tenant z1.tenants) = false) => ?_)
       ·replace h := h_t h hb41
        clear hb41
        refine v_done ?_
        refine x_vb rfl ?_
        refine v_T rfl ?_
        refine v_ld 1 tt_ok (v := .int .i64 e0.Cell) ts_3 rfl (by kernel_rfl) ?_
        refine v_done ?_
        refine x_kp [(2,.pointer (some ⟨bq1,0,none⟩)),(3,.pointer (some ⟨bq2,0,none⟩)),(5,.pointer (some ⟨bq3,0,none⟩)),(6,.pointer (some ⟨bq5,0,none⟩)),(96,.int .i64 e0.Cell),(98,.bool true),(100,.int .i64 e0.Cell)] (by kernel_rfl) fun fr => ?_
        refine x_p rfl ?_
        refine v_T rfl ?_
        refine v_done ?_
        refine x_p rfl ?_
        refine v_T rfl ?_
        refine v_done ?_
        refine x_p rfl ?_
        refine v_ite (fun (hb42 : (decide (e0.Cell = (-1))) = true) => ?_) (fun (hb42 : (decide (e0.Cell = (-1))) = false) => ?_)
        ·replace h := h_t h hb42
         clear hb42
         refine v_done ?_
         refine x_vb rfl ?_
         refine v_T rfl ?_
         refine v_done ?_
         refine x_p rfl ?_
         refine v_T rfl ?_
         refine v_done ?_
         refine x_vb rfl ?_
         refine v_T rfl ?_
         refine v_done ?_
         refine x_p rfl ?_
         refine v_done ?_
         refine x_e rfl ?_
         refine r_T rfl ?_
         refine r_done ⟨rfl,k_a (le_w [true,false,true,true]) (le_w [false,false,true,true]),?_⟩
         refine x_p rfl ?_
         refine v_T rfl ?_
         refine v_T rfl ?_
         refine v_done ?_
         refine x_kp [(2,.pointer (some ⟨bq1,0,none⟩)),(5,.pointer (some ⟨bq3,0,none⟩)),(6,.pointer (some ⟨bq5,0,none⟩)),(96,.int .i64 e0.Cell),(98,.bool true),(108,.bool true),(110,.pointer (some ⟨bq3,3,none⟩))] (by kernel_rfl) fun fr => ?_
         refine x_p rfl ?_
         refine v_done ?_
         refine x_e rfl ?_
         refine r_s 1 tt_ok (en_Entry (⟨e0.Kind,e0.Tick,e0.Tenant,e0.Cell,(-1),0,0,0,0⟩ : Entry)) (fit1 ts_3 (by kernel_rfl)) rfl (by kernel_rfl) (by kernel_rfl) ?_
         refine r_done ⟨rfl,k_a (le_w [true,false,true,true]) (le_w [false,false,true,true]),?_⟩
         refine x_e rfl ?_
         refine r_s 0 tt_ok ([.bool true]) (fit1 ts_4 (by kernel_rfl)) rfl (by kernel_rfl) (by kernel_rfl) ?_
         refine r_done ⟨rfl,k_b rfl (le_w [false,false,true,true]),?_⟩
         refine x_k [(2,.pointer (some ⟨bq1,0,none⟩)),(5,.pointer (some ⟨bq3,0,none⟩)),(6,.pointer (some ⟨bq5,0,none⟩))] (by kernel_rfl) fun fr => ?_
         refine r_le (le_w [true,true,false,true]) ?_
         exact r_done ⟨true,_,h,fr_eq _ (by kernel_rfl),(by kernel_rfl)⟩
        ·replace h := h_f h hb42
         clear hb42
         refine v_done ?_
         refine x_vb rfl ?_
         refine v_F rfl ?_
         refine v_ld 1 tt_ok (v := .int .i64 e0.Cell) ts_3 rfl (by kernel_rfl) ?_
         refine v_done ?_
         refine x_p rfl ?_
         refine v_F rfl ?_
         refine v_done ?_
         refine x_vb rfl ?_
         refine v_F rfl ?_
         refine v_ld 0 tt_ok (v := .int .i64 z1.cells) ts_3 rfl (by kernel_rfl) ?_
         refine v_done ?_
         refine x_p rfl ?_
         refine v_done ?_
         refine x_e rfl ?_
         refine r_F rfl ?_
         refine r_call (hc_67 (n0 := e0.Cell) (size1 := z1.cells)) ?_
         rintro _ _ ⟨rfl,rfl⟩
         refine r_done ⟨rfl,k_a (le_w [true,false,true,true]) (le_w [false,false,true,true]),?_⟩
         refine x_p rfl ?_
         refine v_T rfl ?_
         refine v_done ?_
         refine x_kp [(2,.pointer (some ⟨bq1,0,none⟩)),(5,.pointer (some ⟨bq3,0,none⟩)),(6,.pointer (some ⟨bq5,0,none⟩)),(96,.int .i64 e0.Cell),(98,.bool true),(108,.bool (entry_index e0.Cell z1.cells)),(110,.pointer (some ⟨bq3,3,none⟩))] (by kernel_rfl) fun fr => ?_
         refine x_p rfl ?_
         refine v_done ?_
         refine x_e rfl ?_
         refine r_s 1 tt_ok (en_Entry (⟨e0.Kind,e0.Tick,e0.Tenant,e0.Cell,(-1),0,0,0,0⟩ : Entry)) (fit1 ts_3 (by kernel_rfl)) rfl (by kernel_rfl) (by kernel_rfl) ?_
         refine r_done ⟨rfl,k_a (le_w [true,false,true,true]) (le_w [false,false,true,true]),?_⟩
         refine x_e rfl ?_
         refine r_s 0 tt_ok ([.bool (entry_index e0.Cell z1.cells)]) (fit1 ts_4 (by kernel_rfl)) rfl (by kernel_rfl) (by kernel_rfl) ?_
         refine r_done ⟨rfl,k_b rfl (le_w [false,false,true,true]),?_⟩
         refine x_k [(2,.pointer (some ⟨bq1,0,none⟩)),(5,.pointer (some ⟨bq3,0,none⟩)),(6,.pointer (some ⟨bq5,0,none⟩))] (by kernel_rfl) fun fr => ?_
         refine r_le (le_w [true,true,false,true]) ?_
         exact r_done ⟨(entry_index e0.Cell z1.cells),_,h,fr_eq _ (by kernel_rfl),(by kernel_rfl)⟩
       ·replace h := h_f h hb41
        clear hb41
        refine v_done ?_
        refine x_vb rfl ?_
        refine v_F rfl ?_
        refine v_done ?_
        refine x_kp [(2,.pointer (some ⟨bq1,0,none⟩)),(3,.pointer (some ⟨bq2,0,none⟩)),(5,.pointer (some ⟨bq3,0,none⟩)),(6,.pointer (some ⟨bq5,0,none⟩)),(96,.int .i64 e0.Cell),(98,.bool false),(100,undef)] (by kernel_rfl) fun fr => ?_
        refine x_p rfl ?_
        refine v_F rfl ?_
        refine v_done ?_
        refine x_p rfl ?_
        refine v_F rfl ?_
        refine v_done ?_
        refine x_p rfl ?_
        refine v_done ?_
        refine x_vb rfl ?_
        refine v_done ?_
        refine x_p rfl ?_
        refine v_done ?_
        refine x_vb rfl ?_
        refine v_done ?_
        refine x_p rfl ?_
        refine v_done ?_
        refine x_e rfl ?_
        refine r_done ⟨rfl,k_a (le_w [true,false,true,true]) (le_w [false,false,true,true]),?_⟩
        refine x_p rfl ?_
        refine v_F rfl ?_
        refine v_done ?_
        refine x_kp [(2,.pointer (some ⟨bq1,0,none⟩)),(5,.pointer (some ⟨bq3,0,none⟩)),(6,.pointer (some ⟨bq5,0,none⟩)),(96,.int .i64 e0.Cell),(98,.bool false),(108,undef),(110,.pointer (some ⟨bq3,3,none⟩))] (by kernel_rfl) fun fr => ?_
        refine x_p rfl ?_
        refine v_F rfl ?_
        refine v_done ?_
        refine x_e rfl ?_
        refine r_s 1 tt_ok (en_Entry (⟨e0.Kind,e0.Tick,e0.Tenant,e0.Cell,(-1),0,0,0,0⟩ : Entry)) (fit1 ts_3 (by kernel_rfl)) rfl (by kernel_rfl) (by kernel_rfl) ?_
        refine r_done ⟨rfl,k_a (le_w [true,false,true,true]) (le_w [false,false,true,true]),?_⟩
        refine x_e rfl ?_
        refine r_s 0 tt_ok ([.bool false]) (fit1 ts_4 (by kernel_rfl)) rfl (by kernel_rfl) (by kernel_rfl) ?_
        refine r_done ⟨rfl,k_b rfl (le_w [false,false,true,true]),?_⟩
        refine x_k [(2,.pointer (some ⟨bq1,0,none⟩)),(5,.pointer (some ⟨bq3,0,none⟩)),(6,.pointer (some ⟨bq5,0,none⟩))] (by kernel_rfl) fun fr => ?_
        refine r_le (le_w [true,true,false,true]) ?_
        exact r_done ⟨false,_,h,fr_eq _ (by kernel_rfl),(by kernel_rfl)⟩
       clear h
       rintro fr S ⟨y43,fr,h,rfl,rfl⟩
       replace h := hK45 _ h
       refine r_done ?_
       exact r_done ⟨(⟨e0.Kind,e0.Tick,e0.Tenant,e0.Cell,(-1),0,0,0,0⟩ : Entry),y43,_,h,fr_eq _ (by kernel_rfl),(by kernel_rfl)⟩
      ·replace h := h_f h hb40
       clear hb40
       refine r_bind ?_
       replace h := h_j h; obtain ⟨K48,h,hK49⟩ := h
       refine r_meet (fun fr S => ∃ (x47 : Bool),∃ fr0,K48 x47 = some r ∧ fr = updL [(2,.pointer (some ⟨bq1,0,none⟩)),(3,.pointer (some ⟨bq2,0,none⟩)),(5,.pointer (some ⟨bq3,0,none⟩)),(6,.pointer (some ⟨bq5,0,none⟩)),(7,.func (.func 66) #[] #[.pointer (some ⟨bq1,0,none⟩),.pointer (some ⟨bq5,0,none⟩),.pointer (some ⟨bq2,0,none⟩),.pointer (some ⟨bq3,0,none⟩)]),(8,.func (.func 68) #[] #[.pointer (some ⟨bq1,0,none⟩),.pointer (some ⟨bq5,0,none⟩),.pointer (some ⟨bq2,0,none⟩),.pointer (some ⟨bq3,0,none⟩)]),(9,.func (.func 69) #[] #[.pointer (some ⟨bq1,0,none⟩),.pointer (some ⟨bq5,0,none⟩),.pointer (some ⟨bq3,0,none⟩)]),(25,.int .i64 e0.Kind),(111,.bool x47)] fr0 ∧ S = ⟨ρ,.obj bq5 ([.bool true]) 4 :: .obj bq3 (en_Entry (⟨e0.Kind,e0.Tick,(-1),(-1),(-1),0,0,0,0⟩ : Entry)) 45 :: .obj bq2 (en_entry_sizes z1) 93 :: .obj bq1 (en_Entry e0) 45 :: L⟩) ?_ ?_
       ·refine r_bind ?_
        refine r_done ?_
        refine r_ite (fun hb46 => ?_) (fun hb46 => ?_)
        ·replace h := h_t h hb46
         clear hb46
         exact r_done ⟨true,_,h,fr_eq _ (by kernel_rfl),(by kernel_rfl)⟩
        ·replace h := h_f h hb46
         clear hb46
         exact r_done ⟨decide (e0.Kind = 6),_,h,fr_eq _ (by kernel_rfl),(by kernel_rfl)⟩
       clear h
       rintro fr S ⟨x47,fr,h,rfl,rfl⟩
       replace h := hK49 _ h
       refine r_done ?_
       refine r_ite (fun hb50 => ?_) (fun hb50 => ?_)
       ·replace h := h_t h hb50
        clear hb50
        refine r_bind ?_
        refine r_inl (HC.intro (N := 15) (args := [_,_,_,_]) tt_ok Try.func66 rfl (by decide +kernel) rfl (Nat.le_of_ble_eq_true rfl) ?_)
        refine r_mix tt_ok hm_ok _ _ [12] (.pure 0 (.vb 1 (.va 2 (.pure 3 (.pure 4 (.vb 5 (.pure 6 (.vb 7 (.pure 10 (.eff 8 (.pure 9 (.eff 11 (.eff 12 .nil))))))))))))) (le_w [true,false,true,true]) (le_w [false,false,true,true]) ?_ ?_
        ·decide +kernel
        refine x_p rfl ?_
        refine v_done ?_
        refine x_vb rfl ?_
        refine v_ld 1 tt_ok (v := .int .i64 e0.Tenant) ts_3 rfl (by kernel_rfl) ?_
        refine v_done ?_
        refine x_va rfl ?_
        refine v_ld 0 tt_ok (v := .bool true) ts_4 rfl (by kernel_rfl) ?_
        refine v_done ?_
        refine x_p rfl ?_
        refine v_done ?_
        refine x_p rfl ?_
        refine v_T rfl ?_
        refine v_done ?_
        refine x_vb rfl ?_
        refine v_T rfl ?_
        refine v_ld 1 tt_ok (v := .int .i64 e0.Tenant) ts_3 rfl (by kernel_rfl) ?_
        refine v_done ?_
        refine x_p rfl ?_
        refine v_T rfl ?_
        refine v_done ?_
        refine x_vb rfl ?_
        refine v_T rfl ?_
        refine v_ld 0 tt_ok (v := .int .i64 z1.tenants) ts_3 rfl (by kernel_rfl) ?_
        refine v_done ?_
        refine x_p rfl ?_
        refine v_done ?_
        refine x_kp [(1,.pointer (some ⟨bq5,0,none⟩)),(5,.int .i64 e0.Tenant),(7,.bool true),(9,.int .i64 e0.Tenant),(11,.int .i64 z1.tenants),(14,.pointer (some ⟨bq3,2,none⟩))] (by kernel_rfl) fun fr => ?_
        refine x_e rfl ?_
        refine r_T rfl ?_
        refine r_call (hc_67 (n0 := e0.Tenant) (size1 := z1.tenants)) ?_
        rintro _ _ ⟨rfl,rfl⟩
        refine r_done ⟨rfl,k_a (le_w [true,false,true,true]) (le_w [false,false,true,true]),?_⟩
        refine x_p rfl ?_
        refine v_done ?_
        refine x_e rfl ?_
        refine r_s 1 tt_ok (en_Entry (⟨e0.Kind,e0.Tick,e0.Tenant,(-1),(-1),0,0,0,0⟩ : Entry)) (fit1 ts_3 (by kernel_rfl)) rfl (by kernel_rfl) (by kernel_rfl) ?_
        refine r_done ⟨rfl,k_a (le_w [true,false,true,true]) (le_w [false,false,true,true]),?_⟩
        refine x_e rfl ?_
        refine r_s 0 tt_ok ([.bool (entry_index e0.Tenant z1.tenants)]) (fit1 ts_4 (by kernel_rfl)) rfl (by kernel_rfl) (by kernel_rfl) ?_
        refine r_done ⟨rfl,k_b rfl (le_w [false,false,true,true]),?_⟩
        refine x_k [] (by kernel_rfl) fun fr => ?_
        repeat refine r_done ?_
        refine ret_of RV.nil (Le.refl _) ?_
        refine r_done ?_
        refine r_inl (HC.intro (N := 15) (args := [_,_,_,_]) tt_ok Try.func68 rfl (by decide +kernel) rfl (Nat.le_of_ble_eq_true rfl) ?_)
        replace h := h_j h; obtain ⟨K53,h,hK54⟩ := h
        refine r_meet (fun fr S => ∃ (y52 : Bool),∃ fr0,K53 y52 = some r ∧ fr = updL [] fr0 ∧ S = ⟨ρ,.obj bq5 ([.bool y52]) 4 :: .obj bq3 (en_Entry (⟨e0.Kind,e0.Tick,e0.Tenant,e0.Cell,(-1),0,0,0,0⟩ : Entry)) 45 :: .obj bq2 (en_entry_sizes z1) 93 :: .obj bq1 (en_Entry e0) 45 :: L⟩) ?_ ?_
        refine r_mix tt_ok hm_ok _ _ [12] (.pure 0 (.vb 1 (.va 2 (.pure 3 (.pure 4 (.vb 5 (.pure 6 (.vb 7 (.pure 10 (.eff 8 (.pure 9 (.eff 11 (.eff 12 .nil))))))))))))) (le_w [true,false,true,true]) (le_w [false,false,true,true]) ?_ ?_
        ·decide +kernel
        refine x_p rfl ?_
        refine v_done ?_
        refine x_vb rfl ?_
        refine v_ld 1 tt_ok (v := .int .i64 e0.Cell) ts_3 rfl (by kernel_rfl) ?_
        refine v_done ?_
        refine x_va rfl ?_
        refine v_ld 0 tt_ok (v := .bool (entry_index e0.Tenant z1.tenants)) ts_4 rfl (by kernel_rfl) ?_
        refine v_done ?_
        refine x_p rfl ?_
        refine v_done ?_
        refine x_p rfl ?_
        refine v_ite (fun (hb51 : (entry_index e0.Tenant z1.tenants) = true) => ?_) (fun (hb51 : (entry_index e0.Tenant z1.tenants) = false) => ?_)
        ·replace h := h_t h hb51
         clear hb51
         refine v_done ?_
         refine x_vb rfl ?_
         refine v_T rfl ?_
         refine v_ld 1 tt_ok (v := .int .i64 e0.Cell) ts_3 rfl (by kernel_rfl) ?_
         refine v_done ?_
         refine x_p rfl ?_
         refine v_T rfl ?_
         refine v_done ?_
         refine x_vb rfl ?_
         refine v_T rfl ?_
         refine v_ld 0 tt_ok (v := .int .i64 z1.cells) ts_3 rfl (by kernel_rfl) ?_
         refine v_done ?_
         refine x_kp [(1,.pointer (some ⟨bq5,0,none⟩)),(3,.pointer (some ⟨bq3,0,none⟩)),(5,.int .i64 e0.Cell),(7,.bool true),(9,.int .i64 e0.Cell),(11,.int .i64 z1.cells)] (by kernel_rfl) fun fr => ?_
         refine x_p rfl ?_
         refine v_done ?_
         refine x_e rfl ?_
         refine r_T rfl ?_
         refine r_call (hc_67 (n0 := e0.Cell) (size1 := z1.cells)) ?_
         rintro _ _ ⟨rfl,rfl⟩
         refine r_done ⟨rfl,k_a (le_w [true,false,true,true]) (le_w [false,false,true,true]),?_⟩
         refine x_p rfl ?_
         refine v_done ?_
         refine x_e rfl ?_
         refine r_s 1 tt_ok (en_Entry (⟨e0.Kind,e0.Tick,e0.Tenant,e0.Cell,(-1),0,0,0,0⟩ : Entry)) (fit1 ts_3 (by kernel_rfl)) rfl (by kernel_rfl) (by kernel_rfl) ?_
         refine r_done ⟨rfl,k_a (le_w [true,false,true,true]) (le_w [false,false,true,true]),?_⟩
         refine x_e rfl ?_
         refine r_s 0 tt_ok ([.bool (entry_index e0.Cell z1.cells)]) (fit1 ts_4 (by kernel_rfl)) rfl (by kernel_rfl) (by kernel_rfl) ?_
         refine r_done ⟨rfl,k_b rfl (le_w [false,false,true,true]),?_⟩
         refine x_k [] (by kernel_rfl) fun fr => ?_
         exact r_done ⟨(entry_index e0.Cell z1.cells),_,h,fr_eq _ (by kernel_rfl),(by kernel_rfl)⟩
        ·replace h := h_f h hb51
         clear hb51
         refine v_done ?_
         refine x_vb rfl ?_
         refine v_F rfl ?_
         refine v_done ?_
         refine x_p rfl ?_
         refine v_F rfl ?_
         refine v_done ?_
         refine x_vb rfl ?_
         refine v_F rfl ?_
         refine v_done ?_
         refine x_kp [(1,.pointer (some ⟨bq5,0,none⟩)),(3,.pointer (some ⟨bq3,0,none⟩)),(5,.int .i64 e0.Cell),(7,.bool false),(9,undef),(11,undef)] (by kernel_rfl) fun fr => ?_
         refine x_p rfl ?_
         refine v_done ?_
         refine x_e rfl ?_
         refine r_F rfl ?_
         refine r_done ⟨rfl,k_a (le_w [true,false,true,true]) (le_w [false,false,true,true]),?_⟩
         refine x_p rfl ?_
         refine v_F rfl ?_
         refine v_done ?_
         refine x_e rfl ?_
         refine r_s 1 tt_ok (en_Entry (⟨e0.Kind,e0.Tick,e0.Tenant,e0.Cell,(-1),0,0,0,0⟩ : Entry)) (fit1 ts_3 (by kernel_rfl)) rfl (by kernel_rfl) (by kernel_rfl) ?_
         refine r_done ⟨rfl,k_a (le_w [true,false,true,true]) (le_w [false,false,true,true]),?_⟩
         refine x_e rfl ?_
         refine r_s 0 tt_ok ([.bool false]) (fit1 ts_4 (by kernel_rfl)) rfl (by kernel_rfl) (by kernel_rfl) ?_
         refine r_done ⟨rfl,k_b rfl (le_w [false,false,true,true]),?_⟩
         refine x_k [] (by kernel_rfl) fun fr => ?_
         exact r_done ⟨false,_,h,fr_eq _ (by kernel_rfl),(by kernel_rfl)⟩
        clear h
        rintro fr S ⟨y52,fr,h,rfl,rfl⟩
        replace h := hK54 _ h
        repeat refine r_done ?_
        refine ret_of RV.nil (Le.refl _) ?_
        refine r_done ?_
        refine r_le (le_w [true,true,false,true]) ?_
        exact r_done ⟨(⟨e0.Kind,e0.Tick,e0.Tenant,e0.Cell,(-1),0,0,0,0⟩ : Entry),y52,_,h,fr_eq _ (by kernel_rfl),(by kernel_rfl)⟩
       ·replace h := h_f h hb50
        clear hb50
        refine r_bind ?_
        refine r_done ?_
        refine r_ite (fun hb55 => ?_) (fun hb55 => ?_)
        ·replace h := h_t h hb55
         clear hb55
         refine r_inl (HC.intro (N := 15) (args := [_,_,_,_]) tt_ok Try.func66 rfl (by decide +kernel) rfl (Nat.le_of_ble_eq_true rfl) ?_)
         refine r_mix tt_ok hm_ok _ _ [12] (.pure 0 (.vb 1 (.va 2 (.pure 3 (.pure 4 (.vb 5 (.pure 6 (.vb 7 (.pure 10 (.eff 8 (.pure 9 (.eff 11 (.eff 12 .nil))))))))))))) (le_w [true,false,true,true]) (le_w [false,false,true,true]) ?_ ?_
         ·decide +kernel
         refine x_p rfl ?_
         refine v_done ?_
         refine x_vb rfl ?_
         refine v_ld 1 tt_ok (v := .int .i64 e0.Tenant) ts_3 rfl (by kernel_rfl) ?_
         refine v_done ?_
         refine x_va rfl ?_
         refine v_ld 0 tt_ok (v := .bool true) ts_4 rfl (by kernel_rfl) ?_
         refine v_done ?_
         refine x_p rfl ?_
         refine v_done ?_
         refine x_p rfl ?_
         refine v_T rfl ?_
         refine v_done ?_
         refine x_vb rfl ?_
         refine v_T rfl ?_
         refine v_ld 1 tt_ok (v := .int .i64 e0.Tenant) ts_3 rfl (by kernel_rfl) ?_
         refine v_done ?_
         refine x_p rfl ?_
         refine v_T rfl ?_
         refine v_done ?_
         refine x_vb rfl ?_
         refine v_T rfl ?_
         refine v_ld 0 tt_ok (v := .int .i64 z1.tenants) ts_3 rfl (by kernel_rfl) ?_
         refine v_done ?_
         refine x_p rfl ?_
         refine v_done ?_
         refine x_kp [(1,.pointer (some ⟨bq5,0,none⟩)),(5,.int .i64 e0.Tenant),(7,.bool true),(9,.int .i64 e0.Tenant),(11,.int .i64 z1.tenants),(14,.pointer (some ⟨bq3,2,none⟩))] (by kernel_rfl) fun fr => ?_
         refine x_e rfl ?_
         refine r_T rfl ?_
         refine r_call (hc_67 (n0 := e0.Tenant) (size1 := z1.tenants)) ?_
         rintro _ _ ⟨rfl,rfl⟩
         refine r_done ⟨rfl,k_a (le_w [true,false,true,true]) (le_w [false,false,true,true]),?_⟩
         refine x_p rfl ?_
         refine v_done ?_
         refine x_e rfl ?_
         refine r_s 1 tt_ok (en_Entry (⟨e0.Kind,e0.Tick,e0.Tenant,(-1),(-1),0,0,0,0⟩ : Entry)) (fit1 ts_3 (by kernel_rfl)) rfl (by kernel_rfl) (by kernel_rfl) ?_
         refine r_done ⟨rfl,k_a (le_w [true,false,true,true]) (le_w [false,false,true,true]),?_⟩
         refine x_e rfl ?_
         refine r_s 0 tt_ok ([.bool (entry_index e0.Tenant z1.tenants)]) (fit1 ts_4 (by kernel_rfl)) rfl (by kernel_rfl) (by kernel_rfl) ?_
         refine r_done ⟨rfl,k_b rfl (le_w [false,false,true,true]),?_⟩
         refine x_k [] (by kernel_rfl) fun fr => ?_
         repeat refine r_done ?_
         refine ret_of RV.nil (Le.refl _) ?_
         refine r_done ?_
         refine r_le (le_w [true,true,false,true]) ?_
         exact r_done ⟨(⟨e0.Kind,e0.Tick,e0.Tenant,(-1),(-1),0,0,0,0⟩ : Entry),(entry_index e0.Tenant z1.tenants),_,h,fr_eq _ (by kernel_rfl),(by kernel_rfl)⟩
        ·replace h := h_f h hb55
         clear hb55
         refine r_bind ?_
         refine r_done ?_
         refine r_ite (fun hb56 => ?_) (fun hb56 => ?_)
         ·replace h := h_t h hb56
          clear hb56
          refine r_bind ?_
          refine r_inl (HC.intro (N := 15) (args := [_,_,_,_]) tt_ok Try.func66 rfl (by decide +kernel) rfl (Nat.le_of_ble_eq_true rfl) ?_)
          refine r_mix tt_ok hm_ok _ _ [12] (.pure 0 (.vb 1 (.va 2 (.pure 3 (.pure 4 (.vb 5 (.pure 6 (.vb 7 (.pure 10 (.eff 8 (.pure 9 (.eff 11 (.eff 12 .nil))))))))))))) (le_w [true,false,true,true]) (le_w [false,false,true,true]) ?_ ?_
          ·decide +kernel
          refine x_p rfl ?_
          refine v_done ?_
          refine x_vb rfl ?_
          refine v_ld 1 tt_ok (v := .int .i64 e0.Tenant) ts_3 rfl (by kernel_rfl) ?_
          refine v_done ?_
          refine x_va rfl ?_
          refine v_ld 0 tt_ok (v := .bool true) ts_4 rfl (by kernel_rfl) ?_
          refine v_done ?_
          refine x_p rfl ?_
          refine v_done ?_
          refine x_p rfl ?_
          refine v_T rfl ?_
          refine v_done ?_
          refine x_vb rfl ?_
          refine v_T rfl ?_
          refine v_ld 1 tt_ok (v := .int .i64 e0.Tenant) ts_3 rfl (by kernel_rfl) ?_
          refine v_done ?_
          refine x_p rfl ?_
          refine v_T rfl ?_
          refine v_done ?_
          refine x_vb rfl ?_
          refine v_T rfl ?_
          refine v_ld 0 tt_ok (v := .int .i64 z1.tenants) ts_3 rfl (by kernel_rfl) ?_
          refine v_done ?_
          refine x_p rfl ?_
          refine v_done ?_
          refine x_kp [(1,.pointer (some ⟨bq5,0,none⟩)),(5,.int .i64 e0.Tenant),(7,.bool true),(9,.int .i64 e0.Tenant),(11,.int .i64 z1.tenants),(14,.pointer (some ⟨bq3,2,none⟩))] (by kernel_rfl) fun fr => ?_
          refine x_e rfl ?_
          refine r_T rfl ?_
          refine r_call (hc_67 (n0 := e0.Tenant) (size1 := z1.tenants)) ?_
          rintro _ _ ⟨rfl,rfl⟩
          refine r_done ⟨rfl,k_a (le_w [true,false,true,true]) (le_w [false,false,true,true]),?_⟩
          refine x_p rfl ?_
          refine v_done ?_
          refine x_e rfl ?_
          refine r_s 1 tt_ok (en_Entry (⟨e0.Kind,e0.Tick,e0.Tenant,(-1),(-1),0,0,0,0⟩ : Entry)) (fit1 ts_3 (by kernel_rfl)) rfl (by kernel_rfl) (by kernel_rfl) ?_
          refine r_done ⟨rfl,k_a (le_w [true,false,true,true]) (le_w [false,false,true,true]),?_⟩
          refine x_e rfl ?_
          refine r_s 0 tt_ok ([.bool (entry_index e0.Tenant z1.tenants)]) (fit1 ts_4 (by kernel_rfl)) rfl (by kernel_rfl) (by kernel_rfl) ?_
          refine r_done ⟨rfl,k_b rfl (le_w [false,false,true,true]),?_⟩
          refine x_k [] (by kernel_rfl) fun fr => ?_
          repeat refine r_done ?_
          refine ret_of RV.nil (Le.refl _) ?_
          refine r_done ?_
          refine r_inl (HC.intro (N := 18) (args := [_,_,_,_,_]) tt_ok Try.func69 rfl (by decide +kernel) rfl (Nat.le_of_ble_eq_true rfl) ?_)
          replace h := h_j h; obtain ⟨K59,h,hK60⟩ := h
          refine r_meet (fun fr S => ∃ (y58 : Bool),∃ fr0,K59 y58 = some r ∧ fr = updL [] fr0 ∧ S = ⟨ρ,.obj bq5 ([.bool y58]) 4 :: .obj bq3 (en_Entry (⟨e0.Kind,e0.Tick,e0.Tenant,(-1),(-1),0,0,0,e0.N⟩ : Entry)) 45 :: .obj bq2 (en_entry_sizes z1) 93 :: .obj bq1 (en_Entry e0) 45 :: L⟩) ?_ ?_
          refine r_mix tt_ok hm_ok _ _ [12] (.pure 0 (.vb 1 (.va 2 (.pure 3 (.pure 4 (.vb 5 (.pure 6 (.pure 7 (.pure 10 (.eff 8 (.pure 9 (.eff 11 (.eff 12 .nil))))))))))))) (le_w [true,false,true,true]) (le_w [false,false,true,true]) ?_ ?_
          ·decide +kernel
          refine x_p rfl ?_
          refine v_done ?_
          refine x_vb rfl ?_
          refine v_ld 1 tt_ok (v := .int .i64 e0.N) ts_3 rfl (by kernel_rfl) ?_
          refine v_done ?_
          refine x_va rfl ?_
          refine v_ld 0 tt_ok (v := .bool (entry_index e0.Tenant z1.tenants)) ts_4 rfl (by kernel_rfl) ?_
          refine v_done ?_
          refine x_p rfl ?_
          refine v_done ?_
          refine x_p rfl ?_
          refine v_ite (fun (hb57 : (entry_index e0.Tenant z1.tenants) = true) => ?_) (fun (hb57 : (entry_index e0.Tenant z1.tenants) = false) => ?_)
          ·replace h := h_t h hb57
           clear hb57
           refine v_done ?_
           refine x_vb rfl ?_
           refine v_T rfl ?_
           refine v_ld 1 tt_ok (v := .int .i64 e0.N) ts_3 rfl (by kernel_rfl) ?_
           refine v_done ?_
           refine x_p rfl ?_
           refine v_T rfl ?_
           refine v_done ?_
           refine x_p rfl ?_
           refine v_T rfl ?_
           refine v_done ?_
           refine x_kp [(3,.pointer (some ⟨bq5,0,none⟩)),(4,.pointer (some ⟨bq3,0,none⟩)),(8,.int .i64 e0.N),(10,.bool true),(12,.int .i64 e0.N),(13,.int .i64 0),(14,.int .i64 1)] (by kernel_rfl) fun fr => ?_
           refine x_p rfl ?_
           refine v_done ?_
           refine x_e rfl ?_
           refine r_T rfl ?_
           refine r_call (hc_65 (n0 := e0.N) (low1 := 0) (high2 := 1)) ?_
           rintro _ _ ⟨rfl,rfl⟩
           refine r_done ⟨rfl,k_a (le_w [true,false,true,true]) (le_w [false,false,true,true]),?_⟩
           refine x_p rfl ?_
           refine v_done ?_
           refine x_e rfl ?_
           refine r_s 1 tt_ok (en_Entry (⟨e0.Kind,e0.Tick,e0.Tenant,(-1),(-1),0,0,0,e0.N⟩ : Entry)) (fit1 ts_3 (by kernel_rfl)) rfl (by kernel_rfl) (by kernel_rfl) ?_
           refine r_done ⟨rfl,k_a (le_w [true,false,true,true]) (le_w [false,false,true,true]),?_⟩
           refine x_e rfl ?_
           refine r_s 0 tt_ok ([.bool (entry_between e0.N 0 1)]) (fit1 ts_4 (by kernel_rfl)) rfl (by kernel_rfl) (by kernel_rfl) ?_
           refine r_done ⟨rfl,k_b rfl (le_w [false,false,true,true]),?_⟩
           refine x_k [] (by kernel_rfl) fun fr => ?_
           exact r_done ⟨(entry_between e0.N 0 1),_,h,fr_eq _ (by kernel_rfl),(by kernel_rfl)⟩
          ·replace h := h_f h hb57
           clear hb57
           refine v_done ?_
           refine x_vb rfl ?_
           refine v_F rfl ?_
           refine v_done ?_
           refine x_p rfl ?_
           refine v_F rfl ?_
           refine v_done ?_
           refine x_p rfl ?_
           refine v_F rfl ?_
           refine v_done ?_
           refine x_kp [(3,.pointer (some ⟨bq5,0,none⟩)),(4,.pointer (some ⟨bq3,0,none⟩)),(8,.int .i64 e0.N),(10,.bool false),(12,undef),(13,undef),(14,undef)] (by kernel_rfl) fun fr => ?_
           refine x_p rfl ?_
           refine v_done ?_
           refine x_e rfl ?_
           refine r_F rfl ?_
           refine r_done ⟨rfl,k_a (le_w [true,false,true,true]) (le_w [false,false,true,true]),?_⟩
           refine x_p rfl ?_
           refine v_F rfl ?_
           refine v_done ?_
           refine x_e rfl ?_
           refine r_s 1 tt_ok (en_Entry (⟨e0.Kind,e0.Tick,e0.Tenant,(-1),(-1),0,0,0,e0.N⟩ : Entry)) (fit1 ts_3 (by kernel_rfl)) rfl (by kernel_rfl) (by kernel_rfl) ?_
           refine r_done ⟨rfl,k_a (le_w [true,false,true,true]) (le_w [false,false,true,true]),?_⟩
           refine x_e rfl ?_
           refine r_s 0 tt_ok ([.bool false]) (fit1 ts_4 (by kernel_rfl)) rfl (by kernel_rfl) (by kernel_rfl) ?_
           refine r_done ⟨rfl,k_b rfl (le_w [false,false,true,true]),?_⟩
           refine x_k [] (by kernel_rfl) fun fr => ?_
           exact r_done ⟨false,_,h,fr_eq _ (by kernel_rfl),(by kernel_rfl)⟩
          clear h
          rintro fr S ⟨y58,fr,h,rfl,rfl⟩
          replace h := hK60 _ h
          repeat refine r_done ?_
          refine ret_of RV.nil (Le.refl _) ?_
          refine r_done ?_
          refine r_le (le_w [true,true,false,true]) ?_
          exact r_done ⟨(⟨e0.Kind,e0.Tick,e0.Tenant,(-1),(-1),0,0,0,e0.N⟩ : Entry),y58,_,h,fr_eq _ (by kernel_rfl),(by kernel_rfl)⟩
         ·replace h := h_f h hb56
          clear hb56
          refine r_bind ?_
          refine r_done ?_
          refine r_ite (fun hb61 => ?_) (fun hb61 => ?_)
          ·replace h := h_t h hb61
           clear hb61
           refine r_bind ?_
           refine r_inl (HC.intro (N := 15) (args := [_,_,_,_]) tt_ok Try.func68 rfl (by decide +kernel) rfl (Nat.le_of_ble_eq_true rfl) ?_)
           refine r_mix tt_ok hm_ok _ _ [12] (.pure 0 (.vb 1 (.va 2 (.pure 3 (.pure 4 (.vb 5 (.pure 6 (.vb 7 (.pure 10 (.eff 8 (.pure 9 (.eff 11 (.eff 12 .nil))))))))))))) (le_w [true,false,true,true]) (le_w [false,false,true,true]) ?_ ?_
           ·decide +kernel
           refine x_p rfl ?_
           refine v_done ?_
           refine x_vb rfl ?_
           refine v_ld 1 tt_ok (v := .int .i64 e0.Cell) ts_3 rfl (by kernel_rfl) ?_
           refine v_done ?_
           refine x_va rfl ?_
           refine v_ld 0 tt_ok (v := .bool true) ts_4 rfl (by kernel_rfl) ?_
           refine v_done ?_
           refine x_p rfl ?_
           refine v_done ?_
           refine x_p rfl ?_
           refine v_T rfl ?_
           refine v_done ?_
           refine x_vb rfl ?_
           refine v_T rfl ?_
           refine v_ld 1 tt_ok (v := .int .i64 e0.Cell) ts_3 rfl (by kernel_rfl) ?_
           refine v_done ?_
           refine x_p rfl ?_
           refine v_T rfl ?_
           refine v_done ?_
           refine x_vb rfl ?_
           refine v_T rfl ?_
           refine v_ld 0 tt_ok (v := .int .i64 z1.cells) ts_3 rfl (by kernel_rfl) ?_
           refine v_done ?_
           refine x_p rfl ?_
           refine v_done ?_
           refine x_kp [(1,.pointer (some ⟨bq5,0,none⟩)),(5,.int .i64 e0.Cell),(7,.bool true),(9,.int .i64 e0.Cell),(11,.int .i64 z1.cells),(14,.pointer (some ⟨bq3,3,none⟩))] (by kernel_rfl) fun fr => ?_
           refine x_e rfl ?_
           refine r_T rfl ?_
           refine r_call (hc_67 (n0 := e0.Cell) (size1 := z1.cells)) ?_
           rintro _ _ ⟨rfl,rfl⟩
           refine r_done ⟨rfl,k_a (le_w [true,false,true,true]) (le_w [false,false,true,true]),?_⟩
           refine x_p rfl ?_
           refine v_done ?_
           refine x_e rfl ?_
           refine r_s 1 tt_ok (en_Entry (⟨e0.Kind,e0.Tick,(-1),e0.Cell,(-1),0,0,0,0⟩ : Entry)) (fit1 ts_3 (by kernel_rfl)) rfl (by kernel_rfl) (by kernel_rfl) ?_
           refine r_done ⟨rfl,k_a (le_w [true,false,true,true]) (le_w [false,false,true,true]),?_⟩
           refine x_e rfl ?_
           refine r_s 0 tt_ok ([.bool (entry_index e0.Cell z1.cells)]) (fit1 ts_4 (by kernel_rfl)) rfl (by kernel_rfl) (by kernel_rfl) ?_
           refine r_done ⟨rfl,k_b rfl (le_w [false,false,true,true]),?_⟩
           refine x_k [] (by kernel_rfl) fun fr => ?_
           repeat refine r_done ?_
           refine ret_of RV.nil (Le.refl _) ?_
           refine r_done ?_
           refine r_inl (HC.intro (N := 18) (args := [_,_,_,_,_]) tt_ok Try.func69 rfl (by decide +kernel) rfl (Nat.le_of_ble_eq_true rfl) ?_)
           replace h := h_j h; obtain ⟨K64,h,hK65⟩ := h
           refine r_meet (fun fr S => ∃ (y63 : Bool),∃ fr0,K64 y63 = some r ∧ fr = updL [] fr0 ∧ S = ⟨ρ,.obj bq5 ([.bool y63]) 4 :: .obj bq3 (en_Entry (⟨e0.Kind,e0.Tick,(-1),e0.Cell,(-1),0,0,0,e0.N⟩ : Entry)) 45 :: .obj bq2 (en_entry_sizes z1) 93 :: .obj bq1 (en_Entry e0) 45 :: L⟩) ?_ ?_
           refine r_mix tt_ok hm_ok _ _ [12] (.pure 0 (.vb 1 (.va 2 (.pure 3 (.pure 4 (.vb 5 (.pure 6 (.pure 7 (.pure 10 (.eff 8 (.pure 9 (.eff 11 (.eff 12 .nil))))))))))))) (le_w [true,false,true,true]) (le_w [false,false,true,true]) ?_ ?_
           ·decide +kernel
           refine x_p rfl ?_
           refine v_done ?_
           refine x_vb rfl ?_
           refine v_ld 1 tt_ok (v := .int .i64 e0.N) ts_3 rfl (by kernel_rfl) ?_
           refine v_done ?_
           refine x_va rfl ?_
           refine v_ld 0 tt_ok (v := .bool (entry_index e0.Cell z1.cells)) ts_4 rfl (by kernel_rfl) ?_
           refine v_done ?_
           refine x_p rfl ?_
           refine v_done ?_
           refine x_p rfl ?_
           refine v_ite (fun (hb62 : (entry_index e0.Cell z1.cells) = true) => ?_) (fun (hb62 : (entry_index e0.Cell z1.cells) = false) => ?_)
           ·replace h := h_t h hb62
            clear hb62
            refine v_done ?_
            refine x_vb rfl ?_
            refine v_T rfl ?_
            refine v_ld 1 tt_ok (v := .int .i64 e0.N) ts_3 rfl (by kernel_rfl) ?_
            refine v_done ?_
            refine x_p rfl ?_
            refine v_T rfl ?_
            refine v_done ?_
            refine x_p rfl ?_
            refine v_T rfl ?_
            refine v_done ?_
            refine x_kp [(3,.pointer (some ⟨bq5,0,none⟩)),(4,.pointer (some ⟨bq3,0,none⟩)),(8,.int .i64 e0.N),(10,.bool true),(12,.int .i64 e0.N),(13,.int .i64 1),(14,.int .i64 3)] (by kernel_rfl) fun fr => ?_
            refine x_p rfl ?_
            refine v_done ?_
            refine x_e rfl ?_
            refine r_T rfl ?_
            refine r_call (hc_65 (n0 := e0.N) (low1 := 1) (high2 := 3)) ?_
            rintro _ _ ⟨rfl,rfl⟩
            refine r_done ⟨rfl,k_a (le_w [true,false,true,true]) (le_w [false,false,true,true]),?_⟩
            refine x_p rfl ?_
            refine v_done ?_
            refine x_e rfl ?_
            refine r_s 1 tt_ok (en_Entry (⟨e0.Kind,e0.Tick,(-1),e0.Cell,(-1),0,0,0,e0.N⟩ : Entry)) (fit1 ts_3 (by kernel_rfl)) rfl (by kernel_rfl) (by kernel_rfl) ?_
            refine r_done ⟨rfl,k_a (le_w [true,false,true,true]) (le_w [false,false,true,true]),?_⟩
            refine x_e rfl ?_
            refine r_s 0 tt_ok ([.bool (entry_between e0.N 1 3)]) (fit1 ts_4 (by kernel_rfl)) rfl (by kernel_rfl) (by kernel_rfl) ?_
            refine r_done ⟨rfl,k_b rfl (le_w [false,false,true,true]),?_⟩
            refine x_k [] (by kernel_rfl) fun fr => ?_
            exact r_done ⟨(entry_between e0.N 1 3),_,h,fr_eq _ (by kernel_rfl),(by kernel_rfl)⟩
           ·replace h := h_f h hb62
            clear hb62
            refine v_done ?_
            refine x_vb rfl ?_
            refine v_F rfl ?_
            refine v_done ?_
            refine x_p rfl ?_
            refine v_F rfl ?_
            refine v_done ?_
            refine x_p rfl ?_
            refine v_F rfl ?_
            refine v_done ?_
            refine x_kp [(3,.pointer (some ⟨bq5,0,none⟩)),(4,.pointer (some ⟨bq3,0,none⟩)),(8,.int .i64 e0.N),(10,.bool false),(12,undef),(13,undef),(14,undef)] (by kernel_rfl) fun fr => ?_
            refine x_p rfl ?_
            refine v_done ?_
            refine x_e rfl ?_
            refine r_F rfl ?_
            refine r_done ⟨rfl,k_a (le_w [true,false,true,true]) (le_w [false,false,true,true]),?_⟩
            refine x_p rfl ?_
            refine v_F rfl ?_
            refine v_done ?_
            refine x_e rfl ?_
            refine r_s 1 tt_ok (en_Entry (⟨e0.Kind,e0.Tick,(-1),e0.Cell,(-1),0,0,0,e0.N⟩ : Entry)) (fit1 ts_3 (by kernel_rfl)) rfl (by kernel_rfl) (by kernel_rfl) ?_
            refine r_done ⟨rfl,k_a (le_w [true,false,true,true]) (le_w [false,false,true,true]),?_⟩
            refine x_e rfl ?_
            refine r_s 0 tt_ok ([.bool false]) (fit1 ts_4 (by kernel_rfl)) rfl (by kernel_rfl) (by kernel_rfl) ?_
            refine r_done ⟨rfl,k_b rfl (le_w [false,false,true,true]),?_⟩
            refine x_k [] (by kernel_rfl) fun fr => ?_
            exact r_done ⟨false,_,h,fr_eq _ (by kernel_rfl),(by kernel_rfl)⟩
           clear h
           rintro fr S ⟨y63,fr,h,rfl,rfl⟩
           replace h := hK65 _ h
           repeat refine r_done ?_
           refine ret_of RV.nil (Le.refl _) ?_
           refine r_keep [(2,.pointer (some ⟨bq1,0,none⟩)),(5,.pointer (some ⟨bq3,0,none⟩)),(6,.pointer (some ⟨bq5,0,none⟩))] (by kernel_rfl) fun fr => ?_
           refine r_done ?_
           refine r_le (le_w [true,true,false,true]) ?_
           exact r_done ⟨(⟨e0.Kind,e0.Tick,(-1),e0.Cell,(-1),0,0,0,e0.N⟩ : Entry),y63,_,h,fr_eq _ (by kernel_rfl),(by kernel_rfl)⟩
          ·replace h := h_f h hb61
           clear hb61
           refine r_bind ?_
           replace h := h_j h; obtain ⟨K68,h,hK69⟩ := h
           refine r_meet (fun fr S => ∃ (x67 : Bool),∃ fr0,K68 x67 = some r ∧ fr = updL [(2,.pointer (some ⟨bq1,0,none⟩)),(3,.pointer (some ⟨bq2,0,none⟩)),(5,.pointer (some ⟨bq3,0,none⟩)),(6,.pointer (some ⟨bq5,0,none⟩)),(8,.func (.func 68) #[] #[.pointer (some ⟨bq1,0,none⟩),.pointer (some ⟨bq5,0,none⟩),.pointer (some ⟨bq2,0,none⟩),.pointer (some ⟨bq3,0,none⟩)]),(9,.func (.func 69) #[] #[.pointer (some ⟨bq1,0,none⟩),.pointer (some ⟨bq5,0,none⟩),.pointer (some ⟨bq3,0,none⟩)]),(25,.int .i64 e0.Kind),(134,.bool x67)] fr0 ∧ S = ⟨ρ,.obj bq5 ([.bool true]) 4 :: .obj bq3 (en_Entry (⟨e0.Kind,e0.Tick,(-1),(-1),(-1),0,0,0,0⟩ : Entry)) 45 :: .obj bq2 (en_entry_sizes z1) 93 :: .obj bq1 (en_Entry e0) 45 :: L⟩) ?_ ?_
           ·refine r_bind ?_
            refine r_keep [(2,.pointer (some ⟨bq1,0,none⟩)),(3,.pointer (some ⟨bq2,0,none⟩)),(5,.pointer (some ⟨bq3,0,none⟩)),(6,.pointer (some ⟨bq5,0,none⟩)),(8,.func (.func 68) #[] #[.pointer (some ⟨bq1,0,none⟩),.pointer (some ⟨bq5,0,none⟩),.pointer (some ⟨bq2,0,none⟩),.pointer (some ⟨bq3,0,none⟩)]),(9,.func (.func 69) #[] #[.pointer (some ⟨bq1,0,none⟩),.pointer (some ⟨bq5,0,none⟩),.pointer (some ⟨bq3,0,none⟩)]),(25,.int .i64 e0.Kind),(134,.bool (decide (e0.Kind = 10)))] (by kernel_rfl) fun fr => ?_
            refine r_done ?_
            refine r_ite (fun hb66 => ?_) (fun hb66 => ?_)
            ·replace h := h_t h hb66
             clear hb66
             exact r_done ⟨true,_,h,fr_eq _ (by kernel_rfl),(by kernel_rfl)⟩
            ·replace h := h_f h hb66
             clear hb66
             exact r_done ⟨decide (e0.Kind = 11),_,h,fr_eq _ (by kernel_rfl),(by kernel_rfl)⟩
           clear h
           rintro fr S ⟨x67,fr,h,rfl,rfl⟩
           replace h := hK69 _ h
           refine r_done ?_
           refine r_ite (fun hb70 => ?_) (fun hb70 => ?_)
           ·replace h := h_t h hb70
            clear hb70
            refine r_bind ?_
            refine r_inl (HC.intro (N := 15) (args := [_,_,_,_]) tt_ok Try.func68 rfl (by decide +kernel) rfl (Nat.le_of_ble_eq_true rfl) ?_)
            refine r_mix tt_ok hm_ok _ _ [12] (.pure 0 (.vb 1 (.va 2 (.pure 3 (.pure 4 (.vb 5 (.pure 6 (.vb 7 (.pure 10 (.eff 8 (.pure 9 (.eff 11 (.eff 12 .nil))))))))))))) (le_w [true,false,true,true]) (le_w [false,false,true,true]) ?_ ?_
            ·decide +kernel
            refine x_p rfl ?_
            refine v_done ?_
            refine x_vb rfl ?_
            refine v_ld 1 tt_ok (v := .int .i64 e0.Cell) ts_3 rfl (by kernel_rfl) ?_
            refine v_done ?_
            refine x_va rfl ?_
            refine v_ld 0 tt_ok (v := .bool true) ts_4 rfl (by kernel_rfl) ?_
            refine v_done ?_
            refine x_p rfl ?_
            refine v_done ?_
            refine x_p rfl ?_
            refine v_T rfl ?_
            refine v_done ?_
            refine x_vb rfl ?_
            refine v_T rfl ?_
            refine v_ld 1 tt_ok (v := .int .i64 e0.Cell) ts_3 rfl (by kernel_rfl) ?_
            refine v_done ?_
            refine x_p rfl ?_
            refine v_T rfl ?_
            refine v_done ?_
            refine x_vb rfl ?_
            refine v_T rfl ?_
            refine v_ld 0 tt_ok (v := .int .i64 z1.cells) ts_3 rfl (by kernel_rfl) ?_
            refine v_done ?_
            refine x_p rfl ?_
            refine v_done ?_
            refine x_kp [(1,.pointer (some ⟨bq5,0,none⟩)),(5,.int .i64 e0.Cell),(7,.bool true),(9,.int .i64 e0.Cell),(11,.int .i64 z1.cells),(14,.pointer (some ⟨bq3,3,none⟩))] (by kernel_rfl) fun fr => ?_
            refine x_e rfl ?_
            refine r_T rfl ?_
            refine r_call (hc_67 (n0 := e0.Cell) (size1 := z1.cells)) ?_
            rintro _ _ ⟨rfl,rfl⟩
            refine r_done ⟨rfl,k_a (le_w [true,false,true,true]) (le_w [false,false,true,true]),?_⟩
            refine x_p rfl ?_
            refine v_done ?_
            refine x_e rfl ?_
            refine r_s 1 tt_ok (en_Entry (⟨e0.Kind,e0.Tick,(-1),e0.Cell,(-1),0,0,0,0⟩ : Entry)) (fit1 ts_3 (by kernel_rfl)) rfl (by kernel_rfl) (by kernel_rfl) ?_
            refine r_done ⟨rfl,k_a (le_w [true,false,true,true]) (le_w [false,false,true,true]),?_⟩
            refine x_e rfl ?_
            refine r_s 0 tt_ok ([.bool (entry_index e0.Cell z1.cells)]) (fit1 ts_4 (by kernel_rfl)) rfl (by kernel_rfl) (by kernel_rfl) ?_
            refine r_done ⟨rfl,k_b rfl (le_w [false,false,true,true]),?_⟩
            refine x_k [] (by kernel_rfl) fun fr => ?_
            repeat refine r_done ?_
            refine ret_of RV.nil (Le.refl _) ?_
            refine r_done ?_
            refine r_ld 2 tt_ok (v := .int .i64 z1.versions) ts_3 rfl (by kernel_rfl) ?_
            refine r_num (e' := w64 (z1.versions - 1)) rfl ?_
            refine r_inl (HC.intro (N := 18) (args := [_,_,_,_,_]) tt_ok Try.func69 rfl (by decide +kernel) rfl (Nat.le_of_ble_eq_true rfl) ?_)
            replace h := h_j h; obtain ⟨K73,h,hK74⟩ := h
            refine r_meet (fun fr S => ∃ (y72 : Bool),∃ fr0,K73 y72 = some r ∧ fr = updL [] fr0 ∧ S = ⟨ρ,.obj bq5 ([.bool y72]) 4 :: .obj bq3 (en_Entry (⟨e0.Kind,e0.Tick,(-1),e0.Cell,(-1),0,0,0,e0.N⟩ : Entry)) 45 :: .obj bq2 (en_entry_sizes z1) 93 :: .obj bq1 (en_Entry e0) 45 :: L⟩) ?_ ?_
            refine r_mix tt_ok hm_ok _ _ [12] (.pure 0 (.vb 1 (.va 2 (.pure 3 (.pure 4 (.vb 5 (.pure 6 (.pure 7 (.pure 10 (.eff 8 (.pure 9 (.eff 11 (.eff 12 .nil))))))))))))) (le_w [true,false,true,true]) (le_w [false,false,true,true]) ?_ ?_
            ·decide +kernel
            refine x_p rfl ?_
            refine v_done ?_
            refine x_vb rfl ?_
            refine v_ld 1 tt_ok (v := .int .i64 e0.N) ts_3 rfl (by kernel_rfl) ?_
            refine v_done ?_
            refine x_va rfl ?_
            refine v_ld 0 tt_ok (v := .bool (entry_index e0.Cell z1.cells)) ts_4 rfl (by kernel_rfl) ?_
            refine v_done ?_
            refine x_p rfl ?_
            refine v_done ?_
            refine x_p rfl ?_
            refine v_ite (fun (hb71 : (entry_index e0.Cell z1.cells) = true) => ?_) (fun (hb71 : (entry_index e0.Cell z1.cells) = false) => ?_)
            ·replace h := h_t h hb71
             clear hb71
             refine v_done ?_
             refine x_vb rfl ?_
             refine v_T rfl ?_
             refine v_ld 1 tt_ok (v := .int .i64 e0.N) ts_3 rfl (by kernel_rfl) ?_
             refine v_done ?_
             refine x_p rfl ?_
             refine v_T rfl ?_
             refine v_done ?_
             refine x_p rfl ?_
             refine v_T rfl ?_
             refine v_done ?_
             refine x_kp [(3,.pointer (some ⟨bq5,0,none⟩)),(4,.pointer (some ⟨bq3,0,none⟩)),(8,.int .i64 e0.N),(10,.bool true),(12,.int .i64 e0.N),(13,.int .i64 0),(14,.int .i64 (w64 (z1.versions - 1)))] (by kernel_rfl) fun fr => ?_
             refine x_p rfl ?_
             refine v_done ?_
             refine x_e rfl ?_
             refine r_T rfl ?_
             refine r_call (hc_65 (n0 := e0.N) (low1 := 0) (high2 := w64 (z1.versions - 1))) ?_
             rintro _ _ ⟨rfl,rfl⟩
             refine r_done ⟨rfl,k_a (le_w [true,false,true,true]) (le_w [false,false,true,true]),?_⟩
             refine x_p rfl ?_
             refine v_done ?_
             refine x_e rfl ?_
             refine r_s 1 tt_ok (en_Entry (⟨e0.Kind,e0.Tick,(-1),e0.Cell,(-1),0,0,0,e0.N⟩ : Entry)) (fit1 ts_3 (by kernel_rfl)) rfl (by kernel_rfl) (by kernel_rfl) ?_
             refine r_done ⟨rfl,k_a (le_w [true,false,true,true]) (le_w [false,false,true,true]),?_⟩
             refine x_e rfl ?_
             refine r_s 0 tt_ok ([.bool (entry_between e0.N 0 (w64 (z1.versions - 1)))]) (fit1 ts_4 (by kernel_rfl)) rfl (by kernel_rfl) (by kernel_rfl) ?_
             refine r_done ⟨rfl,k_b rfl (le_w [false,false,true,true]),?_⟩
             refine x_k [] (by kernel_rfl) fun fr => ?_
             exact r_done ⟨(entry_between e0.N 0 (w64 (z1.versions - 1))),_,h,fr_eq _ (by kernel_rfl),(by kernel_rfl)⟩
            ·replace h := h_f h hb71
             clear hb71
             refine v_done ?_
             refine x_vb rfl ?_
             refine v_F rfl ?_
             refine v_done ?_
             refine x_p rfl ?_
             refine v_F rfl ?_
             refine v_done ?_
             refine x_p rfl ?_
             refine v_F rfl ?_
             refine v_done ?_
             refine x_kp [(3,.pointer (some ⟨bq5,0,none⟩)),(4,.pointer (some ⟨bq3,0,none⟩)),(8,.int .i64 e0.N),(10,.bool false),(12,undef),(13,undef),(14,undef)] (by kernel_rfl) fun fr => ?_
             refine x_p rfl ?_
             refine v_done ?_
             refine x_e rfl ?_
             refine r_F rfl ?_
             refine r_done ⟨rfl,k_a (le_w [true,false,true,true]) (le_w [false,false,true,true]),?_⟩
             refine x_p rfl ?_
             refine v_F rfl ?_
             refine v_done ?_
             refine x_e rfl ?_
             refine r_s 1 tt_ok (en_Entry (⟨e0.Kind,e0.Tick,(-1),e0.Cell,(-1),0,0,0,e0.N⟩ : Entry)) (fit1 ts_3 (by kernel_rfl)) rfl (by kernel_rfl) (by kernel_rfl) ?_
             refine r_done ⟨rfl,k_a (le_w [true,false,true,true]) (le_w [false,false,true,true]),?_⟩
             refine x_e rfl ?_
             refine r_s 0 tt_ok ([.bool false]) (fit1 ts_4 (by kernel_rfl)) rfl (by kernel_rfl) (by kernel_rfl) ?_
             refine r_done ⟨rfl,k_b rfl (le_w [false,false,true,true]),?_⟩
             refine x_k [] (by kernel_rfl) fun fr => ?_
             exact r_done ⟨false,_,h,fr_eq _ (by kernel_rfl),(by kernel_rfl)⟩
            clear h
            rintro fr S ⟨y72,fr,h,rfl,rfl⟩
            replace h := hK74 _ h
            repeat refine r_done ?_
            refine ret_of RV.nil (Le.refl _) ?_
            refine r_done ?_
            refine r_le (le_w [true,true,false,true]) ?_
            exact r_done ⟨(⟨e0.Kind,e0.Tick,(-1),e0.Cell,(-1),0,0,0,e0.N⟩ : Entry),y72,_,h,fr_eq _ (by kernel_rfl),(by kernel_rfl)⟩
           ·replace h := h_f h hb70
            clear hb70
            refine r_bind ?_
            refine r_done ?_
            refine r_ite (fun hb75 => ?_) (fun hb75 => ?_)
            ·replace h := h_t h hb75
             clear hb75
             refine r_ld 2 tt_ok (v := .int .i64 z1.versions) ts_3 rfl (by kernel_rfl) ?_
             refine r_num (e' := w64 (z1.versions - 1)) rfl ?_
             refine r_inl (HC.intro (N := 18) (args := [_,_,_,_,_]) tt_ok Try.func69 rfl (by decide +kernel) rfl (Nat.le_of_ble_eq_true rfl) ?_)
             refine r_mix tt_ok hm_ok _ _ [12] (.pure 0 (.vb 1 (.va 2 (.pure 3 (.pure 4 (.vb 5 (.pure 6 (.pure 7 (.pure 10 (.eff 8 (.pure 9 (.eff 11 (.eff 12 .nil))))))))))))) (le_w [true,false,true,true]) (le_w [false,false,true,true]) ?_ ?_
             ·decide +kernel
             refine x_p rfl ?_
             refine v_done ?_
             refine x_vb rfl ?_
             refine v_ld 1 tt_ok (v := .int .i64 e0.N) ts_3 rfl (by kernel_rfl) ?_
             refine v_done ?_
             refine x_va rfl ?_
             refine v_ld 0 tt_ok (v := .bool true) ts_4 rfl (by kernel_rfl) ?_
             refine v_done ?_
             refine x_p rfl ?_
             refine v_done ?_
             refine x_p rfl ?_
             refine v_T rfl ?_
             refine v_done ?_
             refine x_vb rfl ?_
             refine v_T rfl ?_
             refine v_ld 1 tt_ok (v := .int .i64 e0.N) ts_3 rfl (by kernel_rfl) ?_
             refine v_done ?_
             refine x_p rfl ?_
             refine v_T rfl ?_
             refine v_done ?_
             refine x_p rfl ?_
             refine v_T rfl ?_
             refine v_done ?_
             refine x_p rfl ?_
             refine v_done ?_
             refine x_kp [(3,.pointer (some ⟨bq5,0,none⟩)),(8,.int .i64 e0.N),(10,.bool true),(12,.int .i64 e0.N),(13,.int .i64 0),(14,.int .i64 (w64 (z1.versions - 1))),(17,.pointer (some ⟨bq3,8,none⟩))] (by kernel_rfl) fun fr => ?_
             refine x_e rfl ?_
             refine r_T rfl ?_
             refine r_call (hc_65 (n0 := e0.N) (low1 := 0) (high2 := w64 (z1.versions - 1))) ?_
             rintro _ _ ⟨rfl,rfl⟩
             refine r_done ⟨rfl,k_a (le_w [true,false,true,true]) (le_w [false,false,true,true]),?_⟩
             refine x_p rfl ?_
             refine v_done ?_
             refine x_e rfl ?_
             refine r_s 1 tt_ok (en_Entry (⟨e0.Kind,e0.Tick,(-1),(-1),(-1),0,0,0,e0.N⟩ : Entry)) (fit1 ts_3 (by kernel_rfl)) rfl (by kernel_rfl) (by kernel_rfl) ?_
             refine r_done ⟨rfl,k_a (le_w [true,false,true,true]) (le_w [false,false,true,true]),?_⟩
             refine x_e rfl ?_
             refine r_s 0 tt_ok ([.bool (entry_between e0.N 0 (w64 (z1.versions - 1)))]) (fit1 ts_4 (by kernel_rfl)) rfl (by kernel_rfl) (by kernel_rfl) ?_
             refine r_done ⟨rfl,k_b rfl (le_w [false,false,true,true]),?_⟩
             refine x_k [] (by kernel_rfl) fun fr => ?_
             repeat refine r_done ?_
             refine ret_of RV.nil (Le.refl _) ?_
             refine r_done ?_
             refine r_le (le_w [true,true,false,true]) ?_
             exact r_done ⟨(⟨e0.Kind,e0.Tick,(-1),(-1),(-1),0,0,0,e0.N⟩ : Entry),(entry_between e0.N 0 (w64 (z1.versions - 1))),_,h,fr_eq _ (by kernel_rfl),(by kernel_rfl)⟩
            ·replace h := h_f h hb75
             clear hb75
             refine r_bind ?_
             refine r_done ?_
             refine r_ite (fun hb76 => ?_) (fun hb76 => ?_)
             ·replace h := h_t h hb76
              clear hb76
              refine r_bind ?_
              refine r_mix tt_ok hm_ok _ _ [12] (.pure 0 (.vb 1 (.va 2 (.pure 3 (.pure 4 (.vb 5 (.pure 6 (.vb 7 (.pure 10 (.eff 8 (.pure 9 (.eff 11 (.eff 12 .nil))))))))))))) (le_w [true,false,true,true]) (le_w [false,false,true,true]) ?_ ?_
              ·decide +kernel
              refine x_p rfl ?_
              refine v_done ?_
              refine x_vb rfl ?_
              refine v_ld 1 tt_ok (v := .int .i64 e0.Other) ts_3 rfl (by kernel_rfl) ?_
              refine v_done ?_
              refine x_va rfl ?_
              refine v_ld 0 tt_ok (v := .bool true) ts_4 rfl (by kernel_rfl) ?_
              refine v_done ?_
              refine x_p rfl ?_
              refine v_done ?_
              refine x_p rfl ?_
              refine v_T rfl ?_
              refine v_done ?_
              refine x_vb rfl ?_
              refine v_T rfl ?_
              refine v_ld 1 tt_ok (v := .int .i64 e0.Other) ts_3 rfl (by kernel_rfl) ?_
              refine v_done ?_
              refine x_p rfl ?_
              refine v_T rfl ?_
              refine v_done ?_
              refine x_vb rfl ?_
              refine v_T rfl ?_
              refine v_ld 0 tt_ok (v := .int .i64 z1.regions) ts_3 rfl (by kernel_rfl) ?_
              refine v_done ?_
              refine x_p rfl ?_
              refine v_done ?_
              refine x_kp [(2,.pointer (some ⟨bq1,0,none⟩)),(5,.pointer (some ⟨bq3,0,none⟩)),(6,.pointer (some ⟨bq5,0,none⟩)),(9,.func (.func 69) #[] #[.pointer (some ⟨bq1,0,none⟩),.pointer (some ⟨bq5,0,none⟩),.pointer (some ⟨bq3,0,none⟩)]),(154,.int .i64 e0.Other),(156,.bool true),(158,.int .i64 e0.Other),(160,.int .i64 z1.regions),(163,.pointer (some ⟨bq3,4,none⟩))] (by kernel_rfl) fun fr => ?_
              refine x_e rfl ?_
              refine r_T rfl ?_
              refine r_call (hc_67 (n0 := e0.Other) (size1 := z1.regions)) ?_
              rintro _ _ ⟨rfl,rfl⟩
              refine r_done ⟨rfl,k_a (le_w [true,false,true,true]) (le_w [false,false,true,true]),?_⟩
              refine x_p rfl ?_
              refine v_done ?_
              refine x_e rfl ?_
              refine r_s 1 tt_ok (en_Entry (⟨e0.Kind,e0.Tick,(-1),(-1),e0.Other,0,0,0,0⟩ : Entry)) (fit1 ts_3 (by kernel_rfl)) rfl (by kernel_rfl) (by kernel_rfl) ?_
              refine r_done ⟨rfl,k_a (le_w [true,false,true,true]) (le_w [false,false,true,true]),?_⟩
              refine x_e rfl ?_
              refine r_s 0 tt_ok ([.bool (entry_index e0.Other z1.regions)]) (fit1 ts_4 (by kernel_rfl)) rfl (by kernel_rfl) (by kernel_rfl) ?_
              refine r_done ⟨rfl,k_b rfl (le_w [false,false,true,true]),?_⟩
              refine x_k [(2,.pointer (some ⟨bq1,0,none⟩)),(5,.pointer (some ⟨bq3,0,none⟩)),(6,.pointer (some ⟨bq5,0,none⟩)),(9,.func (.func 69) #[] #[.pointer (some ⟨bq1,0,none⟩),.pointer (some ⟨bq5,0,none⟩),.pointer (some ⟨bq3,0,none⟩)])] (by kernel_rfl) fun fr => ?_
              refine r_done ?_
              refine r_inl (HC.intro (N := 18) (args := [_,_,_,_,_]) tt_ok Try.func69 rfl (by decide +kernel) rfl (Nat.le_of_ble_eq_true rfl) ?_)
              replace h := h_j h; obtain ⟨K79,h,hK80⟩ := h
              refine r_meet (fun fr S => ∃ (y78 : Bool),∃ fr0,K79 y78 = some r ∧ fr = updL [] fr0 ∧ S = ⟨ρ,.obj bq5 ([.bool y78]) 4 :: .obj bq3 (en_Entry (⟨e0.Kind,e0.Tick,(-1),(-1),e0.Other,0,0,0,e0.N⟩ : Entry)) 45 :: .obj bq2 (en_entry_sizes z1) 93 :: .obj bq1 (en_Entry e0) 45 :: L⟩) ?_ ?_
              refine r_mix tt_ok hm_ok _ _ [12] (.pure 0 (.vb 1 (.va 2 (.pure 3 (.pure 4 (.vb 5 (.pure 6 (.pure 7 (.pure 10 (.eff 8 (.pure 9 (.eff 11 (.eff 12 .nil))))))))))))) (le_w [true,false,true,true]) (le_w [false,false,true,true]) ?_ ?_
              ·decide +kernel
              refine x_p rfl ?_
              refine v_done ?_
              refine x_vb rfl ?_
              refine v_ld 1 tt_ok (v := .int .i64 e0.N) ts_3 rfl (by kernel_rfl) ?_
              refine v_done ?_
              refine x_va rfl ?_
              refine v_ld 0 tt_ok (v := .bool (entry_index e0.Other z1.regions)) ts_4 rfl (by kernel_rfl) ?_
              refine v_done ?_
              refine x_p rfl ?_
              refine v_done ?_
              refine x_p rfl ?_
              refine v_ite (fun (hb77 : (entry_index e0.Other z1.regions) = true) => ?_) (fun (hb77 : (entry_index e0.Other z1.regions) = false) => ?_)
              ·replace h := h_t h hb77
               clear hb77
               refine v_done ?_
               refine x_vb rfl ?_
               refine v_T rfl ?_
               refine v_ld 1 tt_ok (v := .int .i64 e0.N) ts_3 rfl (by kernel_rfl) ?_
               refine v_done ?_
               refine x_p rfl ?_
               refine v_T rfl ?_
               refine v_done ?_
               refine x_p rfl ?_
               refine v_T rfl ?_
               refine v_done ?_
               refine x_kp [(3,.pointer (some ⟨bq5,0,none⟩)),(4,.pointer (some ⟨bq3,0,none⟩)),(8,.int .i64 e0.N),(10,.bool true),(12,.int .i64 e0.N),(13,.int .i64 0),(14,.int .i64 1)] (by kernel_rfl) fun fr => ?_
               refine x_p rfl ?_
               refine v_done ?_
               refine x_e rfl ?_
               refine r_T rfl ?_
               refine r_call (hc_65 (n0 := e0.N) (low1 := 0) (high2 := 1)) ?_
               rintro _ _ ⟨rfl,rfl⟩
               refine r_done ⟨rfl,k_a (le_w [true,false,true,true]) (le_w [false,false,true,true]),?_⟩
               refine x_p rfl ?_
               refine v_done ?_
               refine x_e rfl ?_
               refine r_s 1 tt_ok (en_Entry (⟨e0.Kind,e0.Tick,(-1),(-1),e0.Other,0,0,0,e0.N⟩ : Entry)) (fit1 ts_3 (by kernel_rfl)) rfl (by kernel_rfl) (by kernel_rfl) ?_
               refine r_done ⟨rfl,k_a (le_w [true,false,true,true]) (le_w [false,false,true,true]),?_⟩
               refine x_e rfl ?_
               refine r_s 0 tt_ok ([.bool (entry_between e0.N 0 1)]) (fit1 ts_4 (by kernel_rfl)) rfl (by kernel_rfl) (by kernel_rfl) ?_
               refine r_done ⟨rfl,k_b rfl (le_w [false,false,true,true]),?_⟩
               refine x_k [] (by kernel_rfl) fun fr => ?_
               exact r_done ⟨(entry_between e0.N 0 1),_,h,fr_eq _ (by kernel_rfl),(by kernel_rfl)⟩
              ·replace h := h_f h hb77
               clear hb77
               refine v_done ?_
               refine x_vb rfl ?_
               refine v_F rfl ?_
               refine v_done ?_
               refine x_p rfl ?_
               refine v_F rfl ?_
               refine v_done ?_
               refine x_p rfl ?_
               refine v_F rfl ?_
               refine v_done ?_
               refine x_kp [(3,.pointer (some ⟨bq5,0,none⟩)),(4,.pointer (some ⟨bq3,0,none⟩)),(8,.int .i64 e0.N),(10,.bool false),(12,undef),(13,undef),(14,undef)] (by kernel_rfl) fun fr => ?_
               refine x_p rfl ?_
               refine v_done ?_
               refine x_e rfl ?_
               refine r_F rfl ?_
               refine r_done ⟨rfl,k_a (le_w [true,false,true,true]) (le_w [false,false,true,true]),?_⟩
               refine x_p rfl ?_
               refine v_F rfl ?_
               refine v_done ?_
               refine x_e rfl ?_
               refine r_s 1 tt_ok (en_Entry (⟨e0.Kind,e0.Tick,(-1),(-1),e0.Other,0,0,0,e0.N⟩ : Entry)) (fit1 ts_3 (by kernel_rfl)) rfl (by kernel_rfl) (by kernel_rfl) ?_
               refine r_done ⟨rfl,k_a (le_w [true,false,true,true]) (le_w [false,false,true,true]),?_⟩
               refine x_e rfl ?_
               refine r_s 0 tt_ok ([.bool false]) (fit1 ts_4 (by kernel_rfl)) rfl (by kernel_rfl) (by kernel_rfl) ?_
               refine r_done ⟨rfl,k_b rfl (le_w [false,false,true,true]),?_⟩
               refine x_k [] (by kernel_rfl) fun fr => ?_
               exact r_done ⟨false,_,h,fr_eq _ (by kernel_rfl),(by kernel_rfl)⟩
              clear h
              rintro fr S ⟨y78,fr,h,rfl,rfl⟩
              replace h := hK80 _ h
              repeat refine r_done ?_
              refine ret_of RV.nil (Le.refl _) ?_
              refine r_done ?_
              refine r_le (le_w [true,true,false,true]) ?_
              exact r_done ⟨(⟨e0.Kind,e0.Tick,(-1),(-1),e0.Other,0,0,0,e0.N⟩ : Entry),y78,_,h,fr_eq _ (by kernel_rfl),(by kernel_rfl)⟩
             ·replace h := h_f h hb76
              clear hb76
              refine r_bind ?_
              replace h := h_j h; obtain ⟨K83,h,hK84⟩ := h
              refine r_meet (fun fr S => ∃ (x82 : Bool),∃ fr0,K83 x82 = some r ∧ fr = updL [(2,.pointer (some ⟨bq1,0,none⟩)),(5,.pointer (some ⟨bq3,0,none⟩)),(6,.pointer (some ⟨bq5,0,none⟩)),(9,.func (.func 69) #[] #[.pointer (some ⟨bq1,0,none⟩),.pointer (some ⟨bq5,0,none⟩),.pointer (some ⟨bq3,0,none⟩)]),(25,.int .i64 e0.Kind),(166,.bool x82)] fr0 ∧ S = ⟨ρ,.obj bq5 ([.bool true]) 4 :: .obj bq3 (en_Entry (⟨e0.Kind,e0.Tick,(-1),(-1),(-1),0,0,0,0⟩ : Entry)) 45 :: .obj bq1 (en_Entry e0) 45 :: L⟩) ?_ ?_
              ·refine r_bind ?_
               refine r_done ?_
               refine r_ite (fun hb81 => ?_) (fun hb81 => ?_)
               ·replace h := h_t h hb81
                clear hb81
                refine r_le (le_w [true,true,false,true]) ?_
                exact r_done ⟨true,_,h,fr_eq _ (by kernel_rfl),(by kernel_rfl)⟩
               ·replace h := h_f h hb81
                clear hb81
                refine r_keep [(2,.pointer (some ⟨bq1,0,none⟩)),(5,.pointer (some ⟨bq3,0,none⟩)),(6,.pointer (some ⟨bq5,0,none⟩)),(9,.func (.func 69) #[] #[.pointer (some ⟨bq1,0,none⟩),.pointer (some ⟨bq5,0,none⟩),.pointer (some ⟨bq3,0,none⟩)]),(25,.int .i64 e0.Kind),(166,.bool (decide (e0.Kind = 15)))] (by kernel_rfl) fun fr => ?_
                refine r_le (le_w [true,true,false,true]) ?_
                exact r_done ⟨decide (e0.Kind = 15),_,h,fr_eq _ (by kernel_rfl),(by kernel_rfl)⟩
              clear h
              rintro fr S ⟨x82,fr,h,rfl,rfl⟩
              replace h := hK84 _ h
              refine r_done ?_
              refine r_ite (fun hb85 => ?_) (fun hb85 => ?_)
              ·replace h := h_t h hb85
               clear hb85
               refine r_done ?_
               exact r_done ⟨(⟨e0.Kind,e0.Tick,(-1),(-1),(-1),0,0,0,0⟩ : Entry),true,_,h,fr_eq _ (by kernel_rfl),(by kernel_rfl)⟩
              ·replace h := h_f h hb85
               clear hb85
               refine r_bind ?_
               refine r_done ?_
               refine r_ite (fun hb86 => ?_) (fun hb86 => ?_)
               ·replace h := h_t h hb86
                clear hb86
                refine r_inl (HC.intro (N := 18) (args := [_,_,_,_,_]) tt_ok Try.func69 rfl (by decide +kernel) rfl (Nat.le_of_ble_eq_true rfl) ?_)
                refine r_mix tt_ok hm_ok _ _ [12] (.pure 0 (.vb 1 (.va 2 (.pure 3 (.pure 4 (.vb 5 (.pure 6 (.pure 7 (.pure 10 (.eff 8 (.pure 9 (.eff 11 (.eff 12 .nil))))))))))))) (le_w [true,false,true]) (le_w [false,false,true]) ?_ ?_
                ·decide +kernel
                refine x_p rfl ?_
                refine v_done ?_
                refine x_vb rfl ?_
                refine v_ld 0 tt_ok (v := .int .i64 e0.N) ts_3 rfl (by kernel_rfl) ?_
                refine v_done ?_
                refine x_va rfl ?_
                refine v_ld 0 tt_ok (v := .bool true) ts_4 rfl (by kernel_rfl) ?_
                refine v_done ?_
                refine x_p rfl ?_
                refine v_done ?_
                refine x_p rfl ?_
                refine v_T rfl ?_
                refine v_done ?_
                refine x_vb rfl ?_
                refine v_T rfl ?_
                refine v_ld 0 tt_ok (v := .int .i64 e0.N) ts_3 rfl (by kernel_rfl) ?_
                refine v_done ?_
                refine x_p rfl ?_
                refine v_T rfl ?_
                refine v_done ?_
                refine x_p rfl ?_
                refine v_T rfl ?_
                refine v_done ?_
                refine x_p rfl ?_
                refine v_done ?_
                refine x_kp [(3,.pointer (some ⟨bq5,0,none⟩)),(8,.int .i64 e0.N),(10,.bool true),(12,.int .i64 e0.N),(13,.int .i64 0),(14,.int .i64 1073741824),(17,.pointer (some ⟨bq3,8,none⟩))] (by kernel_rfl) fun fr => ?_
                refine x_e rfl ?_
                refine r_T rfl ?_
                refine r_call (hc_65 (n0 := e0.N) (low1 := 0) (high2 := 1073741824)) ?_
                rintro _ _ ⟨rfl,rfl⟩
                refine r_done ⟨rfl,k_a (le_w [true,false,true]) (le_w [false,false,true]),?_⟩
                refine x_p rfl ?_
                refine v_done ?_
                refine x_e rfl ?_
                refine r_s 1 tt_ok (en_Entry (⟨e0.Kind,e0.Tick,(-1),(-1),(-1),0,0,0,e0.N⟩ : Entry)) (fit1 ts_3 (by kernel_rfl)) rfl (by kernel_rfl) (by kernel_rfl) ?_
                refine r_done ⟨rfl,k_a (le_w [true,false,true]) (le_w [false,false,true]),?_⟩
                refine x_e rfl ?_
                refine r_s 0 tt_ok ([.bool (entry_between e0.N 0 1073741824)]) (fit1 ts_4 (by kernel_rfl)) rfl (by kernel_rfl) (by kernel_rfl) ?_
                refine r_done ⟨rfl,k_b rfl (le_w [false,false,true]),?_⟩
                refine x_k [] (by kernel_rfl) fun fr => ?_
                repeat refine r_done ?_
                refine ret_of RV.nil (Le.refl _) ?_
                refine r_done ?_
                exact r_done ⟨(⟨e0.Kind,e0.Tick,(-1),(-1),(-1),0,0,0,e0.N⟩ : Entry),(entry_between e0.N 0 1073741824),_,h,fr_eq _ (by kernel_rfl),(by kernel_rfl)⟩
               ·replace h := h_f h hb86
                clear hb86
                refine r_bind ?_
                refine r_done ?_
                repeat refine r_done ?_
                subst hK90
                repeat refine r_done ?_
                obtain rfl := h_out h
                exact ret_of (RV.tmp RV.nil) (le_w [false,false,false]) ⟨rfl,rfl⟩
  clear h
  rintro fr S ⟨y87,y88,fr,h,rfl,rfl⟩
  subst hK90
  refine r_done ?_
  refine r_bind ?_
  refine r_meet (fun fr S => ∃ fr0,fr = updL [(4,.bool (y88 && (decide (e0 = y87))))] fr0 ∧ S = ⟨ρ,.obj bq5 ([.bool y88]) 4 :: .obj bq3 (en_Entry y87) 45 :: .obj bq1 (en_Entry e0) 45 :: L⟩) ?_ ?_
  ·refine r_ld 0 tt_ok (v := .bool y88) ts_4 rfl (by kernel_rfl) ?_
   refine r_ite (fun (hb91 : y88 = true) => ?_) (fun (hb91 : y88 = false) => ?_)
   ·refine r_ldn 2 tt_ok (en_Entry e0) ta_45 rfl (by kernel_rfl) (by kernel_rfl) ?_
    refine r_T rfl ?_
    refine r_ldn 1 tt_ok (en_Entry y87) ta_45 rfl (by kernel_rfl) (by kernel_rfl) ?_
    refine r_T rfl ?_
    refine r_op (fun w => ex_eqS (fun w => eq_Entry e0 y87 w) (by decide +kernel) rfl rfl rfl w) ?_
    refine r_keep [(4,.bool (decide (e0 = y87)))] (by kernel_rfl) fun fr => ?_
    exact r_done ⟨_,fr_eq _ (by (try rw [hb91]); kernel_rfl),(by kernel_rfl)⟩
   ·refine r_F rfl ?_
    refine r_F rfl ?_
    refine r_F rfl ?_
    refine r_kp [(178,.bool false)] (by kernel_rfl) fun fr => ?_
    exact r_done ⟨_,fr_eq _ (by (try rw [hb91]); kernel_rfl),(by kernel_rfl)⟩
  rintro fr S ⟨fr,rfl,rfl⟩
  refine r_done ?_
  repeat refine r_done ?_
  repeat refine r_done ?_
  obtain rfl := h_out h
  exact ret_of (RV.tmp RV.nil) (le_w [false,false,false]) ⟨rfl,rfl⟩
theorem hc_42 {ρ : Addr → Option Value} {L : List Ent}   (e0 : Entry)  {r : Bool} (h : entry_Shape e0 = some r) : HC Try.prog 42 #[.agg (en_Entry e0).toArray] ⟨ρ,L⟩ (fun v S' => v = .bool r ∧ S' = ⟨ρ,L⟩) := by
 replace h := h_in h
 refine HC.intro (N := 6) (args := [_]) tt_ok Try.func42 rfl (by decide +kernel) rfl (Nat.le_of_ble_eq_true rfl) ?_
 refine r_bind ?_
 refine r_bx (en_Entry e0) (by kernel_rfl) fun bq1 => ?_
 refine r_done ?_
 refine r_bind ?_
 refine r_ldn 0 tt_ok (en_Entry e0) ta_45 rfl (by kernel_rfl) (by kernel_rfl) ?_
 refine r_bd tt_ok (en_entry_sizes (⟨32,16,4,30⟩ : entry_sizes)) ti_93 tp_93 (by kernel_rfl) ?_
 replace h := h_b h; obtain ⟨x3,hx2,h⟩ := h
 refine r_call (hc_43 (e0 := e0) (z1 := (⟨32,16,4,30⟩ : entry_sizes)) (h := hx2)) ?_
 rintro _ _ ⟨rfl,rfl⟩
 refine r_done ?_
 repeat refine r_done ?_
 repeat refine r_done ?_
 obtain rfl := h_out h
 exact ret_of (RV.tmp RV.nil) (le_w [false]) ⟨rfl,rfl⟩
theorem hc_28 {ρ : Addr → Option Value} {L : List Ent} {g_c0 : gConfig} {S_c0 : St} (hS_c0 : Le ⟨ρ,L⟩ S_c0) (c0 : Config) (e1 : Entry) (h_c0 : Sl_Config S_c0 c0 g_c0) {r : Bool} (h : entry_Valid c0 e1 = some r) : HC Try.prog 28 #[.agg (en_Config c0 g_c0).toArray,.agg (en_Entry e1).toArray] ⟨ρ,L⟩ (fun v S' => v = .bool r ∧ S' = ⟨ρ,L⟩) := by
 replace h := h_in h
 refine HC.intro (N := 23) (args := [_,_]) tt_ok Try.func28 rfl (by decide +kernel) rfl (Nat.le_of_ble_eq_true rfl) ?_
 refine r_bind ?_
 refine r_bx (en_Config c0 g_c0) (by kernel_rfl) fun bq1 => ?_
 refine r_bx (en_Entry e1) (by kernel_rfl) fun bq2 => ?_
 refine r_done ?_
 refine r_bind ?_
 replace h := h_j h; obtain ⟨K9,h,hK10⟩ := h
 refine r_meet (fun fr S => ∃ (x8 : Bool),∃ fr0,K9 x8 = some r ∧ fr = updL [(4,.bool x8)] fr0 ∧ S = ⟨ρ,L⟩) ?_ ?_
 ·refine r_ldn 0 tt_ok (en_Entry e1) ta_45 rfl (by kernel_rfl) (by kernel_rfl) ?_
  replace h := h_b h; obtain ⟨x4,hx3,h⟩ := h
  refine r_call (hc_42 (e0 := e1) (h := hx3)) ?_
  rintro _ _ ⟨rfl,rfl⟩
  refine r_ite (fun (hb5 : x4 = true) => ?_) (fun (hb5 : x4 = false) => ?_)
  ·replace h := h_t h hb5
   clear hb5
   refine r_ldn 0 tt_ok (en_Entry e1) ta_45 rfl (by kernel_rfl) (by kernel_rfl) ?_
   refine r_T rfl ?_
   refine r_T rfl ?_
   refine r_ld 1 tt_ok (v := .slice g_c0.Tenants.1 c0.Tenants.length g_c0.Tenants.2) ts_27 rfl (by kernel_rfl) ?_
   refine r_T rfl ?_
   refine r_kp [(2,.pointer (some ⟨bq1,0,none⟩)),(4,.bool false),(7,.bool true),(8,.agg (en_Entry e1).toArray),(11,.int .i64 (c0.Tenants.length : Int))] (by kernel_rfl) fun fr => ?_
   refine r_T rfl ?_
   refine r_T rfl ?_
   refine r_ld 1 tt_ok (v := .slice g_c0.Cells.1 c0.Cells.length g_c0.Cells.2) ts_26 rfl (by kernel_rfl) ?_
   refine r_T rfl ?_
   refine r_T rfl ?_
   refine r_T rfl ?_
   refine r_ld 1 tt_ok (v := .int .i64 c0.Regions) ts_3 rfl (by kernel_rfl) ?_
   refine r_T rfl ?_
   refine r_T rfl ?_
   refine r_ld 1 tt_ok (v := .slice g_c0.Versions.1 c0.Versions.length g_c0.Versions.2) ts_28 rfl (by kernel_rfl) ?_
   refine r_T rfl ?_
   refine r_T rfl ?_
   refine r_bd tt_ok (en_entry_sizes (⟨(c0.Tenants.length : Int),(c0.Cells.length : Int),c0.Regions,(c0.Versions.length : Int)⟩ : entry_sizes)) ti_93 tp_93 (by kernel_rfl) ?_
   refine r_kp [(4,.bool false),(7,.bool true),(8,.agg (en_Entry e1).toArray),(20,.agg (en_entry_sizes (⟨(c0.Tenants.length : Int),(c0.Cells.length : Int),c0.Regions,(c0.Versions.length : Int)⟩ : entry_sizes)).toArray)] (by kernel_rfl) fun fr => ?_
   refine r_T rfl ?_
   replace h := h_b h; obtain ⟨x7,hx6,h⟩ := h
   refine r_call (hc_43 (e0 := e1) (z1 := (⟨(c0.Tenants.length : Int),(c0.Cells.length : Int),c0.Regions,(c0.Versions.length : Int)⟩ : entry_sizes)) (h := hx6)) ?_
   rintro _ _ ⟨rfl,rfl⟩
   refine r_le (le_w [false,false]) ?_
   exact r_done ⟨x7,_,h,fr_eq _ (by kernel_rfl),(by kernel_rfl)⟩
  ·replace h := h_f h hb5
   clear hb5
   refine r_F rfl ?_
   refine r_F rfl ?_
   refine r_F rfl ?_
   refine r_kp [(2,.pointer (some ⟨bq1,0,none⟩)),(4,.bool false),(7,.bool false),(8,undef),(11,undef)] (by kernel_rfl) fun fr => ?_
   refine r_F rfl ?_
   refine r_F rfl ?_
   refine r_F rfl ?_
   refine r_F rfl ?_
   refine r_F rfl ?_
   refine r_F rfl ?_
   refine r_F rfl ?_
   refine r_F rfl ?_
   refine r_F rfl ?_
   refine r_kp [(4,.bool false),(7,.bool false),(8,undef),(20,undef)] (by kernel_rfl) fun fr => ?_
   refine r_F rfl ?_
   refine r_F rfl ?_
   refine r_le (le_w [false,false]) ?_
   exact r_done ⟨false,_,h,fr_eq _ (by kernel_rfl),(by kernel_rfl)⟩
 clear h
 rintro fr S ⟨x8,fr,h,rfl,rfl⟩
 replace h := hK10 _ h
 refine r_done ?_
 repeat refine r_done ?_
 repeat refine r_done ?_
 obtain rfl := h_out h
 exact ret_of (RV.tmp RV.nil) (Le.refl _) ⟨rfl,rfl⟩
theorem hc_44 {ρ : Addr → Option Value} {L : List Ent} {A_s0 : Option Addr} {c_s0 : Nat} {S_s0 : St} (hS_s0 : Le ⟨ρ,L⟩ S_s0) (s0 : (List TenantState)) (h_s0 : Sl S_s0 A_s0 s0.length c_s0 (fl eTenantState.en s0)) {r : (List TenantState)} (h : slices_Clone_api_TenantState_api_TenantState s0 = some r) : HC Try.prog 44 #[.slice A_s0 s0.length c_s0] ⟨ρ,L⟩ (fun v S' => ∃ (Aq1_0 : Option Addr),∃ (cq1_0 : Nat),v = .slice Aq1_0 r.length cq1_0 ∧ S' = ⟨ρ,.row Aq1_0 r.length cq1_0 50 12 (fl eTenantState.en r) :: L⟩) := by
 replace h := h_in h
 refine HC.fact ⟨_,Try.func44,by decide +kernel,by decide +kernel⟩ (sl_nilout h_s0 hS_s0) fun hnil => ?_
 refine HC.intro (N := 8) (args := [_]) tt_ok Try.func44 rfl (by decide +kernel) rfl (Nat.le_of_ble_eq_true rfl) ?_
 refine r_bind ?_
 refine r_done ?_
 refine r_bind ?_
 refine r_bind ?_
 refine r_op (fun w => ex_eqn tt_ok te_33 rfl rfl rfl w) ?_
 refine r_done ?_
 refine r_ite (fun hb1 => ?_) (fun hb1 => ?_)
 ·have hx2 : s0 = [] := hnil (by simpa using hb1)
  clear hb1
  subst hx2
  replace h := h_b h; obtain ⟨xs3,ha4,h⟩ := h
  obtain rfl : xs3 = [] := (app_out ha4).1
  refine r_bind ?_
  refine r_done ?_
  repeat refine r_done ?_
  repeat refine r_done ?_
  obtain rfl := h_out h
  exact ret_of (RV.tmp RV.nil) (le_nil 50 12) ⟨none,0,rfl,rfl⟩
 ·clear hb1
  refine r_done ?_
  refine r_bind ?_
  refine r_bs tt_ok (fl eTenantState.en ([] : (List TenantState))) te_33 ti_50 (by kernel_rfl) (by kernel_rfl) (by kernel_rfl) (by kernel_rfl) fun bq5 => ?_
  replace h := h_b h; obtain ⟨xs6,ha7,h⟩ := h
  refine r_app 0 (E := eTenantState) (xs := ([] : (List TenantState))) (ys := s0) tt_ok ha7 ((h_s0).rd.mono ((le_d 1).trans hS_s0)) rfl te_33 ti_50 rfl (by kernel_rfl) rfl (fun A8 c9 => ?_)
  refine r_done ?_
  repeat refine r_done ?_
  repeat refine r_done ?_
  obtain rfl := h_out h
  exact ret_of (RV.tmp RV.nil) (Le.refl _) ⟨A8,c9,rfl,rfl⟩
theorem hc_45 {ρ : Addr → Option Value} {L : List Ent} {A_s0 : Option Addr} {c_s0 : Nat} {S_s0 : St} (hS_s0 : Le ⟨ρ,L⟩ S_s0) (s0 : (List CellState)) (h_s0 : Sl S_s0 A_s0 s0.length c_s0 (fl eCellState.en s0)) {r : (List CellState)} (h : slices_Clone_api_CellState_api_CellState s0 = some r) : HC Try.prog 45 #[.slice A_s0 s0.length c_s0] ⟨ρ,L⟩ (fun v S' => ∃ (Aq1_0 : Option Addr),∃ (cq1_0 : Nat),v = .slice Aq1_0 r.length cq1_0 ∧ S' = ⟨ρ,.row Aq1_0 r.length cq1_0 67 4 (fl eCellState.en r) :: L⟩) := by
 replace h := h_in h
 refine HC.fact ⟨_,Try.func45,by decide +kernel,by decide +kernel⟩ (sl_nilout h_s0 hS_s0) fun hnil => ?_
 refine HC.intro (N := 8) (args := [_]) tt_ok Try.func45 rfl (by decide +kernel) rfl (Nat.le_of_ble_eq_true rfl) ?_
 refine r_bind ?_
 refine r_done ?_
 refine r_bind ?_
 refine r_bind ?_
 refine r_op (fun w => ex_eqn tt_ok te_34 rfl rfl rfl w) ?_
 refine r_done ?_
 refine r_ite (fun hb1 => ?_) (fun hb1 => ?_)
 ·have hx2 : s0 = [] := hnil (by simpa using hb1)
  clear hb1
  subst hx2
  replace h := h_b h; obtain ⟨xs3,ha4,h⟩ := h
  obtain rfl : xs3 = [] := (app_out ha4).1
  refine r_bind ?_
  refine r_done ?_
  repeat refine r_done ?_
  repeat refine r_done ?_
  obtain rfl := h_out h
  exact ret_of (RV.tmp RV.nil) (le_nil 67 4) ⟨none,0,rfl,rfl⟩
 ·clear hb1
  refine r_done ?_
  refine r_bind ?_
  refine r_bs tt_ok (fl eCellState.en ([] : (List CellState))) te_34 ti_67 (by kernel_rfl) (by kernel_rfl) (by kernel_rfl) (by kernel_rfl) fun bq5 => ?_
  replace h := h_b h; obtain ⟨xs6,ha7,h⟩ := h
  refine r_app 0 (E := eCellState) (xs := ([] : (List CellState))) (ys := s0) tt_ok ha7 ((h_s0).rd.mono ((le_d 1).trans hS_s0)) rfl te_34 ti_67 rfl (by kernel_rfl) rfl (fun A8 c9 => ?_)
  refine r_done ?_
  repeat refine r_done ?_
  repeat refine r_done ?_
  obtain rfl := h_out h
  exact ret_of (RV.tmp RV.nil) (Le.refl _) ⟨A8,c9,rfl,rfl⟩
theorem hc_29 {ρ : Addr → Option Value} {L : List Ent} {g_s0 : gState} {S_s0 : St} (hS_s0 : Le ⟨ρ,L⟩ S_s0) (s0 : State) (h_s0 : Sl_State S_s0 s0 g_s0) {r : State} (h : state_copied s0 = some r) : HC Try.prog 29 #[.agg (en_State s0 g_s0).toArray] ⟨ρ,L⟩ (fun v S' => ∃ (Aq1_0 : Option Addr),∃ (cq1_0 : Nat),∃ (Aq1_1 : Option Addr),∃ (cq1_1 : Nat),v = .agg (en_State r (⟨(Aq1_0,cq1_0),(Aq1_1,cq1_1)⟩)).toArray ∧ S' = ⟨ρ,.row Aq1_0 r.Tenants.length cq1_0 50 12 (fl eTenantState.en r.Tenants) :: .row Aq1_1 r.Cells.length cq1_1 67 4 (fl eCellState.en r.Cells) :: L⟩) := by
 replace h := h_in h
 refine HC.intro (N := 12) (args := [_]) tt_ok Try.func29 rfl (by decide +kernel) rfl (Nat.le_of_ble_eq_true rfl) ?_
 refine r_bind ?_
 refine r_bx (en_State s0 g_s0) (by kernel_rfl) fun bq1 => ?_
 refine r_al tt_ok (en_State (⟨0,0,[],[],0,0,0,0⟩ : State) (⟨(none,0),(none,0)⟩)) ti_36 (by kernel_rfl) fun bq2 => ?_
 refine r_done ?_
 refine r_bind ?_
 refine r_ld 1 tt_ok (v := .slice g_s0.Tenants.1 s0.Tenants.length g_s0.Tenants.2) ts_33 rfl (by kernel_rfl) ?_
 replace h := h_b h; obtain ⟨xs4,hx3,h⟩ := h
 refine r_call (hc_44 (A_s0 := g_s0.Tenants.1) (c_s0 := g_s0.Tenants.2) (s0 := s0.Tenants) (hS_s0 := by exact (le_d 2).trans hS_s0) (h_s0 := by exact h_s0.1) (h := hx3)) ?_
 rintro _ _ ⟨A5,c6,rfl,rfl⟩
 refine r_s 2 tt_ok (en_State ({ s0 with Tenants := xs4 }) (⟨(A5,c6),(g_s0.Cells.1,g_s0.Cells.2)⟩)) (fit1 ts_33 (by kernel_rfl)) rfl (by kernel_rfl) (by kernel_rfl) ?_
 refine r_done ?_
 refine r_bind ?_
 refine r_ld 2 tt_ok (v := .slice g_s0.Cells.1 s0.Cells.length g_s0.Cells.2) ts_34 rfl (by kernel_rfl) ?_
 refine r_kp [(1,.pointer (some ⟨bq1,0,none⟩)),(2,.pointer (some ⟨bq2,0,none⟩)),(8,.slice g_s0.Cells.1 s0.Cells.length g_s0.Cells.2)] (by kernel_rfl) fun fr => ?_
 replace h := h_b h; obtain ⟨xs9,hx8,h⟩ := h
 refine r_call (hc_45 (A_s0 := g_s0.Cells.1) (c_s0 := g_s0.Cells.2) (s0 := s0.Cells) (hS_s0 := by exact (le_d 3).trans hS_s0) (h_s0 := by exact h_s0.2) (h := hx8)) ?_
 rintro _ _ ⟨A10,c11,rfl,rfl⟩
 refine r_s 3 tt_ok (en_State ({ s0 with Tenants := xs4,Cells := xs9 }) (⟨(A5,c6),(A10,c11)⟩)) (fit1 ts_34 (by kernel_rfl)) rfl (by kernel_rfl) (by kernel_rfl) ?_
 refine r_done ?_
 refine r_bind ?_
 refine r_ldn 3 tt_ok (en_State ({ s0 with Tenants := xs4,Cells := xs9 }) (⟨(A5,c6),(A10,c11)⟩)) ta_36 rfl (by kernel_rfl) (by kernel_rfl) ?_
 refine r_s 2 tt_ok (en_State ({ s0 with Tenants := xs4,Cells := xs9 }) (⟨(A5,c6),(A10,c11)⟩)) (fitn ta_36 (by kernel_rfl)) rfl (by kernel_rfl) (by kernel_rfl) ?_
 refine r_done ?_
 repeat refine r_done ?_
 repeat refine r_done ?_
 obtain rfl := h_out h
 exact ret_of (rv_cell 2 tt_ok (by kernel_rfl) ta_36 rfl rfl RV.nil) ((le_mv 1).trans (le_w [true,true,false,false])) ⟨A5,c6,A10,c11,rfl,rfl⟩
theorem hc_71 {ρ : Addr → Option Value} {L : List Ent} {bf0 : Nat} {g_f0 : gstate_fold} {S_f0 : St} (hS_f0 : Le ⟨ρ,L⟩ S_f0) (f0 : state_fold) (cell1 : Int) (h_f0 : Sl_state_fold S_f0 f0 g_f0) (h_f0_t : g_f0.t = fptr g_f0.s_Tenants.1 f0.e.Tenant 12) (h_f0_cell : g_f0.cell = fptr g_f0.s_Cells.1 f0.e.Cell 4) {r : Bool} (h : state_fold_up f0 cell1 = some r) : HC Try.prog 71 #[.pointer (some ⟨bf0,0,none⟩),.int .i64 cell1] ⟨ρ,.row g_f0.s_Tenants.1 f0.s.Tenants.length g_f0.s_Tenants.2 50 12 (fl eTenantState.en f0.s.Tenants) :: .row g_f0.s_Cells.1 f0.s.Cells.length g_f0.s_Cells.2 67 4 (fl eCellState.en f0.s.Cells) :: .obj bf0 (en_state_fold f0 g_f0) 80 :: L⟩ (fun v S' => v = .bool r ∧ S' = ⟨ρ,.row g_f0.s_Tenants.1 f0.s.Tenants.length g_f0.s_Tenants.2 50 12 (fl eTenantState.en f0.s.Tenants) :: .row g_f0.s_Cells.1 f0.s.Cells.length g_f0.s_Cells.2 67 4 (fl eCellState.en f0.s.Cells) :: .obj bf0 (en_state_fold f0 g_f0) 80 :: L⟩) := by
 replace h := h_in h
 refine HC.intro (N := 15) (args := [_,_]) tt_ok Try.func71 rfl (by decide +kernel) rfl (Nat.le_of_ble_eq_true rfl) ?_
 refine r_bind ?_
 refine r_done ?_
 refine r_bind ?_
 refine r_ld 2 tt_ok (v := .slice g_f0.s_Cells.1 f0.s.Cells.length g_f0.s_Cells.2) ts_34 rfl (by kernel_rfl) ?_
 replace h := h_b h; obtain ⟨x1,hx2,h⟩ := h
 refine r_el hx2 (rd_row 1 rfl) ?_
 refine r_lec (E := eCellState) tt_ok (v := .int .i64 x1.Mode) (idx_get hx2) (rd_row 1 rfl) ts_3 rfl (pl1 _ _ _) (by kernel_rfl) ?_
 refine r_kp [(4,.bool false),(13,.int .i64 x1.Mode)] (by kernel_rfl) fun fr => ?_
 refine r_done ?_
 repeat refine r_done ?_
 repeat refine r_done ?_
 obtain rfl := h_out h
 exact ret_of (RV.tmp RV.nil) (Le.refl _) ⟨rfl,rfl⟩
theorem hc_102 {ρ : Addr → Option Value} {L : List Ent}   (n0 : Int) (low1 : Int) (high2 : Int)   : HC Try.prog 102 #[.int .i64 n0,.int .i64 low1,.int .i64 high2] ⟨ρ,L⟩ (fun v S' => v = .bool (topo_between n0 low1 high2) ∧ S' = ⟨ρ,L⟩) := by
 generalize h : topo_between n0 low1 high2 = r
 unfold topo_between at h
 refine HC.intro (N := 15) (args := [_,_,_]) tt_ok Try.func102 rfl (by decide +kernel) rfl (Nat.le_of_ble_eq_true rfl) ?_
 refine r_bind ?_
 refine r_done ?_
 refine r_bind ?_
 refine r_meet (fun fr S => ∃ fr0,fr = updL [(6,.bool ((decide (low1 ≤ n0)) && (decide (n0 ≤ high2))))] fr0 ∧ S = ⟨ρ,L⟩) ?_ ?_
 ·refine r_ite (fun (hb1 : (decide (low1 ≤ n0)) = true) => ?_) (fun (hb1 : (decide (low1 ≤ n0)) = false) => ?_)
  ·refine r_kp [(2,.int .i64 high2),(6,.bool false),(10,.bool true),(11,.int .i64 n0)] (by kernel_rfl) fun fr => ?_
   refine r_T rfl ?_
   refine r_T rfl ?_
   exact r_done ⟨_,fr_eq _ (by (try rw [hb1]); kernel_rfl),(by kernel_rfl)⟩
  ·refine r_kp [(2,.int .i64 high2),(6,.bool false),(10,.bool false),(11,undef)] (by kernel_rfl) fun fr => ?_
   refine r_F rfl ?_
   refine r_F rfl ?_
   refine r_F rfl ?_
   exact r_done ⟨_,fr_eq _ (by (try rw [hb1]); kernel_rfl),(by kernel_rfl)⟩
 rintro fr S ⟨fr,rfl,rfl⟩
 refine r_done ?_
 repeat refine r_done ?_
 repeat refine r_done ?_
 subst h
 exact ret_of (RV.tmp RV.nil) (Le.refl _) ⟨rfl,rfl⟩
theorem hc_98 {ρ : Addr → Option Value} {L : List Ent} {g_c0 : gConfig} {S_c0 : St} (hS_c0 : Le ⟨ρ,L⟩ S_c0) (c0 : Config) (cell1 : Int) (h_c0 : Sl_Config S_c0 c0 g_c0) {r : Int} (h : topo_ZoneOf c0 cell1 = some r) : HC Try.prog 98 #[.agg (en_Config c0 g_c0).toArray,.int .i64 cell1] ⟨ρ,L⟩ (fun v S' => v = .int .i64 r ∧ S' = ⟨ρ,L⟩) := by
 replace h := h_in h
 refine HC.intro (N := 18) (args := [_,_]) tt_ok Try.func98 rfl (by decide +kernel) rfl (Nat.le_of_ble_eq_true rfl) ?_
 refine r_bind ?_
 refine r_bx (en_Config c0 g_c0) (by kernel_rfl) fun bq1 => ?_
 refine r_done ?_
 refine r_bind ?_
 refine r_bind ?_
 refine r_ld 0 tt_ok (v := .slice g_c0.Cells.1 c0.Cells.length g_c0.Cells.2) ts_26 rfl (by kernel_rfl) ?_
 refine r_num (e' := w64 ((c0.Cells.length : Int) - 1)) rfl ?_
 refine r_call (hc_102 (n0 := cell1) (low1 := 0) (high2 := w64 ((c0.Cells.length : Int) - 1))) ?_
 rintro _ _ ⟨rfl,rfl⟩
 refine r_keep [(1,.int .i64 cell1),(2,.pointer (some ⟨bq1,0,none⟩)),(11,.bool (!(topo_between cell1 0 (w64 ((c0.Cells.length : Int) - 1)))))] (by kernel_rfl) fun fr => ?_
 refine r_done ?_
 refine r_ite (fun hb2 => ?_) (fun hb2 => ?_)
 ·replace h := h_t h hb2
  clear hb2
  refine r_bind ?_
  refine r_done ?_
  repeat refine r_done ?_
  repeat refine r_done ?_
  obtain rfl := h_out h
  exact ret_of (RV.tmp RV.nil) (le_w [false]) ⟨rfl,rfl⟩
 ·replace h := h_f h hb2
  clear hb2
  refine r_done ?_
  refine r_bind ?_
  refine r_ld 0 tt_ok (v := .slice g_c0.Cells.1 c0.Cells.length g_c0.Cells.2) ts_26 rfl (by kernel_rfl) ?_
  replace h := h_b h; obtain ⟨x3,hx4,h⟩ := h
  refine r_el hx4 ((h_c0.2.1).rd.mono ((le_d 1).trans hS_c0)) ?_
  refine r_lec (E := eCell) tt_ok (v := .int .i64 x3.Zone) (idx_get hx4) ((h_c0.2.1).rd.mono ((le_d 1).trans hS_c0)) ts_3 rfl (pl1 _ _ _) (by kernel_rfl) ?_
  refine r_done ?_
  repeat refine r_done ?_
  repeat refine r_done ?_
  obtain rfl := h_out h
  exact ret_of (RV.tmp RV.nil) (le_w [false]) ⟨rfl,rfl⟩
theorem hc_97 {ρ : Addr → Option Value} {L : List Ent} {g_c0 : gConfig} {S_c0 : St} (hS_c0 : Le ⟨ρ,L⟩ S_c0) (c0 : Config) (zone1 : Int) (h_c0 : Sl_Config S_c0 c0 g_c0) {r : Int} (h : topo_region c0 zone1 = some r) : HC Try.prog 97 #[.agg (en_Config c0 g_c0).toArray,.int .i64 zone1] ⟨ρ,L⟩ (fun v S' => v = .int .i64 r ∧ S' = ⟨ρ,L⟩) := by
 replace h := h_in h
 refine HC.intro (N := 18) (args := [_,_]) tt_ok Try.func97 rfl (by decide +kernel) rfl (Nat.le_of_ble_eq_true rfl) ?_
 refine r_bind ?_
 refine r_bx (en_Config c0 g_c0) (by kernel_rfl) fun bq1 => ?_
 refine r_done ?_
 refine r_bind ?_
 refine r_bind ?_
 refine r_ld 0 tt_ok (v := .slice g_c0.Zones.1 c0.Zones.length g_c0.Zones.2) ts_25 rfl (by kernel_rfl) ?_
 refine r_num (e' := w64 ((c0.Zones.length : Int) - 1)) rfl ?_
 refine r_call (hc_102 (n0 := zone1) (low1 := 0) (high2 := w64 ((c0.Zones.length : Int) - 1))) ?_
 rintro _ _ ⟨rfl,rfl⟩
 refine r_keep [(1,.int .i64 zone1),(2,.pointer (some ⟨bq1,0,none⟩)),(11,.bool (!(topo_between zone1 0 (w64 ((c0.Zones.length : Int) - 1)))))] (by kernel_rfl) fun fr => ?_
 refine r_done ?_
 refine r_ite (fun hb2 => ?_) (fun hb2 => ?_)
 ·replace h := h_t h hb2
  clear hb2
  refine r_bind ?_
  refine r_done ?_
  repeat refine r_done ?_
  repeat refine r_done ?_
  obtain rfl := h_out h
  exact ret_of (RV.tmp RV.nil) (le_w [false]) ⟨rfl,rfl⟩
 ·replace h := h_f h hb2
  clear hb2
  refine r_done ?_
  refine r_bind ?_
  refine r_ld 0 tt_ok (v := .slice g_c0.Zones.1 c0.Zones.length g_c0.Zones.2) ts_25 rfl (by kernel_rfl) ?_
  replace h := h_b h; obtain ⟨x3,hx4,h⟩ := h
  refine r_el hx4 ((h_c0.1).rd.mono ((le_d 1).trans hS_c0)) ?_
  refine r_lec (E := eZone) tt_ok (v := .int .i64 x3.Region) (idx_get hx4) ((h_c0.1).rd.mono ((le_d 1).trans hS_c0)) ts_3 rfl (pl1 _ _ _) (by kernel_rfl) ?_
  refine r_done ?_
  repeat refine r_done ?_
  repeat refine r_done ?_
  obtain rfl := h_out h
  exact ret_of (RV.tmp RV.nil) (le_w [false]) ⟨rfl,rfl⟩
theorem hc_88 {ρ : Addr → Option Value} {L : List Ent} {g_c0 : gConfig} {S_c0 : St} (hS_c0 : Le ⟨ρ,L⟩ S_c0) (c0 : Config) (cell1 : Int) (h_c0 : Sl_Config S_c0 c0 g_c0) {r : Int} (h : topo_RegionOf c0 cell1 = some r) : HC Try.prog 88 #[.agg (en_Config c0 g_c0).toArray,.int .i64 cell1] ⟨ρ,L⟩ (fun v S' => v = .int .i64 r ∧ S' = ⟨ρ,L⟩) := by
 replace h := h_in h
 refine HC.intro (N := 10) (args := [_,_]) tt_ok Try.func88 rfl (by decide +kernel) rfl (Nat.le_of_ble_eq_true rfl) ?_
 refine r_bind ?_
 refine r_bx (en_Config c0 g_c0) (by kernel_rfl) fun bq1 => ?_
 refine r_done ?_
 refine r_bind ?_
 refine r_mix tt_ok hm_ok _ _ [] (.vb 0 (.vb 1 (.pure 2 (.eff 3 (.eff 4 (.pure 5 .nil)))))) (le_w [true]) (le_w [true]) ?_ ?_
 ·decide +kernel
 refine x_vb rfl ?_
 refine v_ldn 0 tt_ok (en_Config c0 g_c0) ta_30 rfl (by kernel_rfl) (by kernel_rfl) ?_
 refine v_done ?_
 refine x_vb rfl ?_
 refine v_ldn 0 tt_ok (en_Config c0 g_c0) ta_30 rfl (by kernel_rfl) (by kernel_rfl) ?_
 refine v_done ?_
 refine x_p rfl ?_
 refine v_done ?_
 refine x_e rfl ?_
 replace h := h_b h; obtain ⟨x3,hx2,h⟩ := h
 refine r_call (hc_98 (g_c0 := g_c0) (c0 := c0) (cell1 := cell1) (hS_c0 := by exact (le_d 1).trans hS_c0) (h_c0 := by exact h_c0) (h := hx2)) ?_
 rintro _ _ ⟨rfl,rfl⟩
 refine r_done ⟨rfl,k_a (le_w [true]) (le_w [true]),?_⟩
 refine x_e rfl ?_
 replace h := h_b h; obtain ⟨x5,hx4,h⟩ := h
 refine r_call (hc_97 (g_c0 := g_c0) (c0 := c0) (zone1 := x3) (hS_c0 := by exact (le_d 1).trans hS_c0) (h_c0 := by exact h_c0) (h := hx4)) ?_
 rintro _ _ ⟨rfl,rfl⟩
 refine r_done ⟨rfl,k_a (le_w [true]) (le_w [true]),?_⟩
 refine x_p rfl ?_
 refine v_done ?_
 refine x_k [(4,.int .i64 x5)] (by kernel_rfl) fun fr => ?_
 refine r_done ?_
 repeat refine r_done ?_
 repeat refine r_done ?_
 obtain rfl := h_out h
 exact ret_of (RV.tmp RV.nil) (le_w [false]) ⟨rfl,rfl⟩
theorem hc_72 {ρ : Addr → Option Value} {L : List Ent} {bf0 : Nat} {g_f0 : gstate_fold} {S_f0 : St} (hS_f0 : Le ⟨ρ,L⟩ S_f0) (f0 : state_fold) (cell1 : Int) (h_f0 : Sl_state_fold S_f0 f0 g_f0) (h_f0_t : g_f0.t = fptr g_f0.s_Tenants.1 f0.e.Tenant 12) (h_f0_cell : g_f0.cell = fptr g_f0.s_Cells.1 f0.e.Cell 4) {r : Bool} (h : state_fold_evacuating f0 cell1 = some r) : HC Try.prog 72 #[.pointer (some ⟨bf0,0,none⟩),.int .i64 cell1] ⟨ρ,.row g_f0.s_Tenants.1 f0.s.Tenants.length g_f0.s_Tenants.2 50 12 (fl eTenantState.en f0.s.Tenants) :: .row g_f0.s_Cells.1 f0.s.Cells.length g_f0.s_Cells.2 67 4 (fl eCellState.en f0.s.Cells) :: .obj bf0 (en_state_fold f0 g_f0) 80 :: L⟩ (fun v S' => v = .bool r ∧ S' = ⟨ρ,.row g_f0.s_Tenants.1 f0.s.Tenants.length g_f0.s_Tenants.2 50 12 (fl eTenantState.en f0.s.Tenants) :: .row g_f0.s_Cells.1 f0.s.Cells.length g_f0.s_Cells.2 67 4 (fl eCellState.en f0.s.Cells) :: .obj bf0 (en_state_fold f0 g_f0) 80 :: L⟩) := by
 replace h := h_in h
 refine HC.intro (N := 29) (args := [_,_]) tt_ok Try.func72 rfl (by decide +kernel) rfl (Nat.le_of_ble_eq_true rfl) ?_
 refine r_bind ?_
 refine r_done ?_
 refine r_bind ?_
 refine r_ldn 2 tt_ok (en_Config f0.c (⟨(g_f0.c_Zones.1,g_f0.c_Zones.2),(g_f0.c_Cells.1,g_f0.c_Cells.2),(g_f0.c_Tenants.1,g_f0.c_Tenants.2),(g_f0.c_Versions.1,g_f0.c_Versions.2),(g_f0.c_Replicas.1,g_f0.c_Replicas.2),(g_f0.c_Observers.1,g_f0.c_Observers.2)⟩)) ta_30 rfl (by kernel_rfl) (by kernel_rfl) ?_
 replace h := h_b h; obtain ⟨x2,hx1,h⟩ := h
 refine r_call (hc_88 (g_c0 := ⟨(g_f0.c_Zones.1,g_f0.c_Zones.2),(g_f0.c_Cells.1,g_f0.c_Cells.2),(g_f0.c_Tenants.1,g_f0.c_Tenants.2),(g_f0.c_Versions.1,g_f0.c_Versions.2),(g_f0.c_Replicas.1,g_f0.c_Replicas.2),(g_f0.c_Observers.1,g_f0.c_Observers.2)⟩) (c0 := f0.c) (cell1 := cell1) (hS_c0 := by exact (le_d 3).trans hS_f0) (h_c0 := by exact h_f0) (h := hx1)) ?_
 rintro _ _ ⟨rfl,rfl⟩
 refine r_done ?_
 refine r_bind ?_
 replace h := h_j h; obtain ⟨K7,h,hK8⟩ := h
 refine r_meet (fun fr S => ∃ (x6 : Bool),∃ fr0,K7 x6 = some r ∧ fr = updL [(4,.bool x6)] fr0 ∧ S = ⟨ρ,.row g_f0.s_Tenants.1 f0.s.Tenants.length g_f0.s_Tenants.2 50 12 (fl eTenantState.en f0.s.Tenants) :: .row g_f0.s_Cells.1 f0.s.Cells.length g_f0.s_Cells.2 67 4 (fl eCellState.en f0.s.Cells) :: .obj bf0 (en_state_fold f0 g_f0) 80 :: L⟩) ?_ ?_
 ·refine r_ite (fun (hb3 : (decide (0 ≤ x2)) = true) => ?_) (fun (hb3 : (decide (0 ≤ x2)) = false) => ?_)
  ·replace h := h_t h hb3
   clear hb3
   refine r_kp [(0,.pointer (some ⟨bf0,0,none⟩)),(4,.bool false),(5,.int .i64 x2),(14,.bool true),(15,.int .i64 x2)] (by kernel_rfl) fun fr => ?_
   refine r_T rfl ?_
   refine r_ite (fun (hb4 : (decide (x2 < 4)) = true) => ?_) (fun (hb4 : (decide (x2 < 4)) = false) => ?_)
   ·replace h := h_t h hb4
    clear hb4
    refine r_T rfl ?_
    refine r_T rfl ?_
    refine r_T rfl ?_
    refine r_T rfl ?_
    refine r_ld 2 tt_ok (v := .int .i64 f0.s.Evacuating) ts_3 rfl (by kernel_rfl) ?_
    refine r_T rfl ?_
    refine r_kp [(4,.bool false),(18,.bool true),(23,.int .i64 f0.s.Evacuating),(24,.int .i64 x2)] (by kernel_rfl) fun fr => ?_
    refine r_T rfl ?_
    replace h := h_p h; obtain ⟨hc5,h⟩ := h
    refine r_check hc5 ?_
    refine r_num (e' := shr .i64 f0.s.Evacuating x2) rfl ?_
    refine r_T rfl ?_
    refine r_num (e' := bAnd .i64 (shr .i64 f0.s.Evacuating x2) 1) rfl ?_
    refine r_T rfl ?_
    exact r_done ⟨decide (bAnd .i64 (shr .i64 f0.s.Evacuating x2) 1 = 1),_,h,fr_eq _ (by kernel_rfl),(by kernel_rfl)⟩
   ·replace h := h_f h hb4
    clear hb4
    refine r_F rfl ?_
    refine r_F rfl ?_
    refine r_F rfl ?_
    refine r_F rfl ?_
    refine r_F rfl ?_
    refine r_kp [(4,.bool false),(18,.bool false),(23,undef),(24,undef)] (by kernel_rfl) fun fr => ?_
    refine r_F rfl ?_
    refine r_F rfl ?_
    refine r_F rfl ?_
    refine r_F rfl ?_
    exact r_done ⟨false,_,h,fr_eq _ (by kernel_rfl),(by kernel_rfl)⟩
  ·replace h := h_f h hb3
   clear hb3
   refine r_kp [(0,.pointer (some ⟨bf0,0,none⟩)),(4,.bool false),(5,.int .i64 x2),(14,.bool false),(15,undef)] (by kernel_rfl) fun fr => ?_
   refine r_F rfl ?_
   refine r_F rfl ?_
   refine r_F rfl ?_
   refine r_F rfl ?_
   refine r_F rfl ?_
   refine r_F rfl ?_
   refine r_F rfl ?_
   refine r_F rfl ?_
   refine r_kp [(4,.bool false),(18,.bool false),(23,undef),(24,undef)] (by kernel_rfl) fun fr => ?_
   refine r_F rfl ?_
   refine r_F rfl ?_
   refine r_F rfl ?_
   refine r_F rfl ?_
   exact r_done ⟨false,_,h,fr_eq _ (by kernel_rfl),(by kernel_rfl)⟩
 clear h
 rintro fr S ⟨x6,fr,h,rfl,rfl⟩
 replace h := hK8 _ h
 refine r_done ?_
 repeat refine r_done ?_
 repeat refine r_done ?_
 obtain rfl := h_out h
 exact ret_of (RV.tmp RV.nil) (Le.refl _) ⟨rfl,rfl⟩
theorem hc_89 {ρ : Addr → Option Value} {L : List Ent} {g_c0 : gConfig} {S_c0 : St} (hS_c0 : Le ⟨ρ,L⟩ S_c0) (c0 : Config) (a1 : Int) (b2 : Int) (h_c0 : Sl_Config S_c0 c0 g_c0) {r : Bool} (h : tenant_Apart c0 a1 b2 = some r) : HC Try.prog 89 #[.agg (en_Config c0 g_c0).toArray,.int .i64 a1,.int .i64 b2] ⟨ρ,L⟩ (fun v S' => v = .bool r ∧ S' = ⟨ρ,L⟩) := by
 replace h := h_in h
 refine HC.intro (N := 26) (args := [_,_,_]) tt_ok Try.func89 rfl (by decide +kernel) rfl (Nat.le_of_ble_eq_true rfl) ?_
 refine r_bind ?_
 refine r_bx (en_Config c0 g_c0) (by kernel_rfl) fun bq1 => ?_
 refine r_done ?_
 refine r_bind ?_
 refine r_mix tt_ok hm_ok _ _ [] (.vb 0 (.pure 1 (.vb 3 (.pure 4 (.eff 2 (.eff 5 (.pure 6 (.pure 7 .nil)))))))) (le_w [true]) (le_w [true]) ?_ ?_
 ·decide +kernel
 refine x_vb rfl ?_
 refine v_ldn 0 tt_ok (en_Config c0 g_c0) ta_30 rfl (by kernel_rfl) (by kernel_rfl) ?_
 refine v_done ?_
 refine x_p rfl ?_
 refine v_done ?_
 refine x_vb rfl ?_
 refine v_ldn 0 tt_ok (en_Config c0 g_c0) ta_30 rfl (by kernel_rfl) (by kernel_rfl) ?_
 refine v_done ?_
 refine x_p rfl ?_
 refine v_done ?_
 refine x_e rfl ?_
 replace h := h_b h; obtain ⟨x3,hx2,h⟩ := h
 refine r_call (hc_88 (g_c0 := g_c0) (c0 := c0) (cell1 := a1) (hS_c0 := by exact (le_d 1).trans hS_c0) (h_c0 := by exact h_c0) (h := hx2)) ?_
 rintro _ _ ⟨rfl,rfl⟩
 refine r_done ⟨rfl,k_a (le_w [true]) (le_w [true]),?_⟩
 refine x_e rfl ?_
 replace h := h_b h; obtain ⟨x5,hx4,h⟩ := h
 refine r_call (hc_88 (g_c0 := g_c0) (c0 := c0) (cell1 := b2) (hS_c0 := by exact (le_d 1).trans hS_c0) (h_c0 := by exact h_c0) (h := hx4)) ?_
 rintro _ _ ⟨rfl,rfl⟩
 refine r_done ⟨rfl,k_a (le_w [true]) (le_w [true]),?_⟩
 refine x_p rfl ?_
 refine v_done ?_
 refine x_kp [(7,.int .i64 x3),(14,.int .i64 x5)] (by kernel_rfl) fun fr => ?_
 refine x_p rfl ?_
 refine v_done ?_
 refine x_k [(7,.int .i64 x3),(8,.int .i64 x5)] (by kernel_rfl) fun fr => ?_
 refine r_done ?_
 refine r_bind ?_
 refine r_meet (fun fr S => ∃ fr0,fr = updL [(6,.bool ((decide (0 ≤ x3)) && ((decide (0 ≤ x5)) && (!decide (x3 = x5)))))] fr0 ∧ S = ⟨ρ,.obj bq1 (en_Config c0 g_c0) 30 :: L⟩) ?_ ?_
 ·refine r_ite (fun (hb6 : (decide (0 ≤ x3)) = true) => ?_) (fun (hb6 : (decide (0 ≤ x3)) = false) => ?_)
  ·refine r_T rfl ?_
   refine r_kp [(7,.int .i64 x3),(8,.int .i64 x5),(17,.bool true),(19,.bool (decide (0 ≤ x5)))] (by kernel_rfl) fun fr => ?_
   refine r_ite (fun (hb7 : (decide (0 ≤ x5)) = true) => ?_) (fun (hb7 : (decide (0 ≤ x5)) = false) => ?_)
   ·refine r_T rfl ?_
    refine r_T rfl ?_
    exact r_done ⟨_,fr_eq _ (by (try rw [hb7]); (try rw [hb6]); kernel_rfl),(by kernel_rfl)⟩
   ·refine r_F rfl ?_
    refine r_F rfl ?_
    refine r_F rfl ?_
    exact r_done ⟨_,fr_eq _ (by (try rw [hb7]); (try rw [hb6]); kernel_rfl),(by kernel_rfl)⟩
  ·refine r_F rfl ?_
   refine r_kp [(7,.int .i64 x3),(8,.int .i64 x5),(17,.bool false),(19,undef)] (by kernel_rfl) fun fr => ?_
   refine r_F rfl ?_
   refine r_F rfl ?_
   refine r_F rfl ?_
   refine r_F rfl ?_
   refine r_F rfl ?_
   exact r_done ⟨_,fr_eq _ (by (try rw [hb6]); kernel_rfl),(by kernel_rfl)⟩
 rintro fr S ⟨fr,rfl,rfl⟩
 refine r_done ?_
 repeat refine r_done ?_
 repeat refine r_done ?_
 obtain rfl := h_out h
 exact ret_of (RV.tmp RV.nil) (le_w [false]) ⟨rfl,rfl⟩
theorem hc_99 {ρ : Addr → Option Value} {L : List Ent}   (n0 : Int) (low1 : Int) (high2 : Int)   : HC Try.prog 99 #[.int .i64 n0,.int .i64 low1,.int .i64 high2] ⟨ρ,L⟩ (fun v S' => v = .bool (tenant_between n0 low1 high2) ∧ S' = ⟨ρ,L⟩) := by
 generalize h : tenant_between n0 low1 high2 = r
 unfold tenant_between at h
 refine HC.intro (N := 15) (args := [_,_,_]) tt_ok Try.func99 rfl (by decide +kernel) rfl (Nat.le_of_ble_eq_true rfl) ?_
 refine r_bind ?_
 refine r_done ?_
 refine r_bind ?_
 refine r_meet (fun fr S => ∃ fr0,fr = updL [(6,.bool ((decide (low1 ≤ n0)) && (decide (n0 ≤ high2))))] fr0 ∧ S = ⟨ρ,L⟩) ?_ ?_
 ·refine r_ite (fun (hb1 : (decide (low1 ≤ n0)) = true) => ?_) (fun (hb1 : (decide (low1 ≤ n0)) = false) => ?_)
  ·refine r_kp [(2,.int .i64 high2),(6,.bool false),(10,.bool true),(11,.int .i64 n0)] (by kernel_rfl) fun fr => ?_
   refine r_T rfl ?_
   refine r_T rfl ?_
   exact r_done ⟨_,fr_eq _ (by (try rw [hb1]); kernel_rfl),(by kernel_rfl)⟩
  ·refine r_kp [(2,.int .i64 high2),(6,.bool false),(10,.bool false),(11,undef)] (by kernel_rfl) fun fr => ?_
   refine r_F rfl ?_
   refine r_F rfl ?_
   refine r_F rfl ?_
   exact r_done ⟨_,fr_eq _ (by (try rw [hb1]); kernel_rfl),(by kernel_rfl)⟩
 rintro fr S ⟨fr,rfl,rfl⟩
 refine r_done ?_
 repeat refine r_done ?_
 repeat refine r_done ?_
 subst h
 exact ret_of (RV.tmp RV.nil) (Le.refl _) ⟨rfl,rfl⟩
theorem hc_90 {ρ : Addr → Option Value} {L : List Ent} {g_c0 : gConfig} {S_c0 : St} (hS_c0 : Le ⟨ρ,L⟩ S_c0) (c0 : Config) (tenant1 : Int) (cell2 : Int) (h_c0 : Sl_Config S_c0 c0 g_c0) {r : Bool} (h : tenant_May c0 tenant1 cell2 = some r) : HC Try.prog 90 #[.agg (en_Config c0 g_c0).toArray,.int .i64 tenant1,.int .i64 cell2] ⟨ρ,L⟩ (fun v S' => v = .bool r ∧ S' = ⟨ρ,L⟩) := by
 replace h := h_in h
 refine HC.intro (N := 33) (args := [_,_,_]) tt_ok Try.func90 rfl (by decide +kernel) rfl (Nat.le_of_ble_eq_true rfl) ?_
 refine r_bind ?_
 refine r_bx (en_Config c0 g_c0) (by kernel_rfl) fun bq1 => ?_
 refine r_done ?_
 refine r_bind ?_
 refine r_ldn 0 tt_ok (en_Config c0 g_c0) ta_30 rfl (by kernel_rfl) (by kernel_rfl) ?_
 replace h := h_b h; obtain ⟨x3,hx2,h⟩ := h
 refine r_call (hc_88 (g_c0 := g_c0) (c0 := c0) (cell1 := cell2) (hS_c0 := by exact (le_d 1).trans hS_c0) (h_c0 := by exact h_c0) (h := hx2)) ?_
 rintro _ _ ⟨rfl,rfl⟩
 refine r_done ?_
 refine r_bind ?_
 replace h := h_j h; obtain ⟨K10,h,hK11⟩ := h
 refine r_meet (fun fr S => ∃ (x9 : Bool),∃ fr0,K10 x9 = some r ∧ fr = updL [(6,.bool x9)] fr0 ∧ S = ⟨ρ,L⟩) ?_ ?_
 ·refine r_ld 0 tt_ok (v := .slice g_c0.Tenants.1 c0.Tenants.length g_c0.Tenants.2) ts_27 rfl (by kernel_rfl) ?_
  refine r_num (e' := w64 ((c0.Tenants.length : Int) - 1)) rfl ?_
  refine r_call (hc_99 (n0 := tenant1) (low1 := 0) (high2 := w64 ((c0.Tenants.length : Int) - 1))) ?_
  rintro _ _ ⟨rfl,rfl⟩
  refine r_kp [(1,.int .i64 tenant1),(3,.pointer (some ⟨bq1,0,none⟩)),(6,.bool false),(7,.int .i64 x3),(16,.bool (tenant_between tenant1 0 (w64 ((c0.Tenants.length : Int) - 1))))] (by kernel_rfl) fun fr => ?_
  refine r_ite (fun (hb4 : (tenant_between tenant1 0 (w64 ((c0.Tenants.length : Int) - 1))) = true) => ?_) (fun (hb4 : (tenant_between tenant1 0 (w64 ((c0.Tenants.length : Int) - 1))) = false) => ?_)
  ·replace h := h_t h hb4
   clear hb4
   refine r_T rfl ?_
   refine r_call (hc_99 (n0 := x3) (low1 := 0) (high2 := 3)) ?_
   rintro _ _ ⟨rfl,rfl⟩
   refine r_ite (fun (hb5 : (tenant_between x3 0 3) = true) => ?_) (fun (hb5 : (tenant_between x3 0 3) = false) => ?_)
   ·replace h := h_t h hb5
    clear hb5
    refine r_T rfl ?_
    refine r_ld 0 tt_ok (v := .slice g_c0.Tenants.1 c0.Tenants.length g_c0.Tenants.2) ts_27 rfl (by kernel_rfl) ?_
    refine r_T rfl ?_
    refine r_T rfl ?_
    replace h := h_b h; obtain ⟨x6,hx7,h⟩ := h
    refine r_el hx7 ((h_c0.2.2.1).rd.mono ((le_d 1).trans hS_c0)) ?_
    refine r_kp [(6,.bool false),(7,.int .i64 x3),(21,.bool true),(25,.pointer (some ((adr g_c0.Tenants.1).add (tenant1.toNat * 7))))] (by kernel_rfl) fun fr => ?_
    refine r_T rfl ?_
    refine r_T rfl ?_
    refine r_lec (E := eTenant) tt_ok (v := .int .i64 x6.Allowed) (idx_get hx7) ((h_c0.2.2.1).rd.mono ((le_d 1).trans hS_c0)) ts_3 rfl (pl1 _ _ _) (by kernel_rfl) ?_
    refine r_T rfl ?_
    refine r_T rfl ?_
    replace h := h_p h; obtain ⟨hc8,h⟩ := h
    refine r_check hc8 ?_
    refine r_num (e' := shr .i64 x6.Allowed x3) rfl ?_
    refine r_T rfl ?_
    refine r_num (e' := bAnd .i64 (shr .i64 x6.Allowed x3) 1) rfl ?_
    refine r_T rfl ?_
    refine r_le (le_w [false]) ?_
    exact r_done ⟨decide (bAnd .i64 (shr .i64 x6.Allowed x3) 1 = 1),_,h,fr_eq _ (by kernel_rfl),(by kernel_rfl)⟩
   ·replace h := h_f h hb5
    clear hb5
    refine r_F rfl ?_
    refine r_F rfl ?_
    refine r_F rfl ?_
    refine r_kp [(6,.bool false),(7,.int .i64 x3),(21,.bool false),(25,undef)] (by kernel_rfl) fun fr => ?_
    refine r_F rfl ?_
    refine r_F rfl ?_
    refine r_F rfl ?_
    refine r_F rfl ?_
    refine r_F rfl ?_
    refine r_F rfl ?_
    refine r_F rfl ?_
    refine r_le (le_w [false]) ?_
    exact r_done ⟨false,_,h,fr_eq _ (by kernel_rfl),(by kernel_rfl)⟩
  ·replace h := h_f h hb4
   clear hb4
   refine r_F rfl ?_
   refine r_F rfl ?_
   refine r_F rfl ?_
   refine r_F rfl ?_
   refine r_F rfl ?_
   refine r_F rfl ?_
   refine r_kp [(6,.bool false),(7,.int .i64 x3),(21,.bool false),(25,undef)] (by kernel_rfl) fun fr => ?_
   refine r_F rfl ?_
   refine r_F rfl ?_
   refine r_F rfl ?_
   refine r_F rfl ?_
   refine r_F rfl ?_
   refine r_F rfl ?_
   refine r_F rfl ?_
   refine r_le (le_w [false]) ?_
   exact r_done ⟨false,_,h,fr_eq _ (by kernel_rfl),(by kernel_rfl)⟩
 clear h
 rintro fr S ⟨x9,fr,h,rfl,rfl⟩
 replace h := hK11 _ h
 refine r_done ?_
 repeat refine r_done ?_
 repeat refine r_done ?_
 obtain rfl := h_out h
 exact ret_of (RV.tmp RV.nil) (Le.refl _) ⟨rfl,rfl⟩
theorem hc_73 {ρ : Addr → Option Value} {L : List Ent} {bf0 : Nat} {g_f0 : gstate_fold} {A_others2 : Option Addr} {c_others2 : Nat} {S_f0 : St} (hS_f0 : Le ⟨ρ,L⟩ S_f0) {S_others2 : St} (hS_others2 : Le ⟨ρ,L⟩ S_others2) (f0 : state_fold) (cell1 : Int) (others2 : (List Int)) (h_f0 : Sl_state_fold S_f0 f0 g_f0) (h_others2 : Sl S_others2 A_others2 others2.length c_others2 (fl eI64.en others2)) (h_f0_t : g_f0.t = fptr g_f0.s_Tenants.1 f0.e.Tenant 12) (h_f0_cell : g_f0.cell = fptr g_f0.s_Cells.1 f0.e.Cell 4) {r : Bool} (h : state_fold_may f0 cell1 others2 = some r) : HC Try.prog 73 #[.pointer (some ⟨bf0,0,none⟩),.int .i64 cell1,.slice A_others2 others2.length c_others2] ⟨ρ,.row g_f0.s_Tenants.1 f0.s.Tenants.length g_f0.s_Tenants.2 50 12 (fl eTenantState.en f0.s.Tenants) :: .row g_f0.s_Cells.1 f0.s.Cells.length g_f0.s_Cells.2 67 4 (fl eCellState.en f0.s.Cells) :: .obj bf0 (en_state_fold f0 g_f0) 80 :: L⟩ (fun v S' => v = .bool r ∧ S' = ⟨ρ,.row g_f0.s_Tenants.1 f0.s.Tenants.length g_f0.s_Tenants.2 50 12 (fl eTenantState.en f0.s.Tenants) :: .row g_f0.s_Cells.1 f0.s.Cells.length g_f0.s_Cells.2 67 4 (fl eCellState.en f0.s.Cells) :: .obj bf0 (en_state_fold f0 g_f0) 80 :: L⟩) := by
 replace h := h_in h
 refine HC.intro (N := 39) (args := [_,_,_]) tt_ok Try.func73 rfl (by decide +kernel) rfl (Nat.le_of_ble_eq_true rfl) ?_
 refine r_bind ?_
 refine r_done ?_
 refine r_bind ?_
 replace h := h_k h; obtain ⟨K38,h,hK39⟩ := h
 refine r_meet (fun fr S => ∃ fr0,(state_fold_may.j1 f0 cell1).bind K38 = some r ∧ fr = updL [(0,.pointer (some ⟨bf0,0,none⟩)),(1,.int .i64 cell1)] fr0 ∧ S = ⟨ρ,.row g_f0.s_Tenants.1 f0.s.Tenants.length g_f0.s_Tenants.2 50 12 (fl eTenantState.en f0.s.Tenants) :: .row g_f0.s_Cells.1 f0.s.Cells.length g_f0.s_Cells.2 67 4 (fl eCellState.en f0.s.Cells) :: .obj bf0 (en_state_fold f0 g_f0) 80 :: L⟩) ?_ ?_
 ·refine r_bind ?_
  refine r_done ?_
  refine r_bind ?_
  replace h := h_l h; obtain ⟨K34,n35,h,hK36⟩ := h
  refine r_loop (fun n fr S => ∃ (x23 : Int),∃ fr0,(runN (state_fold_may.b2 others2 f0 cell1) n x23).bind K34 = some r ∧ fr = updL [(0,.pointer (some ⟨bf0,0,none⟩)),(1,.int .i64 cell1),(9,.slice A_others2 others2.length c_others2),(10,.int .i64 (others2.length : Int)),(11,.int .i64 x23)] fr0 ∧ S = ⟨ρ,.row g_f0.s_Tenants.1 f0.s.Tenants.length g_f0.s_Tenants.2 50 12 (fl eTenantState.en f0.s.Tenants) :: .row g_f0.s_Cells.1 f0.s.Cells.length g_f0.s_Cells.2 67 4 (fl eCellState.en f0.s.Cells) :: .obj bf0 (en_state_fold f0 g_f0) 80 :: L⟩) n35 ⟨0,_,h,fr_eq _ (by kernel_rfl),(by kernel_rfl)⟩ ?_
  clear h
  rintro n35 fr S ⟨x23,fr,h,rfl,rfl⟩
  replace h := h_r h; obtain ⟨m37,hm37,h⟩ := h
  refine r_bind ?_
  refine r_done ?_
  refine r_bind ?_
  refine r_ite (fun hb24 => ?_) (fun hb24 => ?_)
  ·replace h := h_t h hb24
   clear hb24
   refine r_done ?_
   refine r_bind ?_
   refine r_bind ?_
   refine r_bind ?_
   replace h := h_b h; obtain ⟨x25,hx26,h⟩ := h
   refine r_el hx26 ((h_others2).rd.mono ((le_d 3).trans hS_others2)) ?_
   refine r_lec (E := eI64) tt_ok (v := .int .i64 x25) (idx_get hx26) ((h_others2).rd.mono ((le_d 3).trans hS_others2)) ts_3 rfl (pl0 _ _) (by kernel_rfl) ?_
   refine r_done ?_
   refine r_bind ?_
   replace h := h_j h; obtain ⟨K31,h,hK32⟩ := h
   refine r_meet (fun fr S => ∃ (x30 : Bool),∃ fr0,K31 x30 = some r ∧ fr = updL [(0,.pointer (some ⟨bf0,0,none⟩)),(1,.int .i64 cell1),(9,.slice A_others2 others2.length c_others2),(10,.int .i64 (others2.length : Int)),(11,.int .i64 x23),(26,.bool x30)] fr0 ∧ S = ⟨ρ,.row g_f0.s_Tenants.1 f0.s.Tenants.length g_f0.s_Tenants.2 50 12 (fl eTenantState.en f0.s.Tenants) :: .row g_f0.s_Cells.1 f0.s.Cells.length g_f0.s_Cells.2 67 4 (fl eCellState.en f0.s.Cells) :: .obj bf0 (en_state_fold f0 g_f0) 80 :: L⟩) ?_ ?_
   ·refine r_ite (fun (hb27 : (!decide (x25 = (-1))) = true) => ?_) (fun (hb27 : (!decide (x25 = (-1))) = false) => ?_)
    ·replace h := h_t h hb27
     clear hb27
     refine r_kp [(0,.pointer (some ⟨bf0,0,none⟩)),(1,.int .i64 cell1),(8,.int .i64 x25),(9,.slice A_others2 others2.length c_others2),(10,.int .i64 (others2.length : Int)),(11,.int .i64 x23),(17,.bool true),(18,.pointer (some ⟨bf0,0,none⟩))] (by kernel_rfl) fun fr => ?_
     refine r_T rfl ?_
     refine r_T rfl ?_
     refine r_T rfl ?_
     refine r_ldn 2 tt_ok (en_Config f0.c (⟨(g_f0.c_Zones.1,g_f0.c_Zones.2),(g_f0.c_Cells.1,g_f0.c_Cells.2),(g_f0.c_Tenants.1,g_f0.c_Tenants.2),(g_f0.c_Versions.1,g_f0.c_Versions.2),(g_f0.c_Replicas.1,g_f0.c_Replicas.2),(g_f0.c_Observers.1,g_f0.c_Observers.2)⟩)) ta_30 rfl (by kernel_rfl) (by kernel_rfl) ?_
     refine r_T rfl ?_
     refine r_T rfl ?_
     refine r_T rfl ?_
     replace h := h_b h; obtain ⟨x29,hx28,h⟩ := h
     refine r_call (hc_89 (g_c0 := ⟨(g_f0.c_Zones.1,g_f0.c_Zones.2),(g_f0.c_Cells.1,g_f0.c_Cells.2),(g_f0.c_Tenants.1,g_f0.c_Tenants.2),(g_f0.c_Versions.1,g_f0.c_Versions.2),(g_f0.c_Replicas.1,g_f0.c_Replicas.2),(g_f0.c_Observers.1,g_f0.c_Observers.2)⟩) (c0 := f0.c) (a1 := cell1) (b2 := x25) (hS_c0 := by exact (le_d 3).trans hS_f0) (h_c0 := by exact h_f0) (h := hx28)) ?_
     rintro _ _ ⟨rfl,rfl⟩
     refine r_T rfl ?_
     exact r_done ⟨!x29,_,h,fr_eq _ (by kernel_rfl),(by kernel_rfl)⟩
    ·replace h := h_f h hb27
     clear hb27
     refine r_kp [(0,.pointer (some ⟨bf0,0,none⟩)),(1,.int .i64 cell1),(8,.int .i64 x25),(9,.slice A_others2 others2.length c_others2),(10,.int .i64 (others2.length : Int)),(11,.int .i64 x23),(17,.bool false),(18,undef)] (by kernel_rfl) fun fr => ?_
     refine r_F rfl ?_
     refine r_F rfl ?_
     refine r_F rfl ?_
     refine r_F rfl ?_
     refine r_F rfl ?_
     refine r_F rfl ?_
     refine r_F rfl ?_
     refine r_F rfl ?_
     exact r_done ⟨false,_,h,fr_eq _ (by kernel_rfl),(by kernel_rfl)⟩
   clear h
   rintro fr S ⟨x30,fr,h,rfl,rfl⟩
   replace h := hK32 _ h
   refine r_done ?_
   refine r_ite (fun hb33 => ?_) (fun hb33 => ?_)
   ·replace h := h_t h hb33
    clear hb33
    refine r_bind ?_
    refine r_done ?_
    repeat refine r_done ?_
    replace h := h_m h
    subst hK36
    subst hK39
    repeat refine r_done ?_
    obtain rfl := h_out h
    exact ret_of (RV.tmp RV.nil) (Le.refl _) ⟨rfl,rfl⟩
   ·replace h := h_f h hb33
    clear hb33
    refine r_done ?_
    refine r_done ?_
    refine r_num (e' := w64 (x23 + 1)) rfl ?_
    exact r_done ⟨m37,lt_s hm37,w64 (x23 + 1),_,h,fr_eq _ (by kernel_rfl),(by kernel_rfl)⟩
  ·replace h := h_f h hb24
   clear hb24
   refine r_done ?_
   refine r_done ?_
   replace h := h_m h
   subst hK36
   exact r_done ⟨_,h,fr_eq _ (by kernel_rfl),(by kernel_rfl)⟩
 clear h
 rintro fr S ⟨fr,h,rfl,rfl⟩
 subst hK39
 refine r_done ?_
 refine r_bind ?_
 refine r_mix tt_ok hm_ok _ _ [] (.pure 0 (.pure 1 (.pure 2 (.vb 3 (.pure 4 (.pure 5 (.pure 6 (.pure 7 (.vb 8 (.pure 9 (.eff 10 (.pure 11 .nil)))))))))))) (le_w [true,true,true]) (le_w [true,true,true]) ?_ ?_
 ·decide +kernel
 refine x_p rfl ?_
 refine v_done ?_
 refine x_p rfl ?_
 refine v_done ?_
 refine x_p rfl ?_
 refine v_done ?_
 refine x_vb rfl ?_
 refine v_ldn 2 tt_ok (en_Config f0.c (⟨(g_f0.c_Zones.1,g_f0.c_Zones.2),(g_f0.c_Cells.1,g_f0.c_Cells.2),(g_f0.c_Tenants.1,g_f0.c_Tenants.2),(g_f0.c_Versions.1,g_f0.c_Versions.2),(g_f0.c_Replicas.1,g_f0.c_Replicas.2),(g_f0.c_Observers.1,g_f0.c_Observers.2)⟩)) ta_30 rfl (by kernel_rfl) (by kernel_rfl) ?_
 refine v_done ?_
 refine x_p rfl ?_
 refine v_done ?_
 refine x_p rfl ?_
 refine v_done ?_
 refine x_p rfl ?_
 refine v_done ?_
 refine x_p rfl ?_
 refine v_done ?_
 refine x_vb rfl ?_
 refine v_ld 2 tt_ok (v := .int .i64 f0.e.Tenant) ts_3 rfl (by kernel_rfl) ?_
 refine v_done ?_
 refine x_kp [(1,.int .i64 cell1),(31,.agg (en_Config f0.c (⟨(g_f0.c_Zones.1,g_f0.c_Zones.2),(g_f0.c_Cells.1,g_f0.c_Cells.2),(g_f0.c_Tenants.1,g_f0.c_Tenants.2),(g_f0.c_Versions.1,g_f0.c_Versions.2),(g_f0.c_Replicas.1,g_f0.c_Replicas.2),(g_f0.c_Observers.1,g_f0.c_Observers.2)⟩)).toArray),(36,.int .i64 f0.e.Tenant)] (by kernel_rfl) fun fr => ?_
 refine x_p rfl ?_
 refine v_done ?_
 refine x_e rfl ?_
 replace h := h_b h; obtain ⟨x41,hx40,h⟩ := h
 refine r_call (hc_90 (g_c0 := ⟨(g_f0.c_Zones.1,g_f0.c_Zones.2),(g_f0.c_Cells.1,g_f0.c_Cells.2),(g_f0.c_Tenants.1,g_f0.c_Tenants.2),(g_f0.c_Versions.1,g_f0.c_Versions.2),(g_f0.c_Replicas.1,g_f0.c_Replicas.2),(g_f0.c_Observers.1,g_f0.c_Observers.2)⟩) (c0 := f0.c) (tenant1 := f0.e.Tenant) (cell2 := cell1) (hS_c0 := by exact (le_d 3).trans hS_f0) (h_c0 := by exact h_f0) (h := hx40)) ?_
 rintro _ _ ⟨rfl,rfl⟩
 refine r_done ⟨rfl,k_a (le_w [true,true,true]) (le_w [true,true,true]),?_⟩
 refine x_p rfl ?_
 refine v_done ?_
 refine x_k [(6,.bool x41)] (by kernel_rfl) fun fr => ?_
 refine r_done ?_
 repeat refine r_done ?_
 repeat refine r_done ?_
 obtain rfl := h_out h
 exact ret_of (RV.tmp RV.nil) (Le.refl _) ⟨rfl,rfl⟩
theorem hc_86 {ρ : Addr → Option Value} {L : List Ent}   (x0 : TenantState)   : HC Try.prog 86 #[.agg (en_TenantState x0).toArray] ⟨ρ,L⟩ (fun v S' => v = .bool (load_active x0) ∧ S' = ⟨ρ,L⟩) := by
 generalize h : load_active x0 = r
 unfold load_active at h
 refine HC.intro (N := 10) (args := [_]) tt_ok Try.func86 rfl (by decide +kernel) rfl (Nat.le_of_ble_eq_true rfl) ?_
 refine r_bind ?_
 refine r_bx (en_TenantState x0) (by kernel_rfl) fun bq1 => ?_
 refine r_done ?_
 refine r_bind ?_
 refine r_meet (fun fr S => ∃ fr0,fr = updL [(2,.bool (x0.Placed && (!x0.Shed)))] fr0 ∧ S = ⟨ρ,.obj bq1 (en_TenantState x0) 50 :: L⟩) ?_ ?_
 ·refine r_ld 0 tt_ok (v := .bool x0.Placed) ts_4 rfl (by kernel_rfl) ?_
  refine r_ite (fun (hb2 : x0.Placed = true) => ?_) (fun (hb2 : x0.Placed = false) => ?_)
  ·refine r_kp [(2,.bool false),(5,.bool true),(6,.pointer (some ⟨bq1,1,none⟩))] (by kernel_rfl) fun fr => ?_
   refine r_T rfl ?_
   refine r_ld 0 tt_ok (v := .bool x0.Shed) ts_4 rfl (by kernel_rfl) ?_
   refine r_T rfl ?_
   exact r_done ⟨_,fr_eq _ (by (try rw [hb2]); kernel_rfl),(by kernel_rfl)⟩
  ·refine r_kp [(2,.bool false),(5,.bool false),(6,undef)] (by kernel_rfl) fun fr => ?_
   refine r_F rfl ?_
   refine r_F rfl ?_
   refine r_F rfl ?_
   exact r_done ⟨_,fr_eq _ (by (try rw [hb2]); kernel_rfl),(by kernel_rfl)⟩
 rintro fr S ⟨fr,rfl,rfl⟩
 refine r_done ?_
 repeat refine r_done ?_
 repeat refine r_done ?_
 subst h
 exact ret_of (RV.tmp RV.nil) (le_w [false]) ⟨rfl,rfl⟩
theorem hc_87 {ρ : Addr → Option Value} {L : List Ent} {A_l0 : Option Addr} {c_l0 : Nat}  (l0 : (List Int)) (cell1 : Int) (n2 : Int)  {r : (List Int)} (h : load_sums_add l0 cell1 n2 = some r) : HC Try.prog 87 #[.slice A_l0 l0.length c_l0,.int .i64 cell1,.int .i64 n2] ⟨ρ,.row A_l0 l0.length c_l0 3 1 (fl eI64.en l0) :: L⟩ (fun v S' => v = .tuple #[] ∧ S' = ⟨ρ,.row A_l0 r.length c_l0 3 1 (fl eI64.en r) :: L⟩ ∧ r.length = l0.length) := by
 replace h := h_in h
 refine HC.intro (N := 21) (args := [_,_,_]) tt_ok Try.func87 rfl (by decide +kernel) rfl (Nat.le_of_ble_eq_true rfl) ?_
 refine r_bind ?_
 refine r_meet (fun fr S => ∃ fr0,fr = updL [(0,.slice A_l0 l0.length c_l0),(1,.int .i64 cell1),(2,.int .i64 n2),(13,.bool ((decide (0 ≤ cell1)) && (decide (cell1 < (l0.length : Int)))))] fr0 ∧ S = ⟨ρ,.row A_l0 l0.length c_l0 3 1 (fl eI64.en l0) :: L⟩) ?_ ?_
 ·refine r_ite (fun (hb1 : (decide (0 ≤ cell1)) = true) => ?_) (fun (hb1 : (decide (0 ≤ cell1)) = false) => ?_)
  ·refine r_T rfl ?_
   refine r_kp [(0,.slice A_l0 l0.length c_l0),(1,.int .i64 cell1),(2,.int .i64 n2),(8,.bool true),(9,.int .i64 cell1),(10,.slice A_l0 l0.length c_l0)] (by kernel_rfl) fun fr => ?_
   refine r_T rfl ?_
   refine r_T rfl ?_
   exact r_done ⟨_,fr_eq _ (by (try rw [hb1]); kernel_rfl),(by kernel_rfl)⟩
  ·refine r_F rfl ?_
   refine r_kp [(0,.slice A_l0 l0.length c_l0),(1,.int .i64 cell1),(2,.int .i64 n2),(8,.bool false),(9,undef),(10,undef)] (by kernel_rfl) fun fr => ?_
   refine r_F rfl ?_
   refine r_F rfl ?_
   refine r_F rfl ?_
   exact r_done ⟨_,fr_eq _ (by (try rw [hb1]); kernel_rfl),(by kernel_rfl)⟩
 rintro fr S ⟨fr,rfl,rfl⟩
 refine r_done ?_
 refine r_ite (fun hb2 => ?_) (fun hb2 => ?_)
 ·replace h := h_t h hb2
  clear hb2
  replace h := h_b h; obtain ⟨x3,hx4,h⟩ := h
  refine r_el hx4 (rd_row 0 rfl) ?_
  refine r_lec (E := eI64) tt_ok (v := .int .i64 x3) (idx_get hx4) (rd_row 0 rfl) ts_3 rfl (pl0 _ _) (by kernel_rfl) ?_
  refine r_num (e' := w64 (x3 + n2)) rfl ?_
  refine r_el hx4 (rd_row 0 rfl) ?_
  refine r_sec 0 (E := eI64) tt_ok (w64 (x3 + n2)) (idx_get hx4) (fit1 ts_3 (by kernel_rfl)) rfl rfl (pl0 _ _) (by kernel_rfl) (by kernel_rfl) (List.cons_ne_nil _ _) ?_
  rw [← @List.length_set _ l0 cell1.toNat (w64 (x3 + n2))]
  repeat refine r_done ?_
  obtain rfl := h_out h
  exact ret_of RV.nil (Le.refl _) ⟨rfl,rfl,(by simp)⟩
 ·replace h := h_f h hb2
  clear hb2
  repeat refine r_done ?_
  obtain rfl := h_out h
  exact ret_of RV.nil (Le.refl _) ⟨rfl,rfl,(by simp)⟩
theorem hc_64 {ρ : Addr → Option Value} {L : List Ent} {g_c0 : gConfig} {g_s1 : gState} {S_c0 : St} (hS_c0 : Le ⟨ρ,L⟩ S_c0) {S_s1 : St} (hS_s1 : Le ⟨ρ,L⟩ S_s1) (c0 : Config) (s1 : State) (h_c0 : Sl_Config S_c0 c0 g_c0) (h_s1 : Sl_State S_s1 s1 g_s1) {r : (List Int)} (h : load_Booked c0 s1 = some r) : HC Try.prog 64 #[.agg (en_Config c0 g_c0).toArray,.agg (en_State s1 g_s1).toArray] ⟨ρ,L⟩ (fun v S' => ∃ (Aq1_0 : Option Addr),∃ (cq1_0 : Nat),v = .slice Aq1_0 r.length cq1_0 ∧ S' = ⟨ρ,.row Aq1_0 r.length cq1_0 3 1 (fl eI64.en r) :: L⟩) := by
 replace h := h_in h
 refine HC.intro (N := 15) (args := [_,_]) tt_ok Try.func64 rfl (by decide +kernel) rfl (Nat.le_of_ble_eq_true rfl) ?_
 refine r_bind ?_
 refine r_bx (en_Config c0 g_c0) (by kernel_rfl) fun bq1 => ?_
 refine r_bx (en_State s1 g_s1) (by kernel_rfl) fun bq2 => ?_
 refine r_done ?_
 refine r_bind ?_
 refine r_ld 1 tt_ok (v := .slice g_c0.Cells.1 c0.Cells.length g_c0.Cells.2) ts_26 rfl (by kernel_rfl) ?_
 replace h := h_b h; obtain ⟨xs3,hz4,h⟩ := h
 refine r_mks tt_ok 0 (E := eI64) hz4 te_107 ti_3 rfl (by kernel_rfl) rfl rfl fun bq5 => ?_
 refine r_al tt_ok ([.slice none 0 0]) ti_107 (by kernel_rfl) fun bq6 => ?_
 refine r_s 0 tt_ok ([.slice (some ⟨bq5,0,none⟩) xs3.length xs3.length]) (fit1 ts_107 (by kernel_rfl)) rfl (by kernel_rfl) (by kernel_rfl) ?_
 refine r_keep [(2,.pointer (some ⟨bq1,0,none⟩)),(3,.pointer (some ⟨bq2,0,none⟩)),(5,.pointer (some ⟨bq6,0,none⟩))] (by kernel_rfl) fun fr => ?_
 refine r_done ?_
 refine r_bind ?_
 refine r_ldn 3 tt_ok (en_Config c0 g_c0) ta_30 rfl (by kernel_rfl) (by kernel_rfl) ?_
 refine r_ldn 2 tt_ok (en_State s1 g_s1) ta_36 rfl (by kernel_rfl) (by kernel_rfl) ?_
 refine r_inl (HC.intro (N := 33) (args := [_,_,_]) tt_ok Try.func84 rfl (by decide +kernel) rfl (Nat.le_of_ble_eq_true rfl) ?_)
 refine r_bind ?_
 refine r_bx (en_Config c0 g_c0) (by kernel_rfl) fun bq7 => ?_
 refine r_bx (en_State s1 g_s1) (by kernel_rfl) fun bq8 => ?_
 refine r_done ?_
 refine r_bind ?_
 refine r_ld 0 tt_ok (v := .slice g_s1.Tenants.1 s1.Tenants.length g_s1.Tenants.2) ts_33 rfl (by kernel_rfl) ?_
 refine r_ld 0 tt_ok (v := .slice g_s1.Tenants.1 s1.Tenants.length g_s1.Tenants.2) ts_33 rfl (by kernel_rfl) ?_
 refine r_ld 1 tt_ok (v := .slice g_c0.Tenants.1 c0.Tenants.length g_c0.Tenants.2) ts_27 rfl (by kernel_rfl) ?_
 refine r_kp [(2,.func (.func 85) #[] #[.pointer (some ⟨bq6,0,none⟩)]),(3,.pointer (some ⟨bq7,0,none⟩)),(9,.slice g_s1.Tenants.1 s1.Tenants.length g_s1.Tenants.2),(12,.int .i64 (s1.Tenants.length : Int)),(14,.slice g_c0.Tenants.1 c0.Tenants.length g_c0.Tenants.2)] (by kernel_rfl) fun fr => ?_
 replace h := h_b h; obtain ⟨xs9,hz10,h⟩ := h
 refine r_cut (E := eTenantState) ((le_d 6).trans hS_s1) tt_ok hz10 h_s1.1 te_33 rfl (.inl ⟨rfl,rfl⟩) (.inr ⟨_,rfl⟩) (fun A11 c12 hs13 => ?_)
 refine r_done ?_
 refine r_bind ?_
 replace h := h_l h; obtain ⟨K113,n114,h,hK115⟩ := h
 refine r_le ((le_mv 5).trans ((le_mv 5).trans ((le_mv 4).trans ((le_mv 4).trans ((le_mv 5).trans (le_w [true,true,true,true,true,false])))))) ?_
 refine r_loop (fun n fr S => ∃ (x80 : Int),∃ (xs81 : (List Int)),∃ fr0,(runN (load_Booked.b1 xs9 c0) n (x80,xs81)).bind K113 = some r ∧ fr = updL [(2,.func (.func 85) #[] #[.pointer (some ⟨bq6,0,none⟩)]),(3,.pointer (some ⟨bq7,0,none⟩)),(17,.slice A11 xs9.length c12),(18,.int .i64 (xs9.length : Int)),(19,.int .i64 x80)] fr0 ∧ S = ⟨ρ,.row (some ⟨bq5,0,none⟩) xs81.length xs3.length 3 1 (fl eI64.en xs81) :: .obj bq7 (en_Config c0 g_c0) 30 :: .obj bq6 ([.slice (some ⟨bq5,0,none⟩) xs81.length xs3.length]) 107 :: .obj bq2 (en_State s1 g_s1) 36 :: .obj bq1 (en_Config c0 g_c0) 30 :: L⟩) n114 ⟨0,xs3,_,h,fr_eq _ (by kernel_rfl),(by kernel_rfl)⟩ ?_
 clear h
 rintro n114 fr S ⟨x80,xs81,fr,h,rfl,rfl⟩
 replace h := h_r h; obtain ⟨m116,hm116,h⟩ := h
 refine r_bind ?_
 refine r_done ?_
 refine r_bind ?_
 refine r_ite (fun hb83 => ?_) (fun hb83 => ?_)
 ·replace h := h_t h hb83
  clear hb83
  refine r_done ?_
  refine r_bind ?_
  refine r_bind ?_
  refine r_bind ?_
  replace h := h_b h; obtain ⟨x84,hx85,h⟩ := h
  refine r_el hx85 ((hs13).rd.mono ((le_d 5).trans hS_s1)) ?_
  refine r_len (E := eTenantState) tt_ok (en_TenantState x84) (idx_get hx85) ((hs13).rd.mono ((le_d 5).trans hS_s1)) ta_50 rfl (pl0 _ _) (by kernel_rfl) (by kernel_rfl) ?_
  refine r_al tt_ok (en_TenantState (⟨false,false,0,0,0,0,0,(⟨0,0,0,0,0⟩ : Window)⟩ : TenantState)) ti_50 (by kernel_rfl) fun bq86 => ?_
  refine r_s 0 tt_ok (en_TenantState x84) (fitn ta_50 (by kernel_rfl)) rfl (by kernel_rfl) (by kernel_rfl) ?_
  refine r_done ?_
  refine r_mix tt_ok hm_ok _ _ [] (.pure 0 (.vb 1 (.pure 2 (.vb 3 (.pure 4 (.vb 5 (.vb 6 (.eff 7 .nil)))))))) (le_w [true,false,true,false,true,true]) (le_w [true,false,true,false,true,true]) ?_ ?_
  ·decide +kernel
  refine x_p rfl ?_
  refine v_done ?_
  refine x_vb rfl ?_
  refine v_ldn 0 tt_ok (en_TenantState x84) ta_50 rfl (by kernel_rfl) (by kernel_rfl) ?_
  refine v_done ?_
  refine x_kp [(2,.func (.func 85) #[] #[.pointer (some ⟨bq6,0,none⟩)]),(3,.pointer (some ⟨bq7,0,none⟩)),(6,.int .i64 x80),(17,.slice A11 xs9.length c12),(18,.int .i64 (xs9.length : Int)),(19,.int .i64 x80),(24,.func (.func 85) #[] #[.pointer (some ⟨bq6,0,none⟩)]),(25,.agg (en_TenantState x84).toArray)] (by kernel_rfl) fun fr => ?_
  refine x_p rfl ?_
  refine v_done ?_
  refine x_vb rfl ?_
  refine v_ld 1 tt_ok (v := .slice g_c0.Tenants.1 c0.Tenants.length g_c0.Tenants.2) ts_27 rfl (by kernel_rfl) ?_
  refine v_done ?_
  refine x_p rfl ?_
  refine v_done ?_
  refine x_vb rfl ?_
  replace h := h_b h; obtain ⟨x87,hx88,h⟩ := h
  refine v_el hx88 ((h_c0.2.2.1).rd.mono ((le_d 4).trans hS_c0)) ?_
  refine v_done ?_
  refine x_vb rfl ?_
  refine v_len (E := eTenant) tt_ok (en_Tenant x87) (idx_get hx88) ((h_c0.2.2.1).rd.mono ((le_d 4).trans hS_c0)) ta_63 rfl (pl0 _ _) (by kernel_rfl) (by kernel_rfl) ?_
  refine v_done ?_
  refine x_e rfl ?_
  replace h := h_j h; obtain ⟨K111,h,hK112⟩ := h
  refine r_call (Post := fun v S => ∃ (xs109 : (List Int)),K111 xs109 = some r ∧ v = .tuple #[] ∧ S = ⟨ρ,.row (some ⟨bq5,0,none⟩) xs109.length xs3.length 3 1 (fl eI64.en xs109) :: .obj bq86 (en_TenantState x84) 50 :: .obj bq7 (en_Config c0 g_c0) 30 :: .obj bq6 ([.slice (some ⟨bq5,0,none⟩) xs109.length xs3.length]) 107 :: .obj bq2 (en_State s1 g_s1) 36 :: .obj bq1 (en_Config c0 g_c0) 30 :: L⟩) ?_ ?_
  ·refine HC.intro (N := 33) (args := [_,_,_]) tt_ok Try.func85 rfl (by decide +kernel) rfl (Nat.le_of_ble_eq_true rfl) ?_
   refine r_bind ?_
   refine r_bx (en_TenantState x84) (by kernel_rfl) fun bq89 => ?_
   refine r_bx (en_Tenant x87) (by kernel_rfl) fun bq90 => ?_
   refine r_done ?_
   refine r_bind ?_
   replace h := h_j h; obtain ⟨K100,h,hK101⟩ := h
   refine r_meet (fun fr S => ∃ (xs98 : (List Int)),∃ fr0,K100 xs98 = some r ∧ fr = updL [(2,.pointer (some ⟨bq6,0,none⟩)),(3,.pointer (some ⟨bq89,0,none⟩)),(4,.pointer (some ⟨bq90,0,none⟩))] fr0 ∧ S = ⟨ρ,.row (some ⟨bq5,0,none⟩) xs98.length xs3.length 3 1 (fl eI64.en xs98) :: .obj bq90 (en_Tenant x87) 63 :: .obj bq89 (en_TenantState x84) 50 :: .obj bq86 (en_TenantState x84) 50 :: .obj bq7 (en_Config c0 g_c0) 30 :: .obj bq6 ([.slice (some ⟨bq5,0,none⟩) xs98.length xs3.length]) 107 :: .obj bq2 (en_State s1 g_s1) 36 :: .obj bq1 (en_Config c0 g_c0) 30 :: L⟩) ?_ ?_
   ·refine r_bind ?_
    refine r_ldn 1 tt_ok (en_TenantState x84) ta_50 rfl (by kernel_rfl) (by kernel_rfl) ?_
    refine r_call (hc_86 (x0 := x84)) ?_
    rintro _ _ ⟨rfl,rfl⟩
    refine r_done ?_
    refine r_ite (fun hb91 => ?_) (fun hb91 => ?_)
    ·replace h := h_t h hb91
     clear hb91
     refine r_bind ?_
     refine r_ld 5 tt_ok (v := .slice (some ⟨bq5,0,none⟩) xs81.length xs3.length) ts_107 rfl (by kernel_rfl) ?_
     refine r_ld 1 tt_ok (v := .int .i64 x84.Home) ts_3 rfl (by kernel_rfl) ?_
     refine r_kp [(2,.pointer (some ⟨bq6,0,none⟩)),(3,.pointer (some ⟨bq89,0,none⟩)),(4,.pointer (some ⟨bq90,0,none⟩)),(7,.slice (some ⟨bq5,0,none⟩) xs81.length xs3.length),(9,.int .i64 x84.Home)] (by kernel_rfl) fun fr => ?_
     refine r_ld 0 tt_ok (v := .int .i64 x87.Load) ts_3 rfl (by kernel_rfl) ?_
     refine r_le (le_mv 3) ?_
     replace h := h_b h; obtain ⟨xs93,hx92,h⟩ := h
     refine r_call (hc_87 (A_l0 := (some ⟨bq5,0,none⟩)) (c_l0 := xs3.length) (l0 := xs81) (cell1 := x84.Home) (n2 := x87.Load) (h := hx92)) ?_
     rintro _ _ ⟨rfl,rfl,hl94⟩
     rw [← hl94]
     refine r_done ?_
     refine r_ld 5 tt_ok (v := .slice (some ⟨bq5,0,none⟩) xs93.length xs3.length) ts_107 rfl (by kernel_rfl) ?_
     refine r_ld 2 tt_ok (v := .int .i64 x84.Target) ts_3 rfl (by kernel_rfl) ?_
     refine r_ld 1 tt_ok (v := .int .i64 x87.Load) ts_3 rfl (by kernel_rfl) ?_
     replace h := h_b h; obtain ⟨xs96,hx95,h⟩ := h
     refine r_call (hc_87 (A_l0 := (some ⟨bq5,0,none⟩)) (c_l0 := xs3.length) (l0 := xs93) (cell1 := x84.Target) (n2 := x87.Load) (h := hx95)) ?_
     rintro _ _ ⟨rfl,rfl,hl97⟩
     rw [← hl97]
     refine r_keep [(2,.pointer (some ⟨bq6,0,none⟩)),(3,.pointer (some ⟨bq89,0,none⟩)),(4,.pointer (some ⟨bq90,0,none⟩))] (by kernel_rfl) fun fr => ?_
     exact r_done ⟨xs96,_,h,fr_eq _ (by kernel_rfl),(by kernel_rfl)⟩
    ·replace h := h_f h hb91
     clear hb91
     refine r_le ((le_mv 7).trans ((le_mv 7).trans ((le_mv 7).trans ((le_mv 7).trans ((le_mv 6).trans ((le_mv 6).trans ((le_mv 6).trans (le_mv 7)))))))) ?_
     exact r_done ⟨xs81,_,h,fr_eq _ (by kernel_rfl),(by kernel_rfl)⟩
   clear h
   rintro fr S ⟨xs98,fr,h,rfl,rfl⟩
   replace h := hK101 _ h
   refine r_done ?_
   refine r_bind ?_
   refine r_ld 2 tt_ok (v := .bool x84.Placed) ts_4 rfl (by kernel_rfl) ?_
   refine r_done ?_
   refine r_ite (fun hb102 => ?_) (fun hb102 => ?_)
   ·replace h := h_t h hb102
    clear hb102
    refine r_bind ?_
    refine r_ld 5 tt_ok (v := .slice (some ⟨bq5,0,none⟩) xs98.length xs3.length) ts_107 rfl (by kernel_rfl) ?_
    refine r_ld 2 tt_ok (v := .int .i64 x84.Standby) ts_3 rfl (by kernel_rfl) ?_
    refine r_ld 1 tt_ok (v := .int .i64 x87.Shadow) ts_3 rfl (by kernel_rfl) ?_
    replace h := h_b h; obtain ⟨xs104,hx103,h⟩ := h
    refine r_call (hc_87 (A_l0 := (some ⟨bq5,0,none⟩)) (c_l0 := xs3.length) (l0 := xs98) (cell1 := x84.Standby) (n2 := x87.Shadow) (h := hx103)) ?_
    rintro _ _ ⟨rfl,rfl,hl105⟩
    rw [← hl105]
    refine r_done ?_
    refine r_ld 5 tt_ok (v := .slice (some ⟨bq5,0,none⟩) xs104.length xs3.length) ts_107 rfl (by kernel_rfl) ?_
    refine r_kp [(3,.pointer (some ⟨bq89,0,none⟩)),(4,.pointer (some ⟨bq90,0,none⟩)),(27,.slice (some ⟨bq5,0,none⟩) xs104.length xs3.length)] (by kernel_rfl) fun fr => ?_
    refine r_ld 2 tt_ok (v := .int .i64 x84.Next) ts_3 rfl (by kernel_rfl) ?_
    refine r_ld 1 tt_ok (v := .int .i64 x87.Shadow) ts_3 rfl (by kernel_rfl) ?_
    replace h := h_b h; obtain ⟨xs107,hx106,h⟩ := h
    refine r_call (hc_87 (A_l0 := (some ⟨bq5,0,none⟩)) (c_l0 := xs3.length) (l0 := xs104) (cell1 := x84.Next) (n2 := x87.Shadow) (h := hx106)) ?_
    rintro _ _ ⟨rfl,rfl,hl108⟩
    rw [← hl108]
    repeat refine r_done ?_
    exact ret_of RV.nil (le_w [true,false,false,true,true,true,true,true]) ⟨xs107,h,rfl,rfl⟩
   ·replace h := h_f h hb102
    clear hb102
    repeat refine r_done ?_
    exact ret_of RV.nil (le_w [true,false,false,true,true,true,true,true]) ⟨xs98,h,rfl,rfl⟩
  clear h
  rintro v S ⟨xs109,h,rfl,rfl⟩
  replace h := hK112 _ h
  refine r_done ⟨rfl,k_a (le_w [false,true,true,false,true,true]) (le_w [false,true,true,false,true,true]),?_⟩
  refine x_k [(2,.func (.func 85) #[] #[.pointer (some ⟨bq6,0,none⟩)]),(3,.pointer (some ⟨bq7,0,none⟩)),(17,.slice A11 xs9.length c12),(18,.int .i64 (xs9.length : Int)),(19,.int .i64 x80)] (by kernel_rfl) fun fr => ?_
  refine r_done ?_
  refine r_done ?_
  refine r_num (e' := w64 (x80 + 1)) rfl ?_
  refine r_le (le_w [true,false,true,true,true,true]) ?_
  exact r_done ⟨m116,lt_s hm116,w64 (x80 + 1),xs109,_,h,fr_eq _ (by kernel_rfl),(by kernel_rfl)⟩
 ·replace h := h_f h hb83
  clear hb83
  refine r_done ?_
  refine r_done ?_
  replace h := h_m h
  subst hK115
  repeat refine r_done ?_
  refine ret_of RV.nil (Le.refl _) ?_
  refine r_done ?_
  refine r_bind ?_
  refine r_ld 2 tt_ok (v := .slice (some ⟨bq5,0,none⟩) xs81.length xs3.length) ts_107 rfl (by kernel_rfl) ?_
  refine r_done ?_
  repeat refine r_done ?_
  repeat refine r_done ?_
  obtain rfl := h_out h
  exact ret_of (RV.tmp RV.nil) (le_w [true,false,false,false,false]) ⟨(some ⟨bq5,0,none⟩),xs3.length,rfl,rfl⟩
theorem hc_91 {ρ : Addr → Option Value} {L : List Ent} {g_c0 : gConfig} {g_s1 : gState} {S_c0 : St} (hS_c0 : Le ⟨ρ,L⟩ S_c0) {S_s1 : St} (hS_s1 : Le ⟨ρ,L⟩ S_s1) (c0 : Config) (s1 : State) (h_c0 : Sl_Config S_c0 c0 g_c0) (h_s1 : Sl_State S_s1 s1 g_s1) {r : (List Int)} (h : load_Over c0 s1 = some r) : HC Try.prog 91 #[.agg (en_Config c0 g_c0).toArray,.agg (en_State s1 g_s1).toArray] ⟨ρ,L⟩ (fun v S' => ∃ (Aq1_0 : Option Addr),∃ (cq1_0 : Nat),v = .slice Aq1_0 r.length cq1_0 ∧ S' = ⟨ρ,.row Aq1_0 r.length cq1_0 3 1 (fl eI64.en r) :: L⟩) := by
 replace h := h_in h
 refine HC.intro (N := 31) (args := [_,_]) tt_ok Try.func91 rfl (by decide +kernel) rfl (Nat.le_of_ble_eq_true rfl) ?_
 refine r_bind ?_
 refine r_bx (en_Config c0 g_c0) (by kernel_rfl) fun bq1 => ?_
 refine r_bx (en_State s1 g_s1) (by kernel_rfl) fun bq2 => ?_
 refine r_done ?_
 refine r_bind ?_
 refine r_done ?_
 refine r_bind ?_
 refine r_bind ?_
 refine r_ldn 1 tt_ok (en_Config c0 g_c0) ta_30 rfl (by kernel_rfl) (by kernel_rfl) ?_
 refine r_ldn 0 tt_ok (en_State s1 g_s1) ta_36 rfl (by kernel_rfl) (by kernel_rfl) ?_
 replace h := h_b h; obtain ⟨xs4,hx3,h⟩ := h
 refine r_call (hc_64 (g_c0 := g_c0) (c0 := c0) (g_s1 := g_s1) (s1 := s1) (hS_c0 := by exact (le_d 2).trans hS_c0) (h_c0 := by exact h_c0) (hS_s1 := by exact (le_d 2).trans hS_s1) (h_s1 := by exact h_s1) (h := hx3)) ?_
 rintro _ _ ⟨A5,c6,rfl,rfl⟩
 refine r_keep [(2,.pointer (some ⟨bq1,0,none⟩)),(5,.slice none 0 0),(10,.slice A5 xs4.length c6),(11,.int .i64 (xs4.length : Int)),(12,.int .i64 0)] (by kernel_rfl) fun fr => ?_
 refine r_done ?_
 refine r_bind ?_
 replace h := h_l h; obtain ⟨K60,n61,h,hK62⟩ := h
 refine r_le ((le_nil 3 1).trans (le_w [true,true,false,true])) ?_
 refine r_loop (fun n fr S => ∃ (xs43 : (List Int)),∃ (x47 : Int),∃ (A44 : Option Addr),∃ (c45 : Nat),∃ fr0,(runN (load_Over.b1 xs4 c0) n (xs43,x47)).bind K60 = some r ∧ fr = updL [(2,.pointer (some ⟨bq1,0,none⟩)),(5,.slice A44 xs43.length c45),(10,.slice A5 xs4.length c6),(11,.int .i64 (xs4.length : Int)),(12,.int .i64 x47)] fr0 ∧ S = ⟨ρ,.row A44 xs43.length c45 3 1 (fl eI64.en xs43) :: .row A5 xs4.length c6 3 1 (fl eI64.en xs4) :: .obj bq1 (en_Config c0 g_c0) 30 :: L⟩) n61 ⟨[],0,none,0,_,h,fr_eq _ (by kernel_rfl),(by kernel_rfl)⟩ ?_
 clear h
 rintro n61 fr S ⟨xs43,x47,A44,c45,fr,h,rfl,rfl⟩
 replace h := h_r h; obtain ⟨m63,hm63,h⟩ := h
 refine r_bind ?_
 refine r_done ?_
 refine r_bind ?_
 refine r_ite (fun hb48 => ?_) (fun hb48 => ?_)
 ·replace h := h_t h hb48
  clear hb48
  refine r_done ?_
  refine r_bind ?_
  refine r_bind ?_
  refine r_bind ?_
  replace h := h_b h; obtain ⟨x49,hx50,h⟩ := h
  refine r_el hx50 (rd_row 1 rfl) ?_
  refine r_lec (E := eI64) tt_ok (v := .int .i64 x49) (idx_get hx50) (rd_row 1 rfl) ts_3 rfl (pl0 _ _) (by kernel_rfl) ?_
  refine r_done ?_
  refine r_bind ?_
  refine r_ld 2 tt_ok (v := .slice g_c0.Cells.1 c0.Cells.length g_c0.Cells.2) ts_26 rfl (by kernel_rfl) ?_
  refine r_kp [(2,.pointer (some ⟨bq1,0,none⟩)),(5,.slice A44 xs43.length c45),(6,.int .i64 x47),(10,.slice A5 xs4.length c6),(11,.int .i64 (xs4.length : Int)),(12,.int .i64 x47),(17,.int .i64 x49),(19,.slice g_c0.Cells.1 c0.Cells.length g_c0.Cells.2)] (by kernel_rfl) fun fr => ?_
  replace h := h_b h; obtain ⟨x51,hx52,h⟩ := h
  refine r_el hx52 ((h_c0.2.1).rd.mono ((le_d 3).trans hS_c0)) ?_
  refine r_lec (E := eCell) tt_ok (v := .int .i64 x51.Capacity) (idx_get hx52) ((h_c0.2.1).rd.mono ((le_d 3).trans hS_c0)) ts_3 rfl (pl1 _ _ _) (by kernel_rfl) ?_
  refine r_done ?_
  refine r_ite (fun hb53 => ?_) (fun hb53 => ?_)
  ·replace h := h_t h hb53
   clear hb53
   refine r_bs tt_ok (fl eI64.en [x47]) te_22 ti_3 (by kernel_rfl) (by kernel_rfl) (by kernel_rfl) (by kernel_rfl) fun bq54 => ?_
   replace h := h_b h; obtain ⟨xs55,ha56,h⟩ := h
   refine r_app 1 (E := eI64) (xs := xs43) (ys := [x47]) tt_ok ha56 (rd_row 0 rfl) rfl te_22 ti_3 rfl (by kernel_rfl) rfl (fun A57 c58 => ?_)
   refine r_kp [(2,.pointer (some ⟨bq1,0,none⟩)),(5,.slice A44 xs43.length c45),(10,.slice A5 xs4.length c6),(11,.int .i64 (xs4.length : Int)),(12,.int .i64 x47),(28,.slice A57 xs55.length c58)] (by kernel_rfl) fun fr => ?_
   refine r_done ?_
   refine r_done ?_
   refine r_num (e' := w64 (x47 + 1)) rfl ?_
   refine r_le (le_w [false,true,true,true]) ?_
   exact r_done ⟨m63,lt_s hm63,xs55,w64 (x47 + 1),A57,c58,_,h,fr_eq _ (by kernel_rfl),(by kernel_rfl)⟩
  ·replace h := h_f h hb53
   clear hb53
   refine r_done ?_
   refine r_done ?_
   refine r_num (e' := w64 (x47 + 1)) rfl ?_
   exact r_done ⟨m63,lt_s hm63,xs43,w64 (x47 + 1),A44,c45,_,h,fr_eq _ (by kernel_rfl),(by kernel_rfl)⟩
 ·replace h := h_f h hb48
  clear hb48
  refine r_done ?_
  refine r_done ?_
  replace h := h_m h
  subst hK62
  refine r_done ?_
  refine r_bind ?_
  refine r_done ?_
  repeat refine r_done ?_
  repeat refine r_done ?_
  obtain rfl := h_out h
  exact ret_of (RV.tmp RV.nil) (le_w [true,false,false]) ⟨A44,c45,rfl,rfl⟩
theorem hc_74 {ρ : Addr → Option Value} {L : List Ent} {bf0 : Nat} {g_f0 : gstate_fold} {S_f0 : St} (hS_f0 : Le ⟨ρ,L⟩ S_f0) (f0 : state_fold) (h_f0 : Sl_state_fold S_f0 f0 g_f0) (h_f0_t : g_f0.t = fptr g_f0.s_Tenants.1 f0.e.Tenant 12) (h_f0_cell : g_f0.cell = fptr g_f0.s_Cells.1 f0.e.Cell 4) {r : Int} (h : state_fold_full f0 = some r) : HC Try.prog 74 #[.pointer (some ⟨bf0,0,none⟩)] ⟨ρ,.row g_f0.s_Tenants.1 f0.s.Tenants.length g_f0.s_Tenants.2 50 12 (fl eTenantState.en f0.s.Tenants) :: .row g_f0.s_Cells.1 f0.s.Cells.length g_f0.s_Cells.2 67 4 (fl eCellState.en f0.s.Cells) :: .obj bf0 (en_state_fold f0 g_f0) 80 :: L⟩ (fun v S' => v = .int .i64 r ∧ S' = ⟨ρ,.row g_f0.s_Tenants.1 f0.s.Tenants.length g_f0.s_Tenants.2 50 12 (fl eTenantState.en f0.s.Tenants) :: .row g_f0.s_Cells.1 f0.s.Cells.length g_f0.s_Cells.2 67 4 (fl eCellState.en f0.s.Cells) :: .obj bf0 (en_state_fold f0 g_f0) 80 :: L⟩) := by
 replace h := h_in h
 refine HC.intro (N := 14) (args := [_]) tt_ok Try.func74 rfl (by decide +kernel) rfl (Nat.le_of_ble_eq_true rfl) ?_
 refine r_bind ?_
 refine r_done ?_
 refine r_bind ?_
 refine r_bind ?_
 refine r_mix tt_ok hm_ok _ _ [] (.pure 0 (.pure 1 (.pure 2 (.vb 3 (.pure 4 (.pure 5 (.pure 6 (.vb 7 (.eff 8 (.pure 9 (.pure 10 .nil))))))))))) (le_w [true,true,true]) (le_w [true,true,true]) ?_ ?_
 ·decide +kernel
 refine x_p rfl ?_
 refine v_done ?_
 refine x_p rfl ?_
 refine v_done ?_
 refine x_p rfl ?_
 refine v_done ?_
 refine x_vb rfl ?_
 refine v_ldn 2 tt_ok (en_Config f0.c (⟨(g_f0.c_Zones.1,g_f0.c_Zones.2),(g_f0.c_Cells.1,g_f0.c_Cells.2),(g_f0.c_Tenants.1,g_f0.c_Tenants.2),(g_f0.c_Versions.1,g_f0.c_Versions.2),(g_f0.c_Replicas.1,g_f0.c_Replicas.2),(g_f0.c_Observers.1,g_f0.c_Observers.2)⟩)) ta_30 rfl (by kernel_rfl) (by kernel_rfl) ?_
 refine v_done ?_
 refine x_p rfl ?_
 refine v_done ?_
 refine x_p rfl ?_
 refine v_done ?_
 refine x_p rfl ?_
 refine v_done ?_
 refine x_vb rfl ?_
 refine v_ldn 2 tt_ok (en_State f0.s (⟨(g_f0.s_Tenants.1,g_f0.s_Tenants.2),(g_f0.s_Cells.1,g_f0.s_Cells.2)⟩)) ta_36 rfl (by kernel_rfl) (by kernel_rfl) ?_
 refine v_done ?_
 refine x_kp [(6,.agg (en_Config f0.c (⟨(g_f0.c_Zones.1,g_f0.c_Zones.2),(g_f0.c_Cells.1,g_f0.c_Cells.2),(g_f0.c_Tenants.1,g_f0.c_Tenants.2),(g_f0.c_Versions.1,g_f0.c_Versions.2),(g_f0.c_Replicas.1,g_f0.c_Replicas.2),(g_f0.c_Observers.1,g_f0.c_Observers.2)⟩)).toArray),(10,.agg (en_State f0.s (⟨(g_f0.s_Tenants.1,g_f0.s_Tenants.2),(g_f0.s_Cells.1,g_f0.s_Cells.2)⟩)).toArray)] (by kernel_rfl) fun fr => ?_
 refine x_e rfl ?_
 replace h := h_b h; obtain ⟨xs2,hx1,h⟩ := h
 refine r_call (hc_91 (g_c0 := ⟨(g_f0.c_Zones.1,g_f0.c_Zones.2),(g_f0.c_Cells.1,g_f0.c_Cells.2),(g_f0.c_Tenants.1,g_f0.c_Tenants.2),(g_f0.c_Versions.1,g_f0.c_Versions.2),(g_f0.c_Replicas.1,g_f0.c_Replicas.2),(g_f0.c_Observers.1,g_f0.c_Observers.2)⟩) (c0 := f0.c) (g_s1 := ⟨(g_f0.s_Tenants.1,g_f0.s_Tenants.2),(g_f0.s_Cells.1,g_f0.s_Cells.2)⟩) (s1 := f0.s) (hS_c0 := by exact (le_d 3).trans hS_f0) (h_c0 := by exact h_f0) (hS_s1 := by exact Le.refl _) (h_s1 := by exact ⟨sl_row 0 rfl,sl_row 1 rfl⟩) (h := hx1)) ?_
 rintro _ _ ⟨A3,c4,rfl,rfl⟩
 refine r_done ⟨rfl,k_a (le_w [false,true,true,true]) (le_w [false,true,true,true]),?_⟩
 refine x_p rfl ?_
 refine v_done ?_
 refine x_p rfl ?_
 refine v_done ?_
 refine x_k [(13,.bool (decide (0 < (xs2.length : Int))))] (by kernel_rfl) fun fr => ?_
 refine r_done ?_
 refine r_ite (fun hb6 => ?_) (fun hb6 => ?_)
 ·replace h := h_t h hb6
  clear hb6
  refine r_bind ?_
  refine r_done ?_
  repeat refine r_done ?_
  repeat refine r_done ?_
  obtain rfl := h_out h
  exact ret_of (RV.tmp RV.nil) (le_w [false,true,true,true]) ⟨rfl,rfl⟩
 ·replace h := h_f h hb6
  clear hb6
  refine r_done ?_
  refine r_bind ?_
  refine r_done ?_
  repeat refine r_done ?_
  repeat refine r_done ?_
  obtain rfl := h_out h
  exact ret_of (RV.tmp RV.nil) (le_w [false,true,true,true]) ⟨rfl,rfl⟩
theorem hc_46 {ρ : Addr → Option Value} {L : List Ent} {bf0 : Nat} {g_f0 : gstate_fold} {S_f0 : St} (hS_f0 : Le ⟨ρ,L⟩ S_f0) (f0 : state_fold) (h_f0 : Sl_state_fold S_f0 f0 g_f0) (h_f0_t : g_f0.t = fptr g_f0.s_Tenants.1 f0.e.Tenant 12) (h_f0_cell : g_f0.cell = fptr g_f0.s_Cells.1 f0.e.Cell 4) {r : (Int × State)} (h : state_fold_place f0 = some r) : HC Try.prog 46 #[.pointer (some ⟨bf0,0,none⟩)] ⟨ρ,.row g_f0.s_Tenants.1 f0.s.Tenants.length g_f0.s_Tenants.2 50 12 (fl eTenantState.en f0.s.Tenants) :: .row g_f0.s_Cells.1 f0.s.Cells.length g_f0.s_Cells.2 67 4 (fl eCellState.en f0.s.Cells) :: .obj bf0 (en_state_fold f0 g_f0) 80 :: L⟩ (fun v S' => v = .int .i64 r.1 ∧ S' = ⟨ρ,.row g_f0.s_Tenants.1 r.2.Tenants.length g_f0.s_Tenants.2 50 12 (fl eTenantState.en r.2.Tenants) :: .row g_f0.s_Cells.1 r.2.Cells.length g_f0.s_Cells.2 67 4 (fl eCellState.en r.2.Cells) :: .obj bf0 (en_state_fold ({ f0 with s := r.2 }) g_f0) 80 :: L⟩) := by
 replace h := h_in h
 refine HC.intro (N := 90) (args := [_]) tt_ok Try.func46 rfl (by decide +kernel) rfl (Nat.le_of_ble_eq_true rfl) ?_
 refine r_bind ?_
 refine r_done ?_
 refine r_bind ?_
 refine r_mix tt_ok hm_ok _ _ [] (.pure 0 (.pure 1 (.pure 2 (.pure 3 (.vb 4 (.pure 5 (.pure 6 (.pure 7 (.pure 8 (.vb 9 (.pure 10 (.pure 11 .nil)))))))))))) (le_w [true,true,true]) (le_w [true,true,true]) ?_ ?_
 ·decide +kernel
 refine x_p rfl ?_
 refine v_done ?_
 refine x_p rfl ?_
 refine v_done ?_
 refine x_p rfl ?_
 refine v_done ?_
 refine x_p rfl ?_
 refine v_done ?_
 refine x_vb rfl ?_
 refine v_ld 2 tt_ok (v := .int .i64 f0.e.Cell) ts_3 rfl (by kernel_rfl) ?_
 refine v_done ?_
 refine x_p rfl ?_
 refine v_done ?_
 refine x_p rfl ?_
 refine v_done ?_
 refine x_p rfl ?_
 refine v_done ?_
 refine x_kp [(0,.pointer (some ⟨bf0,0,none⟩)),(9,.int .i64 f0.e.Cell),(12,.pointer (some ⟨bf0,18,none⟩))] (by kernel_rfl) fun fr => ?_
 refine x_p rfl ?_
 refine v_done ?_
 refine x_vb rfl ?_
 refine v_ld 2 tt_ok (v := .int .i64 f0.e.Other) ts_3 rfl (by kernel_rfl) ?_
 refine v_done ?_
 refine x_p rfl ?_
 refine v_done ?_
 refine x_p rfl ?_
 refine v_done ?_
 refine x_k [(0,.pointer (some ⟨bf0,0,none⟩)),(3,.int .i64 f0.e.Cell),(4,.int .i64 f0.e.Other)] (by kernel_rfl) fun fr => ?_
 refine r_done ?_
 refine r_bind ?_
 refine r_bind ?_
 refine r_bind ?_
 replace h := h_b h; obtain ⟨x1,hx2,h⟩ := h
 refine r_ld 2 tt_ok (v := .pointer (some ((adr g_f0.s_Tenants.1).add (f0.e.Tenant.toNat * 12)))) ts_77 rfl (by rw [← fptr_at h_f0_t hx2]; kernel_rfl) ?_
 refine r_lec (E := eTenantState) tt_ok (v := .bool x1.Placed) (idx_get hx2) (rd_row 0 rfl) ts_4 rfl (pl1 _ _ _) (by kernel_rfl) ?_
 refine r_done ?_
 refine r_ite (fun hb3 => ?_) (fun hb3 => ?_)
 ·replace h := h_t h hb3
  clear hb3
  refine r_bind ?_
  refine r_keep [(2,.int .i64 4)] (by kernel_rfl) fun fr => ?_
  refine r_done ?_
  repeat refine r_done ?_
  repeat refine r_done ?_
  obtain rfl := h_out h
  exact ret_of (RV.tmp RV.nil) (Le.refl _) ⟨rfl,rfl⟩
 ·replace h := h_f h hb3
  clear hb3
  refine r_bind ?_
  replace h := h_j h; obtain ⟨K11,h,hK12⟩ := h
  refine r_meet (fun fr S => ∃ (x10 : Bool),∃ fr0,K11 x10 = some r ∧ fr = updL [(0,.pointer (some ⟨bf0,0,none⟩)),(3,.int .i64 f0.e.Cell),(4,.int .i64 f0.e.Other),(23,.bool x10)] fr0 ∧ S = ⟨ρ,.row g_f0.s_Tenants.1 f0.s.Tenants.length g_f0.s_Tenants.2 50 12 (fl eTenantState.en f0.s.Tenants) :: .row g_f0.s_Cells.1 f0.s.Cells.length g_f0.s_Cells.2 67 4 (fl eCellState.en f0.s.Cells) :: .obj bf0 (en_state_fold f0 g_f0) 80 :: L⟩) ?_ ?_
  ·replace h := h_b h; obtain ⟨x5,hx4,h⟩ := h
   refine r_call (hc_71 (bf0 := bf0) (g_f0 := g_f0) (f0 := f0) (cell1 := f0.e.Cell) (hS_f0 := by exact (le_d 0).trans hS_f0) (h_f0 := by exact h_f0) (h_f0_t := by exact h_f0_t) (h_f0_cell := by exact h_f0_cell) (h := hx4)) ?_
   rintro _ _ ⟨rfl,rfl⟩
   refine r_kp [(0,.pointer (some ⟨bf0,0,none⟩)),(3,.int .i64 f0.e.Cell),(4,.int .i64 f0.e.Other),(26,.bool x5)] (by kernel_rfl) fun fr => ?_
   refine r_ite (fun (hb6 : (!x5) = true) => ?_) (fun (hb6 : (!x5) = false) => ?_)
   ·replace h := h_t h hb6
    clear hb6
    refine r_T rfl ?_
    refine r_T rfl ?_
    refine r_T rfl ?_
    refine r_kp [(0,.pointer (some ⟨bf0,0,none⟩)),(3,.int .i64 f0.e.Cell),(4,.int .i64 f0.e.Other),(28,.bool true),(36,undef)] (by kernel_rfl) fun fr => ?_
    refine r_T rfl ?_
    exact r_done ⟨true,_,h,fr_eq _ (by kernel_rfl),(by kernel_rfl)⟩
   ·replace h := h_f h hb6
    clear hb6
    refine r_F rfl ?_
    refine r_F rfl ?_
    refine r_ite (fun (hb7 : (!decide (f0.e.Other = (-1))) = true) => ?_) (fun (hb7 : (!decide (f0.e.Other = (-1))) = false) => ?_)
    ·replace h := h_t h hb7
     clear hb7
     refine r_T rfl ?_
     refine r_T rfl ?_
     replace h := h_b h; obtain ⟨x9,hx8,h⟩ := h
     refine r_call (hc_71 (bf0 := bf0) (g_f0 := g_f0) (f0 := f0) (cell1 := f0.e.Other) (hS_f0 := by exact (le_d 0).trans hS_f0) (h_f0 := by exact h_f0) (h_f0_t := by exact h_f0_t) (h_f0_cell := by exact h_f0_cell) (h := hx8)) ?_
     rintro _ _ ⟨rfl,rfl⟩
     refine r_T rfl ?_
     refine r_kp [(0,.pointer (some ⟨bf0,0,none⟩)),(3,.int .i64 f0.e.Cell),(4,.int .i64 f0.e.Other),(28,.bool false),(31,.bool true),(35,.bool (!x9))] (by kernel_rfl) fun fr => ?_
     refine r_F rfl ?_
     exact r_done ⟨!x9,_,h,fr_eq _ (by kernel_rfl),(by kernel_rfl)⟩
    ·replace h := h_f h hb7
     clear hb7
     refine r_F rfl ?_
     refine r_F rfl ?_
     refine r_F rfl ?_
     refine r_kp [(0,.pointer (some ⟨bf0,0,none⟩)),(3,.int .i64 f0.e.Cell),(4,.int .i64 f0.e.Other),(28,.bool false),(31,.bool false),(35,undef)] (by kernel_rfl) fun fr => ?_
     refine r_F rfl ?_
     refine r_F rfl ?_
     exact r_done ⟨false,_,h,fr_eq _ (by kernel_rfl),(by kernel_rfl)⟩
  clear h
  rintro fr S ⟨x10,fr,h,rfl,rfl⟩
  replace h := hK12 _ h
  refine r_done ?_
  refine r_ite (fun hb13 => ?_) (fun hb13 => ?_)
  ·replace h := h_t h hb13
   clear hb13
   refine r_bind ?_
   refine r_done ?_
   repeat refine r_done ?_
   repeat refine r_done ?_
   obtain rfl := h_out h
   exact ret_of (RV.tmp RV.nil) (Le.refl _) ⟨rfl,rfl⟩
  ·replace h := h_f h hb13
   clear hb13
   refine r_bind ?_
   replace h := h_j h; obtain ⟨K21,h,hK22⟩ := h
   refine r_meet (fun fr S => ∃ (x20 : Bool),∃ fr0,K21 x20 = some r ∧ fr = updL [(0,.pointer (some ⟨bf0,0,none⟩)),(3,.int .i64 f0.e.Cell),(4,.int .i64 f0.e.Other),(38,.bool x20)] fr0 ∧ S = ⟨ρ,.row g_f0.s_Tenants.1 f0.s.Tenants.length g_f0.s_Tenants.2 50 12 (fl eTenantState.en f0.s.Tenants) :: .row g_f0.s_Cells.1 f0.s.Cells.length g_f0.s_Cells.2 67 4 (fl eCellState.en f0.s.Cells) :: .obj bf0 (en_state_fold f0 g_f0) 80 :: L⟩) ?_ ?_
   ·replace h := h_b h; obtain ⟨x15,hx14,h⟩ := h
    refine r_call (hc_72 (bf0 := bf0) (g_f0 := g_f0) (f0 := f0) (cell1 := f0.e.Cell) (hS_f0 := by exact (le_d 0).trans hS_f0) (h_f0 := by exact h_f0) (h_f0_t := by exact h_f0_t) (h_f0_cell := by exact h_f0_cell) (h := hx14)) ?_
    rintro _ _ ⟨rfl,rfl⟩
    refine r_kp [(0,.pointer (some ⟨bf0,0,none⟩)),(3,.int .i64 f0.e.Cell),(4,.int .i64 f0.e.Other),(41,.bool x15)] (by kernel_rfl) fun fr => ?_
    refine r_ite (fun (hb16 : x15 = true) => ?_) (fun (hb16 : x15 = false) => ?_)
    ·replace h := h_t h hb16
     clear hb16
     refine r_T rfl ?_
     refine r_T rfl ?_
     refine r_T rfl ?_
     refine r_T rfl ?_
     refine r_kp [(0,.pointer (some ⟨bf0,0,none⟩)),(3,.int .i64 f0.e.Cell),(4,.int .i64 f0.e.Other),(50,.bool true)] (by kernel_rfl) fun fr => ?_
     exact r_done ⟨true,_,h,fr_eq _ (by kernel_rfl),(by kernel_rfl)⟩
    ·replace h := h_f h hb16
     clear hb16
     refine r_F rfl ?_
     refine r_F rfl ?_
     refine r_ite (fun (hb17 : (!decide (f0.e.Other = (-1))) = true) => ?_) (fun (hb17 : (!decide (f0.e.Other = (-1))) = false) => ?_)
     ·replace h := h_t h hb17
      clear hb17
      refine r_T rfl ?_
      refine r_T rfl ?_
      replace h := h_b h; obtain ⟨x19,hx18,h⟩ := h
      refine r_call (hc_72 (bf0 := bf0) (g_f0 := g_f0) (f0 := f0) (cell1 := f0.e.Other) (hS_f0 := by exact (le_d 0).trans hS_f0) (h_f0 := by exact h_f0) (h_f0_t := by exact h_f0_t) (h_f0_cell := by exact h_f0_cell) (h := hx18)) ?_
      rintro _ _ ⟨rfl,rfl⟩
      refine r_F rfl ?_
      refine r_keep [(0,.pointer (some ⟨bf0,0,none⟩)),(3,.int .i64 f0.e.Cell),(4,.int .i64 f0.e.Other),(38,.bool x19)] (by kernel_rfl) fun fr => ?_
      exact r_done ⟨x19,_,h,fr_eq _ (by kernel_rfl),(by kernel_rfl)⟩
     ·replace h := h_f h hb17
      clear hb17
      refine r_F rfl ?_
      refine r_F rfl ?_
      refine r_F rfl ?_
      refine r_F rfl ?_
      refine r_keep [(0,.pointer (some ⟨bf0,0,none⟩)),(3,.int .i64 f0.e.Cell),(4,.int .i64 f0.e.Other),(38,.bool false)] (by kernel_rfl) fun fr => ?_
      exact r_done ⟨false,_,h,fr_eq _ (by kernel_rfl),(by kernel_rfl)⟩
   clear h
   rintro fr S ⟨x20,fr,h,rfl,rfl⟩
   replace h := hK22 _ h
   refine r_done ?_
   refine r_ite (fun hb23 => ?_) (fun hb23 => ?_)
   ·replace h := h_t h hb23
    clear hb23
    refine r_bind ?_
    refine r_done ?_
    repeat refine r_done ?_
    repeat refine r_done ?_
    obtain rfl := h_out h
    exact ret_of (RV.tmp RV.nil) (Le.refl _) ⟨rfl,rfl⟩
   ·replace h := h_f h hb23
    clear hb23
    refine r_bind ?_
    replace h := h_j h; obtain ⟨K32,h,hK33⟩ := h
    refine r_meet (fun fr S => ∃ (x31 : Bool),∃ fr0,K32 x31 = some r ∧ fr = updL [(0,.pointer (some ⟨bf0,0,none⟩)),(3,.int .i64 f0.e.Cell),(4,.int .i64 f0.e.Other),(51,.bool x31)] fr0 ∧ S = ⟨ρ,.row g_f0.s_Tenants.1 f0.s.Tenants.length g_f0.s_Tenants.2 50 12 (fl eTenantState.en f0.s.Tenants) :: .row g_f0.s_Cells.1 f0.s.Cells.length g_f0.s_Cells.2 67 4 (fl eCellState.en f0.s.Cells) :: .obj bf0 (en_state_fold f0 g_f0) 80 :: L⟩) ?_ ?_
    ·replace h := h_b h; obtain ⟨x25,hx24,h⟩ := h
     refine r_call (hc_73 (bf0 := bf0) (g_f0 := g_f0) (f0 := f0) (cell1 := f0.e.Cell) (A_others2 := none) (c_others2 := 0) (others2 := []) (hS_f0 := by exact (le_d 0).trans hS_f0) (h_f0 := by exact h_f0) (hS_others2 := by exact Le.refl _) (h_others2 := by exact sl_nil _ eI64) (h_f0_t := by exact h_f0_t) (h_f0_cell := by exact h_f0_cell) (h := hx24)) ?_
     rintro _ _ ⟨rfl,rfl⟩
     refine r_ite (fun (hb26 : (!x25) = true) => ?_) (fun (hb26 : (!x25) = false) => ?_)
     ·replace h := h_t h hb26
      clear hb26
      refine r_kp [(0,.pointer (some ⟨bf0,0,none⟩)),(3,.int .i64 f0.e.Cell),(4,.int .i64 f0.e.Other),(56,.bool true),(57,undef)] (by kernel_rfl) fun fr => ?_
      refine r_T rfl ?_
      refine r_T rfl ?_
      refine r_T rfl ?_
      refine r_kp [(0,.pointer (some ⟨bf0,0,none⟩)),(3,.int .i64 f0.e.Cell),(4,.int .i64 f0.e.Other),(56,.bool true),(66,undef)] (by kernel_rfl) fun fr => ?_
      refine r_T rfl ?_
      exact r_done ⟨true,_,h,fr_eq _ (by kernel_rfl),(by kernel_rfl)⟩
     ·replace h := h_f h hb26
      clear hb26
      refine r_kp [(0,.pointer (some ⟨bf0,0,none⟩)),(3,.int .i64 f0.e.Cell),(4,.int .i64 f0.e.Other),(56,.bool false),(57,.int .i64 f0.e.Other)] (by kernel_rfl) fun fr => ?_
      refine r_F rfl ?_
      refine r_F rfl ?_
      refine r_ite (fun (hb27 : (!decide (f0.e.Other = (-1))) = true) => ?_) (fun (hb27 : (!decide (f0.e.Other = (-1))) = false) => ?_)
      ·replace h := h_t h hb27
       clear hb27
       refine r_T rfl ?_
       refine r_T rfl ?_
       refine r_T rfl ?_
       refine r_bs tt_ok (fl eI64.en [f0.e.Cell]) te_22 ti_3 (by kernel_rfl) (by kernel_rfl) (by kernel_rfl) (by kernel_rfl) fun bq28 => ?_
       refine r_T rfl ?_
       refine r_le ((le_mv 3).trans ((le_mv 3).trans (le_mv 3))) ?_
       replace h := h_b h; obtain ⟨x30,hx29,h⟩ := h
       refine r_call (hc_73 (bf0 := bf0) (g_f0 := g_f0) (f0 := f0) (cell1 := f0.e.Other) (A_others2 := (some ⟨bq28,0,none⟩)) (c_others2 := 1) (others2 := [f0.e.Cell]) (hS_f0 := by exact (le_d 1).trans hS_f0) (h_f0 := by exact h_f0) (hS_others2 := by exact Le.refl _) (h_others2 := by exact sl_row 0 rfl) (h_f0_t := by exact h_f0_t) (h_f0_cell := by exact h_f0_cell) (h := hx29)) ?_
       rintro _ _ ⟨rfl,rfl⟩
       refine r_T rfl ?_
       refine r_F rfl ?_
       refine r_kp [(0,.pointer (some ⟨bf0,0,none⟩)),(3,.int .i64 f0.e.Cell),(4,.int .i64 f0.e.Other),(56,.bool false),(66,.bool (!x30))] (by kernel_rfl) fun fr => ?_
       refine r_le (le_w [true,true,true,false]) ?_
       exact r_done ⟨!x30,_,h,fr_eq _ (by kernel_rfl),(by kernel_rfl)⟩
      ·replace h := h_f h hb27
       clear hb27
       refine r_F rfl ?_
       refine r_F rfl ?_
       refine r_F rfl ?_
       refine r_F rfl ?_
       refine r_F rfl ?_
       refine r_F rfl ?_
       refine r_F rfl ?_
       refine r_kp [(0,.pointer (some ⟨bf0,0,none⟩)),(3,.int .i64 f0.e.Cell),(4,.int .i64 f0.e.Other),(56,.bool false),(66,.bool false)] (by kernel_rfl) fun fr => ?_
       exact r_done ⟨false,_,h,fr_eq _ (by kernel_rfl),(by kernel_rfl)⟩
    clear h
    rintro fr S ⟨x31,fr,h,rfl,rfl⟩
    replace h := hK33 _ h
    refine r_done ?_
    refine r_ite (fun hb34 => ?_) (fun hb34 => ?_)
    ·replace h := h_t h hb34
     clear hb34
     refine r_bind ?_
     refine r_done ?_
     repeat refine r_done ?_
     repeat refine r_done ?_
     obtain rfl := h_out h
     exact ret_of (RV.tmp RV.nil) (Le.refl _) ⟨rfl,rfl⟩
    ·replace h := h_f h hb34
     clear hb34
     refine r_done ?_
     refine r_done ?_
     refine r_bind ?_
     refine r_mix tt_ok hm_ok _ _ [] (.pure 0 (.pure 1 (.pure 2 (.vb 3 (.pure 4 (.pure 5 (.pure 6 (.vb 7 (.pure 8 (.pure 9 (.pure 10 (.vb 11 (.pure 12 (.pure 13 (.pure 14 (.pure 15 (.eff 16 (.pure 17 (.pure 18 (.eff 19 (.pure 20 (.pure 21 (.eff 22 .nil))))))))))))))))))))))) (le_w [false,true,true]) (le_w [false,true,true]) ?_ ?_
     ·decide +kernel
     refine x_p rfl ?_
     refine v_done ?_
     refine x_p rfl ?_
     refine v_done ?_
     refine x_p rfl ?_
     refine v_done ?_
     refine x_vb rfl ?_
     replace h := h_b h; obtain ⟨x35,hx36,h⟩ := h
     refine v_ld 1 tt_ok (v := .pointer (some ((adr g_f0.s_Tenants.1).add (f0.e.Tenant.toNat * 12)))) ts_77 rfl (by rw [← fptr_at h_f0_t hx36]; kernel_rfl) ?_
     refine v_done ?_
     refine x_p rfl ?_
     refine v_done ?_
     refine x_p rfl ?_
     refine v_done ?_
     refine x_p rfl ?_
     refine v_done ?_
     refine x_vb rfl ?_
     refine v_ld 1 tt_ok (v := .pointer (some ((adr g_f0.s_Tenants.1).add (f0.e.Tenant.toNat * 12)))) ts_77 rfl (by rw [← fptr_at h_f0_t hx36]; kernel_rfl) ?_
     refine v_done ?_
     refine x_p rfl ?_
     refine v_done ?_
     refine x_kp [(0,.pointer (some ⟨bf0,0,none⟩)),(3,.int .i64 f0.e.Cell),(4,.int .i64 f0.e.Other),(71,.pointer (some ((adr g_f0.s_Tenants.1).add (f0.e.Tenant.toNat * 12)))),(75,.pointer (some ((adr g_f0.s_Tenants.1).add (f0.e.Tenant.toNat * 12)))),(76,.pointer (some ⟨bf0,0,none⟩))] (by kernel_rfl) fun fr => ?_
     refine x_p rfl ?_
     refine v_done ?_
     refine x_p rfl ?_
     refine v_done ?_
     refine x_vb rfl ?_
     refine v_ld 1 tt_ok (v := .pointer (some ((adr g_f0.s_Tenants.1).add (f0.e.Tenant.toNat * 12)))) ts_77 rfl (by rw [← fptr_at h_f0_t hx36]; kernel_rfl) ?_
     refine v_done ?_
     refine x_p rfl ?_
     refine v_done ?_
     refine x_p rfl ?_
     refine v_done ?_
     refine x_p rfl ?_
     refine v_done ?_
     refine x_p rfl ?_
     refine v_done ?_
     refine x_e rfl ?_
     refine r_sec 0 (E := eTenantState) tt_ok ({ x35 with Placed := true }) (idx_get hx36) (fit1 ts_4 (by kernel_rfl)) rfl rfl (pl1 _ _ _) (by kernel_rfl) (by kernel_rfl) (List.cons_ne_nil _ _) ?_
     rw [show (en_state_fold f0 g_f0) = (en_state_fold ({ f0 with s := { f0.s with Tenants := (f0.s.Tenants.set f0.e.Tenant.toNat ({ x35 with Placed := true })) } }) g_f0) by simp [en_state_fold]]
     rw [← @List.length_set _ f0.s.Tenants f0.e.Tenant.toNat ({ x35 with Placed := true })]
     refine r_done ⟨rfl,k_a (le_w [false,true,true]) (le_w [false,true,true]),?_⟩
     refine x_p rfl ?_
     refine v_done ?_
     refine x_kp [(0,.pointer (some ⟨bf0,0,none⟩)),(79,.pointer (some ((adr g_f0.s_Tenants.1).add (f0.e.Tenant.toNat * 12)))),(80,.int .i64 f0.e.Cell),(81,.int .i64 f0.e.Other),(84,.pointer (some ((adr g_f0.s_Tenants.1).add (f0.e.Tenant.toNat * 12))))] (by kernel_rfl) fun fr => ?_
     refine x_p rfl ?_
     refine v_done ?_
     refine x_e rfl ?_
     refine r_sec 0 (E := eTenantState) tt_ok ({ x35 with Placed := true,Home := f0.e.Cell }) (get_set (idx_get hx36) _) (fit1 ts_3 (by kernel_rfl)) rfl rfl (pl1 _ _ _) (by kernel_rfl) (by kernel_rfl) (List.cons_ne_nil _ _) ?_
     rw [show (en_state_fold ({ f0 with s := { f0.s with Tenants := (f0.s.Tenants.set f0.e.Tenant.toNat ({ x35 with Placed := true })) } }) g_f0) = (en_state_fold ({ f0 with s := { f0.s with Tenants := ((f0.s.Tenants.set f0.e.Tenant.toNat ({ x35 with Placed := true })).set f0.e.Tenant.toNat ({ x35 with Placed := true,Home := f0.e.Cell })) } }) g_f0) by simp [en_state_fold]]
     rw [← @List.length_set _ (f0.s.Tenants.set f0.e.Tenant.toNat ({ x35 with Placed := true })) f0.e.Tenant.toNat ({ x35 with Placed := true,Home := f0.e.Cell })]
     refine r_done ⟨rfl,k_a (le_w [false,true,true]) (le_w [false,true,true]),?_⟩
     refine x_p rfl ?_
     refine v_done ?_
     refine x_p rfl ?_
     refine v_done ?_
     refine x_e rfl ?_
     refine r_sec 0 (E := eTenantState) tt_ok ({ x35 with Placed := true,Home := f0.e.Cell,Standby := f0.e.Other }) (get_set (get_set (idx_get hx36) _) _) (fit1 ts_3 (by kernel_rfl)) rfl rfl (pl1 _ _ _) (by kernel_rfl) (by kernel_rfl) (List.cons_ne_nil _ _) ?_
     rw [show (en_state_fold ({ f0 with s := { f0.s with Tenants := ((f0.s.Tenants.set f0.e.Tenant.toNat ({ x35 with Placed := true })).set f0.e.Tenant.toNat ({ x35 with Placed := true,Home := f0.e.Cell })) } }) g_f0) = (en_state_fold ({ f0 with s := { f0.s with Tenants := (((f0.s.Tenants.set f0.e.Tenant.toNat ({ x35 with Placed := true })).set f0.e.Tenant.toNat ({ x35 with Placed := true,Home := f0.e.Cell })).set f0.e.Tenant.toNat ({ x35 with Placed := true,Home := f0.e.Cell,Standby := f0.e.Other })) } }) g_f0) by simp [en_state_fold]]
     rw [← @List.length_set _ ((f0.s.Tenants.set f0.e.Tenant.toNat ({ x35 with Placed := true })).set f0.e.Tenant.toNat ({ x35 with Placed := true,Home := f0.e.Cell })) f0.e.Tenant.toNat ({ x35 with Placed := true,Home := f0.e.Cell,Standby := f0.e.Other })]
     refine r_done ⟨rfl,k_a (le_w [false,true,true]) (le_w [false,true,true]),?_⟩
     refine x_k [(0,.pointer (some ⟨bf0,0,none⟩))] (by kernel_rfl) fun fr => ?_
     refine r_done ?_
     refine r_bind ?_
     replace h := h_b h; obtain ⟨x38,hx37,h⟩ := h
     refine r_call (hc_74 (bf0 := bf0) (g_f0 := g_f0) (f0 := { f0 with s := { f0.s with Tenants := (((f0.s.Tenants.set f0.e.Tenant.toNat ({ x35 with Placed := true })).set f0.e.Tenant.toNat ({ x35 with Placed := true,Home := f0.e.Cell })).set f0.e.Tenant.toNat ({ x35 with Placed := true,Home := f0.e.Cell,Standby := f0.e.Other })) } }) (hS_f0 := by exact (le_d 0).trans hS_f0) (h_f0 := by exact h_f0) (h_f0_t := by exact h_f0_t) (h_f0_cell := by exact h_f0_cell) (h := hx37)) ?_
     rintro _ _ ⟨rfl,rfl⟩
     refine r_done ?_
     repeat refine r_done ?_
     repeat refine r_done ?_
     obtain rfl := h_out h
     exact ret_of (RV.tmp RV.nil) (Le.refl _) ⟨rfl,rfl⟩
theorem hc_75 {ρ : Addr → Option Value} {L : List Ent} {bf0 : Nat} {g_f0 : gstate_fold} {S_f0 : St} (hS_f0 : Le ⟨ρ,L⟩ S_f0) (f0 : state_fold) (h_f0 : Sl_state_fold S_f0 f0 g_f0) (h_f0_t : g_f0.t = fptr g_f0.s_Tenants.1 f0.e.Tenant 12) (h_f0_cell : g_f0.cell = fptr g_f0.s_Cells.1 f0.e.Cell 4) {r : Bool} (h : state_fold_fits f0 = some r) : HC Try.prog 75 #[.pointer (some ⟨bf0,0,none⟩)] ⟨ρ,.row g_f0.s_Tenants.1 f0.s.Tenants.length g_f0.s_Tenants.2 50 12 (fl eTenantState.en f0.s.Tenants) :: .row g_f0.s_Cells.1 f0.s.Cells.length g_f0.s_Cells.2 67 4 (fl eCellState.en f0.s.Cells) :: .obj bf0 (en_state_fold f0 g_f0) 80 :: L⟩ (fun v S' => v = .bool r ∧ S' = ⟨ρ,.row g_f0.s_Tenants.1 f0.s.Tenants.length g_f0.s_Tenants.2 50 12 (fl eTenantState.en f0.s.Tenants) :: .row g_f0.s_Cells.1 f0.s.Cells.length g_f0.s_Cells.2 67 4 (fl eCellState.en f0.s.Cells) :: .obj bf0 (en_state_fold f0 g_f0) 80 :: L⟩) := by
 replace h := h_in h
 refine HC.intro (N := 65) (args := [_]) tt_ok Try.func75 rfl (by decide +kernel) rfl (Nat.le_of_ble_eq_true rfl) ?_
 refine r_bind ?_
 refine r_done ?_
 refine r_bind ?_
 refine r_mix tt_ok hm_ok _ _ [] (.pure 0 (.pure 1 (.pure 2 (.pure 3 (.vb 4 (.pure 5 (.pure 6 (.pure 7 (.pure 8 (.vb 9 (.pure 10 (.pure 11 .nil)))))))))))) (le_w [true,true,true]) (le_w [true,true,true]) ?_ ?_
 ·decide +kernel
 refine x_p rfl ?_
 refine v_done ?_
 refine x_p rfl ?_
 refine v_done ?_
 refine x_p rfl ?_
 refine v_done ?_
 refine x_p rfl ?_
 refine v_done ?_
 refine x_vb rfl ?_
 refine v_ld 2 tt_ok (v := .int .i64 f0.e.From) ts_3 rfl (by kernel_rfl) ?_
 refine v_done ?_
 refine x_p rfl ?_
 refine v_done ?_
 refine x_p rfl ?_
 refine v_done ?_
 refine x_p rfl ?_
 refine v_done ?_
 refine x_kp [(0,.pointer (some ⟨bf0,0,none⟩)),(9,.int .i64 f0.e.From),(12,.pointer (some ⟨bf0,18,none⟩))] (by kernel_rfl) fun fr => ?_
 refine x_p rfl ?_
 refine v_done ?_
 refine x_vb rfl ?_
 refine v_ld 2 tt_ok (v := .int .i64 f0.e.Until) ts_3 rfl (by kernel_rfl) ?_
 refine v_done ?_
 refine x_p rfl ?_
 refine v_done ?_
 refine x_p rfl ?_
 refine v_done ?_
 refine x_k [(0,.pointer (some ⟨bf0,0,none⟩)),(3,.int .i64 f0.e.From),(4,.int .i64 f0.e.Until)] (by kernel_rfl) fun fr => ?_
 refine r_done ?_
 refine r_bind ?_
 replace h := h_j h; obtain ⟨K8,h,hK9⟩ := h
 refine r_meet (fun fr S => ∃ (x7 : Bool),∃ fr0,K8 x7 = some r ∧ fr = updL [(2,.bool x7)] fr0 ∧ S = ⟨ρ,.row g_f0.s_Tenants.1 f0.s.Tenants.length g_f0.s_Tenants.2 50 12 (fl eTenantState.en f0.s.Tenants) :: .row g_f0.s_Cells.1 f0.s.Cells.length g_f0.s_Cells.2 67 4 (fl eCellState.en f0.s.Cells) :: .obj bf0 (en_state_fold f0 g_f0) 80 :: L⟩) ?_ ?_
 refine r_mix tt_ok hm_ok _ _ [] (.pure 0 (.pure 1 (.pure 2 (.pure 3 (.pure 4 (.vb 5 (.pure 6 (.pure 7 (.pure 8 (.pure 9 (.pure 10 (.pure 11 (.pure 12 (.vb 13 (.pure 14 (.pure 15 (.pure 16 (.pure 17 (.vb 18 (.pure 19 (.pure 20 (.pure 21 (.pure 22 (.pure 23 (.pure 24 (.pure 25 (.pure 26 (.pure 27 (.pure 28 (.pure 29 (.pure 30 (.pure 31 (.pure 32 (.pure 33 (.pure 34 (.vb 35 (.pure 36 (.pure 37 (.pure 38 (.pure 39 (.pure 40 (.pure 41 (.pure 42 (.vb 43 (.pure 44 (.pure 45 (.pure 46 (.vb 47 (.pure 48 (.pure 49 (.pure 50 .nil))))))))))))))))))))))))))))))))))))))))))))))))))) (le_w [true,true,true]) (le_w [true,true,true]) ?_ ?_
 ·decide +kernel
 refine x_kp [(0,.pointer (some ⟨bf0,0,none⟩)),(3,.int .i64 f0.e.From),(4,.int .i64 f0.e.Until)] (by kernel_rfl) fun fr => ?_
 refine x_p rfl ?_
 refine v_done ?_
 refine x_p rfl ?_
 refine v_done ?_
 refine x_p rfl ?_
 refine v_done ?_
 refine x_p rfl ?_
 refine v_done ?_
 refine x_p rfl ?_
 refine v_done ?_
 refine x_vb rfl ?_
 refine v_ld 2 tt_ok (v := .int .i64 f0.e.Tick) ts_3 rfl (by kernel_rfl) ?_
 refine v_done ?_
 refine x_p rfl ?_
 refine v_done ?_
 refine x_p rfl ?_
 refine v_done ?_
 refine x_p rfl ?_
 refine v_ite (fun (hb1 : (decide (f0.e.Tick ≤ f0.e.From)) = true) => ?_) (fun (hb1 : (decide (f0.e.Tick ≤ f0.e.From)) = false) => ?_)
 ·replace h := h_t h hb1
  clear hb1
  refine v_done ?_
  refine x_kp [(0,.pointer (some ⟨bf0,0,none⟩)),(3,.int .i64 f0.e.From),(4,.int .i64 f0.e.Until),(22,.bool true),(23,.int .i64 f0.e.From)] (by kernel_rfl) fun fr => ?_
  refine x_p rfl ?_
  refine v_T rfl ?_
  refine v_done ?_
  refine x_p rfl ?_
  refine v_T rfl ?_
  refine v_done ?_
  refine x_p rfl ?_
  refine v_T rfl ?_
  refine v_done ?_
  refine x_p rfl ?_
  refine v_T rfl ?_
  refine v_done ?_
  refine x_vb rfl ?_
  refine v_T rfl ?_
  refine v_ld 2 tt_ok (v := .int .i64 f0.e.Tick) ts_3 rfl (by kernel_rfl) ?_
  refine v_done ?_
  refine x_p rfl ?_
  refine v_T rfl ?_
  refine v_done ?_
  refine x_p rfl ?_
  refine v_T rfl ?_
  refine v_done ?_
  refine x_p rfl ?_
  refine v_T rfl ?_
  refine v_done ?_
  refine x_p rfl ?_
  refine v_T rfl ?_
  refine v_done ?_
  refine x_kp [(0,.pointer (some ⟨bf0,0,none⟩)),(3,.int .i64 f0.e.From),(4,.int .i64 f0.e.Until),(22,.bool true),(23,.int .i64 f0.e.From),(28,.int .i64 f0.e.Tick),(32,.pointer (some ⟨bf0,8,none⟩))] (by kernel_rfl) fun fr => ?_
  refine x_vb rfl ?_
  refine v_T rfl ?_
  refine v_ld 2 tt_ok (v := .int .i64 f0.c.Lease) ts_3 rfl (by kernel_rfl) ?_
  refine v_done ?_
  refine x_p rfl ?_
  refine v_T rfl ?_
  refine v_num (e' := w64 (f0.e.Tick + f0.c.Lease)) rfl ?_
  refine v_done ?_
  refine x_p rfl ?_
  refine v_T rfl ?_
  refine v_done ?_
  refine x_p rfl ?_
  refine v_done ?_
  refine x_p rfl ?_
  refine v_done ?_
  refine x_p rfl ?_
  refine v_ite (fun (hb2 : (decide (f0.e.From ≤ w64 (f0.e.Tick + f0.c.Lease))) = true) => ?_) (fun (hb2 : (decide (f0.e.From ≤ w64 (f0.e.Tick + f0.c.Lease))) = false) => ?_)
  ·replace h := h_t h hb2
   clear hb2
   refine v_done ?_
   refine x_p rfl ?_
   refine v_T rfl ?_
   refine v_done ?_
   refine x_p rfl ?_
   refine v_T rfl ?_
   refine v_done ?_
   refine x_p rfl ?_
   refine v_done ?_
   refine x_kp [(0,.pointer (some ⟨bf0,0,none⟩)),(3,.int .i64 f0.e.From),(4,.int .i64 f0.e.Until),(41,.bool (decide (f0.e.From < f0.e.Until)))] (by kernel_rfl) fun fr => ?_
   refine x_p rfl ?_
   refine v_done ?_
   refine x_p rfl ?_
   refine v_ite (fun (hb3 : (decide (f0.e.From < f0.e.Until)) = true) => ?_) (fun (hb3 : (decide (f0.e.From < f0.e.Until)) = false) => ?_)
   ·replace h := h_t h hb3
    clear hb3
    refine v_done ?_
    refine x_p rfl ?_
    refine v_T rfl ?_
    refine v_done ?_
    refine x_p rfl ?_
    refine v_T rfl ?_
    refine v_num (e' := w64 (f0.e.Until - f0.e.From)) rfl ?_
    refine v_done ?_
    refine x_p rfl ?_
    refine v_T rfl ?_
    refine v_done ?_
    refine x_p rfl ?_
    refine v_T rfl ?_
    refine v_done ?_
    refine x_p rfl ?_
    refine v_T rfl ?_
    refine v_done ?_
    refine x_p rfl ?_
    refine v_T rfl ?_
    refine v_done ?_
    refine x_vb rfl ?_
    refine v_T rfl ?_
    refine v_ld 2 tt_ok (v := .int .i64 f0.c.Lease) ts_3 rfl (by kernel_rfl) ?_
    refine v_done ?_
    refine x_kp [(0,.pointer (some ⟨bf0,0,none⟩)),(3,.int .i64 f0.e.From),(42,.bool true),(45,.int .i64 (w64 (f0.e.Until - f0.e.From))),(50,.int .i64 f0.c.Lease)] (by kernel_rfl) fun fr => ?_
    refine x_p rfl ?_
    refine v_T rfl ?_
    refine v_done ?_
    refine x_p rfl ?_
    refine v_done ?_
    refine x_p rfl ?_
    refine v_done ?_
    refine x_p rfl ?_
    refine v_ite (fun (hb4 : (decide (w64 (f0.e.Until - f0.e.From) ≤ f0.c.Lease)) = true) => ?_) (fun (hb4 : (decide (w64 (f0.e.Until - f0.e.From) ≤ f0.c.Lease)) = false) => ?_)
    ·replace h := h_t h hb4
     clear hb4
     refine v_done ?_
     refine x_p rfl ?_
     refine v_T rfl ?_
     refine v_done ?_
     refine x_p rfl ?_
     refine v_T rfl ?_
     refine v_done ?_
     refine x_p rfl ?_
     refine v_T rfl ?_
     refine v_done ?_
     refine x_vb rfl ?_
     refine v_T rfl ?_
     replace h := h_b h; obtain ⟨x5,hx6,h⟩ := h
     refine v_ld 2 tt_ok (v := .pointer (some ((adr g_f0.s_Tenants.1).add (f0.e.Tenant.toNat * 12)))) ts_77 rfl (by rw [← fptr_at h_f0_t hx6]; kernel_rfl) ?_
     refine v_done ?_
     refine x_p rfl ?_
     refine v_T rfl ?_
     refine v_done ?_
     refine x_kp [(53,.bool true),(54,.int .i64 f0.e.From),(59,.pointer (some ((adr g_f0.s_Tenants.1).add (f0.e.Tenant.toNat * 12))))] (by kernel_rfl) fun fr => ?_
     refine x_p rfl ?_
     refine v_T rfl ?_
     refine v_done ?_
     refine x_p rfl ?_
     refine v_T rfl ?_
     refine v_done ?_
     refine x_vb rfl ?_
     refine v_T rfl ?_
     refine v_lec (E := eTenantState) tt_ok (v := .int .i64 x5.Window.Until) (idx_get hx6) (rd_row 0 rfl) ts_3 rfl (pl2 _ _ _ _) (by kernel_rfl) ?_
     refine v_done ?_
     refine x_p rfl ?_
     refine v_T rfl ?_
     refine v_done ?_
     refine x_p rfl ?_
     refine v_done ?_
     refine x_p rfl ?_
     refine v_done ?_
     refine x_k [(2,.bool (decide (x5.Window.Until ≤ f0.e.From)))] (by kernel_rfl) fun fr => ?_
     exact r_done ⟨decide (x5.Window.Until ≤ f0.e.From),_,h,fr_eq _ (by kernel_rfl),(by kernel_rfl)⟩
    ·replace h := h_f h hb4
     clear hb4
     refine v_done ?_
     refine x_p rfl ?_
     refine v_F rfl ?_
     refine v_done ?_
     refine x_p rfl ?_
     refine v_F rfl ?_
     refine v_done ?_
     refine x_p rfl ?_
     refine v_F rfl ?_
     refine v_done ?_
     refine x_vb rfl ?_
     refine v_F rfl ?_
     refine v_done ?_
     refine x_p rfl ?_
     refine v_F rfl ?_
     refine v_done ?_
     refine x_kp [(53,.bool false),(54,undef),(59,undef)] (by kernel_rfl) fun fr => ?_
     refine x_p rfl ?_
     refine v_F rfl ?_
     refine v_done ?_
     refine x_p rfl ?_
     refine v_F rfl ?_
     refine v_done ?_
     refine x_vb rfl ?_
     refine v_F rfl ?_
     refine v_done ?_
     refine x_p rfl ?_
     refine v_F rfl ?_
     refine v_done ?_
     refine x_p rfl ?_
     refine v_F rfl ?_
     refine v_done ?_
     refine x_p rfl ?_
     refine v_done ?_
     refine x_k [(2,.bool false)] (by kernel_rfl) fun fr => ?_
     exact r_done ⟨false,_,h,fr_eq _ (by kernel_rfl),(by kernel_rfl)⟩
   ·replace h := h_f h hb3
    clear hb3
    refine v_done ?_
    refine x_p rfl ?_
    refine v_F rfl ?_
    refine v_done ?_
    refine x_p rfl ?_
    refine v_F rfl ?_
    refine v_done ?_
    refine x_p rfl ?_
    refine v_F rfl ?_
    refine v_done ?_
    refine x_p rfl ?_
    refine v_F rfl ?_
    refine v_done ?_
    refine x_p rfl ?_
    refine v_F rfl ?_
    refine v_done ?_
    refine x_p rfl ?_
    refine v_F rfl ?_
    refine v_done ?_
    refine x_vb rfl ?_
    refine v_F rfl ?_
    refine v_done ?_
    refine x_kp [(0,.pointer (some ⟨bf0,0,none⟩)),(3,.int .i64 f0.e.From),(42,.bool false),(45,undef),(50,undef)] (by kernel_rfl) fun fr => ?_
    refine x_p rfl ?_
    refine v_F rfl ?_
    refine v_done ?_
    refine x_p rfl ?_
    refine v_F rfl ?_
    refine v_done ?_
    refine x_p rfl ?_
    refine v_done ?_
    refine x_p rfl ?_
    refine v_F rfl ?_
    refine v_done ?_
    refine x_p rfl ?_
    refine v_F rfl ?_
    refine v_done ?_
    refine x_p rfl ?_
    refine v_F rfl ?_
    refine v_done ?_
    refine x_p rfl ?_
    refine v_F rfl ?_
    refine v_done ?_
    refine x_vb rfl ?_
    refine v_F rfl ?_
    refine v_done ?_
    refine x_p rfl ?_
    refine v_F rfl ?_
    refine v_done ?_
    refine x_kp [(53,.bool false),(54,undef),(59,undef)] (by kernel_rfl) fun fr => ?_
    refine x_p rfl ?_
    refine v_F rfl ?_
    refine v_done ?_
    refine x_p rfl ?_
    refine v_F rfl ?_
    refine v_done ?_
    refine x_vb rfl ?_
    refine v_F rfl ?_
    refine v_done ?_
    refine x_p rfl ?_
    refine v_F rfl ?_
    refine v_done ?_
    refine x_p rfl ?_
    refine v_F rfl ?_
    refine v_done ?_
    refine x_p rfl ?_
    refine v_done ?_
    refine x_k [(2,.bool false)] (by kernel_rfl) fun fr => ?_
    exact r_done ⟨false,_,h,fr_eq _ (by kernel_rfl),(by kernel_rfl)⟩
  ·replace h := h_f h hb2
   clear hb2
   refine v_done ?_
   refine x_p rfl ?_
   refine v_F rfl ?_
   refine v_done ?_
   refine x_p rfl ?_
   refine v_F rfl ?_
   refine v_done ?_
   refine x_p rfl ?_
   refine v_F rfl ?_
   refine v_done ?_
   refine x_kp [(0,.pointer (some ⟨bf0,0,none⟩)),(3,.int .i64 f0.e.From),(4,.int .i64 f0.e.Until),(41,.bool false)] (by kernel_rfl) fun fr => ?_
   refine x_p rfl ?_
   refine v_done ?_
   refine x_p rfl ?_
   refine v_F rfl ?_
   refine v_done ?_
   refine x_p rfl ?_
   refine v_F rfl ?_
   refine v_done ?_
   refine x_p rfl ?_
   refine v_F rfl ?_
   refine v_done ?_
   refine x_p rfl ?_
   refine v_F rfl ?_
   refine v_done ?_
   refine x_p rfl ?_
   refine v_F rfl ?_
   refine v_done ?_
   refine x_p rfl ?_
   refine v_F rfl ?_
   refine v_done ?_
   refine x_p rfl ?_
   refine v_F rfl ?_
   refine v_done ?_
   refine x_vb rfl ?_
   refine v_F rfl ?_
   refine v_done ?_
   refine x_kp [(0,.pointer (some ⟨bf0,0,none⟩)),(3,.int .i64 f0.e.From),(42,.bool false),(45,undef),(50,undef)] (by kernel_rfl) fun fr => ?_
   refine x_p rfl ?_
   refine v_F rfl ?_
   refine v_done ?_
   refine x_p rfl ?_
   refine v_F rfl ?_
   refine v_done ?_
   refine x_p rfl ?_
   refine v_done ?_
   refine x_p rfl ?_
   refine v_F rfl ?_
   refine v_done ?_
   refine x_p rfl ?_
   refine v_F rfl ?_
   refine v_done ?_
   refine x_p rfl ?_
   refine v_F rfl ?_
   refine v_done ?_
   refine x_p rfl ?_
   refine v_F rfl ?_
   refine v_done ?_
   refine x_vb rfl ?_
   refine v_F rfl ?_
   refine v_done ?_
   refine x_p rfl ?_
   refine v_F rfl ?_
   refine v_done ?_
   refine x_kp [(53,.bool false),(54,undef),(59,undef)] (by kernel_rfl) fun fr => ?_
   refine x_p rfl ?_
   refine v_F rfl ?_
   refine v_done ?_
   refine x_p rfl ?_
   refine v_F rfl ?_
   refine v_done ?_
   refine x_vb rfl ?_
   refine v_F rfl ?_
   refine v_done ?_
   refine x_p rfl ?_
   refine v_F rfl ?_
   refine v_done ?_
   refine x_p rfl ?_
   refine v_F rfl ?_
   refine v_done ?_
   refine x_p rfl ?_
   refine v_done ?_
   refine x_k [(2,.bool false)] (by kernel_rfl) fun fr => ?_
   exact r_done ⟨false,_,h,fr_eq _ (by kernel_rfl),(by kernel_rfl)⟩
 ·replace h := h_f h hb1
  clear hb1
  refine v_done ?_
  refine x_kp [(0,.pointer (some ⟨bf0,0,none⟩)),(3,.int .i64 f0.e.From),(4,.int .i64 f0.e.Until),(22,.bool false),(23,undef)] (by kernel_rfl) fun fr => ?_
  refine x_p rfl ?_
  refine v_F rfl ?_
  refine v_done ?_
  refine x_p rfl ?_
  refine v_F rfl ?_
  refine v_done ?_
  refine x_p rfl ?_
  refine v_F rfl ?_
  refine v_done ?_
  refine x_p rfl ?_
  refine v_F rfl ?_
  refine v_done ?_
  refine x_vb rfl ?_
  refine v_F rfl ?_
  refine v_done ?_
  refine x_p rfl ?_
  refine v_F rfl ?_
  refine v_done ?_
  refine x_p rfl ?_
  refine v_F rfl ?_
  refine v_done ?_
  refine x_p rfl ?_
  refine v_F rfl ?_
  refine v_done ?_
  refine x_p rfl ?_
  refine v_F rfl ?_
  refine v_done ?_
  refine x_kp [(0,.pointer (some ⟨bf0,0,none⟩)),(3,.int .i64 f0.e.From),(4,.int .i64 f0.e.Until),(22,.bool false),(23,undef),(28,undef),(32,undef)] (by kernel_rfl) fun fr => ?_
  refine x_vb rfl ?_
  refine v_F rfl ?_
  refine v_done ?_
  refine x_p rfl ?_
  refine v_F rfl ?_
  refine v_done ?_
  refine x_p rfl ?_
  refine v_F rfl ?_
  refine v_done ?_
  refine x_p rfl ?_
  refine v_F rfl ?_
  refine v_done ?_
  refine x_p rfl ?_
  refine v_done ?_
  refine x_p rfl ?_
  refine v_F rfl ?_
  refine v_done ?_
  refine x_p rfl ?_
  refine v_F rfl ?_
  refine v_done ?_
  refine x_p rfl ?_
  refine v_F rfl ?_
  refine v_done ?_
  refine x_p rfl ?_
  refine v_F rfl ?_
  refine v_done ?_
  refine x_kp [(0,.pointer (some ⟨bf0,0,none⟩)),(3,.int .i64 f0.e.From),(4,.int .i64 f0.e.Until),(41,.bool false)] (by kernel_rfl) fun fr => ?_
  refine x_p rfl ?_
  refine v_done ?_
  refine x_p rfl ?_
  refine v_F rfl ?_
  refine v_done ?_
  refine x_p rfl ?_
  refine v_F rfl ?_
  refine v_done ?_
  refine x_p rfl ?_
  refine v_F rfl ?_
  refine v_done ?_
  refine x_p rfl ?_
  refine v_F rfl ?_
  refine v_done ?_
  refine x_p rfl ?_
  refine v_F rfl ?_
  refine v_done ?_
  refine x_p rfl ?_
  refine v_F rfl ?_
  refine v_done ?_
  refine x_p rfl ?_
  refine v_F rfl ?_
  refine v_done ?_
  refine x_vb rfl ?_
  refine v_F rfl ?_
  refine v_done ?_
  refine x_kp [(0,.pointer (some ⟨bf0,0,none⟩)),(3,.int .i64 f0.e.From),(42,.bool false),(45,undef),(50,undef)] (by kernel_rfl) fun fr => ?_
  refine x_p rfl ?_
  refine v_F rfl ?_
  refine v_done ?_
  refine x_p rfl ?_
  refine v_F rfl ?_
  refine v_done ?_
  refine x_p rfl ?_
  refine v_done ?_
  refine x_p rfl ?_
  refine v_F rfl ?_
  refine v_done ?_
  refine x_p rfl ?_
  refine v_F rfl ?_
  refine v_done ?_
  refine x_p rfl ?_
  refine v_F rfl ?_
  refine v_done ?_
  refine x_p rfl ?_
  refine v_F rfl ?_
  refine v_done ?_
  refine x_vb rfl ?_
  refine v_F rfl ?_
  refine v_done ?_
  refine x_p rfl ?_
  refine v_F rfl ?_
  refine v_done ?_
  refine x_kp [(53,.bool false),(54,undef),(59,undef)] (by kernel_rfl) fun fr => ?_
  refine x_p rfl ?_
  refine v_F rfl ?_
  refine v_done ?_
  refine x_p rfl ?_
  refine v_F rfl ?_
  refine v_done ?_
  refine x_vb rfl ?_
  refine v_F rfl ?_
  refine v_done ?_
  refine x_p rfl ?_
  refine v_F rfl ?_
  refine v_done ?_
  refine x_p rfl ?_
  refine v_F rfl ?_
  refine v_done ?_
  refine x_p rfl ?_
  refine v_done ?_
  refine x_k [(2,.bool false)] (by kernel_rfl) fun fr => ?_
  exact r_done ⟨false,_,h,fr_eq _ (by kernel_rfl),(by kernel_rfl)⟩
 clear h
 rintro fr S ⟨x7,fr,h,rfl,rfl⟩
 replace h := hK9 _ h
 refine r_done ?_
 repeat refine r_done ?_
 repeat refine r_done ?_
 obtain rfl := h_out h
 exact ret_of (RV.tmp RV.nil) (Le.refl _) ⟨rfl,rfl⟩
end Go.Proofs.YtcdoangbkgaapaaK
