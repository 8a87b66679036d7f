/- The code of 29 functions computes what it is to. No condition. -/
import Derived.Test.YtcdoangbkgaapaaGreatG2
set_option linter.unusedVariables false
set_option maxHeartbeats 4000000
namespace Go.Proofs.YtcdoangbkgaapaaGreatK
open Go Go.RowKit
variable {ρ : Addr → Option Value} {L : List Ent}
theorem hc_47 {bt0 : Nat} {g_t0 : gcellplanemake_Tape} {g_c1 : gConfig} {g_s2 : gState} {S_t0 : St} (hS_t0 : Le ⟨ρ,L⟩ S_t0) {S_c1 : St} (hS_c1 : Le ⟨ρ,L⟩ S_c1) {S_s2 : St} (hS_s2 : Le ⟨ρ,L⟩ S_s2) (t0 : cellplanemake_Tape) (c1 : Config) (s2 : State) (e3 : Entry) (h_t0 : Sl_cellplanemake_Tape S_t0 t0 g_t0) (h_c1 : Sl_Config S_c1 c1 g_c1) (h_s2 : Sl_State S_s2 s2 g_s2) {r : (Entry × Int)} (h : cellplanemake_grant t0 c1 s2 e3 = some r) : HC Tryz.prog 47 #[pp bt0 0,.agg (en_Config c1 g_c1).toArray,.agg (en_State s2 g_s2).toArray,.agg (en_Entry e3).toArray] ⟨ρ,.obj bt0 (en_cellplanemake_Tape t0 g_t0) 94 :: L⟩ (fun v S' => v = .agg (en_Entry r.1).toArray ∧ S' = ⟨ρ,.obj bt0 (en_cellplanemake_Tape ({ t0 with At := r.2 }) g_t0) 94 :: L⟩) := by
 replace h := h_in h
 refine HC.intro (N := 129) (args := [_,_,_,_]) tt_ok Tryz.func47 rfl (by decide +kernel) rfl (Nat.le_of_ble_eq_true rfl)<|rb<|r_bx (en_Config c1 g_c1) (by kernel_rfl) fun bq1 => r_bx (en_State s2 g_s2) (by kernel_rfl) fun bq2 => r_bx (en_Entry e3) (by kernel_rfl) fun bq3 => r_al tt_ok (en_Entry (⟨0,0,0,0,0,0,0,0,0⟩ : Entry)) ti_45 (by kernel_rfl) fun bq4 => rd<|rb<|ld 2 tt_ok (v := .slice g_s2.Tenants.1 s2.Tenants.length g_s2.Tenants.2) ts_35 rfl<|ld 1 tt_ok (v := ii e3.Tenant) ts_3 rfl ?_
 replace h := h_b h; obtain ⟨x5,hx6,h⟩ := h
 refine r_el hx6 ((h_s2.1).rd.mono ((le_d 5).trans hS_s2))<|kp [(0,pp bt0 0),(5,pp bq1 0),(6,pp bq2 0),(7,pp bq3 0),(8,pp bq4 0),(14,.pointer (some ((adr g_s2.Tenants.1).add (e3.Tenant.toNat * 12))))] fun fr => r_len (E := eTenantState) tt_ok (en_TenantState x5) (idx_get hx6) ((h_s2.1).rd.mono ((le_d 5).trans hS_s2)) ta_58 rfl (pl0 _ _) (by kernel_rfl) (by kernel_rfl)<|r_al tt_ok (en_TenantState (⟨false,false,0,0,0,0,0,(⟨0,0,0,0,0⟩ : Window)⟩ : TenantState)) ti_58 (by kernel_rfl) fun bq7 => st 0 tt_ok (en_TenantState x5) (fn ta_58) rfl<|rd<|rb<|ld 0 tt_ok (v := ii x5.Home) ts_3 rfl<|st 2 tt_ok (en_Entry ({ e3 with Cell := x5.Home })) (f1 ts_3) rfl<|rd<|rb ?_
 replace h := h_j h; obtain ⟨K29,h,hK30⟩ := h
 refine r_meet (fun fr S => ∃ (at27 : Int),∃ (cel28 : Int),∃ fr0,K29 (at27,cel28) = some r ∧ fr = updL [(0,pp bt0 0),(5,pp bq1 0),(6,pp bq2 0),(7,pp bq3 0),(8,pp bq4 0),(9,pp bq7 0)] fr0 ∧ S = ⟨ρ,.obj bt0 (en_cellplanemake_Tape ({ t0 with At := at27 }) g_t0) 94 :: .obj bq7 (en_TenantState x5) 58 :: .obj bq4 (en_Entry (⟨0,0,0,0,0,0,0,0,0⟩ : Entry)) 45 :: .obj bq3 (en_Entry ({ e3 with Cell := cel28 })) 45 :: .obj bq2 (en_State s2 g_s2) 38 :: .obj bq1 (en_Config c1 g_c1) 30 :: L⟩) ?_ ?_
 ·refine rb ?_
  replace h := h_j h; obtain ⟨K14,h,hK15⟩ := h
  refine r_meet (fun fr S => ∃ (x12 : Bool),∃ (at13 : Int),∃ fr0,K14 (x12,at13) = some r ∧ fr = updL [(0,pp bt0 0),(5,pp bq1 0),(6,pp bq2 0),(7,pp bq3 0),(8,pp bq4 0),(9,pp bq7 0),(25,.bool x12)] fr0 ∧ S = ⟨ρ,.obj bt0 (en_cellplanemake_Tape ({ t0 with At := at13 }) g_t0) 94 :: .obj bq7 (en_TenantState x5) 58 :: .obj bq4 (en_Entry (⟨0,0,0,0,0,0,0,0,0⟩ : Entry)) 45 :: .obj bq3 (en_Entry ({ e3 with Cell := x5.Home })) 45 :: .obj bq2 (en_State s2 g_s2) 38 :: .obj bq1 (en_Config c1 g_c1) 30 :: L⟩) ?_ ?_
  ·refine ld 0 tt_ok (v := ii x5.Target) ts_3 rfl<|kp [(0,pp bt0 0),(5,pp bq1 0),(6,pp bq2 0),(7,pp bq3 0),(8,pp bq4 0),(9,pp bq7 0),(20,ii x5.Target)] fun fr => ?_
   apply r_iteh h<;>clear h<;>intro h
   ·refine r_T rfl<|r_le (le_mv 5) ?_
    replace h := h_b h; obtain ⟨⟨x10,x11⟩,hx9,h⟩ := h
    refine rc (hc_35 (bt0 := bt0) (g_t0 := g_t0) (t0 := t0) (n1 := 2) (hS_t0 := by exact (le_d 5).trans hS_t0) (h_t0 :=h_t0) (h := hx9)) ?_
    rintro _ _ ⟨rfl,rfl⟩
    exact rd ⟨x10,x11,_,h,fe _,by kernel_rfl⟩
   exact r_F rfl<|r_F rfl<|r_le ((le_mv 4).trans ((le_mv 4).trans ((le_mv 4).trans ((le_mv 4).trans ((le_mv 4).trans (le_mv 5))))))<|rd ⟨false,t0.At,_,h,fe _,by kernel_rfl⟩
  clear h
  rintro fr S ⟨x12,at13,fr,h,rfl,rfl⟩
  replace h := hK15 _ h
  refine rd ?_
  apply r_iteh h<;>clear h<;>intro h
  ·exact ld 1 tt_ok (v := ii x5.Target) ts_3 rfl<|st 3 tt_ok (en_Entry ({ e3 with Cell := x5.Target })) (f1 ts_3) rfl<|rd ⟨at13,x5.Target,_,h,fe _,by kernel_rfl⟩
  refine rb ?_
  replace h := h_j h; obtain ⟨K24,h,hK25⟩ := h
  refine r_meet (fun fr S => ∃ (x22 : Bool),∃ (at23 : Int),∃ fr0,K24 (x22,at23) = some r ∧ fr = updL [(0,pp bt0 0),(5,pp bq1 0),(6,pp bq2 0),(7,pp bq3 0),(8,pp bq4 0),(9,pp bq7 0),(39,.bool x22)] fr0 ∧ S = ⟨ρ,.obj bt0 (en_cellplanemake_Tape ({ t0 with At := at23 }) g_t0) 94 :: .obj bq7 (en_TenantState x5) 58 :: .obj bq4 (en_Entry (⟨0,0,0,0,0,0,0,0,0⟩ : Entry)) 45 :: .obj bq3 (en_Entry ({ e3 with Cell := x5.Home })) 45 :: .obj bq2 (en_State s2 g_s2) 38 :: .obj bq1 (en_Config c1 g_c1) 30 :: L⟩) ?_ ?_
  ·refine ld 1 tt_ok (v := ii x5.Standby) ts_3 rfl<|kp [(0,pp bt0 0),(5,pp bq1 0),(6,pp bq2 0),(7,pp bq3 0),(8,pp bq4 0),(9,pp bq7 0),(30,ii x5.Standby)] fun fr => ?_
   apply r_iteh h<;>clear h<;>intro h
   ·refine r_T rfl ?_
    replace h := h_b h; obtain ⟨⟨x19,x20⟩,hx18,h⟩ := h
    refine rc (hc_35 (bt0 := bt0) (g_t0 := g_t0) (t0 := { t0 with At := at13 }) (n1 := 5) (hS_t0 := by exact (le_d 5).trans hS_t0) (h_t0 :=h_t0) (h := hx18)) ?_
    rintro _ _ ⟨rfl,rfl⟩
    refine r_T rfl ?_
    apply r_iteh h<;>clear h<;>intro h
    ·exact r_T rfl<|r_T rfl<|r_T rfl<|kr [(0,pp bt0 0),(5,pp bq1 0),(6,pp bq2 0),(7,pp bq3 0),(8,pp bq4 0),(9,pp bq7 0),(39,.bool true)] fun fr => rd ⟨true,x20,_,h,fe _,by kernel_rfl⟩
    exact r_F rfl<|ld 1 tt_ok (v := .bool x5.Shed) ts_4 rfl<|r_T rfl<|kr [(0,pp bt0 0),(5,pp bq1 0),(6,pp bq2 0),(7,pp bq3 0),(8,pp bq4 0),(9,pp bq7 0),(39,.bool x5.Shed)] fun fr => rd ⟨x5.Shed,x20,_,h,fe _,by kernel_rfl⟩
   exact r_F rfl<|r_F rfl<|r_F rfl<|r_F rfl<|kr [(0,pp bt0 0),(5,pp bq1 0),(6,pp bq2 0),(7,pp bq3 0),(8,pp bq4 0),(9,pp bq7 0),(39,.bool false)] fun fr => rd ⟨false,at13,_,h,fe _,by kernel_rfl⟩
  clear h
  rintro fr S ⟨x22,at23,fr,h,rfl,rfl⟩
  replace h := hK25 _ h
  refine rd ?_
  apply r_iteh h<;>clear h<;>intro h
  ·exact ld 1 tt_ok (v := ii x5.Standby) ts_3 rfl<|st 3 tt_ok (en_Entry ({ e3 with Cell := x5.Standby })) (f1 ts_3) rfl<|rd ⟨at23,x5.Standby,_,h,fe _,by kernel_rfl⟩
  exact rd ⟨at23,x5.Home,_,h,fe _,by kernel_rfl⟩
 clear h
 rintro fr S ⟨at27,cel28,fr,h,rfl,rfl⟩
 replace h := hK30 _ h
 refine rd<|rb<|ld 1 tt_ok (v := ii x5.Epoch) ts_3 rfl<|st 3 tt_ok (en_Entry ({ e3 with Cell := cel28,Epoch := x5.Epoch })) (f1 ts_3) rfl<|rd<|rb ?_
 replace h := h_j h; obtain ⟨K43,h,hK44⟩ := h
 refine r_meet (fun fr S => ∃ (at41 : Int),∃ (epo42 : Int),∃ fr0,K43 (at41,epo42) = some r ∧ fr = updL [(0,pp bt0 0),(5,pp bq1 0),(6,pp bq2 0),(7,pp bq3 0),(8,pp bq4 0),(9,pp bq7 0)] fr0 ∧ S = ⟨ρ,.obj bt0 (en_cellplanemake_Tape ({ t0 with At := at41 }) g_t0) 94 :: .obj bq7 (en_TenantState x5) 58 :: .obj bq4 (en_Entry (⟨0,0,0,0,0,0,0,0,0⟩ : Entry)) 45 :: .obj bq3 (en_Entry ({ e3 with Cell := cel28,Epoch := epo42 })) 45 :: .obj bq2 (en_State s2 g_s2) 38 :: .obj bq1 (en_Config c1 g_c1) 30 :: L⟩) ?_ ?_
 ·refine rb ?_
  replace h := h_j h; obtain ⟨K38,h,hK39⟩ := h
  refine r_meet (fun fr S => ∃ (x36 : Bool),∃ (at37 : Int),∃ fr0,K38 (x36,at37) = some r ∧ fr = updL [(0,pp bt0 0),(5,pp bq1 0),(6,pp bq2 0),(7,pp bq3 0),(8,pp bq4 0),(9,pp bq7 0),(59,.bool x36)] fr0 ∧ S = ⟨ρ,.obj bt0 (en_cellplanemake_Tape ({ t0 with At := at37 }) g_t0) 94 :: .obj bq7 (en_TenantState x5) 58 :: .obj bq4 (en_Entry (⟨0,0,0,0,0,0,0,0,0⟩ : Entry)) 45 :: .obj bq3 (en_Entry ({ e3 with Cell := cel28,Epoch := x5.Epoch })) 45 :: .obj bq2 (en_State s2 g_s2) 38 :: .obj bq1 (en_Config c1 g_c1) 30 :: L⟩) ?_ ?_
  ·refine ld 3 tt_ok (v := ii cel28) ts_3 rfl<|ld 1 tt_ok (v := ii x5.Home) ts_3 rfl<|kp [(0,pp bt0 0),(5,pp bq1 0),(6,pp bq2 0),(7,pp bq3 0),(8,pp bq4 0),(9,pp bq7 0),(47,ii cel28),(49,ii x5.Home)] fun fr => ?_
   apply r_iteh h<;>clear h<;>intro h
   ·exact r_T rfl<|r_T rfl<|r_T rfl<|r_T rfl<|r_T rfl<|kp [(0,pp bt0 0),(5,pp bq1 0),(6,pp bq2 0),(7,pp bq3 0),(8,pp bq4 0),(9,pp bq7 0),(56,.bool true),(58,undef)] fun fr => r_T rfl<|rd ⟨true,at27,_,h,fe _,by kernel_rfl⟩
   refine r_F rfl<|ld 1 tt_ok (v := ii x5.Epoch) ts_3 rfl<|r_F rfl ?_
   apply r_iteh h<;>clear h<;>intro h
   ·exact r_T rfl<|kp [(0,pp bt0 0),(5,pp bq1 0),(6,pp bq2 0),(7,pp bq3 0),(8,pp bq4 0),(9,pp bq7 0),(56,.bool true),(58,undef)] fun fr => r_T rfl<|rd ⟨true,at27,_,h,fe _,by kernel_rfl⟩
   refine r_F rfl ?_
   replace h := h_b h; obtain ⟨⟨x34,x35⟩,hx33,h⟩ := h
   refine rc (hc_35 (bt0 := bt0) (g_t0 := g_t0) (t0 := { t0 with At := at27 }) (n1 := 4) (hS_t0 := by exact (le_d 5).trans hS_t0) (h_t0 :=h_t0) (h := hx33)) ?_
   rintro _ _ ⟨rfl,rfl⟩
   exact kp [(0,pp bt0 0),(5,pp bq1 0),(6,pp bq2 0),(7,pp bq3 0),(8,pp bq4 0),(9,pp bq7 0),(56,.bool false),(58,.bool x34)] fun fr => rd ⟨x34,x35,_,h,fe _,by kernel_rfl⟩
  clear h
  rintro fr S ⟨x36,at37,fr,h,rfl,rfl⟩
  replace h := hK39 _ h
  refine rd ?_
  apply r_iteh h<;>clear h<;>intro h
  ·exact ld 1 tt_ok (v := ii x5.Epoch) ts_3 rfl<|r_num (e' := w64 (x5.Epoch + 1)) rfl<|st 3 tt_ok (en_Entry ({ e3 with Cell := cel28,Epoch := w64 (x5.Epoch + 1) })) (f1 ts_3) rfl<|rd ⟨at37,w64 (x5.Epoch + 1),_,h,fe _,by kernel_rfl⟩
  exact rd ⟨at37,x5.Epoch,_,h,fe _,by kernel_rfl⟩
 clear h
 rintro fr S ⟨at41,epo42,fr,h,rfl,rfl⟩
 replace h := hK44 _ h
 refine rd<|rb ?_
 replace h := h_j h; obtain ⟨K56,h,hK57⟩ := h
 refine r_meet (fun fr S => ∃ (at54 : Int),∃ (tic55 : Int),∃ fr0,K56 (at54,tic55) = some r ∧ fr = updL [(0,pp bt0 0),(5,pp bq1 0),(6,pp bq2 0),(7,pp bq3 0),(8,pp bq4 0),(9,pp bq7 0)] fr0 ∧ S = ⟨ρ,.obj bt0 (en_cellplanemake_Tape ({ t0 with At := at54 }) g_t0) 94 :: .obj bq7 (en_TenantState x5) 58 :: .obj bq4 (en_Entry (⟨0,0,0,0,0,0,0,0,0⟩ : Entry)) 45 :: .obj bq3 (en_Entry ({ e3 with Tick := tic55,Cell := cel28,Epoch := epo42 })) 45 :: .obj bq2 (en_State s2 g_s2) 38 :: .obj bq1 (en_Config c1 g_c1) 30 :: L⟩) ?_ ?_
 ·refine rb ?_
  replace h := h_j h; obtain ⟨K51,h,hK52⟩ := h
  refine r_meet (fun fr S => ∃ (x49 : Bool),∃ (at50 : Int),∃ fr0,K51 (x49,at50) = some r ∧ fr = updL [(0,pp bt0 0),(5,pp bq1 0),(6,pp bq2 0),(7,pp bq3 0),(8,pp bq4 0),(9,pp bq7 0),(73,.bool x49)] fr0 ∧ S = ⟨ρ,.obj bt0 (en_cellplanemake_Tape ({ t0 with At := at50 }) g_t0) 94 :: .obj bq7 (en_TenantState x5) 58 :: .obj bq4 (en_Entry (⟨0,0,0,0,0,0,0,0,0⟩ : Entry)) 45 :: .obj bq3 (en_Entry ({ e3 with Cell := cel28,Epoch := epo42 })) 45 :: .obj bq2 (en_State s2 g_s2) 38 :: .obj bq1 (en_Config c1 g_c1) 30 :: L⟩) ?_ ?_
  ·refine ld 3 tt_ok (v := ii cel28) ts_3 rfl<|ld 1 tt_ok (v := ii x5.Home) ts_3 rfl<|kp [(0,pp bt0 0),(5,pp bq1 0),(6,pp bq2 0),(7,pp bq3 0),(8,pp bq4 0),(9,pp bq7 0),(65,ii cel28),(67,ii x5.Home)] fun fr => ?_
   apply r_iteh h<;>clear h<;>intro h
   ·refine r_T rfl ?_
    replace h := h_b h; obtain ⟨⟨x47,x48⟩,hx46,h⟩ := h
    refine rc (hc_33 (bt0 := bt0) (g_t0 := g_t0) (t0 := { t0 with At := at41 }) (n1 := 4) (hS_t0 := by exact (le_d 5).trans hS_t0) (h_t0 :=h_t0) (h := hx46)) ?_
    rintro _ _ ⟨rfl,rfl⟩
    exact r_T rfl<|rd ⟨decide (0 < x47),x48,_,h,fe _,by kernel_rfl⟩
   exact r_F rfl<|r_F rfl<|r_F rfl<|rd ⟨false,at41,_,h,fe _,by kernel_rfl⟩
  clear h
  rintro fr S ⟨x49,at50,fr,h,rfl,rfl⟩
  replace h := hK52 _ h
  refine rd ?_
  apply r_iteh h<;>clear h<;>intro h
  ·exact ld 3 tt_ok (v := ii e3.Tick) ts_3 rfl<|ld 1 tt_ok (v := ii x5.Window.Until) ts_3 rfl<|st 3 tt_ok (en_Entry ({ e3 with Tick := mx e3.Tick x5.Window.Until,Cell := cel28,Epoch := epo42 })) (f1 ts_3) rfl<|rd ⟨at50,mx e3.Tick x5.Window.Until,_,h,fe _,by kernel_rfl⟩
  exact rd ⟨at50,e3.Tick,_,h,fe _,by kernel_rfl⟩
 clear h
 rintro fr S ⟨at54,tic55,fr,h,rfl,rfl⟩
 replace h := hK57 _ h
 refine rd<|rb<|ld 3 tt_ok (v := ii tic55) ts_3 rfl<|ld 1 tt_ok (v := ii x5.Window.Until) ts_3 rfl<|st 3 tt_ok (en_Entry ({ e3 with Tick := tic55,Cell := cel28,Epoch := epo42,From := mx tic55 x5.Window.Until })) (f1 ts_3) rfl<|rd<|rb ?_
 replace h := h_j h; obtain ⟨K67,h,hK68⟩ := h
 refine r_meet (fun fr S => ∃ (at65 : Int),∃ (fro66 : Int),∃ fr0,K67 (at65,fro66) = some r ∧ fr = updL [(0,pp bt0 0),(5,pp bq1 0),(6,pp bq2 0),(7,pp bq3 0),(8,pp bq4 0)] fr0 ∧ S = ⟨ρ,.obj bt0 (en_cellplanemake_Tape ({ t0 with At := at65 }) g_t0) 94 :: .obj bq4 (en_Entry (⟨0,0,0,0,0,0,0,0,0⟩ : Entry)) 45 :: .obj bq3 (en_Entry ({ e3 with Tick := tic55,Cell := cel28,Epoch := epo42,From := fro66 })) 45 :: .obj bq2 (en_State s2 g_s2) 38 :: .obj bq1 (en_Config c1 g_c1) 30 :: L⟩) ?_ ?_
 ·refine rb ?_
  replace h := h_b h; obtain ⟨⟨x59,x60⟩,hx58,h⟩ := h
  refine rc (hc_35 (bt0 := bt0) (g_t0 := g_t0) (t0 := { t0 with At := at54 }) (n1 := 5) (hS_t0 := by exact (le_d 5).trans hS_t0) (h_t0 :=h_t0) (h := hx58)) ?_
  rintro _ _ ⟨rfl,rfl⟩
  refine rd ?_
  apply r_iteh h<;>clear h<;>intro h
  ·refine r_mix tt_ok hm_ok _ _ [6] (.pure 0 (.va 1 (.pure 2 (.eff 3 (.pure 4 (.pure 5 (.eff 6 .nil))))))) (le_w [false,true,true,true,true,true]) (le_w [false,true,true,false,true,true]) ?_ ?_
   ·decide +kernel
   refine x_p rfl<|vd<|x_va rfl<|vl 2 tt_ok (v := ii (mx tic55 x5.Window.Until)) ts_3 rfl<|vd<|x_p rfl<|vd<|x_e rfl ?_
   replace h := h_b h; obtain ⟨⟨x63,x64⟩,hx62,h⟩ := h
   refine rc (hc_33 (bt0 := bt0) (g_t0 := g_t0) (t0 := { t0 with At := x60 }) (n1 := 3) (hS_t0 := by exact (le_d 5).trans hS_t0) (h_t0 :=h_t0) (h := hx62)) ?_
   rintro _ _ ⟨rfl,rfl⟩
   refine rd ⟨rfl,k_a (le_w [false,true,true,true,true,true]) (le_w [false,true,true,false,true,true]),?_⟩
   refine x_p rfl<|v_num (e' := w64 ((mx tic55 x5.Window.Until) + x63)) rfl<|vd<|x_p rfl<|vd<|x_e rfl<|st 3 tt_ok (en_Entry ({ e3 with Tick := tic55,Cell := cel28,Epoch := epo42,From := w64 ((mx tic55 x5.Window.Until) + x63) })) (f1 ts_3) rfl<|rd ⟨rfl,k_b rfl (le_w [false,true,true,false,true,true]),?_⟩
   exact xk [(0,pp bt0 0),(5,pp bq1 0),(6,pp bq2 0),(7,pp bq3 0),(8,pp bq4 0)] fun fr => r_le (le_w [true,false,true,true,true,true])<|rd ⟨x64,w64 ((mx tic55 x5.Window.Until) + x63),_,h,fe _,by kernel_rfl⟩
  exact r_le (le_w [true,false,true,true,true,true])<|rd ⟨x60,mx tic55 x5.Window.Until,_,h,fe _,by kernel_rfl⟩
 clear h
 rintro fr S ⟨at65,fro66,fr,h,rfl,rfl⟩
 replace h := hK68 _ h
 refine rd<|rb<|r_mix tt_ok hm_ok _ _ [8] (.pure 0 (.va 1 (.pure 2 (.pure 3 (.vb 4 (.eff 5 (.pure 6 (.pure 7 (.eff 8 .nil))))))))) (le_w [false,true,true,true,true]) (le_w [false,true,false,true,true]) ?_ ?_
 ·decide +kernel
 refine x_p rfl<|vd<|x_va rfl<|vl 1 tt_ok (v := ii fro66) ts_3 rfl<|vd<|x_p rfl<|vd<|x_p rfl<|vd<|x_vb rfl<|vl 2 tt_ok (v := ii c1.Lease) ts_3 rfl<|vd<|x_e rfl ?_
 replace h := h_b h; obtain ⟨⟨x70,x71⟩,hx69,h⟩ := h
 refine rc (hc_34 (bt0 := bt0) (g_t0 := g_t0) (t0 := { t0 with At := at65 }) (low1 := 1) (high2 := c1.Lease) (hS_t0 := by exact (le_d 4).trans hS_t0) (h_t0 :=h_t0) (h := hx69)) ?_
 rintro _ _ ⟨rfl,rfl⟩
 refine rd ⟨rfl,k_a (le_w [false,true,true,true,true]) (le_w [false,true,false,true,true]),?_⟩
 refine x_p rfl<|v_num (e' := w64 (fro66 + x70)) rfl<|vd<|x_p rfl<|vd<|x_e rfl<|st 2 tt_ok (en_Entry ({ e3 with Tick := tic55,Cell := cel28,Epoch := epo42,From := fro66,Until := w64 (fro66 + x70) })) (f1 ts_3) rfl<|rd ⟨rfl,k_b rfl (le_w [false,true,false,true,true]),?_⟩
 refine xk [(0,pp bt0 0),(6,pp bq2 0),(7,pp bq3 0),(8,pp bq4 0)] fun fr => rd<|rb<|ld 3 tt_ok (v := .slice g_s2.Cells.1 s2.Cells.length g_s2.Cells.2) ts_36 rfl<|ld 2 tt_ok (v := ii cel28) ts_3 rfl ?_
 replace h := h_b h; obtain ⟨x72,hx73,h⟩ := h
 refine r_el hx73 ((h_s2.2).rd.mono ((le_d 5).trans hS_s2))<|r_lec (E := eCellState) tt_ok (v := ii x72.Running) (idx_get hx73) ((h_s2.2).rd.mono ((le_d 5).trans hS_s2)) ts_3 rfl (pl1 _ _ _) (by kernel_rfl)<|st 2 tt_ok (en_Entry ({ e3 with Tick := tic55,Cell := cel28,Epoch := epo42,From := fro66,Until := w64 (fro66 + x70),N := x72.Running })) (f1 ts_3) rfl<|kr [(0,pp bt0 0),(7,pp bq3 0),(8,pp bq4 0)] fun fr => rd<|rb<|rb ?_
 replace h := h_b h; obtain ⟨⟨x75,x76⟩,hx74,h⟩ := h
 refine rc (hc_35 (bt0 := bt0) (g_t0 := g_t0) (t0 := { t0 with At := x71 }) (n1 := 15) (hS_t0 := by exact (le_d 4).trans hS_t0) (h_t0 :=h_t0) (h := hx74)) ?_
 rintro _ _ ⟨rfl,rfl⟩
 refine rd ?_
 apply r_iteh h<;>clear h<;>intro h
 ·refine rb<|r_mix tt_ok hm_ok _ _ [9,11] (.pure 0 (.va 1 (.pure 2 (.pure 3 (.va 4 (.pure 5 (.pure 8 (.eff 6 (.pure 7 (.eff 9 (.pure 10 (.eff 11 .nil)))))))))))) (le_w [false,true,true,true,true]) (le_w [false,true,false,true,true]) ?_ ?_
  ·decide +kernel
  refine x_p rfl<|vd<|x_va rfl<|vl 1 tt_ok (v := ii fro66) ts_3 rfl<|vd<|x_p rfl<|v_num (e' := w64 (fro66 - 1)) rfl<|vd<|x_p rfl<|vd<|x_va rfl<|vl 1 tt_ok (v := ii (w64 (fro66 + x70))) ts_3 rfl<|vd ?_
  refine x_p rfl<|vd<|x_p rfl<|vd<|xp [(7,pp bq3 0),(8,pp bq4 0),(116,ii (w64 (fro66 - 1))),(118,ii (w64 (fro66 + x70))),(119,pp bt0 0),(122,pp bq3 6)] fun fr => x_e rfl ?_
  replace h := h_b h; obtain ⟨⟨x79,x80⟩,hx78,h⟩ := h
  refine rc (hc_33 (bt0 := bt0) (g_t0 := g_t0) (t0 := { t0 with At := x76 }) (n1 := 30) (hS_t0 := by exact (le_d 4).trans hS_t0) (h_t0 :=h_t0) (h := hx78)) ?_
  rintro _ _ ⟨rfl,rfl⟩
  refine rd ⟨rfl,k_a (le_w [false,true,true,true,true]) (le_w [false,true,false,true,true]),?_⟩
  refine x_p rfl<|v_num (e' := w64 ((w64 (fro66 + x70)) + x79)) rfl<|vd<|x_e rfl<|st 2 tt_ok (en_Entry ({ e3 with Tick := tic55,Cell := cel28,Epoch := epo42,From := w64 (fro66 - 1),Until := w64 (fro66 + x70),N := x72.Running })) (f1 ts_3) rfl<|rd ⟨rfl,k_b rfl (le_w [false,true,false,true,true]),?_⟩
  refine x_p rfl<|vd<|x_e rfl<|st 2 tt_ok (en_Entry ({ e3 with Tick := tic55,Cell := cel28,Epoch := epo42,From := w64 (fro66 - 1),Until := w64 ((w64 (fro66 + x70)) + x79),N := x72.Running })) (f1 ts_3) rfl<|rd ⟨rfl,k_b rfl (le_w [false,true,false,true,true]),?_⟩
  refine xk [(7,pp bq3 0),(8,pp bq4 0)] fun fr => rd<|ld 2 tt_ok (v := ii (w64 (fro66 - 1))) ts_3 rfl<|st 2 tt_ok (en_Entry ({ e3 with Tick := tic55,Cell := cel28,Epoch := epo42,From := mx 0 (w64 (fro66 - 1)),Until := w64 ((w64 (fro66 + x70)) + x79),N := x72.Running })) (f1 ts_3) rfl<|rd<|rb<|ln 2 tt_ok (en_Entry ({ e3 with Tick := tic55,Cell := cel28,Epoch := epo42,From := mx 0 (w64 (fro66 - 1)),Until := w64 ((w64 (fro66 + x70)) + x79),N := x72.Running })) ta_45 rfl<|st 1 tt_ok (en_Entry ({ e3 with Tick := tic55,Cell := cel28,Epoch := epo42,From := mx 0 (w64 (fro66 - 1)),Until := w64 ((w64 (fro66 + x70)) + x79),N := x72.Running })) (fn ta_45) rfl<|rd ?_
  repeat refine rd ?_
  repeat refine rd ?_
  obtain rfl := h_out h
  exact ret_of (rv_cell 1 tt_ok (by kernel_rfl) ta_45 rfl rfl RV.nil) (le_w [true,false,false,false,false]) ⟨rfl,rfl⟩
 refine rd<|rb<|ln 2 tt_ok (en_Entry ({ e3 with Tick := tic55,Cell := cel28,Epoch := epo42,From := fro66,Until := w64 (fro66 + x70),N := x72.Running })) ta_45 rfl<|st 1 tt_ok (en_Entry ({ e3 with Tick := tic55,Cell := cel28,Epoch := epo42,From := fro66,Until := w64 (fro66 + x70),N := x72.Running })) (fn ta_45) rfl<|rd ?_
 repeat refine rd ?_
 repeat refine rd ?_
 obtain rfl := h_out h
 exact ret_of (rv_cell 1 tt_ok (by kernel_rfl) ta_45 rfl rfl RV.nil) (le_w [true,false,false,false,false]) ⟨rfl,rfl⟩
theorem hc_19 {bt0 : Nat} {g_t0 : gcellplanemake_Tape} {g_c1 : gConfig} {g_s2 : gState} {S_t0 : St} (hS_t0 : Le ⟨ρ,L⟩ S_t0) {S_c1 : St} (hS_c1 : Le ⟨ρ,L⟩ S_c1) {S_s2 : St} (hS_s2 : Le ⟨ρ,L⟩ S_s2) (t0 : cellplanemake_Tape) (c1 : Config) (s2 : State) (h_t0 : Sl_cellplanemake_Tape S_t0 t0 g_t0) (h_c1 : Sl_Config S_c1 c1 g_c1) (h_s2 : Sl_State S_s2 s2 g_s2) {r : (Entry × Int)} (h : cellplanemake_Entry t0 c1 s2 = some r) : HC Tryz.prog 19 #[pp bt0 0,.agg (en_Config c1 g_c1).toArray,.agg (en_State s2 g_s2).toArray] ⟨ρ,.obj bt0 (en_cellplanemake_Tape t0 g_t0) 94 :: L⟩ (fun v S' => v = .agg (en_Entry r.1).toArray ∧ S' = ⟨ρ,.obj bt0 (en_cellplanemake_Tape ({ t0 with At := r.2 }) g_t0) 94 :: L⟩) := by
 replace h := h_in h
 refine HC.intro (N := 126) (args := [_,_,_]) tt_ok Tryz.func19 rfl (by decide +kernel) rfl (Nat.le_of_ble_eq_true rfl)<|rb<|r_bx (en_Config c1 g_c1) (by kernel_rfl) fun bq1 => r_bx (en_State s2 g_s2) (by kernel_rfl) fun bq2 => r_al tt_ok (en_Entry (⟨0,0,0,0,0,0,0,0,0⟩ : Entry)) ti_45 (by kernel_rfl) fun bq3 => rd<|rb<|r_mix tt_ok hm_ok _ _ [] (.pure 0 (.vb 1 (.pure 2 (.eff 3 (.pure 4 (.pure 5 .nil)))))) (le_w [true,true,true,false]) (le_w [true,true,true,false]) ?_ ?_
 ·decide +kernel
 refine x_p rfl<|vd<|x_vb rfl<|vl 1 tt_ok (v := ii s2.Tick) ts_3 rfl<|vd<|x_p rfl<|vd<|x_e rfl<|r_le (le_mv 3) ?_
 replace h := h_b h; obtain ⟨⟨x5,x6⟩,hx4,h⟩ := h
 refine rc (hc_33 (bt0 := bt0) (g_t0 := g_t0) (t0 := t0) (n1 := 4) (hS_t0 := by exact (le_d 3).trans hS_t0) (h_t0 :=h_t0) (h := hx4)) ?_
 rintro _ _ ⟨rfl,rfl⟩
 refine rd ⟨rfl,k_a (le_w [false,true,true,true]) (le_w [false,true,true,true]),?_⟩
 refine x_p rfl<|v_num (e' := w64 (s2.Tick + x5)) rfl<|vd<|x_p rfl<|vd<|xk [(0,pp bt0 0),(4,pp bq1 0),(5,pp bq2 0),(6,pp bq3 0),(7,ii (w64 (s2.Tick + x5)))] fun fr => rd<|rb ?_
 replace h := h_j h; obtain ⟨K13,h,hK14⟩ := h
 refine r_meet (fun fr S => ∃ (x11 : Int),∃ (at12 : Int),∃ fr0,K13 (x11,at12) = some r ∧ fr = updL [(0,pp bt0 0),(4,pp bq1 0),(5,pp bq2 0),(6,pp bq3 0),(7,ii x11)] fr0 ∧ S = ⟨ρ,.obj bt0 (en_cellplanemake_Tape ({ t0 with At := at12 }) g_t0) 94 :: .obj bq3 (en_Entry (⟨0,0,0,0,0,0,0,0,0⟩ : Entry)) 45 :: .obj bq2 (en_State s2 g_s2) 38 :: .obj bq1 (en_Config c1 g_c1) 30 :: L⟩) ?_ ?_
 ·refine rb ?_
  replace h := h_b h; obtain ⟨⟨x8,x9⟩,hx7,h⟩ := h
  refine rc (hc_35 (bt0 := bt0) (g_t0 := g_t0) (t0 := { t0 with At := x6 }) (n1 := 20) (hS_t0 := by exact (le_d 3).trans hS_t0) (h_t0 :=h_t0) (h := hx7)) ?_
  rintro _ _ ⟨rfl,rfl⟩
  refine rd ?_
  apply r_iteh h<;>clear h<;>intro h
  ·exact ld 2 tt_ok (v := ii s2.Tick) ts_3 rfl<|r_num (e' := w64 (s2.Tick - 1)) rfl<|kr [(0,pp bt0 0),(4,pp bq1 0),(5,pp bq2 0),(6,pp bq3 0),(7,ii (mx 0 (w64 (s2.Tick - 1))))] fun fr => rd ⟨mx 0 (w64 (s2.Tick - 1)),x9,_,h,fe _,by kernel_rfl⟩
  exact rd ⟨w64 (s2.Tick + x5),x9,_,h,fe _,by kernel_rfl⟩
 clear h
 rintro fr S ⟨x11,at12,fr,h,rfl,rfl⟩
 replace h := hK14 _ h
 refine rd<|rb<|rb ?_
 replace h := h_j h; obtain ⟨K21,h,hK22⟩ := h
 refine r_meet (fun fr S => ∃ (x19 : Bool),∃ (at20 : Int),∃ fr0,K21 (x19,at20) = some r ∧ fr = updL [(0,pp bt0 0),(4,pp bq1 0),(5,pp bq2 0),(6,pp bq3 0),(7,ii x11),(30,.bool x19)] fr0 ∧ S = ⟨ρ,.obj bt0 (en_cellplanemake_Tape ({ t0 with At := at20 }) g_t0) 94 :: .obj bq3 (en_Entry (⟨0,0,0,0,0,0,0,0,0⟩ : Entry)) 45 :: .obj bq2 (en_State s2 g_s2) 38 :: .obj bq1 (en_Config c1 g_c1) 30 :: L⟩) ?_ ?_
 ·refine ld 3 tt_ok (v := .slice g_c1.Tenants.1 c1.Tenants.length g_c1.Tenants.2) ts_27 rfl<|kp [(0,pp bt0 0),(4,pp bq1 0),(5,pp bq2 0),(6,pp bq3 0),(7,ii x11),(24,.slice g_c1.Tenants.1 c1.Tenants.length g_c1.Tenants.2)] fun fr => ?_
  apply r_iteh h<;>clear h<;>intro h
  ·exact r_T rfl<|r_T rfl<|rd ⟨true,at12,_,h,fe _,by kernel_rfl⟩
  refine r_F rfl ?_
  replace h := h_b h; obtain ⟨⟨x17,x18⟩,hx16,h⟩ := h
  refine rc (hc_35 (bt0 := bt0) (g_t0 := g_t0) (t0 := { t0 with At := at12 }) (n1 := 4) (hS_t0 := by exact (le_d 3).trans hS_t0) (h_t0 :=h_t0) (h := hx16)) ?_
  rintro _ _ ⟨rfl,rfl⟩
  exact rd ⟨x17,x18,_,h,fe _,by kernel_rfl⟩
 clear h
 rintro fr S ⟨x19,at20,fr,h,rfl,rfl⟩
 replace h := hK22 _ h
 refine rd ?_
 apply r_iteh h<;>clear h<;>intro h
 ·refine rb<|ln 3 tt_ok (en_Config c1 g_c1) ta_30 rfl<|ln 2 tt_ok (en_State s2 g_s2) ta_38 rfl ?_
  replace h := h_b h; obtain ⟨⟨x25,x26⟩,hx24,h⟩ := h
  refine rc (hc_42 (bt0 := bt0) (g_t0 := g_t0) (t0 := { t0 with At := at20 }) (g_c1 := g_c1) (c1 := c1) (g_s2 := g_s2) (s2 := s2) (tick3 := x11) (hS_t0 := by exact (le_d 3).trans hS_t0) (h_t0 :=h_t0) (hS_c1 := by exact (le_d 3).trans hS_c1) (h_c1 :=h_c1) (hS_s2 := by exact (le_d 3).trans hS_s2) (h_s2 :=h_s2) (h := hx24)) ?_
  rintro _ _ ⟨rfl,rfl⟩
  refine st 1 tt_ok (en_Entry x25) (fn ta_45) rfl<|rd ?_
  repeat refine rd ?_
  repeat refine rd ?_
  obtain rfl := h_out h
  exact ret_of (rv_cell 1 tt_ok (by kernel_rfl) ta_45 rfl rfl RV.nil) (le_w [true,false,false,false]) ⟨rfl,rfl⟩
 refine rd<|rb<|ld 3 tt_ok (v := .slice g_c1.Tenants.1 c1.Tenants.length g_c1.Tenants.2) ts_27 rfl ?_
 replace h := h_b h; obtain ⟨⟨x28,x29⟩,hx27,h⟩ := h
 refine rc (hc_33 (bt0 := bt0) (g_t0 := g_t0) (t0 := { t0 with At := at20 }) (n1 := (c1.Tenants.length : Int)) (hS_t0 := by exact (le_d 3).trans hS_t0) (h_t0 :=h_t0) (h := hx27)) ?_
 rintro _ _ ⟨rfl,rfl⟩
 refine rd<|rb<|ld 2 tt_ok (v := .slice g_s2.Tenants.1 s2.Tenants.length g_s2.Tenants.2) ts_35 rfl ?_
 replace h := h_b h; obtain ⟨x30,hx31,h⟩ := h
 refine r_el hx31 ((h_s2.1).rd.mono ((le_d 4).trans hS_s2))<|kp [(0,pp bt0 0),(4,pp bq1 0),(5,pp bq2 0),(6,pp bq3 0),(7,ii x11),(8,ii x28),(44,.pointer (some ((adr g_s2.Tenants.1).add (x28.toNat * 12))))] fun fr => r_len (E := eTenantState) tt_ok (en_TenantState x30) (idx_get hx31) ((h_s2.1).rd.mono ((le_d 4).trans hS_s2)) ta_58 rfl (pl0 _ _) (by kernel_rfl) (by kernel_rfl)<|r_al tt_ok (en_TenantState (⟨false,false,0,0,0,0,0,(⟨0,0,0,0,0⟩ : Window)⟩ : TenantState)) ti_58 (by kernel_rfl) fun bq32 => st 0 tt_ok (en_TenantState x30) (fn ta_58) rfl<|rd<|rb<|rb<|ld 0 tt_ok (v := .bool x30.Placed) ts_4 rfl<|rd ?_
 apply r_iteh h<;>clear h<;>intro h
 ·refine rb<|rc (hc_43 (kind0 := 1) (tick1 := x11)) ?_
  rintro _ _ ⟨rfl,rfl⟩
  refine r_al tt_ok (en_Entry (⟨0,0,0,0,0,0,0,0,0⟩ : Entry)) ti_45 (by kernel_rfl) fun bq34 => kp [(0,pp bt0 0),(4,pp bq1 0),(6,pp bq3 0),(8,ii x28),(10,pp bq34 0),(50,.agg (en_Entry (cellplanemake_none 1 x11)).toArray)] fun fr => st 0 tt_ok (en_Entry (cellplanemake_none 1 x11)) (fn ta_45) rfl<|rd<|rb<|st 0 tt_ok (en_Entry ({ (cellplanemake_none 1 x11) with Tenant := x28 })) (f1 ts_3) rfl<|rd<|rb<|ln 5 tt_ok (en_Config c1 g_c1) ta_30 rfl ?_
  replace h := h_b h; obtain ⟨xs36,hx35,h⟩ := h
  refine rc (hc_45 (g_c0 := g_c1) (c0 := c1) (tenant1 := x28) (hS_c0 := by exact (le_d 6).trans hS_c1) (h_c0 :=h_c1) (h := hx35)) ?_
  rintro _ _ ⟨A37,c38,rfl,rfl⟩
  refine r_le (le_mv 3) ?_
  replace h := h_b h; obtain ⟨⟨x41,x42⟩,hx40,h⟩ := h
  refine rc (hc_44 (bt0 := bt0) (g_t0 := g_t0) (t0 := { t0 with At := x29 }) (A_l1 := A37) (c_l1 := c38) (l1 := xs36) (hS_t0 := by exact (le_d 6).trans hS_t0) (h_t0 :=h_t0) (hS_l1 := by exact Le.refl _) (h_l1 := by exact sl_row 0 rfl) (h := hx40)) ?_
  rintro _ _ ⟨rfl,rfl⟩
  refine kp [(0,pp bt0 0),(4,pp bq1 0),(6,pp bq3 0),(8,ii x28),(10,pp bq34 0),(57,ii x41)] fun fr => st 2 tt_ok (en_Entry ({ (cellplanemake_none 1 x11) with Tenant := x28,Cell := mx 0 x41 })) (f1 ts_3) rfl<|rd<|rb<|ln 6 tt_ok (en_Config c1 g_c1) ta_30 rfl<|ld 2 tt_ok (v := ii (mx 0 x41)) ts_3 rfl ?_
  replace h := h_b h; obtain ⟨xs44,hx43,h⟩ := h
  refine rc (hc_46 (g_c0 := g_c1) (c0 := c1) (tenant1 := x28) (home2 := mx 0 x41) (hS_c0 := by exact (le_d 7).trans hS_c1) (h_c0 :=h_c1) (h := hx43)) ?_
  rintro _ _ ⟨A45,c46,rfl,rfl⟩
  refine kp [(6,pp bq3 0),(10,pp bq34 0),(60,pp bt0 0),(65,.slice A45 xs44.length c46)] fun fr => r_le (le_mv 1) ?_
  replace h := h_b h; obtain ⟨⟨x49,x50⟩,hx48,h⟩ := h
  refine rc (hc_44 (bt0 := bt0) (g_t0 := g_t0) (t0 := { t0 with At := x42 }) (A_l1 := A45) (c_l1 := c46) (l1 := xs44) (hS_t0 := by exact (le_d 7).trans hS_t0) (h_t0 :=h_t0) (hS_l1 := by exact Le.refl _) (h_l1 := by exact sl_row 0 rfl) (h := hx48)) ?_
  rintro _ _ ⟨rfl,rfl⟩
  refine st 3 tt_ok (en_Entry ({ (cellplanemake_none 1 x11) with Tenant := x28,Cell := mx 0 x41,Other := x49 })) (f1 ts_3) rfl<|rd<|rb<|ln 3 tt_ok (en_Entry ({ (cellplanemake_none 1 x11) with Tenant := x28,Cell := mx 0 x41,Other := x49 })) ta_45 rfl<|st 5 tt_ok (en_Entry ({ (cellplanemake_none 1 x11) with Tenant := x28,Cell := mx 0 x41,Other := x49 })) (fn ta_45) rfl<|rd ?_
  repeat refine rd ?_
  repeat refine rd ?_
  obtain rfl := h_out h
  exact ret_of (rv_cell 5 tt_ok (by kernel_rfl) ta_45 rfl rfl RV.nil) (le_w [true,false,false,false,false,false,false,false]) ⟨rfl,rfl⟩
 refine rd<|rb<|rc (hc_43 (kind0 := 2) (tick1 := x11)) ?_
 rintro _ _ ⟨rfl,rfl⟩
 refine r_al tt_ok (en_Entry (⟨0,0,0,0,0,0,0,0,0⟩ : Entry)) ti_45 (by kernel_rfl) fun bq51 => kp [(0,pp bt0 0),(4,pp bq1 0),(5,pp bq2 0),(6,pp bq3 0),(8,ii x28),(9,pp bq32 0),(11,pp bq51 0),(70,.agg (en_Entry (cellplanemake_none 2 x11)).toArray)] fun fr => st 0 tt_ok (en_Entry (cellplanemake_none 2 x11)) (fn ta_45) rfl<|rd<|rb<|st 0 tt_ok (en_Entry ({ (cellplanemake_none 2 x11) with Tenant := x28 })) (f1 ts_3) rfl<|rd<|rb<|rb<|r_le (le_mv 2) ?_
 replace h := h_b h; obtain ⟨⟨x53,x54⟩,hx52,h⟩ := h
 refine rc (hc_33 (bt0 := bt0) (g_t0 := g_t0) (t0 := { t0 with At := x29 }) (n1 := 12) (hS_t0 := by exact (le_d 5).trans hS_t0) (h_t0 :=h_t0) (h := hx52)) ?_
 rintro _ _ ⟨rfl,rfl⟩
 refine rd<|rb<|rb<|rd ?_
 apply r_iteh h<;>clear h<;>intro h
 ·refine r_mix tt_ok hm_ok _ _ [] (.pure 0 (.vb 1 (.pure 2 (.pure 3 (.eff 4 (.pure 5 (.eff 6 .nil))))))) (le_w [true,false,true,true,true,true]) (le_w [true,false,true,true,true,true]) ?_ ?_
  ·decide +kernel
  refine x_p rfl<|vd<|xp [(6,pp bq3 0),(11,pp bq51 0),(82,pp bq32 6)] fun fr => x_vb rfl<|vl 1 tt_ok (v := ii x30.Epoch) ts_3 rfl<|vd<|x_p rfl<|vd<|x_p rfl<|vd<|x_e rfl<|st 1 tt_ok (en_Entry ({ (cellplanemake_none 2 x11) with Kind := 3,Tenant := x28 })) (f1 ts_3) rfl<|rd ⟨rfl,k_a (le_w [true,false,true,true,true,true]) (le_w [true,false,true,true,true,true]),?_⟩
  refine x_p rfl<|vd<|x_e rfl<|st 1 tt_ok (en_Entry ({ (cellplanemake_none 2 x11) with Kind := 3,Tenant := x28,Epoch := mx 1 x30.Epoch })) (f1 ts_3) rfl<|rd ⟨rfl,k_a (le_w [true,false,true,true,true,true]) (le_w [true,false,true,true,true,true]),?_⟩
  refine xk [(6,pp bq3 0),(11,pp bq51 0)] fun fr => rd<|rd<|rb<|ln 1 tt_ok (en_Entry ({ (cellplanemake_none 2 x11) with Kind := 3,Tenant := x28,Epoch := mx 1 x30.Epoch })) ta_45 rfl<|st 3 tt_ok (en_Entry ({ (cellplanemake_none 2 x11) with Kind := 3,Tenant := x28,Epoch := mx 1 x30.Epoch })) (fn ta_45) rfl<|rd ?_
  repeat refine rd ?_
  repeat refine rd ?_
  obtain rfl := h_out h
  exact ret_of (rv_cell 3 tt_ok (by kernel_rfl) ta_45 rfl rfl RV.nil) (le_w [true,false,false,false,false,false]) ⟨rfl,rfl⟩
 refine rb<|kr [(0,pp bt0 0),(4,pp bq1 0),(5,pp bq2 0),(6,pp bq3 0),(8,ii x28),(9,pp bq32 0),(11,pp bq51 0),(74,ii x53),(87,.bool (decide (x53 = 1)))] fun fr => rd ?_
 apply r_iteh h<;>clear h<;>intro h
 ·refine ln 5 tt_ok (en_Config c1 g_c1) ta_30 rfl<|ld 2 tt_ok (v := ii x30.Home) ts_3 rfl ?_
  replace h := h_b h; obtain ⟨xs58,hx57,h⟩ := h
  refine rc (hc_46 (g_c0 := g_c1) (c0 := c1) (tenant1 := x28) (home2 := x30.Home) (hS_c0 := by exact (le_d 6).trans hS_c1) (h_c0 :=h_c1) (h := hx57)) ?_
  rintro _ _ ⟨A59,c60,rfl,rfl⟩
  refine r_le (le_mv 1) ?_
  replace h := h_b h; obtain ⟨⟨x63,x64⟩,hx62,h⟩ := h
  refine rc (hc_44 (bt0 := bt0) (g_t0 := g_t0) (t0 := { t0 with At := x54 }) (A_l1 := A59) (c_l1 := c60) (l1 := xs58) (hS_t0 := by exact (le_d 6).trans hS_t0) (h_t0 :=h_t0) (hS_l1 := by exact Le.refl _) (h_l1 := by exact sl_row 0 rfl) (h := hx62)) ?_
  rintro _ _ ⟨rfl,rfl⟩
  refine st 2 tt_ok (en_Entry ({ (cellplanemake_none 2 x11) with Kind := 4,Tenant := x28 })) (f1 ts_3) rfl<|kp [(6,pp bq3 0),(11,pp bq51 0),(95,ii x63)] fun fr => st 2 tt_ok (en_Entry ({ (cellplanemake_none 2 x11) with Kind := 4,Tenant := x28,Cell := x63 })) (f1 ts_3) rfl<|rd<|rd<|rb<|ln 2 tt_ok (en_Entry ({ (cellplanemake_none 2 x11) with Kind := 4,Tenant := x28,Cell := x63 })) ta_45 rfl<|st 4 tt_ok (en_Entry ({ (cellplanemake_none 2 x11) with Kind := 4,Tenant := x28,Cell := x63 })) (fn ta_45) rfl<|rd ?_
  repeat refine rd ?_
  repeat refine rd ?_
  obtain rfl := h_out h
  exact ret_of (rv_cell 4 tt_ok (by kernel_rfl) ta_45 rfl rfl RV.nil) (le_w [true,false,false,false,false,false,false]) ⟨rfl,rfl⟩
 refine rb<|rd ?_
 apply r_iteh h<;>clear h<;>intro h
 ·refine r_mix tt_ok hm_ok _ _ [] (.pure 0 (.vb 1 (.pure 2 (.pure 3 (.eff 4 (.pure 5 (.eff 6 .nil))))))) (le_w [true,false,true,true,true,true]) (le_w [true,false,true,true,true,true]) ?_ ?_
  ·decide +kernel
  refine x_p rfl<|vd<|x_vb rfl<|vl 1 tt_ok (v := ii x30.Next) ts_3 rfl<|vd<|x_p rfl<|vd<|x_p rfl<|vd<|x_e rfl<|st 1 tt_ok (en_Entry ({ (cellplanemake_none 2 x11) with Kind := 5,Tenant := x28 })) (f1 ts_3) rfl<|rd ⟨rfl,k_a (le_w [true,false,true,true,true,true]) (le_w [true,false,true,true,true,true]),?_⟩
  refine x_p rfl<|vd<|x_e rfl<|st 1 tt_ok (en_Entry ({ (cellplanemake_none 2 x11) with Kind := 5,Tenant := x28,Cell := mx 0 x30.Next })) (f1 ts_3) rfl<|rd ⟨rfl,k_a (le_w [true,false,true,true,true,true]) (le_w [true,false,true,true,true,true]),?_⟩
  refine xk [(6,pp bq3 0),(11,pp bq51 0)] fun fr => rd<|rd<|rb<|ln 1 tt_ok (en_Entry ({ (cellplanemake_none 2 x11) with Kind := 5,Tenant := x28,Cell := mx 0 x30.Next })) ta_45 rfl<|st 3 tt_ok (en_Entry ({ (cellplanemake_none 2 x11) with Kind := 5,Tenant := x28,Cell := mx 0 x30.Next })) (fn ta_45) rfl<|rd ?_
  repeat refine rd ?_
  repeat refine rd ?_
  obtain rfl := h_out h
  exact ret_of (rv_cell 3 tt_ok (by kernel_rfl) ta_45 rfl rfl RV.nil) (le_w [true,false,false,false,false,false]) ⟨rfl,rfl⟩
 refine rb<|rd ?_
 apply r_iteh h<;>clear h<;>intro h
 ·refine ln 5 tt_ok (en_Config c1 g_c1) ta_30 rfl ?_
  replace h := h_b h; obtain ⟨xs68,hx67,h⟩ := h
  refine rc (hc_45 (g_c0 := g_c1) (c0 := c1) (tenant1 := x28) (hS_c0 := by exact (le_d 6).trans hS_c1) (h_c0 :=h_c1) (h := hx67)) ?_
  rintro _ _ ⟨A69,c70,rfl,rfl⟩
  refine r_le (le_mv 1) ?_
  replace h := h_b h; obtain ⟨⟨x73,x74⟩,hx72,h⟩ := h
  refine rc (hc_44 (bt0 := bt0) (g_t0 := g_t0) (t0 := { t0 with At := x54 }) (A_l1 := A69) (c_l1 := c70) (l1 := xs68) (hS_t0 := by exact (le_d 6).trans hS_t0) (h_t0 :=h_t0) (hS_l1 := by exact Le.refl _) (h_l1 := by exact sl_row 0 rfl) (h := hx72)) ?_
  rintro _ _ ⟨rfl,rfl⟩
  refine kp [(6,pp bq3 0),(11,pp bq51 0),(111,ii x73)] fun fr => st 2 tt_ok (en_Entry ({ (cellplanemake_none 2 x11) with Kind := 6,Tenant := x28 })) (f1 ts_3) rfl<|st 2 tt_ok (en_Entry ({ (cellplanemake_none 2 x11) with Kind := 6,Tenant := x28,Cell := mx 0 x73 })) (f1 ts_3) rfl<|rd<|rd<|rb<|ln 2 tt_ok (en_Entry ({ (cellplanemake_none 2 x11) with Kind := 6,Tenant := x28,Cell := mx 0 x73 })) ta_45 rfl<|st 4 tt_ok (en_Entry ({ (cellplanemake_none 2 x11) with Kind := 6,Tenant := x28,Cell := mx 0 x73 })) (fn ta_45) rfl<|rd ?_
  repeat refine rd ?_
  repeat refine rd ?_
  obtain rfl := h_out h
  exact ret_of (rv_cell 4 tt_ok (by kernel_rfl) ta_45 rfl rfl RV.nil) (le_w [true,false,false,false,false,false,false]) ⟨rfl,rfl⟩
 refine rb<|rd ?_
 apply r_iteh h<;>clear h<;>intro h
 ·refine st 1 tt_ok (en_Entry ({ (cellplanemake_none 2 x11) with Kind := 7,Tenant := x28 })) (f1 ts_3) rfl<|rd<|rd<|rb<|ln 1 tt_ok (en_Entry ({ (cellplanemake_none 2 x11) with Kind := 7,Tenant := x28 })) ta_45 rfl<|kp [(6,pp bq3 0),(125,.agg (en_Entry ({ (cellplanemake_none 2 x11) with Kind := 7,Tenant := x28 })).toArray)] fun fr => st 3 tt_ok (en_Entry ({ (cellplanemake_none 2 x11) with Kind := 7,Tenant := x28 })) (fn ta_45) rfl<|rd ?_
  repeat refine rd ?_
  repeat refine rd ?_
  obtain rfl := h_out h
  exact ret_of (rv_cell 3 tt_ok (by kernel_rfl) ta_45 rfl rfl RV.nil) (le_w [true,false,false,false,false,false]) ⟨rfl,rfl⟩
 refine rb<|rd ?_
 apply r_iteh h<;>clear h<;>intro h
 ·refine rb<|st 1 tt_ok (en_Entry ({ (cellplanemake_none 2 x11) with Kind := 8,Tenant := x28 })) (f1 ts_3) rfl<|kp [(6,pp bq3 0),(9,pp bq32 0),(11,pp bq51 0)] fun fr => st 1 tt_ok (en_Entry ({ (cellplanemake_none 2 x11) with Kind := 8,Tenant := x28,N := 1 })) (f1 ts_3) rfl<|rd<|rb<|ld 2 tt_ok (v := .bool x30.Shed) ts_4 rfl<|rd ?_
  apply r_iteh h<;>clear h<;>intro h
  ·refine st 1 tt_ok (en_Entry ({ (cellplanemake_none 2 x11) with Kind := 8,Tenant := x28,N := 0 })) (f1 ts_3) rfl<|rd<|rd<|rb<|ln 1 tt_ok (en_Entry ({ (cellplanemake_none 2 x11) with Kind := 8,Tenant := x28,N := 0 })) ta_45 rfl<|st 3 tt_ok (en_Entry ({ (cellplanemake_none 2 x11) with Kind := 8,Tenant := x28,N := 0 })) (fn ta_45) rfl<|rd ?_
   repeat refine rd ?_
   repeat refine rd ?_
   obtain rfl := h_out h
   exact ret_of (rv_cell 3 tt_ok (by kernel_rfl) ta_45 rfl rfl RV.nil) (le_w [true,false,false,false,false,false]) ⟨rfl,rfl⟩
  refine rd<|rd<|rb<|ln 1 tt_ok (en_Entry ({ (cellplanemake_none 2 x11) with Kind := 8,Tenant := x28,N := 1 })) ta_45 rfl<|st 3 tt_ok (en_Entry ({ (cellplanemake_none 2 x11) with Kind := 8,Tenant := x28,N := 1 })) (fn ta_45) rfl<|rd ?_
  repeat refine rd ?_
  repeat refine rd ?_
  obtain rfl := h_out h
  exact ret_of (rv_cell 3 tt_ok (by kernel_rfl) ta_45 rfl rfl RV.nil) (le_w [true,false,false,false,false,false]) ⟨rfl,rfl⟩
 refine rb<|ln 5 tt_ok (en_Config c1 g_c1) ta_30 rfl<|kp [(5,pp bq2 0),(6,pp bq3 0),(11,pp bq51 0),(75,pp bt0 0),(76,.agg (en_Config c1 g_c1).toArray)] fun fr => ln 4 tt_ok (en_State s2 g_s2) ta_38 rfl<|ln 1 tt_ok (en_Entry ({ (cellplanemake_none 2 x11) with Tenant := x28 })) ta_45 rfl ?_
 replace h := h_b h; obtain ⟨⟨x79,x80⟩,hx78,h⟩ := h
 refine rc (hc_47 (bt0 := bt0) (g_t0 := g_t0) (t0 := { t0 with At := x54 }) (g_c1 := g_c1) (c1 := c1) (g_s2 := g_s2) (s2 := s2) (e3 := { (cellplanemake_none 2 x11) with Tenant := x28 }) (hS_t0 := by exact (le_d 5).trans hS_t0) (h_t0 :=h_t0) (hS_c1 := by exact (le_d 5).trans hS_c1) (h_c1 :=h_c1) (hS_s2 := by exact (le_d 5).trans hS_s2) (h_s2 :=h_s2) (h := hx78)) ?_
 rintro _ _ ⟨rfl,rfl⟩
 refine st 3 tt_ok (en_Entry x79) (fn ta_45) rfl<|rd ?_
 repeat refine rd ?_
 repeat refine rd ?_
 obtain rfl := h_out h
 exact ret_of (rv_cell 3 tt_ok (by kernel_rfl) ta_45 rfl rfl RV.nil) (le_w [true,false,false,false,false,false]) ⟨rfl,rfl⟩
theorem hc_94   (n0 : Int) (low1 : Int) (high2 : Int)   : HC Tryz.prog 94 #[ii n0,ii low1,ii high2] ⟨ρ,L⟩ (fun v S' => v = .bool (cellplaneref06_in n0 low1 high2) ∧ S' = ⟨ρ,L⟩) := by
 generalize h : cellplaneref06_in n0 low1 high2 = r
 unfold cellplaneref06_in at h
 refine HC.intro (N := 15) (args := [_,_,_]) tt_ok Tryz.func94 rfl (by decide +kernel) rfl (Nat.le_of_ble_eq_true rfl)<|rb<|rd<|rb<|r_meet (fun fr S => ∃ fr0,fr = updL [(6,.bool ((decide (low1 ≤ n0)) && (decide (n0 ≤ high2))))] fr0 ∧ S = ⟨ρ,L⟩) ?_ ?_
 ·refine r_ite (fun (hb1 : (decide (low1 ≤ n0)) = true) => ?_) (fun (hb1 : (decide (low1 ≤ n0)) = false) => ?_)
  ·exact kp [(2,ii high2),(6,.bool false),(10,.bool true),(11,ii n0)] fun fr => r_T rfl<|r_T rfl<|rd ⟨_,fr_eq _ (by (try rw [hb1]); kernel_rfl),by kernel_rfl⟩
  exact kp [(2,ii high2),(6,.bool false),(10,.bool false),(11,undef)] fun fr => r_F rfl<|r_F rfl<|r_F rfl<|rd ⟨_,fr_eq _ (by (try rw [hb1]); kernel_rfl),by kernel_rfl⟩
 rintro fr S ⟨fr,rfl,rfl⟩
 refine rd ?_
 repeat refine rd ?_
 repeat refine rd ?_
 subst h
 exact ret_of (RV.tmp RV.nil) (Le.refl _) ⟨rfl,rfl⟩
theorem hc_127   (kind0 : Int)  {r : ByteArray} (h : cellplaneref06_uses kind0 = some r) : HC Tryz.prog 127 #[ii kind0] ⟨ρ,L⟩ (fun v S' => v = .string r ∧ S' = ⟨ρ,L⟩) := by
 replace h := h_in h
 refine HC.intro (N := 17) (args := [_]) tt_ok Tryz.func127 rfl (by decide +kernel) rfl (Nat.le_of_ble_eq_true rfl)<|rb<|rd<|rb<|r_bs tt_ok (fl eStr.en [(⟨#[]⟩ : ByteArray),(⟨#[116,99,111]⟩ : ByteArray),(⟨#[116,99,101,119,118]⟩ : ByteArray),(⟨#[116,101]⟩ : ByteArray),(⟨#[116,67]⟩ : ByteArray),(⟨#[116,99]⟩ : ByteArray),(⟨#[116,99]⟩ : ByteArray),(⟨#[116]⟩ : ByteArray),(⟨#[116,98]⟩ : ByteArray),(⟨#[99,109]⟩ : ByteArray),(⟨#[99,118]⟩ : ByteArray),(⟨#[99,118]⟩ : ByteArray),(⟨#[118]⟩ : ByteArray),(⟨#[114,98]⟩ : ByteArray),(⟨#[]⟩ : ByteArray),(⟨#[]⟩ : ByteArray),(⟨#[110]⟩ : ByteArray)]) te_128 ti_9 (by kernel_rfl) (by kernel_rfl) (by kernel_rfl) (by kernel_rfl) fun bq1 => rd<|rb<|rb<|r_meet (fun fr S => ∃ fr0,fr = updL [(0,ii kind0),(3,.slice (some ⟨bq1,0,none⟩) [(⟨#[]⟩ : ByteArray),(⟨#[116,99,111]⟩ : ByteArray),(⟨#[116,99,101,119,118]⟩ : ByteArray),(⟨#[116,101]⟩ : ByteArray),(⟨#[116,67]⟩ : ByteArray),(⟨#[116,99]⟩ : ByteArray),(⟨#[116,99]⟩ : ByteArray),(⟨#[116]⟩ : ByteArray),(⟨#[116,98]⟩ : ByteArray),(⟨#[99,109]⟩ : ByteArray),(⟨#[99,118]⟩ : ByteArray),(⟨#[99,118]⟩ : ByteArray),(⟨#[118]⟩ : ByteArray),(⟨#[114,98]⟩ : ByteArray),(⟨#[]⟩ : ByteArray),(⟨#[]⟩ : ByteArray),(⟨#[110]⟩ : ByteArray)].length 17),(12,.bool ((decide (kind0 < 1)) || (decide (([(⟨#[]⟩ : ByteArray),(⟨#[116,99,111]⟩ : ByteArray),(⟨#[116,99,101,119,118]⟩ : ByteArray),(⟨#[116,101]⟩ : ByteArray),(⟨#[116,67]⟩ : ByteArray),(⟨#[116,99]⟩ : ByteArray),(⟨#[116,99]⟩ : ByteArray),(⟨#[116]⟩ : ByteArray),(⟨#[116,98]⟩ : ByteArray),(⟨#[99,109]⟩ : ByteArray),(⟨#[99,118]⟩ : ByteArray),(⟨#[99,118]⟩ : ByteArray),(⟨#[118]⟩ : ByteArray),(⟨#[114,98]⟩ : ByteArray),(⟨#[]⟩ : ByteArray),(⟨#[]⟩ : ByteArray),(⟨#[110]⟩ : ByteArray)].length : Int) ≤ kind0))))] fr0 ∧ S = ⟨ρ,.row (some ⟨bq1,0,none⟩) [(⟨#[]⟩ : ByteArray),(⟨#[116,99,111]⟩ : ByteArray),(⟨#[116,99,101,119,118]⟩ : ByteArray),(⟨#[116,101]⟩ : ByteArray),(⟨#[116,67]⟩ : ByteArray),(⟨#[116,99]⟩ : ByteArray),(⟨#[116,99]⟩ : ByteArray),(⟨#[116]⟩ : ByteArray),(⟨#[116,98]⟩ : ByteArray),(⟨#[99,109]⟩ : ByteArray),(⟨#[99,118]⟩ : ByteArray),(⟨#[99,118]⟩ : ByteArray),(⟨#[118]⟩ : ByteArray),(⟨#[114,98]⟩ : ByteArray),(⟨#[]⟩ : ByteArray),(⟨#[]⟩ : ByteArray),(⟨#[110]⟩ : ByteArray)].length 17 9 1 (fl eStr.en [(⟨#[]⟩ : ByteArray),(⟨#[116,99,111]⟩ : ByteArray),(⟨#[116,99,101,119,118]⟩ : ByteArray),(⟨#[116,101]⟩ : ByteArray),(⟨#[116,67]⟩ : ByteArray),(⟨#[116,99]⟩ : ByteArray),(⟨#[116,99]⟩ : ByteArray),(⟨#[116]⟩ : ByteArray),(⟨#[116,98]⟩ : ByteArray),(⟨#[99,109]⟩ : ByteArray),(⟨#[99,118]⟩ : ByteArray),(⟨#[99,118]⟩ : ByteArray),(⟨#[118]⟩ : ByteArray),(⟨#[114,98]⟩ : ByteArray),(⟨#[]⟩ : ByteArray),(⟨#[]⟩ : ByteArray),(⟨#[110]⟩ : ByteArray)]) :: L⟩) ?_ ?_
 ·refine r_ite (fun (hb2 : (decide (kind0 < 1)) = true) => ?_) (fun (hb2 : (decide (kind0 < 1)) = false) => ?_)
  ·exact kp [(0,ii kind0),(3,.slice (some ⟨bq1,0,none⟩) [(⟨#[]⟩ : ByteArray),(⟨#[116,99,111]⟩ : ByteArray),(⟨#[116,99,101,119,118]⟩ : ByteArray),(⟨#[116,101]⟩ : ByteArray),(⟨#[116,67]⟩ : ByteArray),(⟨#[116,99]⟩ : ByteArray),(⟨#[116,99]⟩ : ByteArray),(⟨#[116]⟩ : ByteArray),(⟨#[116,98]⟩ : ByteArray),(⟨#[99,109]⟩ : ByteArray),(⟨#[99,118]⟩ : ByteArray),(⟨#[99,118]⟩ : ByteArray),(⟨#[118]⟩ : ByteArray),(⟨#[114,98]⟩ : ByteArray),(⟨#[]⟩ : ByteArray),(⟨#[]⟩ : ByteArray),(⟨#[110]⟩ : ByteArray)].length 17),(7,.bool true),(8,undef)] fun fr => r_T rfl<|r_T rfl<|r_T rfl<|r_T rfl<|rd ⟨_,fr_eq _ (by (try rw [hb2]); kernel_rfl),by kernel_rfl⟩
  exact kp [(0,ii kind0),(3,.slice (some ⟨bq1,0,none⟩) [(⟨#[]⟩ : ByteArray),(⟨#[116,99,111]⟩ : ByteArray),(⟨#[116,99,101,119,118]⟩ : ByteArray),(⟨#[116,101]⟩ : ByteArray),(⟨#[116,67]⟩ : ByteArray),(⟨#[116,99]⟩ : ByteArray),(⟨#[116,99]⟩ : ByteArray),(⟨#[116]⟩ : ByteArray),(⟨#[116,98]⟩ : ByteArray),(⟨#[99,109]⟩ : ByteArray),(⟨#[99,118]⟩ : ByteArray),(⟨#[99,118]⟩ : ByteArray),(⟨#[118]⟩ : ByteArray),(⟨#[114,98]⟩ : ByteArray),(⟨#[]⟩ : ByteArray),(⟨#[]⟩ : ByteArray),(⟨#[110]⟩ : ByteArray)].length 17),(7,.bool false),(8,ii kind0)] fun fr => r_F rfl<|r_F rfl<|r_F rfl<|rd ⟨_,fr_eq _ (by (try rw [hb2]); kernel_rfl),by kernel_rfl⟩
 rintro fr S ⟨fr,rfl,rfl⟩
 refine rd ?_
 apply r_iteh h<;>clear h<;>intro h
 ·refine rb<|rd ?_
  repeat refine rd ?_
  repeat refine rd ?_
  obtain rfl := h_out h
  exact ret_of (RV.tmp RV.nil) (le_w [false]) ⟨rfl,rfl⟩
 refine rd<|rb ?_
 replace h := h_b h; obtain ⟨x4,hx5,h⟩ := h
 refine r_el hx5 (rd_row 0 rfl)<|r_lec (E := eStr) tt_ok (v := .string x4) (idx_get hx5) (rd_row 0 rfl) ts_9 rfl (pl0 _ _) (by kernel_rfl)<|rd ?_
 repeat refine rd ?_
 repeat refine rd ?_
 obtain rfl := h_out h
 exact ret_of (RV.tmp RV.nil) (le_w [false]) ⟨rfl,rfl⟩
theorem hc_117   (kind0 : Int) (what1 : Int)  {r : Bool} (h : cellplaneref06_has kind0 what1 = some r) : HC Tryz.prog 117 #[ii kind0,.int .u8 what1] ⟨ρ,L⟩ (fun v S' => v = .bool r ∧ S' = ⟨ρ,L⟩) := by
 replace h := h_in h
 refine HC.intro (N := 20) (args := [_,_]) tt_ok Tryz.func117 rfl (by decide +kernel) rfl (Nat.le_of_ble_eq_true rfl)<|rb<|rd<|rb ?_
 replace h := h_b h; obtain ⟨x2,hx1,h⟩ := h
 refine rc (hc_127 (kind0 := kind0) (h := hx1)) ?_
 rintro _ _ ⟨rfl,rfl⟩
 refine rd<|rb<|rb<|rd<|rb ?_
 replace h := h_l h; obtain ⟨K18,n19,h,hK20⟩ := h
 refine r_loop (fun n fr S => ∃ (x13 : Int),∃ fr0,(runN (cellplaneref06_has.b1 x2 what1) n x13).bind K18 = some r ∧ fr = updL [(1,.int .u8 what1),(5,.string x2),(6,ii x13)] fr0 ∧ S = ⟨ρ,L⟩) n19 ⟨0,_,h,fe _,by kernel_rfl⟩ ?_
 clear h
 rintro n19 fr S ⟨x13,fr,h,rfl,rfl⟩
 replace h := h_r h; obtain ⟨m21,hm21,h⟩ := h
 refine rb<|rb<|rd ?_
 apply r_iteh h<;>clear h<;>intro h
 ·refine rd<|rb<|rb<|rb ?_
  replace h := h_b h; obtain ⟨x15,hx16,h⟩ := h
  refine r_bi tt_ok rfl hx16<|kr [(1,.int .u8 what1),(5,.string x2),(6,ii x13),(19,.bool (decide (x15 = what1)))] fun fr => rd ?_
  apply r_iteh h<;>clear h<;>intro h
  ·refine rb<|rd ?_
   repeat refine rd ?_
   replace h := h_m h
   subst hK20
   repeat refine rd ?_
   obtain rfl := h_out h
   exact ret_of (RV.tmp RV.nil) (Le.refl _) ⟨rfl,rfl⟩
  exact rd<|rd<|r_num (e' := w64 (x13 + 1)) rfl<|rd ⟨m21,lt_s hm21,w64 (x13 + 1),_,h,fe _,by kernel_rfl⟩
 refine rd<|rd ?_
 replace h := h_m h
 subst hK20
 refine rd<|rb<|rd ?_
 repeat refine rd ?_
 repeat refine rd ?_
 obtain rfl := h_out h
 exact ret_of (RV.tmp RV.nil) (Le.refl _) ⟨rfl,rfl⟩
theorem hc_95   (e0 : Entry) (tenants1 : Int) (cells2 : Int) (regions3 : Int)  {r : Bool} (h : cellplaneref06_places e0 tenants1 cells2 regions3 = some r) : HC Tryz.prog 95 #[.agg (en_Entry e0).toArray,ii tenants1,ii cells2,ii regions3] ⟨ρ,L⟩ (fun v S' => v = .bool r ∧ S' = ⟨ρ,L⟩) := by
 replace h := h_in h
 refine HC.intro (N := 105) (args := [_,_,_,_]) tt_ok Tryz.func95 rfl (by decide +kernel) rfl (Nat.le_of_ble_eq_true rfl)<|rb<|r_bx (en_Entry e0) (by kernel_rfl) fun bq1 => rd<|rb<|ld 0 tt_ok (v := ii e0.Kind) ts_3 rfl<|rd<|rb<|rb ?_
 replace h := h_j h; obtain ⟨K9,h,hK10⟩ := h
 refine r_meet (fun fr S => ∃ (x8 : Bool),∃ fr0,K9 x8 = some r ∧ fr = updL [(2,ii cells2),(3,ii regions3),(4,pp bq1 0),(9,ii e0.Kind),(29,.bool x8)] fr0 ∧ S = ⟨ρ,.obj bq1 (en_Entry e0) 45 :: L⟩) ?_ ?_
 refine r_mix tt_ok hm_ok _ _ [] (.pure 0 (.pure 2 (.vb 3 (.pure 4 (.eff 1 (.pure 5 (.pure 6 (.pure 7 (.eff 8 (.pure 9 (.pure 10 (.vb 11 (.pure 12 (.pure 13 (.eff 14 (.pure 15 (.pure 16 (.pure 17 .nil)))))))))))))))))) (le_w [true]) (le_w [true]) ?_ ?_
 ·decide +kernel
 refine x_p rfl<|vd<|x_p rfl<|vd<|x_vb rfl<|vl 0 tt_ok (v := ii e0.Tenant) ts_3 rfl<|vd<|x_p rfl<|vd<|x_e rfl ?_
 replace h := h_b h; obtain ⟨x3,hx2,h⟩ := h
 refine rc (hc_117 (kind0 := e0.Kind) (what1 := 116) (h := hx2)) ?_
 rintro _ _ ⟨rfl,rfl⟩
 refine rd ⟨rfl,k_a (le_w [true]) (le_w [true]),?_⟩
 refine x_p rfl<|v_op (fun w => ex_neb tt_ok rfl rfl rfl rfl w)<|vd<|xp [(1,ii tenants1),(2,ii cells2),(3,ii regions3),(4,pp bq1 0),(9,ii e0.Kind),(17,.bool (!(x3 == (!decide (e0.Tenant = (-1))))))] fun fr => x_p rfl<|vd<|x_p rfl ?_
 apply v_iteh h<;>clear h<;>intro h
 ·refine vd<|x_e rfl<|r_T rfl<|rd ⟨rfl,k_a (le_w [true]) (le_w [true]),?_⟩
  refine x_p rfl<|v_T rfl<|vd<|x_p rfl<|vd<|x_vb rfl<|vd<|x_p rfl<|vd<|x_p rfl<|vd<|x_e rfl<|rd ⟨rfl,k_a (le_w [true]) (le_w [true]),?_⟩
  exact xp [(2,ii cells2),(3,ii regions3),(4,pp bq1 0),(9,ii e0.Kind),(18,.bool true),(21,undef),(26,undef)] fun fr => x_p rfl<|vd<|x_p rfl<|v_T rfl<|vd<|x_p rfl<|v_T rfl<|vd<|xk [(2,ii cells2),(3,ii regions3),(4,pp bq1 0),(9,ii e0.Kind),(29,.bool true)] fun fr => rd ⟨true,_,h,fe _,by kernel_rfl⟩
 refine vd<|x_e rfl<|r_F rfl ?_
 replace h := h_b h; obtain ⟨x6,hx5,h⟩ := h
 refine rc (hc_117 (kind0 := e0.Kind) (what1 := 116) (h := hx5)) ?_
 rintro _ _ ⟨rfl,rfl⟩
 refine rd ⟨rfl,k_a (le_w [true]) (le_w [true]),?_⟩
 refine x_p rfl<|v_F rfl<|vd<|x_p rfl ?_
 apply v_iteh h<;>clear h<;>intro h
 ·refine vd<|x_vb rfl<|v_T rfl<|vl 0 tt_ok (v := ii e0.Tenant) ts_3 rfl<|vd<|x_p rfl<|v_T rfl<|vd<|x_p rfl<|v_T rfl<|v_num (e' := w64 (tenants1 - 1)) rfl<|vd<|x_e rfl ?_
  refine r_T rfl<|rc (hc_94 (n0 := e0.Tenant) (low1 := 0) (high2 := w64 (tenants1 - 1))) ?_
  rintro _ _ ⟨rfl,rfl⟩
  refine rd ⟨rfl,k_a (le_w [true]) (le_w [true]),?_⟩
  exact xp [(2,ii cells2),(3,ii regions3),(4,pp bq1 0),(9,ii e0.Kind),(18,.bool false),(21,.bool true),(26,.bool (cellplaneref06_in e0.Tenant 0 (w64 (tenants1 - 1))))] fun fr => x_p rfl<|v_T rfl<|vd<|x_p rfl<|v_F rfl<|vd<|x_p rfl<|vd<|xk [(2,ii cells2),(3,ii regions3),(4,pp bq1 0),(9,ii e0.Kind),(29,.bool (!(cellplaneref06_in e0.Tenant 0 (w64 (tenants1 - 1)))))] fun fr => rd ⟨!(cellplaneref06_in e0.Tenant 0 (w64 (tenants1 - 1))),_,h,fe _,by kernel_rfl⟩
 refine vd<|x_vb rfl<|v_F rfl<|vd<|x_p rfl<|v_F rfl<|vd<|x_p rfl<|v_F rfl<|vd<|x_e rfl<|r_F rfl<|rd ⟨rfl,k_a (le_w [true]) (le_w [true]),?_⟩
 exact xp [(2,ii cells2),(3,ii regions3),(4,pp bq1 0),(9,ii e0.Kind),(18,.bool false),(21,.bool false),(26,undef)] fun fr => x_p rfl<|v_F rfl<|vd<|x_p rfl<|v_F rfl<|v_F rfl<|vd<|x_p rfl<|vd<|xk [(2,ii cells2),(3,ii regions3),(4,pp bq1 0),(9,ii e0.Kind),(29,.bool false)] fun fr => rd ⟨false,_,h,fe _,by kernel_rfl⟩
 clear h
 rintro fr S ⟨x8,fr,h,rfl,rfl⟩
 replace h := hK10 _ h
 refine rd ?_
 apply r_iteh h<;>clear h<;>intro h
 ·refine rb<|rd ?_
  repeat refine rd ?_
  repeat refine rd ?_
  obtain rfl := h_out h
  exact ret_of (RV.tmp RV.nil) (le_w [false]) ⟨rfl,rfl⟩
 refine rd<|rb<|rb<|rb ?_
 replace h := h_j h; obtain ⟨K36,h,hK37⟩ := h
 refine r_meet (fun fr S => ∃ (x35 : Bool),∃ fr0,K36 x35 = some r ∧ fr = updL [(2,ii cells2),(3,ii regions3),(4,pp bq1 0),(9,ii e0.Kind),(30,.bool x35)] fr0 ∧ S = ⟨ρ,.obj bq1 (en_Entry e0) 45 :: L⟩) ?_ ?_
 ·refine rb ?_
  replace h := h_j h; obtain ⟨K16,h,hK17⟩ := h
  refine r_meet (fun fr S => ∃ (x15 : Bool),∃ fr0,K16 x15 = some r ∧ fr = updL [(2,ii cells2),(3,ii regions3),(4,pp bq1 0),(9,ii e0.Kind),(30,.bool x15)] fr0 ∧ S = ⟨ρ,.obj bq1 (en_Entry e0) 45 :: L⟩) ?_ ?_
  ·replace h := h_b h; obtain ⟨x13,hx12,h⟩ := h
   refine rc (hc_117 (kind0 := e0.Kind) (what1 := 99) (h := hx12)) ?_
   rintro _ _ ⟨rfl,rfl⟩
   refine kp [(2,ii cells2),(3,ii regions3),(4,pp bq1 0),(9,ii e0.Kind),(32,.bool x13)] fun fr => ?_
   apply r_iteh h<;>clear h<;>intro h
   ·refine r_T rfl<|ld 0 tt_ok (v := ii e0.Cell) ts_3 rfl<|r_T rfl<|r_T rfl<|r_num (e' := w64 (cells2 - 1)) rfl<|r_T rfl<|rc (hc_94 (n0 := e0.Cell) (low1 := 0) (high2 := w64 (cells2 - 1))) ?_
    rintro _ _ ⟨rfl,rfl⟩
    exact r_T rfl<|kr [(2,ii cells2),(3,ii regions3),(4,pp bq1 0),(9,ii e0.Kind),(30,.bool (!(cellplaneref06_in e0.Cell 0 (w64 (cells2 - 1)))))] fun fr => rd ⟨!(cellplaneref06_in e0.Cell 0 (w64 (cells2 - 1))),_,h,fe _,by kernel_rfl⟩
   exact r_F rfl<|r_F rfl<|r_F rfl<|r_F rfl<|r_F rfl<|r_F rfl<|kr [(2,ii cells2),(3,ii regions3),(4,pp bq1 0),(9,ii e0.Kind),(30,.bool false)] fun fr => rd ⟨false,_,h,fe _,by kernel_rfl⟩
  clear h
  rintro fr S ⟨x15,fr,h,rfl,rfl⟩
  replace h := hK17 _ h
  refine rd ?_
  apply r_iteh h<;>clear h<;>intro h
  ·exact rd ⟨true,_,h,fe _,by kernel_rfl⟩
  refine rb ?_
  replace h := h_j h; obtain ⟨K23,h,hK24⟩ := h
  refine r_meet (fun fr S => ∃ (x22 : Bool),∃ fr0,K23 x22 = some r ∧ fr = updL [(2,ii cells2),(3,ii regions3),(4,pp bq1 0),(9,ii e0.Kind),(30,.bool x22)] fr0 ∧ S = ⟨ρ,.obj bq1 (en_Entry e0) 45 :: L⟩) ?_ ?_
  ·replace h := h_b h; obtain ⟨x20,hx19,h⟩ := h
   refine rc (hc_117 (kind0 := e0.Kind) (what1 := 67) (h := hx19)) ?_
   rintro _ _ ⟨rfl,rfl⟩
   refine kp [(2,ii cells2),(3,ii regions3),(4,pp bq1 0),(9,ii e0.Kind),(30,.bool false),(42,.bool x20)] fun fr => ?_
   apply r_iteh h<;>clear h<;>intro h
   ·refine r_T rfl<|ld 0 tt_ok (v := ii e0.Cell) ts_3 rfl<|r_T rfl<|r_T rfl<|r_num (e' := w64 (cells2 - 1)) rfl<|r_T rfl<|rc (hc_94 (n0 := e0.Cell) (low1 := (-1)) (high2 := w64 (cells2 - 1))) ?_
    rintro _ _ ⟨rfl,rfl⟩
    exact r_T rfl<|kr [(2,ii cells2),(3,ii regions3),(4,pp bq1 0),(9,ii e0.Kind),(30,.bool (!(cellplaneref06_in e0.Cell (-1) (w64 (cells2 - 1)))))] fun fr => rd ⟨!(cellplaneref06_in e0.Cell (-1) (w64 (cells2 - 1))),_,h,fe _,by kernel_rfl⟩
   exact r_F rfl<|r_F rfl<|r_F rfl<|r_F rfl<|r_F rfl<|r_F rfl<|kr [(2,ii cells2),(3,ii regions3),(4,pp bq1 0),(9,ii e0.Kind),(30,.bool false)] fun fr => rd ⟨false,_,h,fe _,by kernel_rfl⟩
  clear h
  rintro fr S ⟨x22,fr,h,rfl,rfl⟩
  replace h := hK24 _ h
  refine rd ?_
  apply r_iteh h<;>clear h<;>intro h
  ·exact rd ⟨true,_,h,fe _,by kernel_rfl⟩
  replace h := h_j h; obtain ⟨K33,h,hK34⟩ := h
  refine r_meet (fun fr S => ∃ (x32 : Bool),∃ fr0,K33 x32 = some r ∧ fr = updL [(2,ii cells2),(3,ii regions3),(4,pp bq1 0),(9,ii e0.Kind),(30,.bool x32)] fr0 ∧ S = ⟨ρ,.obj bq1 (en_Entry e0) 45 :: L⟩) ?_ ?_
  ·replace h := h_b h; obtain ⟨x27,hx26,h⟩ := h
   refine rc (hc_117 (kind0 := e0.Kind) (what1 := 99) (h := hx26)) ?_
   rintro _ _ ⟨rfl,rfl⟩
   refine kp [(2,ii cells2),(3,ii regions3),(4,pp bq1 0),(9,ii e0.Kind),(30,.bool false),(52,.bool x27)] fun fr => ?_
   apply r_iteh h<;>clear h<;>intro h
   ·refine r_T rfl ?_
    replace h := h_b h; obtain ⟨x30,hx29,h⟩ := h
    refine rc (hc_117 (kind0 := e0.Kind) (what1 := 67) (h := hx29)) ?_
    rintro _ _ ⟨rfl,rfl⟩
    refine r_T rfl ?_
    apply r_iteh h<;>clear h<;>intro h
    ·exact r_T rfl<|ld 0 tt_ok (v := ii e0.Cell) ts_3 rfl<|kp [(2,ii cells2),(3,ii regions3),(4,pp bq1 0),(9,ii e0.Kind),(30,.bool false),(59,.bool true),(61,ii e0.Cell)] fun fr => r_T rfl<|rd ⟨!decide (e0.Cell = (-1)),_,h,fe _,by kernel_rfl⟩
    exact r_F rfl<|kp [(2,ii cells2),(3,ii regions3),(4,pp bq1 0),(9,ii e0.Kind),(30,.bool false),(59,.bool false),(61,undef)] fun fr => r_F rfl<|r_F rfl<|rd ⟨false,_,h,fe _,by kernel_rfl⟩
   exact r_F rfl<|r_F rfl<|r_F rfl<|r_F rfl<|r_F rfl<|kp [(2,ii cells2),(3,ii regions3),(4,pp bq1 0),(9,ii e0.Kind),(30,.bool false),(59,.bool false),(61,undef)] fun fr => r_F rfl<|r_F rfl<|rd ⟨false,_,h,fe _,by kernel_rfl⟩
  clear h
  rintro fr S ⟨x32,fr,h,rfl,rfl⟩
  replace h := hK34 _ h
  exact rd ⟨x32,_,h,fe _,by kernel_rfl⟩
 clear h
 rintro fr S ⟨x35,fr,h,rfl,rfl⟩
 replace h := hK37 _ h
 refine rd ?_
 apply r_iteh h<;>clear h<;>intro h
 ·refine rb<|rd ?_
  repeat refine rd ?_
  repeat refine rd ?_
  obtain rfl := h_out h
  exact ret_of (RV.tmp RV.nil) (le_w [false]) ⟨rfl,rfl⟩
 refine rb ?_
 replace h := h_j h; obtain ⟨K64,h,hK65⟩ := h
 refine r_meet (fun fr S => ∃ (x63 : Bool),∃ fr0,K64 x63 = some r ∧ fr = updL [(64,.bool x63)] fr0 ∧ S = ⟨ρ,L⟩) ?_ ?_
 ·refine rb ?_
  replace h := h_j h; obtain ⟨K44,h,hK45⟩ := h
  refine r_meet (fun fr S => ∃ (x43 : Bool),∃ fr0,K44 x43 = some r ∧ fr = updL [(3,ii regions3),(4,pp bq1 0),(9,ii e0.Kind),(64,.bool x43)] fr0 ∧ S = ⟨ρ,.obj bq1 (en_Entry e0) 45 :: L⟩) ?_ ?_
  ·replace h := h_b h; obtain ⟨x40,hx39,h⟩ := h
   refine rc (hc_117 (kind0 := e0.Kind) (what1 := 111) (h := hx39)) ?_
   rintro _ _ ⟨rfl,rfl⟩
   refine kp [(2,ii cells2),(3,ii regions3),(4,pp bq1 0),(9,ii e0.Kind),(66,.bool x40)] fun fr => ?_
   apply r_iteh h<;>clear h<;>intro h
   ·refine r_T rfl<|ld 0 tt_ok (v := ii e0.Other) ts_3 rfl<|r_T rfl<|r_T rfl<|r_num (e' := w64 (cells2 - 1)) rfl<|r_T rfl<|rc (hc_94 (n0 := e0.Other) (low1 := (-1)) (high2 := w64 (cells2 - 1))) ?_
    rintro _ _ ⟨rfl,rfl⟩
    refine r_T rfl<|r_T rfl ?_
    apply r_iteh h<;>clear h<;>intro h
    ·exact kp [(3,ii regions3),(4,pp bq1 0),(9,ii e0.Kind),(67,.bool true),(74,.bool true),(75,undef)] fun fr => r_T rfl<|r_T rfl<|r_T rfl<|r_T rfl<|r_T rfl<|r_T rfl<|rd ⟨true,_,h,fe _,by kernel_rfl⟩
    exact kp [(3,ii regions3),(4,pp bq1 0),(9,ii e0.Kind),(67,.bool true),(74,.bool false),(75,pp bq1 4)] fun fr => r_F rfl<|ld 0 tt_ok (v := ii e0.Other) ts_3 rfl<|r_F rfl<|r_F rfl<|ld 0 tt_ok (v := ii e0.Cell) ts_3 rfl<|r_F rfl<|r_T rfl<|rd ⟨decide (e0.Other = e0.Cell),_,h,fe _,by kernel_rfl⟩
   exact r_F rfl<|r_F rfl<|r_F rfl<|r_F rfl<|r_F rfl<|r_F rfl<|r_F rfl<|kp [(3,ii regions3),(4,pp bq1 0),(9,ii e0.Kind),(67,.bool false),(80,undef)] fun fr => r_F rfl<|rd ⟨false,_,h,fe _,by kernel_rfl⟩
  clear h
  rintro fr S ⟨x43,fr,h,rfl,rfl⟩
  replace h := hK45 _ h
  refine rd ?_
  apply r_iteh h<;>clear h<;>intro h
  ·exact r_le (le_w [false])<|rd ⟨true,_,h,fe _,by kernel_rfl⟩
  refine rb ?_
  replace h := h_j h; obtain ⟨K51,h,hK52⟩ := h
  refine r_meet (fun fr S => ∃ (x50 : Bool),∃ fr0,K51 x50 = some r ∧ fr = updL [(4,pp bq1 0),(9,ii e0.Kind),(64,.bool x50)] fr0 ∧ S = ⟨ρ,.obj bq1 (en_Entry e0) 45 :: L⟩) ?_ ?_
  ·replace h := h_b h; obtain ⟨x48,hx47,h⟩ := h
   refine rc (hc_117 (kind0 := e0.Kind) (what1 := 114) (h := hx47)) ?_
   rintro _ _ ⟨rfl,rfl⟩
   refine kp [(3,ii regions3),(4,pp bq1 0),(9,ii e0.Kind),(64,.bool false),(83,.bool x48)] fun fr => ?_
   apply r_iteh h<;>clear h<;>intro h
   ·refine r_T rfl<|ld 0 tt_ok (v := ii e0.Other) ts_3 rfl<|r_T rfl<|r_T rfl<|r_num (e' := w64 (regions3 - 1)) rfl<|r_T rfl<|rc (hc_94 (n0 := e0.Other) (low1 := 0) (high2 := w64 (regions3 - 1))) ?_
    rintro _ _ ⟨rfl,rfl⟩
    exact r_T rfl<|kr [(4,pp bq1 0),(9,ii e0.Kind),(64,.bool (!(cellplaneref06_in e0.Other 0 (w64 (regions3 - 1)))))] fun fr => rd ⟨!(cellplaneref06_in e0.Other 0 (w64 (regions3 - 1))),_,h,fe _,by kernel_rfl⟩
   exact r_F rfl<|r_F rfl<|r_F rfl<|r_F rfl<|r_F rfl<|r_F rfl<|kr [(4,pp bq1 0),(9,ii e0.Kind),(64,.bool false)] fun fr => rd ⟨false,_,h,fe _,by kernel_rfl⟩
  clear h
  rintro fr S ⟨x50,fr,h,rfl,rfl⟩
  replace h := hK52 _ h
  refine rd ?_
  apply r_iteh h<;>clear h<;>intro h
  ·exact r_le (le_w [false])<|rd ⟨true,_,h,fe _,by kernel_rfl⟩
  replace h := h_j h; obtain ⟨K61,h,hK62⟩ := h
  refine r_meet (fun fr S => ∃ (x60 : Bool),∃ fr0,K61 x60 = some r ∧ fr = updL [(64,.bool x60)] fr0 ∧ S = ⟨ρ,L⟩) ?_ ?_
  ·replace h := h_b h; obtain ⟨x55,hx54,h⟩ := h
   refine rc (hc_117 (kind0 := e0.Kind) (what1 := 111) (h := hx54)) ?_
   rintro _ _ ⟨rfl,rfl⟩
   refine kp [(4,pp bq1 0),(9,ii e0.Kind),(64,.bool false),(93,.bool x55)] fun fr => ?_
   apply r_iteh h<;>clear h<;>intro h
   ·refine r_T rfl ?_
    replace h := h_b h; obtain ⟨x58,hx57,h⟩ := h
    refine rc (hc_117 (kind0 := e0.Kind) (what1 := 114) (h := hx57)) ?_
    rintro _ _ ⟨rfl,rfl⟩
    refine r_T rfl ?_
    apply r_iteh h<;>clear h<;>intro h
    ·exact r_T rfl<|ld 0 tt_ok (v := ii e0.Other) ts_3 rfl<|kp [(64,.bool false),(100,.bool true),(102,ii e0.Other)] fun fr => r_T rfl<|r_le (le_w [false])<|rd ⟨!decide (e0.Other = (-1)),_,h,fe _,by kernel_rfl⟩
    exact r_F rfl<|kp [(64,.bool false),(100,.bool false),(102,undef)] fun fr => r_F rfl<|r_F rfl<|r_le (le_w [false])<|rd ⟨false,_,h,fe _,by kernel_rfl⟩
   exact r_F rfl<|r_F rfl<|r_F rfl<|r_F rfl<|r_F rfl<|kp [(64,.bool false),(100,.bool false),(102,undef)] fun fr => r_F rfl<|r_F rfl<|r_le (le_w [false])<|rd ⟨false,_,h,fe _,by kernel_rfl⟩
  clear h
  rintro fr S ⟨x60,fr,h,rfl,rfl⟩
  replace h := hK62 _ h
  exact rd ⟨x60,_,h,fe _,by kernel_rfl⟩
 clear h
 rintro fr S ⟨x63,fr,h,rfl,rfl⟩
 replace h := hK65 _ h
 refine rd ?_
 apply r_iteh h<;>clear h<;>intro h
 ·refine rb<|rd ?_
  repeat refine rd ?_
  repeat refine rd ?_
  obtain rfl := h_out h
  exact ret_of (RV.tmp RV.nil) (Le.refl _) ⟨rfl,rfl⟩
 refine rd<|rd<|rb<|rd ?_
 repeat refine rd ?_
 repeat refine rd ?_
 obtain rfl := h_out h
 exact ret_of (RV.tmp RV.nil) (Le.refl _) ⟨rfl,rfl⟩
theorem hc_96   (e0 : Entry) (versions1 : Int)  {r : Bool} (h : cellplaneref06_numbers e0 versions1 = some r) : HC Tryz.prog 96 #[.agg (en_Entry e0).toArray,ii versions1] ⟨ρ,L⟩ (fun v S' => v = .bool r ∧ S' = ⟨ρ,L⟩) := by
 replace h := h_in h
 refine HC.intro (N := 82) (args := [_,_]) tt_ok Tryz.func96 rfl (by decide +kernel) rfl (Nat.le_of_ble_eq_true rfl)<|rb<|r_bx (en_Entry e0) (by kernel_rfl) fun bq1 => rd<|rb<|ld 0 tt_ok (v := ii e0.Kind) ts_3 rfl<|rd<|rb<|rb<|rb ?_
 replace h := h_j h; obtain ⟨K16,h,hK17⟩ := h
 refine r_meet (fun fr S => ∃ (x15 : Bool),∃ fr0,K16 x15 = some r ∧ fr = updL [(1,ii versions1),(2,pp bq1 0),(5,ii e0.Kind),(8,.bool x15)] fr0 ∧ S = ⟨ρ,.obj bq1 (en_Entry e0) 45 :: L⟩) ?_ ?_
 ·refine rb ?_
  replace h := h_j h; obtain ⟨K6,h,hK7⟩ := h
  refine r_meet (fun fr S => ∃ (x5 : Bool),∃ fr0,K6 x5 = some r ∧ fr = updL [(1,ii versions1),(2,pp bq1 0),(5,ii e0.Kind),(8,.bool x5)] fr0 ∧ S = ⟨ρ,.obj bq1 (en_Entry e0) 45 :: L⟩) ?_ ?_
  ·replace h := h_b h; obtain ⟨x3,hx2,h⟩ := h
   refine rc (hc_117 (kind0 := e0.Kind) (what1 := 101) (h := hx2)) ?_
   rintro _ _ ⟨rfl,rfl⟩
   refine kp [(1,ii versions1),(2,pp bq1 0),(5,ii e0.Kind),(10,.bool x3)] fun fr => ?_
   apply r_iteh h<;>clear h<;>intro h
   ·refine r_T rfl<|ld 0 tt_ok (v := ii e0.Epoch) ts_3 rfl<|r_T rfl<|rc (hc_94 (n0 := e0.Epoch) (low1 := 1) (high2 := 1048576)) ?_
    rintro _ _ ⟨rfl,rfl⟩
    exact r_T rfl<|rd ⟨!(cellplaneref06_in e0.Epoch 1 1048576),_,h,fe _,by kernel_rfl⟩
   exact r_F rfl<|r_F rfl<|r_F rfl<|r_F rfl<|rd ⟨false,_,h,fe _,by kernel_rfl⟩
  clear h
  rintro fr S ⟨x5,fr,h,rfl,rfl⟩
  replace h := hK7 _ h
  refine rd ?_
  apply r_iteh h<;>clear h<;>intro h
  ·exact rd ⟨true,_,h,fe _,by kernel_rfl⟩
  replace h := h_j h; obtain ⟨K13,h,hK14⟩ := h
  refine r_meet (fun fr S => ∃ (x12 : Bool),∃ fr0,K13 x12 = some r ∧ fr = updL [(1,ii versions1),(2,pp bq1 0),(5,ii e0.Kind),(8,.bool x12)] fr0 ∧ S = ⟨ρ,.obj bq1 (en_Entry e0) 45 :: L⟩) ?_ ?_
  ·replace h := h_b h; obtain ⟨x10,hx9,h⟩ := h
   refine rc (hc_117 (kind0 := e0.Kind) (what1 := 101) (h := hx9)) ?_
   rintro _ _ ⟨rfl,rfl⟩
   refine kp [(1,ii versions1),(2,pp bq1 0),(5,ii e0.Kind),(8,.bool false),(18,.bool x10)] fun fr => ?_
   apply r_iteh h<;>clear h<;>intro h
   ·exact r_T rfl<|ld 0 tt_ok (v := ii e0.Epoch) ts_3 rfl<|r_T rfl<|rd ⟨!decide (e0.Epoch = 0),_,h,fe _,by kernel_rfl⟩
   exact r_F rfl<|r_F rfl<|r_F rfl<|rd ⟨false,_,h,fe _,by kernel_rfl⟩
  clear h
  rintro fr S ⟨x12,fr,h,rfl,rfl⟩
  replace h := hK14 _ h
  exact rd ⟨x12,_,h,fe _,by kernel_rfl⟩
 clear h
 rintro fr S ⟨x15,fr,h,rfl,rfl⟩
 replace h := hK17 _ h
 refine rd ?_
 apply r_iteh h<;>clear h<;>intro h
 ·refine rb<|rd ?_
  repeat refine rd ?_
  repeat refine rd ?_
  obtain rfl := h_out h
  exact ret_of (RV.tmp RV.nil) (le_w [false]) ⟨rfl,rfl⟩
 refine rb ?_
 replace h := h_j h; obtain ⟨K35,h,hK36⟩ := h
 refine r_meet (fun fr S => ∃ (x34 : Bool),∃ fr0,K35 x34 = some r ∧ fr = updL [(1,ii versions1),(2,pp bq1 0),(5,ii e0.Kind),(25,.bool x34)] fr0 ∧ S = ⟨ρ,.obj bq1 (en_Entry e0) 45 :: L⟩) ?_ ?_
 ·refine rb ?_
  replace h := h_j h; obtain ⟨K24,h,hK25⟩ := h
  refine r_meet (fun fr S => ∃ (x23 : Bool),∃ fr0,K24 x23 = some r ∧ fr = updL [(1,ii versions1),(2,pp bq1 0),(5,ii e0.Kind),(25,.bool x23)] fr0 ∧ S = ⟨ρ,.obj bq1 (en_Entry e0) 45 :: L⟩) ?_ ?_
  ·replace h := h_b h; obtain ⟨x20,hx19,h⟩ := h
   refine rc (hc_117 (kind0 := e0.Kind) (what1 := 119) (h := hx19)) ?_
   rintro _ _ ⟨rfl,rfl⟩
   refine kp [(1,ii versions1),(2,pp bq1 0),(5,ii e0.Kind),(27,.bool x20)] fun fr => ?_
   apply r_iteh h<;>clear h<;>intro h
   ·refine r_T rfl<|ld 0 tt_ok (v := ii e0.From) ts_3 rfl<|r_T rfl<|rc (hc_94 (n0 := e0.From) (low1 := 0) (high2 := 1073741824)) ?_
    rintro _ _ ⟨rfl,rfl⟩
    refine r_T rfl<|r_T rfl ?_
    apply r_iteh h<;>clear h<;>intro h
    ·exact r_T rfl<|r_T rfl<|kp [(1,ii versions1),(2,pp bq1 0),(5,ii e0.Kind),(28,.bool true),(33,.bool true),(36,undef)] fun fr => r_T rfl<|r_T rfl<|r_T rfl<|rd ⟨true,_,h,fe _,by kernel_rfl⟩
    refine r_F rfl<|ld 0 tt_ok (v := ii e0.Until) ts_3 rfl<|r_F rfl<|rc (hc_94 (n0 := e0.Until) (low1 := 0) (high2 := 1073741824)) ?_
    rintro _ _ ⟨rfl,rfl⟩
    exact kp [(1,ii versions1),(2,pp bq1 0),(5,ii e0.Kind),(28,.bool true),(33,.bool false),(36,.bool (cellplaneref06_in e0.Until 0 1073741824))] fun fr => r_F rfl<|r_T rfl<|rd ⟨!(cellplaneref06_in e0.Until 0 1073741824),_,h,fe _,by kernel_rfl⟩
   exact r_F rfl<|r_F rfl<|r_F rfl<|r_F rfl<|r_F rfl<|kp [(1,ii versions1),(2,pp bq1 0),(5,ii e0.Kind),(28,.bool false),(38,undef)] fun fr => r_F rfl<|rd ⟨false,_,h,fe _,by kernel_rfl⟩
  clear h
  rintro fr S ⟨x23,fr,h,rfl,rfl⟩
  replace h := hK25 _ h
  refine rd ?_
  apply r_iteh h<;>clear h<;>intro h
  ·exact rd ⟨true,_,h,fe _,by kernel_rfl⟩
  replace h := h_j h; obtain ⟨K32,h,hK33⟩ := h
  refine r_meet (fun fr S => ∃ (x31 : Bool),∃ fr0,K32 x31 = some r ∧ fr = updL [(1,ii versions1),(2,pp bq1 0),(5,ii e0.Kind),(25,.bool x31)] fr0 ∧ S = ⟨ρ,.obj bq1 (en_Entry e0) 45 :: L⟩) ?_ ?_
  ·replace h := h_b h; obtain ⟨x28,hx27,h⟩ := h
   refine rc (hc_117 (kind0 := e0.Kind) (what1 := 119) (h := hx27)) ?_
   rintro _ _ ⟨rfl,rfl⟩
   refine kp [(1,ii versions1),(2,pp bq1 0),(5,ii e0.Kind),(25,.bool false),(41,.bool x28)] fun fr => ?_
   apply r_iteh h<;>clear h<;>intro h
   ·refine r_T rfl<|ld 0 tt_ok (v := ii e0.From) ts_3 rfl<|r_T rfl<|r_T rfl ?_
    apply r_iteh h<;>clear h<;>intro h
    ·exact r_T rfl<|r_T rfl<|kp [(1,ii versions1),(2,pp bq1 0),(5,ii e0.Kind),(25,.bool false),(43,.bool true),(47,.bool true),(50,undef)] fun fr => r_T rfl<|r_T rfl<|rd ⟨true,_,h,fe _,by kernel_rfl⟩
    exact r_F rfl<|ld 0 tt_ok (v := ii e0.Until) ts_3 rfl<|r_F rfl<|kp [(1,ii versions1),(2,pp bq1 0),(5,ii e0.Kind),(25,.bool false),(43,.bool true),(47,.bool false),(50,.bool (!decide (e0.Until = 0)))] fun fr => r_T rfl<|rd ⟨!decide (e0.Until = 0),_,h,fe _,by kernel_rfl⟩
   exact r_F rfl<|r_F rfl<|r_F rfl<|r_F rfl<|kp [(1,ii versions1),(2,pp bq1 0),(5,ii e0.Kind),(25,.bool false),(43,.bool false),(51,undef)] fun fr => r_F rfl<|rd ⟨false,_,h,fe _,by kernel_rfl⟩
  clear h
  rintro fr S ⟨x31,fr,h,rfl,rfl⟩
  replace h := hK33 _ h
  exact rd ⟨x31,_,h,fe _,by kernel_rfl⟩
 clear h
 rintro fr S ⟨x34,fr,h,rfl,rfl⟩
 replace h := hK36 _ h
 refine rd ?_
 apply r_iteh h<;>clear h<;>intro h
 ·refine rb<|rd ?_
  repeat refine rd ?_
  repeat refine rd ?_
  obtain rfl := h_out h
  exact ret_of (RV.tmp RV.nil) (le_w [false]) ⟨rfl,rfl⟩
 refine rb ?_
 replace h := h_b h; obtain ⟨x39,hx38,h⟩ := h
 refine rc (hc_117 (kind0 := e0.Kind) (what1 := 118) (h := hx38)) ?_
 rintro _ _ ⟨rfl,rfl⟩
 refine rd ?_
 apply r_iteh h<;>clear h<;>intro h
 ·refine rb<|ld 0 tt_ok (v := ii e0.N) ts_3 rfl<|r_num (e' := w64 (versions1 - 1)) rfl<|rc (hc_94 (n0 := e0.N) (low1 := 0) (high2 := w64 (versions1 - 1))) ?_
  rintro _ _ ⟨rfl,rfl⟩
  refine kr [(4,.bool (cellplaneref06_in e0.N 0 (w64 (versions1 - 1))))] fun fr => rd ?_
  repeat refine rd ?_
  repeat refine rd ?_
  obtain rfl := h_out h
  exact ret_of (RV.tmp RV.nil) (le_w [false]) ⟨rfl,rfl⟩
 refine rb ?_
 replace h := h_b h; obtain ⟨x42,hx41,h⟩ := h
 refine rc (hc_117 (kind0 := e0.Kind) (what1 := 98) (h := hx41)) ?_
 rintro _ _ ⟨rfl,rfl⟩
 refine rd ?_
 apply r_iteh h<;>clear h<;>intro h
 ·refine rb<|ld 0 tt_ok (v := ii e0.N) ts_3 rfl<|rc (hc_94 (n0 := e0.N) (low1 := 0) (high2 := 1)) ?_
  rintro _ _ ⟨rfl,rfl⟩
  refine kp [(66,.bool (cellplaneref06_in e0.N 0 1))] fun fr => rd ?_
  repeat refine rd ?_
  repeat refine rd ?_
  obtain rfl := h_out h
  exact ret_of (RV.tmp RV.nil) (le_w [false]) ⟨rfl,rfl⟩
 refine rb ?_
 replace h := h_b h; obtain ⟨x45,hx44,h⟩ := h
 refine rc (hc_117 (kind0 := e0.Kind) (what1 := 109) (h := hx44)) ?_
 rintro _ _ ⟨rfl,rfl⟩
 refine kr [(2,pp bq1 0),(5,ii e0.Kind),(67,.bool x45)] fun fr => rd ?_
 apply r_iteh h<;>clear h<;>intro h
 ·refine rb<|ld 0 tt_ok (v := ii e0.N) ts_3 rfl<|rc (hc_94 (n0 := e0.N) (low1 := 1) (high2 := 3)) ?_
  rintro _ _ ⟨rfl,rfl⟩
  refine rd ?_
  repeat refine rd ?_
  repeat refine rd ?_
  obtain rfl := h_out h
  exact ret_of (RV.tmp RV.nil) (le_w [false]) ⟨rfl,rfl⟩
 refine rb ?_
 replace h := h_b h; obtain ⟨x48,hx47,h⟩ := h
 refine rc (hc_117 (kind0 := e0.Kind) (what1 := 110) (h := hx47)) ?_
 rintro _ _ ⟨rfl,rfl⟩
 refine rd ?_
 apply r_iteh h<;>clear h<;>intro h
 ·refine rb<|ld 0 tt_ok (v := ii e0.N) ts_3 rfl<|rc (hc_94 (n0 := e0.N) (low1 := 0) (high2 := 1073741824)) ?_
  rintro _ _ ⟨rfl,rfl⟩
  refine rd ?_
  repeat refine rd ?_
  repeat refine rd ?_
  obtain rfl := h_out h
  exact ret_of (RV.tmp RV.nil) (le_w [false]) ⟨rfl,rfl⟩
 refine rd<|rd<|rb<|ld 0 tt_ok (v := ii e0.N) ts_3 rfl<|rd ?_
 repeat refine rd ?_
 repeat refine rd ?_
 obtain rfl := h_out h
 exact ret_of (RV.tmp RV.nil) (le_w [false]) ⟨rfl,rfl⟩
theorem hc_62   (e0 : Entry) (tenants1 : Int) (cells2 : Int) (regions3 : Int) (versions4 : Int)  {r : Bool} (h : cellplaneref06_right e0 tenants1 cells2 regions3 versions4 = some r) : HC Tryz.prog 62 #[.agg (en_Entry e0).toArray,ii tenants1,ii cells2,ii regions3,ii versions4] ⟨ρ,L⟩ (fun v S' => v = .bool r ∧ S' = ⟨ρ,L⟩) := by
 replace h := h_in h
 refine HC.intro (N := 31) (args := [_,_,_,_,_]) tt_ok Tryz.func62 rfl (by decide +kernel) rfl (Nat.le_of_ble_eq_true rfl)<|rb<|r_bx (en_Entry e0) (by kernel_rfl) fun bq1 => rd<|rb ?_
 replace h := h_j h; obtain ⟨K10,h,hK11⟩ := h
 refine r_meet (fun fr S => ∃ (x9 : Bool),∃ fr0,K10 x9 = some r ∧ fr = updL [(10,.bool x9)] fr0 ∧ S = ⟨ρ,L⟩) ?_ ?_
 ·refine ld 0 tt_ok (v := ii e0.Kind) ts_3 rfl<|rc (hc_94 (n0 := e0.Kind) (low1 := 1) (high2 := 16)) ?_
  rintro _ _ ⟨rfl,rfl⟩
  apply r_iteh h<;>clear h<;>intro h
  ·refine r_T rfl<|ld 0 tt_ok (v := ii e0.Tick) ts_3 rfl<|kp [(1,ii tenants1),(2,ii cells2),(3,ii regions3),(4,ii versions4),(5,pp bq1 0),(10,.bool false),(14,.bool true),(16,ii e0.Tick)] fun fr => r_T rfl<|rc (hc_94 (n0 := e0.Tick) (low1 := 0) (high2 := 1073741824)) ?_
   rintro _ _ ⟨rfl,rfl⟩
   apply r_iteh h<;>clear h<;>intro h
   ·refine ln 0 tt_ok (en_Entry e0) ta_45 rfl<|r_T rfl<|r_T rfl<|r_T rfl<|r_T rfl ?_
    replace h := h_b h; obtain ⟨x5,hx4,h⟩ := h
    refine rc (hc_95 (e0 := e0) (tenants1 := tenants1) (cells2 := cells2) (regions3 := regions3) (h := hx4)) ?_
    rintro _ _ ⟨rfl,rfl⟩
    apply r_iteh h<;>clear h<;>intro h
    ·refine ln 0 tt_ok (en_Entry e0) ta_45 rfl<|kp [(4,ii versions4),(10,.bool false),(26,.bool true),(27,.agg (en_Entry e0).toArray)] fun fr => r_T rfl<|r_T rfl ?_
     replace h := h_b h; obtain ⟨x8,hx7,h⟩ := h
     refine rc (hc_96 (e0 := e0) (versions1 := versions4) (h := hx7)) ?_
     rintro _ _ ⟨rfl,rfl⟩
     exact r_le (le_w [false])<|rd ⟨x8,_,h,fe _,by kernel_rfl⟩
    exact kp [(4,ii versions4),(10,.bool false),(26,.bool false),(27,undef)] fun fr => r_F rfl<|r_F rfl<|r_F rfl<|r_le (le_w [false])<|rd ⟨false,_,h,fe _,by kernel_rfl⟩
   exact r_F rfl<|r_F rfl<|r_F rfl<|r_F rfl<|r_F rfl<|kp [(4,ii versions4),(5,pp bq1 0),(10,.bool false),(25,.bool false)] fun fr => r_F rfl<|r_F rfl<|r_F rfl<|r_F rfl<|r_le (le_w [false])<|rd ⟨false,_,h,fe _,by kernel_rfl⟩
  refine r_F rfl<|kp [(1,ii tenants1),(2,ii cells2),(3,ii regions3),(4,ii versions4),(5,pp bq1 0),(10,.bool false),(14,.bool false),(16,undef)] fun fr => r_F rfl<|r_F rfl<|r_F rfl<|r_F rfl<|r_F rfl<|r_F rfl<|r_F rfl<|r_F rfl<|kp [(4,ii versions4),(5,pp bq1 0),(10,.bool false),(25,.bool false)] fun fr => r_F rfl<|r_F rfl ?_
  exact r_F rfl<|r_F rfl<|r_le (le_w [false])<|rd ⟨false,_,h,fe _,by kernel_rfl⟩
 clear h
 rintro fr S ⟨x9,fr,h,rfl,rfl⟩
 replace h := hK11 _ h
 refine rd ?_
 repeat refine rd ?_
 repeat refine rd ?_
 obtain rfl := h_out h
 exact ret_of (RV.tmp RV.nil) (Le.refl _) ⟨rfl,rfl⟩
theorem hc_25 {g_c0 : gConfig} {S_c0 : St} (hS_c0 : Le ⟨ρ,L⟩ S_c0) (c0 : Config) (e1 : Entry) (h_c0 : Sl_Config S_c0 c0 g_c0) {r : Bool} (h : cellplaneref06_Valid c0 e1 = some r) : HC Tryz.prog 25 #[.agg (en_Config c0 g_c0).toArray,.agg (en_Entry e1).toArray] ⟨ρ,L⟩ (fun v S' => v = .bool r ∧ S' = ⟨ρ,L⟩) := by
 replace h := h_in h
 refine HC.intro (N := 22) (args := [_,_]) tt_ok Tryz.func25 rfl (by decide +kernel) rfl (Nat.le_of_ble_eq_true rfl)<|rb<|r_bx (en_Config c0 g_c0) (by kernel_rfl) fun bq1 => r_bx (en_Entry e1) (by kernel_rfl) fun bq2 => rd<|rb<|ln 0 tt_ok (en_Entry e1) ta_45 rfl<|ld 1 tt_ok (v := .slice g_c0.Tenants.1 c0.Tenants.length g_c0.Tenants.2) ts_27 rfl<|ld 1 tt_ok (v := .slice g_c0.Cells.1 c0.Cells.length g_c0.Cells.2) ts_26 rfl<|kp [(2,pp bq1 0),(4,.bool false),(5,.agg (en_Entry e1).toArray),(9,ii (mn (c0.Tenants.length : Int) 32)),(11,.slice g_c0.Cells.1 c0.Cells.length g_c0.Cells.2)] fun fr => ld 1 tt_ok (v := ii c0.Regions) ts_3 rfl<|ld 1 tt_ok (v := .slice g_c0.Versions.1 c0.Versions.length g_c0.Versions.2) ts_28 rfl ?_
 replace h := h_b h; obtain ⟨x4,hx3,h⟩ := h
 refine rc (hc_62 (e0 := e1) (tenants1 := mn (c0.Tenants.length : Int) 32) (cells2 := mn (c0.Cells.length : Int) 16) (regions3 := mn c0.Regions 4) (versions4 := mn (c0.Versions.length : Int) 30) (h := hx3)) ?_
 rintro _ _ ⟨rfl,rfl⟩
 refine kp [(4,.bool false),(21,.bool x4)] fun fr => rd ?_
 repeat refine rd ?_
 repeat refine rd ?_
 obtain rfl := h_out h
 exact ret_of (RV.tmp RV.nil) (le_w [false,false]) ⟨rfl,rfl⟩
theorem hc_48   (e0 : Int)   : HC Tryz.prog 48 #[ii e0] ⟨ρ,L⟩ (fun v S' => ∃ (Aq1_0 : Option Addr),∃ (cq1_0 : Nat),∃ (Aq1_1 : Option Addr),∃ (cq1_1 : Nat),v = .tuple #[.agg (en_State ((cellplaneref12_no e0).1) (⟨(Aq1_0,cq1_0),(Aq1_1,cq1_1)⟩)).toArray,ii ((cellplaneref12_no e0).2)] ∧ S' = ⟨ρ,.row Aq1_0 (((cellplaneref12_no e0).1).Tenants).length cq1_0 58 12 (fl eTenantState.en (((cellplaneref12_no e0).1).Tenants)) :: .row Aq1_1 (((cellplaneref12_no e0).1).Cells).length cq1_1 54 4 (fl eCellState.en (((cellplaneref12_no e0).1).Cells)) :: L⟩) := by
 generalize h : cellplaneref12_no e0 = r
 unfold cellplaneref12_no at h
 refine HC.intro (N := 6) (args := [_]) tt_ok Tryz.func48 rfl (by decide +kernel) rfl (Nat.le_of_ble_eq_true rfl)<|rb<|r_al tt_ok (en_State (⟨0,0,[],[],0,0,0,0⟩ : State) (⟨(none,0),(none,0)⟩)) ti_38 (by kernel_rfl) fun bq1 => rd<|rb<|r_bd tt_ok (en_State (⟨0,0,[],[],0,0,0,0⟩ : State) (⟨(none,0),(none,0)⟩)) ti_38 tp_38 (by kernel_rfl)<|st 0 tt_ok (en_State (⟨0,0,[],[],0,0,0,0⟩ : State) (⟨(none,0),(none,0)⟩)) (fn ta_38) rfl<|rd ?_
 repeat refine rd ?_
 repeat refine rd ?_
 subst h
 exact ret_of (rv_cell 0 tt_ok (by kernel_rfl) ta_38 rfl rfl (RV.tmp RV.nil)) ((le_nil 54 4).trans ((le_nil 58 12).trans (le_w [true,true,false]))) ⟨none,0,none,0,rfl,rfl⟩
theorem hc_18 {g_s0 : gState} {S_s0 : St} (hS_s0 : Le ⟨ρ,L⟩ S_s0) (s0 : State) (h_s0 : Sl_State S_s0 s0 g_s0) {r : State} (h : cellplaneref12_Copied s0 = some r) : HC Tryz.prog 18 #[.agg (en_State s0 g_s0).toArray] ⟨ρ,L⟩ (fun v S' => ∃ (Aq1_0 : Option Addr),∃ (cq1_0 : Nat),∃ (Aq1_1 : Option Addr),∃ (cq1_1 : Nat),v = .agg (en_State r (⟨(Aq1_0,cq1_0),(Aq1_1,cq1_1)⟩)).toArray ∧ S' = ⟨ρ,.row Aq1_0 r.Tenants.length cq1_0 58 12 (fl eTenantState.en r.Tenants) :: .row Aq1_1 r.Cells.length cq1_1 54 4 (fl eCellState.en r.Cells) :: L⟩) := by
 replace h := h_in h
 refine HC.intro (N := 14) (args := [_]) tt_ok Tryz.func18 rfl (by decide +kernel) rfl (Nat.le_of_ble_eq_true rfl)<|rb<|r_bx (en_State s0 g_s0) (by kernel_rfl) fun bq1 => r_al tt_ok (en_State (⟨0,0,[],[],0,0,0,0⟩ : State) (⟨(none,0),(none,0)⟩)) ti_38 (by kernel_rfl) fun bq2 => rd<|rb<|r_bs tt_ok (fl eTenantState.en ([] : (List TenantState))) te_35 ti_58 (by kernel_rfl) (by kernel_rfl) (by kernel_rfl) (by kernel_rfl) fun bq3 => ld 2 tt_ok (v := .slice g_s0.Tenants.1 s0.Tenants.length g_s0.Tenants.2) ts_35 rfl ?_
 replace h := h_b h; obtain ⟨xs4,ha5,h⟩ := h
 refine r_app 0 (E := eTenantState) (xs := ([] : (List TenantState))) (ys := s0.Tenants) tt_ok ha5 ((h_s0.1).rd.mono ((le_d 3).trans hS_s0)) rfl te_35 ti_58 rfl (by kernel_rfl) rfl (fun A6 c7 => ?_)
 refine st 2 tt_ok (en_State ({ s0 with Tenants := xs4 }) (⟨(A6,c7),(g_s0.Cells.1,g_s0.Cells.2)⟩)) (f1 ts_35) rfl<|rd<|rb<|r_bs tt_ok (fl eCellState.en ([] : (List CellState))) te_36 ti_54 (by kernel_rfl) (by kernel_rfl) (by kernel_rfl) (by kernel_rfl) fun bq9 => kp [(1,pp bq1 0),(2,pp bq2 0),(8,.slice (some ⟨bq9,0,none⟩) ([] : (List CellState)).length 0)] fun fr => ld 3 tt_ok (v := .slice g_s0.Cells.1 s0.Cells.length g_s0.Cells.2) ts_36 rfl ?_
 replace h := h_b h; obtain ⟨xs10,ha11,h⟩ := h
 refine r_app 0 (E := eCellState) (xs := ([] : (List CellState))) (ys := s0.Cells) tt_ok ha11 ((h_s0.2).rd.mono ((le_d 4).trans hS_s0)) rfl te_36 ti_54 rfl (by kernel_rfl) rfl (fun A12 c13 => ?_)
 refine st 3 tt_ok (en_State ({ s0 with Tenants := xs4,Cells := xs10 }) (⟨(A6,c7),(A12,c13)⟩)) (f1 ts_36) rfl<|rd<|rb<|ln 3 tt_ok (en_State ({ s0 with Tenants := xs4,Cells := xs10 }) (⟨(A6,c7),(A12,c13)⟩)) ta_38 rfl<|st 2 tt_ok (en_State ({ s0 with Tenants := xs4,Cells := xs10 }) (⟨(A6,c7),(A12,c13)⟩)) (fn ta_38) rfl<|rd ?_
 repeat refine rd ?_
 repeat refine rd ?_
 obtain rfl := h_out h
 exact ret_of (rv_cell 2 tt_ok (by kernel_rfl) ta_38 rfl rfl RV.nil) ((le_mv 1).trans (le_w [true,true,false,false])) ⟨A6,c7,A12,c13,rfl,rfl⟩
theorem hc_88 {g_c0 : gConfig} {g_s1 : gState} {S_c0 : St} (hS_c0 : Le ⟨ρ,L⟩ S_c0) {S_s1 : St} (hS_s1 : Le ⟨ρ,L⟩ S_s1) (c0 : Config) (s1 : State) (cell2 : Int) (h_c0 : Sl_Config S_c0 c0 g_c0) (h_s1 : Sl_State S_s1 s1 g_s1) {r : Bool} (h : cellplaneref12_frozen c0 s1 cell2 = some r) : HC Tryz.prog 88 #[.agg (en_Config c0 g_c0).toArray,.agg (en_State s1 g_s1).toArray,ii cell2] ⟨ρ,L⟩ (fun v S' => v = .bool r ∧ S' = ⟨ρ,L⟩) := by
 replace h := h_in h
 refine HC.intro (N := 13) (args := [_,_,_]) tt_ok Tryz.func88 rfl (by decide +kernel) rfl (Nat.le_of_ble_eq_true rfl)<|rb<|r_bx (en_Config c0 g_c0) (by kernel_rfl) fun bq1 => r_bx (en_State s1 g_s1) (by kernel_rfl) fun bq2 => rd<|rb<|r_mix tt_ok hm_ok _ _ [] (.pure 0 (.vb 1 (.vb 2 (.pure 3 (.eff 4 (.eff 5 (.pure 6 .nil))))))) (le_w [true,true]) (le_w [true,true]) ?_ ?_
 ·decide +kernel
 refine x_p rfl<|vd<|x_vb rfl<|vl 0 tt_ok (v := ii s1.Evacuating) ts_3 rfl<|vd<|x_vb rfl<|vn 1 tt_ok (en_Config c0 g_c0) ta_30 rfl<|vd<|x_p rfl<|vd<|x_e rfl ?_
 replace h := h_b h; obtain ⟨x4,hx3,h⟩ := h
 refine rc (hc_115 (g_c0 := g_c0) (c0 := c0) (cell1 := cell2) (hS_c0 := by exact (le_d 2).trans hS_c0) (h_c0 :=h_c0) (h := hx3)) ?_
 rintro _ _ ⟨rfl,rfl⟩
 refine rd ⟨rfl,k_a (le_w [true,true]) (le_w [true,true]),?_⟩
 refine x_e rfl<|rc (hc_60 (set0 := s1.Evacuating) (i1 := x4)) ?_
 rintro _ _ ⟨rfl,rfl⟩
 refine rd ⟨rfl,k_a (le_w [true,true]) (le_w [true,true]),?_⟩
 refine xp [(6,.bool false),(12,.bool (cellplaneref04_Has s1.Evacuating x4))] fun fr => x_p rfl<|vd<|xk [(6,.bool (cellplaneref04_Has s1.Evacuating x4))] fun fr => rd ?_
 repeat refine rd ?_
 repeat refine rd ?_
 obtain rfl := h_out h
 exact ret_of (RV.tmp RV.nil) (le_w [false,false]) ⟨rfl,rfl⟩
theorem hc_89 {g_c0 : gConfig} {S_c0 : St} (hS_c0 : Le ⟨ρ,L⟩ S_c0) (c0 : Config) (a1 : Int) (b2 : Int) (h_c0 : Sl_Config S_c0 c0 g_c0) {r : Bool} (h : cellplaneref12_together c0 a1 b2 = some r) : HC Tryz.prog 89 #[.agg (en_Config c0 g_c0).toArray,ii a1,ii b2] ⟨ρ,L⟩ (fun v S' => v = .bool r ∧ S' = ⟨ρ,L⟩) := by
 replace h := h_in h
 refine HC.intro (N := 20) (args := [_,_,_]) tt_ok Tryz.func89 rfl (by decide +kernel) rfl (Nat.le_of_ble_eq_true rfl)<|rb<|r_bx (en_Config c0 g_c0) (by kernel_rfl) fun bq1 => rd<|rb ?_
 replace h := h_j h; obtain ⟨K7,h,hK8⟩ := h
 refine r_meet (fun fr S => ∃ (x6 : Bool),∃ fr0,K7 x6 = some r ∧ fr = updL [(6,.bool x6)] fr0 ∧ S = ⟨ρ,L⟩) ?_ ?_
 ·apply r_iteh h<;>clear h<;>intro h
  ·refine kp [(1,ii a1),(2,ii b2),(3,pp bq1 0),(6,.bool false),(9,.bool true),(10,ii b2)] fun fr => r_T rfl ?_
   apply r_iteh h<;>clear h<;>intro h
   ·refine ln 0 tt_ok (en_Config c0 g_c0) ta_30 rfl<|r_T rfl<|r_T rfl<|r_T rfl ?_
    replace h := h_b h; obtain ⟨x5,hx4,h⟩ := h
    refine rc (hc_87 (g_c0 := g_c0) (c0 := c0) (a1 := a1) (b2 := b2) (hS_c0 := by exact (le_d 1).trans hS_c0) (h_c0 :=h_c0) (h := hx4)) ?_
    rintro _ _ ⟨rfl,rfl⟩
    exact r_T rfl<|kr [(6,.bool (!x5))] fun fr => r_le (le_w [false])<|rd ⟨!x5,_,h,fe _,by kernel_rfl⟩
   exact r_F rfl<|r_F rfl<|r_F rfl<|r_F rfl<|r_F rfl<|kp [(6,.bool false),(19,.bool false)] fun fr => r_le (le_w [false])<|rd ⟨false,_,h,fe _,by kernel_rfl⟩
  exact kp [(1,ii a1),(2,ii b2),(3,pp bq1 0),(6,.bool false),(9,.bool false),(10,undef)] fun fr => r_F rfl<|r_F rfl<|r_F rfl<|r_F rfl<|r_F rfl<|r_F rfl<|r_F rfl<|r_F rfl<|kp [(6,.bool false),(19,.bool false)] fun fr => r_le (le_w [false])<|rd ⟨false,_,h,fe _,by kernel_rfl⟩
 clear h
 rintro fr S ⟨x6,fr,h,rfl,rfl⟩
 replace h := hK8 _ h
 refine rd ?_
 repeat refine rd ?_
 repeat refine rd ?_
 obtain rfl := h_out h
 exact ret_of (RV.tmp RV.nil) (Le.refl _) ⟨rfl,rfl⟩
theorem hc_133 {A_l0 : Option Addr} {c_l0 : Nat}  (l0 : (List Int)) (i1 : Int) (n2 : Int)  {r : (List Int)} (h : cellplaneref11_add l0 i1 n2 = some r) : HC Tryz.prog 133 #[.slice A_l0 l0.length c_l0,ii i1,ii n2] ⟨ρ,.row A_l0 l0.length c_l0 3 1 (fl eI64.en l0) :: L⟩ (fun v S' => v = .tuple #[] ∧ S' = ⟨ρ,.row A_l0 r.length c_l0 3 1 (fl eI64.en r) :: L⟩ ∧ r.length = l0.length) := by
 replace h := h_in h
 refine HC.intro (N := 23) (args := [_,_,_]) tt_ok Tryz.func133 rfl (by decide +kernel) rfl (Nat.le_of_ble_eq_true rfl)<|rb<|r_meet (fun fr S => ∃ fr0,fr = updL [(0,.slice A_l0 l0.length c_l0),(1,ii i1),(2,ii n2),(13,.bool ((decide (0 ≤ i1)) && (decide (i1 < (l0.length : Int)))))] fr0 ∧ S = ⟨ρ,.row A_l0 l0.length c_l0 3 1 (fl eI64.en l0) :: L⟩) ?_ ?_
 ·refine r_ite (fun (hb1 : (decide (0 ≤ i1)) = true) => ?_) (fun (hb1 : (decide (0 ≤ i1)) = false) => ?_)
  ·exact r_T rfl<|kp [(0,.slice A_l0 l0.length c_l0),(1,ii i1),(2,ii n2),(8,.bool true),(9,ii i1),(10,.slice A_l0 l0.length c_l0)] fun fr => r_T rfl<|r_T rfl<|rd ⟨_,fr_eq _ (by (try rw [hb1]); kernel_rfl),by kernel_rfl⟩
  exact r_F rfl<|kp [(0,.slice A_l0 l0.length c_l0),(1,ii i1),(2,ii n2),(8,.bool false),(9,undef),(10,undef)] fun fr => r_F rfl<|r_F rfl<|r_F rfl<|rd ⟨_,fr_eq _ (by (try rw [hb1]); kernel_rfl),by kernel_rfl⟩
 rintro fr S ⟨fr,rfl,rfl⟩
 refine rd ?_
 apply r_iteh h<;>clear h<;>intro h
 ·replace h := h_b h; obtain ⟨x3,hx4,h⟩ := h
  refine r_el hx4 (rd_row 0 rfl)<|r_lec (E := eI64) tt_ok (v := ii x3) (idx_get hx4) (rd_row 0 rfl) ts_3 rfl (pl0 _ _) (by kernel_rfl)<|r_num (e' := w64 (x3 + n2)) rfl<|r_el hx4 (rd_row 0 rfl)<|kp [(21,ii (w64 (x3 + n2))),(22,.pointer (some ((adr A_l0).add (i1.toNat * 1))))] fun fr => r_sec 0 (E := eI64) tt_ok (w64 (x3 + n2)) (idx_get hx4) (f1 ts_3) rfl rfl (pl0 _ _) (by kernel_rfl) (by kernel_rfl) (List.cons_ne_nil _ _) ?_
  rw [← @List.length_set _ l0 i1.toNat (w64 (x3 + n2))]
  repeat refine rd ?_
  obtain rfl := h_out h
  exact ret_of RV.nil (Le.refl _) ⟨rfl,rfl,(by simp)⟩
 repeat refine rd ?_
 obtain rfl := h_out h
 exact ret_of RV.nil (Le.refl _) ⟨rfl,rfl,(by simp)⟩
theorem hc_126 {g_c0 : gConfig} {g_s1 : gState} {S_c0 : St} (hS_c0 : Le ⟨ρ,L⟩ S_c0) {S_s1 : St} (hS_s1 : Le ⟨ρ,L⟩ S_s1) (c0 : Config) (s1 : State) (h_c0 : Sl_Config S_c0 c0 g_c0) (h_s1 : Sl_State S_s1 s1 g_s1) {r : (List Int)} (h : cellplaneref11_Booked c0 s1 = some r) : HC Tryz.prog 126 #[.agg (en_Config c0 g_c0).toArray,.agg (en_State s1 g_s1).toArray] ⟨ρ,L⟩ (fun v S' => ∃ (Aq1_0 : Option Addr),∃ (cq1_0 : Nat),v = .slice Aq1_0 r.length cq1_0 ∧ S' = ⟨ρ,.row Aq1_0 r.length cq1_0 3 1 (fl eI64.en r) :: L⟩) := by
 replace h := h_in h
 refine HC.intro (N := 61) (args := [_,_]) tt_ok Tryz.func126 rfl (by decide +kernel) rfl (Nat.le_of_ble_eq_true rfl)<|rb<|r_bx (en_Config c0 g_c0) (by kernel_rfl) fun bq1 => r_bx (en_State s1 g_s1) (by kernel_rfl) fun bq2 => rd<|rb<|ld 1 tt_ok (v := .slice g_c0.Cells.1 c0.Cells.length g_c0.Cells.2) ts_26 rfl ?_
 replace h := h_b h; obtain ⟨xs3,hz4,h⟩ := h
 refine r_mks tt_ok 0 (E := eI64) hz4 te_22 ti_3 rfl (by kernel_rfl) rfl rfl fun bq5 => rd<|rb<|rb<|kr [(2,pp bq1 0),(3,pp bq2 0),(5,.slice (some ⟨bq5,0,none⟩) xs3.length xs3.length),(6,ii 0)] fun fr => rd<|rb ?_
 replace h := h_l h; obtain ⟨K114,n115,h,hK116⟩ := h
 refine r_loop (fun n fr S => ∃ (xs78 : (List Int)),∃ (x80 : Int),∃ fr0,(runN (cellplaneref11_Booked.b1 s1 c0) n (xs78,x80)).bind K114 = some r ∧ fr = updL [(2,pp bq1 0),(3,pp bq2 0),(5,.slice (some ⟨bq5,0,none⟩) xs78.length xs3.length),(6,ii x80)] fr0 ∧ S = ⟨ρ,.row (some ⟨bq5,0,none⟩) xs78.length xs3.length 3 1 (fl eI64.en xs78) :: .obj bq2 (en_State s1 g_s1) 38 :: .obj bq1 (en_Config c0 g_c0) 30 :: L⟩) n115 ⟨xs3,0,_,h,fe _,by kernel_rfl⟩ ?_
 clear h
 rintro n115 fr S ⟨xs78,x80,fr,h,rfl,rfl⟩
 replace h := h_r h; obtain ⟨m117,hm117,h⟩ := h
 refine rb<|rb<|ld 1 tt_ok (v := .slice g_s1.Tenants.1 s1.Tenants.length g_s1.Tenants.2) ts_35 rfl<|rd ?_
 apply r_iteh h<;>clear h<;>intro h
 ·refine rd<|rb<|rb<|rb ?_
  replace h := h_j h; obtain ⟨K94,h,hK95⟩ := h
  refine r_meet (fun fr S => ∃ (y91 : TenantState),∃ (y93 : Tenant),∃ (bq90 : Nat),∃ (bq92 : Nat),∃ fr0,K94 (y91,y93) = some r ∧ fr = updL [(2,pp bq1 0),(3,pp bq2 0),(5,.slice (some ⟨bq5,0,none⟩) xs78.length xs3.length),(6,ii x80),(7,pp bq90 0),(8,pp bq92 0)] fr0 ∧ S = ⟨ρ,.obj bq90 (en_TenantState y91) 58 :: .obj bq92 (en_Tenant y93) 77 :: .row (some ⟨bq5,0,none⟩) xs78.length xs3.length 3 1 (fl eI64.en xs78) :: .obj bq2 (en_State s1 g_s1) 38 :: .obj bq1 (en_Config c0 g_c0) 30 :: L⟩) ?_ ?_
  ·refine r_mix tt_ok hm_ok _ _ [] (.pure 0 (.vb 1 (.pure 2 (.vb 3 (.vb 4 (.pure 5 (.vb 6 (.pure 7 (.vb 8 (.vb 9 (.two 10 11 (.eff 11 (.eff 12 (.eff 13 .nil))) (.eff 10 (.eff 12 (.eff 13 .nil)))))))))))))) (le_w [true,true,true]) (le_w [true,true,true]) ?_ ?_
   ·decide +kernel
   refine x_p rfl<|vd<|x_vb rfl<|vl 1 tt_ok (v := .slice g_s1.Tenants.1 s1.Tenants.length g_s1.Tenants.2) ts_35 rfl<|vd<|x_p rfl<|vd<|x_vb rfl ?_
   replace h := h_b h; obtain ⟨x82,hx83,h⟩ := h
   refine v_el hx83 ((h_s1.1).rd.mono ((le_d 3).trans hS_s1))<|vd<|x_vb rfl<|v_len (E := eTenantState) tt_ok (en_TenantState x82) (idx_get hx83) ((h_s1.1).rd.mono ((le_d 3).trans hS_s1)) ta_58 rfl (pl0 _ _) (by kernel_rfl) (by kernel_rfl)<|vd<|x_p rfl<|vd<|x_vb rfl<|vl 2 tt_ok (v := .slice g_c0.Tenants.1 c0.Tenants.length g_c0.Tenants.2) ts_27 rfl<|vd<|x_p rfl<|vd<|x_vb rfl ?_
   replace h := h_b h; obtain ⟨x84,hx85,h⟩ := h
   refine v_el hx85 ((h_c0.2.2.1).rd.mono ((le_d 3).trans hS_c0))<|vd<|xp [(2,pp bq1 0),(3,pp bq2 0),(5,.slice (some ⟨bq5,0,none⟩) xs78.length xs3.length),(6,ii x80),(24,.agg (en_TenantState x82).toArray),(28,.pointer (some ((adr g_c0.Tenants.1).add (x80.toNat * 7))))] fun fr => x_vb rfl<|v_len (E := eTenant) tt_ok (en_Tenant x84) (idx_get hx85) ((h_c0.2.2.1).rd.mono ((le_d 3).trans hS_c0)) ta_77 rfl (pl0 _ _) (by kernel_rfl) (by kernel_rfl)<|vd<|x_2 rfl rfl ?_ ?_
   ·refine r_al tt_ok (en_TenantState (⟨false,false,0,0,0,0,0,(⟨0,0,0,0,0⟩ : Window)⟩ : TenantState)) ti_58 (by kernel_rfl) fun bq86 => rd ⟨rfl,k_a (le_w [false,true,true,true]) (le_w [false,true,true,true]),?_⟩
    refine x_e rfl<|r_al tt_ok (en_Tenant (⟨0,0,0,0,0,0,false⟩ : Tenant)) ti_77 (by kernel_rfl) fun bq87 => rd ⟨rfl,k_a (le_w [false,false,true,true,true]) (le_w [false,false,true,true,true]),?_⟩
    refine x_e rfl<|st 1 tt_ok (en_TenantState x82) (fn ta_58) rfl<|rd ⟨rfl,k_a (le_w [false,false,true,true,true]) (le_w [false,false,true,true,true]),?_⟩
    refine x_e rfl<|st 0 tt_ok (en_Tenant x84) (fn ta_77) rfl<|rd ⟨rfl,k_a (le_w [false,false,true,true,true]) (le_w [false,false,true,true,true]),?_⟩
    exact xk [(2,pp bq1 0),(3,pp bq2 0),(5,.slice (some ⟨bq5,0,none⟩) xs78.length xs3.length),(6,ii x80),(7,pp bq86 0),(8,pp bq87 0)] fun fr => r_le ((le_mv 4).trans ((le_mv 4).trans ((le_mv 4).trans ((le_mv 3).trans (le_mv 4)))))<|rd ⟨x82,x84,bq86,bq87,_,h,fe _,by kernel_rfl⟩
   refine r_al tt_ok (en_Tenant (⟨0,0,0,0,0,0,false⟩ : Tenant)) ti_77 (by kernel_rfl) fun bq88 => rd ⟨rfl,k_a (le_w [false,true,true,true]) (le_w [false,true,true,true]),?_⟩
   refine x_e rfl<|r_al tt_ok (en_TenantState (⟨false,false,0,0,0,0,0,(⟨0,0,0,0,0⟩ : Window)⟩ : TenantState)) ti_58 (by kernel_rfl) fun bq89 => rd ⟨rfl,k_a (le_w [false,false,true,true,true]) (le_w [false,false,true,true,true]),?_⟩
   refine x_e rfl<|st 0 tt_ok (en_TenantState x82) (fn ta_58) rfl<|rd ⟨rfl,k_a (le_w [false,false,true,true,true]) (le_w [false,false,true,true,true]),?_⟩
   refine x_e rfl<|st 1 tt_ok (en_Tenant x84) (fn ta_77) rfl<|rd ⟨rfl,k_a (le_w [false,false,true,true,true]) (le_w [false,false,true,true,true]),?_⟩
   exact xk [(2,pp bq1 0),(3,pp bq2 0),(5,.slice (some ⟨bq5,0,none⟩) xs78.length xs3.length),(6,ii x80),(7,pp bq89 0),(8,pp bq88 0)] fun fr => rd ⟨x82,x84,bq89,bq88,_,h,fe _,by kernel_rfl⟩
  clear h
  rintro fr S ⟨y91,y93,bq90,bq92,fr,h,rfl,rfl⟩
  replace h := hK95 _ h
  refine rd<|rb<|rb<|ld 0 tt_ok (v := .bool y91.Placed) ts_4 rfl<|rd ?_
  apply r_iteh h<;>clear h<;>intro h
  ·exact rd<|rd<|rd<|r_num (e' := w64 (x80 + 1)) rfl<|r_le (le_w [false,false,true,true,true])<|rd ⟨m117,lt_s hm117,xs78,w64 (x80 + 1),_,h,fe _,by kernel_rfl⟩
  refine rd<|rb ?_
  replace h := h_j h; obtain ⟨K106,h,hK107⟩ := h
  refine r_meet (fun fr S => ∃ (xs104 : (List Int)),∃ fr0,K106 xs104 = some r ∧ fr = updL [(2,pp bq1 0),(3,pp bq2 0),(5,.slice (some ⟨bq5,0,none⟩) xs104.length xs3.length),(6,ii x80),(7,pp bq90 0),(8,pp bq92 0)] fr0 ∧ S = ⟨ρ,.row (some ⟨bq5,0,none⟩) xs104.length xs3.length 3 1 (fl eI64.en xs104) :: .obj bq90 (en_TenantState y91) 58 :: .obj bq92 (en_Tenant y93) 77 :: .obj bq2 (en_State s1 g_s1) 38 :: .obj bq1 (en_Config c0 g_c0) 30 :: L⟩) ?_ ?_
  ·refine rb<|ld 0 tt_ok (v := .bool y91.Shed) ts_4 rfl<|kr [(2,pp bq1 0),(3,pp bq2 0),(5,.slice (some ⟨bq5,0,none⟩) xs78.length xs3.length),(6,ii x80),(7,pp bq90 0),(8,pp bq92 0),(35,.bool (!y91.Shed))] fun fr => rd ?_
   apply r_iteh h<;>clear h<;>intro h
   ·refine rb<|ld 0 tt_ok (v := ii y91.Home) ts_3 rfl<|ld 1 tt_ok (v := ii y93.Load) ts_3 rfl<|r_le (le_mv 2) ?_
    replace h := h_b h; obtain ⟨xs99,hx98,h⟩ := h
    refine rc (hc_133 (A_l0 := (some ⟨bq5,0,none⟩)) (c_l0 := xs3.length) (l0 := xs78) (i1 := y91.Home) (n2 := y93.Load) (h := hx98)) ?_
    rintro _ _ ⟨rfl,rfl,hl100⟩
    rw [← hl100]
    refine rd<|ld 1 tt_ok (v := ii y91.Target) ts_3 rfl<|kp [(2,pp bq1 0),(3,pp bq2 0),(5,.slice (some ⟨bq5,0,none⟩) xs99.length xs3.length),(6,ii x80),(7,pp bq90 0),(8,pp bq92 0),(42,.slice (some ⟨bq5,0,none⟩) xs99.length xs3.length),(44,ii y91.Target)] fun fr => ld 2 tt_ok (v := ii y93.Load) ts_3 rfl ?_
    replace h := h_b h; obtain ⟨xs102,hx101,h⟩ := h
    refine rc (hc_133 (A_l0 := (some ⟨bq5,0,none⟩)) (c_l0 := xs3.length) (l0 := xs99) (i1 := y91.Target) (n2 := y93.Load) (h := hx101)) ?_
    rintro _ _ ⟨rfl,rfl,hl103⟩
    rw [← hl103]
    exact rd ⟨xs102,_,h,fe _,by kernel_rfl⟩
   exact r_le ((le_mv 4).trans ((le_mv 4).trans ((le_mv 3).trans ((le_mv 3).trans (le_mv 4)))))<|rd ⟨xs78,_,h,fe _,by kernel_rfl⟩
  clear h
  rintro fr S ⟨xs104,fr,h,rfl,rfl⟩
  replace h := hK107 _ h
  refine rd<|rb<|ld 1 tt_ok (v := ii y91.Standby) ts_3 rfl<|ld 2 tt_ok (v := ii y93.Shadow) ts_3 rfl ?_
  replace h := h_b h; obtain ⟨xs109,hx108,h⟩ := h
  refine rc (hc_133 (A_l0 := (some ⟨bq5,0,none⟩)) (c_l0 := xs3.length) (l0 := xs104) (i1 := y91.Standby) (n2 := y93.Shadow) (h := hx108)) ?_
  rintro _ _ ⟨rfl,rfl,hl110⟩
  rw [← hl110]
  refine rd<|ld 1 tt_ok (v := ii y91.Next) ts_3 rfl<|kp [(2,pp bq1 0),(3,pp bq2 0),(5,.slice (some ⟨bq5,0,none⟩) xs109.length xs3.length),(6,ii x80),(8,pp bq92 0),(54,.slice (some ⟨bq5,0,none⟩) xs109.length xs3.length),(56,ii y91.Next)] fun fr => ld 2 tt_ok (v := ii y93.Shadow) ts_3 rfl ?_
  replace h := h_b h; obtain ⟨xs112,hx111,h⟩ := h
  refine rc (hc_133 (A_l0 := (some ⟨bq5,0,none⟩)) (c_l0 := xs3.length) (l0 := xs109) (i1 := y91.Next) (n2 := y93.Shadow) (h := hx111)) ?_
  rintro _ _ ⟨rfl,rfl,hl113⟩
  rw [← hl113]
  exact rd<|rd<|r_num (e' := w64 (x80 + 1)) rfl<|r_le (le_w [true,false,false,true,true])<|rd ⟨m117,lt_s hm117,xs112,w64 (x80 + 1),_,h,fe _,by kernel_rfl⟩
 refine rd<|rd ?_
 replace h := h_m h
 subst hK116
 refine rd<|rb<|rd ?_
 repeat refine rd ?_
 repeat refine rd ?_
 obtain rfl := h_out h
 exact ret_of (RV.tmp RV.nil) (le_w [true,false,false]) ⟨(some ⟨bq5,0,none⟩),xs3.length,rfl,rfl⟩
theorem hc_116 {g_c0 : gConfig} {g_s1 : gState} {S_c0 : St} (hS_c0 : Le ⟨ρ,L⟩ S_c0) {S_s1 : St} (hS_s1 : Le ⟨ρ,L⟩ S_s1) (c0 : Config) (s1 : State) (h_c0 : Sl_Config S_c0 c0 g_c0) (h_s1 : Sl_State S_s1 s1 g_s1) {r : (List Int)} (h : cellplaneref11_Over c0 s1 = some r) : HC Tryz.prog 116 #[.agg (en_Config c0 g_c0).toArray,.agg (en_State s1 g_s1).toArray] ⟨ρ,L⟩ (fun v S' => ∃ (Aq1_0 : Option Addr),∃ (cq1_0 : Nat),v = .slice Aq1_0 r.length cq1_0 ∧ S' = ⟨ρ,.row Aq1_0 r.length cq1_0 3 1 (fl eI64.en r) :: L⟩) := by
 replace h := h_in h
 refine HC.intro (N := 33) (args := [_,_]) tt_ok Tryz.func116 rfl (by decide +kernel) rfl (Nat.le_of_ble_eq_true rfl)<|rb<|r_bx (en_Config c0 g_c0) (by kernel_rfl) fun bq1 => r_bx (en_State s1 g_s1) (by kernel_rfl) fun bq2 => rd<|rb<|rd<|rb<|ln 1 tt_ok (en_Config c0 g_c0) ta_30 rfl<|ln 0 tt_ok (en_State s1 g_s1) ta_38 rfl ?_
 replace h := h_b h; obtain ⟨xs4,hx3,h⟩ := h
 refine rc (hc_126 (g_c0 := g_c0) (c0 := c0) (g_s1 := g_s1) (s1 := s1) (hS_c0 := by exact (le_d 2).trans hS_c0) (h_c0 :=h_c0) (hS_s1 := by exact (le_d 2).trans hS_s1) (h_s1 :=h_s1) (h := hx3)) ?_
 rintro _ _ ⟨A5,c6,rfl,rfl⟩
 refine rd<|rb<|rb<|kr [(2,pp bq1 0),(5,.slice none 0 0),(6,.slice A5 xs4.length c6),(7,ii 0)] fun fr => rd<|rb ?_
 replace h := h_l h; obtain ⟨K60,n61,h,hK62⟩ := h
 refine r_le ((le_nil 3 1).trans (le_w [true,true,false,true]))<|r_loop (fun n fr S => ∃ (xs43 : (List Int)),∃ (x47 : Int),∃ (A44 : Option Addr),∃ (c45 : Nat),∃ fr0,(runN (cellplaneref11_Over.b1 xs4 c0) n (xs43,x47)).bind K60 = some r ∧ fr = updL [(2,pp bq1 0),(5,.slice A44 xs43.length c45),(6,.slice A5 xs4.length c6),(7,ii x47)] fr0 ∧ S = ⟨ρ,.row A44 xs43.length c45 3 1 (fl eI64.en xs43) :: .row A5 xs4.length c6 3 1 (fl eI64.en xs4) :: .obj bq1 (en_Config c0 g_c0) 30 :: L⟩) n61 ⟨[],0,none,0,_,h,fe _,by kernel_rfl⟩ ?_
 clear h
 rintro n61 fr S ⟨xs43,x47,A44,c45,fr,h,rfl,rfl⟩
 replace h := h_r h; obtain ⟨m63,hm63,h⟩ := h
 refine rb<|rb<|rd ?_
 apply r_iteh h<;>clear h<;>intro h
 ·refine rd<|rb<|rb<|rb<|r_mix tt_ok hm_ok _ _ [] (.pure 0 (.pure 1 (.vb 2 (.vb 3 (.pure 4 (.vb 5 (.pure 6 (.vb 7 (.pure 8 (.vb 9 (.pure 10 .nil))))))))))) (le_w [true,true,true]) (le_w [true,true,true]) ?_ ?_
  ·decide +kernel
  refine x_p rfl<|vd<|x_p rfl<|vd<|x_vb rfl ?_
  replace h := h_b h; obtain ⟨x49,hx50,h⟩ := h
  refine v_el hx50 (rd_row 1 rfl)<|vd<|x_vb rfl<|v_lec (E := eI64) tt_ok (v := ii x49) (idx_get hx50) (rd_row 1 rfl) ts_3 rfl (pl0 _ _) (by kernel_rfl)<|vd<|x_p rfl<|vd<|xp [(2,pp bq1 0),(5,.slice A44 xs43.length c45),(6,.slice A5 xs4.length c6),(7,ii x47),(20,ii x49),(21,pp bq1 2)] fun fr => x_vb rfl<|vl 2 tt_ok (v := .slice g_c0.Cells.1 c0.Cells.length g_c0.Cells.2) ts_26 rfl<|vd<|x_p rfl<|vd ?_
  refine x_vb rfl ?_
  replace h := h_b h; obtain ⟨x51,hx52,h⟩ := h
  refine v_el hx52 ((h_c0.2.1).rd.mono ((le_d 3).trans hS_c0))<|vd<|x_p rfl<|vd<|x_vb rfl<|v_lec (E := eCell) tt_ok (v := ii x51.Capacity) (idx_get hx52) ((h_c0.2.1).rd.mono ((le_d 3).trans hS_c0)) ts_3 rfl (pl1 _ _ _) (by kernel_rfl)<|vd<|x_p rfl<|vd<|xk [(2,pp bq1 0),(5,.slice A44 xs43.length c45),(6,.slice A5 xs4.length c6),(7,ii x47),(27,.bool (decide (x51.Capacity < x49)))] fun fr => rd ?_
  apply r_iteh h<;>clear h<;>intro h
  ·refine r_bs tt_ok (fl eI64.en [x47]) te_22 ti_3 (by kernel_rfl) (by kernel_rfl) (by kernel_rfl) (by kernel_rfl) fun bq54 => ?_
   replace h := h_b h; obtain ⟨xs55,ha56,h⟩ := h
   refine r_app 1 (E := eI64) (xs := xs43) (ys := [x47]) tt_ok ha56 (rd_row 0 rfl) rfl te_22 ti_3 rfl (by kernel_rfl) rfl (fun A57 c58 => ?_)
   exact rd<|rd<|r_num (e' := w64 (x47 + 1)) rfl<|r_le (le_w [false,true,true,true])<|rd ⟨m63,lt_s hm63,xs55,w64 (x47 + 1),A57,c58,_,h,fe _,by kernel_rfl⟩
  exact rd<|rd<|r_num (e' := w64 (x47 + 1)) rfl<|rd ⟨m63,lt_s hm63,xs43,w64 (x47 + 1),A44,c45,_,h,fe _,by kernel_rfl⟩
 refine rd<|rd ?_
 replace h := h_m h
 subst hK62
 refine rd<|rb<|rd ?_
 repeat refine rd ?_
 repeat refine rd ?_
 obtain rfl := h_out h
 exact ret_of (RV.tmp RV.nil) (le_w [true,false,false]) ⟨A44,c45,rfl,rfl⟩
theorem hc_90 {g_c0 : gConfig} {g_s1 : gState} {S_c0 : St} (hS_c0 : Le ⟨ρ,L⟩ S_c0) (c0 : Config) (s1 : State) (h_c0 : Sl_Config S_c0 c0 g_c0) {r : (State × Int)} (h : cellplaneref12_fit c0 s1 = some r) : HC Tryz.prog 90 #[.agg (en_Config c0 g_c0).toArray,.agg (en_State s1 g_s1).toArray] ⟨ρ,.row g_s1.Tenants.1 s1.Tenants.length g_s1.Tenants.2 58 12 (fl eTenantState.en s1.Tenants) :: .row g_s1.Cells.1 s1.Cells.length g_s1.Cells.2 54 4 (fl eCellState.en s1.Cells) :: L⟩ (fun v S' => ∃ (Aq1_0 : Option Addr),∃ (cq1_0 : Nat),∃ (Aq1_1 : Option Addr),∃ (cq1_1 : Nat),v = .tuple #[.agg (en_State r.1 (⟨(Aq1_0,cq1_0),(Aq1_1,cq1_1)⟩)).toArray,ii r.2] ∧ S' = ⟨ρ,.row Aq1_0 r.1.Tenants.length cq1_0 58 12 (fl eTenantState.en r.1.Tenants) :: .row Aq1_1 r.1.Cells.length cq1_1 54 4 (fl eCellState.en r.1.Cells) :: L⟩) := by
 replace h := h_in h
 refine HC.intro (N := 13) (args := [_,_]) tt_ok Tryz.func90 rfl (by decide +kernel) rfl (Nat.le_of_ble_eq_true rfl)<|rb<|r_bx (en_Config c0 g_c0) (by kernel_rfl) fun bq1 => r_bx (en_State s1 g_s1) (by kernel_rfl) fun bq2 => r_al tt_ok (en_State (⟨0,0,[],[],0,0,0,0⟩ : State) (⟨(none,0),(none,0)⟩)) ti_38 (by kernel_rfl) fun bq3 => rd<|rb<|rb<|ln 2 tt_ok (en_Config c0 g_c0) ta_30 rfl<|ln 1 tt_ok (en_State s1 g_s1) ta_38 rfl ?_
 replace h := h_b h; obtain ⟨xs5,hx4,h⟩ := h
 refine rc (hc_116 (g_c0 := g_c0) (c0 := c0) (g_s1 := g_s1) (s1 := s1) (hS_c0 := by exact (le_d 5).trans hS_c0) (h_c0 :=h_c0) (hS_s1 := by exact Le.refl _) (h_s1 := by exact ⟨sl_row 3 rfl,sl_row 4 rfl⟩) (h := hx4)) ?_
 rintro _ _ ⟨A6,c7,rfl,rfl⟩
 refine kr [(3,pp bq2 0),(4,pp bq3 0),(10,.bool (decide (0 < (xs5.length : Int))))] fun fr => rd ?_
 apply r_iteh h<;>clear h<;>intro h
 ·refine rb<|r_bd tt_ok (en_State (⟨0,0,[],[],0,0,0,0⟩ : State) (⟨(none,0),(none,0)⟩)) ti_38 tp_38 (by kernel_rfl)<|st 1 tt_ok (en_State (⟨0,0,[],[],0,0,0,0⟩ : State) (⟨(none,0),(none,0)⟩)) (fn ta_38) rfl<|rd ?_
  repeat refine rd ?_
  repeat refine rd ?_
  obtain rfl := h_out h
  exact ret_of (rv_cell 1 tt_ok (by kernel_rfl) ta_38 rfl rfl (RV.tmp RV.nil)) ((le_nil 54 4).trans ((le_nil 58 12).trans (le_w [true,true,false,false,false,false,false,false]))) ⟨none,0,none,0,rfl,rfl⟩
 refine rd<|rb<|ln 2 tt_ok (en_State s1 g_s1) ta_38 rfl<|st 1 tt_ok (en_State s1 g_s1) (fn ta_38) rfl<|rd ?_
 repeat refine rd ?_
 repeat refine rd ?_
 obtain rfl := h_out h
 exact ret_of (rv_cell 1 tt_ok (by kernel_rfl) ta_38 rfl rfl (RV.tmp RV.nil)) (le_w [false,false,false,false,true,true]) ⟨g_s1.Tenants.1,g_s1.Tenants.2,g_s1.Cells.1,g_s1.Cells.2,rfl,rfl⟩
theorem hc_49 {g_c0 : gConfig} {g_s1 : gState} {S_c0 : St} (hS_c0 : Le ⟨ρ,L⟩ S_c0) (c0 : Config) (s1 : State) (e2 : Entry) (h_c0 : Sl_Config S_c0 c0 g_c0) {r : (State × Int)} (h : cellplaneref12_place c0 s1 e2 = some r) : HC Tryz.prog 49 #[.agg (en_Config c0 g_c0).toArray,.agg (en_State s1 g_s1).toArray,.agg (en_Entry e2).toArray] ⟨ρ,.row g_s1.Tenants.1 s1.Tenants.length g_s1.Tenants.2 58 12 (fl eTenantState.en s1.Tenants) :: .row g_s1.Cells.1 s1.Cells.length g_s1.Cells.2 54 4 (fl eCellState.en s1.Cells) :: L⟩ (fun v S' => ∃ (Aq1_0 : Option Addr),∃ (cq1_0 : Nat),∃ (Aq1_1 : Option Addr),∃ (cq1_1 : Nat),v = .tuple #[.agg (en_State r.1 (⟨(Aq1_0,cq1_0),(Aq1_1,cq1_1)⟩)).toArray,ii r.2] ∧ S' = ⟨ρ,.row Aq1_0 r.1.Tenants.length cq1_0 58 12 (fl eTenantState.en r.1.Tenants) :: .row Aq1_1 r.1.Cells.length cq1_1 54 4 (fl eCellState.en r.1.Cells) :: L⟩) := by
 replace h := h_in h
 refine HC.intro (N := 119) (args := [_,_,_]) tt_ok Tryz.func49 rfl (by decide +kernel) rfl (Nat.le_of_ble_eq_true rfl)<|rb<|r_bx (en_Config c0 g_c0) (by kernel_rfl) fun bq1 => r_bx (en_State s1 g_s1) (by kernel_rfl) fun bq2 => r_bx (en_Entry e2) (by kernel_rfl) fun bq3 => r_al tt_ok (en_State (⟨0,0,[],[],0,0,0,0⟩ : State) (⟨(none,0),(none,0)⟩)) ti_38 (by kernel_rfl) fun bq4 => rd<|rb<|ld 2 tt_ok (v := .slice g_s1.Tenants.1 s1.Tenants.length g_s1.Tenants.2) ts_35 rfl<|ld 1 tt_ok (v := ii e2.Tenant) ts_3 rfl<|kp [(3,pp bq1 0),(4,pp bq2 0),(5,pp bq3 0),(6,pp bq4 0),(11,.slice g_s1.Tenants.1 s1.Tenants.length g_s1.Tenants.2),(13,ii e2.Tenant)] fun fr => ?_
 replace h := h_b h; obtain ⟨x5,hx6,h⟩ := h
 refine r_el hx6 (rd_row 4 rfl)<|rd<|rb<|ld 1 tt_ok (v := ii e2.Other) ts_3 rfl<|rd<|rb<|rb<|rb<|r_lec (E := eTenantState) tt_ok (v := .bool x5.Placed) (idx_get hx6) (rd_row 4 rfl) ts_4 rfl (pl1 _ _ _) (by kernel_rfl)<|kp [(3,pp bq1 0),(4,pp bq2 0),(5,pp bq3 0),(6,pp bq4 0),(8,.pointer (some ((adr g_s1.Tenants.1).add (e2.Tenant.toNat * 12)))),(9,.bool (decide (0 ≤ e2.Other))),(22,.bool x5.Placed)] fun fr => rd ?_
 apply r_iteh h<;>clear h<;>intro h
 ·refine rb<|rc (hc_48 (e0 := 4)) ?_
  rintro _ _ ⟨A8,c9,A11,c12,rfl,rfl⟩
  refine st 2 tt_ok (en_State ((cellplaneref12_no 4).1) (⟨(A8,c9),(A11,c12)⟩)) (fn ta_38) rfl<|rd ?_
  repeat refine rd ?_
  repeat refine rd ?_
  obtain rfl := h_out h
  exact ret_of (rv_cell 2 tt_ok (by kernel_rfl) ta_38 rfl rfl (RV.tmp RV.nil)) (le_w [true,true,false,false,false,false,false,false]) ⟨A8,c9,A11,c12,rfl,rfl⟩
 refine rb ?_
 replace h := h_j h; obtain ⟨K21,h,hK22⟩ := h
 refine r_meet (fun fr S => ∃ (x20 : Bool),∃ fr0,K21 x20 = some r ∧ fr = updL [(3,pp bq1 0),(4,pp bq2 0),(5,pp bq3 0),(6,pp bq4 0),(8,.pointer (some ((adr g_s1.Tenants.1).add (e2.Tenant.toNat * 12)))),(9,.bool (decide (0 ≤ e2.Other))),(26,.bool x20)] fr0 ∧ S = ⟨ρ,.obj bq4 (en_State (⟨0,0,[],[],0,0,0,0⟩ : State) (⟨(none,0),(none,0)⟩)) 38 :: .obj bq3 (en_Entry e2) 45 :: .obj bq2 (en_State s1 g_s1) 38 :: .obj bq1 (en_Config c0 g_c0) 30 :: .row g_s1.Tenants.1 s1.Tenants.length g_s1.Tenants.2 58 12 (fl eTenantState.en s1.Tenants) :: .row g_s1.Cells.1 s1.Cells.length g_s1.Cells.2 54 4 (fl eCellState.en s1.Cells) :: L⟩) ?_ ?_
 ·refine ld 2 tt_ok (v := .slice g_s1.Cells.1 s1.Cells.length g_s1.Cells.2) ts_36 rfl<|kp [(3,pp bq1 0),(4,pp bq2 0),(5,pp bq3 0),(6,pp bq4 0),(8,.pointer (some ((adr g_s1.Tenants.1).add (e2.Tenant.toNat * 12)))),(9,.bool (decide (0 ≤ e2.Other))),(28,.slice g_s1.Cells.1 s1.Cells.length g_s1.Cells.2)] fun fr => ld 1 tt_ok (v := ii e2.Cell) ts_3 rfl ?_
  replace h := h_b h; obtain ⟨x14,hx15,h⟩ := h
  refine r_el hx15 (rd_row 5 rfl)<|r_lec (E := eCellState) tt_ok (v := ii x14.Mode) (idx_get hx15) (rd_row 5 rfl) ts_3 rfl (pl1 _ _ _) (by kernel_rfl) ?_
  apply r_iteh h<;>clear h<;>intro h
  ·exact r_T rfl<|kp [(3,pp bq1 0),(4,pp bq2 0),(5,pp bq3 0),(6,pp bq4 0),(8,.pointer (some ((adr g_s1.Tenants.1).add (e2.Tenant.toNat * 12)))),(9,.bool (decide (0 ≤ e2.Other))),(35,.bool true),(37,undef)] fun fr => r_T rfl<|kp [(3,pp bq1 0),(4,pp bq2 0),(5,pp bq3 0),(6,pp bq4 0),(8,.pointer (some ((adr g_s1.Tenants.1).add (e2.Tenant.toNat * 12)))),(9,.bool (decide (0 ≤ e2.Other))),(35,.bool true),(46,undef)] fun fr => r_T rfl<|rd ⟨true,_,h,fe _,by kernel_rfl⟩
  refine r_F rfl<|kp [(3,pp bq1 0),(4,pp bq2 0),(5,pp bq3 0),(6,pp bq4 0),(8,.pointer (some ((adr g_s1.Tenants.1).add (e2.Tenant.toNat * 12)))),(9,.bool (decide (0 ≤ e2.Other))),(35,.bool false),(37,.bool (decide (0 ≤ e2.Other)))] fun fr => ?_
  apply r_iteh h<;>clear h<;>intro h
  ·refine r_T rfl<|ld 2 tt_ok (v := .slice g_s1.Cells.1 s1.Cells.length g_s1.Cells.2) ts_36 rfl<|r_T rfl<|r_T rfl<|ld 1 tt_ok (v := ii e2.Other) ts_3 rfl<|r_T rfl ?_
   replace h := h_b h; obtain ⟨x18,hx19,h⟩ := h
   exact r_el hx19 (rd_row 5 rfl)<|r_T rfl<|r_T rfl<|r_lec (E := eCellState) tt_ok (v := ii x18.Mode) (idx_get hx19) (rd_row 5 rfl) ts_3 rfl (pl1 _ _ _) (by kernel_rfl)<|r_T rfl<|r_F rfl<|kp [(3,pp bq1 0),(4,pp bq2 0),(5,pp bq3 0),(6,pp bq4 0),(8,.pointer (some ((adr g_s1.Tenants.1).add (e2.Tenant.toNat * 12)))),(9,.bool (decide (0 ≤ e2.Other))),(35,.bool false),(46,.bool (!decide (x18.Mode = 1)))] fun fr => rd ⟨!decide (x18.Mode = 1),_,h,fe _,by kernel_rfl⟩
  exact r_F rfl<|r_F rfl<|r_F rfl<|r_F rfl<|r_F rfl<|r_F rfl<|r_F rfl<|r_F rfl<|r_F rfl<|kp [(3,pp bq1 0),(4,pp bq2 0),(5,pp bq3 0),(6,pp bq4 0),(8,.pointer (some ((adr g_s1.Tenants.1).add (e2.Tenant.toNat * 12)))),(9,.bool (decide (0 ≤ e2.Other))),(35,.bool false),(46,.bool false)] fun fr => rd ⟨false,_,h,fe _,by kernel_rfl⟩
 clear h
 rintro fr S ⟨x20,fr,h,rfl,rfl⟩
 replace h := hK22 _ h
 refine rd ?_
 apply r_iteh h<;>clear h<;>intro h
 ·refine rb<|rc (hc_48 (e0 := 6)) ?_
  rintro _ _ ⟨A24,c25,A27,c28,rfl,rfl⟩
  refine st 2 tt_ok (en_State ((cellplaneref12_no 6).1) (⟨(A24,c25),(A27,c28)⟩)) (fn ta_38) rfl<|rd ?_
  repeat refine rd ?_
  repeat refine rd ?_
  obtain rfl := h_out h
  exact ret_of (rv_cell 2 tt_ok (by kernel_rfl) ta_38 rfl rfl (RV.tmp RV.nil)) (le_w [true,true,false,false,false,false,false,false]) ⟨A24,c25,A27,c28,rfl,rfl⟩
 refine rb ?_
 replace h := h_j h; obtain ⟨K37,h,hK38⟩ := h
 refine r_meet (fun fr S => ∃ (x36 : Bool),∃ fr0,K37 x36 = some r ∧ fr = updL [(3,pp bq1 0),(4,pp bq2 0),(5,pp bq3 0),(6,pp bq4 0),(8,.pointer (some ((adr g_s1.Tenants.1).add (e2.Tenant.toNat * 12)))),(9,.bool (decide (0 ≤ e2.Other))),(51,.bool x36)] fr0 ∧ S = ⟨ρ,.obj bq4 (en_State (⟨0,0,[],[],0,0,0,0⟩ : State) (⟨(none,0),(none,0)⟩)) 38 :: .obj bq3 (en_Entry e2) 45 :: .obj bq2 (en_State s1 g_s1) 38 :: .obj bq1 (en_Config c0 g_c0) 30 :: .row g_s1.Tenants.1 s1.Tenants.length g_s1.Tenants.2 58 12 (fl eTenantState.en s1.Tenants) :: .row g_s1.Cells.1 s1.Cells.length g_s1.Cells.2 54 4 (fl eCellState.en s1.Cells) :: L⟩) ?_ ?_
 ·refine ln 3 tt_ok (en_Config c0 g_c0) ta_30 rfl<|ln 2 tt_ok (en_State s1 g_s1) ta_38 rfl<|ld 1 tt_ok (v := ii e2.Cell) ts_3 rfl<|kp [(3,pp bq1 0),(4,pp bq2 0),(5,pp bq3 0),(6,pp bq4 0),(8,.pointer (some ((adr g_s1.Tenants.1).add (e2.Tenant.toNat * 12)))),(9,.bool (decide (0 ≤ e2.Other))),(52,.agg (en_Config c0 g_c0).toArray),(53,.agg (en_State s1 g_s1).toArray),(55,ii e2.Cell)] fun fr => ?_
  replace h := h_b h; obtain ⟨x31,hx30,h⟩ := h
  refine rc (hc_88 (g_c0 := g_c0) (c0 := c0) (g_s1 := g_s1) (s1 := s1) (cell2 := e2.Cell) (hS_c0 := by exact (le_d 6).trans hS_c0) (h_c0 :=h_c0) (hS_s1 := by exact Le.refl _) (h_s1 := by exact ⟨sl_row 4 rfl,sl_row 5 rfl⟩) (h := hx30)) ?_
  rintro _ _ ⟨rfl,rfl⟩
  apply r_iteh h<;>clear h<;>intro h
  ·exact r_T rfl<|r_T rfl<|kp [(3,pp bq1 0),(4,pp bq2 0),(5,pp bq3 0),(6,pp bq4 0),(8,.pointer (some ((adr g_s1.Tenants.1).add (e2.Tenant.toNat * 12)))),(9,.bool (decide (0 ≤ e2.Other))),(57,.bool true),(65,undef)] fun fr => r_T rfl<|rd ⟨true,_,h,fe _,by kernel_rfl⟩
  refine r_F rfl ?_
  apply r_iteh h<;>clear h<;>intro h
  ·refine ln 3 tt_ok (en_Config c0 g_c0) ta_30 rfl<|r_T rfl<|ln 2 tt_ok (en_State s1 g_s1) ta_38 rfl<|r_T rfl<|r_T rfl<|ld 1 tt_ok (v := ii e2.Other) ts_3 rfl<|r_T rfl ?_
   replace h := h_b h; obtain ⟨x35,hx34,h⟩ := h
   refine rc (hc_88 (g_c0 := g_c0) (c0 := c0) (g_s1 := g_s1) (s1 := s1) (cell2 := e2.Other) (hS_c0 := by exact (le_d 6).trans hS_c0) (h_c0 :=h_c0) (hS_s1 := by exact Le.refl _) (h_s1 := by exact ⟨sl_row 4 rfl,sl_row 5 rfl⟩) (h := hx34)) ?_
   rintro _ _ ⟨rfl,rfl⟩
   exact kp [(3,pp bq1 0),(4,pp bq2 0),(5,pp bq3 0),(6,pp bq4 0),(8,.pointer (some ((adr g_s1.Tenants.1).add (e2.Tenant.toNat * 12)))),(9,.bool (decide (0 ≤ e2.Other))),(57,.bool false),(59,.bool true),(64,.bool x35)] fun fr => r_F rfl<|rd ⟨x35,_,h,fe _,by kernel_rfl⟩
  exact r_F rfl<|r_F rfl<|r_F rfl<|r_F rfl<|kp [(3,pp bq1 0),(4,pp bq2 0),(5,pp bq3 0),(6,pp bq4 0),(8,.pointer (some ((adr g_s1.Tenants.1).add (e2.Tenant.toNat * 12)))),(9,.bool (decide (0 ≤ e2.Other))),(57,.bool false),(59,.bool false),(64,undef)] fun fr => r_F rfl<|r_F rfl<|rd ⟨false,_,h,fe _,by kernel_rfl⟩
 clear h
 rintro fr S ⟨x36,fr,h,rfl,rfl⟩
 replace h := hK38 _ h
 refine rd ?_
 apply r_iteh h<;>clear h<;>intro h
 ·refine rb<|rc (hc_48 (e0 := 12)) ?_
  rintro _ _ ⟨A40,c41,A43,c44,rfl,rfl⟩
  refine st 2 tt_ok (en_State ((cellplaneref12_no 12).1) (⟨(A40,c41),(A43,c44)⟩)) (fn ta_38) rfl<|rd ?_
  repeat refine rd ?_
  repeat refine rd ?_
  obtain rfl := h_out h
  exact ret_of (rv_cell 2 tt_ok (by kernel_rfl) ta_38 rfl rfl (RV.tmp RV.nil)) (le_w [true,true,false,false,false,false,false,false]) ⟨A40,c41,A43,c44,rfl,rfl⟩
 refine rb ?_
 replace h := h_j h; obtain ⟨K56,h,hK57⟩ := h
 refine r_meet (fun fr S => ∃ (x55 : Bool),∃ fr0,K56 x55 = some r ∧ fr = updL [(3,pp bq1 0),(4,pp bq2 0),(5,pp bq3 0),(6,pp bq4 0),(8,.pointer (some ((adr g_s1.Tenants.1).add (e2.Tenant.toNat * 12)))),(70,.bool x55)] fr0 ∧ S = ⟨ρ,.obj bq4 (en_State (⟨0,0,[],[],0,0,0,0⟩ : State) (⟨(none,0),(none,0)⟩)) 38 :: .obj bq3 (en_Entry e2) 45 :: .obj bq2 (en_State s1 g_s1) 38 :: .obj bq1 (en_Config c0 g_c0) 30 :: .row g_s1.Tenants.1 s1.Tenants.length g_s1.Tenants.2 58 12 (fl eTenantState.en s1.Tenants) :: .row g_s1.Cells.1 s1.Cells.length g_s1.Cells.2 54 4 (fl eCellState.en s1.Cells) :: L⟩) ?_ ?_
 ·refine ln 3 tt_ok (en_Config c0 g_c0) ta_30 rfl<|kp [(3,pp bq1 0),(4,pp bq2 0),(5,pp bq3 0),(6,pp bq4 0),(8,.pointer (some ((adr g_s1.Tenants.1).add (e2.Tenant.toNat * 12)))),(9,.bool (decide (0 ≤ e2.Other))),(71,.agg (en_Config c0 g_c0).toArray)] fun fr => ld 1 tt_ok (v := ii e2.Tenant) ts_3 rfl<|ld 1 tt_ok (v := ii e2.Cell) ts_3 rfl ?_
  replace h := h_b h; obtain ⟨x47,hx46,h⟩ := h
  refine rc (hc_86 (g_c0 := g_c0) (c0 := c0) (tenant1 := e2.Tenant) (cell2 := e2.Cell) (hS_c0 := by exact (le_d 6).trans hS_c0) (h_c0 :=h_c0) (h := hx46)) ?_
  rintro _ _ ⟨rfl,rfl⟩
  apply r_iteh h<;>clear h<;>intro h
  ·exact r_T rfl<|kp [(3,pp bq1 0),(4,pp bq2 0),(5,pp bq3 0),(6,pp bq4 0),(8,.pointer (some ((adr g_s1.Tenants.1).add (e2.Tenant.toNat * 12)))),(78,.bool true),(80,undef)] fun fr => r_T rfl<|kp [(3,pp bq1 0),(4,pp bq2 0),(5,pp bq3 0),(6,pp bq4 0),(8,.pointer (some ((adr g_s1.Tenants.1).add (e2.Tenant.toNat * 12)))),(78,.bool true),(96,undef)] fun fr => r_T rfl<|rd ⟨true,_,h,fe _,by kernel_rfl⟩
  refine r_F rfl<|kp [(3,pp bq1 0),(4,pp bq2 0),(5,pp bq3 0),(6,pp bq4 0),(8,.pointer (some ((adr g_s1.Tenants.1).add (e2.Tenant.toNat * 12)))),(78,.bool false),(80,.bool (decide (0 ≤ e2.Other)))] fun fr => ?_
  apply r_iteh h<;>clear h<;>intro h
  ·refine ln 3 tt_ok (en_Config c0 g_c0) ta_30 rfl<|r_T rfl<|r_T rfl<|ld 1 tt_ok (v := ii e2.Tenant) ts_3 rfl<|r_T rfl<|r_T rfl<|ld 1 tt_ok (v := ii e2.Other) ts_3 rfl<|r_T rfl ?_
   replace h := h_b h; obtain ⟨x51,hx50,h⟩ := h
   refine rc (hc_86 (g_c0 := g_c0) (c0 := c0) (tenant1 := e2.Tenant) (cell2 := e2.Other) (hS_c0 := by exact (le_d 6).trans hS_c0) (h_c0 :=h_c0) (h := hx50)) ?_
   rintro _ _ ⟨rfl,rfl⟩
   refine r_T rfl<|r_T rfl ?_
   apply r_iteh h<;>clear h<;>intro h
   ·exact kp [(3,pp bq1 0),(4,pp bq2 0),(5,pp bq3 0),(6,pp bq4 0),(8,.pointer (some ((adr g_s1.Tenants.1).add (e2.Tenant.toNat * 12)))),(78,.bool false),(80,.bool true),(88,.bool true),(89,undef)] fun fr => r_T rfl<|r_T rfl<|r_T rfl<|r_T rfl<|r_T rfl<|r_T rfl<|r_T rfl<|r_F rfl<|kr [(3,pp bq1 0),(4,pp bq2 0),(5,pp bq3 0),(6,pp bq4 0),(8,.pointer (some ((adr g_s1.Tenants.1).add (e2.Tenant.toNat * 12)))),(70,.bool true)] fun fr => rd ⟨true,_,h,fe _,by kernel_rfl⟩
   refine ln 3 tt_ok (en_Config c0 g_c0) ta_30 rfl<|kp [(3,pp bq1 0),(4,pp bq2 0),(5,pp bq3 0),(6,pp bq4 0),(8,.pointer (some ((adr g_s1.Tenants.1).add (e2.Tenant.toNat * 12)))),(78,.bool false),(80,.bool true),(88,.bool false),(89,.agg (en_Config c0 g_c0).toArray)] fun fr => r_F rfl<|r_F rfl<|ld 1 tt_ok (v := ii e2.Cell) ts_3 rfl<|r_F rfl<|r_F rfl<|ld 1 tt_ok (v := ii e2.Other) ts_3 rfl<|r_F rfl ?_
   replace h := h_b h; obtain ⟨x54,hx53,h⟩ := h
   refine rc (hc_89 (g_c0 := g_c0) (c0 := c0) (a1 := e2.Cell) (b2 := e2.Other) (hS_c0 := by exact (le_d 6).trans hS_c0) (h_c0 :=h_c0) (h := hx53)) ?_
   rintro _ _ ⟨rfl,rfl⟩
   exact r_T rfl<|r_F rfl<|kr [(3,pp bq1 0),(4,pp bq2 0),(5,pp bq3 0),(6,pp bq4 0),(8,.pointer (some ((adr g_s1.Tenants.1).add (e2.Tenant.toNat * 12)))),(70,.bool x54)] fun fr => rd ⟨x54,_,h,fe _,by kernel_rfl⟩
  exact r_F rfl<|r_F rfl<|r_F rfl<|r_F rfl<|r_F rfl<|r_F rfl<|r_F rfl<|r_F rfl<|kp [(3,pp bq1 0),(4,pp bq2 0),(5,pp bq3 0),(6,pp bq4 0),(8,.pointer (some ((adr g_s1.Tenants.1).add (e2.Tenant.toNat * 12)))),(78,.bool false),(80,.bool false),(95,undef)] fun fr => r_F rfl<|r_F rfl<|rd ⟨false,_,h,fe _,by kernel_rfl⟩
 clear h
 rintro fr S ⟨x55,fr,h,rfl,rfl⟩
 replace h := hK57 _ h
 refine rd ?_
 apply r_iteh h<;>clear h<;>intro h
 ·refine rb<|rc (hc_48 (e0 := 11)) ?_
  rintro _ _ ⟨A59,c60,A62,c63,rfl,rfl⟩
  refine st 2 tt_ok (en_State ((cellplaneref12_no 11).1) (⟨(A59,c60),(A62,c63)⟩)) (fn ta_38) rfl<|rd ?_
  repeat refine rd ?_
  repeat refine rd ?_
  obtain rfl := h_out h
  exact ret_of (rv_cell 2 tt_ok (by kernel_rfl) ta_38 rfl rfl (RV.tmp RV.nil)) (le_w [true,true,false,false,false,false,false,false]) ⟨A59,c60,A62,c63,rfl,rfl⟩
 refine rd<|rd<|rb<|r_mix tt_ok hm_ok _ _ [] (.pure 0 (.pure 1 (.pure 2 (.pure 3 (.vb 4 (.pure 5 (.vb 6 (.pure 7 (.pure 8 (.eff 9 (.pure 10 (.pure 11 (.eff 12 (.pure 13 (.pure 14 (.eff 15 .nil)))))))))))))))) (le_w [true,true,true,true,false,true]) (le_w [true,true,true,true,false,true]) ?_ ?_
 ·decide +kernel
 refine x_p rfl<|vd<|x_p rfl<|vd<|x_p rfl<|vd<|x_p rfl<|vd<|x_vb rfl<|vl 1 tt_ok (v := ii e2.Cell) ts_3 rfl<|vd<|x_p rfl<|vd ?_
 refine x_vb rfl<|vl 1 tt_ok (v := ii e2.Other) ts_3 rfl<|vd<|x_p rfl<|vd<|x_p rfl<|vd<|xp [(3,pp bq1 0),(4,pp bq2 0),(6,pp bq4 0),(102,.pointer (some ((adr g_s1.Tenants.1).add (e2.Tenant.toNat * 12)))),(103,.pointer (some ((adr g_s1.Tenants.1).add (e2.Tenant.toNat * 12)))),(105,ii e2.Cell),(107,ii e2.Other),(109,.pointer (some (((adr g_s1.Tenants.1).add (e2.Tenant.toNat * 12)).add 0)))] fun fr => x_e rfl<|r_sec 4 (E := eTenantState) tt_ok ({ x5 with Placed := true }) (idx_get hx6) (f1 ts_4) rfl rfl (pl1 _ _ _) (by kernel_rfl) (by kernel_rfl) (List.cons_ne_nil _ _) ?_
 rw [show (en_State s1 g_s1) = (en_State ({ s1 with Tenants := (s1.Tenants.set e2.Tenant.toNat ({ x5 with Placed := true })) }) g_s1) by simp [en_State]]
 rw [← @List.length_set _ s1.Tenants e2.Tenant.toNat ({ x5 with Placed := true })]
 refine rd ⟨rfl,k_a (le_w [true,true,true,true,false,true]) (le_w [true,true,true,true,false,true]),?_⟩
 refine x_p rfl<|vd<|x_p rfl<|vd<|x_e rfl<|r_sec 4 (E := eTenantState) tt_ok ({ x5 with Placed := true,Home := e2.Cell }) (get_set (idx_get hx6) _) (f1 ts_3) rfl rfl (pl1 _ _ _) (by kernel_rfl) (by kernel_rfl) (List.cons_ne_nil _ _) ?_
 rw [show (en_State ({ s1 with Tenants := (s1.Tenants.set e2.Tenant.toNat ({ x5 with Placed := true })) }) g_s1) = (en_State ({ s1 with Tenants := ((s1.Tenants.set e2.Tenant.toNat ({ x5 with Placed := true })).set e2.Tenant.toNat ({ x5 with Placed := true,Home := e2.Cell })) }) g_s1) by simp [en_State]]
 rw [← @List.length_set _ (s1.Tenants.set e2.Tenant.toNat ({ x5 with Placed := true })) e2.Tenant.toNat ({ x5 with Placed := true,Home := e2.Cell })]
 refine rd ⟨rfl,k_a (le_w [true,true,true,true,false,true]) (le_w [true,true,true,true,false,true]),?_⟩
 refine x_p rfl<|vd<|x_p rfl<|vd<|x_e rfl<|r_sec 4 (E := eTenantState) tt_ok ({ x5 with Placed := true,Home := e2.Cell,Standby := e2.Other }) (get_set (get_set (idx_get hx6) _) _) (f1 ts_3) rfl rfl (pl1 _ _ _) (by kernel_rfl) (by kernel_rfl) (List.cons_ne_nil _ _) ?_
 rw [show (en_State ({ s1 with Tenants := ((s1.Tenants.set e2.Tenant.toNat ({ x5 with Placed := true })).set e2.Tenant.toNat ({ x5 with Placed := true,Home := e2.Cell })) }) g_s1) = (en_State ({ s1 with Tenants := (((s1.Tenants.set e2.Tenant.toNat ({ x5 with Placed := true })).set e2.Tenant.toNat ({ x5 with Placed := true,Home := e2.Cell })).set e2.Tenant.toNat ({ x5 with Placed := true,Home := e2.Cell,Standby := e2.Other })) }) g_s1) by simp [en_State]]
 rw [← @List.length_set _ ((s1.Tenants.set e2.Tenant.toNat ({ x5 with Placed := true })).set e2.Tenant.toNat ({ x5 with Placed := true,Home := e2.Cell })) e2.Tenant.toNat ({ x5 with Placed := true,Home := e2.Cell,Standby := e2.Other })]
 refine rd ⟨rfl,k_a (le_w [true,true,true,true,false,true]) (le_w [true,true,true,true,false,true]),?_⟩
 refine xk [(3,pp bq1 0),(4,pp bq2 0),(6,pp bq4 0)] fun fr => rd<|rb<|ln 3 tt_ok (en_Config c0 g_c0) ta_30 rfl<|ln 2 tt_ok (en_State ({ s1 with Tenants := (((s1.Tenants.set e2.Tenant.toNat ({ x5 with Placed := true })).set e2.Tenant.toNat ({ x5 with Placed := true,Home := e2.Cell })).set e2.Tenant.toNat ({ x5 with Placed := true,Home := e2.Cell,Standby := e2.Other })) }) g_s1) ta_38 rfl<|r_le ((le_mv 5).trans (le_mv 5)) ?_
 replace h := h_b h; obtain ⟨⟨x66,x67⟩,hx65,h⟩ := h
 refine rc (hc_90 (g_c0 := g_c0) (c0 := c0) (g_s1 := g_s1) (s1 := { s1 with Tenants := (((s1.Tenants.set e2.Tenant.toNat ({ x5 with Placed := true })).set e2.Tenant.toNat ({ x5 with Placed := true,Home := e2.Cell })).set e2.Tenant.toNat ({ x5 with Placed := true,Home := e2.Cell,Standby := e2.Other })) }) (hS_c0 := by exact (le_d 4).trans hS_c0) (h_c0 :=h_c0) (h := hx65)) ?_
 rintro _ _ ⟨A68,c69,A71,c72,rfl,rfl⟩
 refine st 2 tt_ok (en_State x66 (⟨(A68,c69),(A71,c72)⟩)) (fn ta_38) rfl<|rd ?_
 repeat refine rd ?_
 repeat refine rd ?_
 obtain rfl := h_out h
 exact ret_of (rv_cell 2 tt_ok (by kernel_rfl) ta_38 rfl rfl (RV.tmp RV.nil)) (le_w [true,true,false,false,false,false]) ⟨A68,c69,A71,c72,rfl,rfl⟩
theorem hc_91 {g_c0 : gConfig} {g_s1 : gState} {S_c0 : St} (hS_c0 : Le ⟨ρ,L⟩ S_c0) {S_s1 : St} (hS_s1 : Le ⟨ρ,L⟩ S_s1) (c0 : Config) (s1 : State) (e2 : Entry) (h_c0 : Sl_Config S_c0 c0 g_c0) (h_s1 : Sl_State S_s1 s1 g_s1) {r : Int} (h : cellplaneref12_granted c0 s1 e2 = some r) : HC Tryz.prog 91 #[.agg (en_Config c0 g_c0).toArray,.agg (en_State s1 g_s1).toArray,.agg (en_Entry e2).toArray] ⟨ρ,L⟩ (fun v S' => v = ii r ∧ S' = ⟨ρ,L⟩) := by
 replace h := h_in h
 refine HC.intro (N := 134) (args := [_,_,_]) tt_ok Tryz.func91 rfl (by decide +kernel) rfl (Nat.le_of_ble_eq_true rfl)<|rb<|r_bx (en_Config c0 g_c0) (by kernel_rfl) fun bq1 => r_bx (en_State s1 g_s1) (by kernel_rfl) fun bq2 => r_bx (en_Entry e2) (by kernel_rfl) fun bq3 => rd<|rb<|ld 1 tt_ok (v := .slice g_s1.Tenants.1 s1.Tenants.length g_s1.Tenants.2) ts_35 rfl<|ld 0 tt_ok (v := ii e2.Tenant) ts_3 rfl ?_
 replace h := h_b h; obtain ⟨x4,hx5,h⟩ := h
 refine r_el hx5 ((h_s1.1).rd.mono ((le_d 3).trans hS_s1))<|kp [(3,pp bq1 0),(4,pp bq2 0),(5,pp bq3 0),(14,.pointer (some ((adr g_s1.Tenants.1).add (e2.Tenant.toNat * 12))))] fun fr => r_len (E := eTenantState) tt_ok (en_TenantState x4) (idx_get hx5) ((h_s1.1).rd.mono ((le_d 3).trans hS_s1)) ta_58 rfl (pl0 _ _) (by kernel_rfl) (by kernel_rfl)<|r_al tt_ok (en_TenantState (⟨false,false,0,0,0,0,0,(⟨0,0,0,0,0⟩ : Window)⟩ : TenantState)) ti_58 (by kernel_rfl) fun bq6 => st 0 tt_ok (en_TenantState x4) (fn ta_58) rfl<|rd<|rb<|ld 2 tt_ok (v := .slice g_s1.Cells.1 s1.Cells.length g_s1.Cells.2) ts_36 rfl<|ld 1 tt_ok (v := ii e2.Cell) ts_3 rfl ?_
 replace h := h_b h; obtain ⟨x7,hx8,h⟩ := h
 refine r_el hx8 ((h_s1.2).rd.mono ((le_d 4).trans hS_s1))<|r_len (E := eCellState) tt_ok (en_CellState x7) (idx_get hx8) ((h_s1.2).rd.mono ((le_d 4).trans hS_s1)) ta_54 rfl (pl0 _ _) (by kernel_rfl) (by kernel_rfl)<|kp [(3,pp bq1 0),(5,pp bq3 0),(7,pp bq6 0),(21,.agg (en_CellState x7).toArray)] fun fr => r_al tt_ok (en_CellState (⟨0,0,0,0⟩ : CellState)) ti_54 (by kernel_rfl) fun bq9 => st 0 tt_ok (en_CellState x7) (fn ta_54) rfl<|rd<|rb<|ld 2 tt_ok (v := ii e2.Cell) ts_3 rfl<|ld 1 tt_ok (v := ii x4.Home) ts_3 rfl<|rd<|rb<|rb<|rb ?_
 refine r_meet (fun fr S => ∃ fr0,fr = updL [(3,pp bq1 0),(5,pp bq3 0),(7,pp bq6 0),(8,pp bq9 0),(9,.bool (decide (e2.Cell = x4.Home))),(27,.bool ((decide (x7.Mode = 3)) || ((decide (x7.Mode = 2)) && (!(decide (e2.Cell = x4.Home))))))] fr0 ∧ S = ⟨ρ,.obj bq9 (en_CellState x7) 54 :: .obj bq6 (en_TenantState x4) 58 :: .obj bq3 (en_Entry e2) 45 :: .obj bq2 (en_State s1 g_s1) 38 :: .obj bq1 (en_Config c0 g_c0) 30 :: L⟩) ?_ ?_
 ·refine ld 0 tt_ok (v := ii x7.Mode) ts_3 rfl<|r_ite (fun (hb10 : (decide (x7.Mode = 3)) = true) => ?_) (fun (hb10 : (decide (x7.Mode = 3)) = false) => ?_)
  ·exact r_T rfl<|kp [(3,pp bq1 0),(5,pp bq3 0),(7,pp bq6 0),(8,pp bq9 0),(9,.bool (decide (e2.Cell = x4.Home))),(31,.bool true),(33,undef)] fun fr => r_T rfl<|r_T rfl<|r_T rfl<|r_T rfl<|rd ⟨_,fr_eq _ (by (try rw [hb10]); kernel_rfl),by kernel_rfl⟩
  refine r_F rfl<|ld 0 tt_ok (v := ii x7.Mode) ts_3 rfl<|kp [(3,pp bq1 0),(5,pp bq3 0),(7,pp bq6 0),(8,pp bq9 0),(9,.bool (decide (e2.Cell = x4.Home))),(31,.bool false),(33,ii x7.Mode)] fun fr => r_F rfl<|r_F rfl<|r_ite (fun (hb11 : (decide (x7.Mode = 2)) = true) => ?_) (fun (hb11 : (decide (x7.Mode = 2)) = false) => ?_)
  ·exact r_T rfl<|r_F rfl<|rd ⟨_,fr_eq _ (by (try rw [hb11]); (try rw [hb10]); kernel_rfl),by kernel_rfl⟩
  exact r_F rfl<|r_F rfl<|r_F rfl<|rd ⟨_,fr_eq _ (by (try rw [hb11]); (try rw [hb10]); kernel_rfl),by kernel_rfl⟩
 rintro fr S ⟨fr,rfl,rfl⟩
 refine rd ?_
 apply r_iteh h<;>clear h<;>intro h
 ·refine rb<|rd ?_
  repeat refine rd ?_
  repeat refine rd ?_
  obtain rfl := h_out h
  exact ret_of (RV.tmp RV.nil) (le_w [false,false,false,false,false]) ⟨rfl,rfl⟩
 refine rb<|r_meet (fun fr S => ∃ fr0,fr = updL [(3,pp bq1 0),(5,pp bq3 0),(7,pp bq6 0),(8,pp bq9 0),(9,.bool (decide (e2.Cell = x4.Home))),(40,.bool (bif decide (e2.Cell = x4.Home) then (bif !decide (e2.Epoch = x4.Epoch) then ((!decide (e2.Epoch = w64 (x4.Epoch + 1))) || ((!(decide (e2.Cell = x4.Home))) && (!decide (e2.Epoch = w64 (x4.Epoch + 1))))) else ((!(decide (e2.Cell = x4.Home))) && (!decide (e2.Epoch = w64 (x4.Epoch + 1))))) else ((!(decide (e2.Cell = x4.Home))) && (!decide (e2.Epoch = w64 (x4.Epoch + 1))))))] fr0 ∧ S = ⟨ρ,.obj bq9 (en_CellState x7) 54 :: .obj bq6 (en_TenantState x4) 58 :: .obj bq3 (en_Entry e2) 45 :: .obj bq2 (en_State s1 g_s1) 38 :: .obj bq1 (en_Config c0 g_c0) 30 :: L⟩) ?_ ?_
 ·refine r_ite (fun (hb13 : (decide (e2.Cell = x4.Home)) = true) => ?_) (fun (hb13 : (decide (e2.Cell = x4.Home)) = false) => ?_)
  ·refine r_T rfl<|ld 2 tt_ok (v := ii e2.Epoch) ts_3 rfl<|r_T rfl<|r_T rfl<|ld 1 tt_ok (v := ii x4.Epoch) ts_3 rfl<|kp [(3,pp bq1 0),(5,pp bq3 0),(7,pp bq6 0),(8,pp bq9 0),(9,.bool (decide (e2.Cell = x4.Home))),(42,.bool true),(44,ii e2.Epoch),(46,ii x4.Epoch)] fun fr => r_T rfl<|r_ite (fun (hb14 : (!decide (e2.Epoch = x4.Epoch)) = true) => ?_) (fun (hb14 : (!decide (e2.Epoch = x4.Epoch)) = false) => ?_)
   ·refine r_T rfl<|ld 2 tt_ok (v := ii e2.Epoch) ts_3 rfl<|r_T rfl<|r_T rfl<|ld 1 tt_ok (v := ii x4.Epoch) ts_3 rfl<|r_T rfl<|r_num (e' := w64 (x4.Epoch + 1)) rfl<|r_T rfl<|kp [(3,pp bq1 0),(5,pp bq3 0),(7,pp bq6 0),(8,pp bq9 0),(9,.bool (decide (e2.Cell = x4.Home))),(49,.bool true),(55,.bool (!decide (e2.Epoch = w64 (x4.Epoch + 1))))] fun fr => r_ite (fun (hb15 : (!decide (e2.Epoch = w64 (x4.Epoch + 1))) = true) => ?_) (fun (hb15 : (!decide (e2.Epoch = w64 (x4.Epoch + 1))) = false) => ?_)
    ·exact r_T rfl<|r_T rfl<|r_T rfl<|kp [(3,pp bq1 0),(5,pp bq3 0),(7,pp bq6 0),(8,pp bq9 0),(9,.bool (decide (e2.Cell = x4.Home))),(57,.bool true),(67,undef)] fun fr => r_T rfl<|rd ⟨_,fr_eq _ (by (try rw [hb15]); (try rw [hb14]); (try rw [hb13]); kernel_rfl),by kernel_rfl⟩
    refine r_F rfl<|r_F rfl<|r_ite (fun (hb16 : (!(decide (e2.Cell = x4.Home))) = true) => ?_) (fun (hb16 : (!(decide (e2.Cell = x4.Home))) = false) => ?_)
    ·exact r_T rfl<|ld 2 tt_ok (v := ii e2.Epoch) ts_3 rfl<|r_T rfl<|r_T rfl<|ld 1 tt_ok (v := ii x4.Epoch) ts_3 rfl<|kp [(3,pp bq1 0),(5,pp bq3 0),(7,pp bq6 0),(8,pp bq9 0),(9,.bool (decide (e2.Cell = x4.Home))),(57,.bool false),(60,.bool true),(62,ii e2.Epoch),(64,ii x4.Epoch)] fun fr => r_T rfl<|r_num (e' := w64 (x4.Epoch + 1)) rfl<|r_T rfl<|r_F rfl<|rd ⟨_,fr_eq _ (by (try rw [hb16]); (try rw [hb15]); (try rw [hb14]); (try rw [hb13]); kernel_rfl),by kernel_rfl⟩
    exact r_F rfl<|r_F rfl<|r_F rfl<|kp [(3,pp bq1 0),(5,pp bq3 0),(7,pp bq6 0),(8,pp bq9 0),(9,.bool (decide (e2.Cell = x4.Home))),(57,.bool false),(60,.bool false),(62,undef),(64,undef)] fun fr => r_F rfl<|r_F rfl<|r_F rfl<|r_F rfl<|rd ⟨_,fr_eq _ (by (try rw [hb16]); (try rw [hb15]); (try rw [hb14]); (try rw [hb13]); kernel_rfl),by kernel_rfl⟩
   refine r_F rfl<|r_F rfl<|r_F rfl<|r_F rfl<|r_F rfl<|kp [(3,pp bq1 0),(5,pp bq3 0),(7,pp bq6 0),(8,pp bq9 0),(9,.bool (decide (e2.Cell = x4.Home))),(49,.bool false),(55,undef)] fun fr => r_F rfl<|r_F rfl<|r_F rfl<|r_F rfl<|r_ite (fun (hb17 : (!(decide (e2.Cell = x4.Home))) = true) => ?_) (fun (hb17 : (!(decide (e2.Cell = x4.Home))) = false) => ?_)
   ·exact r_T rfl<|ld 2 tt_ok (v := ii e2.Epoch) ts_3 rfl<|r_T rfl<|r_T rfl<|ld 1 tt_ok (v := ii x4.Epoch) ts_3 rfl<|kp [(3,pp bq1 0),(5,pp bq3 0),(7,pp bq6 0),(8,pp bq9 0),(9,.bool (decide (e2.Cell = x4.Home))),(57,.bool false),(60,.bool true),(62,ii e2.Epoch),(64,ii x4.Epoch)] fun fr => r_T rfl<|r_num (e' := w64 (x4.Epoch + 1)) rfl<|r_T rfl<|r_F rfl<|rd ⟨_,fr_eq _ (by (try rw [hb17]); (try rw [hb14]); (try rw [hb13]); kernel_rfl),by kernel_rfl⟩
   exact r_F rfl<|r_F rfl<|r_F rfl<|kp [(3,pp bq1 0),(5,pp bq3 0),(7,pp bq6 0),(8,pp bq9 0),(9,.bool (decide (e2.Cell = x4.Home))),(57,.bool false),(60,.bool false),(62,undef),(64,undef)] fun fr => r_F rfl<|r_F rfl<|r_F rfl<|r_F rfl<|rd ⟨_,fr_eq _ (by (try rw [hb17]); (try rw [hb14]); (try rw [hb13]); kernel_rfl),by kernel_rfl⟩
  refine r_F rfl<|r_F rfl<|r_F rfl<|kp [(3,pp bq1 0),(5,pp bq3 0),(7,pp bq6 0),(8,pp bq9 0),(9,.bool (decide (e2.Cell = x4.Home))),(42,.bool false),(44,undef),(46,undef)] fun fr => r_F rfl<|r_F rfl<|r_F rfl<|r_F rfl<|r_F rfl<|r_F rfl<|r_F rfl<|r_F rfl<|kp [(3,pp bq1 0),(5,pp bq3 0),(7,pp bq6 0),(8,pp bq9 0),(9,.bool (decide (e2.Cell = x4.Home))),(49,.bool false),(55,undef)] fun fr => ?_
  refine r_F rfl<|r_F rfl<|r_F rfl<|r_F rfl<|r_ite (fun (hb18 : (!(decide (e2.Cell = x4.Home))) = true) => ?_) (fun (hb18 : (!(decide (e2.Cell = x4.Home))) = false) => ?_)
  ·exact r_T rfl<|ld 2 tt_ok (v := ii e2.Epoch) ts_3 rfl<|r_T rfl<|r_T rfl<|ld 1 tt_ok (v := ii x4.Epoch) ts_3 rfl<|kp [(3,pp bq1 0),(5,pp bq3 0),(7,pp bq6 0),(8,pp bq9 0),(9,.bool (decide (e2.Cell = x4.Home))),(57,.bool false),(60,.bool true),(62,ii e2.Epoch),(64,ii x4.Epoch)] fun fr => r_T rfl<|r_num (e' := w64 (x4.Epoch + 1)) rfl<|r_T rfl<|r_F rfl<|rd ⟨_,fr_eq _ (by (try rw [hb18]); (try rw [hb13]); kernel_rfl),by kernel_rfl⟩
  exact r_F rfl<|r_F rfl<|r_F rfl<|kp [(3,pp bq1 0),(5,pp bq3 0),(7,pp bq6 0),(8,pp bq9 0),(9,.bool (decide (e2.Cell = x4.Home))),(57,.bool false),(60,.bool false),(62,undef),(64,undef)] fun fr => r_F rfl<|r_F rfl<|r_F rfl<|r_F rfl<|rd ⟨_,fr_eq _ (by (try rw [hb18]); (try rw [hb13]); kernel_rfl),by kernel_rfl⟩
 rintro fr S ⟨fr,rfl,rfl⟩
 refine rd ?_
 apply r_iteh h<;>clear h<;>intro h
 ·refine rb<|rd ?_
  repeat refine rd ?_
  repeat refine rd ?_
  obtain rfl := h_out h
  exact ret_of (RV.tmp RV.nil) (le_w [false,false,false,false,false]) ⟨rfl,rfl⟩
 refine rb<|r_meet (fun fr S => ∃ fr0,fr = updL [(3,pp bq1 0),(5,pp bq3 0),(7,pp bq6 0),(9,.bool (decide (e2.Cell = x4.Home))),(69,.bool ((!decide (e2.N = x7.Running)) || (!decide (x7.Running = x7.Wanted))))] fr0 ∧ S = ⟨ρ,.obj bq9 (en_CellState x7) 54 :: .obj bq6 (en_TenantState x4) 58 :: .obj bq3 (en_Entry e2) 45 :: .obj bq2 (en_State s1 g_s1) 38 :: .obj bq1 (en_Config c0 g_c0) 30 :: L⟩) ?_ ?_
 ·refine ld 2 tt_ok (v := ii e2.N) ts_3 rfl<|kp [(3,pp bq1 0),(5,pp bq3 0),(7,pp bq6 0),(8,pp bq9 0),(9,.bool (decide (e2.Cell = x4.Home))),(71,ii e2.N)] fun fr => ld 0 tt_ok (v := ii x7.Running) ts_3 rfl<|r_ite (fun (hb20 : (!decide (e2.N = x7.Running)) = true) => ?_) (fun (hb20 : (!decide (e2.N = x7.Running)) = false) => ?_)
  ·exact r_T rfl<|r_T rfl<|r_T rfl<|r_T rfl<|kp [(3,pp bq1 0),(5,pp bq3 0),(7,pp bq6 0),(9,.bool (decide (e2.Cell = x4.Home))),(75,.bool true),(80,undef)] fun fr => r_T rfl<|rd ⟨_,fr_eq _ (by (try rw [hb20]); kernel_rfl),by kernel_rfl⟩
  exact r_F rfl<|ld 0 tt_ok (v := ii x7.Running) ts_3 rfl<|r_F rfl<|r_F rfl<|ld 0 tt_ok (v := ii x7.Wanted) ts_3 rfl<|r_F rfl<|kp [(3,pp bq1 0),(5,pp bq3 0),(7,pp bq6 0),(9,.bool (decide (e2.Cell = x4.Home))),(75,.bool false),(80,.bool (!decide (x7.Running = x7.Wanted)))] fun fr => rd ⟨_,fr_eq _ (by (try rw [hb20]); kernel_rfl),by kernel_rfl⟩
 rintro fr S ⟨fr,rfl,rfl⟩
 refine rd ?_
 apply r_iteh h<;>clear h<;>intro h
 ·refine rb<|rd ?_
  repeat refine rd ?_
  repeat refine rd ?_
  obtain rfl := h_out h
  exact ret_of (RV.tmp RV.nil) (le_w [false,false,false,false,false]) ⟨rfl,rfl⟩
 refine rb<|r_meet (fun fr S => ∃ fr0,fr = updL [(5,pp bq3 0),(7,pp bq6 0),(9,.bool (decide (e2.Cell = x4.Home))),(82,.bool ((decide (e2.From < e2.Tick)) || ((decide (w64 (e2.Tick + c0.Lease) < e2.From)) || ((decide (e2.Until ≤ e2.From)) || ((decide (c0.Lease < w64 (e2.Until - e2.From))) || (decide (e2.From < x4.Window.Until)))))))] fr0 ∧ S = ⟨ρ,.obj bq9 (en_CellState x7) 54 :: .obj bq6 (en_TenantState x4) 58 :: .obj bq3 (en_Entry e2) 45 :: .obj bq2 (en_State s1 g_s1) 38 :: .obj bq1 (en_Config c0 g_c0) 30 :: L⟩) ?_ ?_
 ·refine ld 2 tt_ok (v := ii e2.From) ts_3 rfl<|kp [(3,pp bq1 0),(5,pp bq3 0),(7,pp bq6 0),(9,.bool (decide (e2.Cell = x4.Home))),(84,ii e2.From)] fun fr => ld 2 tt_ok (v := ii e2.Tick) ts_3 rfl<|r_ite (fun (hb22 : (decide (e2.From < e2.Tick)) = true) => ?_) (fun (hb22 : (decide (e2.From < e2.Tick)) = false) => ?_)
  ·refine r_T rfl<|r_T rfl<|r_T rfl<|r_T rfl<|kp [(3,pp bq1 0),(5,pp bq3 0),(7,pp bq6 0),(9,.bool (decide (e2.Cell = x4.Home))),(88,.bool true),(90,undef),(92,undef),(93,undef)] fun fr => r_T rfl<|r_T rfl<|r_T rfl<|r_T rfl<|r_T rfl<|r_T rfl<|r_T rfl<|r_T rfl ?_
   refine kp [(3,pp bq1 0),(5,pp bq3 0),(7,pp bq6 0),(9,.bool (decide (e2.Cell = x4.Home))),(98,.bool true),(100,undef),(102,undef)] fun fr => r_T rfl<|r_T rfl<|r_T rfl<|r_T rfl<|r_T rfl<|r_T rfl<|r_T rfl<|r_T rfl<|kp [(5,pp bq3 0),(7,pp bq6 0),(9,.bool (decide (e2.Cell = x4.Home))),(105,.bool true),(110,undef),(111,undef)] fun fr => r_T rfl<|r_T rfl<|r_T rfl ?_
   exact r_T rfl<|r_T rfl<|r_T rfl<|r_T rfl<|r_T rfl<|kp [(5,pp bq3 0),(7,pp bq6 0),(9,.bool (decide (e2.Cell = x4.Home))),(115,.bool true),(117,undef),(120,undef)] fun fr => r_T rfl<|r_T rfl<|rd ⟨_,fr_eq _ (by (try rw [hb22]); kernel_rfl),by kernel_rfl⟩
  refine r_F rfl<|ld 2 tt_ok (v := ii e2.From) ts_3 rfl<|r_F rfl<|r_F rfl<|ld 2 tt_ok (v := ii e2.Tick) ts_3 rfl<|r_F rfl<|kp [(3,pp bq1 0),(5,pp bq3 0),(7,pp bq6 0),(9,.bool (decide (e2.Cell = x4.Home))),(88,.bool false),(90,ii e2.From),(92,ii e2.Tick),(93,pp bq1 8)] fun fr => r_F rfl<|ld 4 tt_ok (v := ii c0.Lease) ts_3 rfl<|r_F rfl<|r_num (e' := w64 (e2.Tick + c0.Lease)) rfl<|r_F rfl<|r_ite (fun (hb23 : (decide (w64 (e2.Tick + c0.Lease) < e2.From)) = true) => ?_) (fun (hb23 : (decide (w64 (e2.Tick + c0.Lease) < e2.From)) = false) => ?_)
  ·refine r_T rfl<|r_T rfl<|r_T rfl<|kp [(3,pp bq1 0),(5,pp bq3 0),(7,pp bq6 0),(9,.bool (decide (e2.Cell = x4.Home))),(98,.bool true),(100,undef),(102,undef)] fun fr => r_T rfl<|r_T rfl<|r_T rfl<|r_T rfl<|r_T rfl<|r_T rfl<|r_T rfl<|r_T rfl<|kp [(5,pp bq3 0),(7,pp bq6 0),(9,.bool (decide (e2.Cell = x4.Home))),(105,.bool true),(110,undef),(111,undef)] fun fr => ?_
   exact r_T rfl<|r_T rfl<|r_T rfl<|r_T rfl<|r_T rfl<|r_T rfl<|r_T rfl<|r_T rfl<|kp [(5,pp bq3 0),(7,pp bq6 0),(9,.bool (decide (e2.Cell = x4.Home))),(115,.bool true),(117,undef),(120,undef)] fun fr => r_T rfl<|r_T rfl<|rd ⟨_,fr_eq _ (by (try rw [hb23]); (try rw [hb22]); kernel_rfl),by kernel_rfl⟩
  refine r_F rfl<|ld 2 tt_ok (v := ii e2.Until) ts_3 rfl<|r_F rfl<|r_F rfl<|ld 2 tt_ok (v := ii e2.From) ts_3 rfl<|kp [(3,pp bq1 0),(5,pp bq3 0),(7,pp bq6 0),(9,.bool (decide (e2.Cell = x4.Home))),(98,.bool false),(100,ii e2.Until),(102,ii e2.From)] fun fr => r_F rfl<|r_ite (fun (hb24 : (decide (e2.Until ≤ e2.From)) = true) => ?_) (fun (hb24 : (decide (e2.Until ≤ e2.From)) = false) => ?_)
  ·refine r_T rfl<|r_T rfl<|r_T rfl<|r_T rfl<|r_T rfl<|kp [(5,pp bq3 0),(7,pp bq6 0),(9,.bool (decide (e2.Cell = x4.Home))),(105,.bool true),(110,undef),(111,undef)] fun fr => r_T rfl<|r_T rfl<|r_T rfl<|r_T rfl<|r_T rfl<|r_T rfl<|r_T rfl ?_
   exact r_T rfl<|kp [(5,pp bq3 0),(7,pp bq6 0),(9,.bool (decide (e2.Cell = x4.Home))),(115,.bool true),(117,undef),(120,undef)] fun fr => r_T rfl<|r_T rfl<|rd ⟨_,fr_eq _ (by (try rw [hb24]); (try rw [hb23]); (try rw [hb22]); kernel_rfl),by kernel_rfl⟩
  refine r_F rfl<|ld 2 tt_ok (v := ii e2.Until) ts_3 rfl<|r_F rfl<|r_F rfl<|ld 2 tt_ok (v := ii e2.From) ts_3 rfl<|r_F rfl<|r_num (e' := w64 (e2.Until - e2.From)) rfl<|r_F rfl<|kp [(5,pp bq3 0),(7,pp bq6 0),(9,.bool (decide (e2.Cell = x4.Home))),(105,.bool false),(110,ii (w64 (e2.Until - e2.From))),(111,pp bq1 8)] fun fr => r_F rfl<|ld 4 tt_ok (v := ii c0.Lease) ts_3 rfl<|r_F rfl<|r_ite (fun (hb25 : (decide (c0.Lease < w64 (e2.Until - e2.From))) = true) => ?_) (fun (hb25 : (decide (c0.Lease < w64 (e2.Until - e2.From))) = false) => ?_)
  ·exact r_T rfl<|r_T rfl<|r_T rfl<|r_T rfl<|kp [(5,pp bq3 0),(7,pp bq6 0),(9,.bool (decide (e2.Cell = x4.Home))),(115,.bool true),(117,undef),(120,undef)] fun fr => r_T rfl<|r_T rfl<|rd ⟨_,fr_eq _ (by (try rw [hb25]); (try rw [hb24]); (try rw [hb23]); (try rw [hb22]); kernel_rfl),by kernel_rfl⟩
  exact r_F rfl<|ld 2 tt_ok (v := ii e2.From) ts_3 rfl<|r_F rfl<|r_F rfl<|r_F rfl<|ld 1 tt_ok (v := ii x4.Window.Until) ts_3 rfl<|kp [(5,pp bq3 0),(7,pp bq6 0),(9,.bool (decide (e2.Cell = x4.Home))),(115,.bool false),(117,ii e2.From),(120,ii x4.Window.Until)] fun fr => r_F rfl<|rd ⟨_,fr_eq _ (by (try rw [hb25]); (try rw [hb24]); (try rw [hb23]); (try rw [hb22]); kernel_rfl),by kernel_rfl⟩
 rintro fr S ⟨fr,rfl,rfl⟩
 refine rd ?_
 apply r_iteh h<;>clear h<;>intro h
 ·refine rb<|rd ?_
  repeat refine rd ?_
  repeat refine rd ?_
  obtain rfl := h_out h
  exact ret_of (RV.tmp RV.nil) (le_w [false,false,false,false,false]) ⟨rfl,rfl⟩
 refine rb<|r_meet (fun fr S => ∃ fr0,fr = updL [(123,.bool ((!(decide (e2.Cell = x4.Home))) && (decide (e2.Tick < x4.Window.Until))))] fr0 ∧ S = ⟨ρ,.obj bq9 (en_CellState x7) 54 :: .obj bq6 (en_TenantState x4) 58 :: .obj bq3 (en_Entry e2) 45 :: .obj bq2 (en_State s1 g_s1) 38 :: .obj bq1 (en_Config c0 g_c0) 30 :: L⟩) ?_ ?_
 ·refine r_ite (fun (hb27 : (!(decide (e2.Cell = x4.Home))) = true) => ?_) (fun (hb27 : (!(decide (e2.Cell = x4.Home))) = false) => ?_)
  ·exact r_T rfl<|kp [(5,pp bq3 0),(126,.bool true),(128,pp bq6 11)] fun fr => r_T rfl<|ld 1 tt_ok (v := ii x4.Window.Until) ts_3 rfl<|r_T rfl<|r_T rfl<|ld 2 tt_ok (v := ii e2.Tick) ts_3 rfl<|r_T rfl<|rd ⟨_,fr_eq _ (by (try rw [hb27]); kernel_rfl),by kernel_rfl⟩
  exact r_F rfl<|kp [(5,pp bq3 0),(126,.bool false),(128,undef)] fun fr => r_F rfl<|r_F rfl<|r_F rfl<|r_F rfl<|r_F rfl<|rd ⟨_,fr_eq _ (by (try rw [hb27]); kernel_rfl),by kernel_rfl⟩
 rintro fr S ⟨fr,rfl,rfl⟩
 refine rd ?_
 apply r_iteh h<;>clear h<;>intro h
 ·refine rb<|rd ?_
  repeat refine rd ?_
  repeat refine rd ?_
  obtain rfl := h_out h
  exact ret_of (RV.tmp RV.nil) (le_w [false,false,false,false,false]) ⟨rfl,rfl⟩
 refine rd<|rd<|rb<|rd ?_
 repeat refine rd ?_
 repeat refine rd ?_
 obtain rfl := h_out h
 exact ret_of (RV.tmp RV.nil) (le_w [false,false,false,false,false]) ⟨rfl,rfl⟩
theorem hc_50 {g_c0 : gConfig} {g_s1 : gState} {S_c0 : St} (hS_c0 : Le ⟨ρ,L⟩ S_c0) (c0 : Config) (s1 : State) (e2 : Entry) (h_c0 : Sl_Config S_c0 c0 g_c0) {r : (State × Int)} (h : cellplaneref12_grant c0 s1 e2 = some r) : HC Tryz.prog 50 #[.agg (en_Config c0 g_c0).toArray,.agg (en_State s1 g_s1).toArray,.agg (en_Entry e2).toArray] ⟨ρ,.row g_s1.Tenants.1 s1.Tenants.length g_s1.Tenants.2 58 12 (fl eTenantState.en s1.Tenants) :: .row g_s1.Cells.1 s1.Cells.length g_s1.Cells.2 54 4 (fl eCellState.en s1.Cells) :: L⟩ (fun v S' => ∃ (Aq1_0 : Option Addr),∃ (cq1_0 : Nat),∃ (Aq1_1 : Option Addr),∃ (cq1_1 : Nat),v = .tuple #[.agg (en_State r.1 (⟨(Aq1_0,cq1_0),(Aq1_1,cq1_1)⟩)).toArray,ii r.2] ∧ S' = ⟨ρ,.row Aq1_0 r.1.Tenants.length cq1_0 58 12 (fl eTenantState.en r.1.Tenants) :: .row Aq1_1 r.1.Cells.length cq1_1 54 4 (fl eCellState.en r.1.Cells) :: L⟩) := by
 replace h := h_in h
 refine HC.intro (N := 141) (args := [_,_,_]) tt_ok Tryz.func50 rfl (by decide +kernel) rfl (Nat.le_of_ble_eq_true rfl)<|rb<|r_bx (en_Config c0 g_c0) (by kernel_rfl) fun bq1 => r_bx (en_State s1 g_s1) (by kernel_rfl) fun bq2 => r_bx (en_Entry e2) (by kernel_rfl) fun bq3 => r_al tt_ok (en_State (⟨0,0,[],[],0,0,0,0⟩ : State) (⟨(none,0),(none,0)⟩)) ti_38 (by kernel_rfl) fun bq4 => rd<|rb<|ld 2 tt_ok (v := .slice g_s1.Tenants.1 s1.Tenants.length g_s1.Tenants.2) ts_35 rfl<|ld 1 tt_ok (v := ii e2.Tenant) ts_3 rfl<|kp [(3,pp bq1 0),(4,pp bq2 0),(5,pp bq3 0),(6,pp bq4 0),(11,.slice g_s1.Tenants.1 s1.Tenants.length g_s1.Tenants.2),(13,ii e2.Tenant)] fun fr => ?_
 replace h := h_b h; obtain ⟨x5,hx6,h⟩ := h
 refine r_el hx6 (rd_row 4 rfl)<|rd<|rb<|rb<|rb<|r_meet (fun fr S => ∃ fr0,fr = updL [(3,pp bq1 0),(4,pp bq2 0),(5,pp bq3 0),(6,pp bq4 0),(8,.pointer (some ((adr g_s1.Tenants.1).add (e2.Tenant.toNat * 12)))),(15,.bool ((!x5.Placed) || (x5.Shed && (!decide (e2.Cell = x5.Standby)))))] fr0 ∧ S = ⟨ρ,.obj bq4 (en_State (⟨0,0,[],[],0,0,0,0⟩ : State) (⟨(none,0),(none,0)⟩)) 38 :: .obj bq3 (en_Entry e2) 45 :: .obj bq2 (en_State s1 g_s1) 38 :: .obj bq1 (en_Config c0 g_c0) 30 :: .row g_s1.Tenants.1 s1.Tenants.length g_s1.Tenants.2 58 12 (fl eTenantState.en s1.Tenants) :: .row g_s1.Cells.1 s1.Cells.length g_s1.Cells.2 54 4 (fl eCellState.en s1.Cells) :: L⟩) ?_ ?_
 refine r_mix tt_ok hm_ok _ _ [] (.pure 0 (.pure 1 (.pure 2 (.vb 3 (.pure 4 (.pure 5 (.pure 6 (.pure 7 (.pure 8 (.vb 9 (.pure 10 (.pure 11 (.vb 12 (.pure 13 (.pure 14 (.pure 15 (.vb 16 (.pure 17 (.pure 18 (.pure 19 (.pure 20 .nil))))))))))))))))))))) (le_w [true,true,true,true,true,true]) (le_w [true,true,true,true,true,true]) ?_ ?_
 ·decide +kernel
 refine xp [(3,pp bq1 0),(4,pp bq2 0),(5,pp bq3 0),(6,pp bq4 0),(8,.pointer (some ((adr g_s1.Tenants.1).add (e2.Tenant.toNat * 12))))] fun fr => x_p rfl<|vd<|x_p rfl<|vd<|x_p rfl<|vd<|x_vb rfl<|v_lec (E := eTenantState) tt_ok (v := .bool x5.Placed) (idx_get hx6) (rd_row 4 rfl) ts_4 rfl (pl1 _ _ _) (by kernel_rfl)<|vd<|x_p rfl<|vd<|x_p rfl ?_
 refine vd<|x_p rfl<|v_ite (fun (hb7 : (!x5.Placed) = true) => ?_) (fun (hb7 : (!x5.Placed) = false) => ?_)
 ·refine vd<|x_p rfl<|v_T rfl<|vd<|x_p rfl<|v_T rfl<|vd<|xp [(3,pp bq1 0),(4,pp bq2 0),(5,pp bq3 0),(6,pp bq4 0),(8,.pointer (some ((adr g_s1.Tenants.1).add (e2.Tenant.toNat * 12)))),(21,.bool true),(24,undef)] fun fr => x_vb rfl<|v_T rfl<|vd<|x_p rfl<|v_T rfl ?_
  refine vd<|x_p rfl<|vd<|x_vb rfl<|vd<|x_p rfl<|vd<|x_p rfl<|vd<|x_p rfl<|vd<|x_vb rfl<|vd ?_
  exact x_p rfl<|vd<|xp [(3,pp bq1 0),(4,pp bq2 0),(5,pp bq3 0),(6,pp bq4 0),(8,.pointer (some ((adr g_s1.Tenants.1).add (e2.Tenant.toNat * 12)))),(21,.bool true),(26,undef),(33,undef)] fun fr => x_p rfl<|v_T rfl<|vd<|x_p rfl<|v_T rfl<|vd<|x_p rfl<|vd<|xk [(3,pp bq1 0),(4,pp bq2 0),(5,pp bq3 0),(6,pp bq4 0),(8,.pointer (some ((adr g_s1.Tenants.1).add (e2.Tenant.toNat * 12)))),(15,.bool true)] fun fr => rd ⟨_,fr_eq _ (by (try rw [hb7]); kernel_rfl),by kernel_rfl⟩
 refine vd<|x_p rfl<|v_F rfl<|vd<|x_p rfl<|v_F rfl<|vd<|xp [(3,pp bq1 0),(4,pp bq2 0),(5,pp bq3 0),(6,pp bq4 0),(8,.pointer (some ((adr g_s1.Tenants.1).add (e2.Tenant.toNat * 12)))),(21,.bool false),(24,.pointer (some (((adr g_s1.Tenants.1).add (e2.Tenant.toNat * 12)).add 1)))] fun fr => x_vb rfl<|v_F rfl<|v_lec (E := eTenantState) tt_ok (v := .bool x5.Shed) (idx_get hx6) (rd_row 4 rfl) ts_4 rfl (pl1 _ _ _) (by kernel_rfl)<|vd<|x_p rfl ?_
 refine v_F rfl<|vd<|x_p rfl<|v_ite (fun (hb8 : x5.Shed = true) => ?_) (fun (hb8 : x5.Shed = false) => ?_)
 ·refine vd<|x_vb rfl<|v_T rfl<|vl 1 tt_ok (v := ii e2.Cell) ts_3 rfl<|vd<|x_p rfl<|v_T rfl<|vd<|x_p rfl<|v_T rfl<|vd<|x_p rfl<|v_T rfl ?_
  refine vd<|x_vb rfl<|v_T rfl<|v_lec (E := eTenantState) tt_ok (v := ii x5.Standby) (idx_get hx6) (rd_row 4 rfl) ts_3 rfl (pl1 _ _ _) (by kernel_rfl)<|vd<|x_p rfl<|v_T rfl<|vd<|xp [(3,pp bq1 0),(4,pp bq2 0),(5,pp bq3 0),(6,pp bq4 0),(8,.pointer (some ((adr g_s1.Tenants.1).add (e2.Tenant.toNat * 12)))),(21,.bool false),(26,.bool true),(33,.bool (!decide (e2.Cell = x5.Standby)))] fun fr => x_p rfl<|v_F rfl<|vd<|x_p rfl ?_
  exact vd<|x_p rfl<|vd<|xk [(3,pp bq1 0),(4,pp bq2 0),(5,pp bq3 0),(6,pp bq4 0),(8,.pointer (some ((adr g_s1.Tenants.1).add (e2.Tenant.toNat * 12)))),(15,.bool (!decide (e2.Cell = x5.Standby)))] fun fr => rd ⟨_,fr_eq _ (by (try rw [hb8]); (try rw [hb7]); kernel_rfl),by kernel_rfl⟩
 refine vd<|x_vb rfl<|v_F rfl<|vd<|x_p rfl<|v_F rfl<|vd<|x_p rfl<|v_F rfl<|vd<|x_p rfl<|v_F rfl<|vd ?_
 refine x_vb rfl<|v_F rfl<|vd<|x_p rfl<|v_F rfl<|vd<|xp [(3,pp bq1 0),(4,pp bq2 0),(5,pp bq3 0),(6,pp bq4 0),(8,.pointer (some ((adr g_s1.Tenants.1).add (e2.Tenant.toNat * 12)))),(21,.bool false),(26,.bool false),(33,undef)] fun fr => x_p rfl<|v_F rfl<|v_F rfl<|vd<|x_p rfl<|vd ?_
 exact x_p rfl<|vd<|xk [(3,pp bq1 0),(4,pp bq2 0),(5,pp bq3 0),(6,pp bq4 0),(8,.pointer (some ((adr g_s1.Tenants.1).add (e2.Tenant.toNat * 12)))),(15,.bool false)] fun fr => rd ⟨_,fr_eq _ (by (try rw [hb8]); (try rw [hb7]); kernel_rfl),by kernel_rfl⟩
 rintro fr S ⟨fr,rfl,rfl⟩
 refine rd ?_
 apply r_iteh h<;>clear h<;>intro h
 ·refine rb<|rc (hc_48 (e0 := 4)) ?_
  rintro _ _ ⟨A10,c11,A13,c14,rfl,rfl⟩
  refine st 2 tt_ok (en_State ((cellplaneref12_no 4).1) (⟨(A10,c11),(A13,c14)⟩)) (fn ta_38) rfl<|rd ?_
  repeat refine rd ?_
  repeat refine rd ?_
  obtain rfl := h_out h
  exact ret_of (rv_cell 2 tt_ok (by kernel_rfl) ta_38 rfl rfl (RV.tmp RV.nil)) (le_w [true,true,false,false,false,false,false,false]) ⟨A10,c11,A13,c14,rfl,rfl⟩
 refine rb<|r_meet (fun fr S => ∃ fr0,fr = updL [(3,pp bq1 0),(4,pp bq2 0),(5,pp bq3 0),(6,pp bq4 0),(8,.pointer (some ((adr g_s1.Tenants.1).add (e2.Tenant.toNat * 12)))),(39,.bool ((!decide (e2.Cell = x5.Home)) && ((!decide (e2.Cell = x5.Standby)) && (!decide (e2.Cell = x5.Target)))))] fr0 ∧ S = ⟨ρ,.obj bq4 (en_State (⟨0,0,[],[],0,0,0,0⟩ : State) (⟨(none,0),(none,0)⟩)) 38 :: .obj bq3 (en_Entry e2) 45 :: .obj bq2 (en_State s1 g_s1) 38 :: .obj bq1 (en_Config c0 g_c0) 30 :: .row g_s1.Tenants.1 s1.Tenants.length g_s1.Tenants.2 58 12 (fl eTenantState.en s1.Tenants) :: .row g_s1.Cells.1 s1.Cells.length g_s1.Cells.2 54 4 (fl eCellState.en s1.Cells) :: L⟩) ?_ ?_
 refine r_mix tt_ok hm_ok _ _ [] (.pure 0 (.vb 1 (.pure 2 (.pure 3 (.pure 4 (.vb 5 (.pure 6 (.pure 7 (.pure 8 (.vb 9 (.pure 10 (.pure 11 (.pure 12 (.vb 13 (.pure 14 (.pure 15 (.pure 16 (.pure 17 (.vb 18 (.pure 19 (.pure 20 (.pure 21 (.vb 22 (.pure 23 (.pure 24 (.pure 25 .nil)))))))))))))))))))))))))) (le_w [true,true,true,true,true,true]) (le_w [true,true,true,true,true,true]) ?_ ?_
 ·decide +kernel
 refine xp [(3,pp bq1 0),(4,pp bq2 0),(5,pp bq3 0),(6,pp bq4 0),(8,.pointer (some ((adr g_s1.Tenants.1).add (e2.Tenant.toNat * 12))))] fun fr => x_p rfl<|vd<|x_vb rfl<|vl 1 tt_ok (v := ii e2.Cell) ts_3 rfl<|vd<|x_p rfl<|vd<|x_p rfl<|vd<|x_p rfl<|vd<|x_vb rfl ?_
 refine v_lec (E := eTenantState) tt_ok (v := ii x5.Home) (idx_get hx6) (rd_row 4 rfl) ts_3 rfl (pl1 _ _ _) (by kernel_rfl)<|vd<|x_p rfl<|vd<|x_p rfl<|vd<|x_p rfl<|v_ite (fun (hb16 : (!decide (e2.Cell = x5.Home)) = true) => ?_) (fun (hb16 : (!decide (e2.Cell = x5.Home)) = false) => ?_)
 ·refine vd<|xp [(3,pp bq1 0),(4,pp bq2 0),(5,pp bq3 0),(6,pp bq4 0),(8,.pointer (some ((adr g_s1.Tenants.1).add (e2.Tenant.toNat * 12)))),(47,.bool true),(48,pp bq3 3)] fun fr => x_vb rfl<|v_T rfl<|vl 1 tt_ok (v := ii e2.Cell) ts_3 rfl<|vd<|x_p rfl<|v_T rfl<|vd<|x_p rfl<|v_T rfl<|vd<|x_p rfl ?_
  refine v_T rfl<|vd<|x_vb rfl<|v_T rfl<|v_lec (E := eTenantState) tt_ok (v := ii x5.Standby) (idx_get hx6) (rd_row 4 rfl) ts_3 rfl (pl1 _ _ _) (by kernel_rfl)<|vd<|x_p rfl<|v_T rfl<|vd<|x_p rfl<|vd<|x_p rfl<|vd ?_
  refine x_p rfl<|v_ite (fun (hb17 : (!decide (e2.Cell = x5.Standby)) = true) => ?_) (fun (hb17 : (!decide (e2.Cell = x5.Standby)) = false) => ?_)
  ·refine vd<|xp [(3,pp bq1 0),(4,pp bq2 0),(5,pp bq3 0),(6,pp bq4 0),(8,.pointer (some ((adr g_s1.Tenants.1).add (e2.Tenant.toNat * 12)))),(56,.bool true),(57,pp bq3 3)] fun fr => x_vb rfl<|v_T rfl<|vl 1 tt_ok (v := ii e2.Cell) ts_3 rfl<|vd<|x_p rfl<|v_T rfl<|vd<|x_p rfl<|v_T rfl<|vd<|x_p rfl ?_
   refine v_T rfl<|vd<|x_vb rfl<|v_T rfl<|v_lec (E := eTenantState) tt_ok (v := ii x5.Target) (idx_get hx6) (rd_row 4 rfl) ts_3 rfl (pl1 _ _ _) (by kernel_rfl)<|vd<|x_p rfl<|v_T rfl<|vd<|x_p rfl<|vd<|x_p rfl<|vd ?_
   exact xk [(3,pp bq1 0),(4,pp bq2 0),(5,pp bq3 0),(6,pp bq4 0),(8,.pointer (some ((adr g_s1.Tenants.1).add (e2.Tenant.toNat * 12)))),(39,.bool (!decide (e2.Cell = x5.Target)))] fun fr => rd ⟨_,fr_eq _ (by (try rw [hb17]); (try rw [hb16]); kernel_rfl),by kernel_rfl⟩
  refine vd<|xp [(3,pp bq1 0),(4,pp bq2 0),(5,pp bq3 0),(6,pp bq4 0),(8,.pointer (some ((adr g_s1.Tenants.1).add (e2.Tenant.toNat * 12)))),(56,.bool false),(57,undef)] fun fr => x_vb rfl<|v_F rfl<|vd<|x_p rfl<|v_F rfl<|vd<|x_p rfl<|v_F rfl<|vd<|x_p rfl<|v_F rfl ?_
  refine vd<|x_vb rfl<|v_F rfl<|vd<|x_p rfl<|v_F rfl<|vd<|x_p rfl<|v_F rfl<|vd<|x_p rfl<|vd<|xk [(3,pp bq1 0),(4,pp bq2 0),(5,pp bq3 0),(6,pp bq4 0),(8,.pointer (some ((adr g_s1.Tenants.1).add (e2.Tenant.toNat * 12)))),(39,.bool false)] fun fr => ?_
  exact rd ⟨_,fr_eq _ (by (try rw [hb17]); (try rw [hb16]); kernel_rfl),by kernel_rfl⟩
 refine vd<|xp [(3,pp bq1 0),(4,pp bq2 0),(5,pp bq3 0),(6,pp bq4 0),(8,.pointer (some ((adr g_s1.Tenants.1).add (e2.Tenant.toNat * 12)))),(47,.bool false),(48,undef)] fun fr => x_vb rfl<|v_F rfl<|vd<|x_p rfl<|v_F rfl<|vd<|x_p rfl<|v_F rfl<|vd<|x_p rfl<|v_F rfl ?_
 refine vd<|x_vb rfl<|v_F rfl<|vd<|x_p rfl<|v_F rfl<|vd<|x_p rfl<|v_F rfl<|vd<|x_p rfl<|vd<|x_p rfl ?_
 refine v_F rfl<|vd<|xp [(3,pp bq1 0),(4,pp bq2 0),(5,pp bq3 0),(6,pp bq4 0),(8,.pointer (some ((adr g_s1.Tenants.1).add (e2.Tenant.toNat * 12)))),(56,.bool false),(57,undef)] fun fr => x_vb rfl<|v_F rfl<|vd<|x_p rfl<|v_F rfl<|vd<|x_p rfl<|v_F rfl<|vd<|x_p rfl ?_
 refine v_F rfl<|vd<|x_vb rfl<|v_F rfl<|vd<|x_p rfl<|v_F rfl<|vd<|x_p rfl<|v_F rfl<|vd<|x_p rfl<|vd ?_
 exact xk [(3,pp bq1 0),(4,pp bq2 0),(5,pp bq3 0),(6,pp bq4 0),(8,.pointer (some ((adr g_s1.Tenants.1).add (e2.Tenant.toNat * 12)))),(39,.bool false)] fun fr => rd ⟨_,fr_eq _ (by (try rw [hb16]); kernel_rfl),by kernel_rfl⟩
 rintro fr S ⟨fr,rfl,rfl⟩
 refine rd ?_
 apply r_iteh h<;>clear h<;>intro h
 ·refine rb<|rc (hc_48 (e0 := 5)) ?_
  rintro _ _ ⟨A19,c20,A22,c23,rfl,rfl⟩
  refine st 2 tt_ok (en_State ((cellplaneref12_no 5).1) (⟨(A19,c20),(A22,c23)⟩)) (fn ta_38) rfl<|rd ?_
  repeat refine rd ?_
  repeat refine rd ?_
  obtain rfl := h_out h
  exact ret_of (rv_cell 2 tt_ok (by kernel_rfl) ta_38 rfl rfl (RV.tmp RV.nil)) (le_w [true,true,false,false,false,false,false,false]) ⟨A19,c20,A22,c23,rfl,rfl⟩
 refine rd<|rd<|rb<|ln 3 tt_ok (en_Config c0 g_c0) ta_30 rfl<|ln 2 tt_ok (en_State s1 g_s1) ta_38 rfl<|ln 1 tt_ok (en_Entry e2) ta_45 rfl ?_
 replace h := h_b h; obtain ⟨x26,hx25,h⟩ := h
 refine rc (hc_91 (g_c0 := g_c0) (c0 := c0) (g_s1 := g_s1) (s1 := s1) (e2 := e2) (hS_c0 := by exact (le_d 6).trans hS_c0) (h_c0 :=h_c0) (hS_s1 := by exact Le.refl _) (h_s1 := by exact ⟨sl_row 4 rfl,sl_row 5 rfl⟩) (h := hx25)) ?_
 rintro _ _ ⟨rfl,rfl⟩
 refine rd<|rb<|rb<|rd ?_
 apply r_iteh h<;>clear h<;>intro h
 ·refine rb<|rc (hc_48 (e0 := x26)) ?_
  rintro _ _ ⟨A28,c29,A31,c32,rfl,rfl⟩
  refine kp [(6,pp bq4 0),(75,.tuple #[.agg (en_State ((cellplaneref12_no x26).1) (⟨(A28,c29),(A31,c32)⟩)).toArray,ii ((cellplaneref12_no x26).2)])] fun fr => st 2 tt_ok (en_State ((cellplaneref12_no x26).1) (⟨(A28,c29),(A31,c32)⟩)) (fn ta_38) rfl<|rd ?_
  repeat refine rd ?_
  repeat refine rd ?_
  obtain rfl := h_out h
  exact ret_of (rv_cell 2 tt_ok (by kernel_rfl) ta_38 rfl rfl (RV.tmp RV.nil)) (le_w [true,true,false,false,false,false,false,false]) ⟨A28,c29,A31,c32,rfl,rfl⟩
 refine rd<|rb<|ld 1 tt_ok (v := ii e2.Cell) ts_3 rfl<|kp [(3,pp bq1 0),(4,pp bq2 0),(5,pp bq3 0),(6,pp bq4 0),(8,.pointer (some ((adr g_s1.Tenants.1).add (e2.Tenant.toNat * 12)))),(78,.pointer (some ((adr g_s1.Tenants.1).add (e2.Tenant.toNat * 12)))),(80,ii e2.Cell)] fun fr => ld 1 tt_ok (v := ii e2.Epoch) ts_3 rfl<|ld 1 tt_ok (v := ii e2.N) ts_3 rfl<|ld 1 tt_ok (v := ii e2.From) ts_3 rfl<|ld 1 tt_ok (v := ii e2.Until) ts_3 rfl<|r_bd tt_ok (en_Window (⟨e2.Cell,e2.Epoch,e2.N,e2.From,e2.Until⟩ : Window)) ti_56 tp_56 (by kernel_rfl)<|kp [(3,pp bq1 0),(4,pp bq2 0),(5,pp bq3 0),(6,pp bq4 0),(8,.pointer (some ((adr g_s1.Tenants.1).add (e2.Tenant.toNat * 12)))),(78,.pointer (some ((adr g_s1.Tenants.1).add (e2.Tenant.toNat * 12)))),(89,.agg (en_Window (⟨e2.Cell,e2.Epoch,e2.N,e2.From,e2.Until⟩ : Window)).toArray)] fun fr => r_sec 4 (E := eTenantState) tt_ok ({ x5 with Window := (⟨e2.Cell,e2.Epoch,e2.N,e2.From,e2.Until⟩ : Window) }) (idx_get hx6) (fn ta_56) rfl rfl (pl1 _ _ _) (by kernel_rfl) (by kernel_rfl) (List.cons_ne_nil _ _) ?_
 rw [show (en_State s1 g_s1) = (en_State ({ s1 with Tenants := (s1.Tenants.set e2.Tenant.toNat ({ x5 with Window := (⟨e2.Cell,e2.Epoch,e2.N,e2.From,e2.Until⟩ : Window) })) }) g_s1) by simp [en_State]]
 rw [← @List.length_set _ s1.Tenants e2.Tenant.toNat ({ x5 with Window := (⟨e2.Cell,e2.Epoch,e2.N,e2.From,e2.Until⟩ : Window) })]
 refine rd<|rb<|ld 1 tt_ok (v := ii e2.Epoch) ts_3 rfl<|r_sec 4 (E := eTenantState) tt_ok ({ x5 with Epoch := e2.Epoch,Window := (⟨e2.Cell,e2.Epoch,e2.N,e2.From,e2.Until⟩ : Window) }) (get_set (idx_get hx6) _) (f1 ts_3) rfl rfl (pl1 _ _ _) (by kernel_rfl) (by kernel_rfl) (List.cons_ne_nil _ _) ?_
 rw [show (en_State ({ s1 with Tenants := (s1.Tenants.set e2.Tenant.toNat ({ x5 with Window := (⟨e2.Cell,e2.Epoch,e2.N,e2.From,e2.Until⟩ : Window) })) }) g_s1) = (en_State ({ s1 with Tenants := ((s1.Tenants.set e2.Tenant.toNat ({ x5 with Window := (⟨e2.Cell,e2.Epoch,e2.N,e2.From,e2.Until⟩ : Window) })).set e2.Tenant.toNat ({ x5 with Epoch := e2.Epoch,Window := (⟨e2.Cell,e2.Epoch,e2.N,e2.From,e2.Until⟩ : Window) })) }) g_s1) by simp [en_State]]
 rw [← @List.length_set _ (s1.Tenants.set e2.Tenant.toNat ({ x5 with Window := (⟨e2.Cell,e2.Epoch,e2.N,e2.From,e2.Until⟩ : Window) })) e2.Tenant.toNat ({ x5 with Epoch := e2.Epoch,Window := (⟨e2.Cell,e2.Epoch,e2.N,e2.From,e2.Until⟩ : Window) })]
 refine kr [(3,pp bq1 0),(4,pp bq2 0),(5,pp bq3 0),(6,pp bq4 0),(8,.pointer (some ((adr g_s1.Tenants.1).add (e2.Tenant.toNat * 12))))] fun fr => rd<|rb ?_
 replace h := h_j h; obtain ⟨K38,h,hK39⟩ := h
 refine r_meet (fun fr S => ∃ (xs36 : (List TenantState)),∃ fr0,K38 xs36 = some r ∧ fr = updL [(3,pp bq1 0),(4,pp bq2 0),(6,pp bq4 0)] fr0 ∧ S = ⟨ρ,.row g_s1.Tenants.1 xs36.length g_s1.Tenants.2 58 12 (fl eTenantState.en xs36) :: .obj bq4 (en_State (⟨0,0,[],[],0,0,0,0⟩ : State) (⟨(none,0),(none,0)⟩)) 38 :: .obj bq2 (en_State ({ s1 with Tenants := xs36 }) g_s1) 38 :: .obj bq1 (en_Config c0 g_c0) 30 :: .row g_s1.Cells.1 s1.Cells.length g_s1.Cells.2 54 4 (fl eCellState.en s1.Cells) :: L⟩) ?_ ?_
 ·refine rb<|ld 1 tt_ok (v := ii e2.Cell) ts_3 rfl<|kr [(3,pp bq1 0),(4,pp bq2 0),(5,pp bq3 0),(6,pp bq4 0),(8,.pointer (some ((adr g_s1.Tenants.1).add (e2.Tenant.toNat * 12)))),(98,ii e2.Cell)] fun fr => rd<|rb<|rb<|r_lec (E := eTenantState) tt_ok (v := ii x5.Home) (get_set (get_set (idx_get hx6) _) _) (rd_row 4 rfl) ts_3 rfl (pl1 _ _ _) (by kernel_rfl)<|rd ?_
  apply r_iteh h<;>clear h<;>intro h
  ·exact rd<|r_le ((le_mv 5).trans ((le_mv 4).trans ((le_mv 4).trans ((le_mv 3).trans ((le_mv 5).trans (le_w [true,true,true,true,true,false]))))))<|rd ⟨((s1.Tenants.set e2.Tenant.toNat ({ x5 with Window := (⟨e2.Cell,e2.Epoch,e2.N,e2.From,e2.Until⟩ : Window) })).set e2.Tenant.toNat ({ x5 with Epoch := e2.Epoch,Window := (⟨e2.Cell,e2.Epoch,e2.N,e2.From,e2.Until⟩ : Window) })),_,h,fe _,by kernel_rfl⟩
  refine rb<|r_lec (E := eTenantState) tt_ok (v := ii x5.Standby) (get_set (get_set (idx_get hx6) _) _) (rd_row 4 rfl) ts_3 rfl (pl1 _ _ _) (by kernel_rfl)<|kp [(3,pp bq1 0),(4,pp bq2 0),(5,pp bq3 0),(6,pp bq4 0),(8,.pointer (some ((adr g_s1.Tenants.1).add (e2.Tenant.toNat * 12)))),(98,ii e2.Cell),(117,ii x5.Standby)] fun fr => rd ?_
  apply r_iteh h<;>clear h<;>intro h
  ·refine ld 1 tt_ok (v := ii e2.Cell) ts_3 rfl<|kp [(3,pp bq1 0),(4,pp bq2 0),(6,pp bq4 0),(119,.pointer (some ((adr g_s1.Tenants.1).add (e2.Tenant.toNat * 12)))),(120,.pointer (some ((adr g_s1.Tenants.1).add (e2.Tenant.toNat * 12)))),(121,.pointer (some ((adr g_s1.Tenants.1).add (e2.Tenant.toNat * 12)))),(122,.pointer (some ((adr g_s1.Tenants.1).add (e2.Tenant.toNat * 12)))),(123,.pointer (some ((adr g_s1.Tenants.1).add (e2.Tenant.toNat * 12)))),(125,ii e2.Cell)] fun fr => r_sec 4 (E := eTenantState) tt_ok ({ x5 with Home := e2.Cell,Epoch := e2.Epoch,Window := (⟨e2.Cell,e2.Epoch,e2.N,e2.From,e2.Until⟩ : Window) }) (get_set (get_set (idx_get hx6) _) _) (f1 ts_3) rfl rfl (pl1 _ _ _) (by kernel_rfl) (by kernel_rfl) (List.cons_ne_nil _ _) ?_
   rw [show (en_State ({ s1 with Tenants := ((s1.Tenants.set e2.Tenant.toNat ({ x5 with Window := (⟨e2.Cell,e2.Epoch,e2.N,e2.From,e2.Until⟩ : Window) })).set e2.Tenant.toNat ({ x5 with Epoch := e2.Epoch,Window := (⟨e2.Cell,e2.Epoch,e2.N,e2.From,e2.Until⟩ : Window) })) }) g_s1) = (en_State ({ s1 with Tenants := (((s1.Tenants.set e2.Tenant.toNat ({ x5 with Window := (⟨e2.Cell,e2.Epoch,e2.N,e2.From,e2.Until⟩ : Window) })).set e2.Tenant.toNat ({ x5 with Epoch := e2.Epoch,Window := (⟨e2.Cell,e2.Epoch,e2.N,e2.From,e2.Until⟩ : Window) })).set e2.Tenant.toNat ({ x5 with Home := e2.Cell,Epoch := e2.Epoch,Window := (⟨e2.Cell,e2.Epoch,e2.N,e2.From,e2.Until⟩ : Window) })) }) g_s1) by simp [en_State]]
   rw [← @List.length_set _ ((s1.Tenants.set e2.Tenant.toNat ({ x5 with Window := (⟨e2.Cell,e2.Epoch,e2.N,e2.From,e2.Until⟩ : Window) })).set e2.Tenant.toNat ({ x5 with Epoch := e2.Epoch,Window := (⟨e2.Cell,e2.Epoch,e2.N,e2.From,e2.Until⟩ : Window) })) e2.Tenant.toNat ({ x5 with Home := e2.Cell,Epoch := e2.Epoch,Window := (⟨e2.Cell,e2.Epoch,e2.N,e2.From,e2.Until⟩ : Window) })]
   refine r_sec 4 (E := eTenantState) tt_ok ({ x5 with Home := e2.Cell,Standby := (-1),Epoch := e2.Epoch,Window := (⟨e2.Cell,e2.Epoch,e2.N,e2.From,e2.Until⟩ : Window) }) (get_set (get_set (get_set (idx_get hx6) _) _) _) (f1 ts_3) rfl rfl (pl1 _ _ _) (by kernel_rfl) (by kernel_rfl) (List.cons_ne_nil _ _) ?_
   rw [show (en_State ({ s1 with Tenants := (((s1.Tenants.set e2.Tenant.toNat ({ x5 with Window := (⟨e2.Cell,e2.Epoch,e2.N,e2.From,e2.Until⟩ : Window) })).set e2.Tenant.toNat ({ x5 with Epoch := e2.Epoch,Window := (⟨e2.Cell,e2.Epoch,e2.N,e2.From,e2.Until⟩ : Window) })).set e2.Tenant.toNat ({ x5 with Home := e2.Cell,Epoch := e2.Epoch,Window := (⟨e2.Cell,e2.Epoch,e2.N,e2.From,e2.Until⟩ : Window) })) }) g_s1) = (en_State ({ s1 with Tenants := ((((s1.Tenants.set e2.Tenant.toNat ({ x5 with Window := (⟨e2.Cell,e2.Epoch,e2.N,e2.From,e2.Until⟩ : Window) })).set e2.Tenant.toNat ({ x5 with Epoch := e2.Epoch,Window := (⟨e2.Cell,e2.Epoch,e2.N,e2.From,e2.Until⟩ : Window) })).set e2.Tenant.toNat ({ x5 with Home := e2.Cell,Epoch := e2.Epoch,Window := (⟨e2.Cell,e2.Epoch,e2.N,e2.From,e2.Until⟩ : Window) })).set e2.Tenant.toNat ({ x5 with Home := e2.Cell,Standby := (-1),Epoch := e2.Epoch,Window := (⟨e2.Cell,e2.Epoch,e2.N,e2.From,e2.Until⟩ : Window) })) }) g_s1) by simp [en_State]]
   rw [← @List.length_set _ (((s1.Tenants.set e2.Tenant.toNat ({ x5 with Window := (⟨e2.Cell,e2.Epoch,e2.N,e2.From,e2.Until⟩ : Window) })).set e2.Tenant.toNat ({ x5 with Epoch := e2.Epoch,Window := (⟨e2.Cell,e2.Epoch,e2.N,e2.From,e2.Until⟩ : Window) })).set e2.Tenant.toNat ({ x5 with Home := e2.Cell,Epoch := e2.Epoch,Window := (⟨e2.Cell,e2.Epoch,e2.N,e2.From,e2.Until⟩ : Window) })) e2.Tenant.toNat ({ x5 with Home := e2.Cell,Standby := (-1),Epoch := e2.Epoch,Window := (⟨e2.Cell,e2.Epoch,e2.N,e2.From,e2.Until⟩ : Window) })]
   refine r_sec 4 (E := eTenantState) tt_ok ({ x5 with Home := e2.Cell,Standby := (-1),Next := (-1),Epoch := e2.Epoch,Window := (⟨e2.Cell,e2.Epoch,e2.N,e2.From,e2.Until⟩ : Window) }) (get_set (get_set (get_set (get_set (idx_get hx6) _) _) _) _) (f1 ts_3) rfl rfl (pl1 _ _ _) (by kernel_rfl) (by kernel_rfl) (List.cons_ne_nil _ _) ?_
   rw [show (en_State ({ s1 with Tenants := ((((s1.Tenants.set e2.Tenant.toNat ({ x5 with Window := (⟨e2.Cell,e2.Epoch,e2.N,e2.From,e2.Until⟩ : Window) })).set e2.Tenant.toNat ({ x5 with Epoch := e2.Epoch,Window := (⟨e2.Cell,e2.Epoch,e2.N,e2.From,e2.Until⟩ : Window) })).set e2.Tenant.toNat ({ x5 with Home := e2.Cell,Epoch := e2.Epoch,Window := (⟨e2.Cell,e2.Epoch,e2.N,e2.From,e2.Until⟩ : Window) })).set e2.Tenant.toNat ({ x5 with Home := e2.Cell,Standby := (-1),Epoch := e2.Epoch,Window := (⟨e2.Cell,e2.Epoch,e2.N,e2.From,e2.Until⟩ : Window) })) }) g_s1) = (en_State ({ s1 with Tenants := (((((s1.Tenants.set e2.Tenant.toNat ({ x5 with Window := (⟨e2.Cell,e2.Epoch,e2.N,e2.From,e2.Until⟩ : Window) })).set e2.Tenant.toNat ({ x5 with Epoch := e2.Epoch,Window := (⟨e2.Cell,e2.Epoch,e2.N,e2.From,e2.Until⟩ : Window) })).set e2.Tenant.toNat ({ x5 with Home := e2.Cell,Epoch := e2.Epoch,Window := (⟨e2.Cell,e2.Epoch,e2.N,e2.From,e2.Until⟩ : Window) })).set e2.Tenant.toNat ({ x5 with Home := e2.Cell,Standby := (-1),Epoch := e2.Epoch,Window := (⟨e2.Cell,e2.Epoch,e2.N,e2.From,e2.Until⟩ : Window) })).set e2.Tenant.toNat ({ x5 with Home := e2.Cell,Standby := (-1),Next := (-1),Epoch := e2.Epoch,Window := (⟨e2.Cell,e2.Epoch,e2.N,e2.From,e2.Until⟩ : Window) })) }) g_s1) by simp [en_State]]
   rw [← @List.length_set _ ((((s1.Tenants.set e2.Tenant.toNat ({ x5 with Window := (⟨e2.Cell,e2.Epoch,e2.N,e2.From,e2.Until⟩ : Window) })).set e2.Tenant.toNat ({ x5 with Epoch := e2.Epoch,Window := (⟨e2.Cell,e2.Epoch,e2.N,e2.From,e2.Until⟩ : Window) })).set e2.Tenant.toNat ({ x5 with Home := e2.Cell,Epoch := e2.Epoch,Window := (⟨e2.Cell,e2.Epoch,e2.N,e2.From,e2.Until⟩ : Window) })).set e2.Tenant.toNat ({ x5 with Home := e2.Cell,Standby := (-1),Epoch := e2.Epoch,Window := (⟨e2.Cell,e2.Epoch,e2.N,e2.From,e2.Until⟩ : Window) })) e2.Tenant.toNat ({ x5 with Home := e2.Cell,Standby := (-1),Next := (-1),Epoch := e2.Epoch,Window := (⟨e2.Cell,e2.Epoch,e2.N,e2.From,e2.Until⟩ : Window) })]
   refine kp [(3,pp bq1 0),(4,pp bq2 0),(6,pp bq4 0),(122,.pointer (some ((adr g_s1.Tenants.1).add (e2.Tenant.toNat * 12)))),(123,.pointer (some ((adr g_s1.Tenants.1).add (e2.Tenant.toNat * 12))))] fun fr => r_sec 4 (E := eTenantState) tt_ok ({ x5 with Home := e2.Cell,Standby := (-1),Next := (-1),Target := (-1),Epoch := e2.Epoch,Window := (⟨e2.Cell,e2.Epoch,e2.N,e2.From,e2.Until⟩ : Window) }) (get_set (get_set (get_set (get_set (get_set (idx_get hx6) _) _) _) _) _) (f1 ts_3) rfl rfl (pl1 _ _ _) (by kernel_rfl) (by kernel_rfl) (List.cons_ne_nil _ _) ?_
   rw [show (en_State ({ s1 with Tenants := (((((s1.Tenants.set e2.Tenant.toNat ({ x5 with Window := (⟨e2.Cell,e2.Epoch,e2.N,e2.From,e2.Until⟩ : Window) })).set e2.Tenant.toNat ({ x5 with Epoch := e2.Epoch,Window := (⟨e2.Cell,e2.Epoch,e2.N,e2.From,e2.Until⟩ : Window) })).set e2.Tenant.toNat ({ x5 with Home := e2.Cell,Epoch := e2.Epoch,Window := (⟨e2.Cell,e2.Epoch,e2.N,e2.From,e2.Until⟩ : Window) })).set e2.Tenant.toNat ({ x5 with Home := e2.Cell,Standby := (-1),Epoch := e2.Epoch,Window := (⟨e2.Cell,e2.Epoch,e2.N,e2.From,e2.Until⟩ : Window) })).set e2.Tenant.toNat ({ x5 with Home := e2.Cell,Standby := (-1),Next := (-1),Epoch := e2.Epoch,Window := (⟨e2.Cell,e2.Epoch,e2.N,e2.From,e2.Until⟩ : Window) })) }) g_s1) = (en_State ({ s1 with Tenants := ((((((s1.Tenants.set e2.Tenant.toNat ({ x5 with Window := (⟨e2.Cell,e2.Epoch,e2.N,e2.From,e2.Until⟩ : Window) })).set e2.Tenant.toNat ({ x5 with Epoch := e2.Epoch,Window := (⟨e2.Cell,e2.Epoch,e2.N,e2.From,e2.Until⟩ : Window) })).set e2.Tenant.toNat ({ x5 with Home := e2.Cell,Epoch := e2.Epoch,Window := (⟨e2.Cell,e2.Epoch,e2.N,e2.From,e2.Until⟩ : Window) })).set e2.Tenant.toNat ({ x5 with Home := e2.Cell,Standby := (-1),Epoch := e2.Epoch,Window := (⟨e2.Cell,e2.Epoch,e2.N,e2.From,e2.Until⟩ : Window) })).set e2.Tenant.toNat ({ x5 with Home := e2.Cell,Standby := (-1),Next := (-1),Epoch := e2.Epoch,Window := (⟨e2.Cell,e2.Epoch,e2.N,e2.From,e2.Until⟩ : Window) })).set e2.Tenant.toNat ({ x5 with Home := e2.Cell,Standby := (-1),Next := (-1),Target := (-1),Epoch := e2.Epoch,Window := (⟨e2.Cell,e2.Epoch,e2.N,e2.From,e2.Until⟩ : Window) })) }) g_s1) by simp [en_State]]
   rw [← @List.length_set _ (((((s1.Tenants.set e2.Tenant.toNat ({ x5 with Window := (⟨e2.Cell,e2.Epoch,e2.N,e2.From,e2.Until⟩ : Window) })).set e2.Tenant.toNat ({ x5 with Epoch := e2.Epoch,Window := (⟨e2.Cell,e2.Epoch,e2.N,e2.From,e2.Until⟩ : Window) })).set e2.Tenant.toNat ({ x5 with Home := e2.Cell,Epoch := e2.Epoch,Window := (⟨e2.Cell,e2.Epoch,e2.N,e2.From,e2.Until⟩ : Window) })).set e2.Tenant.toNat ({ x5 with Home := e2.Cell,Standby := (-1),Epoch := e2.Epoch,Window := (⟨e2.Cell,e2.Epoch,e2.N,e2.From,e2.Until⟩ : Window) })).set e2.Tenant.toNat ({ x5 with Home := e2.Cell,Standby := (-1),Next := (-1),Epoch := e2.Epoch,Window := (⟨e2.Cell,e2.Epoch,e2.N,e2.From,e2.Until⟩ : Window) })) e2.Tenant.toNat ({ x5 with Home := e2.Cell,Standby := (-1),Next := (-1),Target := (-1),Epoch := e2.Epoch,Window := (⟨e2.Cell,e2.Epoch,e2.N,e2.From,e2.Until⟩ : Window) })]
   refine r_sec 4 (E := eTenantState) tt_ok ({ x5 with Shed := false,Home := e2.Cell,Standby := (-1),Next := (-1),Target := (-1),Epoch := e2.Epoch,Window := (⟨e2.Cell,e2.Epoch,e2.N,e2.From,e2.Until⟩ : Window) }) (get_set (get_set (get_set (get_set (get_set (get_set (idx_get hx6) _) _) _) _) _) _) (f1 ts_4) rfl rfl (pl1 _ _ _) (by kernel_rfl) (by kernel_rfl) (List.cons_ne_nil _ _) ?_
   rw [show (en_State ({ s1 with Tenants := ((((((s1.Tenants.set e2.Tenant.toNat ({ x5 with Window := (⟨e2.Cell,e2.Epoch,e2.N,e2.From,e2.Until⟩ : Window) })).set e2.Tenant.toNat ({ x5 with Epoch := e2.Epoch,Window := (⟨e2.Cell,e2.Epoch,e2.N,e2.From,e2.Until⟩ : Window) })).set e2.Tenant.toNat ({ x5 with Home := e2.Cell,Epoch := e2.Epoch,Window := (⟨e2.Cell,e2.Epoch,e2.N,e2.From,e2.Until⟩ : Window) })).set e2.Tenant.toNat ({ x5 with Home := e2.Cell,Standby := (-1),Epoch := e2.Epoch,Window := (⟨e2.Cell,e2.Epoch,e2.N,e2.From,e2.Until⟩ : Window) })).set e2.Tenant.toNat ({ x5 with Home := e2.Cell,Standby := (-1),Next := (-1),Epoch := e2.Epoch,Window := (⟨e2.Cell,e2.Epoch,e2.N,e2.From,e2.Until⟩ : Window) })).set e2.Tenant.toNat ({ x5 with Home := e2.Cell,Standby := (-1),Next := (-1),Target := (-1),Epoch := e2.Epoch,Window := (⟨e2.Cell,e2.Epoch,e2.N,e2.From,e2.Until⟩ : Window) })) }) g_s1) = (en_State ({ s1 with Tenants := (((((((s1.Tenants.set e2.Tenant.toNat ({ x5 with Window := (⟨e2.Cell,e2.Epoch,e2.N,e2.From,e2.Until⟩ : Window) })).set e2.Tenant.toNat ({ x5 with Epoch := e2.Epoch,Window := (⟨e2.Cell,e2.Epoch,e2.N,e2.From,e2.Until⟩ : Window) })).set e2.Tenant.toNat ({ x5 with Home := e2.Cell,Epoch := e2.Epoch,Window := (⟨e2.Cell,e2.Epoch,e2.N,e2.From,e2.Until⟩ : Window) })).set e2.Tenant.toNat ({ x5 with Home := e2.Cell,Standby := (-1),Epoch := e2.Epoch,Window := (⟨e2.Cell,e2.Epoch,e2.N,e2.From,e2.Until⟩ : Window) })).set e2.Tenant.toNat ({ x5 with Home := e2.Cell,Standby := (-1),Next := (-1),Epoch := e2.Epoch,Window := (⟨e2.Cell,e2.Epoch,e2.N,e2.From,e2.Until⟩ : Window) })).set e2.Tenant.toNat ({ x5 with Home := e2.Cell,Standby := (-1),Next := (-1),Target := (-1),Epoch := e2.Epoch,Window := (⟨e2.Cell,e2.Epoch,e2.N,e2.From,e2.Until⟩ : Window) })).set e2.Tenant.toNat ({ x5 with Shed := false,Home := e2.Cell,Standby := (-1),Next := (-1),Target := (-1),Epoch := e2.Epoch,Window := (⟨e2.Cell,e2.Epoch,e2.N,e2.From,e2.Until⟩ : Window) })) }) g_s1) by simp [en_State]]
   rw [← @List.length_set _ ((((((s1.Tenants.set e2.Tenant.toNat ({ x5 with Window := (⟨e2.Cell,e2.Epoch,e2.N,e2.From,e2.Until⟩ : Window) })).set e2.Tenant.toNat ({ x5 with Epoch := e2.Epoch,Window := (⟨e2.Cell,e2.Epoch,e2.N,e2.From,e2.Until⟩ : Window) })).set e2.Tenant.toNat ({ x5 with Home := e2.Cell,Epoch := e2.Epoch,Window := (⟨e2.Cell,e2.Epoch,e2.N,e2.From,e2.Until⟩ : Window) })).set e2.Tenant.toNat ({ x5 with Home := e2.Cell,Standby := (-1),Epoch := e2.Epoch,Window := (⟨e2.Cell,e2.Epoch,e2.N,e2.From,e2.Until⟩ : Window) })).set e2.Tenant.toNat ({ x5 with Home := e2.Cell,Standby := (-1),Next := (-1),Epoch := e2.Epoch,Window := (⟨e2.Cell,e2.Epoch,e2.N,e2.From,e2.Until⟩ : Window) })).set e2.Tenant.toNat ({ x5 with Home := e2.Cell,Standby := (-1),Next := (-1),Target := (-1),Epoch := e2.Epoch,Window := (⟨e2.Cell,e2.Epoch,e2.N,e2.From,e2.Until⟩ : Window) })) e2.Tenant.toNat ({ x5 with Shed := false,Home := e2.Cell,Standby := (-1),Next := (-1),Target := (-1),Epoch := e2.Epoch,Window := (⟨e2.Cell,e2.Epoch,e2.N,e2.From,e2.Until⟩ : Window) })]
   exact rd<|r_le ((le_mv 5).trans ((le_mv 4).trans ((le_mv 4).trans ((le_mv 3).trans ((le_mv 5).trans (le_w [true,true,true,true,true,false]))))))<|rd ⟨(((((((s1.Tenants.set e2.Tenant.toNat ({ x5 with Window := (⟨e2.Cell,e2.Epoch,e2.N,e2.From,e2.Until⟩ : Window) })).set e2.Tenant.toNat ({ x5 with Epoch := e2.Epoch,Window := (⟨e2.Cell,e2.Epoch,e2.N,e2.From,e2.Until⟩ : Window) })).set e2.Tenant.toNat ({ x5 with Home := e2.Cell,Epoch := e2.Epoch,Window := (⟨e2.Cell,e2.Epoch,e2.N,e2.From,e2.Until⟩ : Window) })).set e2.Tenant.toNat ({ x5 with Home := e2.Cell,Standby := (-1),Epoch := e2.Epoch,Window := (⟨e2.Cell,e2.Epoch,e2.N,e2.From,e2.Until⟩ : Window) })).set e2.Tenant.toNat ({ x5 with Home := e2.Cell,Standby := (-1),Next := (-1),Epoch := e2.Epoch,Window := (⟨e2.Cell,e2.Epoch,e2.N,e2.From,e2.Until⟩ : Window) })).set e2.Tenant.toNat ({ x5 with Home := e2.Cell,Standby := (-1),Next := (-1),Target := (-1),Epoch := e2.Epoch,Window := (⟨e2.Cell,e2.Epoch,e2.N,e2.From,e2.Until⟩ : Window) })).set e2.Tenant.toNat ({ x5 with Shed := false,Home := e2.Cell,Standby := (-1),Next := (-1),Target := (-1),Epoch := e2.Epoch,Window := (⟨e2.Cell,e2.Epoch,e2.N,e2.From,e2.Until⟩ : Window) })),_,h,fe _,by kernel_rfl⟩
  refine ld 1 tt_ok (v := ii e2.Cell) ts_3 rfl<|r_sec 4 (E := eTenantState) tt_ok ({ x5 with Home := e2.Cell,Epoch := e2.Epoch,Window := (⟨e2.Cell,e2.Epoch,e2.N,e2.From,e2.Until⟩ : Window) }) (get_set (get_set (idx_get hx6) _) _) (f1 ts_3) rfl rfl (pl1 _ _ _) (by kernel_rfl) (by kernel_rfl) (List.cons_ne_nil _ _) ?_
  rw [show (en_State ({ s1 with Tenants := ((s1.Tenants.set e2.Tenant.toNat ({ x5 with Window := (⟨e2.Cell,e2.Epoch,e2.N,e2.From,e2.Until⟩ : Window) })).set e2.Tenant.toNat ({ x5 with Epoch := e2.Epoch,Window := (⟨e2.Cell,e2.Epoch,e2.N,e2.From,e2.Until⟩ : Window) })) }) g_s1) = (en_State ({ s1 with Tenants := (((s1.Tenants.set e2.Tenant.toNat ({ x5 with Window := (⟨e2.Cell,e2.Epoch,e2.N,e2.From,e2.Until⟩ : Window) })).set e2.Tenant.toNat ({ x5 with Epoch := e2.Epoch,Window := (⟨e2.Cell,e2.Epoch,e2.N,e2.From,e2.Until⟩ : Window) })).set e2.Tenant.toNat ({ x5 with Home := e2.Cell,Epoch := e2.Epoch,Window := (⟨e2.Cell,e2.Epoch,e2.N,e2.From,e2.Until⟩ : Window) })) }) g_s1) by simp [en_State]]
  rw [← @List.length_set _ ((s1.Tenants.set e2.Tenant.toNat ({ x5 with Window := (⟨e2.Cell,e2.Epoch,e2.N,e2.From,e2.Until⟩ : Window) })).set e2.Tenant.toNat ({ x5 with Epoch := e2.Epoch,Window := (⟨e2.Cell,e2.Epoch,e2.N,e2.From,e2.Until⟩ : Window) })) e2.Tenant.toNat ({ x5 with Home := e2.Cell,Epoch := e2.Epoch,Window := (⟨e2.Cell,e2.Epoch,e2.N,e2.From,e2.Until⟩ : Window) })]
  refine kp [(3,pp bq1 0),(4,pp bq2 0),(6,pp bq4 0),(100,.pointer (some ((adr g_s1.Tenants.1).add (e2.Tenant.toNat * 12))))] fun fr => r_sec 4 (E := eTenantState) tt_ok ({ x5 with Home := e2.Cell,Target := (-1),Epoch := e2.Epoch,Window := (⟨e2.Cell,e2.Epoch,e2.N,e2.From,e2.Until⟩ : Window) }) (get_set (get_set (get_set (idx_get hx6) _) _) _) (f1 ts_3) rfl rfl (pl1 _ _ _) (by kernel_rfl) (by kernel_rfl) (List.cons_ne_nil _ _) ?_
  rw [show (en_State ({ s1 with Tenants := (((s1.Tenants.set e2.Tenant.toNat ({ x5 with Window := (⟨e2.Cell,e2.Epoch,e2.N,e2.From,e2.Until⟩ : Window) })).set e2.Tenant.toNat ({ x5 with Epoch := e2.Epoch,Window := (⟨e2.Cell,e2.Epoch,e2.N,e2.From,e2.Until⟩ : Window) })).set e2.Tenant.toNat ({ x5 with Home := e2.Cell,Epoch := e2.Epoch,Window := (⟨e2.Cell,e2.Epoch,e2.N,e2.From,e2.Until⟩ : Window) })) }) g_s1) = (en_State ({ s1 with Tenants := ((((s1.Tenants.set e2.Tenant.toNat ({ x5 with Window := (⟨e2.Cell,e2.Epoch,e2.N,e2.From,e2.Until⟩ : Window) })).set e2.Tenant.toNat ({ x5 with Epoch := e2.Epoch,Window := (⟨e2.Cell,e2.Epoch,e2.N,e2.From,e2.Until⟩ : Window) })).set e2.Tenant.toNat ({ x5 with Home := e2.Cell,Epoch := e2.Epoch,Window := (⟨e2.Cell,e2.Epoch,e2.N,e2.From,e2.Until⟩ : Window) })).set e2.Tenant.toNat ({ x5 with Home := e2.Cell,Target := (-1),Epoch := e2.Epoch,Window := (⟨e2.Cell,e2.Epoch,e2.N,e2.From,e2.Until⟩ : Window) })) }) g_s1) by simp [en_State]]
  rw [← @List.length_set _ (((s1.Tenants.set e2.Tenant.toNat ({ x5 with Window := (⟨e2.Cell,e2.Epoch,e2.N,e2.From,e2.Until⟩ : Window) })).set e2.Tenant.toNat ({ x5 with Epoch := e2.Epoch,Window := (⟨e2.Cell,e2.Epoch,e2.N,e2.From,e2.Until⟩ : Window) })).set e2.Tenant.toNat ({ x5 with Home := e2.Cell,Epoch := e2.Epoch,Window := (⟨e2.Cell,e2.Epoch,e2.N,e2.From,e2.Until⟩ : Window) })) e2.Tenant.toNat ({ x5 with Home := e2.Cell,Target := (-1),Epoch := e2.Epoch,Window := (⟨e2.Cell,e2.Epoch,e2.N,e2.From,e2.Until⟩ : Window) })]
  exact rd<|r_le ((le_mv 5).trans ((le_mv 4).trans ((le_mv 4).trans ((le_mv 3).trans ((le_mv 5).trans (le_w [true,true,true,true,true,false]))))))<|rd ⟨((((s1.Tenants.set e2.Tenant.toNat ({ x5 with Window := (⟨e2.Cell,e2.Epoch,e2.N,e2.From,e2.Until⟩ : Window) })).set e2.Tenant.toNat ({ x5 with Epoch := e2.Epoch,Window := (⟨e2.Cell,e2.Epoch,e2.N,e2.From,e2.Until⟩ : Window) })).set e2.Tenant.toNat ({ x5 with Home := e2.Cell,Epoch := e2.Epoch,Window := (⟨e2.Cell,e2.Epoch,e2.N,e2.From,e2.Until⟩ : Window) })).set e2.Tenant.toNat ({ x5 with Home := e2.Cell,Target := (-1),Epoch := e2.Epoch,Window := (⟨e2.Cell,e2.Epoch,e2.N,e2.From,e2.Until⟩ : Window) })),_,h,fe _,by kernel_rfl⟩
 clear h
 rintro fr S ⟨xs36,fr,h,rfl,rfl⟩
 replace h := hK39 _ h
 refine rd<|rb<|ln 3 tt_ok (en_Config c0 g_c0) ta_30 rfl<|ln 2 tt_ok (en_State ({ s1 with Tenants := xs36 }) g_s1) ta_38 rfl<|r_le ((le_mv 4).trans (le_mv 1)) ?_
 replace h := h_b h; obtain ⟨⟨x41,x42⟩,hx40,h⟩ := h
 refine rc (hc_90 (g_c0 := g_c0) (c0 := c0) (g_s1 := g_s1) (s1 := { s1 with Tenants := xs36 }) (hS_c0 := by exact (le_d 3).trans hS_c0) (h_c0 :=h_c0) (h := hx40)) ?_
 rintro _ _ ⟨A43,c44,A46,c47,rfl,rfl⟩
 refine st 2 tt_ok (en_State x41 (⟨(A43,c44),(A46,c47)⟩)) (fn ta_38) rfl<|rd ?_
 repeat refine rd ?_
 repeat refine rd ?_
 obtain rfl := h_out h
 exact ret_of (rv_cell 2 tt_ok (by kernel_rfl) ta_38 rfl rfl (RV.tmp RV.nil)) (le_w [true,true,false,false,false]) ⟨A43,c44,A46,c47,rfl,rfl⟩
theorem hc_92   (w0 : Window) (tick1 : Int)   : HC Tryz.prog 92 #[.agg (en_Window w0).toArray,ii tick1] ⟨ρ,L⟩ (fun v S' => v = .agg (en_Window (cellplaneref12_Cut w0 tick1)).toArray ∧ S' = ⟨ρ,L⟩) := by
 generalize h : cellplaneref12_Cut w0 tick1 = r
 unfold cellplaneref12_Cut at h
 refine HC.intro (N := 18) (args := [_,_]) tt_ok Tryz.func92 rfl (by decide +kernel) rfl (Nat.le_of_ble_eq_true rfl)<|rb<|r_bx (en_Window w0) (by kernel_rfl) fun bq1 => r_al tt_ok (en_Window (⟨0,0,0,0,0⟩ : Window)) ti_56 (by kernel_rfl) fun bq2 => rd<|rb<|ld 1 tt_ok (v := ii w0.Until) ts_3 rfl<|r_num (e' := w64 (tick1 + 1)) rfl<|st 1 tt_ok (en_Window ({ w0 with Until := mn w0.Until (w64 (tick1 + 1)) })) (f1 ts_3) rfl<|kr [(2,pp bq1 0),(4,pp bq2 0)] fun fr => rd<|rb<|ld 1 tt_ok (v := ii w0.From) ts_3 rfl ?_
 refine ld 1 tt_ok (v := ii (mn w0.Until (w64 (tick1 + 1)))) ts_3 rfl<|st 1 tt_ok (en_Window ({ w0 with From := mn w0.From (mn w0.Until (w64 (tick1 + 1))),Until := mn w0.Until (w64 (tick1 + 1)) })) (f1 ts_3) rfl<|rd<|rb<|ln 1 tt_ok (en_Window ({ w0 with From := mn w0.From (mn w0.Until (w64 (tick1 + 1))),Until := mn w0.Until (w64 (tick1 + 1)) })) ta_56 rfl<|st 0 tt_ok (en_Window ({ w0 with From := mn w0.From (mn w0.Until (w64 (tick1 + 1))),Until := mn w0.Until (w64 (tick1 + 1)) })) (fn ta_56) rfl<|kr [(4,pp bq2 0)] fun fr => rd ?_
 repeat refine rd ?_
 repeat refine rd ?_
 subst h
 exact ret_of (rv_cell 0 tt_ok (by kernel_rfl) ta_56 rfl rfl RV.nil) (le_w [false,false]) ⟨rfl,rfl⟩
theorem hc_51 {g_s0 : gState}  (s0 : State) (e1 : Entry)  {r : (State × Int)} (h : cellplaneref12_cut s0 e1 = some r) : HC Tryz.prog 51 #[.agg (en_State s0 g_s0).toArray,.agg (en_Entry e1).toArray] ⟨ρ,.row g_s0.Tenants.1 s0.Tenants.length g_s0.Tenants.2 58 12 (fl eTenantState.en s0.Tenants) :: .row g_s0.Cells.1 s0.Cells.length g_s0.Cells.2 54 4 (fl eCellState.en s0.Cells) :: L⟩ (fun v S' => ∃ (Aq1_0 : Option Addr),∃ (cq1_0 : Nat),∃ (Aq1_1 : Option Addr),∃ (cq1_1 : Nat),v = .tuple #[.agg (en_State r.1 (⟨(Aq1_0,cq1_0),(Aq1_1,cq1_1)⟩)).toArray,ii r.2] ∧ S' = ⟨ρ,.row Aq1_0 r.1.Tenants.length cq1_0 58 12 (fl eTenantState.en r.1.Tenants) :: .row Aq1_1 r.1.Cells.length cq1_1 54 4 (fl eCellState.en r.1.Cells) :: L⟩) := by
 replace h := h_in h
 refine HC.intro (N := 43) (args := [_,_]) tt_ok Tryz.func51 rfl (by decide +kernel) rfl (Nat.le_of_ble_eq_true rfl)<|rb<|r_bx (en_State s0 g_s0) (by kernel_rfl) fun bq1 => r_bx (en_Entry e1) (by kernel_rfl) fun bq2 => r_al tt_ok (en_State (⟨0,0,[],[],0,0,0,0⟩ : State) (⟨(none,0),(none,0)⟩)) ti_38 (by kernel_rfl) fun bq3 => rd<|rb<|ld 2 tt_ok (v := .slice g_s0.Tenants.1 s0.Tenants.length g_s0.Tenants.2) ts_35 rfl<|ld 1 tt_ok (v := ii e1.Tenant) ts_3 rfl ?_
 replace h := h_b h; obtain ⟨x4,hx5,h⟩ := h
 refine r_el hx5 (rd_row 3 rfl)<|kp [(2,pp bq1 0),(3,pp bq2 0),(4,pp bq3 0),(11,.pointer (some ((adr g_s0.Tenants.1).add (e1.Tenant.toNat * 12))))] fun fr => rd<|rb<|rb<|rb<|r_lec (E := eTenantState) tt_ok (v := .bool x4.Placed) (idx_get hx5) (rd_row 3 rfl) ts_4 rfl (pl1 _ _ _) (by kernel_rfl)<|rd ?_
 apply r_iteh h<;>clear h<;>intro h
 ·refine rb<|rc (hc_48 (e0 := 4)) ?_
  rintro _ _ ⟨A7,c8,A10,c11,rfl,rfl⟩
  refine st 2 tt_ok (en_State ((cellplaneref12_no 4).1) (⟨(A7,c8),(A10,c11)⟩)) (fn ta_38) rfl<|kp [(4,pp bq3 0),(20,ii ((cellplaneref12_no 4).2))] fun fr => rd ?_
  repeat refine rd ?_
  repeat refine rd ?_
  obtain rfl := h_out h
  exact ret_of (rv_cell 2 tt_ok (by kernel_rfl) ta_38 rfl rfl (RV.tmp RV.nil)) (le_w [true,true,false,false,false,false,false]) ⟨A7,c8,A10,c11,rfl,rfl⟩
 refine rb<|r_mix tt_ok hm_ok _ _ [] (.pure 0 (.vb 1 (.pure 2 (.pure 3 (.pure 4 (.vb 5 (.pure 6 (.pure 7 .nil)))))))) (le_w [true,true,true,true,true]) (le_w [true,true,true,true,true]) ?_ ?_
 ·decide +kernel
 refine x_p rfl<|vd<|x_vb rfl<|vl 1 tt_ok (v := ii e1.Epoch) ts_3 rfl<|vd<|xp [(2,pp bq1 0),(3,pp bq2 0),(4,pp bq3 0),(6,.pointer (some ((adr g_s0.Tenants.1).add (e1.Tenant.toNat * 12)))),(23,ii e1.Epoch)] fun fr => x_p rfl<|vd<|x_p rfl<|vd<|x_p rfl<|vd<|x_vb rfl ?_
 refine v_lec (E := eTenantState) tt_ok (v := ii x4.Epoch) (idx_get hx5) (rd_row 3 rfl) ts_3 rfl (pl1 _ _ _) (by kernel_rfl)<|vd<|x_p rfl<|vd<|x_p rfl<|vd<|xk [(2,pp bq1 0),(3,pp bq2 0),(4,pp bq3 0),(6,.pointer (some ((adr g_s0.Tenants.1).add (e1.Tenant.toNat * 12)))),(21,.bool (!decide (e1.Epoch = x4.Epoch)))] fun fr => rd ?_
 apply r_iteh h<;>clear h<;>intro h
 ·refine rb<|rc (hc_48 (e0 := 7)) ?_
  rintro _ _ ⟨A14,c15,A17,c18,rfl,rfl⟩
  refine st 2 tt_ok (en_State ((cellplaneref12_no 7).1) (⟨(A14,c15),(A17,c18)⟩)) (fn ta_38) rfl<|rd ?_
  repeat refine rd ?_
  repeat refine rd ?_
  obtain rfl := h_out h
  exact ret_of (rv_cell 2 tt_ok (by kernel_rfl) ta_38 rfl rfl (RV.tmp RV.nil)) (le_w [true,true,false,false,false,false,false]) ⟨A14,c15,A17,c18,rfl,rfl⟩
 refine rd<|rd<|rb<|r_mix tt_ok hm_ok _ _ [10] (.pure 0 (.pure 1 (.pure 2 (.pure 3 (.va 4 (.pure 5 (.vb 6 (.eff 7 (.pure 8 (.pure 9 (.eff 10 .nil))))))))))) (le_w [true,true,true,true,true]) (le_w [true,true,true,false,true]) ?_ ?_
 ·decide +kernel
 refine x_p rfl<|vd<|x_p rfl<|vd<|x_p rfl<|vd<|x_p rfl<|vd<|x_va rfl<|v_len (E := eTenantState) tt_ok (en_Window x4.Window) (idx_get hx5) (rd_row 3 rfl) ta_56 rfl (pl1 _ _ _) (by kernel_rfl) (by kernel_rfl)<|vd<|x_p rfl<|vd ?_
 refine x_vb rfl<|vl 1 tt_ok (v := ii e1.Tick) ts_3 rfl<|vd<|x_e rfl<|rc (hc_92 (w0 := x4.Window) (tick1 := e1.Tick)) ?_
 rintro _ _ ⟨rfl,rfl⟩
 refine rd ⟨rfl,k_a (le_w [true,true,true,true,true]) (le_w [true,true,true,false,true]),?_⟩
 refine x_p rfl<|vd<|xp [(2,pp bq1 0),(4,pp bq3 0),(39,.agg (en_Window (cellplaneref12_Cut x4.Window e1.Tick)).toArray),(40,.pointer (some ((adr g_s0.Tenants.1).add (e1.Tenant.toNat * 12))))] fun fr => x_p rfl<|vd<|x_e rfl<|r_sec 3 (E := eTenantState) tt_ok ({ x4 with Window := (cellplaneref12_Cut x4.Window e1.Tick) }) (idx_get hx5) (fn ta_56) rfl rfl (pl1 _ _ _) (by kernel_rfl) (by kernel_rfl) (List.cons_ne_nil _ _) ?_
 rw [show (en_State s0 g_s0) = (en_State ({ s0 with Tenants := (s0.Tenants.set e1.Tenant.toNat ({ x4 with Window := (cellplaneref12_Cut x4.Window e1.Tick) })) }) g_s0) by simp [en_State]]
 rw [← @List.length_set _ s0.Tenants e1.Tenant.toNat ({ x4 with Window := (cellplaneref12_Cut x4.Window e1.Tick) })]
 refine rd ⟨rfl,k_b rfl (le_w [true,true,true,false,true]),?_⟩
 refine xk [(2,pp bq1 0),(4,pp bq3 0)] fun fr => rd<|rb<|ln 2 tt_ok (en_State ({ s0 with Tenants := (s0.Tenants.set e1.Tenant.toNat ({ x4 with Window := (cellplaneref12_Cut x4.Window e1.Tick) })) }) g_s0) ta_38 rfl<|st 0 tt_ok (en_State ({ s0 with Tenants := (s0.Tenants.set e1.Tenant.toNat ({ x4 with Window := (cellplaneref12_Cut x4.Window e1.Tick) })) }) g_s0) (fn ta_38) rfl<|rd ?_
 repeat refine rd ?_
 repeat refine rd ?_
 obtain rfl := h_out h
 exact ret_of (rv_cell 0 tt_ok (by kernel_rfl) ta_38 rfl rfl (RV.tmp RV.nil)) (le_w [false,false,false,true,true]) ⟨g_s0.Tenants.1,g_s0.Tenants.2,g_s0.Cells.1,g_s0.Cells.2,rfl,rfl⟩
theorem hc_52 {g_c0 : gConfig} {g_s1 : gState} {S_c0 : St} (hS_c0 : Le ⟨ρ,L⟩ S_c0) (c0 : Config) (s1 : State) (e2 : Entry) (h_c0 : Sl_Config S_c0 c0 g_c0) {r : (State × Int)} (h : cellplaneref12_standby c0 s1 e2 = some r) : HC Tryz.prog 52 #[.agg (en_Config c0 g_c0).toArray,.agg (en_State s1 g_s1).toArray,.agg (en_Entry e2).toArray] ⟨ρ,.row g_s1.Tenants.1 s1.Tenants.length g_s1.Tenants.2 58 12 (fl eTenantState.en s1.Tenants) :: .row g_s1.Cells.1 s1.Cells.length g_s1.Cells.2 54 4 (fl eCellState.en s1.Cells) :: L⟩ (fun v S' => ∃ (Aq1_0 : Option Addr),∃ (cq1_0 : Nat),∃ (Aq1_1 : Option Addr),∃ (cq1_1 : Nat),v = .tuple #[.agg (en_State r.1 (⟨(Aq1_0,cq1_0),(Aq1_1,cq1_1)⟩)).toArray,ii r.2] ∧ S' = ⟨ρ,.row Aq1_0 r.1.Tenants.length cq1_0 58 12 (fl eTenantState.en r.1.Tenants) :: .row Aq1_1 r.1.Cells.length cq1_1 54 4 (fl eCellState.en r.1.Cells) :: L⟩) := by
 replace h := h_in h
 refine HC.intro (N := 118) (args := [_,_,_]) tt_ok Tryz.func52 rfl (by decide +kernel) rfl (Nat.le_of_ble_eq_true rfl)<|rb<|r_bx (en_Config c0 g_c0) (by kernel_rfl) fun bq1 => r_bx (en_State s1 g_s1) (by kernel_rfl) fun bq2 => r_bx (en_Entry e2) (by kernel_rfl) fun bq3 => r_al tt_ok (en_State (⟨0,0,[],[],0,0,0,0⟩ : State) (⟨(none,0),(none,0)⟩)) ti_38 (by kernel_rfl) fun bq4 => rd<|rb<|ld 2 tt_ok (v := .slice g_s1.Tenants.1 s1.Tenants.length g_s1.Tenants.2) ts_35 rfl<|ld 1 tt_ok (v := ii e2.Tenant) ts_3 rfl<|kp [(3,pp bq1 0),(4,pp bq2 0),(5,pp bq3 0),(6,pp bq4 0),(10,.slice g_s1.Tenants.1 s1.Tenants.length g_s1.Tenants.2),(12,ii e2.Tenant)] fun fr => ?_
 replace h := h_b h; obtain ⟨x5,hx6,h⟩ := h
 refine r_el hx6 (rd_row 4 rfl)<|rd<|rb ?_
 replace h := h_k h; obtain ⟨K60,h,hK61⟩ := h
 refine r_meet (fun fr S => ∃ fr0,(cellplaneref12_standby.j1 c0 s1 e2 x5).bind K60 = some r ∧ fr = updL [(3,pp bq1 0),(4,pp bq2 0),(5,pp bq3 0),(6,pp bq4 0),(8,.pointer (some ((adr g_s1.Tenants.1).add (e2.Tenant.toNat * 12))))] fr0 ∧ S = ⟨ρ,.obj bq4 (en_State (⟨0,0,[],[],0,0,0,0⟩ : State) (⟨(none,0),(none,0)⟩)) 38 :: .obj bq3 (en_Entry e2) 45 :: .obj bq2 (en_State s1 g_s1) 38 :: .obj bq1 (en_Config c0 g_c0) 30 :: .row g_s1.Tenants.1 s1.Tenants.length g_s1.Tenants.2 58 12 (fl eTenantState.en s1.Tenants) :: .row g_s1.Cells.1 s1.Cells.length g_s1.Cells.2 54 4 (fl eCellState.en s1.Cells) :: L⟩) ?_ ?_
 ·refine rb<|rb<|r_lec (E := eTenantState) tt_ok (v := .bool x5.Placed) (idx_get hx6) (rd_row 4 rfl) ts_4 rfl (pl1 _ _ _) (by kernel_rfl)<|kp [(3,pp bq1 0),(4,pp bq2 0),(5,pp bq3 0),(6,pp bq4 0),(8,.pointer (some ((adr g_s1.Tenants.1).add (e2.Tenant.toNat * 12)))),(18,.bool x5.Placed)] fun fr => rd ?_
  apply r_iteh h<;>clear h<;>intro h
  ·refine rb<|rc (hc_48 (e0 := 4)) ?_
   rintro _ _ ⟨A8,c9,A11,c12,rfl,rfl⟩
   refine st 2 tt_ok (en_State ((cellplaneref12_no 4).1) (⟨(A8,c9),(A11,c12)⟩)) (fn ta_38) rfl<|rd ?_
   repeat refine rd ?_
   subst hK61
   repeat refine rd ?_
   obtain rfl := h_out h
   exact ret_of (rv_cell 2 tt_ok (by kernel_rfl) ta_38 rfl rfl (RV.tmp RV.nil)) (le_w [true,true,false,false,false,false,false,false]) ⟨A8,c9,A11,c12,rfl,rfl⟩
  refine rb<|ld 1 tt_ok (v := ii e2.Cell) ts_3 rfl<|rd ?_
  apply r_iteh h<;>clear h<;>intro h
  ·exact rd<|rd ⟨_,h,fe _,by kernel_rfl⟩
  refine rb<|r_meet (fun fr S => ∃ fr0,fr = updL [(3,pp bq1 0),(4,pp bq2 0),(5,pp bq3 0),(6,pp bq4 0),(8,.pointer (some ((adr g_s1.Tenants.1).add (e2.Tenant.toNat * 12)))),(27,.bool ((decide (e2.Cell = x5.Home)) || ((decide (e2.Cell = x5.Standby)) || (decide (e2.Cell = x5.Target)))))] fr0 ∧ S = ⟨ρ,.obj bq4 (en_State (⟨0,0,[],[],0,0,0,0⟩ : State) (⟨(none,0),(none,0)⟩)) 38 :: .obj bq3 (en_Entry e2) 45 :: .obj bq2 (en_State s1 g_s1) 38 :: .obj bq1 (en_Config c0 g_c0) 30 :: .row g_s1.Tenants.1 s1.Tenants.length g_s1.Tenants.2 58 12 (fl eTenantState.en s1.Tenants) :: .row g_s1.Cells.1 s1.Cells.length g_s1.Cells.2 54 4 (fl eCellState.en s1.Cells) :: L⟩) ?_ ?_
  refine r_mix tt_ok hm_ok _ _ [] (.pure 0 (.vb 1 (.pure 2 (.pure 3 (.pure 4 (.vb 5 (.pure 6 (.pure 7 (.pure 8 (.vb 9 (.pure 10 (.pure 11 (.pure 12 (.vb 13 (.pure 14 (.pure 15 (.pure 16 (.pure 17 (.vb 18 (.pure 19 (.pure 20 (.pure 21 (.vb 22 (.pure 23 (.pure 24 (.pure 25 .nil)))))))))))))))))))))))))) (le_w [true,true,true,true,true,true]) (le_w [true,true,true,true,true,true]) ?_ ?_
  ·decide +kernel
  refine x_p rfl<|vd<|x_vb rfl<|vl 1 tt_ok (v := ii e2.Cell) ts_3 rfl<|vd<|x_p rfl<|vd<|xp [(3,pp bq1 0),(4,pp bq2 0),(5,pp bq3 0),(6,pp bq4 0),(8,.pointer (some ((adr g_s1.Tenants.1).add (e2.Tenant.toNat * 12)))),(29,ii e2.Cell),(30,.pointer (some ((adr g_s1.Tenants.1).add (e2.Tenant.toNat * 12))))] fun fr => x_p rfl<|vd<|x_p rfl<|vd<|x_vb rfl ?_
  refine v_lec (E := eTenantState) tt_ok (v := ii x5.Home) (idx_get hx6) (rd_row 4 rfl) ts_3 rfl (pl1 _ _ _) (by kernel_rfl)<|vd<|x_p rfl<|vd<|x_p rfl<|vd<|x_p rfl<|v_ite (fun (hb15 : (decide (e2.Cell = x5.Home)) = true) => ?_) (fun (hb15 : (decide (e2.Cell = x5.Home)) = false) => ?_)
  ·refine vd<|x_vb rfl<|v_T rfl<|vd<|x_p rfl<|v_T rfl<|vd<|x_p rfl<|v_T rfl<|vd<|xp [(3,pp bq1 0),(4,pp bq2 0),(5,pp bq3 0),(6,pp bq4 0),(8,.pointer (some ((adr g_s1.Tenants.1).add (e2.Tenant.toNat * 12)))),(35,.bool true),(37,undef),(39,undef)] fun fr => x_p rfl<|v_T rfl ?_
   refine vd<|x_vb rfl<|v_T rfl<|vd<|x_p rfl<|v_T rfl<|vd<|x_p rfl<|v_T rfl<|vd<|x_p rfl<|vd<|x_p rfl ?_
   refine v_T rfl<|vd<|x_vb rfl<|v_T rfl<|vd<|x_p rfl<|v_T rfl<|vd<|x_p rfl<|v_T rfl<|vd<|xp [(3,pp bq1 0),(4,pp bq2 0),(5,pp bq3 0),(6,pp bq4 0),(8,.pointer (some ((adr g_s1.Tenants.1).add (e2.Tenant.toNat * 12)))),(44,.bool true),(46,undef),(48,undef)] fun fr => x_p rfl ?_
   refine v_T rfl<|vd<|x_vb rfl<|v_T rfl<|vd<|x_p rfl<|v_T rfl<|vd<|x_p rfl<|v_T rfl<|vd<|x_p rfl<|vd ?_
   exact xk [(3,pp bq1 0),(4,pp bq2 0),(5,pp bq3 0),(6,pp bq4 0),(8,.pointer (some ((adr g_s1.Tenants.1).add (e2.Tenant.toNat * 12)))),(27,.bool true)] fun fr => rd ⟨_,fr_eq _ (by (try rw [hb15]); kernel_rfl),by kernel_rfl⟩
  refine vd<|x_vb rfl<|v_F rfl<|vl 1 tt_ok (v := ii e2.Cell) ts_3 rfl<|vd<|x_p rfl<|v_F rfl<|vd<|x_p rfl<|v_F rfl<|vd<|xp [(3,pp bq1 0),(4,pp bq2 0),(5,pp bq3 0),(6,pp bq4 0),(8,.pointer (some ((adr g_s1.Tenants.1).add (e2.Tenant.toNat * 12)))),(35,.bool false),(37,ii e2.Cell),(39,.pointer (some ((adr g_s1.Tenants.1).add (e2.Tenant.toNat * 12))))] fun fr => x_p rfl ?_
  refine v_F rfl<|vd<|x_vb rfl<|v_F rfl<|v_lec (E := eTenantState) tt_ok (v := ii x5.Standby) (idx_get hx6) (rd_row 4 rfl) ts_3 rfl (pl1 _ _ _) (by kernel_rfl)<|vd<|x_p rfl<|v_F rfl<|vd<|x_p rfl<|vd<|x_p rfl<|vd ?_
  refine x_p rfl<|v_ite (fun (hb16 : (decide (e2.Cell = x5.Standby)) = true) => ?_) (fun (hb16 : (decide (e2.Cell = x5.Standby)) = false) => ?_)
  ·refine vd<|x_vb rfl<|v_T rfl<|vd<|x_p rfl<|v_T rfl<|vd<|x_p rfl<|v_T rfl<|vd<|xp [(3,pp bq1 0),(4,pp bq2 0),(5,pp bq3 0),(6,pp bq4 0),(8,.pointer (some ((adr g_s1.Tenants.1).add (e2.Tenant.toNat * 12)))),(44,.bool true),(46,undef),(48,undef)] fun fr => x_p rfl<|v_T rfl ?_
   refine vd<|x_vb rfl<|v_T rfl<|vd<|x_p rfl<|v_T rfl<|vd<|x_p rfl<|v_T rfl<|vd<|x_p rfl<|vd<|xk [(3,pp bq1 0),(4,pp bq2 0),(5,pp bq3 0),(6,pp bq4 0),(8,.pointer (some ((adr g_s1.Tenants.1).add (e2.Tenant.toNat * 12)))),(27,.bool true)] fun fr => ?_
   exact rd ⟨_,fr_eq _ (by (try rw [hb16]); (try rw [hb15]); kernel_rfl),by kernel_rfl⟩
  refine vd<|x_vb rfl<|v_F rfl<|vl 1 tt_ok (v := ii e2.Cell) ts_3 rfl<|vd<|x_p rfl<|v_F rfl<|vd<|x_p rfl<|v_F rfl<|vd<|xp [(3,pp bq1 0),(4,pp bq2 0),(5,pp bq3 0),(6,pp bq4 0),(8,.pointer (some ((adr g_s1.Tenants.1).add (e2.Tenant.toNat * 12)))),(44,.bool false),(46,ii e2.Cell),(48,.pointer (some ((adr g_s1.Tenants.1).add (e2.Tenant.toNat * 12))))] fun fr => x_p rfl ?_
  refine v_F rfl<|vd<|x_vb rfl<|v_F rfl<|v_lec (E := eTenantState) tt_ok (v := ii x5.Target) (idx_get hx6) (rd_row 4 rfl) ts_3 rfl (pl1 _ _ _) (by kernel_rfl)<|vd<|x_p rfl<|v_F rfl<|vd<|x_p rfl<|vd<|x_p rfl<|vd ?_
  exact xk [(3,pp bq1 0),(4,pp bq2 0),(5,pp bq3 0),(6,pp bq4 0),(8,.pointer (some ((adr g_s1.Tenants.1).add (e2.Tenant.toNat * 12)))),(27,.bool (decide (e2.Cell = x5.Target)))] fun fr => rd ⟨_,fr_eq _ (by (try rw [hb16]); (try rw [hb15]); kernel_rfl),by kernel_rfl⟩
  rintro fr S ⟨fr,rfl,rfl⟩
  refine rd ?_
  apply r_iteh h<;>clear h<;>intro h
  ·refine rb<|rc (hc_48 (e0 := 5)) ?_
   rintro _ _ ⟨A18,c19,A21,c22,rfl,rfl⟩
   refine st 2 tt_ok (en_State ((cellplaneref12_no 5).1) (⟨(A18,c19),(A21,c22)⟩)) (fn ta_38) rfl<|rd ?_
   repeat refine rd ?_
   subst hK61
   repeat refine rd ?_
   obtain rfl := h_out h
   exact ret_of (rv_cell 2 tt_ok (by kernel_rfl) ta_38 rfl rfl (RV.tmp RV.nil)) (le_w [true,true,false,false,false,false,false,false]) ⟨A18,c19,A21,c22,rfl,rfl⟩
  refine rb<|ld 2 tt_ok (v := .slice g_s1.Cells.1 s1.Cells.length g_s1.Cells.2) ts_36 rfl<|ld 1 tt_ok (v := ii e2.Cell) ts_3 rfl ?_
  replace h := h_b h; obtain ⟨x24,hx25,h⟩ := h
  refine r_el hx25 (rd_row 5 rfl)<|r_lec (E := eCellState) tt_ok (v := ii x24.Mode) (idx_get hx25) (rd_row 5 rfl) ts_3 rfl (pl1 _ _ _) (by kernel_rfl)<|kr [(3,pp bq1 0),(4,pp bq2 0),(5,pp bq3 0),(6,pp bq4 0),(8,.pointer (some ((adr g_s1.Tenants.1).add (e2.Tenant.toNat * 12)))),(56,.bool (!decide (x24.Mode = 1)))] fun fr => rd ?_
  apply r_iteh h<;>clear h<;>intro h
  ·refine rb<|rc (hc_48 (e0 := 6)) ?_
   rintro _ _ ⟨A27,c28,A30,c31,rfl,rfl⟩
   refine st 2 tt_ok (en_State ((cellplaneref12_no 6).1) (⟨(A27,c28),(A30,c31)⟩)) (fn ta_38) rfl<|rd ?_
   repeat refine rd ?_
   subst hK61
   repeat refine rd ?_
   obtain rfl := h_out h
   exact ret_of (rv_cell 2 tt_ok (by kernel_rfl) ta_38 rfl rfl (RV.tmp RV.nil)) (le_w [true,true,false,false,false,false,false,false]) ⟨A27,c28,A30,c31,rfl,rfl⟩
  refine rb<|ln 3 tt_ok (en_Config c0 g_c0) ta_30 rfl<|ln 2 tt_ok (en_State s1 g_s1) ta_38 rfl<|ld 1 tt_ok (v := ii e2.Cell) ts_3 rfl ?_
  replace h := h_b h; obtain ⟨x34,hx33,h⟩ := h
  refine rc (hc_88 (g_c0 := g_c0) (c0 := c0) (g_s1 := g_s1) (s1 := s1) (cell2 := e2.Cell) (hS_c0 := by exact (le_d 6).trans hS_c0) (h_c0 :=h_c0) (hS_s1 := by exact Le.refl _) (h_s1 := by exact ⟨sl_row 4 rfl,sl_row 5 rfl⟩) (h := hx33)) ?_
  rintro _ _ ⟨rfl,rfl⟩
  refine rd ?_
  apply r_iteh h<;>clear h<;>intro h
  ·refine rb<|rc (hc_48 (e0 := 12)) ?_
   rintro _ _ ⟨A36,c37,A39,c40,rfl,rfl⟩
   refine st 2 tt_ok (en_State ((cellplaneref12_no 12).1) (⟨(A36,c37),(A39,c40)⟩)) (fn ta_38) rfl<|kp [(6,pp bq4 0),(76,ii ((cellplaneref12_no 12).2))] fun fr => rd ?_
   repeat refine rd ?_
   subst hK61
   repeat refine rd ?_
   obtain rfl := h_out h
   exact ret_of (rv_cell 2 tt_ok (by kernel_rfl) ta_38 rfl rfl (RV.tmp RV.nil)) (le_w [true,true,false,false,false,false,false,false]) ⟨A36,c37,A39,c40,rfl,rfl⟩
  refine rb ?_
  replace h := h_j h; obtain ⟨K51,h,hK52⟩ := h
  refine r_meet (fun fr S => ∃ (x50 : Bool),∃ fr0,K51 x50 = some r ∧ fr = updL [(3,pp bq1 0),(4,pp bq2 0),(5,pp bq3 0),(6,pp bq4 0),(8,.pointer (some ((adr g_s1.Tenants.1).add (e2.Tenant.toNat * 12)))),(77,.bool x50)] fr0 ∧ S = ⟨ρ,.obj bq4 (en_State (⟨0,0,[],[],0,0,0,0⟩ : State) (⟨(none,0),(none,0)⟩)) 38 :: .obj bq3 (en_Entry e2) 45 :: .obj bq2 (en_State s1 g_s1) 38 :: .obj bq1 (en_Config c0 g_c0) 30 :: .row g_s1.Tenants.1 s1.Tenants.length g_s1.Tenants.2 58 12 (fl eTenantState.en s1.Tenants) :: .row g_s1.Cells.1 s1.Cells.length g_s1.Cells.2 54 4 (fl eCellState.en s1.Cells) :: L⟩) ?_ ?_
  refine r_mix tt_ok hm_ok _ _ [] (.vb 0 (.pure 1 (.vb 2 (.pure 3 (.vb 4 (.eff 5 (.pure 6 (.pure 7 (.vb 8 (.pure 9 (.vb 10 (.pure 11 (.pure 12 (.pure 13 (.vb 14 (.eff 15 (.pure 16 (.pure 17 (.vb 18 (.pure 19 (.vb 20 (.pure 21 (.pure 22 (.pure 23 (.vb 24 (.eff 25 (.pure 26 (.pure 27 .nil)))))))))))))))))))))))))))) (le_w [true,true,true,true,true,true]) (le_w [true,true,true,true,true,true]) ?_ ?_
  ·decide +kernel
  refine x_vb rfl<|vn 3 tt_ok (en_Config c0 g_c0) ta_30 rfl<|vd<|x_p rfl<|vd<|x_vb rfl<|vl 1 tt_ok (v := ii e2.Tenant) ts_3 rfl<|vd<|xp [(3,pp bq1 0),(4,pp bq2 0),(5,pp bq3 0),(6,pp bq4 0),(8,.pointer (some ((adr g_s1.Tenants.1).add (e2.Tenant.toNat * 12)))),(78,.agg (en_Config c0 g_c0).toArray),(80,ii e2.Tenant)] fun fr => x_p rfl<|vd<|x_vb rfl<|vl 1 tt_ok (v := ii e2.Cell) ts_3 rfl ?_
  refine vd<|x_e rfl ?_
  replace h := h_b h; obtain ⟨x43,hx42,h⟩ := h
  refine rc (hc_86 (g_c0 := g_c0) (c0 := c0) (tenant1 := e2.Tenant) (cell2 := e2.Cell) (hS_c0 := by exact (le_d 6).trans hS_c0) (h_c0 :=h_c0) (h := hx42)) ?_
  rintro _ _ ⟨rfl,rfl⟩
  refine rd ⟨rfl,k_a (le_w [true,true,true,true,true,true]) (le_w [true,true,true,true,true,true]),?_⟩
  refine x_p rfl<|vd<|x_p rfl<|vd<|x_vb rfl ?_
  apply v_iteh h<;>clear h<;>intro h
  ·refine vd<|x_p rfl<|v_T rfl<|vd<|x_vb rfl<|v_T rfl<|vd<|x_p rfl<|v_T rfl<|vd<|xp [(3,pp bq1 0),(4,pp bq2 0),(5,pp bq3 0),(6,pp bq4 0),(8,.pointer (some ((adr g_s1.Tenants.1).add (e2.Tenant.toNat * 12)))),(85,.bool true),(86,undef),(88,undef),(89,undef)] fun fr => x_p rfl<|v_T rfl ?_
   refine vd<|x_p rfl<|v_T rfl<|vd<|x_vb rfl<|v_T rfl<|vd<|x_e rfl<|r_T rfl<|rd ⟨rfl,k_a (le_w [true,true,true,true,true,true]) (le_w [true,true,true,true,true,true]),?_⟩
   refine x_p rfl<|v_T rfl<|vd<|x_p rfl<|vd<|x_vb rfl<|v_T rfl<|vd<|x_p rfl<|v_T rfl<|vd<|x_vb rfl<|v_T rfl ?_
   refine vd<|xp [(3,pp bq1 0),(4,pp bq2 0),(5,pp bq3 0),(6,pp bq4 0),(8,.pointer (some ((adr g_s1.Tenants.1).add (e2.Tenant.toNat * 12)))),(95,.bool true),(96,undef),(98,undef)] fun fr => x_p rfl<|v_T rfl<|vd<|x_p rfl<|v_T rfl<|vd<|x_p rfl<|v_T rfl<|vd<|x_vb rfl<|v_T rfl ?_
   refine vd<|x_e rfl<|r_T rfl<|rd ⟨rfl,k_a (le_w [true,true,true,true,true,true]) (le_w [true,true,true,true,true,true]),?_⟩
   exact x_p rfl<|v_T rfl<|vd<|x_p rfl<|vd<|xk [(3,pp bq1 0),(4,pp bq2 0),(5,pp bq3 0),(6,pp bq4 0),(8,.pointer (some ((adr g_s1.Tenants.1).add (e2.Tenant.toNat * 12)))),(77,.bool true)] fun fr => rd ⟨true,_,h,fe _,by kernel_rfl⟩
  refine vn 3 tt_ok (en_Config c0 g_c0) ta_30 rfl<|vd<|x_p rfl<|v_F rfl<|vd<|x_vb rfl<|v_F rfl<|vl 1 tt_ok (v := ii e2.Cell) ts_3 rfl<|vd<|x_p rfl<|v_F rfl<|vd<|xp [(3,pp bq1 0),(4,pp bq2 0),(5,pp bq3 0),(6,pp bq4 0),(8,.pointer (some ((adr g_s1.Tenants.1).add (e2.Tenant.toNat * 12)))),(85,.bool false),(86,.agg (en_Config c0 g_c0).toArray),(88,ii e2.Cell),(89,.pointer (some ((adr g_s1.Tenants.1).add (e2.Tenant.toNat * 12))))] fun fr => ?_
  refine x_p rfl<|v_F rfl<|vd<|x_p rfl<|v_F rfl<|vd<|x_vb rfl<|v_F rfl<|v_lec (E := eTenantState) tt_ok (v := ii x5.Home) (idx_get hx6) (rd_row 4 rfl) ts_3 rfl (pl1 _ _ _) (by kernel_rfl)<|vd<|x_e rfl<|r_F rfl ?_
  replace h := h_b h; obtain ⟨x46,hx45,h⟩ := h
  refine rc (hc_89 (g_c0 := g_c0) (c0 := c0) (a1 := e2.Cell) (b2 := x5.Home) (hS_c0 := by exact (le_d 6).trans hS_c0) (h_c0 :=h_c0) (h := hx45)) ?_
  rintro _ _ ⟨rfl,rfl⟩
  refine rd ⟨rfl,k_a (le_w [true,true,true,true,true,true]) (le_w [true,true,true,true,true,true]),?_⟩
  refine x_p rfl<|vd<|x_p rfl<|vd<|x_vb rfl ?_
  apply v_iteh h<;>clear h<;>intro h
  ·refine vd<|x_p rfl<|v_T rfl<|vd<|x_vb rfl<|v_T rfl<|vd<|xp [(3,pp bq1 0),(4,pp bq2 0),(5,pp bq3 0),(6,pp bq4 0),(8,.pointer (some ((adr g_s1.Tenants.1).add (e2.Tenant.toNat * 12)))),(95,.bool true),(96,undef),(98,undef)] fun fr => x_p rfl<|v_T rfl<|vd<|x_p rfl<|v_T rfl ?_
   refine vd<|x_p rfl<|v_T rfl<|vd<|x_vb rfl<|v_T rfl<|vd<|x_e rfl<|r_T rfl<|rd ⟨rfl,k_a (le_w [true,true,true,true,true,true]) (le_w [true,true,true,true,true,true]),?_⟩
   exact x_p rfl<|v_T rfl<|vd<|x_p rfl<|vd<|xk [(3,pp bq1 0),(4,pp bq2 0),(5,pp bq3 0),(6,pp bq4 0),(8,.pointer (some ((adr g_s1.Tenants.1).add (e2.Tenant.toNat * 12)))),(77,.bool true)] fun fr => rd ⟨true,_,h,fe _,by kernel_rfl⟩
  refine vn 3 tt_ok (en_Config c0 g_c0) ta_30 rfl<|vd<|x_p rfl<|v_F rfl<|vd<|x_vb rfl<|v_F rfl<|vl 1 tt_ok (v := ii e2.Cell) ts_3 rfl<|vd<|xp [(3,pp bq1 0),(4,pp bq2 0),(5,pp bq3 0),(6,pp bq4 0),(8,.pointer (some ((adr g_s1.Tenants.1).add (e2.Tenant.toNat * 12)))),(95,.bool false),(96,.agg (en_Config c0 g_c0).toArray),(98,ii e2.Cell)] fun fr => x_p rfl<|v_F rfl<|vd ?_
  refine x_p rfl<|v_F rfl<|vd<|x_p rfl<|v_F rfl<|vd<|x_vb rfl<|v_F rfl<|v_lec (E := eTenantState) tt_ok (v := ii x5.Target) (idx_get hx6) (rd_row 4 rfl) ts_3 rfl (pl1 _ _ _) (by kernel_rfl)<|vd<|x_e rfl<|r_F rfl ?_
  replace h := h_b h; obtain ⟨x49,hx48,h⟩ := h
  refine rc (hc_89 (g_c0 := g_c0) (c0 := c0) (a1 := e2.Cell) (b2 := x5.Target) (hS_c0 := by exact (le_d 6).trans hS_c0) (h_c0 :=h_c0) (h := hx48)) ?_
  rintro _ _ ⟨rfl,rfl⟩
  refine rd ⟨rfl,k_a (le_w [true,true,true,true,true,true]) (le_w [true,true,true,true,true,true]),?_⟩
  exact x_p rfl<|vd<|x_p rfl<|vd<|xk [(3,pp bq1 0),(4,pp bq2 0),(5,pp bq3 0),(6,pp bq4 0),(8,.pointer (some ((adr g_s1.Tenants.1).add (e2.Tenant.toNat * 12)))),(77,.bool x49)] fun fr => rd ⟨x49,_,h,fe _,by kernel_rfl⟩
  clear h
  rintro fr S ⟨x50,fr,h,rfl,rfl⟩
  replace h := hK52 _ h
  refine rd ?_
  apply r_iteh h<;>clear h<;>intro h
  ·refine rb<|rc (hc_48 (e0 := 11)) ?_
   rintro _ _ ⟨A54,c55,A57,c58,rfl,rfl⟩
   refine st 2 tt_ok (en_State ((cellplaneref12_no 11).1) (⟨(A54,c55),(A57,c58)⟩)) (fn ta_38) rfl<|rd ?_
   repeat refine rd ?_
   subst hK61
   repeat refine rd ?_
   obtain rfl := h_out h
   exact ret_of (rv_cell 2 tt_ok (by kernel_rfl) ta_38 rfl rfl (RV.tmp RV.nil)) (le_w [true,true,false,false,false,false,false,false]) ⟨A54,c55,A57,c58,rfl,rfl⟩
  exact rd<|rd ⟨_,h,fe _,by kernel_rfl⟩
 clear h
 rintro fr S ⟨fr,h,rfl,rfl⟩
 subst hK61
 refine rd<|rb<|ld 1 tt_ok (v := ii e2.Cell) ts_3 rfl<|r_sec 4 (E := eTenantState) tt_ok ({ x5 with Next := e2.Cell }) (idx_get hx6) (f1 ts_3) rfl rfl (pl1 _ _ _) (by kernel_rfl) (by kernel_rfl) (List.cons_ne_nil _ _) ?_
 rw [show (en_State s1 g_s1) = (en_State ({ s1 with Tenants := (s1.Tenants.set e2.Tenant.toNat ({ x5 with Next := e2.Cell })) }) g_s1) by simp [en_State]]
 rw [← @List.length_set _ s1.Tenants e2.Tenant.toNat ({ x5 with Next := e2.Cell })]
 refine rd<|rb<|ln 3 tt_ok (en_Config c0 g_c0) ta_30 rfl<|ln 2 tt_ok (en_State ({ s1 with Tenants := (s1.Tenants.set e2.Tenant.toNat ({ x5 with Next := e2.Cell })) }) g_s1) ta_38 rfl<|r_le ((le_mv 5).trans (le_mv 5)) ?_
 replace h := h_b h; obtain ⟨⟨x63,x64⟩,hx62,h⟩ := h
 refine rc (hc_90 (g_c0 := g_c0) (c0 := c0) (g_s1 := g_s1) (s1 := { s1 with Tenants := (s1.Tenants.set e2.Tenant.toNat ({ x5 with Next := e2.Cell })) }) (hS_c0 := by exact (le_d 4).trans hS_c0) (h_c0 :=h_c0) (h := hx62)) ?_
 rintro _ _ ⟨A65,c66,A68,c69,rfl,rfl⟩
 refine kp [(6,pp bq4 0),(115,.tuple #[.agg (en_State x63 (⟨(A65,c66),(A68,c69)⟩)).toArray,ii x64])] fun fr => st 2 tt_ok (en_State x63 (⟨(A65,c66),(A68,c69)⟩)) (fn ta_38) rfl<|rd ?_
 repeat refine rd ?_
 repeat refine rd ?_
 obtain rfl := h_out h
 exact ret_of (rv_cell 2 tt_ok (by kernel_rfl) ta_38 rfl rfl (RV.tmp RV.nil)) (le_w [true,true,false,false,false,false]) ⟨A65,c66,A68,c69,rfl,rfl⟩
theorem hc_53 {g_s0 : gState}  (s0 : State) (e1 : Entry)  {r : (State × Int)} (h : cellplaneref12_ready s0 e1 = some r) : HC Tryz.prog 53 #[.agg (en_State s0 g_s0).toArray,.agg (en_Entry e1).toArray] ⟨ρ,.row g_s0.Tenants.1 s0.Tenants.length g_s0.Tenants.2 58 12 (fl eTenantState.en s0.Tenants) :: .row g_s0.Cells.1 s0.Cells.length g_s0.Cells.2 54 4 (fl eCellState.en s0.Cells) :: L⟩ (fun v S' => ∃ (Aq1_0 : Option Addr),∃ (cq1_0 : Nat),∃ (Aq1_1 : Option Addr),∃ (cq1_1 : Nat),v = .tuple #[.agg (en_State r.1 (⟨(Aq1_0,cq1_0),(Aq1_1,cq1_1)⟩)).toArray,ii r.2] ∧ S' = ⟨ρ,.row Aq1_0 r.1.Tenants.length cq1_0 58 12 (fl eTenantState.en r.1.Tenants) :: .row Aq1_1 r.1.Cells.length cq1_1 54 4 (fl eCellState.en r.1.Cells) :: L⟩) := by
 replace h := h_in h
 refine HC.intro (N := 53) (args := [_,_]) tt_ok Tryz.func53 rfl (by decide +kernel) rfl (Nat.le_of_ble_eq_true rfl)<|rb<|r_bx (en_State s0 g_s0) (by kernel_rfl) fun bq1 => r_bx (en_Entry e1) (by kernel_rfl) fun bq2 => r_al tt_ok (en_State (⟨0,0,[],[],0,0,0,0⟩ : State) (⟨(none,0),(none,0)⟩)) ti_38 (by kernel_rfl) fun bq3 => rd<|rb<|ld 2 tt_ok (v := .slice g_s0.Tenants.1 s0.Tenants.length g_s0.Tenants.2) ts_35 rfl<|ld 1 tt_ok (v := ii e1.Tenant) ts_3 rfl ?_
 replace h := h_b h; obtain ⟨x4,hx5,h⟩ := h
 refine r_el hx5 (rd_row 3 rfl)<|kp [(2,pp bq1 0),(3,pp bq2 0),(4,pp bq3 0),(11,.pointer (some ((adr g_s0.Tenants.1).add (e1.Tenant.toNat * 12))))] fun fr => rd<|rb<|rb<|rb<|r_lec (E := eTenantState) tt_ok (v := .bool x4.Placed) (idx_get hx5) (rd_row 3 rfl) ts_4 rfl (pl1 _ _ _) (by kernel_rfl)<|rd ?_
 apply r_iteh h<;>clear h<;>intro h
 ·refine rb<|rc (hc_48 (e0 := 4)) ?_
  rintro _ _ ⟨A7,c8,A10,c11,rfl,rfl⟩
  refine st 2 tt_ok (en_State ((cellplaneref12_no 4).1) (⟨(A7,c8),(A10,c11)⟩)) (fn ta_38) rfl<|kp [(4,pp bq3 0),(20,ii ((cellplaneref12_no 4).2))] fun fr => rd ?_
  repeat refine rd ?_
  repeat refine rd ?_
  obtain rfl := h_out h
  exact ret_of (rv_cell 2 tt_ok (by kernel_rfl) ta_38 rfl rfl (RV.tmp RV.nil)) (le_w [true,true,false,false,false,false,false]) ⟨A7,c8,A10,c11,rfl,rfl⟩
 refine rb<|r_mix tt_ok hm_ok _ _ [] (.pure 0 (.vb 1 (.pure 2 (.pure 3 (.pure 4 (.vb 5 (.pure 6 (.pure 7 .nil)))))))) (le_w [true,true,true,true,true]) (le_w [true,true,true,true,true]) ?_ ?_
 ·decide +kernel
 refine x_p rfl<|vd<|x_vb rfl<|vl 1 tt_ok (v := ii e1.Cell) ts_3 rfl<|vd<|xp [(2,pp bq1 0),(3,pp bq2 0),(4,pp bq3 0),(6,.pointer (some ((adr g_s0.Tenants.1).add (e1.Tenant.toNat * 12)))),(23,ii e1.Cell)] fun fr => x_p rfl<|vd<|x_p rfl<|vd<|x_p rfl<|vd<|x_vb rfl ?_
 refine v_lec (E := eTenantState) tt_ok (v := ii x4.Next) (idx_get hx5) (rd_row 3 rfl) ts_3 rfl (pl1 _ _ _) (by kernel_rfl)<|vd<|x_p rfl<|vd<|x_p rfl<|vd<|xk [(2,pp bq1 0),(3,pp bq2 0),(4,pp bq3 0),(6,.pointer (some ((adr g_s0.Tenants.1).add (e1.Tenant.toNat * 12)))),(21,.bool (!decide (e1.Cell = x4.Next)))] fun fr => rd ?_
 apply r_iteh h<;>clear h<;>intro h
 ·refine rb<|rc (hc_48 (e0 := 5)) ?_
  rintro _ _ ⟨A14,c15,A17,c18,rfl,rfl⟩
  refine st 2 tt_ok (en_State ((cellplaneref12_no 5).1) (⟨(A14,c15),(A17,c18)⟩)) (fn ta_38) rfl<|rd ?_
  repeat refine rd ?_
  repeat refine rd ?_
  obtain rfl := h_out h
  exact ret_of (rv_cell 2 tt_ok (by kernel_rfl) ta_38 rfl rfl (RV.tmp RV.nil)) (le_w [true,true,false,false,false,false,false]) ⟨A14,c15,A17,c18,rfl,rfl⟩
 refine rb<|ld 2 tt_ok (v := .slice g_s0.Cells.1 s0.Cells.length g_s0.Cells.2) ts_36 rfl<|ld 1 tt_ok (v := ii e1.Cell) ts_3 rfl ?_
 replace h := h_b h; obtain ⟨x20,hx21,h⟩ := h
 refine r_el hx21 (rd_row 4 rfl)<|r_lec (E := eCellState) tt_ok (v := ii x20.Mode) (idx_get hx21) (rd_row 4 rfl) ts_3 rfl (pl1 _ _ _) (by kernel_rfl)<|kr [(2,pp bq1 0),(3,pp bq2 0),(4,pp bq3 0),(6,.pointer (some ((adr g_s0.Tenants.1).add (e1.Tenant.toNat * 12)))),(32,.bool (decide (x20.Mode = 3)))] fun fr => rd ?_
 apply r_iteh h<;>clear h<;>intro h
 ·refine rb<|rc (hc_48 (e0 := 6)) ?_
  rintro _ _ ⟨A23,c24,A26,c27,rfl,rfl⟩
  refine st 2 tt_ok (en_State ((cellplaneref12_no 6).1) (⟨(A23,c24),(A26,c27)⟩)) (fn ta_38) rfl<|rd ?_
  repeat refine rd ?_
  repeat refine rd ?_
  obtain rfl := h_out h
  exact ret_of (rv_cell 2 tt_ok (by kernel_rfl) ta_38 rfl rfl (RV.tmp RV.nil)) (le_w [true,true,false,false,false,false,false]) ⟨A23,c24,A26,c27,rfl,rfl⟩
 refine rd<|rd<|rb<|ld 1 tt_ok (v := ii e1.Cell) ts_3 rfl<|r_sec 3 (E := eTenantState) tt_ok ({ x4 with Standby := e1.Cell }) (idx_get hx5) (f1 ts_3) rfl rfl (pl1 _ _ _) (by kernel_rfl) (by kernel_rfl) (List.cons_ne_nil _ _) ?_
 rw [show (en_State s0 g_s0) = (en_State ({ s0 with Tenants := (s0.Tenants.set e1.Tenant.toNat ({ x4 with Standby := e1.Cell })) }) g_s0) by simp [en_State]]
 rw [← @List.length_set _ s0.Tenants e1.Tenant.toNat ({ x4 with Standby := e1.Cell })]
 refine r_sec 3 (E := eTenantState) tt_ok ({ x4 with Standby := e1.Cell,Next := (-1) }) (get_set (idx_get hx5) _) (f1 ts_3) rfl rfl (pl1 _ _ _) (by kernel_rfl) (by kernel_rfl) (List.cons_ne_nil _ _) ?_
 rw [show (en_State ({ s0 with Tenants := (s0.Tenants.set e1.Tenant.toNat ({ x4 with Standby := e1.Cell })) }) g_s0) = (en_State ({ s0 with Tenants := ((s0.Tenants.set e1.Tenant.toNat ({ x4 with Standby := e1.Cell })).set e1.Tenant.toNat ({ x4 with Standby := e1.Cell,Next := (-1) })) }) g_s0) by simp [en_State]]
 rw [← @List.length_set _ (s0.Tenants.set e1.Tenant.toNat ({ x4 with Standby := e1.Cell })) e1.Tenant.toNat ({ x4 with Standby := e1.Cell,Next := (-1) })]
 refine kr [(2,pp bq1 0),(4,pp bq3 0)] fun fr => rd<|rb<|ln 2 tt_ok (en_State ({ s0 with Tenants := ((s0.Tenants.set e1.Tenant.toNat ({ x4 with Standby := e1.Cell })).set e1.Tenant.toNat ({ x4 with Standby := e1.Cell,Next := (-1) })) }) g_s0) ta_38 rfl<|st 0 tt_ok (en_State ({ s0 with Tenants := ((s0.Tenants.set e1.Tenant.toNat ({ x4 with Standby := e1.Cell })).set e1.Tenant.toNat ({ x4 with Standby := e1.Cell,Next := (-1) })) }) g_s0) (fn ta_38) rfl<|rd ?_
 repeat refine rd ?_
 repeat refine rd ?_
 obtain rfl := h_out h
 exact ret_of (rv_cell 0 tt_ok (by kernel_rfl) ta_38 rfl rfl (RV.tmp RV.nil)) (le_w [false,false,false,true,true]) ⟨g_s0.Tenants.1,g_s0.Tenants.2,g_s0.Cells.1,g_s0.Cells.2,rfl,rfl⟩
theorem hc_54 {g_c0 : gConfig} {g_s1 : gState} {S_c0 : St} (hS_c0 : Le ⟨ρ,L⟩ S_c0) (c0 : Config) (s1 : State) (e2 : Entry) (h_c0 : Sl_Config S_c0 c0 g_c0) {r : (State × Int)} (h : cellplaneref12_migrate c0 s1 e2 = some r) : HC Tryz.prog 54 #[.agg (en_Config c0 g_c0).toArray,.agg (en_State s1 g_s1).toArray,.agg (en_Entry e2).toArray] ⟨ρ,.row g_s1.Tenants.1 s1.Tenants.length g_s1.Tenants.2 58 12 (fl eTenantState.en s1.Tenants) :: .row g_s1.Cells.1 s1.Cells.length g_s1.Cells.2 54 4 (fl eCellState.en s1.Cells) :: L⟩ (fun v S' => ∃ (Aq1_0 : Option Addr),∃ (cq1_0 : Nat),∃ (Aq1_1 : Option Addr),∃ (cq1_1 : Nat),v = .tuple #[.agg (en_State r.1 (⟨(Aq1_0,cq1_0),(Aq1_1,cq1_1)⟩)).toArray,ii r.2] ∧ S' = ⟨ρ,.row Aq1_0 r.1.Tenants.length cq1_0 58 12 (fl eTenantState.en r.1.Tenants) :: .row Aq1_1 r.1.Cells.length cq1_1 54 4 (fl eCellState.en r.1.Cells) :: L⟩) := by
 replace h := h_in h
 refine HC.intro (N := 127) (args := [_,_,_]) tt_ok Tryz.func54 rfl (by decide +kernel) rfl (Nat.le_of_ble_eq_true rfl)<|rb<|r_bx (en_Config c0 g_c0) (by kernel_rfl) fun bq1 => r_bx (en_State s1 g_s1) (by kernel_rfl) fun bq2 => r_bx (en_Entry e2) (by kernel_rfl) fun bq3 => r_al tt_ok (en_State (⟨0,0,[],[],0,0,0,0⟩ : State) (⟨(none,0),(none,0)⟩)) ti_38 (by kernel_rfl) fun bq4 => rd<|rb<|ld 2 tt_ok (v := .slice g_s1.Tenants.1 s1.Tenants.length g_s1.Tenants.2) ts_35 rfl<|ld 1 tt_ok (v := ii e2.Tenant) ts_3 rfl<|kp [(3,pp bq1 0),(4,pp bq2 0),(5,pp bq3 0),(6,pp bq4 0),(10,.slice g_s1.Tenants.1 s1.Tenants.length g_s1.Tenants.2),(12,ii e2.Tenant)] fun fr => ?_
 replace h := h_b h; obtain ⟨x5,hx6,h⟩ := h
 refine r_el hx6 (rd_row 4 rfl)<|rd<|rb<|rb<|rb<|r_meet (fun fr S => ∃ fr0,fr = updL [(3,pp bq1 0),(4,pp bq2 0),(5,pp bq3 0),(6,pp bq4 0),(8,.pointer (some ((adr g_s1.Tenants.1).add (e2.Tenant.toNat * 12)))),(14,.bool ((!x5.Placed) || (x5.Shed || (decide (0 ≤ x5.Target)))))] fr0 ∧ S = ⟨ρ,.obj bq4 (en_State (⟨0,0,[],[],0,0,0,0⟩ : State) (⟨(none,0),(none,0)⟩)) 38 :: .obj bq3 (en_Entry e2) 45 :: .obj bq2 (en_State s1 g_s1) 38 :: .obj bq1 (en_Config c0 g_c0) 30 :: .row g_s1.Tenants.1 s1.Tenants.length g_s1.Tenants.2 58 12 (fl eTenantState.en s1.Tenants) :: .row g_s1.Cells.1 s1.Cells.length g_s1.Cells.2 54 4 (fl eCellState.en s1.Cells) :: L⟩) ?_ ?_
 ·refine r_lec (E := eTenantState) tt_ok (v := .bool x5.Placed) (idx_get hx6) (rd_row 4 rfl) ts_4 rfl (pl1 _ _ _) (by kernel_rfl)<|kp [(3,pp bq1 0),(4,pp bq2 0),(5,pp bq3 0),(6,pp bq4 0),(8,.pointer (some ((adr g_s1.Tenants.1).add (e2.Tenant.toNat * 12)))),(18,.bool x5.Placed)] fun fr => r_ite (fun (hb7 : (!x5.Placed) = true) => ?_) (fun (hb7 : (!x5.Placed) = false) => ?_)
  ·exact r_T rfl<|r_T rfl<|r_T rfl<|r_T rfl<|r_T rfl<|kp [(3,pp bq1 0),(4,pp bq2 0),(5,pp bq3 0),(6,pp bq4 0),(8,.pointer (some ((adr g_s1.Tenants.1).add (e2.Tenant.toNat * 12)))),(26,.bool true),(27,undef)] fun fr => r_T rfl<|r_T rfl<|r_T rfl<|r_T rfl<|r_T rfl<|rd ⟨_,fr_eq _ (by (try rw [hb7]); kernel_rfl),by kernel_rfl⟩
  refine r_F rfl<|r_F rfl<|r_F rfl<|r_lec (E := eTenantState) tt_ok (v := .bool x5.Shed) (idx_get hx6) (rd_row 4 rfl) ts_4 rfl (pl1 _ _ _) (by kernel_rfl)<|r_ite (fun (hb8 : x5.Shed = true) => ?_) (fun (hb8 : x5.Shed = false) => ?_)
  ·exact kp [(3,pp bq1 0),(4,pp bq2 0),(5,pp bq3 0),(6,pp bq4 0),(8,.pointer (some ((adr g_s1.Tenants.1).add (e2.Tenant.toNat * 12)))),(26,.bool true),(27,undef)] fun fr => r_T rfl<|r_T rfl<|r_T rfl<|r_T rfl<|r_T rfl<|rd ⟨_,fr_eq _ (by (try rw [hb8]); (try rw [hb7]); kernel_rfl),by kernel_rfl⟩
  exact kp [(3,pp bq1 0),(4,pp bq2 0),(5,pp bq3 0),(6,pp bq4 0),(8,.pointer (some ((adr g_s1.Tenants.1).add (e2.Tenant.toNat * 12)))),(26,.bool false),(27,.pointer (some ((adr g_s1.Tenants.1).add (e2.Tenant.toNat * 12))))] fun fr => r_F rfl<|r_F rfl<|r_F rfl<|r_lec (E := eTenantState) tt_ok (v := ii x5.Target) (idx_get hx6) (rd_row 4 rfl) ts_3 rfl (pl1 _ _ _) (by kernel_rfl)<|r_F rfl<|rd ⟨_,fr_eq _ (by (try rw [hb8]); (try rw [hb7]); kernel_rfl),by kernel_rfl⟩
 rintro fr S ⟨fr,rfl,rfl⟩
 refine rd ?_
 apply r_iteh h<;>clear h<;>intro h
 ·refine rb<|rc (hc_48 (e0 := 4)) ?_
  rintro _ _ ⟨A10,c11,A13,c14,rfl,rfl⟩
  refine st 2 tt_ok (en_State ((cellplaneref12_no 4).1) (⟨(A10,c11),(A13,c14)⟩)) (fn ta_38) rfl<|rd ?_
  repeat refine rd ?_
  repeat refine rd ?_
  obtain rfl := h_out h
  exact ret_of (rv_cell 2 tt_ok (by kernel_rfl) ta_38 rfl rfl (RV.tmp RV.nil)) (le_w [true,true,false,false,false,false,false,false]) ⟨A10,c11,A13,c14,rfl,rfl⟩
 refine rb<|r_meet (fun fr S => ∃ fr0,fr = updL [(3,pp bq1 0),(4,pp bq2 0),(5,pp bq3 0),(6,pp bq4 0),(8,.pointer (some ((adr g_s1.Tenants.1).add (e2.Tenant.toNat * 12)))),(36,.bool ((decide (e2.Cell = x5.Home)) || ((decide (e2.Cell = x5.Standby)) || (decide (e2.Cell = x5.Next)))))] fr0 ∧ S = ⟨ρ,.obj bq4 (en_State (⟨0,0,[],[],0,0,0,0⟩ : State) (⟨(none,0),(none,0)⟩)) 38 :: .obj bq3 (en_Entry e2) 45 :: .obj bq2 (en_State s1 g_s1) 38 :: .obj bq1 (en_Config c0 g_c0) 30 :: .row g_s1.Tenants.1 s1.Tenants.length g_s1.Tenants.2 58 12 (fl eTenantState.en s1.Tenants) :: .row g_s1.Cells.1 s1.Cells.length g_s1.Cells.2 54 4 (fl eCellState.en s1.Cells) :: L⟩) ?_ ?_
 refine r_mix tt_ok hm_ok _ _ [] (.pure 0 (.vb 1 (.pure 2 (.pure 3 (.pure 4 (.vb 5 (.pure 6 (.pure 7 (.pure 8 (.vb 9 (.pure 10 (.pure 11 (.pure 12 (.vb 13 (.pure 14 (.pure 15 (.pure 16 (.pure 17 (.vb 18 (.pure 19 (.pure 20 (.pure 21 (.vb 22 (.pure 23 (.pure 24 (.pure 25 .nil)))))))))))))))))))))))))) (le_w [true,true,true,true,true,true]) (le_w [true,true,true,true,true,true]) ?_ ?_
 ·decide +kernel
 refine xp [(3,pp bq1 0),(4,pp bq2 0),(5,pp bq3 0),(6,pp bq4 0),(8,.pointer (some ((adr g_s1.Tenants.1).add (e2.Tenant.toNat * 12))))] fun fr => x_p rfl<|vd<|x_vb rfl<|vl 1 tt_ok (v := ii e2.Cell) ts_3 rfl<|vd<|x_p rfl<|vd<|x_p rfl<|vd<|x_p rfl<|vd<|x_vb rfl ?_
 refine v_lec (E := eTenantState) tt_ok (v := ii x5.Home) (idx_get hx6) (rd_row 4 rfl) ts_3 rfl (pl1 _ _ _) (by kernel_rfl)<|vd<|x_p rfl<|vd<|x_p rfl<|vd<|x_p rfl<|v_ite (fun (hb16 : (decide (e2.Cell = x5.Home)) = true) => ?_) (fun (hb16 : (decide (e2.Cell = x5.Home)) = false) => ?_)
 ·refine vd<|xp [(3,pp bq1 0),(4,pp bq2 0),(5,pp bq3 0),(6,pp bq4 0),(8,.pointer (some ((adr g_s1.Tenants.1).add (e2.Tenant.toNat * 12)))),(44,.bool true),(45,undef)] fun fr => x_vb rfl<|v_T rfl<|vd<|x_p rfl<|v_T rfl<|vd<|x_p rfl<|v_T rfl<|vd<|x_p rfl<|v_T rfl ?_
  refine vd<|x_vb rfl<|v_T rfl<|vd<|x_p rfl<|v_T rfl<|vd<|x_p rfl<|v_T rfl<|vd<|x_p rfl<|vd<|x_p rfl ?_
  refine v_T rfl<|vd<|xp [(3,pp bq1 0),(4,pp bq2 0),(5,pp bq3 0),(6,pp bq4 0),(8,.pointer (some ((adr g_s1.Tenants.1).add (e2.Tenant.toNat * 12)))),(53,.bool true),(54,undef)] fun fr => x_vb rfl<|v_T rfl<|vd<|x_p rfl<|v_T rfl<|vd<|x_p rfl<|v_T rfl<|vd<|x_p rfl ?_
  refine v_T rfl<|vd<|x_vb rfl<|v_T rfl<|vd<|x_p rfl<|v_T rfl<|vd<|x_p rfl<|v_T rfl<|vd<|x_p rfl<|vd ?_
  exact xk [(3,pp bq1 0),(4,pp bq2 0),(5,pp bq3 0),(6,pp bq4 0),(8,.pointer (some ((adr g_s1.Tenants.1).add (e2.Tenant.toNat * 12)))),(36,.bool true)] fun fr => rd ⟨_,fr_eq _ (by (try rw [hb16]); kernel_rfl),by kernel_rfl⟩
 refine vd<|xp [(3,pp bq1 0),(4,pp bq2 0),(5,pp bq3 0),(6,pp bq4 0),(8,.pointer (some ((adr g_s1.Tenants.1).add (e2.Tenant.toNat * 12)))),(44,.bool false),(45,pp bq3 3)] fun fr => x_vb rfl<|v_F rfl<|vl 1 tt_ok (v := ii e2.Cell) ts_3 rfl<|vd<|x_p rfl<|v_F rfl<|vd<|x_p rfl<|v_F rfl<|vd<|x_p rfl ?_
 refine v_F rfl<|vd<|x_vb rfl<|v_F rfl<|v_lec (E := eTenantState) tt_ok (v := ii x5.Standby) (idx_get hx6) (rd_row 4 rfl) ts_3 rfl (pl1 _ _ _) (by kernel_rfl)<|vd<|x_p rfl<|v_F rfl<|vd<|x_p rfl<|vd<|x_p rfl<|vd ?_
 refine x_p rfl<|v_ite (fun (hb17 : (decide (e2.Cell = x5.Standby)) = true) => ?_) (fun (hb17 : (decide (e2.Cell = x5.Standby)) = false) => ?_)
 ·refine vd<|xp [(3,pp bq1 0),(4,pp bq2 0),(5,pp bq3 0),(6,pp bq4 0),(8,.pointer (some ((adr g_s1.Tenants.1).add (e2.Tenant.toNat * 12)))),(53,.bool true),(54,undef)] fun fr => x_vb rfl<|v_T rfl<|vd<|x_p rfl<|v_T rfl<|vd<|x_p rfl<|v_T rfl<|vd<|x_p rfl<|v_T rfl ?_
  refine vd<|x_vb rfl<|v_T rfl<|vd<|x_p rfl<|v_T rfl<|vd<|x_p rfl<|v_T rfl<|vd<|x_p rfl<|vd<|xk [(3,pp bq1 0),(4,pp bq2 0),(5,pp bq3 0),(6,pp bq4 0),(8,.pointer (some ((adr g_s1.Tenants.1).add (e2.Tenant.toNat * 12)))),(36,.bool true)] fun fr => ?_
  exact rd ⟨_,fr_eq _ (by (try rw [hb17]); (try rw [hb16]); kernel_rfl),by kernel_rfl⟩
 refine vd<|xp [(3,pp bq1 0),(4,pp bq2 0),(5,pp bq3 0),(6,pp bq4 0),(8,.pointer (some ((adr g_s1.Tenants.1).add (e2.Tenant.toNat * 12)))),(53,.bool false),(54,pp bq3 3)] fun fr => x_vb rfl<|v_F rfl<|vl 1 tt_ok (v := ii e2.Cell) ts_3 rfl<|vd<|x_p rfl<|v_F rfl<|vd<|x_p rfl<|v_F rfl<|vd<|x_p rfl ?_
 refine v_F rfl<|vd<|x_vb rfl<|v_F rfl<|v_lec (E := eTenantState) tt_ok (v := ii x5.Next) (idx_get hx6) (rd_row 4 rfl) ts_3 rfl (pl1 _ _ _) (by kernel_rfl)<|vd<|x_p rfl<|v_F rfl<|vd<|x_p rfl<|vd<|x_p rfl<|vd ?_
 exact xk [(3,pp bq1 0),(4,pp bq2 0),(5,pp bq3 0),(6,pp bq4 0),(8,.pointer (some ((adr g_s1.Tenants.1).add (e2.Tenant.toNat * 12)))),(36,.bool (decide (e2.Cell = x5.Next)))] fun fr => rd ⟨_,fr_eq _ (by (try rw [hb17]); (try rw [hb16]); kernel_rfl),by kernel_rfl⟩
 rintro fr S ⟨fr,rfl,rfl⟩
 refine rd ?_
 apply r_iteh h<;>clear h<;>intro h
 ·refine rb<|rc (hc_48 (e0 := 5)) ?_
  rintro _ _ ⟨A19,c20,A22,c23,rfl,rfl⟩
  refine st 2 tt_ok (en_State ((cellplaneref12_no 5).1) (⟨(A19,c20),(A22,c23)⟩)) (fn ta_38) rfl<|rd ?_
  repeat refine rd ?_
  repeat refine rd ?_
  obtain rfl := h_out h
  exact ret_of (rv_cell 2 tt_ok (by kernel_rfl) ta_38 rfl rfl (RV.tmp RV.nil)) (le_w [true,true,false,false,false,false,false,false]) ⟨A19,c20,A22,c23,rfl,rfl⟩
 refine rb<|ld 2 tt_ok (v := .slice g_s1.Cells.1 s1.Cells.length g_s1.Cells.2) ts_36 rfl<|ld 1 tt_ok (v := ii e2.Cell) ts_3 rfl ?_
 replace h := h_b h; obtain ⟨x25,hx26,h⟩ := h
 refine r_el hx26 (rd_row 5 rfl)<|r_lec (E := eCellState) tt_ok (v := ii x25.Mode) (idx_get hx26) (rd_row 5 rfl) ts_3 rfl (pl1 _ _ _) (by kernel_rfl)<|kr [(3,pp bq1 0),(4,pp bq2 0),(5,pp bq3 0),(6,pp bq4 0),(8,.pointer (some ((adr g_s1.Tenants.1).add (e2.Tenant.toNat * 12)))),(65,.bool (!decide (x25.Mode = 1)))] fun fr => rd ?_
 apply r_iteh h<;>clear h<;>intro h
 ·refine rb<|rc (hc_48 (e0 := 6)) ?_
  rintro _ _ ⟨A28,c29,A31,c32,rfl,rfl⟩
  refine st 2 tt_ok (en_State ((cellplaneref12_no 6).1) (⟨(A28,c29),(A31,c32)⟩)) (fn ta_38) rfl<|rd ?_
  repeat refine rd ?_
  repeat refine rd ?_
  obtain rfl := h_out h
  exact ret_of (rv_cell 2 tt_ok (by kernel_rfl) ta_38 rfl rfl (RV.tmp RV.nil)) (le_w [true,true,false,false,false,false,false,false]) ⟨A28,c29,A31,c32,rfl,rfl⟩
 refine rb<|ln 3 tt_ok (en_Config c0 g_c0) ta_30 rfl<|ln 2 tt_ok (en_State s1 g_s1) ta_38 rfl<|ld 1 tt_ok (v := ii e2.Cell) ts_3 rfl ?_
 replace h := h_b h; obtain ⟨x35,hx34,h⟩ := h
 refine rc (hc_88 (g_c0 := g_c0) (c0 := c0) (g_s1 := g_s1) (s1 := s1) (cell2 := e2.Cell) (hS_c0 := by exact (le_d 6).trans hS_c0) (h_c0 :=h_c0) (hS_s1 := by exact Le.refl _) (h_s1 := by exact ⟨sl_row 4 rfl,sl_row 5 rfl⟩) (h := hx34)) ?_
 rintro _ _ ⟨rfl,rfl⟩
 refine rd ?_
 apply r_iteh h<;>clear h<;>intro h
 ·refine rb<|rc (hc_48 (e0 := 12)) ?_
  rintro _ _ ⟨A37,c38,A40,c41,rfl,rfl⟩
  refine st 2 tt_ok (en_State ((cellplaneref12_no 12).1) (⟨(A37,c38),(A40,c41)⟩)) (fn ta_38) rfl<|kp [(6,pp bq4 0),(85,ii ((cellplaneref12_no 12).2))] fun fr => rd ?_
  repeat refine rd ?_
  repeat refine rd ?_
  obtain rfl := h_out h
  exact ret_of (rv_cell 2 tt_ok (by kernel_rfl) ta_38 rfl rfl (RV.tmp RV.nil)) (le_w [true,true,false,false,false,false,false,false]) ⟨A37,c38,A40,c41,rfl,rfl⟩
 refine rb ?_
 replace h := h_j h; obtain ⟨K52,h,hK53⟩ := h
 refine r_meet (fun fr S => ∃ (x51 : Bool),∃ fr0,K52 x51 = some r ∧ fr = updL [(3,pp bq1 0),(4,pp bq2 0),(5,pp bq3 0),(6,pp bq4 0),(8,.pointer (some ((adr g_s1.Tenants.1).add (e2.Tenant.toNat * 12)))),(86,.bool x51)] fr0 ∧ S = ⟨ρ,.obj bq4 (en_State (⟨0,0,[],[],0,0,0,0⟩ : State) (⟨(none,0),(none,0)⟩)) 38 :: .obj bq3 (en_Entry e2) 45 :: .obj bq2 (en_State s1 g_s1) 38 :: .obj bq1 (en_Config c0 g_c0) 30 :: .row g_s1.Tenants.1 s1.Tenants.length g_s1.Tenants.2 58 12 (fl eTenantState.en s1.Tenants) :: .row g_s1.Cells.1 s1.Cells.length g_s1.Cells.2 54 4 (fl eCellState.en s1.Cells) :: L⟩) ?_ ?_
 refine r_mix tt_ok hm_ok _ _ [] (.vb 0 (.pure 1 (.vb 2 (.pure 3 (.vb 4 (.eff 5 (.pure 6 (.pure 7 (.vb 8 (.pure 9 (.vb 10 (.pure 11 (.pure 12 (.pure 13 (.vb 14 (.eff 15 (.pure 16 (.pure 17 (.vb 18 (.pure 19 (.vb 20 (.pure 21 (.pure 22 (.pure 23 (.vb 24 (.eff 25 (.pure 26 (.pure 27 .nil)))))))))))))))))))))))))))) (le_w [true,true,true,true,true,true]) (le_w [true,true,true,true,true,true]) ?_ ?_
 ·decide +kernel
 refine x_vb rfl<|vn 3 tt_ok (en_Config c0 g_c0) ta_30 rfl<|vd<|x_p rfl<|vd<|x_vb rfl<|vl 1 tt_ok (v := ii e2.Tenant) ts_3 rfl<|vd<|xp [(3,pp bq1 0),(4,pp bq2 0),(5,pp bq3 0),(6,pp bq4 0),(8,.pointer (some ((adr g_s1.Tenants.1).add (e2.Tenant.toNat * 12)))),(87,.agg (en_Config c0 g_c0).toArray),(89,ii e2.Tenant)] fun fr => x_p rfl<|vd<|x_vb rfl<|vl 1 tt_ok (v := ii e2.Cell) ts_3 rfl ?_
 refine vd<|x_e rfl ?_
 replace h := h_b h; obtain ⟨x44,hx43,h⟩ := h
 refine rc (hc_86 (g_c0 := g_c0) (c0 := c0) (tenant1 := e2.Tenant) (cell2 := e2.Cell) (hS_c0 := by exact (le_d 6).trans hS_c0) (h_c0 :=h_c0) (h := hx43)) ?_
 rintro _ _ ⟨rfl,rfl⟩
 refine rd ⟨rfl,k_a (le_w [true,true,true,true,true,true]) (le_w [true,true,true,true,true,true]),?_⟩
 refine x_p rfl<|vd<|x_p rfl<|vd<|x_vb rfl ?_
 apply v_iteh h<;>clear h<;>intro h
 ·refine vd<|x_p rfl<|v_T rfl<|vd<|x_vb rfl<|v_T rfl<|vd<|x_p rfl<|v_T rfl<|vd<|xp [(3,pp bq1 0),(4,pp bq2 0),(5,pp bq3 0),(6,pp bq4 0),(8,.pointer (some ((adr g_s1.Tenants.1).add (e2.Tenant.toNat * 12)))),(94,.bool true),(95,undef),(97,undef),(98,undef)] fun fr => x_p rfl<|v_T rfl ?_
  refine vd<|x_p rfl<|v_T rfl<|vd<|x_vb rfl<|v_T rfl<|vd<|x_e rfl<|r_T rfl<|rd ⟨rfl,k_a (le_w [true,true,true,true,true,true]) (le_w [true,true,true,true,true,true]),?_⟩
  refine x_p rfl<|v_T rfl<|vd<|x_p rfl<|vd<|x_vb rfl<|v_T rfl<|vd<|x_p rfl<|v_T rfl<|vd<|x_vb rfl<|v_T rfl ?_
  refine vd<|xp [(3,pp bq1 0),(4,pp bq2 0),(5,pp bq3 0),(6,pp bq4 0),(8,.pointer (some ((adr g_s1.Tenants.1).add (e2.Tenant.toNat * 12)))),(104,.bool true),(105,undef),(107,undef)] fun fr => x_p rfl<|v_T rfl<|vd<|x_p rfl<|v_T rfl<|vd<|x_p rfl<|v_T rfl<|vd<|x_vb rfl<|v_T rfl ?_
  refine vd<|x_e rfl<|r_T rfl<|rd ⟨rfl,k_a (le_w [true,true,true,true,true,true]) (le_w [true,true,true,true,true,true]),?_⟩
  exact x_p rfl<|v_T rfl<|vd<|x_p rfl<|vd<|xk [(3,pp bq1 0),(4,pp bq2 0),(5,pp bq3 0),(6,pp bq4 0),(8,.pointer (some ((adr g_s1.Tenants.1).add (e2.Tenant.toNat * 12)))),(86,.bool true)] fun fr => rd ⟨true,_,h,fe _,by kernel_rfl⟩
 refine vn 3 tt_ok (en_Config c0 g_c0) ta_30 rfl<|vd<|x_p rfl<|v_F rfl<|vd<|x_vb rfl<|v_F rfl<|vl 1 tt_ok (v := ii e2.Cell) ts_3 rfl<|vd<|x_p rfl<|v_F rfl<|vd<|xp [(3,pp bq1 0),(4,pp bq2 0),(5,pp bq3 0),(6,pp bq4 0),(8,.pointer (some ((adr g_s1.Tenants.1).add (e2.Tenant.toNat * 12)))),(94,.bool false),(95,.agg (en_Config c0 g_c0).toArray),(97,ii e2.Cell),(98,.pointer (some ((adr g_s1.Tenants.1).add (e2.Tenant.toNat * 12))))] fun fr => ?_
 refine x_p rfl<|v_F rfl<|vd<|x_p rfl<|v_F rfl<|vd<|x_vb rfl<|v_F rfl<|v_lec (E := eTenantState) tt_ok (v := ii x5.Standby) (idx_get hx6) (rd_row 4 rfl) ts_3 rfl (pl1 _ _ _) (by kernel_rfl)<|vd<|x_e rfl<|r_F rfl ?_
 replace h := h_b h; obtain ⟨x47,hx46,h⟩ := h
 refine rc (hc_89 (g_c0 := g_c0) (c0 := c0) (a1 := e2.Cell) (b2 := x5.Standby) (hS_c0 := by exact (le_d 6).trans hS_c0) (h_c0 :=h_c0) (h := hx46)) ?_
 rintro _ _ ⟨rfl,rfl⟩
 refine rd ⟨rfl,k_a (le_w [true,true,true,true,true,true]) (le_w [true,true,true,true,true,true]),?_⟩
 refine x_p rfl<|vd<|x_p rfl<|vd<|x_vb rfl ?_
 apply v_iteh h<;>clear h<;>intro h
 ·refine vd<|x_p rfl<|v_T rfl<|vd<|x_vb rfl<|v_T rfl<|vd<|xp [(3,pp bq1 0),(4,pp bq2 0),(5,pp bq3 0),(6,pp bq4 0),(8,.pointer (some ((adr g_s1.Tenants.1).add (e2.Tenant.toNat * 12)))),(104,.bool true),(105,undef),(107,undef)] fun fr => x_p rfl<|v_T rfl<|vd<|x_p rfl<|v_T rfl ?_
  refine vd<|x_p rfl<|v_T rfl<|vd<|x_vb rfl<|v_T rfl<|vd<|x_e rfl<|r_T rfl<|rd ⟨rfl,k_a (le_w [true,true,true,true,true,true]) (le_w [true,true,true,true,true,true]),?_⟩
  exact x_p rfl<|v_T rfl<|vd<|x_p rfl<|vd<|xk [(3,pp bq1 0),(4,pp bq2 0),(5,pp bq3 0),(6,pp bq4 0),(8,.pointer (some ((adr g_s1.Tenants.1).add (e2.Tenant.toNat * 12)))),(86,.bool true)] fun fr => rd ⟨true,_,h,fe _,by kernel_rfl⟩
 refine vn 3 tt_ok (en_Config c0 g_c0) ta_30 rfl<|vd<|x_p rfl<|v_F rfl<|vd<|x_vb rfl<|v_F rfl<|vl 1 tt_ok (v := ii e2.Cell) ts_3 rfl<|vd<|xp [(3,pp bq1 0),(4,pp bq2 0),(5,pp bq3 0),(6,pp bq4 0),(8,.pointer (some ((adr g_s1.Tenants.1).add (e2.Tenant.toNat * 12)))),(104,.bool false),(105,.agg (en_Config c0 g_c0).toArray),(107,ii e2.Cell)] fun fr => x_p rfl<|v_F rfl<|vd ?_
 refine x_p rfl<|v_F rfl<|vd<|x_p rfl<|v_F rfl<|vd<|x_vb rfl<|v_F rfl<|v_lec (E := eTenantState) tt_ok (v := ii x5.Next) (idx_get hx6) (rd_row 4 rfl) ts_3 rfl (pl1 _ _ _) (by kernel_rfl)<|vd<|x_e rfl<|r_F rfl ?_
 replace h := h_b h; obtain ⟨x50,hx49,h⟩ := h
 refine rc (hc_89 (g_c0 := g_c0) (c0 := c0) (a1 := e2.Cell) (b2 := x5.Next) (hS_c0 := by exact (le_d 6).trans hS_c0) (h_c0 :=h_c0) (h := hx49)) ?_
 rintro _ _ ⟨rfl,rfl⟩
 refine rd ⟨rfl,k_a (le_w [true,true,true,true,true,true]) (le_w [true,true,true,true,true,true]),?_⟩
 exact x_p rfl<|vd<|x_p rfl<|vd<|xk [(3,pp bq1 0),(4,pp bq2 0),(5,pp bq3 0),(6,pp bq4 0),(8,.pointer (some ((adr g_s1.Tenants.1).add (e2.Tenant.toNat * 12)))),(86,.bool x50)] fun fr => rd ⟨x50,_,h,fe _,by kernel_rfl⟩
 clear h
 rintro fr S ⟨x51,fr,h,rfl,rfl⟩
 replace h := hK53 _ h
 refine rd ?_
 apply r_iteh h<;>clear h<;>intro h
 ·refine rb<|rc (hc_48 (e0 := 11)) ?_
  rintro _ _ ⟨A55,c56,A58,c59,rfl,rfl⟩
  refine st 2 tt_ok (en_State ((cellplaneref12_no 11).1) (⟨(A55,c56),(A58,c59)⟩)) (fn ta_38) rfl<|rd ?_
  repeat refine rd ?_
  repeat refine rd ?_
  obtain rfl := h_out h
  exact ret_of (rv_cell 2 tt_ok (by kernel_rfl) ta_38 rfl rfl (RV.tmp RV.nil)) (le_w [true,true,false,false,false,false,false,false]) ⟨A55,c56,A58,c59,rfl,rfl⟩
 refine rd<|rd<|rb<|ld 1 tt_ok (v := ii e2.Cell) ts_3 rfl<|r_sec 4 (E := eTenantState) tt_ok ({ x5 with Target := e2.Cell }) (idx_get hx6) (f1 ts_3) rfl rfl (pl1 _ _ _) (by kernel_rfl) (by kernel_rfl) (List.cons_ne_nil _ _) ?_
 rw [show (en_State s1 g_s1) = (en_State ({ s1 with Tenants := (s1.Tenants.set e2.Tenant.toNat ({ x5 with Target := e2.Cell })) }) g_s1) by simp [en_State]]
 rw [← @List.length_set _ s1.Tenants e2.Tenant.toNat ({ x5 with Target := e2.Cell })]
 refine rd<|rb<|ln 3 tt_ok (en_Config c0 g_c0) ta_30 rfl<|ln 2 tt_ok (en_State ({ s1 with Tenants := (s1.Tenants.set e2.Tenant.toNat ({ x5 with Target := e2.Cell })) }) g_s1) ta_38 rfl<|r_le ((le_mv 5).trans (le_mv 5)) ?_
 replace h := h_b h; obtain ⟨⟨x62,x63⟩,hx61,h⟩ := h
 refine rc (hc_90 (g_c0 := g_c0) (c0 := c0) (g_s1 := g_s1) (s1 := { s1 with Tenants := (s1.Tenants.set e2.Tenant.toNat ({ x5 with Target := e2.Cell })) }) (hS_c0 := by exact (le_d 4).trans hS_c0) (h_c0 :=h_c0) (h := hx61)) ?_
 rintro _ _ ⟨A64,c65,A67,c68,rfl,rfl⟩
 refine kp [(6,pp bq4 0),(124,.tuple #[.agg (en_State x62 (⟨(A64,c65),(A67,c68)⟩)).toArray,ii x63])] fun fr => st 2 tt_ok (en_State x62 (⟨(A64,c65),(A67,c68)⟩)) (fn ta_38) rfl<|rd ?_
 repeat refine rd ?_
 repeat refine rd ?_
 obtain rfl := h_out h
 exact ret_of (rv_cell 2 tt_ok (by kernel_rfl) ta_38 rfl rfl (RV.tmp RV.nil)) (le_w [true,true,false,false,false,false]) ⟨A64,c65,A67,c68,rfl,rfl⟩
theorem hc_55 {g_s0 : gState}  (s0 : State) (e1 : Entry)  {r : (State × Int)} (h : cellplaneref12_abandon s0 e1 = some r) : HC Tryz.prog 55 #[.agg (en_State s0 g_s0).toArray,.agg (en_Entry e1).toArray] ⟨ρ,.row g_s0.Tenants.1 s0.Tenants.length g_s0.Tenants.2 58 12 (fl eTenantState.en s0.Tenants) :: .row g_s0.Cells.1 s0.Cells.length g_s0.Cells.2 54 4 (fl eCellState.en s0.Cells) :: L⟩ (fun v S' => ∃ (Aq1_0 : Option Addr),∃ (cq1_0 : Nat),∃ (Aq1_1 : Option Addr),∃ (cq1_1 : Nat),v = .tuple #[.agg (en_State r.1 (⟨(Aq1_0,cq1_0),(Aq1_1,cq1_1)⟩)).toArray,ii r.2] ∧ S' = ⟨ρ,.row Aq1_0 r.1.Tenants.length cq1_0 58 12 (fl eTenantState.en r.1.Tenants) :: .row Aq1_1 r.1.Cells.length cq1_1 54 4 (fl eCellState.en r.1.Cells) :: L⟩) := by
 replace h := h_in h
 refine HC.intro (N := 31) (args := [_,_]) tt_ok Tryz.func55 rfl (by decide +kernel) rfl (Nat.le_of_ble_eq_true rfl)<|rb<|r_bx (en_State s0 g_s0) (by kernel_rfl) fun bq1 => r_bx (en_Entry e1) (by kernel_rfl) fun bq2 => r_al tt_ok (en_State (⟨0,0,[],[],0,0,0,0⟩ : State) (⟨(none,0),(none,0)⟩)) ti_38 (by kernel_rfl) fun bq3 => rd<|rb<|ld 2 tt_ok (v := .slice g_s0.Tenants.1 s0.Tenants.length g_s0.Tenants.2) ts_35 rfl<|ld 1 tt_ok (v := ii e1.Tenant) ts_3 rfl ?_
 replace h := h_b h; obtain ⟨x4,hx5,h⟩ := h
 refine r_el hx5 (rd_row 3 rfl)<|kp [(2,pp bq1 0),(4,pp bq3 0),(11,.pointer (some ((adr g_s0.Tenants.1).add (e1.Tenant.toNat * 12))))] fun fr => rd<|rb<|rb<|r_meet (fun fr S => ∃ fr0,fr = updL [(2,pp bq1 0),(4,pp bq3 0),(6,.pointer (some ((adr g_s0.Tenants.1).add (e1.Tenant.toNat * 12)))),(23,.bool ((!x4.Placed) || (decide (x4.Target < 0))))] fr0 ∧ S = ⟨ρ,.obj bq3 (en_State (⟨0,0,[],[],0,0,0,0⟩ : State) (⟨(none,0),(none,0)⟩)) 38 :: .obj bq2 (en_Entry e1) 45 :: .obj bq1 (en_State s0 g_s0) 38 :: .row g_s0.Tenants.1 s0.Tenants.length g_s0.Tenants.2 58 12 (fl eTenantState.en s0.Tenants) :: .row g_s0.Cells.1 s0.Cells.length g_s0.Cells.2 54 4 (fl eCellState.en s0.Cells) :: L⟩) ?_ ?_
 ·refine r_lec (E := eTenantState) tt_ok (v := .bool x4.Placed) (idx_get hx5) (rd_row 3 rfl) ts_4 rfl (pl1 _ _ _) (by kernel_rfl)<|kp [(2,pp bq1 0),(4,pp bq3 0),(6,.pointer (some ((adr g_s0.Tenants.1).add (e1.Tenant.toNat * 12)))),(15,.bool x4.Placed)] fun fr => r_ite (fun (hb6 : (!x4.Placed) = true) => ?_) (fun (hb6 : (!x4.Placed) = false) => ?_)
  ·exact r_T rfl<|r_T rfl<|r_T rfl<|r_T rfl<|r_T rfl<|rd ⟨_,fr_eq _ (by (try rw [hb6]); kernel_rfl),by kernel_rfl⟩
  exact r_F rfl<|r_F rfl<|r_F rfl<|r_lec (E := eTenantState) tt_ok (v := ii x4.Target) (idx_get hx5) (rd_row 3 rfl) ts_3 rfl (pl1 _ _ _) (by kernel_rfl)<|r_F rfl<|rd ⟨_,fr_eq _ (by (try rw [hb6]); kernel_rfl),by kernel_rfl⟩
 rintro fr S ⟨fr,rfl,rfl⟩
 refine rd ?_
 apply r_iteh h<;>clear h<;>intro h
 ·refine rb<|rc (hc_48 (e0 := 4)) ?_
  rintro _ _ ⟨A8,c9,A11,c12,rfl,rfl⟩
  refine st 2 tt_ok (en_State ((cellplaneref12_no 4).1) (⟨(A8,c9),(A11,c12)⟩)) (fn ta_38) rfl<|rd ?_
  repeat refine rd ?_
  repeat refine rd ?_
  obtain rfl := h_out h
  exact ret_of (rv_cell 2 tt_ok (by kernel_rfl) ta_38 rfl rfl (RV.tmp RV.nil)) (le_w [true,true,false,false,false,false,false]) ⟨A8,c9,A11,c12,rfl,rfl⟩
 refine rd<|rb<|r_sec 3 (E := eTenantState) tt_ok ({ x4 with Target := (-1) }) (idx_get hx5) (f1 ts_3) rfl rfl (pl1 _ _ _) (by kernel_rfl) (by kernel_rfl) (List.cons_ne_nil _ _) ?_
 rw [show (en_State s0 g_s0) = (en_State ({ s0 with Tenants := (s0.Tenants.set e1.Tenant.toNat ({ x4 with Target := (-1) })) }) g_s0) by simp [en_State]]
 rw [← @List.length_set _ s0.Tenants e1.Tenant.toNat ({ x4 with Target := (-1) })]
 refine rd<|rb<|ln 2 tt_ok (en_State ({ s0 with Tenants := (s0.Tenants.set e1.Tenant.toNat ({ x4 with Target := (-1) })) }) g_s0) ta_38 rfl<|st 0 tt_ok (en_State ({ s0 with Tenants := (s0.Tenants.set e1.Tenant.toNat ({ x4 with Target := (-1) })) }) g_s0) (fn ta_38) rfl<|rd ?_
 repeat refine rd ?_
 repeat refine rd ?_
 obtain rfl := h_out h
 exact ret_of (rv_cell 0 tt_ok (by kernel_rfl) ta_38 rfl rfl (RV.tmp RV.nil)) (le_w [false,false,false,true,true]) ⟨g_s0.Tenants.1,g_s0.Tenants.2,g_s0.Cells.1,g_s0.Cells.2,rfl,rfl⟩
theorem hc_56 {g_c0 : gConfig} {g_s1 : gState} {S_c0 : St} (hS_c0 : Le ⟨ρ,L⟩ S_c0) (c0 : Config) (s1 : State) (e2 : Entry) (h_c0 : Sl_Config S_c0 c0 g_c0) {r : (State × Int)} (h : cellplaneref12_shed c0 s1 e2 = some r) : HC Tryz.prog 56 #[.agg (en_Config c0 g_c0).toArray,.agg (en_State s1 g_s1).toArray,.agg (en_Entry e2).toArray] ⟨ρ,.row g_s1.Tenants.1 s1.Tenants.length g_s1.Tenants.2 58 12 (fl eTenantState.en s1.Tenants) :: .row g_s1.Cells.1 s1.Cells.length g_s1.Cells.2 54 4 (fl eCellState.en s1.Cells) :: L⟩ (fun v S' => ∃ (Aq1_0 : Option Addr),∃ (cq1_0 : Nat),∃ (Aq1_1 : Option Addr),∃ (cq1_1 : Nat),v = .tuple #[.agg (en_State r.1 (⟨(Aq1_0,cq1_0),(Aq1_1,cq1_1)⟩)).toArray,ii r.2] ∧ S' = ⟨ρ,.row Aq1_0 r.1.Tenants.length cq1_0 58 12 (fl eTenantState.en r.1.Tenants) :: .row Aq1_1 r.1.Cells.length cq1_1 54 4 (fl eCellState.en r.1.Cells) :: L⟩) := by
 replace h := h_in h
 refine HC.intro (N := 82) (args := [_,_,_]) tt_ok Tryz.func56 rfl (by decide +kernel) rfl (Nat.le_of_ble_eq_true rfl)<|rb<|r_bx (en_Config c0 g_c0) (by kernel_rfl) fun bq1 => r_bx (en_State s1 g_s1) (by kernel_rfl) fun bq2 => r_bx (en_Entry e2) (by kernel_rfl) fun bq3 => r_al tt_ok (en_State (⟨0,0,[],[],0,0,0,0⟩ : State) (⟨(none,0),(none,0)⟩)) ti_38 (by kernel_rfl) fun bq4 => rd<|rb<|ld 2 tt_ok (v := .slice g_s1.Tenants.1 s1.Tenants.length g_s1.Tenants.2) ts_35 rfl<|ld 1 tt_ok (v := ii e2.Tenant) ts_3 rfl<|kp [(3,pp bq1 0),(4,pp bq2 0),(5,pp bq3 0),(6,pp bq4 0),(10,.slice g_s1.Tenants.1 s1.Tenants.length g_s1.Tenants.2),(12,ii e2.Tenant)] fun fr => ?_
 replace h := h_b h; obtain ⟨x5,hx6,h⟩ := h
 refine r_el hx6 (rd_row 4 rfl)<|rd<|rb<|rb<|ld 1 tt_ok (v := ii e2.N) ts_3 rfl<|rd ?_
 apply r_iteh h<;>clear h<;>intro h
 ·refine rb<|rb<|rb<|r_meet (fun fr S => ∃ fr0,fr = updL [(4,pp bq2 0),(5,pp bq3 0),(6,pp bq4 0),(8,.pointer (some ((adr g_s1.Tenants.1).add (e2.Tenant.toNat * 12)))),(17,.bool ((!x5.Placed) || x5.Shed))] fr0 ∧ S = ⟨ρ,.obj bq4 (en_State (⟨0,0,[],[],0,0,0,0⟩ : State) (⟨(none,0),(none,0)⟩)) 38 :: .obj bq3 (en_Entry e2) 45 :: .obj bq2 (en_State s1 g_s1) 38 :: .obj bq1 (en_Config c0 g_c0) 30 :: .row g_s1.Tenants.1 s1.Tenants.length g_s1.Tenants.2 58 12 (fl eTenantState.en s1.Tenants) :: .row g_s1.Cells.1 s1.Cells.length g_s1.Cells.2 54 4 (fl eCellState.en s1.Cells) :: L⟩) ?_ ?_
  ·refine r_lec (E := eTenantState) tt_ok (v := .bool x5.Placed) (idx_get hx6) (rd_row 4 rfl) ts_4 rfl (pl1 _ _ _) (by kernel_rfl)<|r_ite (fun (hb8 : (!x5.Placed) = true) => ?_) (fun (hb8 : (!x5.Placed) = false) => ?_)
   ·exact kp [(4,pp bq2 0),(5,pp bq3 0),(6,pp bq4 0),(8,.pointer (some ((adr g_s1.Tenants.1).add (e2.Tenant.toNat * 12)))),(23,.bool true),(24,undef)] fun fr => r_T rfl<|r_T rfl<|r_T rfl<|r_T rfl<|rd ⟨_,fr_eq _ (by (try rw [hb8]); kernel_rfl),by kernel_rfl⟩
   exact kp [(4,pp bq2 0),(5,pp bq3 0),(6,pp bq4 0),(8,.pointer (some ((adr g_s1.Tenants.1).add (e2.Tenant.toNat * 12)))),(23,.bool false),(24,.pointer (some ((adr g_s1.Tenants.1).add (e2.Tenant.toNat * 12))))] fun fr => r_F rfl<|r_F rfl<|r_F rfl<|r_lec (E := eTenantState) tt_ok (v := .bool x5.Shed) (idx_get hx6) (rd_row 4 rfl) ts_4 rfl (pl1 _ _ _) (by kernel_rfl)<|rd ⟨_,fr_eq _ (by (try rw [hb8]); kernel_rfl),by kernel_rfl⟩
  rintro fr S ⟨fr,rfl,rfl⟩
  refine rd ?_
  apply r_iteh h<;>clear h<;>intro h
  ·refine rb<|rc (hc_48 (e0 := 4)) ?_
   rintro _ _ ⟨A10,c11,A13,c14,rfl,rfl⟩
   refine st 2 tt_ok (en_State ((cellplaneref12_no 4).1) (⟨(A10,c11),(A13,c14)⟩)) (fn ta_38) rfl<|rd ?_
   repeat refine rd ?_
   repeat refine rd ?_
   obtain rfl := h_out h
   exact ret_of (rv_cell 2 tt_ok (by kernel_rfl) ta_38 rfl rfl (RV.tmp RV.nil)) (le_w [true,true,false,false,false,false,false,false]) ⟨A10,c11,A13,c14,rfl,rfl⟩
  refine rb<|r_mix tt_ok hm_ok _ _ [] (.pure 0 (.pure 1 (.pure 2 (.pure 3 (.vb 4 (.pure 5 (.vb 6 (.pure 7 (.pure 8 .nil))))))))) (le_w [true,true,true,true,true,true]) (le_w [true,true,true,true,true,true]) ?_ ?_
  ·decide +kernel
  refine x_p rfl<|vd<|x_p rfl<|vd<|x_p rfl<|vd<|x_p rfl<|vd<|x_vb rfl<|v_lec (E := eTenantState) tt_ok (v := ii x5.Window.Until) (idx_get hx6) (rd_row 4 rfl) ts_3 rfl (pl2 _ _ _ _) (by kernel_rfl)<|vd<|x_p rfl<|vd ?_
  refine x_vb rfl<|vl 1 tt_ok (v := ii e2.Tick) ts_3 rfl<|vd<|x_p rfl<|vd<|x_p rfl<|vd<|xk [(4,pp bq2 0),(6,pp bq4 0),(8,.pointer (some ((adr g_s1.Tenants.1).add (e2.Tenant.toNat * 12)))),(32,.bool (decide (e2.Tick < x5.Window.Until)))] fun fr => rd ?_
  apply r_iteh h<;>clear h<;>intro h
  ·refine rb<|rc (hc_48 (e0 := 9)) ?_
   rintro _ _ ⟨A17,c18,A20,c21,rfl,rfl⟩
   refine st 2 tt_ok (en_State ((cellplaneref12_no 9).1) (⟨(A17,c18),(A20,c21)⟩)) (fn ta_38) rfl<|rd ?_
   repeat refine rd ?_
   repeat refine rd ?_
   obtain rfl := h_out h
   exact ret_of (rv_cell 2 tt_ok (by kernel_rfl) ta_38 rfl rfl (RV.tmp RV.nil)) (le_w [true,true,false,false,false,false,false,false]) ⟨A17,c18,A20,c21,rfl,rfl⟩
  refine rd<|rd<|rb<|r_sec 4 (E := eTenantState) tt_ok ({ x5 with Shed := true }) (idx_get hx6) (f1 ts_4) rfl rfl (pl1 _ _ _) (by kernel_rfl) (by kernel_rfl) (List.cons_ne_nil _ _) ?_
  rw [show (en_State s1 g_s1) = (en_State ({ s1 with Tenants := (s1.Tenants.set e2.Tenant.toNat ({ x5 with Shed := true })) }) g_s1) by simp [en_State]]
  rw [← @List.length_set _ s1.Tenants e2.Tenant.toNat ({ x5 with Shed := true })]
  refine r_sec 4 (E := eTenantState) tt_ok ({ x5 with Shed := true,Target := (-1) }) (get_set (idx_get hx6) _) (f1 ts_3) rfl rfl (pl1 _ _ _) (by kernel_rfl) (by kernel_rfl) (List.cons_ne_nil _ _) ?_
  rw [show (en_State ({ s1 with Tenants := (s1.Tenants.set e2.Tenant.toNat ({ x5 with Shed := true })) }) g_s1) = (en_State ({ s1 with Tenants := ((s1.Tenants.set e2.Tenant.toNat ({ x5 with Shed := true })).set e2.Tenant.toNat ({ x5 with Shed := true,Target := (-1) })) }) g_s1) by simp [en_State]]
  rw [← @List.length_set _ (s1.Tenants.set e2.Tenant.toNat ({ x5 with Shed := true })) e2.Tenant.toNat ({ x5 with Shed := true,Target := (-1) })]
  refine rd<|rb<|ln 2 tt_ok (en_State ({ s1 with Tenants := ((s1.Tenants.set e2.Tenant.toNat ({ x5 with Shed := true })).set e2.Tenant.toNat ({ x5 with Shed := true,Target := (-1) })) }) g_s1) ta_38 rfl<|kp [(6,pp bq4 0),(50,.agg (en_State ({ s1 with Tenants := ((s1.Tenants.set e2.Tenant.toNat ({ x5 with Shed := true })).set e2.Tenant.toNat ({ x5 with Shed := true,Target := (-1) })) }) g_s1).toArray)] fun fr => st 0 tt_ok (en_State ({ s1 with Tenants := ((s1.Tenants.set e2.Tenant.toNat ({ x5 with Shed := true })).set e2.Tenant.toNat ({ x5 with Shed := true,Target := (-1) })) }) g_s1) (fn ta_38) rfl<|rd ?_
  repeat refine rd ?_
  repeat refine rd ?_
  obtain rfl := h_out h
  exact ret_of (rv_cell 0 tt_ok (by kernel_rfl) ta_38 rfl rfl (RV.tmp RV.nil)) (le_w [false,false,false,false,true,true]) ⟨g_s1.Tenants.1,g_s1.Tenants.2,g_s1.Cells.1,g_s1.Cells.2,rfl,rfl⟩
 refine rd<|rb<|rb<|rb<|r_lec (E := eTenantState) tt_ok (v := .bool x5.Shed) (idx_get hx6) (rd_row 4 rfl) ts_4 rfl (pl1 _ _ _) (by kernel_rfl)<|kp [(3,pp bq1 0),(4,pp bq2 0),(6,pp bq4 0),(8,.pointer (some ((adr g_s1.Tenants.1).add (e2.Tenant.toNat * 12)))),(55,.bool x5.Shed)] fun fr => rd ?_
 apply r_iteh h<;>clear h<;>intro h
 ·refine rb<|rc (hc_48 (e0 := 4)) ?_
  rintro _ _ ⟨A24,c25,A27,c28,rfl,rfl⟩
  refine st 2 tt_ok (en_State ((cellplaneref12_no 4).1) (⟨(A24,c25),(A27,c28)⟩)) (fn ta_38) rfl<|rd ?_
  repeat refine rd ?_
  repeat refine rd ?_
  obtain rfl := h_out h
  exact ret_of (rv_cell 2 tt_ok (by kernel_rfl) ta_38 rfl rfl (RV.tmp RV.nil)) (le_w [true,true,false,false,false,false,false,false]) ⟨A24,c25,A27,c28,rfl,rfl⟩
 refine rb<|r_mix tt_ok hm_ok _ _ [] (.pure 0 (.vb 1 (.pure 2 (.pure 3 (.pure 4 (.vb 5 (.vb 6 (.pure 7 (.vb 8 (.pure 9 (.pure 10 .nil))))))))))) (le_w [true,true,true,true,true,true]) (le_w [true,true,true,true,true,true]) ?_ ?_
 ·decide +kernel
 refine x_p rfl<|vd<|x_vb rfl<|vl 2 tt_ok (v := .slice g_s1.Cells.1 s1.Cells.length g_s1.Cells.2) ts_36 rfl<|vd<|x_p rfl<|vd<|x_p rfl<|vd<|x_p rfl<|vd<|x_vb rfl<|v_lec (E := eTenantState) tt_ok (v := ii x5.Home) (idx_get hx6) (rd_row 4 rfl) ts_3 rfl (pl1 _ _ _) (by kernel_rfl) ?_
 refine vd<|x_vb rfl ?_
 replace h := h_b h; obtain ⟨x30,hx31,h⟩ := h
 refine v_el hx31 (rd_row 5 rfl)<|vd<|xp [(3,pp bq1 0),(4,pp bq2 0),(6,pp bq4 0),(8,.pointer (some ((adr g_s1.Tenants.1).add (e2.Tenant.toNat * 12)))),(67,.pointer (some ((adr g_s1.Cells.1).add (x5.Home.toNat * 4))))] fun fr => x_p rfl<|vd<|x_vb rfl<|v_lec (E := eCellState) tt_ok (v := ii x30.Mode) (idx_get hx31) (rd_row 5 rfl) ts_3 rfl (pl1 _ _ _) (by kernel_rfl)<|vd<|x_p rfl<|vd<|x_p rfl<|vd<|xk [(3,pp bq1 0),(4,pp bq2 0),(6,pp bq4 0),(8,.pointer (some ((adr g_s1.Tenants.1).add (e2.Tenant.toNat * 12)))),(60,.bool (decide (x30.Mode = 3)))] fun fr => ?_
 refine rd ?_
 apply r_iteh h<;>clear h<;>intro h
 ·refine rb<|rc (hc_48 (e0 := 6)) ?_
  rintro _ _ ⟨A33,c34,A36,c37,rfl,rfl⟩
  refine st 2 tt_ok (en_State ((cellplaneref12_no 6).1) (⟨(A33,c34),(A36,c37)⟩)) (fn ta_38) rfl<|rd ?_
  repeat refine rd ?_
  repeat refine rd ?_
  obtain rfl := h_out h
  exact ret_of (rv_cell 2 tt_ok (by kernel_rfl) ta_38 rfl rfl (RV.tmp RV.nil)) (le_w [true,true,false,false,false,false,false,false]) ⟨A33,c34,A36,c37,rfl,rfl⟩
 refine rd<|rd<|rb<|r_sec 4 (E := eTenantState) tt_ok ({ x5 with Shed := false }) (idx_get hx6) (f1 ts_4) rfl rfl (pl1 _ _ _) (by kernel_rfl) (by kernel_rfl) (List.cons_ne_nil _ _) ?_
 rw [show (en_State s1 g_s1) = (en_State ({ s1 with Tenants := (s1.Tenants.set e2.Tenant.toNat ({ x5 with Shed := false })) }) g_s1) by simp [en_State]]
 rw [← @List.length_set _ s1.Tenants e2.Tenant.toNat ({ x5 with Shed := false })]
 refine rd<|rb<|ln 3 tt_ok (en_Config c0 g_c0) ta_30 rfl<|ln 2 tt_ok (en_State ({ s1 with Tenants := (s1.Tenants.set e2.Tenant.toNat ({ x5 with Shed := false })) }) g_s1) ta_38 rfl<|r_le ((le_mv 5).trans (le_mv 5)) ?_
 replace h := h_b h; obtain ⟨⟨x40,x41⟩,hx39,h⟩ := h
 refine rc (hc_90 (g_c0 := g_c0) (c0 := c0) (g_s1 := g_s1) (s1 := { s1 with Tenants := (s1.Tenants.set e2.Tenant.toNat ({ x5 with Shed := false })) }) (hS_c0 := by exact (le_d 4).trans hS_c0) (h_c0 :=h_c0) (h := hx39)) ?_
 rintro _ _ ⟨A42,c43,A45,c46,rfl,rfl⟩
 refine st 2 tt_ok (en_State x40 (⟨(A42,c43),(A45,c46)⟩)) (fn ta_38) rfl<|kp [(6,pp bq4 0),(81,ii x41)] fun fr => rd ?_
 repeat refine rd ?_
 repeat refine rd ?_
 obtain rfl := h_out h
 exact ret_of (rv_cell 2 tt_ok (by kernel_rfl) ta_38 rfl rfl (RV.tmp RV.nil)) (le_w [true,true,false,false,false,false]) ⟨A42,c43,A45,c46,rfl,rfl⟩
theorem hc_93 {g_s0 : gState} {S_s0 : St} (hS_s0 : Le ⟨ρ,L⟩ S_s0) (s0 : State) (v1 : Int) (h_s0 : Sl_State S_s0 s0 g_s0)  : HC Tryz.prog 93 #[.agg (en_State s0 g_s0).toArray,ii v1] ⟨ρ,L⟩ (fun v S' => v = .bool (cellplaneref12_proven s0 v1) ∧ S' = ⟨ρ,L⟩) := by
 generalize h : cellplaneref12_proven s0 v1 = r
 unfold cellplaneref12_proven at h
 refine HC.intro (N := 9) (args := [_,_]) tt_ok Tryz.func93 rfl (by decide +kernel) rfl (Nat.le_of_ble_eq_true rfl)<|rb<|r_bx (en_State s0 g_s0) (by kernel_rfl) fun bq1 => rd<|rb<|ld 0 tt_ok (v := ii s0.Proven) ts_3 rfl<|rc (hc_60 (set0 := s0.Proven) (i1 := v1)) ?_
 rintro _ _ ⟨rfl,rfl⟩
 refine rd ?_
 repeat refine rd ?_
 repeat refine rd ?_
 subst h
 exact ret_of (RV.tmp RV.nil) (le_w [false]) ⟨rfl,rfl⟩
theorem hc_64 {g_s0 : gState} {S_s0 : St} (hS_s0 : Le ⟨ρ,L⟩ S_s0) (s0 : State) (cell1 : Int) (h_s0 : Sl_State S_s0 s0 g_s0) {r : Bool} (h : cellplaneref12_open s0 cell1 = some r) : HC Tryz.prog 64 #[.agg (en_State s0 g_s0).toArray,ii cell1] ⟨ρ,L⟩ (fun v S' => v = .bool r ∧ S' = ⟨ρ,L⟩) := by
 replace h := h_in h
 refine HC.intro (N := 25) (args := [_,_]) tt_ok Tryz.func64 rfl (by decide +kernel) rfl (Nat.le_of_ble_eq_true rfl)<|rb<|r_bx (en_State s0 g_s0) (by kernel_rfl) fun bq1 => rd<|rb ?_
 replace h := h_j h; obtain ⟨K6,h,hK7⟩ := h
 refine r_meet (fun fr S => ∃ (x5 : Bool),∃ fr0,K6 x5 = some r ∧ fr = updL [(4,.bool x5)] fr0 ∧ S = ⟨ρ,L⟩) ?_ ?_
 refine r_mix tt_ok hm_ok _ _ [] (.vb 0 (.pure 1 (.vb 2 (.pure 3 (.vb 4 (.pure 5 (.vb 6 (.eff 7 (.pure 8 (.pure 9 (.vb 10 (.pure 11 (.vb 12 (.pure 13 (.vb 14 (.pure 15 (.vb 16 (.eff 17 (.pure 18 (.pure 19 (.pure 20 .nil))))))))))))))))))))) (le_w [true]) (le_w [true]) ?_ ?_
 ·decide +kernel
 refine x_vb rfl<|vn 0 tt_ok (en_State s0 g_s0) ta_38 rfl<|vd<|x_p rfl<|vd<|x_vb rfl<|vl 0 tt_ok (v := .slice g_s0.Cells.1 s0.Cells.length g_s0.Cells.2) ts_36 rfl<|vd<|xp [(1,ii cell1),(2,pp bq1 0),(4,.bool false),(5,.agg (en_State s0 g_s0).toArray),(7,.slice g_s0.Cells.1 s0.Cells.length g_s0.Cells.2)] fun fr => x_p rfl<|vd<|x_vb rfl ?_
 replace h := h_b h; obtain ⟨x2,hx3,h⟩ := h
 refine v_el hx3 ((h_s0.2).rd.mono ((le_d 1).trans hS_s0))<|vd<|x_p rfl<|vd<|x_vb rfl<|v_lec (E := eCellState) tt_ok (v := ii x2.Running) (idx_get hx3) ((h_s0.2).rd.mono ((le_d 1).trans hS_s0)) ts_3 rfl (pl1 _ _ _) (by kernel_rfl)<|vd<|x_e rfl<|rc (hc_93 (g_s0 := g_s0) (s0 := s0) (v1 := x2.Running) (hS_s0 := by exact (le_d 1).trans hS_s0) (h_s0 :=h_s0)) ?_
 rintro _ _ ⟨rfl,rfl⟩
 refine rd ⟨rfl,k_a (le_w [true]) (le_w [true]),?_⟩
 refine x_p rfl<|vd<|x_p rfl<|vd<|x_vb rfl ?_
 apply v_iteh h<;>clear h<;>intro h
 ·refine vd<|x_p rfl<|v_T rfl<|vd<|xp [(1,ii cell1),(4,.bool false),(14,.bool true),(15,undef),(16,undef)] fun fr => x_vb rfl<|v_T rfl<|vd<|x_p rfl<|v_T rfl<|vd<|x_vb rfl<|v_T rfl ?_
  refine vd<|x_p rfl<|v_T rfl<|vd<|x_vb rfl<|v_T rfl<|vd<|x_e rfl<|r_T rfl<|rd ⟨rfl,k_a (le_w [true]) (le_w [true]),?_⟩
  exact x_p rfl<|v_T rfl<|vd<|x_p rfl<|v_T rfl<|vd<|x_p rfl<|vd<|xk [(4,.bool true)] fun fr => r_le (le_w [false])<|rd ⟨true,_,h,fe _,by kernel_rfl⟩
 refine vn 0 tt_ok (en_State s0 g_s0) ta_38 rfl<|vd<|x_p rfl<|v_F rfl<|vd<|xp [(1,ii cell1),(4,.bool false),(14,.bool false),(15,.agg (en_State s0 g_s0).toArray),(16,pp bq1 3)] fun fr => x_vb rfl<|v_F rfl<|vl 0 tt_ok (v := .slice g_s0.Cells.1 s0.Cells.length g_s0.Cells.2) ts_36 rfl<|vd<|x_p rfl<|v_F rfl<|vd ?_
 refine x_vb rfl<|v_F rfl<|v_el hx3 ((h_s0.2).rd.mono ((le_d 1).trans hS_s0))<|vd<|x_p rfl<|v_F rfl<|vd<|x_vb rfl<|v_F rfl<|v_lec (E := eCellState) tt_ok (v := ii x2.Wanted) (idx_get hx3) ((h_s0.2).rd.mono ((le_d 1).trans hS_s0)) ts_3 rfl (pl1 _ _ _) (by kernel_rfl)<|vd<|x_e rfl<|r_F rfl ?_
 refine rc (hc_93 (g_s0 := g_s0) (s0 := s0) (v1 := x2.Wanted) (hS_s0 := by exact (le_d 1).trans hS_s0) (h_s0 :=h_s0)) ?_
 rintro _ _ ⟨rfl,rfl⟩
 refine rd ⟨rfl,k_a (le_w [true]) (le_w [true]),?_⟩
 exact x_p rfl<|v_F rfl<|vd<|x_p rfl<|vd<|x_p rfl<|vd<|xk [(4,.bool (!(cellplaneref12_proven s0 x2.Wanted)))] fun fr => r_le (le_w [false])<|rd ⟨!(cellplaneref12_proven s0 x2.Wanted),_,h,fe _,by kernel_rfl⟩
 clear h
 rintro fr S ⟨x5,fr,h,rfl,rfl⟩
 replace h := hK7 _ h
 refine rd ?_
 repeat refine rd ?_
 repeat refine rd ?_
 obtain rfl := h_out h
 exact ret_of (RV.tmp RV.nil) (Le.refl _) ⟨rfl,rfl⟩
end Go.Proofs.YtcdoangbkgaapaaGreatK
