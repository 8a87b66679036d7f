/- The code of 19 functions computes what it is to. No condition. -/
import Derived.Test.YtcdoangbkgaapaaGreatG3
set_option linter.unusedVariables false
set_option maxHeartbeats 4000000
namespace Go.Proofs.YtcdoangbkgaapaaGreatK
open Go Go.RowKit
variable {ρ : Addr → Option Value} {L : List Ent}
theorem hc_57 {g_c0 : gConfig} {g_s1 : gState} {S_c0 : St} (hS_c0 : Le ⟨ρ,L⟩ S_c0) (c0 : Config) (s1 : State) (e2 : Entry) (h_c0 : Sl_Config S_c0 c0 g_c0) {r : (State × Int)} (h : cellplaneref12_want c0 s1 e2 = some r) : HC Tryz.prog 57 #[.agg (en_Config c0 g_c0).toArray,.agg (en_State s1 g_s1).toArray,.agg (en_Entry e2).toArray] ⟨ρ,.row g_s1.Tenants.1 s1.Tenants.length g_s1.Tenants.2 58 12 (fl eTenantState.en s1.Tenants) :: .row g_s1.Cells.1 s1.Cells.length g_s1.Cells.2 54 4 (fl eCellState.en s1.Cells) :: L⟩ (fun v S' => ∃ (Aq1_0 : Option Addr),∃ (cq1_0 : Nat),∃ (Aq1_1 : Option Addr),∃ (cq1_1 : Nat),v = .tuple #[.agg (en_State r.1 (⟨(Aq1_0,cq1_0),(Aq1_1,cq1_1)⟩)).toArray,ii r.2] ∧ S' = ⟨ρ,.row Aq1_0 r.1.Tenants.length cq1_0 58 12 (fl eTenantState.en r.1.Tenants) :: .row Aq1_1 r.1.Cells.length cq1_1 54 4 (fl eCellState.en r.1.Cells) :: L⟩) := by
 replace h := h_in h
 refine HC.intro (N := 121) (args := [_,_,_]) tt_ok Tryz.func57 rfl (by decide +kernel) rfl (Nat.le_of_ble_eq_true rfl)<|rb<|r_bx (en_Config c0 g_c0) (by kernel_rfl) fun bq1 => r_bx (en_State s1 g_s1) (by kernel_rfl) fun bq2 => r_bx (en_Entry e2) (by kernel_rfl) fun bq3 => r_al tt_ok (en_State (⟨0,0,[],[],0,0,0,0⟩ : State) (⟨(none,0),(none,0)⟩)) ti_38 (by kernel_rfl) fun bq4 => rd<|rb<|ld 2 tt_ok (v := .slice g_s1.Cells.1 s1.Cells.length g_s1.Cells.2) ts_36 rfl<|ld 1 tt_ok (v := ii e2.Cell) ts_3 rfl<|kp [(3,pp bq1 0),(4,pp bq2 0),(5,pp bq3 0),(6,pp bq4 0),(13,.slice g_s1.Cells.1 s1.Cells.length g_s1.Cells.2),(15,ii e2.Cell)] fun fr => ?_
 replace h := h_b h; obtain ⟨x5,hx6,h⟩ := h
 refine r_el hx6 (rd_row 5 rfl)<|rd<|rb<|ld 3 tt_ok (v := .slice g_c0.Versions.1 c0.Versions.length g_c0.Versions.2) ts_28 rfl<|ld 1 tt_ok (v := ii e2.N) ts_3 rfl ?_
 replace h := h_b h; obtain ⟨x7,hx8,h⟩ := h
 refine r_el hx8 ((h_c0.2.2.2.1).rd.mono ((le_d 6).trans hS_c0))<|r_len (E := eVersion) tt_ok (en_Version x7) (idx_get hx8) ((h_c0.2.2.2.1).rd.mono ((le_d 6).trans hS_c0)) ta_79 rfl (pl0 _ _) (by kernel_rfl) (by kernel_rfl)<|r_al tt_ok (en_Version (⟨0,0⟩ : Version)) ti_79 (by kernel_rfl) fun bq9 => kp [(3,pp bq1 0),(4,pp bq2 0),(5,pp bq3 0),(6,pp bq4 0),(8,.pointer (some ((adr g_s1.Cells.1).add (e2.Cell.toNat * 4)))),(9,pp bq9 0),(22,.agg (en_Version x7).toArray)] fun fr => st 0 tt_ok (en_Version x7) (fn ta_79) rfl<|rd<|rb<|rd<|rb ?_
 replace h := h_j h; obtain ⟨K45,h,hK46⟩ := h
 refine r_meet (fun fr S => ∃ (x44 : Int),∃ fr0,K45 x44 = some r ∧ fr = updL [(3,pp bq1 0),(4,pp bq2 0),(5,pp bq3 0),(6,pp bq4 0),(8,.pointer (some ((adr g_s1.Cells.1).add (e2.Cell.toNat * 4)))),(9,pp bq9 0),(10,ii x44)] fr0 ∧ S = ⟨ρ,.obj bq9 (en_Version x7) 79 :: .obj bq4 (en_State (⟨0,0,[],[],0,0,0,0⟩ : State) (⟨(none,0),(none,0)⟩)) 38 :: .obj bq3 (en_Entry e2) 45 :: .obj bq2 (en_State s1 g_s1) 38 :: .obj bq1 (en_Config c0 g_c0) 30 :: .row g_s1.Tenants.1 s1.Tenants.length g_s1.Tenants.2 58 12 (fl eTenantState.en s1.Tenants) :: .row g_s1.Cells.1 s1.Cells.length g_s1.Cells.2 54 4 (fl eCellState.en s1.Cells) :: L⟩) ?_ ?_
 ·refine rb<|rd<|rb ?_
  replace h := h_l h; obtain ⟨K40,n41,h,hK42⟩ := h
  refine r_loop (fun n fr S => ∃ (x30 : Int),∃ (x31 : Int),∃ fr0,(runN (cellplaneref12_want.b2 s1 e2) n (x30,x31)).bind K40 = some r ∧ fr = updL [(3,pp bq1 0),(4,pp bq2 0),(5,pp bq3 0),(6,pp bq4 0),(8,.pointer (some ((adr g_s1.Cells.1).add (e2.Cell.toNat * 4)))),(9,pp bq9 0),(10,ii x30),(11,ii x31)] fr0 ∧ S = ⟨ρ,.obj bq9 (en_Version x7) 79 :: .obj bq4 (en_State (⟨0,0,[],[],0,0,0,0⟩ : State) (⟨(none,0),(none,0)⟩)) 38 :: .obj bq3 (en_Entry e2) 45 :: .obj bq2 (en_State s1 g_s1) 38 :: .obj bq1 (en_Config c0 g_c0) 30 :: .row g_s1.Tenants.1 s1.Tenants.length g_s1.Tenants.2 58 12 (fl eTenantState.en s1.Tenants) :: .row g_s1.Cells.1 s1.Cells.length g_s1.Cells.2 54 4 (fl eCellState.en s1.Cells) :: L⟩) n41 ⟨0,0,_,h,fe _,by kernel_rfl⟩ ?_
  clear h
  rintro n41 fr S ⟨x30,x31,fr,h,rfl,rfl⟩
  replace h := h_r h; obtain ⟨m43,hm43,h⟩ := h
  refine rb<|rb<|ld 3 tt_ok (v := .slice g_s1.Cells.1 s1.Cells.length g_s1.Cells.2) ts_36 rfl<|rd ?_
  apply r_iteh h<;>clear h<;>intro h
  ·refine rd<|rb<|rb<|rb ?_
   replace h := h_j h; obtain ⟨K37,h,hK38⟩ := h
   refine r_meet (fun fr S => ∃ (x36 : Bool),∃ fr0,K37 x36 = some r ∧ fr = updL [(3,pp bq1 0),(4,pp bq2 0),(5,pp bq3 0),(6,pp bq4 0),(8,.pointer (some ((adr g_s1.Cells.1).add (e2.Cell.toNat * 4)))),(9,pp bq9 0),(10,ii x30),(11,ii x31),(38,.bool x36)] fr0 ∧ S = ⟨ρ,.obj bq9 (en_Version x7) 79 :: .obj bq4 (en_State (⟨0,0,[],[],0,0,0,0⟩ : State) (⟨(none,0),(none,0)⟩)) 38 :: .obj bq3 (en_Entry e2) 45 :: .obj bq2 (en_State s1 g_s1) 38 :: .obj bq1 (en_Config c0 g_c0) 30 :: .row g_s1.Tenants.1 s1.Tenants.length g_s1.Tenants.2 58 12 (fl eTenantState.en s1.Tenants) :: .row g_s1.Cells.1 s1.Cells.length g_s1.Cells.2 54 4 (fl eCellState.en s1.Cells) :: L⟩) ?_ ?_
   ·refine ld 2 tt_ok (v := ii e2.Cell) ts_3 rfl ?_
    apply r_iteh h<;>clear h<;>intro h
    ·refine ln 3 tt_ok (en_State s1 g_s1) ta_38 rfl<|kp [(3,pp bq1 0),(4,pp bq2 0),(5,pp bq3 0),(6,pp bq4 0),(8,.pointer (some ((adr g_s1.Cells.1).add (e2.Cell.toNat * 4)))),(9,pp bq9 0),(10,ii x30),(11,ii x31),(34,.bool true),(35,.agg (en_State s1 g_s1).toArray)] fun fr => r_T rfl<|r_T rfl ?_
     replace h := h_b h; obtain ⟨x35,hx34,h⟩ := h
     refine rc (hc_64 (g_s0 := g_s1) (s0 := s1) (cell1 := x31) (hS_s0 := by exact Le.refl _) (h_s0 := by exact ⟨sl_row 5 rfl,sl_row 6 rfl⟩) (h := hx34)) ?_
     rintro _ _ ⟨rfl,rfl⟩
     exact rd ⟨x35,_,h,fe _,by kernel_rfl⟩
    exact kp [(3,pp bq1 0),(4,pp bq2 0),(5,pp bq3 0),(6,pp bq4 0),(8,.pointer (some ((adr g_s1.Cells.1).add (e2.Cell.toNat * 4)))),(9,pp bq9 0),(10,ii x30),(11,ii x31),(34,.bool false),(35,undef)] fun fr => r_F rfl<|r_F rfl<|r_F rfl<|rd ⟨false,_,h,fe _,by kernel_rfl⟩
   clear h
   rintro fr S ⟨x36,fr,h,rfl,rfl⟩
   replace h := hK38 _ h
   refine rd ?_
   apply r_iteh h<;>clear h<;>intro h
   ·exact r_num (e' := w64 (x30 + 1)) rfl<|rd<|rd<|r_num (e' := w64 (x31 + 1)) rfl<|rd ⟨m43,lt_s hm43,w64 (x30 + 1),w64 (x31 + 1),_,h,fe _,by kernel_rfl⟩
   exact rd<|rd<|r_num (e' := w64 (x31 + 1)) rfl<|rd ⟨m43,lt_s hm43,x30,w64 (x31 + 1),_,h,fe _,by kernel_rfl⟩
  refine rd<|rd ?_
  replace h := h_m h
  subst hK42
  exact rd ⟨x30,_,h,fe _,by kernel_rfl⟩
 clear h
 rintro fr S ⟨x44,fr,h,rfl,rfl⟩
 replace h := hK46 _ h
 refine rd<|rb<|rb<|rb<|r_mix tt_ok hm_ok _ _ [] (.pure 0 (.pure 1 (.pure 2 (.vb 3 (.pure 4 (.vb 5 (.pure 6 (.pure 7 .nil)))))))) (le_w [true,true,true,true,true,true,true]) (le_w [true,true,true,true,true,true,true]) ?_ ?_
 ·decide +kernel
 refine x_p rfl<|vd<|x_p rfl<|vd<|x_p rfl<|vd<|x_vb rfl<|v_lec (E := eCellState) tt_ok (v := ii x5.Wanted) (idx_get hx6) (rd_row 6 rfl) ts_3 rfl (pl1 _ _ _) (by kernel_rfl)<|vd<|x_p rfl<|vd<|x_vb rfl<|vl 2 tt_ok (v := ii e2.N) ts_3 rfl ?_
 refine vd<|x_p rfl<|vd<|x_p rfl<|vd<|xk [(3,pp bq1 0),(4,pp bq2 0),(5,pp bq3 0),(6,pp bq4 0),(8,.pointer (some ((adr g_s1.Cells.1).add (e2.Cell.toNat * 4)))),(9,pp bq9 0),(10,ii x44),(41,.bool (decide (x5.Wanted = e2.N)))] fun fr => rd ?_
 apply r_iteh h<;>clear h<;>intro h
 ·refine rb<|rc (hc_48 (e0 := 4)) ?_
  rintro _ _ ⟨A48,c49,A51,c52,rfl,rfl⟩
  refine st 3 tt_ok (en_State ((cellplaneref12_no 4).1) (⟨(A48,c49),(A51,c52)⟩)) (fn ta_38) rfl<|rd ?_
  repeat refine rd ?_
  repeat refine rd ?_
  obtain rfl := h_out h
  exact ret_of (rv_cell 3 tt_ok (by kernel_rfl) ta_38 rfl rfl (RV.tmp RV.nil)) (le_w [true,true,false,false,false,false,false,false,false]) ⟨A48,c49,A51,c52,rfl,rfl⟩
 refine rb<|r_meet (fun fr S => ∃ fr0,fr = updL [(3,pp bq1 0),(4,pp bq2 0),(5,pp bq3 0),(6,pp bq4 0),(8,.pointer (some ((adr g_s1.Cells.1).add (e2.Cell.toNat * 4)))),(10,ii x44),(52,.bool ((decide (s1.Low < x7.Low)) || (decide (x7.High < s1.High))))] fr0 ∧ S = ⟨ρ,.obj bq9 (en_Version x7) 79 :: .obj bq4 (en_State (⟨0,0,[],[],0,0,0,0⟩ : State) (⟨(none,0),(none,0)⟩)) 38 :: .obj bq3 (en_Entry e2) 45 :: .obj bq2 (en_State s1 g_s1) 38 :: .obj bq1 (en_Config c0 g_c0) 30 :: .row g_s1.Tenants.1 s1.Tenants.length g_s1.Tenants.2 58 12 (fl eTenantState.en s1.Tenants) :: .row g_s1.Cells.1 s1.Cells.length g_s1.Cells.2 54 4 (fl eCellState.en s1.Cells) :: L⟩) ?_ ?_
 ·refine ld 0 tt_ok (v := ii x7.Low) ts_3 rfl<|kp [(3,pp bq1 0),(4,pp bq2 0),(5,pp bq3 0),(6,pp bq4 0),(8,.pointer (some ((adr g_s1.Cells.1).add (e2.Cell.toNat * 4)))),(9,pp bq9 0),(10,ii x44),(54,ii x7.Low)] fun fr => ld 3 tt_ok (v := ii s1.Low) ts_3 rfl<|r_ite (fun (hb54 : (decide (s1.Low < x7.Low)) = true) => ?_) (fun (hb54 : (decide (s1.Low < x7.Low)) = false) => ?_)
  ·exact r_T rfl<|r_T rfl<|r_T rfl<|r_T rfl<|kp [(3,pp bq1 0),(4,pp bq2 0),(5,pp bq3 0),(6,pp bq4 0),(8,.pointer (some ((adr g_s1.Cells.1).add (e2.Cell.toNat * 4)))),(10,ii x44),(58,.bool true),(63,undef)] fun fr => r_T rfl<|rd ⟨_,fr_eq _ (by (try rw [hb54]); kernel_rfl),by kernel_rfl⟩
  exact r_F rfl<|ld 0 tt_ok (v := ii x7.High) ts_3 rfl<|r_F rfl<|r_F rfl<|ld 3 tt_ok (v := ii s1.High) ts_3 rfl<|r_F rfl<|kp [(3,pp bq1 0),(4,pp bq2 0),(5,pp bq3 0),(6,pp bq4 0),(8,.pointer (some ((adr g_s1.Cells.1).add (e2.Cell.toNat * 4)))),(10,ii x44),(58,.bool false),(63,.bool (decide (x7.High < s1.High)))] fun fr => rd ⟨_,fr_eq _ (by (try rw [hb54]); kernel_rfl),by kernel_rfl⟩
 rintro fr S ⟨fr,rfl,rfl⟩
 refine rd ?_
 apply r_iteh h<;>clear h<;>intro h
 ·refine rb<|rc (hc_48 (e0 := 13)) ?_
  rintro _ _ ⟨A56,c57,A59,c60,rfl,rfl⟩
  refine st 3 tt_ok (en_State ((cellplaneref12_no 13).1) (⟨(A56,c57),(A59,c60)⟩)) (fn ta_38) rfl<|rd ?_
  repeat refine rd ?_
  repeat refine rd ?_
  obtain rfl := h_out h
  exact ret_of (rv_cell 3 tt_ok (by kernel_rfl) ta_38 rfl rfl (RV.tmp RV.nil)) (le_w [true,true,false,false,false,false,false,false,false]) ⟨A56,c57,A59,c60,rfl,rfl⟩
 refine rb<|r_meet (fun fr S => ∃ fr0,fr = updL [(3,pp bq1 0),(4,pp bq2 0),(5,pp bq3 0),(6,pp bq4 0),(8,.pointer (some ((adr g_s1.Cells.1).add (e2.Cell.toNat * 4)))),(10,ii x44),(68,.bool ((!decide (e2.N = x5.Running)) && ((!(cellplaneref12_proven s1 e2.N)) && (!decide (s1.Evacuating = 0)))))] fr0 ∧ S = ⟨ρ,.obj bq9 (en_Version x7) 79 :: .obj bq4 (en_State (⟨0,0,[],[],0,0,0,0⟩ : State) (⟨(none,0),(none,0)⟩)) 38 :: .obj bq3 (en_Entry e2) 45 :: .obj bq2 (en_State s1 g_s1) 38 :: .obj bq1 (en_Config c0 g_c0) 30 :: .row g_s1.Tenants.1 s1.Tenants.length g_s1.Tenants.2 58 12 (fl eTenantState.en s1.Tenants) :: .row g_s1.Cells.1 s1.Cells.length g_s1.Cells.2 54 4 (fl eCellState.en s1.Cells) :: L⟩) ?_ ?_
 refine r_mix tt_ok hm_ok _ _ [] (.pure 0 (.vb 1 (.pure 2 (.pure 3 (.pure 4 (.vb 5 (.pure 6 (.pure 7 (.vb 8 (.pure 9 (.vb 10 (.eff 11 (.pure 12 (.pure 13 (.pure 14 (.pure 15 (.vb 16 (.pure 17 (.pure 18 (.pure 19 .nil)))))))))))))))))))) (le_w [true,true,true,true,true,true,true]) (le_w [true,true,true,true,true,true,true]) ?_ ?_
 ·decide +kernel
 refine xp [(3,pp bq1 0),(4,pp bq2 0),(5,pp bq3 0),(6,pp bq4 0),(8,.pointer (some ((adr g_s1.Cells.1).add (e2.Cell.toNat * 4)))),(10,ii x44)] fun fr => x_p rfl<|vd<|x_vb rfl<|vl 2 tt_ok (v := ii e2.N) ts_3 rfl<|vd<|x_p rfl<|vd<|x_p rfl<|vd<|x_p rfl<|vd<|x_vb rfl ?_
 refine v_lec (E := eCellState) tt_ok (v := ii x5.Running) (idx_get hx6) (rd_row 6 rfl) ts_3 rfl (pl1 _ _ _) (by kernel_rfl)<|vd<|x_p rfl<|vd<|x_p rfl<|vd<|x_vb rfl<|v_ite (fun (hb62 : (!decide (e2.N = x5.Running)) = true) => ?_) (fun (hb62 : (!decide (e2.N = x5.Running)) = false) => ?_)
 ·refine vn 3 tt_ok (en_State s1 g_s1) ta_38 rfl<|vd<|xp [(3,pp bq1 0),(4,pp bq2 0),(5,pp bq3 0),(6,pp bq4 0),(8,.pointer (some ((adr g_s1.Cells.1).add (e2.Cell.toNat * 4)))),(10,ii x44),(76,.bool true),(77,.agg (en_State s1 g_s1).toArray)] fun fr => x_p rfl<|v_T rfl<|vd<|x_vb rfl<|v_T rfl<|vl 2 tt_ok (v := ii e2.N) ts_3 rfl<|vd<|x_e rfl<|r_T rfl<|rc (hc_93 (g_s0 := g_s1) (s0 := s1) (v1 := e2.N) (hS_s0 := by exact Le.refl _) (h_s0 := by exact ⟨sl_row 5 rfl,sl_row 6 rfl⟩)) ?_
  rintro _ _ ⟨rfl,rfl⟩
  refine rd ⟨rfl,k_a (le_w [true,true,true,true,true,true,true]) (le_w [true,true,true,true,true,true,true]),?_⟩
  refine x_p rfl<|v_T rfl<|vd<|x_p rfl<|vd<|x_p rfl<|vd<|x_p rfl<|v_ite (fun (hb63 : (!(cellplaneref12_proven s1 e2.N)) = true) => ?_) (fun (hb63 : (!(cellplaneref12_proven s1 e2.N)) = false) => ?_)
  ·refine vd<|x_vb rfl<|v_T rfl<|vl 3 tt_ok (v := ii s1.Evacuating) ts_3 rfl<|vd<|x_p rfl<|v_T rfl<|vd<|xp [(3,pp bq1 0),(4,pp bq2 0),(5,pp bq3 0),(6,pp bq4 0),(8,.pointer (some ((adr g_s1.Cells.1).add (e2.Cell.toNat * 4)))),(10,ii x44),(83,.bool true),(86,.bool (!decide (s1.Evacuating = 0)))] fun fr => x_p rfl<|vd<|x_p rfl<|vd ?_
   exact xk [(3,pp bq1 0),(4,pp bq2 0),(5,pp bq3 0),(6,pp bq4 0),(8,.pointer (some ((adr g_s1.Cells.1).add (e2.Cell.toNat * 4)))),(10,ii x44),(68,.bool (!decide (s1.Evacuating = 0)))] fun fr => rd ⟨_,fr_eq _ (by (try rw [hb63]); (try rw [hb62]); kernel_rfl),by kernel_rfl⟩
  refine vd<|x_vb rfl<|v_F rfl<|vd<|x_p rfl<|v_F rfl<|vd<|xp [(3,pp bq1 0),(4,pp bq2 0),(5,pp bq3 0),(6,pp bq4 0),(8,.pointer (some ((adr g_s1.Cells.1).add (e2.Cell.toNat * 4)))),(10,ii x44),(83,.bool false),(86,undef)] fun fr => x_p rfl<|v_F rfl<|vd<|x_p rfl<|vd ?_
  exact xk [(3,pp bq1 0),(4,pp bq2 0),(5,pp bq3 0),(6,pp bq4 0),(8,.pointer (some ((adr g_s1.Cells.1).add (e2.Cell.toNat * 4)))),(10,ii x44),(68,.bool false)] fun fr => rd ⟨_,fr_eq _ (by (try rw [hb63]); (try rw [hb62]); kernel_rfl),by kernel_rfl⟩
 refine vd<|xp [(3,pp bq1 0),(4,pp bq2 0),(5,pp bq3 0),(6,pp bq4 0),(8,.pointer (some ((adr g_s1.Cells.1).add (e2.Cell.toNat * 4)))),(10,ii x44),(76,.bool false),(77,undef)] fun fr => x_p rfl<|v_F rfl<|vd<|x_vb rfl<|v_F rfl<|vd<|x_e rfl<|r_F rfl<|rd ⟨rfl,k_a (le_w [true,true,true,true,true,true,true]) (le_w [true,true,true,true,true,true,true]),?_⟩
 refine x_p rfl<|v_F rfl<|vd<|x_p rfl<|v_F rfl<|vd<|x_p rfl<|vd<|x_p rfl<|v_F rfl<|vd<|x_vb rfl<|v_F rfl ?_
 exact vd<|x_p rfl<|v_F rfl<|vd<|xp [(3,pp bq1 0),(4,pp bq2 0),(5,pp bq3 0),(6,pp bq4 0),(8,.pointer (some ((adr g_s1.Cells.1).add (e2.Cell.toNat * 4)))),(10,ii x44),(83,.bool false),(86,undef)] fun fr => x_p rfl<|v_F rfl<|vd<|x_p rfl<|vd<|xk [(3,pp bq1 0),(4,pp bq2 0),(5,pp bq3 0),(6,pp bq4 0),(8,.pointer (some ((adr g_s1.Cells.1).add (e2.Cell.toNat * 4)))),(10,ii x44),(68,.bool false)] fun fr => rd ⟨_,fr_eq _ (by (try rw [hb62]); kernel_rfl),by kernel_rfl⟩
 rintro fr S ⟨fr,rfl,rfl⟩
 refine rd ?_
 apply r_iteh h<;>clear h<;>intro h
 ·refine rb<|rc (hc_48 (e0 := 12)) ?_
  rintro _ _ ⟨A65,c66,A68,c69,rfl,rfl⟩
  refine st 3 tt_ok (en_State ((cellplaneref12_no 12).1) (⟨(A65,c66),(A68,c69)⟩)) (fn ta_38) rfl<|rd ?_
  repeat refine rd ?_
  repeat refine rd ?_
  obtain rfl := h_out h
  exact ret_of (rv_cell 3 tt_ok (by kernel_rfl) ta_38 rfl rfl (RV.tmp RV.nil)) (le_w [true,true,false,false,false,false,false,false,false]) ⟨A65,c66,A68,c69,rfl,rfl⟩
 refine rb<|r_meet (fun fr S => ∃ fr0,fr = updL [(4,pp bq2 0),(5,pp bq3 0),(6,pp bq4 0),(8,.pointer (some ((adr g_s1.Cells.1).add (e2.Cell.toNat * 4)))),(91,.bool ((!decide (e2.N = x5.Running)) && ((!(cellplaneref12_proven s1 e2.N)) && (decide (c0.Blast ≤ x44)))))] fr0 ∧ S = ⟨ρ,.obj bq9 (en_Version x7) 79 :: .obj bq4 (en_State (⟨0,0,[],[],0,0,0,0⟩ : State) (⟨(none,0),(none,0)⟩)) 38 :: .obj bq3 (en_Entry e2) 45 :: .obj bq2 (en_State s1 g_s1) 38 :: .obj bq1 (en_Config c0 g_c0) 30 :: .row g_s1.Tenants.1 s1.Tenants.length g_s1.Tenants.2 58 12 (fl eTenantState.en s1.Tenants) :: .row g_s1.Cells.1 s1.Cells.length g_s1.Cells.2 54 4 (fl eCellState.en s1.Cells) :: L⟩) ?_ ?_
 refine r_mix tt_ok hm_ok _ _ [] (.pure 0 (.vb 1 (.pure 2 (.pure 3 (.pure 4 (.vb 5 (.pure 6 (.pure 7 (.vb 8 (.pure 9 (.vb 10 (.eff 11 (.pure 12 (.pure 13 (.pure 14 (.pure 15 (.pure 16 (.vb 17 (.pure 18 (.pure 19 (.pure 20 .nil))))))))))))))))))))) (le_w [true,true,true,true,true,true,true]) (le_w [true,true,true,true,true,true,true]) ?_ ?_
 ·decide +kernel
 refine xp [(3,pp bq1 0),(4,pp bq2 0),(5,pp bq3 0),(6,pp bq4 0),(8,.pointer (some ((adr g_s1.Cells.1).add (e2.Cell.toNat * 4)))),(10,ii x44)] fun fr => x_p rfl<|vd<|x_vb rfl<|vl 2 tt_ok (v := ii e2.N) ts_3 rfl<|vd<|x_p rfl<|vd<|x_p rfl<|vd<|x_p rfl<|vd<|x_vb rfl ?_
 refine v_lec (E := eCellState) tt_ok (v := ii x5.Running) (idx_get hx6) (rd_row 6 rfl) ts_3 rfl (pl1 _ _ _) (by kernel_rfl)<|vd<|x_p rfl<|vd<|x_p rfl<|vd<|x_vb rfl<|v_ite (fun (hb71 : (!decide (e2.N = x5.Running)) = true) => ?_) (fun (hb71 : (!decide (e2.N = x5.Running)) = false) => ?_)
 ·refine vn 3 tt_ok (en_State s1 g_s1) ta_38 rfl<|vd<|xp [(3,pp bq1 0),(4,pp bq2 0),(5,pp bq3 0),(6,pp bq4 0),(8,.pointer (some ((adr g_s1.Cells.1).add (e2.Cell.toNat * 4)))),(10,ii x44),(99,.bool true),(100,.agg (en_State s1 g_s1).toArray)] fun fr => x_p rfl<|v_T rfl<|vd<|x_vb rfl<|v_T rfl<|vl 2 tt_ok (v := ii e2.N) ts_3 rfl<|vd<|x_e rfl<|r_T rfl<|rc (hc_93 (g_s0 := g_s1) (s0 := s1) (v1 := e2.N) (hS_s0 := by exact Le.refl _) (h_s0 := by exact ⟨sl_row 5 rfl,sl_row 6 rfl⟩)) ?_
  rintro _ _ ⟨rfl,rfl⟩
  refine rd ⟨rfl,k_a (le_w [true,true,true,true,true,true,true]) (le_w [true,true,true,true,true,true,true]),?_⟩
  refine x_p rfl<|v_T rfl<|vd<|x_p rfl<|vd<|x_p rfl<|vd<|x_p rfl<|v_ite (fun (hb72 : (!(cellplaneref12_proven s1 e2.N)) = true) => ?_) (fun (hb72 : (!(cellplaneref12_proven s1 e2.N)) = false) => ?_)
  ·refine vd<|x_p rfl<|v_T rfl<|vd<|x_vb rfl<|v_T rfl<|vl 4 tt_ok (v := ii c0.Blast) ts_3 rfl<|vd<|xp [(4,pp bq2 0),(5,pp bq3 0),(6,pp bq4 0),(8,.pointer (some ((adr g_s1.Cells.1).add (e2.Cell.toNat * 4)))),(106,.bool true),(107,ii x44),(109,ii c0.Blast)] fun fr => x_p rfl<|v_T rfl<|vd<|x_p rfl ?_
   exact vd<|x_p rfl<|vd<|xk [(4,pp bq2 0),(5,pp bq3 0),(6,pp bq4 0),(8,.pointer (some ((adr g_s1.Cells.1).add (e2.Cell.toNat * 4)))),(91,.bool (decide (c0.Blast ≤ x44)))] fun fr => rd ⟨_,fr_eq _ (by (try rw [hb72]); (try rw [hb71]); kernel_rfl),by kernel_rfl⟩
  refine vd<|x_p rfl<|v_F rfl<|vd<|x_vb rfl<|v_F rfl<|vd<|xp [(4,pp bq2 0),(5,pp bq3 0),(6,pp bq4 0),(8,.pointer (some ((adr g_s1.Cells.1).add (e2.Cell.toNat * 4)))),(106,.bool false),(107,undef),(109,undef)] fun fr => x_p rfl<|v_F rfl<|vd<|x_p rfl<|v_F rfl ?_
  exact vd<|x_p rfl<|vd<|xk [(4,pp bq2 0),(5,pp bq3 0),(6,pp bq4 0),(8,.pointer (some ((adr g_s1.Cells.1).add (e2.Cell.toNat * 4)))),(91,.bool false)] fun fr => rd ⟨_,fr_eq _ (by (try rw [hb72]); (try rw [hb71]); kernel_rfl),by kernel_rfl⟩
 refine vd<|xp [(3,pp bq1 0),(4,pp bq2 0),(5,pp bq3 0),(6,pp bq4 0),(8,.pointer (some ((adr g_s1.Cells.1).add (e2.Cell.toNat * 4)))),(10,ii x44),(99,.bool false),(100,undef)] fun fr => x_p rfl<|v_F rfl<|vd<|x_vb rfl<|v_F rfl<|vd<|x_e rfl<|r_F rfl<|rd ⟨rfl,k_a (le_w [true,true,true,true,true,true,true]) (le_w [true,true,true,true,true,true,true]),?_⟩
 refine x_p rfl<|v_F rfl<|vd<|x_p rfl<|v_F rfl<|vd<|x_p rfl<|vd<|x_p rfl<|v_F rfl<|vd<|x_p rfl<|v_F rfl ?_
 refine vd<|x_vb rfl<|v_F rfl<|vd<|xp [(4,pp bq2 0),(5,pp bq3 0),(6,pp bq4 0),(8,.pointer (some ((adr g_s1.Cells.1).add (e2.Cell.toNat * 4)))),(106,.bool false),(107,undef),(109,undef)] fun fr => x_p rfl<|v_F rfl<|vd<|x_p rfl<|v_F rfl<|vd<|x_p rfl<|vd ?_
 exact xk [(4,pp bq2 0),(5,pp bq3 0),(6,pp bq4 0),(8,.pointer (some ((adr g_s1.Cells.1).add (e2.Cell.toNat * 4)))),(91,.bool false)] fun fr => rd ⟨_,fr_eq _ (by (try rw [hb71]); kernel_rfl),by kernel_rfl⟩
 rintro fr S ⟨fr,rfl,rfl⟩
 refine rd ?_
 apply r_iteh h<;>clear h<;>intro h
 ·refine rb<|rc (hc_48 (e0 := 14)) ?_
  rintro _ _ ⟨A74,c75,A77,c78,rfl,rfl⟩
  refine st 3 tt_ok (en_State ((cellplaneref12_no 14).1) (⟨(A74,c75),(A77,c78)⟩)) (fn ta_38) rfl<|rd ?_
  repeat refine rd ?_
  repeat refine rd ?_
  obtain rfl := h_out h
  exact ret_of (rv_cell 3 tt_ok (by kernel_rfl) ta_38 rfl rfl (RV.tmp RV.nil)) (le_w [true,true,false,false,false,false,false,false,false]) ⟨A74,c75,A77,c78,rfl,rfl⟩
 refine rd<|rd<|rb<|ld 2 tt_ok (v := ii e2.N) ts_3 rfl<|r_sec 6 (E := eCellState) tt_ok ({ x5 with Wanted := e2.N }) (idx_get hx6) (f1 ts_3) rfl rfl (pl1 _ _ _) (by kernel_rfl) (by kernel_rfl) (List.cons_ne_nil _ _) ?_
 rw [show (en_State s1 g_s1) = (en_State ({ s1 with Cells := (s1.Cells.set e2.Cell.toNat ({ x5 with Wanted := e2.N })) }) g_s1) by simp [en_State]]
 rw [← @List.length_set _ s1.Cells e2.Cell.toNat ({ x5 with Wanted := e2.N })]
 refine rd<|rb<|ln 3 tt_ok (en_State ({ s1 with Cells := (s1.Cells.set e2.Cell.toNat ({ x5 with Wanted := e2.N })) }) g_s1) ta_38 rfl<|st 1 tt_ok (en_State ({ s1 with Cells := (s1.Cells.set e2.Cell.toNat ({ x5 with Wanted := e2.N })) }) g_s1) (fn ta_38) rfl<|kr [(6,pp bq4 0),(7,ii 0)] fun fr => rd ?_
 repeat refine rd ?_
 repeat refine rd ?_
 obtain rfl := h_out h
 exact ret_of (rv_cell 1 tt_ok (by kernel_rfl) ta_38 rfl rfl (RV.tmp RV.nil)) (le_w [false,false,false,false,false,true,true]) ⟨g_s1.Tenants.1,g_s1.Tenants.2,g_s1.Cells.1,g_s1.Cells.2,rfl,rfl⟩
theorem hc_58 {g_s0 : gState}  (s0 : State) (e1 : Entry)  {r : (State × Int)} (h : cellplaneref12_runs s0 e1 = some r) : HC Tryz.prog 58 #[.agg (en_State s0 g_s0).toArray,.agg (en_Entry e1).toArray] ⟨ρ,.row g_s0.Tenants.1 s0.Tenants.length g_s0.Tenants.2 58 12 (fl eTenantState.en s0.Tenants) :: .row g_s0.Cells.1 s0.Cells.length g_s0.Cells.2 54 4 (fl eCellState.en s0.Cells) :: L⟩ (fun v S' => ∃ (Aq1_0 : Option Addr),∃ (cq1_0 : Nat),∃ (Aq1_1 : Option Addr),∃ (cq1_1 : Nat),v = .tuple #[.agg (en_State r.1 (⟨(Aq1_0,cq1_0),(Aq1_1,cq1_1)⟩)).toArray,ii r.2] ∧ S' = ⟨ρ,.row Aq1_0 r.1.Tenants.length cq1_0 58 12 (fl eTenantState.en r.1.Tenants) :: .row Aq1_1 r.1.Cells.length cq1_1 54 4 (fl eCellState.en r.1.Cells) :: L⟩) := by
 replace h := h_in h
 refine HC.intro (N := 89) (args := [_,_]) tt_ok Tryz.func58 rfl (by decide +kernel) rfl (Nat.le_of_ble_eq_true rfl)<|rb<|r_bx (en_State s0 g_s0) (by kernel_rfl) fun bq1 => r_bx (en_Entry e1) (by kernel_rfl) fun bq2 => r_al tt_ok (en_State (⟨0,0,[],[],0,0,0,0⟩ : State) (⟨(none,0),(none,0)⟩)) ti_38 (by kernel_rfl) fun bq3 => rd<|rb<|ld 2 tt_ok (v := .slice g_s0.Cells.1 s0.Cells.length g_s0.Cells.2) ts_36 rfl<|ld 1 tt_ok (v := ii e1.Cell) ts_3 rfl ?_
 replace h := h_b h; obtain ⟨x4,hx5,h⟩ := h
 refine r_el hx5 (rd_row 4 rfl)<|kp [(2,pp bq1 0),(3,pp bq2 0),(4,pp bq3 0),(13,.pointer (some ((adr g_s0.Cells.1).add (e1.Cell.toNat * 4))))] fun fr => rd<|rb<|rb<|rb<|r_meet (fun fr S => ∃ fr0,fr = updL [(2,pp bq1 0),(3,pp bq2 0),(4,pp bq3 0),(6,.pointer (some ((adr g_s0.Cells.1).add (e1.Cell.toNat * 4)))),(14,.bool ((!decide (e1.N = x4.Wanted)) || (decide (x4.Running = x4.Wanted))))] fr0 ∧ S = ⟨ρ,.obj bq3 (en_State (⟨0,0,[],[],0,0,0,0⟩ : State) (⟨(none,0),(none,0)⟩)) 38 :: .obj bq2 (en_Entry e1) 45 :: .obj bq1 (en_State s0 g_s0) 38 :: .row g_s0.Tenants.1 s0.Tenants.length g_s0.Tenants.2 58 12 (fl eTenantState.en s0.Tenants) :: .row g_s0.Cells.1 s0.Cells.length g_s0.Cells.2 54 4 (fl eCellState.en s0.Cells) :: L⟩) ?_ ?_
 refine r_mix tt_ok hm_ok _ _ [] (.pure 0 (.vb 1 (.pure 2 (.pure 3 (.pure 4 (.vb 5 (.pure 6 (.pure 7 (.pure 8 (.pure 9 (.pure 10 (.vb 11 (.pure 12 (.pure 13 (.pure 14 (.vb 15 (.pure 16 (.pure 17 (.pure 18 .nil))))))))))))))))))) (le_w [true,true,true,true,true]) (le_w [true,true,true,true,true]) ?_ ?_
 ·decide +kernel
 refine x_p rfl<|vd<|x_vb rfl<|vl 1 tt_ok (v := ii e1.N) ts_3 rfl<|vd<|x_p rfl<|vd<|x_p rfl<|vd<|x_p rfl<|vd<|x_vb rfl<|v_lec (E := eCellState) tt_ok (v := ii x4.Wanted) (idx_get hx5) (rd_row 4 rfl) ts_3 rfl (pl1 _ _ _) (by kernel_rfl) ?_
 refine vd<|x_p rfl<|vd<|x_p rfl<|vd<|xp [(2,pp bq1 0),(3,pp bq2 0),(4,pp bq3 0),(6,.pointer (some ((adr g_s0.Cells.1).add (e1.Cell.toNat * 4)))),(22,.bool (!decide (e1.N = x4.Wanted)))] fun fr => x_p rfl<|v_ite (fun (hb6 : (!decide (e1.N = x4.Wanted)) = true) => ?_) (fun (hb6 : (!decide (e1.N = x4.Wanted)) = false) => ?_)
 ·refine vd<|x_p rfl<|v_T rfl<|vd<|x_p rfl<|v_T rfl<|vd<|x_vb rfl<|v_T rfl<|vd<|x_p rfl<|v_T rfl<|vd ?_
  refine x_p rfl<|v_T rfl<|vd<|x_p rfl<|v_T rfl<|vd<|x_vb rfl<|v_T rfl<|vd<|x_p rfl<|v_T rfl<|vd<|xp [(2,pp bq1 0),(3,pp bq2 0),(4,pp bq3 0),(6,.pointer (some ((adr g_s0.Cells.1).add (e1.Cell.toNat * 4)))),(22,.bool true),(31,undef)] fun fr => ?_
  exact x_p rfl<|v_T rfl<|vd<|x_p rfl<|vd<|xk [(2,pp bq1 0),(3,pp bq2 0),(4,pp bq3 0),(6,.pointer (some ((adr g_s0.Cells.1).add (e1.Cell.toNat * 4)))),(14,.bool true)] fun fr => rd ⟨_,fr_eq _ (by (try rw [hb6]); kernel_rfl),by kernel_rfl⟩
 refine vd<|x_p rfl<|v_F rfl<|vd<|x_p rfl<|v_F rfl<|vd<|x_vb rfl<|v_F rfl<|v_lec (E := eCellState) tt_ok (v := ii x4.Running) (idx_get hx5) (rd_row 4 rfl) ts_3 rfl (pl1 _ _ _) (by kernel_rfl)<|vd<|x_p rfl<|v_F rfl ?_
 refine vd<|x_p rfl<|v_F rfl<|vd<|x_p rfl<|v_F rfl<|vd<|x_vb rfl<|v_F rfl<|v_lec (E := eCellState) tt_ok (v := ii x4.Wanted) (idx_get hx5) (rd_row 4 rfl) ts_3 rfl (pl1 _ _ _) (by kernel_rfl)<|vd<|x_p rfl<|v_F rfl ?_
 exact vd<|xp [(2,pp bq1 0),(3,pp bq2 0),(4,pp bq3 0),(6,.pointer (some ((adr g_s0.Cells.1).add (e1.Cell.toNat * 4)))),(22,.bool false),(31,.bool (decide (x4.Running = x4.Wanted)))] fun fr => x_p rfl<|vd<|x_p rfl<|vd<|xk [(2,pp bq1 0),(3,pp bq2 0),(4,pp bq3 0),(6,.pointer (some ((adr g_s0.Cells.1).add (e1.Cell.toNat * 4)))),(14,.bool (decide (x4.Running = x4.Wanted)))] fun fr => rd ⟨_,fr_eq _ (by (try rw [hb6]); kernel_rfl),by kernel_rfl⟩
 rintro fr S ⟨fr,rfl,rfl⟩
 refine rd ?_
 apply r_iteh h<;>clear h<;>intro h
 ·refine rb<|rc (hc_48 (e0 := 4)) ?_
  rintro _ _ ⟨A8,c9,A11,c12,rfl,rfl⟩
  refine st 2 tt_ok (en_State ((cellplaneref12_no 4).1) (⟨(A8,c9),(A11,c12)⟩)) (fn ta_38) rfl<|rd ?_
  repeat refine rd ?_
  repeat refine rd ?_
  obtain rfl := h_out h
  exact ret_of (rv_cell 2 tt_ok (by kernel_rfl) ta_38 rfl rfl (RV.tmp RV.nil)) (le_w [true,true,false,false,false,false,false]) ⟨A8,c9,A11,c12,rfl,rfl⟩
 refine rb<|r_meet (fun fr S => ∃ fr0,fr = updL [(2,pp bq1 0),(3,pp bq2 0),(4,pp bq3 0),(6,.pointer (some ((adr g_s0.Cells.1).add (e1.Cell.toNat * 4)))),(36,.bool ((!(cellplaneref12_proven s0 e1.N)) && (!decide (s0.Evacuating = 0))))] fr0 ∧ S = ⟨ρ,.obj bq3 (en_State (⟨0,0,[],[],0,0,0,0⟩ : State) (⟨(none,0),(none,0)⟩)) 38 :: .obj bq2 (en_Entry e1) 45 :: .obj bq1 (en_State s0 g_s0) 38 :: .row g_s0.Tenants.1 s0.Tenants.length g_s0.Tenants.2 58 12 (fl eTenantState.en s0.Tenants) :: .row g_s0.Cells.1 s0.Cells.length g_s0.Cells.2 54 4 (fl eCellState.en s0.Cells) :: L⟩) ?_ ?_
 ·refine ln 2 tt_ok (en_State s0 g_s0) ta_38 rfl<|ld 1 tt_ok (v := ii e1.N) ts_3 rfl<|kp [(2,pp bq1 0),(3,pp bq2 0),(4,pp bq3 0),(6,.pointer (some ((adr g_s0.Cells.1).add (e1.Cell.toNat * 4)))),(37,.agg (en_State s0 g_s0).toArray),(39,ii e1.N)] fun fr => rc (hc_93 (g_s0 := g_s0) (s0 := s0) (v1 := e1.N) (hS_s0 := by exact Le.refl _) (h_s0 := by exact ⟨sl_row 3 rfl,sl_row 4 rfl⟩)) ?_
  rintro _ _ ⟨rfl,rfl⟩
  refine r_ite (fun (hb14 : (!(cellplaneref12_proven s0 e1.N)) = true) => ?_) (fun (hb14 : (!(cellplaneref12_proven s0 e1.N)) = false) => ?_)
  ·exact r_T rfl<|ld 2 tt_ok (v := ii s0.Evacuating) ts_3 rfl<|r_T rfl<|rd ⟨_,fr_eq _ (by (try rw [hb14]); kernel_rfl),by kernel_rfl⟩
  exact r_F rfl<|r_F rfl<|r_F rfl<|rd ⟨_,fr_eq _ (by (try rw [hb14]); kernel_rfl),by kernel_rfl⟩
 rintro fr S ⟨fr,rfl,rfl⟩
 refine rd ?_
 apply r_iteh h<;>clear h<;>intro h
 ·refine rb<|rc (hc_48 (e0 := 12)) ?_
  rintro _ _ ⟨A16,c17,A19,c20,rfl,rfl⟩
  refine st 2 tt_ok (en_State ((cellplaneref12_no 12).1) (⟨(A16,c17),(A19,c20)⟩)) (fn ta_38) rfl<|rd ?_
  repeat refine rd ?_
  repeat refine rd ?_
  obtain rfl := h_out h
  exact ret_of (rv_cell 2 tt_ok (by kernel_rfl) ta_38 rfl rfl (RV.tmp RV.nil)) (le_w [true,true,false,false,false,false,false]) ⟨A16,c17,A19,c20,rfl,rfl⟩
 refine rd<|rd<|rb ?_
 replace h := h_k h; obtain ⟨K65,h,hK66⟩ := h
 refine r_meet (fun fr S => ∃ fr0,(cellplaneref12_runs.j1 s0 e1 x4).bind K65 = some r ∧ fr = updL [(2,pp bq1 0),(3,pp bq2 0),(4,pp bq3 0),(6,.pointer (some ((adr g_s0.Cells.1).add (e1.Cell.toNat * 4))))] fr0 ∧ S = ⟨ρ,.obj bq3 (en_State (⟨0,0,[],[],0,0,0,0⟩ : State) (⟨(none,0),(none,0)⟩)) 38 :: .obj bq2 (en_Entry e1) 45 :: .obj bq1 (en_State s0 g_s0) 38 :: .row g_s0.Tenants.1 s0.Tenants.length g_s0.Tenants.2 58 12 (fl eTenantState.en s0.Tenants) :: .row g_s0.Cells.1 s0.Cells.length g_s0.Cells.2 54 4 (fl eCellState.en s0.Cells) :: L⟩) ?_ ?_
 ·refine rb<|rd<|rb ?_
  replace h := h_l h; obtain ⟨K61,n62,h,hK63⟩ := h
  refine r_loop (fun n fr S => ∃ (x48 : Int),∃ fr0,(runN (cellplaneref12_runs.b2 x4 s0 e1) n x48).bind K61 = some r ∧ fr = updL [(2,pp bq1 0),(3,pp bq2 0),(4,pp bq3 0),(6,.pointer (some ((adr g_s0.Cells.1).add (e1.Cell.toNat * 4)))),(7,ii x48)] fr0 ∧ S = ⟨ρ,.obj bq3 (en_State (⟨0,0,[],[],0,0,0,0⟩ : State) (⟨(none,0),(none,0)⟩)) 38 :: .obj bq2 (en_Entry e1) 45 :: .obj bq1 (en_State s0 g_s0) 38 :: .row g_s0.Tenants.1 s0.Tenants.length g_s0.Tenants.2 58 12 (fl eTenantState.en s0.Tenants) :: .row g_s0.Cells.1 s0.Cells.length g_s0.Cells.2 54 4 (fl eCellState.en s0.Cells) :: L⟩) n62 ⟨0,_,h,fe _,by kernel_rfl⟩ ?_
  clear h
  rintro n62 fr S ⟨x48,fr,h,rfl,rfl⟩
  replace h := h_r h; obtain ⟨m64,hm64,h⟩ := h
  refine rb<|rb<|ld 2 tt_ok (v := .slice g_s0.Tenants.1 s0.Tenants.length g_s0.Tenants.2) ts_35 rfl<|rd ?_
  apply r_iteh h<;>clear h<;>intro h
  ·refine rd<|rb<|rb<|rb<|ld 2 tt_ok (v := .slice g_s0.Tenants.1 s0.Tenants.length g_s0.Tenants.2) ts_35 rfl ?_
   replace h := h_b h; obtain ⟨x50,hx51,h⟩ := h
   refine r_el hx51 (rd_row 3 rfl)<|kp [(2,pp bq1 0),(3,pp bq2 0),(4,pp bq3 0),(6,.pointer (some ((adr g_s0.Cells.1).add (e1.Cell.toNat * 4)))),(7,ii x48),(60,.pointer (some ((adr g_s0.Tenants.1).add (x48.toNat * 12))))] fun fr => r_len (E := eTenantState) tt_ok (en_Window x50.Window) (idx_get hx51) (rd_row 3 rfl) ta_56 rfl (pl1 _ _ _) (by kernel_rfl) (by kernel_rfl)<|r_al tt_ok (en_Window (⟨0,0,0,0,0⟩ : Window)) ti_56 (by kernel_rfl) fun bq52 => st 0 tt_ok (en_Window x50.Window) (fn ta_56) rfl<|rd<|rb<|r_meet (fun fr S => ∃ fr0,fr = updL [(2,pp bq1 0),(3,pp bq2 0),(4,pp bq3 0),(6,.pointer (some ((adr g_s0.Cells.1).add (e1.Cell.toNat * 4)))),(7,ii x48),(74,.bool ((decide (x50.Window.Cell = e1.Cell)) && (decide (e1.Tick < x50.Window.Until))))] fr0 ∧ S = ⟨ρ,.obj bq52 (en_Window x50.Window) 56 :: .obj bq3 (en_State (⟨0,0,[],[],0,0,0,0⟩ : State) (⟨(none,0),(none,0)⟩)) 38 :: .obj bq2 (en_Entry e1) 45 :: .obj bq1 (en_State s0 g_s0) 38 :: .row g_s0.Tenants.1 s0.Tenants.length g_s0.Tenants.2 58 12 (fl eTenantState.en s0.Tenants) :: .row g_s0.Cells.1 s0.Cells.length g_s0.Cells.2 54 4 (fl eCellState.en s0.Cells) :: L⟩) ?_ ?_
   ·refine ld 0 tt_ok (v := ii x50.Window.Cell) ts_3 rfl<|kp [(2,pp bq1 0),(3,pp bq2 0),(4,pp bq3 0),(6,.pointer (some ((adr g_s0.Cells.1).add (e1.Cell.toNat * 4)))),(7,ii x48),(8,pp bq52 0),(64,ii x50.Window.Cell)] fun fr => ld 2 tt_ok (v := ii e1.Cell) ts_3 rfl<|r_ite (fun (hb53 : (decide (x50.Window.Cell = e1.Cell)) = true) => ?_) (fun (hb53 : (decide (x50.Window.Cell = e1.Cell)) = false) => ?_)
    ·exact r_T rfl<|ld 0 tt_ok (v := ii x50.Window.Until) ts_3 rfl<|r_T rfl<|r_T rfl<|ld 2 tt_ok (v := ii e1.Tick) ts_3 rfl<|r_T rfl<|kp [(2,pp bq1 0),(3,pp bq2 0),(4,pp bq3 0),(6,.pointer (some ((adr g_s0.Cells.1).add (e1.Cell.toNat * 4)))),(7,ii x48),(68,.bool true),(69,pp bq52 4),(70,ii x50.Window.Until),(71,pp bq2 1),(72,ii e1.Tick),(73,.bool (decide (e1.Tick < x50.Window.Until)))] fun fr => rd ⟨_,fr_eq _ (by (try rw [hb53]); kernel_rfl),by kernel_rfl⟩
    exact r_F rfl<|r_F rfl<|r_F rfl<|r_F rfl<|kp [(2,pp bq1 0),(3,pp bq2 0),(4,pp bq3 0),(6,.pointer (some ((adr g_s0.Cells.1).add (e1.Cell.toNat * 4)))),(7,ii x48),(68,.bool false),(69,undef),(70,undef),(71,undef),(72,undef),(73,undef)] fun fr => r_F rfl<|rd ⟨_,fr_eq _ (by (try rw [hb53]); kernel_rfl),by kernel_rfl⟩
   rintro fr S ⟨fr,rfl,rfl⟩
   refine rd ?_
   apply r_iteh h<;>clear h<;>intro h
   ·refine rb<|rc (hc_48 (e0 := 9)) ?_
    rintro _ _ ⟨A55,c56,A58,c59,rfl,rfl⟩
    refine st 3 tt_ok (en_State ((cellplaneref12_no 9).1) (⟨(A55,c56),(A58,c59)⟩)) (fn ta_38) rfl<|rd ?_
    repeat refine rd ?_
    replace h := h_m h
    subst hK63
    subst hK66
    repeat refine rd ?_
    obtain rfl := h_out h
    exact ret_of (rv_cell 3 tt_ok (by kernel_rfl) ta_38 rfl rfl (RV.tmp RV.nil)) (le_w [true,true,false,false,false,false,false,false]) ⟨A55,c56,A58,c59,rfl,rfl⟩
   exact rd<|rd<|r_num (e' := w64 (x48 + 1)) rfl<|r_le (le_w [false,true,true,true,true,true])<|rd ⟨m64,lt_s hm64,w64 (x48 + 1),_,h,fe _,by kernel_rfl⟩
  refine rd<|rd ?_
  replace h := h_m h
  subst hK63
  exact rd ⟨_,h,fe _,by kernel_rfl⟩
 clear h
 rintro fr S ⟨fr,h,rfl,rfl⟩
 subst hK66
 refine rd<|rb<|r_mix tt_ok hm_ok _ _ [] (.pure 0 (.pure 1 (.pure 2 (.vb 3 (.pure 4 (.vb 5 (.pure 6 (.pure 7 (.eff 8 (.pure 9 (.pure 10 (.eff 11 .nil)))))))))))) (le_w [true,true,true,true,false]) (le_w [true,true,true,true,false]) ?_ ?_
 ·decide +kernel
 refine x_p rfl<|vd<|x_p rfl<|vd<|x_p rfl<|vd<|x_vb rfl<|vl 1 tt_ok (v := ii e1.N) ts_3 rfl<|vd<|x_p rfl<|vd<|x_vb rfl<|vl 1 tt_ok (v := ii e1.Tick) ts_3 rfl ?_
 refine vd<|x_p rfl<|vd<|x_p rfl<|vd<|x_e rfl<|r_sec 4 (E := eCellState) tt_ok ({ x4 with Running := e1.N }) (idx_get hx5) (f1 ts_3) rfl rfl (pl1 _ _ _) (by kernel_rfl) (by kernel_rfl) (List.cons_ne_nil _ _) ?_
 rw [show (en_State s0 g_s0) = (en_State ({ s0 with Cells := (s0.Cells.set e1.Cell.toNat ({ x4 with Running := e1.N })) }) g_s0) by simp [en_State]]
 rw [← @List.length_set _ s0.Cells e1.Cell.toNat ({ x4 with Running := e1.N })]
 refine rd ⟨rfl,k_a (le_w [true,true,true,true,false]) (le_w [true,true,true,true,false]),?_⟩
 refine xp [(2,pp bq1 0),(4,pp bq3 0),(79,.pointer (some ((adr g_s0.Cells.1).add (e1.Cell.toNat * 4)))),(83,ii e1.Tick)] fun fr => x_p rfl<|vd<|x_p rfl<|vd<|x_e rfl<|r_sec 4 (E := eCellState) tt_ok ({ x4 with Running := e1.N,Since := e1.Tick }) (get_set (idx_get hx5) _) (f1 ts_3) rfl rfl (pl1 _ _ _) (by kernel_rfl) (by kernel_rfl) (List.cons_ne_nil _ _) ?_
 rw [show (en_State ({ s0 with Cells := (s0.Cells.set e1.Cell.toNat ({ x4 with Running := e1.N })) }) g_s0) = (en_State ({ s0 with Cells := ((s0.Cells.set e1.Cell.toNat ({ x4 with Running := e1.N })).set e1.Cell.toNat ({ x4 with Running := e1.N,Since := e1.Tick })) }) g_s0) by simp [en_State]]
 rw [← @List.length_set _ (s0.Cells.set e1.Cell.toNat ({ x4 with Running := e1.N })) e1.Cell.toNat ({ x4 with Running := e1.N,Since := e1.Tick })]
 refine rd ⟨rfl,k_a (le_w [true,true,true,true,false]) (le_w [true,true,true,true,false]),?_⟩
 refine xk [(2,pp bq1 0),(4,pp bq3 0)] fun fr => rd<|rb<|ln 2 tt_ok (en_State ({ s0 with Cells := ((s0.Cells.set e1.Cell.toNat ({ x4 with Running := e1.N })).set e1.Cell.toNat ({ x4 with Running := e1.N,Since := e1.Tick })) }) g_s0) ta_38 rfl<|st 0 tt_ok (en_State ({ s0 with Cells := ((s0.Cells.set e1.Cell.toNat ({ x4 with Running := e1.N })).set e1.Cell.toNat ({ x4 with Running := e1.N,Since := e1.Tick })) }) g_s0) (fn ta_38) rfl<|rd ?_
 repeat refine rd ?_
 repeat refine rd ?_
 obtain rfl := h_out h
 exact ret_of (rv_cell 0 tt_ok (by kernel_rfl) ta_38 rfl rfl (RV.tmp RV.nil)) (le_w [false,false,false,true,true]) ⟨g_s0.Tenants.1,g_s0.Tenants.2,g_s0.Cells.1,g_s0.Cells.2,rfl,rfl⟩
theorem hc_59 {g_c0 : gConfig} {g_s1 : gState} {S_c0 : St} (hS_c0 : Le ⟨ρ,L⟩ S_c0) (c0 : Config) (s1 : State) (e2 : Entry) (h_c0 : Sl_Config S_c0 c0 g_c0) {r : (State × Int)} (h : cellplaneref12_prove c0 s1 e2 = some r) : HC Tryz.prog 59 #[.agg (en_Config c0 g_c0).toArray,.agg (en_State s1 g_s1).toArray,.agg (en_Entry e2).toArray] ⟨ρ,.row g_s1.Tenants.1 s1.Tenants.length g_s1.Tenants.2 58 12 (fl eTenantState.en s1.Tenants) :: .row g_s1.Cells.1 s1.Cells.length g_s1.Cells.2 54 4 (fl eCellState.en s1.Cells) :: L⟩ (fun v S' => ∃ (Aq1_0 : Option Addr),∃ (cq1_0 : Nat),∃ (Aq1_1 : Option Addr),∃ (cq1_1 : Nat),v = .tuple #[.agg (en_State r.1 (⟨(Aq1_0,cq1_0),(Aq1_1,cq1_1)⟩)).toArray,ii r.2] ∧ S' = ⟨ρ,.row Aq1_0 r.1.Tenants.length cq1_0 58 12 (fl eTenantState.en r.1.Tenants) :: .row Aq1_1 r.1.Cells.length cq1_1 54 4 (fl eCellState.en r.1.Cells) :: L⟩) := by
 replace h := h_in h
 refine HC.intro (N := 68) (args := [_,_,_]) tt_ok Tryz.func59 rfl (by decide +kernel) rfl (Nat.le_of_ble_eq_true rfl)<|rb<|r_bx (en_Config c0 g_c0) (by kernel_rfl) fun bq1 => r_bx (en_State s1 g_s1) (by kernel_rfl) fun bq2 => r_bx (en_Entry e2) (by kernel_rfl) fun bq3 => r_al tt_ok (en_State (⟨0,0,[],[],0,0,0,0⟩ : State) (⟨(none,0),(none,0)⟩)) ti_38 (by kernel_rfl) fun bq4 => rd<|rb<|rb<|ln 2 tt_ok (en_State s1 g_s1) ta_38 rfl<|ld 1 tt_ok (v := ii e2.N) ts_3 rfl<|rc (hc_93 (g_s0 := g_s1) (s0 := s1) (v1 := e2.N) (hS_s0 := by exact Le.refl _) (h_s0 := by exact ⟨sl_row 4 rfl,sl_row 5 rfl⟩)) ?_
 rintro _ _ ⟨rfl,rfl⟩
 refine kr [(3,pp bq1 0),(4,pp bq2 0),(5,pp bq3 0),(6,pp bq4 0),(13,.bool (cellplaneref12_proven s1 e2.N))] fun fr => rd ?_
 apply r_iteh h<;>clear h<;>intro h
 ·refine rb<|rc (hc_48 (e0 := 4)) ?_
  rintro _ _ ⟨A6,c7,A9,c10,rfl,rfl⟩
  refine st 2 tt_ok (en_State ((cellplaneref12_no 4).1) (⟨(A6,c7),(A9,c10)⟩)) (fn ta_38) rfl<|rd ?_
  repeat refine rd ?_
  repeat refine rd ?_
  obtain rfl := h_out h
  exact ret_of (rv_cell 2 tt_ok (by kernel_rfl) ta_38 rfl rfl (RV.tmp RV.nil)) (le_w [true,true,false,false,false,false,false,false]) ⟨A6,c7,A9,c10,rfl,rfl⟩
 refine rd<|rb ?_
 replace h := h_k h; obtain ⟨K43,h,hK44⟩ := h
 refine r_meet (fun fr S => ∃ fr0,(cellplaneref12_prove.j1).bind K43 = some r ∧ fr = updL [(6,pp bq4 0)] fr0 ∧ S = ⟨ρ,.obj bq4 (en_State (⟨0,0,[],[],0,0,0,0⟩ : State) (⟨(none,0),(none,0)⟩)) 38 :: L⟩) ?_ ?_
 ·refine rb<|rd<|rb ?_
  replace h := h_l h; obtain ⟨K39,n40,h,hK41⟩ := h
  refine r_loop (fun n fr S => ∃ (x30 : Int),∃ fr0,(runN (cellplaneref12_prove.b2 s1 e2 c0) n x30).bind K39 = some r ∧ fr = updL [(3,pp bq1 0),(4,pp bq2 0),(5,pp bq3 0),(6,pp bq4 0),(8,ii x30)] fr0 ∧ S = ⟨ρ,.obj bq4 (en_State (⟨0,0,[],[],0,0,0,0⟩ : State) (⟨(none,0),(none,0)⟩)) 38 :: .obj bq3 (en_Entry e2) 45 :: .obj bq2 (en_State s1 g_s1) 38 :: .obj bq1 (en_Config c0 g_c0) 30 :: .row g_s1.Tenants.1 s1.Tenants.length g_s1.Tenants.2 58 12 (fl eTenantState.en s1.Tenants) :: .row g_s1.Cells.1 s1.Cells.length g_s1.Cells.2 54 4 (fl eCellState.en s1.Cells) :: L⟩) n40 ⟨0,_,h,fe _,by kernel_rfl⟩ ?_
  clear h
  rintro n40 fr S ⟨x30,fr,h,rfl,rfl⟩
  replace h := h_r h; obtain ⟨m42,hm42,h⟩ := h
  refine rb<|rb<|ld 2 tt_ok (v := .slice g_s1.Cells.1 s1.Cells.length g_s1.Cells.2) ts_36 rfl<|rd ?_
  apply r_iteh h<;>clear h<;>intro h
  ·refine rd<|rb<|rb<|rb<|ld 2 tt_ok (v := .slice g_s1.Cells.1 s1.Cells.length g_s1.Cells.2) ts_36 rfl ?_
   replace h := h_b h; obtain ⟨x32,hx33,h⟩ := h
   refine r_el hx33 (rd_row 5 rfl)<|kp [(3,pp bq1 0),(4,pp bq2 0),(5,pp bq3 0),(6,pp bq4 0),(8,ii x30),(27,.pointer (some ((adr g_s1.Cells.1).add (x30.toNat * 4))))] fun fr => r_len (E := eCellState) tt_ok (en_CellState x32) (idx_get hx33) (rd_row 5 rfl) ta_54 rfl (pl0 _ _) (by kernel_rfl) (by kernel_rfl)<|r_al tt_ok (en_CellState (⟨0,0,0,0⟩ : CellState)) ti_54 (by kernel_rfl) fun bq34 => st 0 tt_ok (en_CellState x32) (fn ta_54) rfl<|rd<|rb<|r_meet (fun fr S => ∃ fr0,fr = updL [(3,pp bq1 0),(4,pp bq2 0),(5,pp bq3 0),(6,pp bq4 0),(8,ii x30),(55,.bool ((!decide (x32.Mode = 3)) && ((decide (x32.Running = e2.N)) && ((decide (x32.Wanted = e2.N)) && (decide (c0.Bake ≤ w64 (e2.Tick - x32.Since)))))))] fr0 ∧ S = ⟨ρ,.obj bq34 (en_CellState x32) 54 :: .obj bq4 (en_State (⟨0,0,[],[],0,0,0,0⟩ : State) (⟨(none,0),(none,0)⟩)) 38 :: .obj bq3 (en_Entry e2) 45 :: .obj bq2 (en_State s1 g_s1) 38 :: .obj bq1 (en_Config c0 g_c0) 30 :: .row g_s1.Tenants.1 s1.Tenants.length g_s1.Tenants.2 58 12 (fl eTenantState.en s1.Tenants) :: .row g_s1.Cells.1 s1.Cells.length g_s1.Cells.2 54 4 (fl eCellState.en s1.Cells) :: L⟩) ?_ ?_
   ·refine ld 0 tt_ok (v := ii x32.Mode) ts_3 rfl<|kp [(3,pp bq1 0),(4,pp bq2 0),(5,pp bq3 0),(6,pp bq4 0),(8,ii x30),(9,pp bq34 0),(30,ii x32.Mode)] fun fr => r_ite (fun (hb35 : (!decide (x32.Mode = 3)) = true) => ?_) (fun (hb35 : (!decide (x32.Mode = 3)) = false) => ?_)
    ·refine r_T rfl<|ld 0 tt_ok (v := ii x32.Running) ts_3 rfl<|r_T rfl<|r_T rfl<|ld 2 tt_ok (v := ii e2.N) ts_3 rfl<|r_T rfl<|r_ite (fun (hb36 : (decide (x32.Running = e2.N)) = true) => ?_) (fun (hb36 : (decide (x32.Running = e2.N)) = false) => ?_)
     ·refine kp [(3,pp bq1 0),(4,pp bq2 0),(5,pp bq3 0),(6,pp bq4 0),(8,ii x30),(9,pp bq34 0),(33,pp bq34 1),(34,ii x32.Running),(35,pp bq3 8),(36,ii e2.N),(37,.bool (decide (x32.Running = e2.N))),(39,.bool true),(40,pp bq34 2)] fun fr => r_T rfl<|ld 0 tt_ok (v := ii x32.Wanted) ts_3 rfl<|r_T rfl<|r_T rfl<|ld 2 tt_ok (v := ii e2.N) ts_3 rfl<|r_T rfl<|r_ite (fun (hb37 : (decide (x32.Wanted = e2.N)) = true) => ?_) (fun (hb37 : (decide (x32.Wanted = e2.N)) = false) => ?_)
      ·exact r_T rfl<|ld 2 tt_ok (v := ii e2.Tick) ts_3 rfl<|r_T rfl<|kp [(3,pp bq1 0),(4,pp bq2 0),(5,pp bq3 0),(6,pp bq4 0),(8,ii x30),(33,pp bq34 1),(34,ii x32.Running),(35,pp bq3 8),(36,ii e2.N),(37,.bool (decide (x32.Running = e2.N))),(40,pp bq34 2),(41,ii x32.Wanted),(42,pp bq3 8),(43,ii e2.N),(44,.bool (decide (x32.Wanted = e2.N))),(46,.bool true),(47,pp bq3 1),(48,ii e2.Tick),(49,pp bq34 3)] fun fr => r_T rfl<|ld 0 tt_ok (v := ii x32.Since) ts_3 rfl<|r_T rfl<|r_num (e' := w64 (e2.Tick - x32.Since)) rfl<|r_T rfl<|r_T rfl<|ld 4 tt_ok (v := ii c0.Bake) ts_3 rfl<|r_T rfl<|rd ⟨_,fr_eq _ (by (try rw [hb37]); (try rw [hb36]); (try rw [hb35]); kernel_rfl),by kernel_rfl⟩
      exact r_F rfl<|r_F rfl<|kp [(3,pp bq1 0),(4,pp bq2 0),(5,pp bq3 0),(6,pp bq4 0),(8,ii x30),(33,pp bq34 1),(34,ii x32.Running),(35,pp bq3 8),(36,ii e2.N),(37,.bool (decide (x32.Running = e2.N))),(40,pp bq34 2),(41,ii x32.Wanted),(42,pp bq3 8),(43,ii e2.N),(44,.bool (decide (x32.Wanted = e2.N))),(46,.bool false),(47,undef),(48,undef),(49,undef)] fun fr => r_F rfl<|r_F rfl<|r_F rfl<|r_F rfl<|r_F rfl<|r_F rfl<|rd ⟨_,fr_eq _ (by (try rw [hb37]); (try rw [hb36]); (try rw [hb35]); kernel_rfl),by kernel_rfl⟩
     refine kp [(3,pp bq1 0),(4,pp bq2 0),(5,pp bq3 0),(6,pp bq4 0),(8,ii x30),(9,pp bq34 0),(33,pp bq34 1),(34,ii x32.Running),(35,pp bq3 8),(36,ii e2.N),(37,.bool (decide (x32.Running = e2.N))),(39,.bool false),(40,undef)] fun fr => r_F rfl<|r_F rfl<|r_F rfl<|r_F rfl<|r_F rfl<|r_F rfl<|r_F rfl<|r_F rfl<|kp [(3,pp bq1 0),(4,pp bq2 0),(5,pp bq3 0),(6,pp bq4 0),(8,ii x30),(33,pp bq34 1),(34,ii x32.Running),(35,pp bq3 8),(36,ii e2.N),(37,.bool (decide (x32.Running = e2.N))),(40,undef),(41,undef),(42,undef),(43,undef),(44,undef),(46,.bool false),(47,undef),(48,undef),(49,undef)] fun fr => r_F rfl<|r_F rfl<|r_F rfl ?_
     exact r_F rfl<|r_F rfl<|r_F rfl<|rd ⟨_,fr_eq _ (by (try rw [hb36]); (try rw [hb35]); kernel_rfl),by kernel_rfl⟩
    refine r_F rfl<|r_F rfl<|r_F rfl<|r_F rfl<|r_F rfl<|r_F rfl<|kp [(3,pp bq1 0),(4,pp bq2 0),(5,pp bq3 0),(6,pp bq4 0),(8,ii x30),(9,pp bq34 0),(33,undef),(34,undef),(35,undef),(36,undef),(37,undef),(39,.bool false),(40,undef)] fun fr => r_F rfl<|r_F rfl<|r_F rfl<|r_F rfl<|r_F rfl<|r_F rfl ?_
    exact r_F rfl<|r_F rfl<|kp [(3,pp bq1 0),(4,pp bq2 0),(5,pp bq3 0),(6,pp bq4 0),(8,ii x30),(33,undef),(34,undef),(35,undef),(36,undef),(37,undef),(40,undef),(41,undef),(42,undef),(43,undef),(44,undef),(46,.bool false),(47,undef),(48,undef),(49,undef)] fun fr => r_F rfl<|r_F rfl<|r_F rfl<|r_F rfl<|r_F rfl<|r_F rfl<|rd ⟨_,fr_eq _ (by (try rw [hb35]); kernel_rfl),by kernel_rfl⟩
   rintro fr S ⟨fr,rfl,rfl⟩
   refine rd ?_
   apply r_iteh h<;>clear h<;>intro h
   ·refine rb<|ld 3 tt_ok (v := ii s1.Proven) ts_3 rfl<|ld 2 tt_ok (v := ii e2.N) ts_3 rfl<|r_num (e' := IntKind.u64.wrap (e2.N)) rfl<|r_check (u_nonneg rfl _)<|r_num (e' := shl .i64 1 (IntKind.u64.wrap (e2.N))) rfl<|r_num (e' := bOr .i64 s1.Proven (shl .i64 1 (IntKind.u64.wrap (e2.N)))) rfl<|st 3 tt_ok (en_State ({ s1 with Proven := bOr .i64 s1.Proven (shl .i64 1 (IntKind.u64.wrap (e2.N))) }) g_s1) (f1 ts_3) rfl<|kr [(4,pp bq2 0),(6,pp bq4 0)] fun fr => rd<|rb<|ln 3 tt_ok (en_State ({ s1 with Proven := bOr .i64 s1.Proven (shl .i64 1 (IntKind.u64.wrap (e2.N))) }) g_s1) ta_38 rfl<|st 1 tt_ok (en_State ({ s1 with Proven := bOr .i64 s1.Proven (shl .i64 1 (IntKind.u64.wrap (e2.N))) }) g_s1) (fn ta_38) rfl ?_
    refine rd ?_
    repeat refine rd ?_
    replace h := h_m h
    subst hK41
    subst hK44
    repeat refine rd ?_
    obtain rfl := h_out h
    exact ret_of (rv_cell 1 tt_ok (by kernel_rfl) ta_38 rfl rfl (RV.tmp RV.nil)) (le_w [false,false,false,false,false,true,true]) ⟨g_s1.Tenants.1,g_s1.Tenants.2,g_s1.Cells.1,g_s1.Cells.2,rfl,rfl⟩
   exact rd<|rd<|r_num (e' := w64 (x30 + 1)) rfl<|r_le (le_w [false,true,true,true,true,true,true])<|rd ⟨m42,lt_s hm42,w64 (x30 + 1),_,h,fe _,by kernel_rfl⟩
  refine rd<|rd ?_
  replace h := h_m h
  subst hK41
  exact r_le (le_w [true,false,false,false,false,false])<|rd ⟨_,h,fe _,by kernel_rfl⟩
 clear h
 rintro fr S ⟨fr,h,rfl,rfl⟩
 subst hK44
 refine rd<|rb<|rc (hc_48 (e0 := 15)) ?_
 rintro _ _ ⟨A45,c46,A48,c49,rfl,rfl⟩
 refine st 2 tt_ok (en_State ((cellplaneref12_no 15).1) (⟨(A45,c46),(A48,c49)⟩)) (fn ta_38) rfl<|rd ?_
 repeat refine rd ?_
 repeat refine rd ?_
 obtain rfl := h_out h
 exact ret_of (rv_cell 2 tt_ok (by kernel_rfl) ta_38 rfl rfl (RV.tmp RV.nil)) (le_w [true,true,false]) ⟨A45,c46,A48,c49,rfl,rfl⟩
theorem hc_61 {g_c0 : gConfig} {g_s1 : gState} {S_c0 : St} (hS_c0 : Le ⟨ρ,L⟩ S_c0) (c0 : Config) (s1 : State) (h_c0 : Sl_Config S_c0 c0 g_c0) {r : (State × Int)} (h : cellplaneref12_expand c0 s1 = some r) : HC Tryz.prog 61 #[.agg (en_Config c0 g_c0).toArray,.agg (en_State s1 g_s1).toArray] ⟨ρ,.row g_s1.Tenants.1 s1.Tenants.length g_s1.Tenants.2 58 12 (fl eTenantState.en s1.Tenants) :: .row g_s1.Cells.1 s1.Cells.length g_s1.Cells.2 54 4 (fl eCellState.en s1.Cells) :: L⟩ (fun v S' => ∃ (Aq1_0 : Option Addr),∃ (cq1_0 : Nat),∃ (Aq1_1 : Option Addr),∃ (cq1_1 : Nat),v = .tuple #[.agg (en_State r.1 (⟨(Aq1_0,cq1_0),(Aq1_1,cq1_1)⟩)).toArray,ii r.2] ∧ S' = ⟨ρ,.row Aq1_0 r.1.Tenants.length cq1_0 58 12 (fl eTenantState.en r.1.Tenants) :: .row Aq1_1 r.1.Cells.length cq1_1 54 4 (fl eCellState.en r.1.Cells) :: L⟩) := by
 replace h := h_in h
 refine HC.intro (N := 66) (args := [_,_]) tt_ok Tryz.func61 rfl (by decide +kernel) rfl (Nat.le_of_ble_eq_true rfl)<|rb<|r_bx (en_Config c0 g_c0) (by kernel_rfl) fun bq1 => r_bx (en_State s1 g_s1) (by kernel_rfl) fun bq2 => r_al tt_ok (en_State (⟨0,0,[],[],0,0,0,0⟩ : State) (⟨(none,0),(none,0)⟩)) ti_38 (by kernel_rfl) fun bq3 => rd<|rb<|rb<|rb<|ld 1 tt_ok (v := ii s1.High) ts_3 rfl<|ld 1 tt_ok (v := ii s1.Low) ts_3 rfl<|kr [(2,pp bq1 0),(3,pp bq2 0),(4,pp bq3 0),(8,.bool (decide (s1.Low < s1.High)))] fun fr => rd ?_
 apply r_iteh h<;>clear h<;>intro h
 ·refine rb<|rc (hc_48 (e0 := 4)) ?_
  rintro _ _ ⟨A5,c6,A8,c9,rfl,rfl⟩
  refine st 2 tt_ok (en_State ((cellplaneref12_no 4).1) (⟨(A5,c6),(A8,c9)⟩)) (fn ta_38) rfl<|rd ?_
  repeat refine rd ?_
  repeat refine rd ?_
  obtain rfl := h_out h
  exact ret_of (rv_cell 2 tt_ok (by kernel_rfl) ta_38 rfl rfl (RV.tmp RV.nil)) (le_w [true,true,false,false,false,false,false]) ⟨A5,c6,A8,c9,rfl,rfl⟩
 refine rb<|ld 1 tt_ok (v := ii s1.High) ts_3 rfl<|rd ?_
 apply r_iteh h<;>clear h<;>intro h
 ·refine rb<|rc (hc_48 (e0 := 2)) ?_
  rintro _ _ ⟨A12,c13,A15,c16,rfl,rfl⟩
  refine st 2 tt_ok (en_State ((cellplaneref12_no 2).1) (⟨(A12,c13),(A15,c16)⟩)) (fn ta_38) rfl<|kr [(4,pp bq3 0),(5,ii ((cellplaneref12_no 2).2))] fun fr => rd ?_
  repeat refine rd ?_
  repeat refine rd ?_
  obtain rfl := h_out h
  exact ret_of (rv_cell 2 tt_ok (by kernel_rfl) ta_38 rfl rfl (RV.tmp RV.nil)) (le_w [true,true,false,false,false,false,false]) ⟨A12,c13,A15,c16,rfl,rfl⟩
 refine rd<|rd<|rb<|rb<|rd<|rb ?_
 replace h := h_l h; obtain ⟨K78,n79,h,hK80⟩ := h
 refine r_loop (fun n fr S => ∃ (x58 : Int),∃ fr0,(runN (cellplaneref12_expand.b1 s1 c0) n x58).bind K78 = some r ∧ fr = updL [(2,pp bq1 0),(3,pp bq2 0),(4,pp bq3 0),(6,ii x58)] fr0 ∧ S = ⟨ρ,.obj bq3 (en_State (⟨0,0,[],[],0,0,0,0⟩ : State) (⟨(none,0),(none,0)⟩)) 38 :: .obj bq2 (en_State s1 g_s1) 38 :: .obj bq1 (en_Config c0 g_c0) 30 :: .row g_s1.Tenants.1 s1.Tenants.length g_s1.Tenants.2 58 12 (fl eTenantState.en s1.Tenants) :: .row g_s1.Cells.1 s1.Cells.length g_s1.Cells.2 54 4 (fl eCellState.en s1.Cells) :: L⟩) n79 ⟨0,_,h,fe _,by kernel_rfl⟩ ?_
 clear h
 rintro n79 fr S ⟨x58,fr,h,rfl,rfl⟩
 replace h := h_r h; obtain ⟨m81,hm81,h⟩ := h
 refine rb<|rb<|ld 1 tt_ok (v := .slice g_s1.Cells.1 s1.Cells.length g_s1.Cells.2) ts_36 rfl<|rd ?_
 apply r_iteh h<;>clear h<;>intro h
 ·refine rd<|rb<|rb<|rb<|ld 1 tt_ok (v := .slice g_s1.Cells.1 s1.Cells.length g_s1.Cells.2) ts_36 rfl ?_
  replace h := h_b h; obtain ⟨x60,hx61,h⟩ := h
  refine r_el hx61 (rd_row 4 rfl)<|kp [(2,pp bq1 0),(3,pp bq2 0),(4,pp bq3 0),(6,ii x58),(34,.pointer (some ((adr g_s1.Cells.1).add (x58.toNat * 4))))] fun fr => r_len (E := eCellState) tt_ok (en_CellState x60) (idx_get hx61) (rd_row 4 rfl) ta_54 rfl (pl0 _ _) (by kernel_rfl) (by kernel_rfl)<|r_al tt_ok (en_CellState (⟨0,0,0,0⟩ : CellState)) ti_54 (by kernel_rfl) fun bq62 => st 0 tt_ok (en_CellState x60) (fn ta_54) rfl<|rd<|rb ?_
  replace h := h_j h; obtain ⟨K69,h,hK70⟩ := h
  refine r_meet (fun fr S => ∃ (x68 : Bool),∃ fr0,K69 x68 = some r ∧ fr = updL [(2,pp bq1 0),(3,pp bq2 0),(4,pp bq3 0),(6,ii x58),(57,.bool x68)] fr0 ∧ S = ⟨ρ,.obj bq3 (en_State (⟨0,0,[],[],0,0,0,0⟩ : State) (⟨(none,0),(none,0)⟩)) 38 :: .obj bq2 (en_State s1 g_s1) 38 :: .obj bq1 (en_Config c0 g_c0) 30 :: .row g_s1.Tenants.1 s1.Tenants.length g_s1.Tenants.2 58 12 (fl eTenantState.en s1.Tenants) :: .row g_s1.Cells.1 s1.Cells.length g_s1.Cells.2 54 4 (fl eCellState.en s1.Cells) :: L⟩) ?_ ?_
  refine r_mix tt_ok hm_ok _ _ [] (.pure 0 (.vb 1 (.pure 2 (.vb 3 (.vb 4 (.pure 5 (.vb 6 (.pure 7 (.vb 8 (.pure 9 (.pure 10 (.pure 11 (.vb 12 (.pure 13 (.vb 14 (.vb 15 (.pure 16 (.vb 17 (.pure 18 (.vb 19 (.pure 20 (.pure 21 .nil)))))))))))))))))))))) (le_w [true,true,true,true,true,true]) (le_w [true,true,true,true,true,true]) ?_ ?_
  ·decide +kernel
  refine xp [(2,pp bq1 0),(3,pp bq2 0),(4,pp bq3 0),(6,ii x58),(7,pp bq62 0)] fun fr => x_p rfl<|vd<|x_vb rfl<|vl 3 tt_ok (v := .slice g_c0.Versions.1 c0.Versions.length g_c0.Versions.2) ts_28 rfl<|vd<|x_p rfl<|vd<|x_vb rfl<|vl 0 tt_ok (v := ii x60.Running) ts_3 rfl<|vd<|x_vb rfl ?_
  replace h := h_b h; obtain ⟨x63,hx64,h⟩ := h
  refine v_el hx64 ((h_c0.2.2.2.1).rd.mono ((le_d 6).trans hS_c0))<|vd<|x_p rfl<|vd<|x_vb rfl<|v_lec (E := eVersion) tt_ok (v := ii x63.High) (idx_get hx64) ((h_c0.2.2.2.1).rd.mono ((le_d 6).trans hS_c0)) ts_3 rfl (pl1 _ _ _) (by kernel_rfl)<|vd<|x_p rfl<|vd<|x_vb rfl<|vl 2 tt_ok (v := ii s1.High) ts_3 rfl<|vd<|xp [(2,pp bq1 0),(3,pp bq2 0),(4,pp bq3 0),(6,ii x58),(7,pp bq62 0),(42,ii x63.High),(44,ii s1.High)] fun fr => ?_
  refine x_p rfl<|vd<|x_p rfl<|vd<|x_p rfl ?_
  apply v_iteh h<;>clear h<;>intro h
  ·refine vd<|x_vb rfl<|v_T rfl<|vd<|x_p rfl<|v_T rfl<|vd<|x_vb rfl<|v_T rfl<|vd<|x_vb rfl<|v_T rfl<|vd ?_
   refine x_p rfl<|v_T rfl<|vd<|x_vb rfl<|v_T rfl<|vd<|xp [(2,pp bq1 0),(3,pp bq2 0),(4,pp bq3 0),(6,ii x58),(46,.bool true),(47,undef),(48,undef),(49,undef),(50,undef),(51,undef),(52,undef),(53,undef)] fun fr => x_p rfl<|v_T rfl<|vd<|x_vb rfl<|v_T rfl<|vd ?_
   exact x_p rfl<|v_T rfl<|vd<|x_p rfl<|v_T rfl<|vd<|xk [(2,pp bq1 0),(3,pp bq2 0),(4,pp bq3 0),(6,ii x58),(57,.bool true)] fun fr => r_le (le_w [false,true,true,true,true,true])<|rd ⟨true,_,h,fe _,by kernel_rfl⟩
  refine vd<|x_vb rfl<|v_F rfl<|vl 3 tt_ok (v := .slice g_c0.Versions.1 c0.Versions.length g_c0.Versions.2) ts_28 rfl<|vd<|x_p rfl<|v_F rfl<|vd<|x_vb rfl<|v_F rfl<|vl 0 tt_ok (v := ii x60.Wanted) ts_3 rfl<|vd<|x_vb rfl ?_
  refine v_F rfl ?_
  replace h := h_b h; obtain ⟨x66,hx67,h⟩ := h
  refine v_el hx67 ((h_c0.2.2.2.1).rd.mono ((le_d 6).trans hS_c0))<|vd<|x_p rfl<|v_F rfl<|vd<|x_vb rfl<|v_F rfl<|v_lec (E := eVersion) tt_ok (v := ii x66.High) (idx_get hx67) ((h_c0.2.2.2.1).rd.mono ((le_d 6).trans hS_c0)) ts_3 rfl (pl1 _ _ _) (by kernel_rfl)<|vd<|xp [(2,pp bq1 0),(3,pp bq2 0),(4,pp bq3 0),(6,ii x58),(46,.bool false),(47,pp bq1 4),(48,.slice g_c0.Versions.1 c0.Versions.length g_c0.Versions.2),(49,pp bq62 2),(50,ii x60.Wanted),(51,.pointer (some ((adr g_c0.Versions.1).add (x60.Wanted.toNat * 2)))),(52,.pointer (some (((adr g_c0.Versions.1).add (x60.Wanted.toNat * 2)).add 1))),(53,ii x66.High)] fun fr => x_p rfl<|v_F rfl<|vd ?_
  exact x_vb rfl<|v_F rfl<|vl 2 tt_ok (v := ii s1.High) ts_3 rfl<|vd<|x_p rfl<|v_F rfl<|vd<|x_p rfl<|vd<|xk [(2,pp bq1 0),(3,pp bq2 0),(4,pp bq3 0),(6,ii x58),(47,pp bq1 4),(48,.slice g_c0.Versions.1 c0.Versions.length g_c0.Versions.2),(49,pp bq62 2),(50,ii x60.Wanted),(51,.pointer (some ((adr g_c0.Versions.1).add (x60.Wanted.toNat * 2)))),(52,.pointer (some (((adr g_c0.Versions.1).add (x60.Wanted.toNat * 2)).add 1))),(53,ii x66.High),(54,pp bq2 7),(55,ii s1.High),(56,.bool (decide (x66.High ≤ s1.High))),(57,.bool (decide (x66.High ≤ s1.High)))] fun fr => r_le (le_w [false,true,true,true,true,true])<|rd ⟨decide (x66.High ≤ s1.High),_,h,fe _,by kernel_rfl⟩
  clear h
  rintro fr S ⟨x68,fr,h,rfl,rfl⟩
  replace h := hK70 _ h
  refine rd ?_
  apply r_iteh h<;>clear h<;>intro h
  ·refine rb<|rc (hc_48 (e0 := 13)) ?_
   rintro _ _ ⟨A72,c73,A75,c76,rfl,rfl⟩
   refine st 2 tt_ok (en_State ((cellplaneref12_no 13).1) (⟨(A72,c73),(A75,c76)⟩)) (fn ta_38) rfl<|rd ?_
   repeat refine rd ?_
   replace h := h_m h
   subst hK80
   repeat refine rd ?_
   obtain rfl := h_out h
   exact ret_of (rv_cell 2 tt_ok (by kernel_rfl) ta_38 rfl rfl (RV.tmp RV.nil)) (le_w [true,true,false,false,false,false,false]) ⟨A72,c73,A75,c76,rfl,rfl⟩
  exact rd<|rd<|r_num (e' := w64 (x58 + 1)) rfl<|rd ⟨m81,lt_s hm81,w64 (x58 + 1),_,h,fe _,by kernel_rfl⟩
 refine rd<|rd ?_
 replace h := h_m h
 subst hK80
 refine rd<|rb<|ld 1 tt_ok (v := ii s1.High) ts_3 rfl<|r_num (e' := w64 (s1.High + 1)) rfl<|st 1 tt_ok (en_State ({ s1 with High := w64 (s1.High + 1) }) g_s1) (f1 ts_3) rfl<|kr [(3,pp bq2 0),(4,pp bq3 0)] fun fr => rd<|rb<|ln 1 tt_ok (en_State ({ s1 with High := w64 (s1.High + 1) }) g_s1) ta_38 rfl<|st 0 tt_ok (en_State ({ s1 with High := w64 (s1.High + 1) }) g_s1) (fn ta_38) rfl<|rd ?_
 repeat refine rd ?_
 repeat refine rd ?_
 obtain rfl := h_out h
 exact ret_of (rv_cell 0 tt_ok (by kernel_rfl) ta_38 rfl rfl (RV.tmp RV.nil)) (le_w [false,false,false,true,true]) ⟨g_s1.Tenants.1,g_s1.Tenants.2,g_s1.Cells.1,g_s1.Cells.2,rfl,rfl⟩
theorem hc_21 {g_c0 : gConfig} {g_s1 : gState} {S_c0 : St} (hS_c0 : Le ⟨ρ,L⟩ S_c0) {S_s1 : St} (hS_s1 : Le ⟨ρ,L⟩ S_s1) (c0 : Config) (s1 : State) (e2 : Entry) (h_c0 : Sl_Config S_c0 c0 g_c0) (h_s1 : Sl_State S_s1 s1 g_s1) {r : (State × Int)} (h : cellplaneref12_Apply c0 s1 e2 = some r) : HC Tryz.prog 21 #[.agg (en_Config c0 g_c0).toArray,.agg (en_State s1 g_s1).toArray,.agg (en_Entry e2).toArray] ⟨ρ,L⟩ (fun v S' => ∃ (Aq1_0 : Option Addr),∃ (cq1_0 : Nat),∃ (Aq1_1 : Option Addr),∃ (cq1_1 : Nat),v = .tuple #[.agg (en_State r.1 (⟨(Aq1_0,cq1_0),(Aq1_1,cq1_1)⟩)).toArray,ii r.2] ∧ S' = ⟨ρ,.row Aq1_0 r.1.Tenants.length cq1_0 58 12 (fl eTenantState.en r.1.Tenants) :: .row Aq1_1 r.1.Cells.length cq1_1 54 4 (fl eCellState.en r.1.Cells) :: L⟩) := by
 replace h := h_in h
 refine HC.intro (N := 201) (args := [_,_,_]) tt_ok Tryz.func21 rfl (by decide +kernel) rfl (Nat.le_of_ble_eq_true rfl)<|rb<|r_bx (en_Config c0 g_c0) (by kernel_rfl) fun bq1 => r_bx (en_State s1 g_s1) (by kernel_rfl) fun bq2 => r_bx (en_Entry e2) (by kernel_rfl) fun bq3 => r_al tt_ok (en_State (⟨0,0,[],[],0,0,0,0⟩ : State) (⟨(none,0),(none,0)⟩)) ti_38 (by kernel_rfl) fun bq4 => rd<|rb<|rb<|rb<|ln 3 tt_ok (en_Config c0 g_c0) ta_30 rfl<|ln 1 tt_ok (en_Entry e2) ta_45 rfl ?_
 replace h := h_b h; obtain ⟨x6,hx5,h⟩ := h
 refine rc (hc_25 (g_c0 := g_c0) (c0 := c0) (e1 := e2) (hS_c0 := by exact (le_d 4).trans hS_c0) (h_c0 :=h_c0) (h := hx5)) ?_
 rintro _ _ ⟨rfl,rfl⟩
 refine kr [(3,pp bq1 0),(4,pp bq2 0),(5,pp bq3 0),(6,pp bq4 0),(8,.bool (!x6))] fun fr => rd ?_
 apply r_iteh h<;>clear h<;>intro h
 ·refine rb<|rc (hc_48 (e0 := 1)) ?_
  rintro _ _ ⟨A8,c9,A11,c12,rfl,rfl⟩
  refine st 2 tt_ok (en_State ((cellplaneref12_no 1).1) (⟨(A8,c9),(A11,c12)⟩)) (fn ta_38) rfl<|rd ?_
  repeat refine rd ?_
  repeat refine rd ?_
  obtain rfl := h_out h
  exact ret_of (rv_cell 2 tt_ok (by kernel_rfl) ta_38 rfl rfl (RV.tmp RV.nil)) (le_w [true,true,false,false,false,false]) ⟨A8,c9,A11,c12,rfl,rfl⟩
 refine rb<|ld 2 tt_ok (v := ii s1.Count) ts_3 rfl<|rd ?_
 apply r_iteh h<;>clear h<;>intro h
 ·refine rb<|rc (hc_48 (e0 := 2)) ?_
  rintro _ _ ⟨A15,c16,A18,c19,rfl,rfl⟩
  refine st 2 tt_ok (en_State ((cellplaneref12_no 2).1) (⟨(A15,c16),(A18,c19)⟩)) (fn ta_38) rfl<|kr [(6,pp bq4 0),(7,ii ((cellplaneref12_no 2).2))] fun fr => rd ?_
  repeat refine rd ?_
  repeat refine rd ?_
  obtain rfl := h_out h
  exact ret_of (rv_cell 2 tt_ok (by kernel_rfl) ta_38 rfl rfl (RV.tmp RV.nil)) (le_w [true,true,false,false,false,false]) ⟨A15,c16,A18,c19,rfl,rfl⟩
 refine rb<|ld 1 tt_ok (v := ii e2.Tick) ts_3 rfl<|ld 2 tt_ok (v := ii s1.Tick) ts_3 rfl<|kr [(3,pp bq1 0),(4,pp bq2 0),(5,pp bq3 0),(6,pp bq4 0),(23,.bool (decide (e2.Tick < s1.Tick)))] fun fr => rd ?_
 apply r_iteh h<;>clear h<;>intro h
 ·refine rb<|rc (hc_48 (e0 := 3)) ?_
  rintro _ _ ⟨A22,c23,A25,c26,rfl,rfl⟩
  refine st 2 tt_ok (en_State ((cellplaneref12_no 3).1) (⟨(A22,c23),(A25,c26)⟩)) (fn ta_38) rfl<|rd ?_
  repeat refine rd ?_
  repeat refine rd ?_
  obtain rfl := h_out h
  exact ret_of (rv_cell 2 tt_ok (by kernel_rfl) ta_38 rfl rfl (RV.tmp RV.nil)) (le_w [true,true,false,false,false,false]) ⟨A22,c23,A25,c26,rfl,rfl⟩
 refine rd<|rd<|rb<|ln 2 tt_ok (en_State s1 g_s1) ta_38 rfl ?_
 replace h := h_b h; obtain ⟨x29,hx28,h⟩ := h
 refine rc (hc_18 (g_s0 := g_s1) (s0 := s1) (hS_s0 := by exact (le_d 4).trans hS_s1) (h_s0 :=h_s1) (h := hx28)) ?_
 rintro _ _ ⟨A30,c31,A33,c34,rfl,rfl⟩
 refine st 4 tt_ok (en_State x29 (⟨(A30,c31),(A33,c34)⟩)) (fn ta_38) rfl<|rd<|rb<|ld 3 tt_ok (v := ii e2.Tick) ts_3 rfl<|ld 4 tt_ok (v := ii x29.Count) ts_3 rfl<|r_num (e' := w64 (x29.Count + 1)) rfl<|st 4 tt_ok (en_State ({ x29 with Tick := e2.Tick }) (⟨(A30,c31),(A33,c34)⟩)) (f1 ts_3) rfl<|kp [(3,pp bq1 0),(4,pp bq2 0),(5,pp bq3 0),(6,pp bq4 0),(38,ii (w64 (x29.Count + 1)))] fun fr => st 4 tt_ok (en_State ({ x29 with Tick := e2.Tick,Count := w64 (x29.Count + 1) }) (⟨(A30,c31),(A33,c34)⟩)) (f1 ts_3) rfl<|rd<|rb<|rb<|ld 3 tt_ok (v := ii e2.Kind) ts_3 rfl ?_
 refine rd<|rb<|rb<|rd ?_
 apply r_iteh h<;>clear h<;>intro h
 ·refine rb<|ln 5 tt_ok (en_Config c0 g_c0) ta_30 rfl<|ln 4 tt_ok (en_State ({ x29 with Tick := e2.Tick,Count := w64 (x29.Count + 1) }) (⟨(A30,c31),(A33,c34)⟩)) ta_38 rfl<|ln 3 tt_ok (en_Entry e2) ta_45 rfl<|kp [(6,pp bq4 0),(45,.agg (en_Config c0 g_c0).toArray),(46,.agg (en_State ({ x29 with Tick := e2.Tick,Count := w64 (x29.Count + 1) }) (⟨(A30,c31),(A33,c34)⟩)).toArray),(47,.agg (en_Entry e2).toArray)] fun fr => ?_
  replace h := h_b h; obtain ⟨⟨x38,x39⟩,hx37,h⟩ := h
  refine rc (hc_49 (g_c0 := g_c0) (c0 := c0) (g_s1 := ⟨(A30,c31),(A33,c34)⟩) (s1 := { x29 with Tick := e2.Tick,Count := w64 (x29.Count + 1) }) (e2 := e2) (hS_c0 := by exact (le_d 4).trans hS_c0) (h_c0 :=h_c0) (h := hx37)) ?_
  rintro _ _ ⟨A40,c41,A43,c44,rfl,rfl⟩
  refine st 2 tt_ok (en_State x38 (⟨(A40,c41),(A43,c44)⟩)) (fn ta_38) rfl<|rd ?_
  repeat refine rd ?_
  repeat refine rd ?_
  obtain rfl := h_out h
  exact ret_of (rv_cell 2 tt_ok (by kernel_rfl) ta_38 rfl rfl (RV.tmp RV.nil)) (le_w [true,true,false,false,false,false]) ⟨A40,c41,A43,c44,rfl,rfl⟩
 refine rb<|rd ?_
 apply r_iteh h<;>clear h<;>intro h
 ·refine rb<|ln 5 tt_ok (en_Config c0 g_c0) ta_30 rfl<|kp [(4,pp bq2 0),(5,pp bq3 0),(6,pp bq4 0),(53,.agg (en_Config c0 g_c0).toArray)] fun fr => ln 4 tt_ok (en_State ({ x29 with Tick := e2.Tick,Count := w64 (x29.Count + 1) }) (⟨(A30,c31),(A33,c34)⟩)) ta_38 rfl<|ln 3 tt_ok (en_Entry e2) ta_45 rfl ?_
  replace h := h_b h; obtain ⟨⟨x48,x49⟩,hx47,h⟩ := h
  refine rc (hc_50 (g_c0 := g_c0) (c0 := c0) (g_s1 := ⟨(A30,c31),(A33,c34)⟩) (s1 := { x29 with Tick := e2.Tick,Count := w64 (x29.Count + 1) }) (e2 := e2) (hS_c0 := by exact (le_d 4).trans hS_c0) (h_c0 :=h_c0) (h := hx47)) ?_
  rintro _ _ ⟨A50,c51,A53,c54,rfl,rfl⟩
  refine st 2 tt_ok (en_State x48 (⟨(A50,c51),(A53,c54)⟩)) (fn ta_38) rfl<|rd ?_
  repeat refine rd ?_
  repeat refine rd ?_
  obtain rfl := h_out h
  exact ret_of (rv_cell 2 tt_ok (by kernel_rfl) ta_38 rfl rfl (RV.tmp RV.nil)) (le_w [true,true,false,false,false,false]) ⟨A50,c51,A53,c54,rfl,rfl⟩
 refine rb<|kr [(3,pp bq1 0),(4,pp bq2 0),(5,pp bq3 0),(6,pp bq4 0),(42,ii e2.Kind),(59,.bool (decide (e2.Kind = 3)))] fun fr => rd ?_
 apply r_iteh h<;>clear h<;>intro h
 ·refine rb<|ln 4 tt_ok (en_State ({ x29 with Tick := e2.Tick,Count := w64 (x29.Count + 1) }) (⟨(A30,c31),(A33,c34)⟩)) ta_38 rfl<|ln 3 tt_ok (en_Entry e2) ta_45 rfl ?_
  replace h := h_b h; obtain ⟨⟨x58,x59⟩,hx57,h⟩ := h
  refine rc (hc_51 (g_s0 := ⟨(A30,c31),(A33,c34)⟩) (s0 := { x29 with Tick := e2.Tick,Count := w64 (x29.Count + 1) }) (e1 := e2) (h := hx57)) ?_
  rintro _ _ ⟨A60,c61,A63,c64,rfl,rfl⟩
  refine st 2 tt_ok (en_State x58 (⟨(A60,c61),(A63,c64)⟩)) (fn ta_38) rfl<|rd ?_
  repeat refine rd ?_
  repeat refine rd ?_
  obtain rfl := h_out h
  exact ret_of (rv_cell 2 tt_ok (by kernel_rfl) ta_38 rfl rfl (RV.tmp RV.nil)) (le_w [true,true,false,false,false,false]) ⟨A60,c61,A63,c64,rfl,rfl⟩
 refine rb<|rd ?_
 apply r_iteh h<;>clear h<;>intro h
 ·refine rb<|ln 5 tt_ok (en_Config c0 g_c0) ta_30 rfl<|ln 4 tt_ok (en_State ({ x29 with Tick := e2.Tick,Count := w64 (x29.Count + 1) }) (⟨(A30,c31),(A33,c34)⟩)) ta_38 rfl<|ln 3 tt_ok (en_Entry e2) ta_45 rfl ?_
  replace h := h_b h; obtain ⟨⟨x68,x69⟩,hx67,h⟩ := h
  refine rc (hc_52 (g_c0 := g_c0) (c0 := c0) (g_s1 := ⟨(A30,c31),(A33,c34)⟩) (s1 := { x29 with Tick := e2.Tick,Count := w64 (x29.Count + 1) }) (e2 := e2) (hS_c0 := by exact (le_d 4).trans hS_c0) (h_c0 :=h_c0) (h := hx67)) ?_
  rintro _ _ ⟨A70,c71,A73,c74,rfl,rfl⟩
  refine st 2 tt_ok (en_State x68 (⟨(A70,c71),(A73,c74)⟩)) (fn ta_38) rfl<|kp [(6,pp bq4 0),(73,ii x69)] fun fr => rd ?_
  repeat refine rd ?_
  repeat refine rd ?_
  obtain rfl := h_out h
  exact ret_of (rv_cell 2 tt_ok (by kernel_rfl) ta_38 rfl rfl (RV.tmp RV.nil)) (le_w [true,true,false,false,false,false]) ⟨A70,c71,A73,c74,rfl,rfl⟩
 refine rb<|rd ?_
 apply r_iteh h<;>clear h<;>intro h
 ·refine rb<|ln 4 tt_ok (en_State ({ x29 with Tick := e2.Tick,Count := w64 (x29.Count + 1) }) (⟨(A30,c31),(A33,c34)⟩)) ta_38 rfl<|ln 3 tt_ok (en_Entry e2) ta_45 rfl ?_
  replace h := h_b h; obtain ⟨⟨x78,x79⟩,hx77,h⟩ := h
  refine rc (hc_53 (g_s0 := ⟨(A30,c31),(A33,c34)⟩) (s0 := { x29 with Tick := e2.Tick,Count := w64 (x29.Count + 1) }) (e1 := e2) (h := hx77)) ?_
  rintro _ _ ⟨A80,c81,A83,c84,rfl,rfl⟩
  refine st 2 tt_ok (en_State x78 (⟨(A80,c81),(A83,c84)⟩)) (fn ta_38) rfl<|kp [(6,pp bq4 0),(80,ii x79)] fun fr => rd ?_
  repeat refine rd ?_
  repeat refine rd ?_
  obtain rfl := h_out h
  exact ret_of (rv_cell 2 tt_ok (by kernel_rfl) ta_38 rfl rfl (RV.tmp RV.nil)) (le_w [true,true,false,false,false,false]) ⟨A80,c81,A83,c84,rfl,rfl⟩
 refine rb<|rd ?_
 apply r_iteh h<;>clear h<;>intro h
 ·refine rb<|ln 5 tt_ok (en_Config c0 g_c0) ta_30 rfl<|ln 4 tt_ok (en_State ({ x29 with Tick := e2.Tick,Count := w64 (x29.Count + 1) }) (⟨(A30,c31),(A33,c34)⟩)) ta_38 rfl<|ln 3 tt_ok (en_Entry e2) ta_45 rfl<|kp [(6,pp bq4 0),(83,.agg (en_Config c0 g_c0).toArray),(84,.agg (en_State ({ x29 with Tick := e2.Tick,Count := w64 (x29.Count + 1) }) (⟨(A30,c31),(A33,c34)⟩)).toArray),(85,.agg (en_Entry e2).toArray)] fun fr => ?_
  replace h := h_b h; obtain ⟨⟨x88,x89⟩,hx87,h⟩ := h
  refine rc (hc_54 (g_c0 := g_c0) (c0 := c0) (g_s1 := ⟨(A30,c31),(A33,c34)⟩) (s1 := { x29 with Tick := e2.Tick,Count := w64 (x29.Count + 1) }) (e2 := e2) (hS_c0 := by exact (le_d 4).trans hS_c0) (h_c0 :=h_c0) (h := hx87)) ?_
  rintro _ _ ⟨A90,c91,A93,c94,rfl,rfl⟩
  refine st 2 tt_ok (en_State x88 (⟨(A90,c91),(A93,c94)⟩)) (fn ta_38) rfl<|rd ?_
  repeat refine rd ?_
  repeat refine rd ?_
  obtain rfl := h_out h
  exact ret_of (rv_cell 2 tt_ok (by kernel_rfl) ta_38 rfl rfl (RV.tmp RV.nil)) (le_w [true,true,false,false,false,false]) ⟨A90,c91,A93,c94,rfl,rfl⟩
 refine rb<|rd ?_
 apply r_iteh h<;>clear h<;>intro h
 ·refine rb<|ln 4 tt_ok (en_State ({ x29 with Tick := e2.Tick,Count := w64 (x29.Count + 1) }) (⟨(A30,c31),(A33,c34)⟩)) ta_38 rfl<|kp [(5,pp bq3 0),(6,pp bq4 0),(91,.agg (en_State ({ x29 with Tick := e2.Tick,Count := w64 (x29.Count + 1) }) (⟨(A30,c31),(A33,c34)⟩)).toArray)] fun fr => ln 3 tt_ok (en_Entry e2) ta_45 rfl ?_
  replace h := h_b h; obtain ⟨⟨x98,x99⟩,hx97,h⟩ := h
  refine rc (hc_55 (g_s0 := ⟨(A30,c31),(A33,c34)⟩) (s0 := { x29 with Tick := e2.Tick,Count := w64 (x29.Count + 1) }) (e1 := e2) (h := hx97)) ?_
  rintro _ _ ⟨A100,c101,A103,c104,rfl,rfl⟩
  refine st 2 tt_ok (en_State x98 (⟨(A100,c101),(A103,c104)⟩)) (fn ta_38) rfl<|rd ?_
  repeat refine rd ?_
  repeat refine rd ?_
  obtain rfl := h_out h
  exact ret_of (rv_cell 2 tt_ok (by kernel_rfl) ta_38 rfl rfl (RV.tmp RV.nil)) (le_w [true,true,false,false,false,false]) ⟨A100,c101,A103,c104,rfl,rfl⟩
 refine rb<|kr [(3,pp bq1 0),(4,pp bq2 0),(5,pp bq3 0),(6,pp bq4 0),(42,ii e2.Kind),(96,.bool (decide (e2.Kind = 8)))] fun fr => rd ?_
 apply r_iteh h<;>clear h<;>intro h
 ·refine rb<|ln 5 tt_ok (en_Config c0 g_c0) ta_30 rfl<|ln 4 tt_ok (en_State ({ x29 with Tick := e2.Tick,Count := w64 (x29.Count + 1) }) (⟨(A30,c31),(A33,c34)⟩)) ta_38 rfl<|ln 3 tt_ok (en_Entry e2) ta_45 rfl ?_
  replace h := h_b h; obtain ⟨⟨x108,x109⟩,hx107,h⟩ := h
  refine rc (hc_56 (g_c0 := g_c0) (c0 := c0) (g_s1 := ⟨(A30,c31),(A33,c34)⟩) (s1 := { x29 with Tick := e2.Tick,Count := w64 (x29.Count + 1) }) (e2 := e2) (hS_c0 := by exact (le_d 4).trans hS_c0) (h_c0 :=h_c0) (h := hx107)) ?_
  rintro _ _ ⟨A110,c111,A113,c114,rfl,rfl⟩
  refine st 2 tt_ok (en_State x108 (⟨(A110,c111),(A113,c114)⟩)) (fn ta_38) rfl<|rd ?_
  repeat refine rd ?_
  repeat refine rd ?_
  obtain rfl := h_out h
  exact ret_of (rv_cell 2 tt_ok (by kernel_rfl) ta_38 rfl rfl (RV.tmp RV.nil)) (le_w [true,true,false,false,false,false]) ⟨A110,c111,A113,c114,rfl,rfl⟩
 refine rb<|rd ?_
 apply r_iteh h<;>clear h<;>intro h
 ·refine rb<|rb<|r_mix tt_ok hm_ok _ _ [] (.pure 0 (.vb 1 (.pure 2 (.vb 3 (.vb 4 (.pure 5 (.vb 6 (.pure 7 (.vb 8 (.pure 9 .nil)))))))))) (le_w [true,true,true,true,true,true]) (le_w [true,true,true,true,true,true]) ?_ ?_
  ·decide +kernel
  refine x_p rfl<|vd<|x_vb rfl<|vl 4 tt_ok (v := .slice A33 x29.Cells.length c34) ts_36 rfl<|vd<|x_p rfl<|vd<|x_vb rfl<|vl 3 tt_ok (v := ii e2.Cell) ts_3 rfl<|vd<|x_vb rfl ?_
  replace h := h_b h; obtain ⟨x117,hx118,h⟩ := h
  refine v_el hx118 (rd_row 1 rfl)<|vd<|x_p rfl<|vd<|x_vb rfl<|v_lec (E := eCellState) tt_ok (v := ii x117.Mode) (idx_get hx118) (rd_row 1 rfl) ts_3 rfl (pl1 _ _ _) (by kernel_rfl)<|vd<|xp [(4,pp bq2 0),(5,pp bq3 0),(6,pp bq4 0),(112,ii x117.Mode)] fun fr => x_p rfl<|vd<|x_vb rfl<|vl 3 tt_ok (v := ii e2.N) ts_3 rfl<|vd ?_
  refine x_p rfl<|vd<|xk [(4,pp bq2 0),(5,pp bq3 0),(6,pp bq4 0),(115,.bool (decide (x117.Mode = e2.N)))] fun fr => rd ?_
  apply r_iteh h<;>clear h<;>intro h
  ·refine rb<|rc (hc_48 (e0 := 4)) ?_
   rintro _ _ ⟨A120,c121,A123,c124,rfl,rfl⟩
   refine st 4 tt_ok (en_State ((cellplaneref12_no 4).1) (⟨(A120,c121),(A123,c124)⟩)) (fn ta_38) rfl<|rd ?_
   repeat refine rd ?_
   repeat refine rd ?_
   obtain rfl := h_out h
   exact ret_of (rv_cell 4 tt_ok (by kernel_rfl) ta_38 rfl rfl (RV.tmp RV.nil)) (le_w [true,true,false,false,false,false,false,false]) ⟨A120,c121,A123,c124,rfl,rfl⟩
  refine rd<|r_le (le_has (E := eCellState) (xs := x29.Cells) (rd_row 1 rfl))<|r_mix tt_ok hm_ok _ _ [] (.pure 0 (.vb 1 (.pure 2 (.vb 3 (.pure 4 (.vb 5 (.pure 6 (.vb 7 (.pure 8 (.vb 9 (.pure 10 (.vb 11 (.vb 12 (.pure 13 (.eff 14 (.eff 15 (.pure 16 (.eff 17 .nil)))))))))))))))))) (le_w [true,true,false,true,true,true,true]) (le_w [true,true,false,true,true,true,true]) ?_ ?_
  ·decide +kernel
  refine x_p rfl<|vd<|x_vb rfl<|vl 4 tt_ok (v := .slice A33 x29.Cells.length c34) ts_36 rfl<|vd<|x_p rfl<|vd<|x_vb rfl<|vl 3 tt_ok (v := ii e2.Cell) ts_3 rfl<|vd<|x_p rfl<|vd<|x_vb rfl ?_
  refine vl 4 tt_ok (v := .slice A33 x29.Cells.length c34) ts_36 rfl<|vd<|x_p rfl<|vd<|x_vb rfl<|vl 3 tt_ok (v := ii e2.Cell) ts_3 rfl<|vd<|x_p rfl<|vd<|xp [(4,pp bq2 0),(5,pp bq3 0),(6,pp bq4 0),(120,.slice A33 x29.Cells.length c34),(122,ii e2.Cell),(124,.slice A33 x29.Cells.length c34),(126,ii e2.Cell),(127,pp bq3 8)] fun fr => x_vb rfl<|vl 3 tt_ok (v := ii e2.N) ts_3 rfl<|vd ?_
  refine x_p rfl<|vd<|x_vb rfl<|vl 3 tt_ok (v := ii e2.Tick) ts_3 rfl<|vd<|x_vb rfl<|v_elh 0 rfl (by simp) hx118<|vd<|x_p rfl<|vd<|x_e rfl<|r_sec 2 (E := eCellState) tt_ok ({ x117 with Mode := e2.N }) (idx_get hx118) (f1 ts_3) rfl rfl (pl1 _ _ _) (by kernel_rfl) (by kernel_rfl) (List.cons_ne_nil _ _) ?_
  rw [show (en_State ({ x29 with Tick := e2.Tick,Count := w64 (x29.Count + 1) }) (⟨(A30,c31),(A33,c34)⟩)) = (en_State ({ x29 with Tick := e2.Tick,Count := w64 (x29.Count + 1),Cells := (x29.Cells.set e2.Cell.toNat ({ x117 with Mode := e2.N })) }) (⟨(A30,c31),(A33,c34)⟩)) by simp [en_State]]
  rw [← @List.length_set _ x29.Cells e2.Cell.toNat ({ x117 with Mode := e2.N })]
  refine rd ⟨rfl,k_a (le_w [true,true,false,true,true,true,true]) (le_w [true,true,false,true,true,true,true]),?_⟩
  refine x_e rfl<|r_el (idx_set hx118 _) (rd_row 2 rfl)<|rd ⟨rfl,k_a (le_w [true,true,false,true,true,true,true]) (le_w [true,true,false,true,true,true,true]),?_⟩
  refine x_p rfl<|vd<|x_e rfl<|r_sec 2 (E := eCellState) tt_ok ({ x117 with Mode := e2.N,Since := e2.Tick }) (idx_get (idx_set hx118 _)) (f1 ts_3) rfl rfl (pl1 _ _ _) (by kernel_rfl) (by kernel_rfl) (List.cons_ne_nil _ _) ?_
  rw [show (en_State ({ x29 with Tick := e2.Tick,Count := w64 (x29.Count + 1),Cells := (x29.Cells.set e2.Cell.toNat ({ x117 with Mode := e2.N })) }) (⟨(A30,c31),(A33,c34)⟩)) = (en_State ({ x29 with Tick := e2.Tick,Count := w64 (x29.Count + 1),Cells := ((x29.Cells.set e2.Cell.toNat ({ x117 with Mode := e2.N })).set e2.Cell.toNat ({ x117 with Mode := e2.N,Since := e2.Tick })) }) (⟨(A30,c31),(A33,c34)⟩)) by simp [en_State]]
  rw [← @List.length_set _ (x29.Cells.set e2.Cell.toNat ({ x117 with Mode := e2.N })) e2.Cell.toNat ({ x117 with Mode := e2.N,Since := e2.Tick })]
  refine rd ⟨rfl,k_a (le_w [true,true,false,true,true,true,true]) (le_w [true,true,false,true,true,true,true]),?_⟩
  refine xk [(4,pp bq2 0),(6,pp bq4 0)] fun fr => r_le (le_w [false,true,true,true,true,true,true])<|rd<|rd<|rb<|ln 4 tt_ok (en_State ({ x29 with Tick := e2.Tick,Count := w64 (x29.Count + 1),Cells := ((x29.Cells.set e2.Cell.toNat ({ x117 with Mode := e2.N })).set e2.Cell.toNat ({ x117 with Mode := e2.N,Since := e2.Tick })) }) (⟨(A30,c31),(A33,c34)⟩)) ta_38 rfl<|st 2 tt_ok (en_State ({ x29 with Tick := e2.Tick,Count := w64 (x29.Count + 1),Cells := ((x29.Cells.set e2.Cell.toNat ({ x117 with Mode := e2.N })).set e2.Cell.toNat ({ x117 with Mode := e2.N,Since := e2.Tick })) }) (⟨(A30,c31),(A33,c34)⟩)) (fn ta_38) rfl<|rd ?_
  repeat refine rd ?_
  repeat refine rd ?_
  obtain rfl := h_out h
  exact ret_of (rv_cell 2 tt_ok (by kernel_rfl) ta_38 rfl rfl (RV.tmp RV.nil)) (le_w [true,true,false,false,false,false]) ⟨A30,c31,A33,c34,rfl,rfl⟩
 refine rb<|rd ?_
 apply r_iteh h<;>clear h<;>intro h
 ·refine rb<|ln 5 tt_ok (en_Config c0 g_c0) ta_30 rfl<|ln 4 tt_ok (en_State ({ x29 with Tick := e2.Tick,Count := w64 (x29.Count + 1) }) (⟨(A30,c31),(A33,c34)⟩)) ta_38 rfl<|ln 3 tt_ok (en_Entry e2) ta_45 rfl ?_
  replace h := h_b h; obtain ⟨⟨x128,x129⟩,hx127,h⟩ := h
  refine rc (hc_57 (g_c0 := g_c0) (c0 := c0) (g_s1 := ⟨(A30,c31),(A33,c34)⟩) (s1 := { x29 with Tick := e2.Tick,Count := w64 (x29.Count + 1) }) (e2 := e2) (hS_c0 := by exact (le_d 4).trans hS_c0) (h_c0 :=h_c0) (h := hx127)) ?_
  rintro _ _ ⟨A130,c131,A133,c134,rfl,rfl⟩
  refine st 2 tt_ok (en_State x128 (⟨(A130,c131),(A133,c134)⟩)) (fn ta_38) rfl<|kp [(6,pp bq4 0),(142,ii x129)] fun fr => rd ?_
  repeat refine rd ?_
  repeat refine rd ?_
  obtain rfl := h_out h
  exact ret_of (rv_cell 2 tt_ok (by kernel_rfl) ta_38 rfl rfl (RV.tmp RV.nil)) (le_w [true,true,false,false,false,false]) ⟨A130,c131,A133,c134,rfl,rfl⟩
 refine rb<|rd ?_
 apply r_iteh h<;>clear h<;>intro h
 ·refine rb<|ln 4 tt_ok (en_State ({ x29 with Tick := e2.Tick,Count := w64 (x29.Count + 1) }) (⟨(A30,c31),(A33,c34)⟩)) ta_38 rfl<|ln 3 tt_ok (en_Entry e2) ta_45 rfl ?_
  replace h := h_b h; obtain ⟨⟨x138,x139⟩,hx137,h⟩ := h
  refine rc (hc_58 (g_s0 := ⟨(A30,c31),(A33,c34)⟩) (s0 := { x29 with Tick := e2.Tick,Count := w64 (x29.Count + 1) }) (e1 := e2) (h := hx137)) ?_
  rintro _ _ ⟨A140,c141,A143,c144,rfl,rfl⟩
  refine kp [(6,pp bq4 0),(147,.tuple #[.agg (en_State x138 (⟨(A140,c141),(A143,c144)⟩)).toArray,ii x139])] fun fr => st 2 tt_ok (en_State x138 (⟨(A140,c141),(A143,c144)⟩)) (fn ta_38) rfl<|rd ?_
  repeat refine rd ?_
  repeat refine rd ?_
  obtain rfl := h_out h
  exact ret_of (rv_cell 2 tt_ok (by kernel_rfl) ta_38 rfl rfl (RV.tmp RV.nil)) (le_w [true,true,false,false,false,false]) ⟨A140,c141,A143,c144,rfl,rfl⟩
 refine rb<|rd ?_
 apply r_iteh h<;>clear h<;>intro h
 ·refine rb<|ln 5 tt_ok (en_Config c0 g_c0) ta_30 rfl<|kp [(4,pp bq2 0),(5,pp bq3 0),(6,pp bq4 0),(152,.agg (en_Config c0 g_c0).toArray)] fun fr => ln 4 tt_ok (en_State ({ x29 with Tick := e2.Tick,Count := w64 (x29.Count + 1) }) (⟨(A30,c31),(A33,c34)⟩)) ta_38 rfl<|ln 3 tt_ok (en_Entry e2) ta_45 rfl ?_
  replace h := h_b h; obtain ⟨⟨x148,x149⟩,hx147,h⟩ := h
  refine rc (hc_59 (g_c0 := g_c0) (c0 := c0) (g_s1 := ⟨(A30,c31),(A33,c34)⟩) (s1 := { x29 with Tick := e2.Tick,Count := w64 (x29.Count + 1) }) (e2 := e2) (hS_c0 := by exact (le_d 4).trans hS_c0) (h_c0 :=h_c0) (h := hx147)) ?_
  rintro _ _ ⟨A150,c151,A153,c154,rfl,rfl⟩
  refine st 2 tt_ok (en_State x148 (⟨(A150,c151),(A153,c154)⟩)) (fn ta_38) rfl<|rd ?_
  repeat refine rd ?_
  repeat refine rd ?_
  obtain rfl := h_out h
  exact ret_of (rv_cell 2 tt_ok (by kernel_rfl) ta_38 rfl rfl (RV.tmp RV.nil)) (le_w [true,true,false,false,false,false]) ⟨A150,c151,A153,c154,rfl,rfl⟩
 refine rb<|kr [(3,pp bq1 0),(4,pp bq2 0),(5,pp bq3 0),(6,pp bq4 0),(42,ii e2.Kind),(158,.bool (decide (e2.Kind = 13)))] fun fr => rd ?_
 apply r_iteh h<;>clear h<;>intro h
 ·refine rb<|rb<|r_mix tt_ok hm_ok _ _ [] (.pure 0 (.vb 1 (.pure 2 (.vb 3 (.pure 5 (.vb 6 (.pure 7 (.eff 4 (.pure 8 .nil))))))))) (le_w [true,true,true,true,true,true]) (le_w [true,true,true,true,true,true]) ?_ ?_
  ·decide +kernel
  refine x_p rfl<|vd<|x_vb rfl<|vl 4 tt_ok (v := ii x29.Evacuating) ts_3 rfl<|vd<|x_p rfl<|vd<|x_vb rfl<|vl 3 tt_ok (v := ii e2.Other) ts_3 rfl<|vd<|x_p rfl<|vd<|x_vb rfl ?_
  refine vl 3 tt_ok (v := ii e2.N) ts_3 rfl<|vd<|x_p rfl<|vd<|x_e rfl<|rc (hc_60 (set0 := x29.Evacuating) (i1 := e2.Other)) ?_
  rintro _ _ ⟨rfl,rfl⟩
  refine rd ⟨rfl,k_a (le_w [true,true,true,true,true,true]) (le_w [true,true,true,true,true,true]),?_⟩
  refine x_p rfl<|v_op (fun w => ex_eqb tt_ok rfl rfl rfl rfl w)<|vd<|xk [(4,pp bq2 0),(5,pp bq3 0),(6,pp bq4 0),(168,.bool ((cellplaneref04_Has x29.Evacuating e2.Other) == (decide (e2.N = 1))))] fun fr => rd ?_
  apply r_iteh h<;>clear h<;>intro h
  ·refine rb<|rc (hc_48 (e0 := 4)) ?_
   rintro _ _ ⟨A158,c159,A161,c162,rfl,rfl⟩
   refine st 4 tt_ok (en_State ((cellplaneref12_no 4).1) (⟨(A158,c159),(A161,c162)⟩)) (fn ta_38) rfl<|rd ?_
   repeat refine rd ?_
   repeat refine rd ?_
   obtain rfl := h_out h
   exact ret_of (rv_cell 4 tt_ok (by kernel_rfl) ta_38 rfl rfl (RV.tmp RV.nil)) (le_w [true,true,false,false,false,false,false,false]) ⟨A158,c159,A161,c162,rfl,rfl⟩
  refine rd<|ld 4 tt_ok (v := ii x29.Evacuating) ts_3 rfl<|ld 3 tt_ok (v := ii e2.Other) ts_3 rfl<|r_num (e' := IntKind.u64.wrap (e2.Other)) rfl<|r_check (u_nonneg rfl _)<|r_num (e' := shl .i64 1 (IntKind.u64.wrap (e2.Other))) rfl<|r_num (e' := bXor .i64 x29.Evacuating (shl .i64 1 (IntKind.u64.wrap (e2.Other)))) rfl<|st 4 tt_ok (en_State ({ x29 with Tick := e2.Tick,Count := w64 (x29.Count + 1),Evacuating := bXor .i64 x29.Evacuating (shl .i64 1 (IntKind.u64.wrap (e2.Other))) }) (⟨(A30,c31),(A33,c34)⟩)) (f1 ts_3) rfl<|kr [(4,pp bq2 0),(6,pp bq4 0)] fun fr => rd<|rd<|rb<|ln 4 tt_ok (en_State ({ x29 with Tick := e2.Tick,Count := w64 (x29.Count + 1),Evacuating := bXor .i64 x29.Evacuating (shl .i64 1 (IntKind.u64.wrap (e2.Other))) }) (⟨(A30,c31),(A33,c34)⟩)) ta_38 rfl ?_
  refine st 2 tt_ok (en_State ({ x29 with Tick := e2.Tick,Count := w64 (x29.Count + 1),Evacuating := bXor .i64 x29.Evacuating (shl .i64 1 (IntKind.u64.wrap (e2.Other))) }) (⟨(A30,c31),(A33,c34)⟩)) (fn ta_38) rfl<|rd ?_
  repeat refine rd ?_
  repeat refine rd ?_
  obtain rfl := h_out h
  exact ret_of (rv_cell 2 tt_ok (by kernel_rfl) ta_38 rfl rfl (RV.tmp RV.nil)) (le_w [true,true,false,false,false,false]) ⟨A30,c31,A33,c34,rfl,rfl⟩
 refine rb<|rd ?_
 apply r_iteh h<;>clear h<;>intro h
 ·refine rb<|ln 5 tt_ok (en_Config c0 g_c0) ta_30 rfl<|ln 4 tt_ok (en_State ({ x29 with Tick := e2.Tick,Count := w64 (x29.Count + 1) }) (⟨(A30,c31),(A33,c34)⟩)) ta_38 rfl ?_
  replace h := h_b h; obtain ⟨⟨x166,x167⟩,hx165,h⟩ := h
  refine rc (hc_61 (g_c0 := g_c0) (c0 := c0) (g_s1 := ⟨(A30,c31),(A33,c34)⟩) (s1 := { x29 with Tick := e2.Tick,Count := w64 (x29.Count + 1) }) (hS_c0 := by exact (le_d 4).trans hS_c0) (h_c0 :=h_c0) (h := hx165)) ?_
  rintro _ _ ⟨A168,c169,A171,c172,rfl,rfl⟩
  refine st 2 tt_ok (en_State x166 (⟨(A168,c169),(A171,c172)⟩)) (fn ta_38) rfl<|kr [(6,pp bq4 0),(7,ii x167)] fun fr => rd ?_
  repeat refine rd ?_
  repeat refine rd ?_
  obtain rfl := h_out h
  exact ret_of (rv_cell 2 tt_ok (by kernel_rfl) ta_38 rfl rfl (RV.tmp RV.nil)) (le_w [true,true,false,false,false,false]) ⟨A168,c169,A171,c172,rfl,rfl⟩
 refine rb<|rd ?_
 apply r_iteh h<;>clear h<;>intro h
 ·refine rb<|rb<|ld 4 tt_ok (v := ii x29.High) ts_3 rfl<|ld 4 tt_ok (v := ii x29.Low) ts_3 rfl<|kr [(4,pp bq2 0),(6,pp bq4 0),(193,.bool (decide (x29.High = x29.Low)))] fun fr => rd ?_
  apply r_iteh h<;>clear h<;>intro h
  ·refine rb<|rc (hc_48 (e0 := 4)) ?_
   rintro _ _ ⟨A176,c177,A179,c180,rfl,rfl⟩
   refine st 4 tt_ok (en_State ((cellplaneref12_no 4).1) (⟨(A176,c177),(A179,c180)⟩)) (fn ta_38) rfl<|rd ?_
   repeat refine rd ?_
   repeat refine rd ?_
   obtain rfl := h_out h
   exact ret_of (rv_cell 4 tt_ok (by kernel_rfl) ta_38 rfl rfl (RV.tmp RV.nil)) (le_w [true,true,false,false,false,false,false,false]) ⟨A176,c177,A179,c180,rfl,rfl⟩
  refine rd<|ld 4 tt_ok (v := ii x29.High) ts_3 rfl<|st 4 tt_ok (en_State ({ x29 with Tick := e2.Tick,Count := w64 (x29.Count + 1),Low := x29.High }) (⟨(A30,c31),(A33,c34)⟩)) (f1 ts_3) rfl<|rd<|rd<|rb<|ln 4 tt_ok (en_State ({ x29 with Tick := e2.Tick,Count := w64 (x29.Count + 1),Low := x29.High }) (⟨(A30,c31),(A33,c34)⟩)) ta_38 rfl<|st 2 tt_ok (en_State ({ x29 with Tick := e2.Tick,Count := w64 (x29.Count + 1),Low := x29.High }) (⟨(A30,c31),(A33,c34)⟩)) (fn ta_38) rfl<|rd ?_
  repeat refine rd ?_
  repeat refine rd ?_
  obtain rfl := h_out h
  exact ret_of (rv_cell 2 tt_ok (by kernel_rfl) ta_38 rfl rfl (RV.tmp RV.nil)) (le_w [true,true,false,false,false,false]) ⟨A30,c31,A33,c34,rfl,rfl⟩
 refine rd<|rd<|rb<|ln 4 tt_ok (en_State ({ x29 with Tick := e2.Tick,Count := w64 (x29.Count + 1) }) (⟨(A30,c31),(A33,c34)⟩)) ta_38 rfl<|st 2 tt_ok (en_State ({ x29 with Tick := e2.Tick,Count := w64 (x29.Count + 1) }) (⟨(A30,c31),(A33,c34)⟩)) (fn ta_38) rfl<|rd ?_
 repeat refine rd ?_
 repeat refine rd ?_
 obtain rfl := h_out h
 exact ret_of (rv_cell 2 tt_ok (by kernel_rfl) ta_38 rfl rfl (RV.tmp RV.nil)) (le_w [true,true,false,false,false,false]) ⟨A30,c31,A33,c34,rfl,rfl⟩
theorem hc_12 {A_l0 : Option Addr} {c_l0 : Nat} {g_c1 : gConfig} {S_l0 : St} (hS_l0 : Le ⟨ρ,L⟩ S_l0) {S_c1 : St} (hS_c1 : Le ⟨ρ,L⟩ S_c1) (l0 : (List Int)) (c1 : Config) (n2 : Int) (h_l0 : Sl S_l0 A_l0 l0.length c_l0 (fl eI64.en l0)) (h_c1 : Sl_Config S_c1 c1 g_c1) {r : (List Entry)} (h : cellplanemake_Log l0 c1 n2 = some r) : HC Tryz.prog 12 #[.slice A_l0 l0.length c_l0,.agg (en_Config c1 g_c1).toArray,ii n2] ⟨ρ,L⟩ (fun v S' => ∃ (Aq1_0 : Option Addr),∃ (cq1_0 : Nat),v = .slice Aq1_0 r.length cq1_0 ∧ S' = ⟨ρ,.row Aq1_0 r.length cq1_0 45 9 (fl eEntry.en r) :: L⟩) := by
 replace h := h_in h
 refine HC.intro (N := 44) (args := [_,_,_]) tt_ok Tryz.func12 rfl (by decide +kernel) rfl (Nat.le_of_ble_eq_true rfl)<|rb<|r_bx (en_Config c1 g_c1) (by kernel_rfl) fun bq1 => rd<|rb<|rc (hc_20 (A_l0 := A_l0) (c_l0 := c_l0) (l0 := l0) (hS_l0 := by exact (le_d 1).trans hS_l0) (h_l0 :=h_l0)) ?_
 rintro _ _ ⟨bq2,A3,c4,rfl,rfl,hs5⟩
 refine rd<|rb<|ln 1 tt_ok (en_Config c1 g_c1) ta_30 rfl ?_
 replace h := h_b h; obtain ⟨x7,hx6,h⟩ := h
 refine rc (hc_36 (g_c0 := g_c1) (c0 := c1) (hS_c0 := by exact (le_d 2).trans hS_c1) (h_c0 :=h_c1) (h := hx6)) ?_
 rintro _ _ ⟨A8,c9,A11,c12,rfl,rfl⟩
 refine r_al tt_ok (en_State (⟨0,0,[],[],0,0,0,0⟩ : State) (⟨(none,0),(none,0)⟩)) ti_38 (by kernel_rfl) fun bq14 => st 0 tt_ok (en_State x7 (⟨(A8,c9),(A11,c12)⟩)) (fn ta_38) rfl<|kr [(2,ii n2),(4,pp bq1 0),(7,pp bq2 0),(8,pp bq14 0)] fun fr => rd<|rb<|rd<|rb<|rb ?_
 replace h := h_l h; obtain ⟨K151,n152,h,hK153⟩ := h
 refine r_le ((le_nil 45 9).trans ((le_mv 5).trans ((le_mv 5).trans ((le_mv 3).trans ((le_mv 5).trans ((le_mv 5).trans (le_mv 5)))))))<|r_loop (fun n fr S => ∃ (xs106 : (List Entry)),∃ (at110 : Int),∃ (tic111 : Int),∃ (cou112 : Int),∃ (xs113 : (List TenantState)),∃ (xs117 : (List CellState)),∃ (pro121 : Int),∃ (eva122 : Int),∃ (low123 : Int),∃ (hig124 : Int),∃ (A107 : Option Addr),∃ (c108 : Nat),∃ (A114 : Option Addr),∃ (c115 : Nat),∃ (A118 : Option Addr),∃ (c119 : Nat),∃ fr0,(runN (cellplanemake_Log.b1 n2 l0 c1) n (xs106,at110,tic111,cou112,xs113,xs117,pro121,eva122,low123,hig124)).bind K151 = some r ∧ fr = updL [(2,ii n2),(4,pp bq1 0),(7,pp bq2 0),(8,pp bq14 0),(9,.slice A107 xs106.length c108)] fr0 ∧ S = ⟨ρ,.row A107 xs106.length c108 45 9 (fl eEntry.en xs106) :: .row A114 xs113.length c115 58 12 (fl eTenantState.en xs113) :: .row A118 xs117.length c119 54 4 (fl eCellState.en xs117) :: .obj bq14 (en_State (⟨tic111,cou112,xs113,xs117,pro121,eva122,low123,hig124⟩ : State) (⟨(A114,c115),(A118,c119)⟩)) 38 :: .obj bq2 (en_cellplanemake_Tape ({ (cellplanemake_New l0) with At := at110 }) (⟨(A3,c4)⟩)) 94 :: .obj bq1 (en_Config c1 g_c1) 30 :: L⟩) n152 ⟨[],(cellplanemake_New l0).At,x7.Tick,x7.Count,x7.Tenants,x7.Cells,x7.Proven,x7.Evacuating,x7.Low,x7.High,none,0,A8,c9,A11,c12,_,h,fe _,by kernel_rfl⟩ ?_
 clear h
 rintro n152 fr S ⟨xs106,at110,tic111,cou112,xs113,xs117,pro121,eva122,low123,hig124,A107,c108,A114,c115,A118,c119,fr,h,rfl,rfl⟩
 replace h := h_r h; obtain ⟨m154,hm154,h⟩ := h
 refine rb<|rb ?_
 replace h := h_j h; obtain ⟨K127,h,hK128⟩ := h
 refine r_meet (fun fr S => ∃ (x126 : Bool),∃ fr0,K127 x126 = some r ∧ fr = updL [(2,ii n2),(4,pp bq1 0),(7,pp bq2 0),(8,pp bq14 0),(9,.slice A107 xs106.length c108),(24,.bool x126)] fr0 ∧ S = ⟨ρ,.obj bq2 (en_cellplanemake_Tape ({ (cellplanemake_New l0) with At := at110 }) (⟨(A3,c4)⟩)) 94 :: .row A107 xs106.length c108 45 9 (fl eEntry.en xs106) :: .row A114 xs113.length c115 58 12 (fl eTenantState.en xs113) :: .row A118 xs117.length c119 54 4 (fl eCellState.en xs117) :: .obj bq14 (en_State (⟨tic111,cou112,xs113,xs117,pro121,eva122,low123,hig124⟩ : State) (⟨(A114,c115),(A118,c119)⟩)) 38 :: .obj bq1 (en_Config c1 g_c1) 30 :: L⟩) ?_ ?_
 ·apply r_iteh h<;>clear h<;>intro h
  ·refine kp [(2,ii n2),(4,pp bq1 0),(7,pp bq2 0),(8,pp bq14 0),(9,.slice A107 xs106.length c108),(21,.bool true),(22,pp bq2 0)] fun fr => r_T rfl<|r_le (le_mv 4)<|rc (hc_37 (bt0 := bq2) (g_t0 := ⟨(A3,c4)⟩) (t0 := { (cellplanemake_New l0) with At := at110 }) (hS_t0 := by exact (le_d 5).trans hS_l0) (h_t0 :=hs5)) ?_
   rintro _ _ ⟨rfl,rfl⟩
   exact rd ⟨(cellplanemake_Tape_More ({ (cellplanemake_New l0) with At := at110 })),_,h,fe _,by kernel_rfl⟩
  exact kp [(2,ii n2),(4,pp bq1 0),(7,pp bq2 0),(8,pp bq14 0),(9,.slice A107 xs106.length c108),(21,.bool false),(22,undef)] fun fr => r_F rfl<|r_F rfl<|r_le ((le_mv 5).trans ((le_mv 4).trans ((le_mv 4).trans ((le_mv 4).trans ((le_mv 4).trans (le_mv 5))))))<|rd ⟨false,_,h,fe _,by kernel_rfl⟩
 clear h
 rintro fr S ⟨x126,fr,h,rfl,rfl⟩
 replace h := hK128 _ h
 refine rd ?_
 apply r_iteh h<;>clear h<;>intro h
 ·refine rd<|rb<|rb<|ln 5 tt_ok (en_Config c1 g_c1) ta_30 rfl<|ln 4 tt_ok (en_State (⟨tic111,cou112,xs113,xs117,pro121,eva122,low123,hig124⟩ : State) (⟨(A114,c115),(A118,c119)⟩)) ta_38 rfl ?_
  replace h := h_b h; obtain ⟨⟨x131,x132⟩,hx130,h⟩ := h
  refine rc (hc_19 (bt0 := bq2) (g_t0 := ⟨(A3,c4)⟩) (t0 := { (cellplanemake_New l0) with At := at110 }) (g_c1 := g_c1) (c1 := c1) (g_s2 := ⟨(A114,c115),(A118,c119)⟩) (s2 := (⟨tic111,cou112,xs113,xs117,pro121,eva122,low123,hig124⟩ : State)) (hS_t0 := by exact (le_d 5).trans hS_l0) (h_t0 :=hs5) (hS_c1 := by exact (le_d 5).trans hS_c1) (h_c1 :=h_c1) (hS_s2 := by exact Le.refl _) (h_s2 := by exact ⟨sl_row 1 rfl,sl_row 2 rfl⟩) (h := hx130)) ?_
  rintro _ _ ⟨rfl,rfl⟩
  refine r_al tt_ok (en_Entry (⟨0,0,0,0,0,0,0,0,0⟩ : Entry)) ti_45 (by kernel_rfl) fun bq133 => st 0 tt_ok (en_Entry x131) (fn ta_45) rfl<|rd<|rb<|ln 6 tt_ok (en_Config c1 g_c1) ta_30 rfl<|ln 5 tt_ok (en_State (⟨tic111,cou112,xs113,xs117,pro121,eva122,low123,hig124⟩ : State) (⟨(A114,c115),(A118,c119)⟩)) ta_38 rfl<|ln 0 tt_ok (en_Entry x131) ta_45 rfl<|kp [(2,ii n2),(4,pp bq1 0),(7,pp bq2 0),(8,pp bq14 0),(9,.slice A107 xs106.length c108),(10,pp bq133 0),(30,.agg (en_Config c1 g_c1).toArray),(31,.agg (en_State (⟨tic111,cou112,xs113,xs117,pro121,eva122,low123,hig124⟩ : State) (⟨(A114,c115),(A118,c119)⟩)).toArray),(32,.agg (en_Entry x131).toArray)] fun fr => ?_
  replace h := h_b h; obtain ⟨⟨x135,x136⟩,hx134,h⟩ := h
  refine rc (hc_21 (g_c0 := g_c1) (c0 := c1) (g_s1 := ⟨(A114,c115),(A118,c119)⟩) (s1 := (⟨tic111,cou112,xs113,xs117,pro121,eva122,low123,hig124⟩ : State)) (e2 := x131) (hS_c0 := by exact (le_d 7).trans hS_c1) (h_c0 :=h_c1) (hS_s1 := by exact Le.refl _) (h_s1 := by exact ⟨sl_row 3 rfl,sl_row 4 rfl⟩) (h := hx134)) ?_
  rintro _ _ ⟨A137,c138,A140,c141,rfl,rfl⟩
  refine r_al tt_ok (en_State (⟨0,0,[],[],0,0,0,0⟩ : State) (⟨(none,0),(none,0)⟩)) ti_38 (by kernel_rfl) fun bq143 => st 0 tt_ok (en_State x135 (⟨(A137,c138),(A140,c141)⟩)) (fn ta_38) rfl<|rd<|rb<|kr [(2,ii n2),(4,pp bq1 0),(7,pp bq2 0),(8,pp bq14 0),(9,.slice A107 xs106.length c108),(10,pp bq133 0),(11,pp bq143 0),(37,.bool (decide (x136 = 0)))] fun fr => rd ?_
  apply r_iteh h<;>clear h<;>intro h
  ·refine rb<|ln 0 tt_ok (en_State x135 (⟨(A137,c138),(A140,c141)⟩)) ta_38 rfl<|st 8 tt_ok (en_State x135 (⟨(A137,c138),(A140,c141)⟩)) (fn ta_38) rfl<|rd<|ln 3 tt_ok (en_Entry x131) ta_45 rfl<|r_bs tt_ok (fl eEntry.en [x131]) te_32 ti_45 (by kernel_rfl) (by kernel_rfl) (by kernel_rfl) (by kernel_rfl) fun bq145 => ?_
   replace h := h_b h; obtain ⟨xs146,ha147,h⟩ := h
   refine r_app 6 (E := eEntry) (xs := xs106) (ys := [x131]) tt_ok ha147 (rd_row 0 rfl) rfl te_32 ti_45 rfl (by kernel_rfl) rfl (fun A148 c149 => ?_)
   exact rd<|r_le ((le_mv 10).trans ((le_mv 6).trans ((le_mv 10).trans ((le_mv 6).trans ((le_mv 6).trans ((le_mv 8).trans (le_w [true,true,true,true,true,true,false,false,false,false,false])))))))<|rd ⟨m154,lt_s hm154,xs146,x132,x135.Tick,x135.Count,x135.Tenants,x135.Cells,x135.Proven,x135.Evacuating,x135.Low,x135.High,A148,c149,A137,c138,A140,c141,_,h,fe _,by kernel_rfl⟩
  exact rd<|r_le ((le_mv 9).trans ((le_mv 5).trans ((le_mv 9).trans ((le_mv 9).trans ((le_mv 9).trans ((le_mv 9).trans (le_w [true,true,true,true,true,true,false,false,false,false])))))))<|rd ⟨m154,lt_s hm154,xs106,x132,tic111,cou112,xs113,xs117,pro121,eva122,low123,hig124,A107,c108,A114,c115,A118,c119,_,h,fe _,by kernel_rfl⟩
 refine rd<|rd ?_
 replace h := h_m h
 subst hK153
 refine rd<|rb<|rd ?_
 repeat refine rd ?_
 repeat refine rd ?_
 obtain rfl := h_out h
 exact ret_of (RV.tmp RV.nil) (le_w [false,true,false,false,false,false]) ⟨A107,c108,rfl,rfl⟩
theorem hc_27 {g_c0 : gConfig} {A_l1 : Option Addr} {c_l1 : Nat} {S_c0 : St} (hS_c0 : Le ⟨ρ,L⟩ S_c0) {S_l1 : St} (hS_l1 : Le ⟨ρ,L⟩ S_l1) (c0 : Config) (l1 : (List Entry)) (h_c0 : Sl_Config S_c0 c0 g_c0) (h_l1 : Sl S_l1 A_l1 l1.length c_l1 (fl eEntry.en l1)) {r : (State × Int × Int)} (h : cellplaneref12_Fold c0 l1 = some r) : HC Tryz.prog 27 #[.agg (en_Config c0 g_c0).toArray,.slice A_l1 l1.length c_l1] ⟨ρ,L⟩ (fun v S' => ∃ (Aq1_0 : Option Addr),∃ (cq1_0 : Nat),∃ (Aq1_1 : Option Addr),∃ (cq1_1 : Nat),v = .tuple #[.agg (en_State r.1 (⟨(Aq1_0,cq1_0),(Aq1_1,cq1_1)⟩)).toArray,ii r.2.1,ii r.2.2] ∧ S' = ⟨ρ,.row Aq1_0 r.1.Tenants.length cq1_0 58 12 (fl eTenantState.en r.1.Tenants) :: .row Aq1_1 r.1.Cells.length cq1_1 54 4 (fl eCellState.en r.1.Cells) :: L⟩) := by
 replace h := h_in h
 refine HC.intro (N := 38) (args := [_,_]) tt_ok Tryz.func27 rfl (by decide +kernel) rfl (Nat.le_of_ble_eq_true rfl)<|rb<|r_bx (en_Config c0 g_c0) (by kernel_rfl) fun bq1 => r_al tt_ok (en_State (⟨0,0,[],[],0,0,0,0⟩ : State) (⟨(none,0),(none,0)⟩)) ti_38 (by kernel_rfl) fun bq2 => rd<|rb<|ln 1 tt_ok (en_Config c0 g_c0) ta_30 rfl ?_
 replace h := h_b h; obtain ⟨x4,hx3,h⟩ := h
 refine rc (hc_36 (g_c0 := g_c0) (c0 := c0) (hS_c0 := by exact (le_d 2).trans hS_c0) (h_c0 :=h_c0) (h := hx3)) ?_
 rintro _ _ ⟨A5,c6,A8,c9,rfl,rfl⟩
 refine r_al tt_ok (en_State (⟨0,0,[],[],0,0,0,0⟩ : State) (⟨(none,0),(none,0)⟩)) ti_38 (by kernel_rfl) fun bq11 => st 0 tt_ok (en_State x4 (⟨(A5,c6),(A8,c9)⟩)) (fn ta_38) rfl<|rd<|rb ?_
 replace h := h_k h; obtain ⟨K201,h,hK202⟩ := h
 refine r_meet (fun fr S => ∃ (tic187 : Int),∃ (cou188 : Int),∃ (xs189 : (List TenantState)),∃ (xs193 : (List CellState)),∃ (pro197 : Int),∃ (eva198 : Int),∃ (low199 : Int),∃ (hig200 : Int),∃ (A190 : Option Addr),∃ (c191 : Nat),∃ (A194 : Option Addr),∃ (c195 : Nat),∃ fr0,(cellplaneref12_Fold.j1 l1 tic187 cou188 xs189 xs193 pro197 eva198 low199 hig200).bind K201 = some r ∧ fr = updL [(1,.slice A_l1 l1.length c_l1),(4,pp bq2 0),(7,pp bq11 0)] fr0 ∧ S = ⟨ρ,.row A190 xs189.length c191 58 12 (fl eTenantState.en xs189) :: .row A194 xs193.length c195 54 4 (fl eCellState.en xs193) :: .obj bq11 (en_State (⟨tic187,cou188,xs189,xs193,pro197,eva198,low199,hig200⟩ : State) (⟨(A190,c191),(A194,c195)⟩)) 38 :: .obj bq2 (en_State (⟨0,0,[],[],0,0,0,0⟩ : State) (⟨(none,0),(none,0)⟩)) 38 :: L⟩) ?_ ?_
 ·refine rb<|rd<|rb ?_
  replace h := h_l h; obtain ⟨K183,n184,h,hK185⟩ := h
  refine r_le ((le_mv 4).trans ((le_mv 4).trans ((le_mv 2).trans ((le_mv 4).trans (le_mv 4)))))<|r_loop (fun n fr S => ∃ (x126 : Int),∃ (tic127 : Int),∃ (cou128 : Int),∃ (xs129 : (List TenantState)),∃ (xs133 : (List CellState)),∃ (pro137 : Int),∃ (eva138 : Int),∃ (low139 : Int),∃ (hig140 : Int),∃ (A130 : Option Addr),∃ (c131 : Nat),∃ (A134 : Option Addr),∃ (c135 : Nat),∃ fr0,(runN (cellplaneref12_Fold.b2 l1 c0) n (x126,tic127,cou128,xs129,xs133,pro137,eva138,low139,hig140)).bind K183 = some r ∧ fr = updL [(1,.slice A_l1 l1.length c_l1),(2,pp bq1 0),(4,pp bq2 0),(7,pp bq11 0),(8,ii x126)] fr0 ∧ S = ⟨ρ,.row A130 xs129.length c131 58 12 (fl eTenantState.en xs129) :: .row A134 xs133.length c135 54 4 (fl eCellState.en xs133) :: .obj bq11 (en_State (⟨tic127,cou128,xs129,xs133,pro137,eva138,low139,hig140⟩ : State) (⟨(A130,c131),(A134,c135)⟩)) 38 :: .obj bq2 (en_State (⟨0,0,[],[],0,0,0,0⟩ : State) (⟨(none,0),(none,0)⟩)) 38 :: .obj bq1 (en_Config c0 g_c0) 30 :: L⟩) n184 ⟨0,x4.Tick,x4.Count,x4.Tenants,x4.Cells,x4.Proven,x4.Evacuating,x4.Low,x4.High,A5,c6,A8,c9,_,h,fe _,by kernel_rfl⟩ ?_
  clear h
  rintro n184 fr S ⟨x126,tic127,cou128,xs129,xs133,pro137,eva138,low139,hig140,A130,c131,A134,c135,fr,h,rfl,rfl⟩
  replace h := h_r h; obtain ⟨m186,hm186,h⟩ := h
  refine rb<|rb<|rd ?_
  apply r_iteh h<;>clear h<;>intro h
  ·refine rd<|rb<|rb<|rb ?_
   replace h := h_j h; obtain ⟨K180,h,hK181⟩ := h
   refine r_meet (fun fr S => ∃ (tic165 : Int),∃ (cou166 : Int),∃ (xs167 : (List TenantState)),∃ (xs171 : (List CellState)),∃ (pro175 : Int),∃ (eva176 : Int),∃ (low177 : Int),∃ (hig178 : Int),∃ (x179 : Int),∃ (bq164 : Nat),∃ (A168 : Option Addr),∃ (c169 : Nat),∃ (A172 : Option Addr),∃ (c173 : Nat),∃ fr0,K180 (tic165,cou166,xs167,xs171,pro175,eva176,low177,hig178,x179) = some r ∧ fr = updL [(1,.slice A_l1 l1.length c_l1),(2,pp bq1 0),(4,pp bq2 0),(7,pp bq11 0),(8,ii x126),(9,pp bq164 0),(10,ii x179)] fr0 ∧ S = ⟨ρ,.obj bq164 (en_State (⟨tic165,cou166,xs167,xs171,pro175,eva176,low177,hig178⟩ : State) (⟨(A168,c169),(A172,c173)⟩)) 38 :: .row A168 xs167.length c169 58 12 (fl eTenantState.en xs167) :: .row A172 xs171.length c173 54 4 (fl eCellState.en xs171) :: .row A130 xs129.length c131 58 12 (fl eTenantState.en xs129) :: .row A134 xs133.length c135 54 4 (fl eCellState.en xs133) :: .obj bq11 (en_State (⟨tic127,cou128,xs129,xs133,pro137,eva138,low139,hig140⟩ : State) (⟨(A130,c131),(A134,c135)⟩)) 38 :: .obj bq2 (en_State (⟨0,0,[],[],0,0,0,0⟩ : State) (⟨(none,0),(none,0)⟩)) 38 :: .obj bq1 (en_Config c0 g_c0) 30 :: L⟩) ?_ ?_
   ·refine r_mix tt_ok hm_ok _ _ [] (.vb 0 (.vb 1 (.pure 2 (.pure 3 (.vb 4 (.vb 5 (.two 6 10 (.pure 7 (.pure 8 (.pure 9 (.eff 10 (.eff 11 (.pure 12 .nil)))))) (.eff 6 (.pure 7 (.pure 8 (.pure 9 (.eff 11 (.pure 12 .nil))))))))))))) (le_w [true,true,true,true,true]) (le_w [true,true,true,true,true]) ?_ ?_
    ·decide +kernel
    refine x_vb rfl<|vn 4 tt_ok (en_Config c0 g_c0) ta_30 rfl<|vd<|x_vb rfl<|vn 2 tt_ok (en_State (⟨tic127,cou128,xs129,xs133,pro137,eva138,low139,hig140⟩ : State) (⟨(A130,c131),(A134,c135)⟩)) ta_38 rfl<|vd<|x_p rfl<|vd<|x_p rfl<|vd<|x_vb rfl ?_
    replace h := h_b h; obtain ⟨x142,hx143,h⟩ := h
    refine v_el hx143 ((h_l1).rd.mono ((le_d 5).trans hS_l1))<|vd<|x_vb rfl<|v_len (E := eEntry) tt_ok (en_Entry x142) (idx_get hx143) ((h_l1).rd.mono ((le_d 5).trans hS_l1)) ta_45 rfl (pl0 _ _) (by kernel_rfl) (by kernel_rfl)<|vd<|x_2 rfl rfl ?_ ?_
    ·replace h := h_b h; obtain ⟨⟨x145,x146⟩,hx144,h⟩ := h
     refine rc (hc_21 (g_c0 := g_c0) (c0 := c0) (g_s1 := ⟨(A130,c131),(A134,c135)⟩) (s1 := (⟨tic127,cou128,xs129,xs133,pro137,eva138,low139,hig140⟩ : State)) (e2 := x142) (hS_c0 := by exact (le_d 5).trans hS_c0) (h_c0 :=h_c0) (hS_s1 := by exact Le.refl _) (h_s1 := by exact ⟨sl_row 0 rfl,sl_row 1 rfl⟩) (h := hx144)) ?_
     rintro _ _ ⟨A147,c148,A150,c151,rfl,rfl⟩
     refine rd ⟨rfl,k_a (le_w [false,false,true,true,true,true,true]) (le_w [false,false,true,true,true,true,true]),?_⟩
     refine x_p rfl<|vd<|x_p rfl<|vd<|xp [(1,.slice A_l1 l1.length c_l1),(2,pp bq1 0),(4,pp bq2 0),(7,pp bq11 0),(8,ii x126),(19,.tuple #[.agg (en_State x145 (⟨(A147,c148),(A150,c151)⟩)).toArray,ii x146]),(27,.agg (en_State x145 (⟨(A147,c148),(A150,c151)⟩)).toArray)] fun fr => x_p rfl<|vd<|x_e rfl<|r_al tt_ok (en_State (⟨0,0,[],[],0,0,0,0⟩ : State) (⟨(none,0),(none,0)⟩)) ti_38 (by kernel_rfl) fun bq153 => rd ⟨rfl,k_a (le_w [false,false,false,true,true,true,true,true]) (le_w [false,false,false,true,true,true,true,true]),?_⟩
     refine x_e rfl<|st 0 tt_ok (en_State x145 (⟨(A147,c148),(A150,c151)⟩)) (fn ta_38) rfl<|rd ⟨rfl,k_a (le_w [false,false,false,true,true,true,true,true]) (le_w [false,false,false,true,true,true,true,true]),?_⟩
     exact x_p rfl<|vd<|xk [(1,.slice A_l1 l1.length c_l1),(2,pp bq1 0),(4,pp bq2 0),(7,pp bq11 0),(8,ii x126),(9,pp bq153 0),(10,ii x146)] fun fr => rd ⟨x145.Tick,x145.Count,x145.Tenants,x145.Cells,x145.Proven,x145.Evacuating,x145.Low,x145.High,x146,bq153,A147,c148,A150,c151,_,h,fe _,by kernel_rfl⟩
    refine r_al tt_ok (en_State (⟨0,0,[],[],0,0,0,0⟩ : State) (⟨(none,0),(none,0)⟩)) ti_38 (by kernel_rfl) fun bq154 => rd ⟨rfl,k_a (le_w [false,true,true,true,true,true]) (le_w [false,true,true,true,true,true]),?_⟩
    refine x_e rfl ?_
    replace h := h_b h; obtain ⟨⟨x156,x157⟩,hx155,h⟩ := h
    refine rc (hc_21 (g_c0 := g_c0) (c0 := c0) (g_s1 := ⟨(A130,c131),(A134,c135)⟩) (s1 := (⟨tic127,cou128,xs129,xs133,pro137,eva138,low139,hig140⟩ : State)) (e2 := x142) (hS_c0 := by exact (le_d 6).trans hS_c0) (h_c0 :=h_c0) (hS_s1 := by exact Le.refl _) (h_s1 := by exact ⟨sl_row 1 rfl,sl_row 2 rfl⟩) (h := hx155)) ?_
    rintro _ _ ⟨A158,c159,A161,c162,rfl,rfl⟩
    refine rd ⟨rfl,k_a (le_w [false,false,false,true,true,true,true,true]) (le_w [false,false,false,true,true,true,true,true]),?_⟩
    refine x_p rfl<|vd<|x_p rfl<|vd<|x_p rfl<|vd<|x_e rfl<|st 2 tt_ok (en_State x156 (⟨(A158,c159),(A161,c162)⟩)) (fn ta_38) rfl<|rd ⟨rfl,k_a (le_w [false,false,false,true,true,true,true,true]) (le_w [false,false,false,true,true,true,true,true]),?_⟩
    exact x_p rfl<|vd<|xk [(1,.slice A_l1 l1.length c_l1),(2,pp bq1 0),(4,pp bq2 0),(7,pp bq11 0),(8,ii x126),(9,pp bq154 0),(10,ii x157)] fun fr => r_le ((le_mv 7).trans ((le_mv 7).trans ((le_mv 7).trans ((le_mv 7).trans ((le_mv 7).trans ((le_mv 6).trans ((le_mv 6).trans (le_mv 7))))))))<|rd ⟨x156.Tick,x156.Count,x156.Tenants,x156.Cells,x156.Proven,x156.Evacuating,x156.Low,x156.High,x157,bq154,A158,c159,A161,c162,_,h,fe _,by kernel_rfl⟩
   clear h
   rintro fr S ⟨tic165,cou166,xs167,xs171,pro175,eva176,low177,hig178,x179,bq164,A168,c169,A172,c173,fr,h,rfl,rfl⟩
   replace h := hK181 _ h
   refine rd<|rb<|rb<|rd ?_
   apply r_iteh h<;>clear h<;>intro h
   ·refine rb<|ln 5 tt_ok (en_State (⟨tic127,cou128,xs129,xs133,pro137,eva138,low139,hig140⟩ : State) (⟨(A130,c131),(A134,c135)⟩)) ta_38 rfl<|st 6 tt_ok (en_State (⟨tic127,cou128,xs129,xs133,pro137,eva138,low139,hig140⟩ : State) (⟨(A130,c131),(A134,c135)⟩)) (fn ta_38) rfl<|rd ?_
    repeat refine rd ?_
    replace h := h_m h
    subst hK185
    subst hK202
    repeat refine rd ?_
    obtain rfl := h_out h
    exact ret_of (rv_cell 6 tt_ok (by kernel_rfl) ta_38 rfl rfl (RV.tmp (RV.tmp RV.nil))) (le_w [false,false,false,true,true,false,false,false]) ⟨A130,c131,A134,c135,rfl,rfl⟩
   exact rd<|ln 0 tt_ok (en_State (⟨tic165,cou166,xs167,xs171,pro175,eva176,low177,hig178⟩ : State) (⟨(A168,c169),(A172,c173)⟩)) ta_38 rfl<|st 5 tt_ok (en_State (⟨tic165,cou166,xs167,xs171,pro175,eva176,low177,hig178⟩ : State) (⟨(A168,c169),(A172,c173)⟩)) (fn ta_38) rfl<|rd<|rd<|r_num (e' := w64 (x126 + 1)) rfl<|r_le (le_w [false,true,true,false,false,true,true,true])<|rd ⟨m186,lt_s hm186,w64 (x126 + 1),tic165,cou166,xs167,xs171,pro175,eva176,low177,hig178,A168,c169,A172,c173,_,h,fe _,by kernel_rfl⟩
  refine rd<|rd ?_
  replace h := h_m h
  subst hK185
  exact r_le (le_w [true,true,true,true,false])<|rd ⟨tic127,cou128,xs129,xs133,pro137,eva138,low139,hig140,A130,c131,A134,c135,_,h,fe _,by kernel_rfl⟩
 clear h
 rintro fr S ⟨tic187,cou188,xs189,xs193,pro197,eva198,low199,hig200,A190,c191,A194,c195,fr,h,rfl,rfl⟩
 subst hK202
 refine rd<|rb<|ln 2 tt_ok (en_State (⟨tic187,cou188,xs189,xs193,pro197,eva198,low199,hig200⟩ : State) (⟨(A190,c191),(A194,c195)⟩)) ta_38 rfl<|st 3 tt_ok (en_State (⟨tic187,cou188,xs189,xs193,pro197,eva198,low199,hig200⟩ : State) (⟨(A190,c191),(A194,c195)⟩)) (fn ta_38) rfl<|rd ?_
 repeat refine rd ?_
 repeat refine rd ?_
 obtain rfl := h_out h
 exact ret_of (rv_cell 3 tt_ok (by kernel_rfl) ta_38 rfl rfl (RV.tmp (RV.tmp RV.nil))) (le_w [true,true,false,false]) ⟨A190,c191,A194,c195,rfl,rfl⟩
theorem hc_17 {A_l0 : Option Addr} {c_l0 : Nat} {g_c1 : gConfig} {S_l0 : St} (hS_l0 : Le ⟨ρ,L⟩ S_l0) {S_c1 : St} (hS_c1 : Le ⟨ρ,L⟩ S_c1) (l0 : (List Int)) (c1 : Config) (n2 : Int) (h_l0 : Sl S_l0 A_l0 l0.length c_l0 (fl eI64.en l0)) (h_c1 : Sl_Config S_c1 c1 g_c1) {r : State} (h : cellplanemake_State l0 c1 n2 = some r) : HC Tryz.prog 17 #[.slice A_l0 l0.length c_l0,.agg (en_Config c1 g_c1).toArray,ii n2] ⟨ρ,L⟩ (fun v S' => ∃ (Aq1_0 : Option Addr),∃ (cq1_0 : Nat),∃ (Aq1_1 : Option Addr),∃ (cq1_1 : Nat),v = .agg (en_State r (⟨(Aq1_0,cq1_0),(Aq1_1,cq1_1)⟩)).toArray ∧ S' = ⟨ρ,.row Aq1_0 r.Tenants.length cq1_0 58 12 (fl eTenantState.en r.Tenants) :: .row Aq1_1 r.Cells.length cq1_1 54 4 (fl eCellState.en r.Cells) :: L⟩) := by
 replace h := h_in h
 refine HC.intro (N := 21) (args := [_,_,_]) tt_ok Tryz.func17 rfl (by decide +kernel) rfl (Nat.le_of_ble_eq_true rfl)<|rb<|r_bx (en_Config c1 g_c1) (by kernel_rfl) fun bq1 => r_al tt_ok (en_State (⟨0,0,[],[],0,0,0,0⟩ : State) (⟨(none,0),(none,0)⟩)) ti_38 (by kernel_rfl) fun bq2 => rd<|rb ?_
 replace h := h_j h; obtain ⟨K61,h,hK62⟩ := h
 refine r_meet (fun fr S => ∃ (tic47 : Int),∃ (cou48 : Int),∃ (xs49 : (List TenantState)),∃ (xs53 : (List CellState)),∃ (pro57 : Int),∃ (eva58 : Int),∃ (low59 : Int),∃ (hig60 : Int),∃ (bq46 : Nat),∃ (A50 : Option Addr),∃ (c51 : Nat),∃ (A54 : Option Addr),∃ (c55 : Nat),∃ fr0,K61 (tic47,cou48,xs49,xs53,pro57,eva58,low59,hig60) = some r ∧ fr = updL [(6,pp bq2 0),(7,pp bq46 0)] fr0 ∧ S = ⟨ρ,.obj bq46 (en_State (⟨tic47,cou48,xs49,xs53,pro57,eva58,low59,hig60⟩ : State) (⟨(A50,c51),(A54,c55)⟩)) 38 :: .row A50 xs49.length c51 58 12 (fl eTenantState.en xs49) :: .row A54 xs53.length c55 54 4 (fl eCellState.en xs53) :: .obj bq2 (en_State (⟨0,0,[],[],0,0,0,0⟩ : State) (⟨(none,0),(none,0)⟩)) 38 :: L⟩) ?_ ?_
 ·refine r_mix tt_ok hm_ok _ _ [] (.vb 0 (.pure 1 (.vb 2 (.pure 3 (.two 4 10 (.two 5 10 (.pure 6 (.pure 7 (.pure 8 (.pure 9 (.eff 10 (.eff 11 (.pure 12 (.pure 13 .nil)))))))) (.eff 5 (.pure 6 (.pure 7 (.pure 8 (.pure 9 (.eff 11 (.pure 12 (.pure 13 .nil))))))))) (.eff 4 (.eff 5 (.pure 6 (.pure 7 (.pure 8 (.pure 9 (.eff 11 (.pure 12 (.pure 13 .nil)))))))))))))) (le_w [true,true]) (le_w [true,true]) ?_ ?_
  ·decide +kernel
  refine x_vb rfl<|vn 1 tt_ok (en_Config c1 g_c1) ta_30 rfl<|vd<|x_p rfl<|vd<|x_vb rfl<|vn 1 tt_ok (en_Config c1 g_c1) ta_30 rfl<|vd<|x_p rfl<|vd<|x_2 rfl rfl ?_ ?_
  ·replace h := h_b h; obtain ⟨xs4,hx3,h⟩ := h
   refine rc (hc_12 (A_l0 := A_l0) (c_l0 := c_l0) (l0 := l0) (g_c1 := g_c1) (c1 := c1) (n2 := n2) (hS_l0 := by exact (le_d 2).trans hS_l0) (h_l0 :=h_l0) (hS_c1 := by exact (le_d 2).trans hS_c1) (h_c1 :=h_c1) (h := hx3)) ?_
   rintro _ _ ⟨A5,c6,rfl,rfl⟩
   refine rd ⟨rfl,k_a (le_w [false,true,true]) (le_w [false,true,true]),?_⟩
   refine x_2 rfl rfl ?_ ?_
   ·replace h := h_b h; obtain ⟨⟨x9,x10,x11⟩,hx8,h⟩ := h
    refine rc (hc_27 (g_c0 := g_c1) (c0 := c1) (A_l1 := A5) (c_l1 := c6) (l1 := xs4) (hS_c0 := by exact (le_d 3).trans hS_c1) (h_c0 :=h_c1) (hS_l1 := by exact Le.refl _) (h_l1 := by exact sl_row 0 rfl) (h := hx8)) ?_
    rintro _ _ ⟨A12,c13,A15,c16,rfl,rfl⟩
    refine rd ⟨rfl,k_a (le_w [false,false,false,true,true]) (le_w [false,false,false,true,true]),?_⟩
    refine x_p rfl<|vd<|x_p rfl<|vd<|x_p rfl<|vd<|xp [(6,pp bq2 0),(10,.tuple #[.agg (en_State x9 (⟨(A12,c13),(A15,c16)⟩)).toArray,ii x10,ii x11]),(17,.agg (en_State x9 (⟨(A12,c13),(A15,c16)⟩)).toArray),(18,ii x10)] fun fr => x_p rfl<|vd<|x_e rfl<|r_al tt_ok (en_State (⟨0,0,[],[],0,0,0,0⟩ : State) (⟨(none,0),(none,0)⟩)) ti_38 (by kernel_rfl) fun bq18 => rd ⟨rfl,k_a (le_w [false,false,false,false,true,true]) (le_w [false,false,false,false,true,true]),?_⟩
    refine x_e rfl<|st 0 tt_ok (en_State x9 (⟨(A12,c13),(A15,c16)⟩)) (fn ta_38) rfl<|rd ⟨rfl,k_a (le_w [false,false,false,false,true,true]) (le_w [false,false,false,false,true,true]),?_⟩
    exact x_p rfl<|vd<|x_p rfl<|vd<|xk [(6,pp bq2 0),(7,pp bq18 0)] fun fr => r_le (le_w [true,true,true,false,true,false])<|rd ⟨x9.Tick,x9.Count,x9.Tenants,x9.Cells,x9.Proven,x9.Evacuating,x9.Low,x9.High,bq18,A12,c13,A15,c16,_,h,fe _,by kernel_rfl⟩
   refine r_al tt_ok (en_State (⟨0,0,[],[],0,0,0,0⟩ : State) (⟨(none,0),(none,0)⟩)) ti_38 (by kernel_rfl) fun bq19 => rd ⟨rfl,k_a (le_w [false,false,true,true]) (le_w [false,false,true,true]),?_⟩
   refine x_e rfl ?_
   replace h := h_b h; obtain ⟨⟨x21,x22,x23⟩,hx20,h⟩ := h
   refine rc (hc_27 (g_c0 := g_c1) (c0 := c1) (A_l1 := A5) (c_l1 := c6) (l1 := xs4) (hS_c0 := by exact (le_d 4).trans hS_c1) (h_c0 :=h_c1) (hS_l1 := by exact Le.refl _) (h_l1 := by exact sl_row 1 rfl) (h := hx20)) ?_
   rintro _ _ ⟨A24,c25,A27,c28,rfl,rfl⟩
   refine rd ⟨rfl,k_a (le_w [false,false,false,false,true,true]) (le_w [false,false,false,false,true,true]),?_⟩
   refine x_p rfl<|vd<|x_p rfl<|vd<|x_p rfl<|vd<|x_p rfl<|vd<|x_e rfl<|st 2 tt_ok (en_State x21 (⟨(A24,c25),(A27,c28)⟩)) (fn ta_38) rfl<|rd ⟨rfl,k_a (le_w [false,false,false,false,true,true]) (le_w [false,false,false,false,true,true]),?_⟩
   exact x_p rfl<|vd<|x_p rfl<|vd<|xk [(6,pp bq2 0),(7,pp bq19 0)] fun fr => r_le ((le_mv 4).trans ((le_mv 2).trans ((le_mv 2).trans ((le_mv 3).trans (le_w [true,true,true,true,false,false])))))<|rd ⟨x21.Tick,x21.Count,x21.Tenants,x21.Cells,x21.Proven,x21.Evacuating,x21.Low,x21.High,bq19,A24,c25,A27,c28,_,h,fe _,by kernel_rfl⟩
  refine r_al tt_ok (en_State (⟨0,0,[],[],0,0,0,0⟩ : State) (⟨(none,0),(none,0)⟩)) ti_38 (by kernel_rfl) fun bq30 => rd ⟨rfl,k_a (le_w [false,true,true]) (le_w [false,true,true]),?_⟩
  refine x_e rfl ?_
  replace h := h_b h; obtain ⟨xs32,hx31,h⟩ := h
  refine rc (hc_12 (A_l0 := A_l0) (c_l0 := c_l0) (l0 := l0) (g_c1 := g_c1) (c1 := c1) (n2 := n2) (hS_l0 := by exact (le_d 3).trans hS_l0) (h_l0 :=h_l0) (hS_c1 := by exact (le_d 3).trans hS_c1) (h_c1 :=h_c1) (h := hx31)) ?_
  rintro _ _ ⟨A33,c34,rfl,rfl⟩
  refine rd ⟨rfl,k_a (le_w [false,false,true,true]) (le_w [false,false,true,true]),?_⟩
  refine x_e rfl ?_
  replace h := h_b h; obtain ⟨⟨x37,x38,x39⟩,hx36,h⟩ := h
  refine rc (hc_27 (g_c0 := g_c1) (c0 := c1) (A_l1 := A33) (c_l1 := c34) (l1 := xs32) (hS_c0 := by exact (le_d 4).trans hS_c1) (h_c0 :=h_c1) (hS_l1 := by exact Le.refl _) (h_l1 := by exact sl_row 0 rfl) (h := hx36)) ?_
  rintro _ _ ⟨A40,c41,A43,c44,rfl,rfl⟩
  refine rd ⟨rfl,k_a (le_w [false,false,false,false,true,true]) (le_w [false,false,false,false,true,true]),?_⟩
  refine x_p rfl<|vd<|x_p rfl<|vd<|x_p rfl<|vd<|x_p rfl<|vd<|x_e rfl<|st 3 tt_ok (en_State x37 (⟨(A40,c41),(A43,c44)⟩)) (fn ta_38) rfl<|rd ⟨rfl,k_a (le_w [false,false,false,false,true,true]) (le_w [false,false,false,false,true,true]),?_⟩
  exact x_p rfl<|vd<|x_p rfl<|vd<|xk [(6,pp bq2 0),(7,pp bq30 0)] fun fr => r_le ((le_mv 4).trans ((le_mv 2).trans ((le_mv 2).trans ((le_mv 4).trans (le_w [true,true,true,true,false,false])))))<|rd ⟨x37.Tick,x37.Count,x37.Tenants,x37.Cells,x37.Proven,x37.Evacuating,x37.Low,x37.High,bq30,A40,c41,A43,c44,_,h,fe _,by kernel_rfl⟩
 clear h
 rintro fr S ⟨tic47,cou48,xs49,xs53,pro57,eva58,low59,hig60,bq46,A50,c51,A54,c55,fr,h,rfl,rfl⟩
 replace h := hK62 _ h
 refine rd<|rb<|ln 0 tt_ok (en_State (⟨tic47,cou48,xs49,xs53,pro57,eva58,low59,hig60⟩ : State) (⟨(A50,c51),(A54,c55)⟩)) ta_38 rfl<|st 3 tt_ok (en_State (⟨tic47,cou48,xs49,xs53,pro57,eva58,low59,hig60⟩ : State) (⟨(A50,c51),(A54,c55)⟩)) (fn ta_38) rfl<|rd ?_
 repeat refine rd ?_
 repeat refine rd ?_
 obtain rfl := h_out h
 exact ret_of (rv_cell 3 tt_ok (by kernel_rfl) ta_38 rfl rfl RV.nil) (le_w [false,true,true,false]) ⟨A50,c51,A54,c55,rfl,rfl⟩
theorem hc_33o {bt0 : Nat} {g_t0 : gcellplanemake_Tape}  (t0 : cellplanemake_Tape) (n1 : Int)  {r : (Int × Int)} (h : cellplanemake_Tape_Next t0 n1 = some r) : HC Tryz.prog 33 #[pp bt0 0,ii n1] ⟨ρ,.row g_t0.L.1 t0.L.length g_t0.L.2 3 1 (fl eI64.en t0.L) :: .obj bt0 (en_cellplanemake_Tape t0 g_t0) 94 :: L⟩ (fun v S' => v = ii r.1 ∧ S' = ⟨ρ,.row g_t0.L.1 t0.L.length g_t0.L.2 3 1 (fl eI64.en t0.L) :: .obj bt0 (en_cellplanemake_Tape ({ t0 with At := r.2 }) g_t0) 94 :: L⟩) := by
 replace h := h_in h
 refine HC.intro (N := 53) (args := [_,_]) tt_ok Tryz.func33 rfl (by decide +kernel) rfl (Nat.le_of_ble_eq_true rfl)<|rb<|rd<|rb<|rb<|ld 1 tt_ok (v := .slice g_t0.L.1 t0.L.length g_t0.L.2) ts_22 rfl<|rd ?_
 apply r_iteh h<;>clear h<;>intro h
 ·refine rb<|rd ?_
  repeat refine rd ?_
  repeat refine rd ?_
  obtain rfl := h_out h
  exact ret_of (RV.tmp RV.nil) (Le.refl _) ⟨rfl,rfl⟩
 refine rd<|rb<|r_mix tt_ok hm_ok _ _ [] (.pure 0 (.pure 1 (.pure 2 (.vb 3 (.pure 4 (.pure 5 (.pure 6 (.vb 7 (.pure 8 (.pure 9 (.pure 10 (.vb 11 (.pure 12 (.pure 13 (.vb 14 (.vb 15 (.pure 16 .nil))))))))))))))))) (le_w [true,true]) (le_w [true,true]) ?_ ?_
 ·decide +kernel
 refine x_p rfl<|vd<|x_p rfl<|vd<|xp [(0,pp bt0 0),(1,ii n1),(14,pp bt0 0)] fun fr => x_p rfl<|vd<|x_vb rfl<|vl 1 tt_ok (v := .slice g_t0.L.1 t0.L.length g_t0.L.2) ts_22 rfl<|vd<|x_p rfl<|vd<|x_p rfl ?_
 refine vd<|x_p rfl<|vd<|x_vb rfl<|vl 1 tt_ok (v := ii t0.At) ts_3 rfl<|vd<|x_p rfl<|vd<|x_p rfl<|vd<|x_p rfl<|vd<|xp [(0,pp bt0 0),(1,ii n1),(16,.slice g_t0.L.1 t0.L.length g_t0.L.2),(20,ii t0.At),(23,pp bt0 0)] fun fr => ?_
 refine x_vb rfl<|vl 1 tt_ok (v := .slice g_t0.L.1 t0.L.length g_t0.L.2) ts_22 rfl<|vd<|x_p rfl<|vd<|x_p rfl ?_
 replace h := h_p h; obtain ⟨hc2,h⟩ := h
 refine v_check hc2<|v_num (e' := Int.tmod t0.At (t0.L.length : Int)) rfl<|vd<|x_vb rfl ?_
 replace h := h_b h; obtain ⟨x3,hx4,h⟩ := h
 refine v_el hx4 (rd_row 0 rfl)<|vd<|x_vb rfl<|v_lec (E := eI64) tt_ok (v := ii x3) (idx_get hx4) (rd_row 0 rfl) ts_3 rfl (pl0 _ _) (by kernel_rfl)<|vd<|x_p rfl<|vd<|xk [(0,pp bt0 0),(1,ii n1),(5,ii x3)] fun fr => rd<|rb<|r_mix tt_ok hm_ok _ _ [] (.pure 0 (.pure 1 (.pure 2 (.vb 3 (.pure 4 (.pure 5 (.pure 6 (.vb 7 (.pure 8 (.pure 9 (.pure 10 .nil))))))))))) (le_w [true,true]) (le_w [true,true]) ?_ ?_
 ·decide +kernel
 refine x_p rfl<|vd<|x_p rfl<|vd<|x_p rfl<|vd<|x_vb rfl<|vl 1 tt_ok (v := ii t0.At) ts_3 rfl<|vd<|x_p rfl<|vd<|x_p rfl<|vd ?_
 refine x_p rfl<|vd<|x_vb rfl<|vl 1 tt_ok (v := .slice g_t0.L.1 t0.L.length g_t0.L.2) ts_22 rfl<|vd<|x_p rfl<|vd<|xp [(0,pp bt0 0),(1,ii n1),(5,ii x3),(32,ii t0.At),(37,ii (t0.L.length : Int))] fun fr => x_p rfl ?_
 replace h := h_p h; obtain ⟨hc5,h⟩ := h
 refine v_check hc5<|v_num (e' := w64 (Int.tdiv t0.At (t0.L.length : Int))) rfl<|vd<|x_p rfl<|vd<|xk [(0,pp bt0 0),(1,ii n1),(5,ii x3),(6,ii (w64 (Int.tdiv t0.At (t0.L.length : Int))))] fun fr => rd<|rb<|ld 1 tt_ok (v := ii t0.At) ts_3 rfl<|r_num (e' := w64 (t0.At + 1)) rfl<|st 1 tt_ok (en_cellplanemake_Tape ({ t0 with At := w64 (t0.At + 1) }) g_t0) (f1 ts_3) rfl<|rd<|rb ?_
 replace h := h_b h; obtain ⟨x7,hx6,h⟩ := h
 refine rc (hc_13 (v0 := x3) (n1 := 1073741824) (h := hx6)) ?_
 rintro _ _ ⟨rfl,rfl⟩
 refine kp [(1,ii n1),(6,ii (w64 (Int.tdiv t0.At (t0.L.length : Int)))),(47,ii x7)] fun fr => r_num (e' := w64 ((w64 (Int.tdiv t0.At (t0.L.length : Int))) * 7)) rfl<|r_num (e' := w64 (x7 + (w64 ((w64 (Int.tdiv t0.At (t0.L.length : Int))) * 7)))) rfl ?_
 replace h := h_b h; obtain ⟨x9,hx8,h⟩ := h
 refine rc (hc_13 (v0 := w64 (x7 + (w64 ((w64 (Int.tdiv t0.At (t0.L.length : Int))) * 7)))) (n1 := n1) (h := hx8)) ?_
 rintro _ _ ⟨rfl,rfl⟩
 refine rd ?_
 repeat refine rd ?_
 repeat refine rd ?_
 obtain rfl := h_out h
 exact ret_of (RV.tmp RV.nil) (Le.refl _) ⟨rfl,rfl⟩
theorem hc_35o {bt0 : Nat} {g_t0 : gcellplanemake_Tape}  (t0 : cellplanemake_Tape) (n1 : Int)  {r : (Bool × Int)} (h : cellplanemake_Tape_Yes t0 n1 = some r) : HC Tryz.prog 35 #[pp bt0 0,ii n1] ⟨ρ,.row g_t0.L.1 t0.L.length g_t0.L.2 3 1 (fl eI64.en t0.L) :: .obj bt0 (en_cellplanemake_Tape t0 g_t0) 94 :: L⟩ (fun v S' => v = .bool r.1 ∧ S' = ⟨ρ,.row g_t0.L.1 t0.L.length g_t0.L.2 3 1 (fl eI64.en t0.L) :: .obj bt0 (en_cellplanemake_Tape ({ t0 with At := r.2 }) g_t0) 94 :: L⟩) := by
 replace h := h_in h
 refine HC.intro (N := 9) (args := [_,_]) tt_ok Tryz.func35 rfl (by decide +kernel) rfl (Nat.le_of_ble_eq_true rfl)<|rb<|rd<|rb ?_
 replace h := h_b h; obtain ⟨⟨x2,x3⟩,hx1,h⟩ := h
 refine rc (hc_33o (bt0 := bt0) (g_t0 := g_t0) (t0 := t0) (n1 := n1) (h := hx1)) ?_
 rintro _ _ ⟨rfl,rfl⟩
 refine rd ?_
 repeat refine rd ?_
 repeat refine rd ?_
 obtain rfl := h_out h
 exact ret_of (RV.tmp RV.nil) (Le.refl _) ⟨rfl,rfl⟩
theorem hc_34o {bt0 : Nat} {g_t0 : gcellplanemake_Tape}  (t0 : cellplanemake_Tape) (low1 : Int) (high2 : Int)  {r : (Int × Int)} (h : cellplanemake_Tape_Range t0 low1 high2 = some r) : HC Tryz.prog 34 #[pp bt0 0,ii low1,ii high2] ⟨ρ,.row g_t0.L.1 t0.L.length g_t0.L.2 3 1 (fl eI64.en t0.L) :: .obj bt0 (en_cellplanemake_Tape t0 g_t0) 94 :: L⟩ (fun v S' => v = ii r.1 ∧ S' = ⟨ρ,.row g_t0.L.1 t0.L.length g_t0.L.2 3 1 (fl eI64.en t0.L) :: .obj bt0 (en_cellplanemake_Tape ({ t0 with At := r.2 }) g_t0) 94 :: L⟩) := by
 replace h := h_in h
 refine HC.intro (N := 15) (args := [_,_,_]) tt_ok Tryz.func34 rfl (by decide +kernel) rfl (Nat.le_of_ble_eq_true rfl)<|rb<|rd<|rb<|r_num (e' := w64 (high2 - low1)) rfl<|r_num (e' := w64 ((w64 (high2 - low1)) + 1)) rfl ?_
 replace h := h_b h; obtain ⟨⟨x2,x3⟩,hx1,h⟩ := h
 refine rc (hc_33o (bt0 := bt0) (g_t0 := g_t0) (t0 := t0) (n1 := w64 ((w64 (high2 - low1)) + 1)) (h := hx1)) ?_
 rintro _ _ ⟨rfl,rfl⟩
 refine r_num (e' := w64 (low1 + x2)) rfl<|kp [(6,ii 0),(14,ii (w64 (low1 + x2)))] fun fr => rd ?_
 repeat refine rd ?_
 repeat refine rd ?_
 obtain rfl := h_out h
 exact ret_of (RV.tmp RV.nil) (Le.refl _) ⟨rfl,rfl⟩
theorem hc_42o {bt0 : Nat} {g_t0 : gcellplanemake_Tape} {g_c1 : gConfig} {g_s2 : gState} {S_c1 : St} (hS_c1 : Le ⟨ρ,L⟩ S_c1) {S_s2 : St} (hS_s2 : Le ⟨ρ,L⟩ S_s2) (t0 : cellplanemake_Tape) (c1 : Config) (s2 : State) (tick3 : Int) (h_c1 : Sl_Config S_c1 c1 g_c1) (h_s2 : Sl_State S_s2 s2 g_s2) {r : (Entry × Int)} (h : cellplanemake_platform t0 c1 s2 tick3 = some r) : HC Tryz.prog 42 #[pp bt0 0,.agg (en_Config c1 g_c1).toArray,.agg (en_State s2 g_s2).toArray,ii tick3] ⟨ρ,.row g_t0.L.1 t0.L.length g_t0.L.2 3 1 (fl eI64.en t0.L) :: .obj bt0 (en_cellplanemake_Tape t0 g_t0) 94 :: L⟩ (fun v S' => v = .agg (en_Entry r.1).toArray ∧ S' = ⟨ρ,.row g_t0.L.1 t0.L.length g_t0.L.2 3 1 (fl eI64.en t0.L) :: .obj bt0 (en_cellplanemake_Tape ({ t0 with At := r.2 }) g_t0) 94 :: L⟩) := by
 replace h := h_in h
 refine HC.intro (N := 112) (args := [_,_,_,_]) tt_ok Tryz.func42 rfl (by decide +kernel) rfl (Nat.le_of_ble_eq_true rfl)<|rb<|r_bx (en_Config c1 g_c1) (by kernel_rfl) fun bq1 => r_bx (en_State s2 g_s2) (by kernel_rfl) fun bq2 => r_al tt_ok (en_Entry (⟨0,0,0,0,0,0,0,0,0⟩ : Entry)) ti_45 (by kernel_rfl) fun bq3 => rd<|rb<|rc (hc_43 (kind0 := 16) (tick1 := tick3)) ?_
 rintro _ _ ⟨rfl,rfl⟩
 refine r_al tt_ok (en_Entry (⟨0,0,0,0,0,0,0,0,0⟩ : Entry)) ti_45 (by kernel_rfl) fun bq4 => st 0 tt_ok (en_Entry (cellplanemake_none 16 tick3)) (fn ta_45) rfl<|rd<|rb<|ld 3 tt_ok (v := .slice g_c1.Cells.1 c1.Cells.length g_c1.Cells.2) ts_26 rfl<|kp [(0,pp bt0 0),(3,ii tick3),(5,pp bq1 0),(6,pp bq2 0),(8,pp bq3 0),(9,pp bq4 0),(14,pp bt0 0),(16,.slice g_c1.Cells.1 c1.Cells.length g_c1.Cells.2)] fun fr => r_le ((le_mv 5).trans (le_mv 5)) ?_
 replace h := h_b h; obtain ⟨⟨x6,x7⟩,hx5,h⟩ := h
 refine rc (hc_33o (bt0 := bt0) (g_t0 := g_t0) (t0 := t0) (n1 := (c1.Cells.length : Int)) (h := hx5)) ?_
 rintro _ _ ⟨rfl,rfl⟩
 refine rd<|rb<|ld 4 tt_ok (v := .slice g_s2.Cells.1 s2.Cells.length g_s2.Cells.2) ts_36 rfl ?_
 replace h := h_b h; obtain ⟨x8,hx9,h⟩ := h
 refine r_el hx9 ((h_s2.2).rd.mono ((le_d 6).trans hS_s2))<|r_len (E := eCellState) tt_ok (en_CellState x8) (idx_get hx9) ((h_s2.2).rd.mono ((le_d 6).trans hS_s2)) ta_54 rfl (pl0 _ _) (by kernel_rfl) (by kernel_rfl)<|r_al tt_ok (en_CellState (⟨0,0,0,0⟩ : CellState)) ti_54 (by kernel_rfl) fun bq10 => kp [(0,pp bt0 0),(3,ii tick3),(5,pp bq1 0),(6,pp bq2 0),(8,pp bq3 0),(9,pp bq4 0),(10,ii x6),(11,pp bq10 0),(23,.agg (en_CellState x8).toArray)] fun fr => st 0 tt_ok (en_CellState x8) (fn ta_54) rfl<|rd<|rb<|rb<|r_le ((le_mv 2).trans (le_mv 2)) ?_
 replace h := h_b h; obtain ⟨⟨x12,x13⟩,hx11,h⟩ := h
 refine rc (hc_33o (bt0 := bt0) (g_t0 := g_t0) (t0 := { t0 with At := x7 }) (n1 := 12) (h := hx11)) ?_
 rintro _ _ ⟨rfl,rfl⟩
 refine rd<|rb<|rb<|rd ?_
 apply r_iteh h<;>clear h<;>intro h
 ·replace h := h_b h; obtain ⟨⟨x16,x17⟩,hx15,h⟩ := h
  refine rc (hc_34o (bt0 := bt0) (g_t0 := g_t0) (t0 := { t0 with At := x13 }) (low1 := 1) (high2 := 3) (h := hx15)) ?_
  rintro _ _ ⟨rfl,rfl⟩
  refine st 3 tt_ok (en_Entry ({ (cellplanemake_none 16 tick3) with Kind := 9 })) (f1 ts_3) rfl<|kp [(8,pp bq3 0),(9,pp bq4 0),(31,ii x6),(33,ii x16)] fun fr => st 3 tt_ok (en_Entry ({ (cellplanemake_none 16 tick3) with Kind := 9,Cell := x6 })) (f1 ts_3) rfl<|st 3 tt_ok (en_Entry ({ (cellplanemake_none 16 tick3) with Kind := 9,Cell := x6,N := x16 })) (f1 ts_3) rfl<|rd<|rd<|rb<|ln 3 tt_ok (en_Entry ({ (cellplanemake_none 16 tick3) with Kind := 9,Cell := x6,N := x16 })) ta_45 rfl<|st 4 tt_ok (en_Entry ({ (cellplanemake_none 16 tick3) with Kind := 9,Cell := x6,N := x16 })) (fn ta_45) rfl<|rd ?_
  repeat refine rd ?_
  repeat refine rd ?_
  obtain rfl := h_out h
  exact ret_of (rv_cell 4 tt_ok (by kernel_rfl) ta_45 rfl rfl RV.nil) (le_w [true,true,false,false,false,false,false]) ⟨rfl,rfl⟩
 refine rb<|rd ?_
 apply r_iteh h<;>clear h<;>intro h
 ·refine st 3 tt_ok (en_Entry ({ (cellplanemake_none 16 tick3) with Kind := 9 })) (f1 ts_3) rfl<|kp [(8,pp bq3 0),(9,pp bq4 0),(39,ii x6)] fun fr => st 3 tt_ok (en_Entry ({ (cellplanemake_none 16 tick3) with Kind := 9,Cell := x6 })) (f1 ts_3) rfl<|st 3 tt_ok (en_Entry ({ (cellplanemake_none 16 tick3) with Kind := 9,Cell := x6,N := 1 })) (f1 ts_3) rfl<|rd<|rd<|rb<|ln 3 tt_ok (en_Entry ({ (cellplanemake_none 16 tick3) with Kind := 9,Cell := x6,N := 1 })) ta_45 rfl<|st 4 tt_ok (en_Entry ({ (cellplanemake_none 16 tick3) with Kind := 9,Cell := x6,N := 1 })) (fn ta_45) rfl<|rd ?_
  repeat refine rd ?_
  repeat refine rd ?_
  obtain rfl := h_out h
  exact ret_of (rv_cell 4 tt_ok (by kernel_rfl) ta_45 rfl rfl RV.nil) (le_w [true,true,false,false,false,false,false]) ⟨rfl,rfl⟩
 refine rb ?_
 replace h := h_j h; obtain ⟨K22,h,hK23⟩ := h
 refine r_meet (fun fr S => ∃ (x21 : Bool),∃ fr0,K22 x21 = some r ∧ fr = updL [(0,pp bt0 0),(3,ii tick3),(5,pp bq1 0),(6,pp bq2 0),(8,pp bq3 0),(9,pp bq4 0),(10,ii x6),(11,pp bq10 0),(25,ii x12),(43,.bool x21)] fr0 ∧ S = ⟨ρ,.row g_t0.L.1 t0.L.length g_t0.L.2 3 1 (fl eI64.en t0.L) :: .obj bt0 (en_cellplanemake_Tape ({ t0 with At := x13 }) g_t0) 94 :: .obj bq10 (en_CellState x8) 54 :: .obj bq4 (en_Entry (cellplanemake_none 16 tick3)) 45 :: .obj bq3 (en_Entry (⟨0,0,0,0,0,0,0,0,0⟩ : Entry)) 45 :: .obj bq2 (en_State s2 g_s2) 38 :: .obj bq1 (en_Config c1 g_c1) 30 :: L⟩) ?_ ?_
 ·refine rb<|rd ?_
  apply r_iteh h<;>clear h<;>intro h
  ·exact rd ⟨true,_,h,fe _,by kernel_rfl⟩
  refine rb<|rd ?_
  apply r_iteh h<;>clear h<;>intro h
  ·exact rd ⟨true,_,h,fe _,by kernel_rfl⟩
  exact rd ⟨decide (x12 = 4),_,h,fe _,by kernel_rfl⟩
 clear h
 rintro fr S ⟨x21,fr,h,rfl,rfl⟩
 replace h := hK23 _ h
 refine rd ?_
 apply r_iteh h<;>clear h<;>intro h
 ·refine ld 6 tt_ok (v := .slice g_c1.Versions.1 c1.Versions.length g_c1.Versions.2) ts_28 rfl ?_
  replace h := h_b h; obtain ⟨⟨x26,x27⟩,hx25,h⟩ := h
  refine rc (hc_33o (bt0 := bt0) (g_t0 := g_t0) (t0 := { t0 with At := x13 }) (n1 := (c1.Versions.length : Int)) (h := hx25)) ?_
  rintro _ _ ⟨rfl,rfl⟩
  refine st 3 tt_ok (en_Entry ({ (cellplanemake_none 16 tick3) with Kind := 10 })) (f1 ts_3) rfl<|st 3 tt_ok (en_Entry ({ (cellplanemake_none 16 tick3) with Kind := 10,Cell := x6 })) (f1 ts_3) rfl<|kp [(8,pp bq3 0),(9,pp bq4 0),(52,ii x26)] fun fr => st 3 tt_ok (en_Entry ({ (cellplanemake_none 16 tick3) with Kind := 10,Cell := x6,N := x26 })) (f1 ts_3) rfl<|rd<|rd<|rb<|ln 3 tt_ok (en_Entry ({ (cellplanemake_none 16 tick3) with Kind := 10,Cell := x6,N := x26 })) ta_45 rfl<|st 4 tt_ok (en_Entry ({ (cellplanemake_none 16 tick3) with Kind := 10,Cell := x6,N := x26 })) (fn ta_45) rfl<|rd ?_
  repeat refine rd ?_
  repeat refine rd ?_
  obtain rfl := h_out h
  exact ret_of (rv_cell 4 tt_ok (by kernel_rfl) ta_45 rfl rfl RV.nil) (le_w [true,true,false,false,false,false,false]) ⟨rfl,rfl⟩
 refine rb ?_
 replace h := h_j h; obtain ⟨K31,h,hK32⟩ := h
 refine r_meet (fun fr S => ∃ (x30 : Bool),∃ fr0,K31 x30 = some r ∧ fr = updL [(0,pp bt0 0),(3,ii tick3),(5,pp bq1 0),(6,pp bq2 0),(8,pp bq3 0),(9,pp bq4 0),(10,ii x6),(11,pp bq10 0),(25,ii x12),(56,.bool x30)] fr0 ∧ S = ⟨ρ,.row g_t0.L.1 t0.L.length g_t0.L.2 3 1 (fl eI64.en t0.L) :: .obj bt0 (en_cellplanemake_Tape ({ t0 with At := x13 }) g_t0) 94 :: .obj bq10 (en_CellState x8) 54 :: .obj bq4 (en_Entry (cellplanemake_none 16 tick3)) 45 :: .obj bq3 (en_Entry (⟨0,0,0,0,0,0,0,0,0⟩ : Entry)) 45 :: .obj bq2 (en_State s2 g_s2) 38 :: .obj bq1 (en_Config c1 g_c1) 30 :: L⟩) ?_ ?_
 ·refine rb<|rd ?_
  apply r_iteh h<;>clear h<;>intro h
  ·exact rd ⟨true,_,h,fe _,by kernel_rfl⟩
  refine rb<|rd ?_
  apply r_iteh h<;>clear h<;>intro h
  ·exact rd ⟨true,_,h,fe _,by kernel_rfl⟩
  exact rd ⟨decide (x12 = 7),_,h,fe _,by kernel_rfl⟩
 clear h
 rintro fr S ⟨x30,fr,h,rfl,rfl⟩
 replace h := hK32 _ h
 refine rd ?_
 apply r_iteh h<;>clear h<;>intro h
 ·refine rb<|r_mix tt_ok hm_ok _ _ [] (.pure 0 (.pure 1 (.vb 2 (.pure 3 (.eff 4 (.pure 5 (.eff 6 (.pure 7 (.eff 8 .nil))))))))) (le_w [true,true,true,false,true,true,true]) (le_w [true,true,true,false,true,true,true]) ?_ ?_
  ·decide +kernel
  refine x_p rfl<|vd<|x_p rfl<|vd<|x_vb rfl<|vl 2 tt_ok (v := ii x8.Wanted) ts_3 rfl<|vd<|x_p rfl<|vd<|x_e rfl<|st 3 tt_ok (en_Entry ({ (cellplanemake_none 16 tick3) with Kind := 11 })) (f1 ts_3) rfl<|rd ⟨rfl,k_a (le_w [true,true,true,false,true,true,true]) (le_w [true,true,true,false,true,true,true]),?_⟩
  refine x_p rfl<|vd<|x_e rfl<|st 3 tt_ok (en_Entry ({ (cellplanemake_none 16 tick3) with Kind := 11,Cell := x6 })) (f1 ts_3) rfl<|rd ⟨rfl,k_a (le_w [true,true,true,false,true,true,true]) (le_w [true,true,true,false,true,true,true]),?_⟩
  refine x_p rfl<|vd<|x_e rfl<|st 3 tt_ok (en_Entry ({ (cellplanemake_none 16 tick3) with Kind := 11,Cell := x6,N := x8.Wanted })) (f1 ts_3) rfl<|rd ⟨rfl,k_a (le_w [true,true,true,false,true,true,true]) (le_w [true,true,true,false,true,true,true]),?_⟩
  refine xk [(0,pp bt0 0),(3,ii tick3),(5,pp bq1 0),(8,pp bq3 0),(9,pp bq4 0)] fun fr => rd<|ld 6 tt_ok (v := ii c1.Lease) ts_3 rfl ?_
  replace h := h_b h; obtain ⟨⟨x35,x36⟩,hx34,h⟩ := h
  refine rc (hc_33o (bt0 := bt0) (g_t0 := g_t0) (t0 := { t0 with At := x13 }) (n1 := c1.Lease) (h := hx34)) ?_
  rintro _ _ ⟨rfl,rfl⟩
  refine r_num (e' := w64 (tick3 + x35)) rfl<|st 3 tt_ok (en_Entry ({ (cellplanemake_none 16 tick3) with Kind := 11,Tick := w64 (tick3 + x35),Cell := x6,N := x8.Wanted })) (f1 ts_3) rfl<|rd<|rd<|rb<|ln 3 tt_ok (en_Entry ({ (cellplanemake_none 16 tick3) with Kind := 11,Tick := w64 (tick3 + x35),Cell := x6,N := x8.Wanted })) ta_45 rfl<|kp [(8,pp bq3 0),(111,.agg (en_Entry ({ (cellplanemake_none 16 tick3) with Kind := 11,Tick := w64 (tick3 + x35),Cell := x6,N := x8.Wanted })).toArray)] fun fr => st 4 tt_ok (en_Entry ({ (cellplanemake_none 16 tick3) with Kind := 11,Tick := w64 (tick3 + x35),Cell := x6,N := x8.Wanted })) (fn ta_45) rfl<|rd ?_
  repeat refine rd ?_
  repeat refine rd ?_
  obtain rfl := h_out h
  exact ret_of (rv_cell 4 tt_ok (by kernel_rfl) ta_45 rfl rfl RV.nil) (le_w [true,true,false,false,false,false,false]) ⟨rfl,rfl⟩
 refine rb<|rd ?_
 apply r_iteh h<;>clear h<;>intro h
 ·refine rb<|r_mix tt_ok hm_ok _ _ [] (.pure 0 (.vb 1 (.pure 2 (.eff 3 (.pure 4 (.eff 5 .nil)))))) (le_w [true,true,true,false,true,true,true]) (le_w [true,true,true,false,true,true,true]) ?_ ?_
  ·decide +kernel
  refine x_p rfl<|vd<|x_vb rfl<|vl 2 tt_ok (v := ii x8.Running) ts_3 rfl<|vd<|x_p rfl<|vd<|x_e rfl<|st 3 tt_ok (en_Entry ({ (cellplanemake_none 16 tick3) with Kind := 12 })) (f1 ts_3) rfl<|rd ⟨rfl,k_a (le_w [true,true,true,false,true,true,true]) (le_w [true,true,true,false,true,true,true]),?_⟩
  refine x_p rfl<|vd<|x_e rfl<|st 3 tt_ok (en_Entry ({ (cellplanemake_none 16 tick3) with Kind := 12,N := x8.Running })) (f1 ts_3) rfl<|rd ⟨rfl,k_a (le_w [true,true,true,false,true,true,true]) (le_w [true,true,true,false,true,true,true]),?_⟩
  refine xk [(0,pp bt0 0),(3,ii tick3),(5,pp bq1 0),(8,pp bq3 0),(9,pp bq4 0)] fun fr => rd<|ld 6 tt_ok (v := ii c1.Bake) ts_3 rfl<|r_num (e' := w64 (c1.Bake + 1)) rfl ?_
  replace h := h_b h; obtain ⟨⟨x39,x40⟩,hx38,h⟩ := h
  refine rc (hc_33o (bt0 := bt0) (g_t0 := g_t0) (t0 := { t0 with At := x13 }) (n1 := w64 (c1.Bake + 1)) (h := hx38)) ?_
  rintro _ _ ⟨rfl,rfl⟩
  refine r_num (e' := w64 (tick3 + x39)) rfl<|st 3 tt_ok (en_Entry ({ (cellplanemake_none 16 tick3) with Kind := 12,Tick := w64 (tick3 + x39),N := x8.Running })) (f1 ts_3) rfl<|kr [(8,pp bq3 0),(9,pp bq4 0)] fun fr => rd<|rd<|rb<|ln 3 tt_ok (en_Entry ({ (cellplanemake_none 16 tick3) with Kind := 12,Tick := w64 (tick3 + x39),N := x8.Running })) ta_45 rfl<|st 4 tt_ok (en_Entry ({ (cellplanemake_none 16 tick3) with Kind := 12,Tick := w64 (tick3 + x39),N := x8.Running })) (fn ta_45) rfl<|rd ?_
  repeat refine rd ?_
  repeat refine rd ?_
  obtain rfl := h_out h
  exact ret_of (rv_cell 4 tt_ok (by kernel_rfl) ta_45 rfl rfl RV.nil) (le_w [true,true,false,false,false,false,false]) ⟨rfl,rfl⟩
 refine rb<|rd ?_
 apply r_iteh h<;>clear h<;>intro h
 ·refine rb<|ld 6 tt_ok (v := ii c1.Regions) ts_3 rfl ?_
  replace h := h_b h; obtain ⟨⟨x43,x44⟩,hx42,h⟩ := h
  refine rc (hc_33o (bt0 := bt0) (g_t0 := g_t0) (t0 := { t0 with At := x13 }) (n1 := c1.Regions) (h := hx42)) ?_
  rintro _ _ ⟨rfl,rfl⟩
  refine st 3 tt_ok (en_Entry ({ (cellplanemake_none 16 tick3) with Kind := 13 })) (f1 ts_3) rfl<|kp [(6,pp bq2 0),(8,pp bq3 0),(9,pp bq4 0),(92,ii x43)] fun fr => st 3 tt_ok (en_Entry ({ (cellplanemake_none 16 tick3) with Kind := 13,Other := x43 })) (f1 ts_3) rfl<|st 3 tt_ok (en_Entry ({ (cellplanemake_none 16 tick3) with Kind := 13,Other := x43,N := 1 })) (f1 ts_3) rfl<|rd<|rb<|ld 5 tt_ok (v := ii s2.Evacuating) ts_3 rfl<|ld 3 tt_ok (v := ii x43) ts_3 rfl<|rc (hc_60 (set0 := s2.Evacuating) (i1 := x43)) ?_
  rintro _ _ ⟨rfl,rfl⟩
  refine kr [(8,pp bq3 0),(9,pp bq4 0),(100,.bool (cellplaneref04_Has s2.Evacuating x43))] fun fr => rd ?_
  apply r_iteh h<;>clear h<;>intro h
  ·refine st 3 tt_ok (en_Entry ({ (cellplanemake_none 16 tick3) with Kind := 13,Other := x43,N := 0 })) (f1 ts_3) rfl<|rd<|rd<|rb<|ln 3 tt_ok (en_Entry ({ (cellplanemake_none 16 tick3) with Kind := 13,Other := x43,N := 0 })) ta_45 rfl<|st 4 tt_ok (en_Entry ({ (cellplanemake_none 16 tick3) with Kind := 13,Other := x43,N := 0 })) (fn ta_45) rfl<|rd ?_
   repeat refine rd ?_
   repeat refine rd ?_
   obtain rfl := h_out h
   exact ret_of (rv_cell 4 tt_ok (by kernel_rfl) ta_45 rfl rfl RV.nil) (le_w [true,true,false,false,false,false,false]) ⟨rfl,rfl⟩
  refine rd<|rd<|rb<|ln 3 tt_ok (en_Entry ({ (cellplanemake_none 16 tick3) with Kind := 13,Other := x43,N := 1 })) ta_45 rfl<|st 4 tt_ok (en_Entry ({ (cellplanemake_none 16 tick3) with Kind := 13,Other := x43,N := 1 })) (fn ta_45) rfl<|rd ?_
  repeat refine rd ?_
  repeat refine rd ?_
  obtain rfl := h_out h
  exact ret_of (rv_cell 4 tt_ok (by kernel_rfl) ta_45 rfl rfl RV.nil) (le_w [true,true,false,false,false,false,false]) ⟨rfl,rfl⟩
 refine rb<|rd ?_
 apply r_iteh h<;>clear h<;>intro h
 ·refine rb<|st 3 tt_ok (en_Entry ({ (cellplanemake_none 16 tick3) with Kind := 14 })) (f1 ts_3) rfl<|rd<|rb<|ld 5 tt_ok (v := ii s2.High) ts_3 rfl<|kp [(6,pp bq2 0),(8,pp bq3 0),(9,pp bq4 0),(106,ii s2.High)] fun fr => ld 5 tt_ok (v := ii s2.Low) ts_3 rfl<|rd ?_
  apply r_iteh h<;>clear h<;>intro h
  ·refine st 3 tt_ok (en_Entry ({ (cellplanemake_none 16 tick3) with Kind := 15 })) (f1 ts_3) rfl<|rd<|rd<|rb<|ln 3 tt_ok (en_Entry ({ (cellplanemake_none 16 tick3) with Kind := 15 })) ta_45 rfl<|st 4 tt_ok (en_Entry ({ (cellplanemake_none 16 tick3) with Kind := 15 })) (fn ta_45) rfl<|rd ?_
   repeat refine rd ?_
   repeat refine rd ?_
   obtain rfl := h_out h
   exact ret_of (rv_cell 4 tt_ok (by kernel_rfl) ta_45 rfl rfl RV.nil) (le_w [true,true,false,false,false,false,false]) ⟨rfl,rfl⟩
  refine rd<|rd<|rb<|ln 3 tt_ok (en_Entry ({ (cellplanemake_none 16 tick3) with Kind := 14 })) ta_45 rfl<|st 4 tt_ok (en_Entry ({ (cellplanemake_none 16 tick3) with Kind := 14 })) (fn ta_45) rfl<|rd ?_
  repeat refine rd ?_
  repeat refine rd ?_
  obtain rfl := h_out h
  exact ret_of (rv_cell 4 tt_ok (by kernel_rfl) ta_45 rfl rfl RV.nil) (le_w [true,true,false,false,false,false,false]) ⟨rfl,rfl⟩
 replace h := h_b h; obtain ⟨⟨x49,x50⟩,hx48,h⟩ := h
 refine rc (hc_33o (bt0 := bt0) (g_t0 := g_t0) (t0 := { t0 with At := x13 }) (n1 := 100) (h := hx48)) ?_
 rintro _ _ ⟨rfl,rfl⟩
 refine st 3 tt_ok (en_Entry ({ (cellplanemake_none 16 tick3) with N := x49 })) (f1 ts_3) rfl<|kr [(8,pp bq3 0),(9,pp bq4 0)] fun fr => rd<|rd<|rb<|ln 3 tt_ok (en_Entry ({ (cellplanemake_none 16 tick3) with N := x49 })) ta_45 rfl<|st 4 tt_ok (en_Entry ({ (cellplanemake_none 16 tick3) with N := x49 })) (fn ta_45) rfl<|rd ?_
 repeat refine rd ?_
 repeat refine rd ?_
 obtain rfl := h_out h
 exact ret_of (rv_cell 4 tt_ok (by kernel_rfl) ta_45 rfl rfl RV.nil) (le_w [true,true,false,false,false,false,false]) ⟨rfl,rfl⟩
theorem hc_44o {bt0 : Nat} {g_t0 : gcellplanemake_Tape} {A_l1 : Option Addr} {c_l1 : Nat} {S_l1 : St} (hS_l1 : Le ⟨ρ,L⟩ S_l1) (t0 : cellplanemake_Tape) (l1 : (List Int)) (h_l1 : Sl S_l1 A_l1 l1.length c_l1 (fl eI64.en l1)) {r : (Int × Int)} (h : cellplanemake_pick t0 l1 = some r) : HC Tryz.prog 44 #[pp bt0 0,.slice A_l1 l1.length c_l1] ⟨ρ,.row g_t0.L.1 t0.L.length g_t0.L.2 3 1 (fl eI64.en t0.L) :: .obj bt0 (en_cellplanemake_Tape t0 g_t0) 94 :: L⟩ (fun v S' => v = ii r.1 ∧ S' = ⟨ρ,.row g_t0.L.1 t0.L.length g_t0.L.2 3 1 (fl eI64.en t0.L) :: .obj bt0 (en_cellplanemake_Tape ({ t0 with At := r.2 }) g_t0) 94 :: L⟩) := by
 replace h := h_in h
 refine HC.intro (N := 15) (args := [_,_]) tt_ok Tryz.func44 rfl (by decide +kernel) rfl (Nat.le_of_ble_eq_true rfl)<|rb<|rd<|rb<|rb<|rd ?_
 apply r_iteh h<;>clear h<;>intro h
 ·refine rb<|rd ?_
  repeat refine rd ?_
  repeat refine rd ?_
  obtain rfl := h_out h
  exact ret_of (RV.tmp RV.nil) (Le.refl _) ⟨rfl,rfl⟩
 refine rd<|rb ?_
 replace h := h_b h; obtain ⟨⟨x3,x4⟩,hx2,h⟩ := h
 refine rc (hc_33o (bt0 := bt0) (g_t0 := g_t0) (t0 := t0) (n1 := (l1.length : Int)) (h := hx2)) ?_
 rintro _ _ ⟨rfl,rfl⟩
 refine kp [(4,ii 0),(8,.slice A_l1 l1.length c_l1),(12,ii x3)] fun fr => ?_
 replace h := h_b h; obtain ⟨x5,hx6,h⟩ := h
 refine r_el hx6 ((h_l1).rd.mono ((le_d 2).trans hS_l1))<|r_lec (E := eI64) tt_ok (v := ii x5) (idx_get hx6) ((h_l1).rd.mono ((le_d 2).trans hS_l1)) ts_3 rfl (pl0 _ _) (by kernel_rfl)<|rd ?_
 repeat refine rd ?_
 repeat refine rd ?_
 obtain rfl := h_out h
 exact ret_of (RV.tmp RV.nil) (Le.refl _) ⟨rfl,rfl⟩
theorem hc_47o {bt0 : Nat} {g_t0 : gcellplanemake_Tape} {g_c1 : gConfig} {g_s2 : gState} {S_c1 : St} (hS_c1 : Le ⟨ρ,L⟩ S_c1) {S_s2 : St} (hS_s2 : Le ⟨ρ,L⟩ S_s2) (t0 : cellplanemake_Tape) (c1 : Config) (s2 : State) (e3 : Entry) (h_c1 : Sl_Config S_c1 c1 g_c1) (h_s2 : Sl_State S_s2 s2 g_s2) {r : (Entry × Int)} (h : cellplanemake_grant t0 c1 s2 e3 = some r) : HC Tryz.prog 47 #[pp bt0 0,.agg (en_Config c1 g_c1).toArray,.agg (en_State s2 g_s2).toArray,.agg (en_Entry e3).toArray] ⟨ρ,.row g_t0.L.1 t0.L.length g_t0.L.2 3 1 (fl eI64.en t0.L) :: .obj bt0 (en_cellplanemake_Tape t0 g_t0) 94 :: L⟩ (fun v S' => v = .agg (en_Entry r.1).toArray ∧ S' = ⟨ρ,.row g_t0.L.1 t0.L.length g_t0.L.2 3 1 (fl eI64.en t0.L) :: .obj bt0 (en_cellplanemake_Tape ({ t0 with At := r.2 }) g_t0) 94 :: L⟩) := by
 replace h := h_in h
 refine HC.intro (N := 129) (args := [_,_,_,_]) tt_ok Tryz.func47 rfl (by decide +kernel) rfl (Nat.le_of_ble_eq_true rfl)<|rb<|r_bx (en_Config c1 g_c1) (by kernel_rfl) fun bq1 => r_bx (en_State s2 g_s2) (by kernel_rfl) fun bq2 => r_bx (en_Entry e3) (by kernel_rfl) fun bq3 => r_al tt_ok (en_Entry (⟨0,0,0,0,0,0,0,0,0⟩ : Entry)) ti_45 (by kernel_rfl) fun bq4 => rd<|rb<|ld 2 tt_ok (v := .slice g_s2.Tenants.1 s2.Tenants.length g_s2.Tenants.2) ts_35 rfl<|ld 1 tt_ok (v := ii e3.Tenant) ts_3 rfl ?_
 replace h := h_b h; obtain ⟨x5,hx6,h⟩ := h
 refine r_el hx6 ((h_s2.1).rd.mono ((le_d 6).trans hS_s2))<|kp [(0,pp bt0 0),(5,pp bq1 0),(6,pp bq2 0),(7,pp bq3 0),(8,pp bq4 0),(14,.pointer (some ((adr g_s2.Tenants.1).add (e3.Tenant.toNat * 12))))] fun fr => r_len (E := eTenantState) tt_ok (en_TenantState x5) (idx_get hx6) ((h_s2.1).rd.mono ((le_d 6).trans hS_s2)) ta_58 rfl (pl0 _ _) (by kernel_rfl) (by kernel_rfl)<|r_al tt_ok (en_TenantState (⟨false,false,0,0,0,0,0,(⟨0,0,0,0,0⟩ : Window)⟩ : TenantState)) ti_58 (by kernel_rfl) fun bq7 => st 0 tt_ok (en_TenantState x5) (fn ta_58) rfl<|rd<|rb<|ld 0 tt_ok (v := ii x5.Home) ts_3 rfl<|st 2 tt_ok (en_Entry ({ e3 with Cell := x5.Home })) (f1 ts_3) rfl<|rd<|rb ?_
 replace h := h_j h; obtain ⟨K29,h,hK30⟩ := h
 refine r_meet (fun fr S => ∃ (at27 : Int),∃ (cel28 : Int),∃ fr0,K29 (at27,cel28) = some r ∧ fr = updL [(0,pp bt0 0),(5,pp bq1 0),(6,pp bq2 0),(7,pp bq3 0),(8,pp bq4 0),(9,pp bq7 0)] fr0 ∧ S = ⟨ρ,.row g_t0.L.1 t0.L.length g_t0.L.2 3 1 (fl eI64.en t0.L) :: .obj bt0 (en_cellplanemake_Tape ({ t0 with At := at27 }) g_t0) 94 :: .obj bq7 (en_TenantState x5) 58 :: .obj bq4 (en_Entry (⟨0,0,0,0,0,0,0,0,0⟩ : Entry)) 45 :: .obj bq3 (en_Entry ({ e3 with Cell := cel28 })) 45 :: .obj bq2 (en_State s2 g_s2) 38 :: .obj bq1 (en_Config c1 g_c1) 30 :: L⟩) ?_ ?_
 ·refine rb ?_
  replace h := h_j h; obtain ⟨K14,h,hK15⟩ := h
  refine r_meet (fun fr S => ∃ (x12 : Bool),∃ (at13 : Int),∃ fr0,K14 (x12,at13) = some r ∧ fr = updL [(0,pp bt0 0),(5,pp bq1 0),(6,pp bq2 0),(7,pp bq3 0),(8,pp bq4 0),(9,pp bq7 0),(25,.bool x12)] fr0 ∧ S = ⟨ρ,.row g_t0.L.1 t0.L.length g_t0.L.2 3 1 (fl eI64.en t0.L) :: .obj bt0 (en_cellplanemake_Tape ({ t0 with At := at13 }) g_t0) 94 :: .obj bq7 (en_TenantState x5) 58 :: .obj bq4 (en_Entry (⟨0,0,0,0,0,0,0,0,0⟩ : Entry)) 45 :: .obj bq3 (en_Entry ({ e3 with Cell := x5.Home })) 45 :: .obj bq2 (en_State s2 g_s2) 38 :: .obj bq1 (en_Config c1 g_c1) 30 :: L⟩) ?_ ?_
  ·refine ld 0 tt_ok (v := ii x5.Target) ts_3 rfl<|kp [(0,pp bt0 0),(5,pp bq1 0),(6,pp bq2 0),(7,pp bq3 0),(8,pp bq4 0),(9,pp bq7 0),(20,ii x5.Target)] fun fr => ?_
   apply r_iteh h<;>clear h<;>intro h
   ·refine r_T rfl<|r_le ((le_mv 6).trans (le_mv 6)) ?_
    replace h := h_b h; obtain ⟨⟨x10,x11⟩,hx9,h⟩ := h
    refine rc (hc_35o (bt0 := bt0) (g_t0 := g_t0) (t0 := t0) (n1 := 2) (h := hx9)) ?_
    rintro _ _ ⟨rfl,rfl⟩
    exact rd ⟨x10,x11,_,h,fe _,by kernel_rfl⟩
   exact r_F rfl<|r_F rfl<|r_le ((le_mv 4).trans ((le_mv 4).trans ((le_mv 4).trans ((le_mv 4).trans ((le_mv 4).trans ((le_mv 6).trans (le_mv 6)))))))<|rd ⟨false,t0.At,_,h,fe _,by kernel_rfl⟩
  clear h
  rintro fr S ⟨x12,at13,fr,h,rfl,rfl⟩
  replace h := hK15 _ h
  refine rd ?_
  apply r_iteh h<;>clear h<;>intro h
  ·exact ld 2 tt_ok (v := ii x5.Target) ts_3 rfl<|st 4 tt_ok (en_Entry ({ e3 with Cell := x5.Target })) (f1 ts_3) rfl<|rd ⟨at13,x5.Target,_,h,fe _,by kernel_rfl⟩
  refine rb ?_
  replace h := h_j h; obtain ⟨K24,h,hK25⟩ := h
  refine r_meet (fun fr S => ∃ (x22 : Bool),∃ (at23 : Int),∃ fr0,K24 (x22,at23) = some r ∧ fr = updL [(0,pp bt0 0),(5,pp bq1 0),(6,pp bq2 0),(7,pp bq3 0),(8,pp bq4 0),(9,pp bq7 0),(39,.bool x22)] fr0 ∧ S = ⟨ρ,.row g_t0.L.1 t0.L.length g_t0.L.2 3 1 (fl eI64.en t0.L) :: .obj bt0 (en_cellplanemake_Tape ({ t0 with At := at23 }) g_t0) 94 :: .obj bq7 (en_TenantState x5) 58 :: .obj bq4 (en_Entry (⟨0,0,0,0,0,0,0,0,0⟩ : Entry)) 45 :: .obj bq3 (en_Entry ({ e3 with Cell := x5.Home })) 45 :: .obj bq2 (en_State s2 g_s2) 38 :: .obj bq1 (en_Config c1 g_c1) 30 :: L⟩) ?_ ?_
  ·refine ld 2 tt_ok (v := ii x5.Standby) ts_3 rfl<|kp [(0,pp bt0 0),(5,pp bq1 0),(6,pp bq2 0),(7,pp bq3 0),(8,pp bq4 0),(9,pp bq7 0),(30,ii x5.Standby)] fun fr => ?_
   apply r_iteh h<;>clear h<;>intro h
   ·refine r_T rfl ?_
    replace h := h_b h; obtain ⟨⟨x19,x20⟩,hx18,h⟩ := h
    refine rc (hc_35o (bt0 := bt0) (g_t0 := g_t0) (t0 := { t0 with At := at13 }) (n1 := 5) (h := hx18)) ?_
    rintro _ _ ⟨rfl,rfl⟩
    refine r_T rfl ?_
    apply r_iteh h<;>clear h<;>intro h
    ·exact r_T rfl<|r_T rfl<|r_T rfl<|kr [(0,pp bt0 0),(5,pp bq1 0),(6,pp bq2 0),(7,pp bq3 0),(8,pp bq4 0),(9,pp bq7 0),(39,.bool true)] fun fr => rd ⟨true,x20,_,h,fe _,by kernel_rfl⟩
    exact r_F rfl<|ld 2 tt_ok (v := .bool x5.Shed) ts_4 rfl<|r_T rfl<|kr [(0,pp bt0 0),(5,pp bq1 0),(6,pp bq2 0),(7,pp bq3 0),(8,pp bq4 0),(9,pp bq7 0),(39,.bool x5.Shed)] fun fr => rd ⟨x5.Shed,x20,_,h,fe _,by kernel_rfl⟩
   exact r_F rfl<|r_F rfl<|r_F rfl<|r_F rfl<|kr [(0,pp bt0 0),(5,pp bq1 0),(6,pp bq2 0),(7,pp bq3 0),(8,pp bq4 0),(9,pp bq7 0),(39,.bool false)] fun fr => rd ⟨false,at13,_,h,fe _,by kernel_rfl⟩
  clear h
  rintro fr S ⟨x22,at23,fr,h,rfl,rfl⟩
  replace h := hK25 _ h
  refine rd ?_
  apply r_iteh h<;>clear h<;>intro h
  ·exact ld 2 tt_ok (v := ii x5.Standby) ts_3 rfl<|st 4 tt_ok (en_Entry ({ e3 with Cell := x5.Standby })) (f1 ts_3) rfl<|rd ⟨at23,x5.Standby,_,h,fe _,by kernel_rfl⟩
  exact rd ⟨at23,x5.Home,_,h,fe _,by kernel_rfl⟩
 clear h
 rintro fr S ⟨at27,cel28,fr,h,rfl,rfl⟩
 replace h := hK30 _ h
 refine rd<|rb<|ld 2 tt_ok (v := ii x5.Epoch) ts_3 rfl<|st 4 tt_ok (en_Entry ({ e3 with Cell := cel28,Epoch := x5.Epoch })) (f1 ts_3) rfl<|rd<|rb ?_
 replace h := h_j h; obtain ⟨K43,h,hK44⟩ := h
 refine r_meet (fun fr S => ∃ (at41 : Int),∃ (epo42 : Int),∃ fr0,K43 (at41,epo42) = some r ∧ fr = updL [(0,pp bt0 0),(5,pp bq1 0),(6,pp bq2 0),(7,pp bq3 0),(8,pp bq4 0),(9,pp bq7 0)] fr0 ∧ S = ⟨ρ,.row g_t0.L.1 t0.L.length g_t0.L.2 3 1 (fl eI64.en t0.L) :: .obj bt0 (en_cellplanemake_Tape ({ t0 with At := at41 }) g_t0) 94 :: .obj bq7 (en_TenantState x5) 58 :: .obj bq4 (en_Entry (⟨0,0,0,0,0,0,0,0,0⟩ : Entry)) 45 :: .obj bq3 (en_Entry ({ e3 with Cell := cel28,Epoch := epo42 })) 45 :: .obj bq2 (en_State s2 g_s2) 38 :: .obj bq1 (en_Config c1 g_c1) 30 :: L⟩) ?_ ?_
 ·refine rb ?_
  replace h := h_j h; obtain ⟨K38,h,hK39⟩ := h
  refine r_meet (fun fr S => ∃ (x36 : Bool),∃ (at37 : Int),∃ fr0,K38 (x36,at37) = some r ∧ fr = updL [(0,pp bt0 0),(5,pp bq1 0),(6,pp bq2 0),(7,pp bq3 0),(8,pp bq4 0),(9,pp bq7 0),(59,.bool x36)] fr0 ∧ S = ⟨ρ,.row g_t0.L.1 t0.L.length g_t0.L.2 3 1 (fl eI64.en t0.L) :: .obj bt0 (en_cellplanemake_Tape ({ t0 with At := at37 }) g_t0) 94 :: .obj bq7 (en_TenantState x5) 58 :: .obj bq4 (en_Entry (⟨0,0,0,0,0,0,0,0,0⟩ : Entry)) 45 :: .obj bq3 (en_Entry ({ e3 with Cell := cel28,Epoch := x5.Epoch })) 45 :: .obj bq2 (en_State s2 g_s2) 38 :: .obj bq1 (en_Config c1 g_c1) 30 :: L⟩) ?_ ?_
  ·refine ld 4 tt_ok (v := ii cel28) ts_3 rfl<|ld 2 tt_ok (v := ii x5.Home) ts_3 rfl<|kp [(0,pp bt0 0),(5,pp bq1 0),(6,pp bq2 0),(7,pp bq3 0),(8,pp bq4 0),(9,pp bq7 0),(47,ii cel28),(49,ii x5.Home)] fun fr => ?_
   apply r_iteh h<;>clear h<;>intro h
   ·exact r_T rfl<|r_T rfl<|r_T rfl<|r_T rfl<|r_T rfl<|kp [(0,pp bt0 0),(5,pp bq1 0),(6,pp bq2 0),(7,pp bq3 0),(8,pp bq4 0),(9,pp bq7 0),(56,.bool true),(58,undef)] fun fr => r_T rfl<|rd ⟨true,at27,_,h,fe _,by kernel_rfl⟩
   refine r_F rfl<|ld 2 tt_ok (v := ii x5.Epoch) ts_3 rfl<|r_F rfl ?_
   apply r_iteh h<;>clear h<;>intro h
   ·exact r_T rfl<|kp [(0,pp bt0 0),(5,pp bq1 0),(6,pp bq2 0),(7,pp bq3 0),(8,pp bq4 0),(9,pp bq7 0),(56,.bool true),(58,undef)] fun fr => r_T rfl<|rd ⟨true,at27,_,h,fe _,by kernel_rfl⟩
   refine r_F rfl ?_
   replace h := h_b h; obtain ⟨⟨x34,x35⟩,hx33,h⟩ := h
   refine rc (hc_35o (bt0 := bt0) (g_t0 := g_t0) (t0 := { t0 with At := at27 }) (n1 := 4) (h := hx33)) ?_
   rintro _ _ ⟨rfl,rfl⟩
   exact kp [(0,pp bt0 0),(5,pp bq1 0),(6,pp bq2 0),(7,pp bq3 0),(8,pp bq4 0),(9,pp bq7 0),(56,.bool false),(58,.bool x34)] fun fr => rd ⟨x34,x35,_,h,fe _,by kernel_rfl⟩
  clear h
  rintro fr S ⟨x36,at37,fr,h,rfl,rfl⟩
  replace h := hK39 _ h
  refine rd ?_
  apply r_iteh h<;>clear h<;>intro h
  ·exact ld 2 tt_ok (v := ii x5.Epoch) ts_3 rfl<|r_num (e' := w64 (x5.Epoch + 1)) rfl<|st 4 tt_ok (en_Entry ({ e3 with Cell := cel28,Epoch := w64 (x5.Epoch + 1) })) (f1 ts_3) rfl<|rd ⟨at37,w64 (x5.Epoch + 1),_,h,fe _,by kernel_rfl⟩
  exact rd ⟨at37,x5.Epoch,_,h,fe _,by kernel_rfl⟩
 clear h
 rintro fr S ⟨at41,epo42,fr,h,rfl,rfl⟩
 replace h := hK44 _ h
 refine rd<|rb ?_
 replace h := h_j h; obtain ⟨K56,h,hK57⟩ := h
 refine r_meet (fun fr S => ∃ (at54 : Int),∃ (tic55 : Int),∃ fr0,K56 (at54,tic55) = some r ∧ fr = updL [(0,pp bt0 0),(5,pp bq1 0),(6,pp bq2 0),(7,pp bq3 0),(8,pp bq4 0),(9,pp bq7 0)] fr0 ∧ S = ⟨ρ,.row g_t0.L.1 t0.L.length g_t0.L.2 3 1 (fl eI64.en t0.L) :: .obj bt0 (en_cellplanemake_Tape ({ t0 with At := at54 }) g_t0) 94 :: .obj bq7 (en_TenantState x5) 58 :: .obj bq4 (en_Entry (⟨0,0,0,0,0,0,0,0,0⟩ : Entry)) 45 :: .obj bq3 (en_Entry ({ e3 with Tick := tic55,Cell := cel28,Epoch := epo42 })) 45 :: .obj bq2 (en_State s2 g_s2) 38 :: .obj bq1 (en_Config c1 g_c1) 30 :: L⟩) ?_ ?_
 ·refine rb ?_
  replace h := h_j h; obtain ⟨K51,h,hK52⟩ := h
  refine r_meet (fun fr S => ∃ (x49 : Bool),∃ (at50 : Int),∃ fr0,K51 (x49,at50) = some r ∧ fr = updL [(0,pp bt0 0),(5,pp bq1 0),(6,pp bq2 0),(7,pp bq3 0),(8,pp bq4 0),(9,pp bq7 0),(73,.bool x49)] fr0 ∧ S = ⟨ρ,.row g_t0.L.1 t0.L.length g_t0.L.2 3 1 (fl eI64.en t0.L) :: .obj bt0 (en_cellplanemake_Tape ({ t0 with At := at50 }) g_t0) 94 :: .obj bq7 (en_TenantState x5) 58 :: .obj bq4 (en_Entry (⟨0,0,0,0,0,0,0,0,0⟩ : Entry)) 45 :: .obj bq3 (en_Entry ({ e3 with Cell := cel28,Epoch := epo42 })) 45 :: .obj bq2 (en_State s2 g_s2) 38 :: .obj bq1 (en_Config c1 g_c1) 30 :: L⟩) ?_ ?_
  ·refine ld 4 tt_ok (v := ii cel28) ts_3 rfl<|ld 2 tt_ok (v := ii x5.Home) ts_3 rfl<|kp [(0,pp bt0 0),(5,pp bq1 0),(6,pp bq2 0),(7,pp bq3 0),(8,pp bq4 0),(9,pp bq7 0),(65,ii cel28),(67,ii x5.Home)] fun fr => ?_
   apply r_iteh h<;>clear h<;>intro h
   ·refine r_T rfl ?_
    replace h := h_b h; obtain ⟨⟨x47,x48⟩,hx46,h⟩ := h
    refine rc (hc_33o (bt0 := bt0) (g_t0 := g_t0) (t0 := { t0 with At := at41 }) (n1 := 4) (h := hx46)) ?_
    rintro _ _ ⟨rfl,rfl⟩
    exact r_T rfl<|rd ⟨decide (0 < x47),x48,_,h,fe _,by kernel_rfl⟩
   exact r_F rfl<|r_F rfl<|r_F rfl<|rd ⟨false,at41,_,h,fe _,by kernel_rfl⟩
  clear h
  rintro fr S ⟨x49,at50,fr,h,rfl,rfl⟩
  replace h := hK52 _ h
  refine rd ?_
  apply r_iteh h<;>clear h<;>intro h
  ·exact ld 4 tt_ok (v := ii e3.Tick) ts_3 rfl<|ld 2 tt_ok (v := ii x5.Window.Until) ts_3 rfl<|st 4 tt_ok (en_Entry ({ e3 with Tick := mx e3.Tick x5.Window.Until,Cell := cel28,Epoch := epo42 })) (f1 ts_3) rfl<|rd ⟨at50,mx e3.Tick x5.Window.Until,_,h,fe _,by kernel_rfl⟩
  exact rd ⟨at50,e3.Tick,_,h,fe _,by kernel_rfl⟩
 clear h
 rintro fr S ⟨at54,tic55,fr,h,rfl,rfl⟩
 replace h := hK57 _ h
 refine rd<|rb<|ld 4 tt_ok (v := ii tic55) ts_3 rfl<|ld 2 tt_ok (v := ii x5.Window.Until) ts_3 rfl<|st 4 tt_ok (en_Entry ({ e3 with Tick := tic55,Cell := cel28,Epoch := epo42,From := mx tic55 x5.Window.Until })) (f1 ts_3) rfl<|rd<|rb ?_
 replace h := h_j h; obtain ⟨K67,h,hK68⟩ := h
 refine r_meet (fun fr S => ∃ (at65 : Int),∃ (fro66 : Int),∃ fr0,K67 (at65,fro66) = some r ∧ fr = updL [(0,pp bt0 0),(5,pp bq1 0),(6,pp bq2 0),(7,pp bq3 0),(8,pp bq4 0)] fr0 ∧ S = ⟨ρ,.row g_t0.L.1 t0.L.length g_t0.L.2 3 1 (fl eI64.en t0.L) :: .obj bt0 (en_cellplanemake_Tape ({ t0 with At := at65 }) g_t0) 94 :: .obj bq4 (en_Entry (⟨0,0,0,0,0,0,0,0,0⟩ : Entry)) 45 :: .obj bq3 (en_Entry ({ e3 with Tick := tic55,Cell := cel28,Epoch := epo42,From := fro66 })) 45 :: .obj bq2 (en_State s2 g_s2) 38 :: .obj bq1 (en_Config c1 g_c1) 30 :: L⟩) ?_ ?_
 ·refine rb ?_
  replace h := h_b h; obtain ⟨⟨x59,x60⟩,hx58,h⟩ := h
  refine rc (hc_35o (bt0 := bt0) (g_t0 := g_t0) (t0 := { t0 with At := at54 }) (n1 := 5) (h := hx58)) ?_
  rintro _ _ ⟨rfl,rfl⟩
  refine rd ?_
  apply r_iteh h<;>clear h<;>intro h
  ·refine r_mix tt_ok hm_ok _ _ [6] (.pure 0 (.va 1 (.pure 2 (.eff 3 (.pure 4 (.pure 5 (.eff 6 .nil))))))) (le_w [false,false,true,true,true,true,true]) (le_w [false,false,true,true,false,true,true]) ?_ ?_
   ·decide +kernel
   refine x_p rfl<|vd<|x_va rfl<|vl 2 tt_ok (v := ii (mx tic55 x5.Window.Until)) ts_3 rfl<|vd<|x_p rfl<|vd<|x_e rfl ?_
   replace h := h_b h; obtain ⟨⟨x63,x64⟩,hx62,h⟩ := h
   refine rc (hc_33o (bt0 := bt0) (g_t0 := g_t0) (t0 := { t0 with At := x60 }) (n1 := 3) (h := hx62)) ?_
   rintro _ _ ⟨rfl,rfl⟩
   refine rd ⟨rfl,k_a (le_w [false,false,true,true,true,true,true]) (le_w [false,false,true,true,false,true,true]),?_⟩
   refine x_p rfl<|v_num (e' := w64 ((mx tic55 x5.Window.Until) + x63)) rfl<|vd<|x_p rfl<|vd<|x_e rfl<|st 4 tt_ok (en_Entry ({ e3 with Tick := tic55,Cell := cel28,Epoch := epo42,From := w64 ((mx tic55 x5.Window.Until) + x63) })) (f1 ts_3) rfl<|rd ⟨rfl,k_b rfl (le_w [false,false,true,true,false,true,true]),?_⟩
   exact xk [(0,pp bt0 0),(5,pp bq1 0),(6,pp bq2 0),(7,pp bq3 0),(8,pp bq4 0)] fun fr => r_le (le_w [true,true,false,true,true,true,true])<|rd ⟨x64,w64 ((mx tic55 x5.Window.Until) + x63),_,h,fe _,by kernel_rfl⟩
  exact r_le (le_w [true,true,false,true,true,true,true])<|rd ⟨x60,mx tic55 x5.Window.Until,_,h,fe _,by kernel_rfl⟩
 clear h
 rintro fr S ⟨at65,fro66,fr,h,rfl,rfl⟩
 replace h := hK68 _ h
 refine rd<|rb<|r_mix tt_ok hm_ok _ _ [8] (.pure 0 (.va 1 (.pure 2 (.pure 3 (.vb 4 (.eff 5 (.pure 6 (.pure 7 (.eff 8 .nil))))))))) (le_w [false,false,true,true,true,true]) (le_w [false,false,true,false,true,true]) ?_ ?_
 ·decide +kernel
 refine x_p rfl<|vd<|x_va rfl<|vl 1 tt_ok (v := ii fro66) ts_3 rfl<|vd<|x_p rfl<|vd<|x_p rfl<|vd<|x_vb rfl<|vl 2 tt_ok (v := ii c1.Lease) ts_3 rfl<|vd<|x_e rfl ?_
 replace h := h_b h; obtain ⟨⟨x70,x71⟩,hx69,h⟩ := h
 refine rc (hc_34o (bt0 := bt0) (g_t0 := g_t0) (t0 := { t0 with At := at65 }) (low1 := 1) (high2 := c1.Lease) (h := hx69)) ?_
 rintro _ _ ⟨rfl,rfl⟩
 refine rd ⟨rfl,k_a (le_w [false,false,true,true,true,true]) (le_w [false,false,true,false,true,true]),?_⟩
 refine x_p rfl<|v_num (e' := w64 (fro66 + x70)) rfl<|vd<|x_p rfl<|vd<|x_e rfl<|st 3 tt_ok (en_Entry ({ e3 with Tick := tic55,Cell := cel28,Epoch := epo42,From := fro66,Until := w64 (fro66 + x70) })) (f1 ts_3) rfl<|rd ⟨rfl,k_b rfl (le_w [false,false,true,false,true,true]),?_⟩
 refine xk [(0,pp bt0 0),(6,pp bq2 0),(7,pp bq3 0),(8,pp bq4 0)] fun fr => rd<|rb<|ld 4 tt_ok (v := .slice g_s2.Cells.1 s2.Cells.length g_s2.Cells.2) ts_36 rfl<|ld 3 tt_ok (v := ii cel28) ts_3 rfl ?_
 replace h := h_b h; obtain ⟨x72,hx73,h⟩ := h
 refine r_el hx73 ((h_s2.2).rd.mono ((le_d 6).trans hS_s2))<|r_lec (E := eCellState) tt_ok (v := ii x72.Running) (idx_get hx73) ((h_s2.2).rd.mono ((le_d 6).trans hS_s2)) ts_3 rfl (pl1 _ _ _) (by kernel_rfl)<|st 3 tt_ok (en_Entry ({ e3 with Tick := tic55,Cell := cel28,Epoch := epo42,From := fro66,Until := w64 (fro66 + x70),N := x72.Running })) (f1 ts_3) rfl<|kr [(0,pp bt0 0),(7,pp bq3 0),(8,pp bq4 0)] fun fr => rd<|rb<|rb ?_
 replace h := h_b h; obtain ⟨⟨x75,x76⟩,hx74,h⟩ := h
 refine rc (hc_35o (bt0 := bt0) (g_t0 := g_t0) (t0 := { t0 with At := x71 }) (n1 := 15) (h := hx74)) ?_
 rintro _ _ ⟨rfl,rfl⟩
 refine rd ?_
 apply r_iteh h<;>clear h<;>intro h
 ·refine rb<|r_mix tt_ok hm_ok _ _ [9,11] (.pure 0 (.va 1 (.pure 2 (.pure 3 (.va 4 (.pure 5 (.pure 8 (.eff 6 (.pure 7 (.eff 9 (.pure 10 (.eff 11 .nil)))))))))))) (le_w [false,false,true,true,true,true]) (le_w [false,false,true,false,true,true]) ?_ ?_
  ·decide +kernel
  refine x_p rfl<|vd<|x_va rfl<|vl 1 tt_ok (v := ii fro66) ts_3 rfl<|vd<|x_p rfl<|v_num (e' := w64 (fro66 - 1)) rfl<|vd<|x_p rfl<|vd<|x_va rfl<|vl 1 tt_ok (v := ii (w64 (fro66 + x70))) ts_3 rfl<|vd ?_
  refine x_p rfl<|vd<|x_p rfl<|vd<|xp [(7,pp bq3 0),(8,pp bq4 0),(116,ii (w64 (fro66 - 1))),(118,ii (w64 (fro66 + x70))),(119,pp bt0 0),(122,pp bq3 6)] fun fr => x_e rfl ?_
  replace h := h_b h; obtain ⟨⟨x79,x80⟩,hx78,h⟩ := h
  refine rc (hc_33o (bt0 := bt0) (g_t0 := g_t0) (t0 := { t0 with At := x76 }) (n1 := 30) (h := hx78)) ?_
  rintro _ _ ⟨rfl,rfl⟩
  refine rd ⟨rfl,k_a (le_w [false,false,true,true,true,true]) (le_w [false,false,true,false,true,true]),?_⟩
  refine x_p rfl<|v_num (e' := w64 ((w64 (fro66 + x70)) + x79)) rfl<|vd<|x_e rfl<|st 3 tt_ok (en_Entry ({ e3 with Tick := tic55,Cell := cel28,Epoch := epo42,From := w64 (fro66 - 1),Until := w64 (fro66 + x70),N := x72.Running })) (f1 ts_3) rfl<|rd ⟨rfl,k_b rfl (le_w [false,false,true,false,true,true]),?_⟩
  refine x_p rfl<|vd<|x_e rfl<|st 3 tt_ok (en_Entry ({ e3 with Tick := tic55,Cell := cel28,Epoch := epo42,From := w64 (fro66 - 1),Until := w64 ((w64 (fro66 + x70)) + x79),N := x72.Running })) (f1 ts_3) rfl<|rd ⟨rfl,k_b rfl (le_w [false,false,true,false,true,true]),?_⟩
  refine xk [(7,pp bq3 0),(8,pp bq4 0)] fun fr => rd<|ld 3 tt_ok (v := ii (w64 (fro66 - 1))) ts_3 rfl<|st 3 tt_ok (en_Entry ({ e3 with Tick := tic55,Cell := cel28,Epoch := epo42,From := mx 0 (w64 (fro66 - 1)),Until := w64 ((w64 (fro66 + x70)) + x79),N := x72.Running })) (f1 ts_3) rfl<|rd<|rb<|ln 3 tt_ok (en_Entry ({ e3 with Tick := tic55,Cell := cel28,Epoch := epo42,From := mx 0 (w64 (fro66 - 1)),Until := w64 ((w64 (fro66 + x70)) + x79),N := x72.Running })) ta_45 rfl<|st 2 tt_ok (en_Entry ({ e3 with Tick := tic55,Cell := cel28,Epoch := epo42,From := mx 0 (w64 (fro66 - 1)),Until := w64 ((w64 (fro66 + x70)) + x79),N := x72.Running })) (fn ta_45) rfl<|rd ?_
  repeat refine rd ?_
  repeat refine rd ?_
  obtain rfl := h_out h
  exact ret_of (rv_cell 2 tt_ok (by kernel_rfl) ta_45 rfl rfl RV.nil) (le_w [true,true,false,false,false,false]) ⟨rfl,rfl⟩
 refine rd<|rb<|ln 3 tt_ok (en_Entry ({ e3 with Tick := tic55,Cell := cel28,Epoch := epo42,From := fro66,Until := w64 (fro66 + x70),N := x72.Running })) ta_45 rfl<|st 2 tt_ok (en_Entry ({ e3 with Tick := tic55,Cell := cel28,Epoch := epo42,From := fro66,Until := w64 (fro66 + x70),N := x72.Running })) (fn ta_45) rfl<|rd ?_
 repeat refine rd ?_
 repeat refine rd ?_
 obtain rfl := h_out h
 exact ret_of (rv_cell 2 tt_ok (by kernel_rfl) ta_45 rfl rfl RV.nil) (le_w [true,true,false,false,false,false]) ⟨rfl,rfl⟩
theorem hc_19o {bt0 : Nat} {g_t0 : gcellplanemake_Tape} {g_c1 : gConfig} {g_s2 : gState} {S_c1 : St} (hS_c1 : Le ⟨ρ,L⟩ S_c1) {S_s2 : St} (hS_s2 : Le ⟨ρ,L⟩ S_s2) (t0 : cellplanemake_Tape) (c1 : Config) (s2 : State) (h_c1 : Sl_Config S_c1 c1 g_c1) (h_s2 : Sl_State S_s2 s2 g_s2) {r : (Entry × Int)} (h : cellplanemake_Entry t0 c1 s2 = some r) : HC Tryz.prog 19 #[pp bt0 0,.agg (en_Config c1 g_c1).toArray,.agg (en_State s2 g_s2).toArray] ⟨ρ,.row g_t0.L.1 t0.L.length g_t0.L.2 3 1 (fl eI64.en t0.L) :: .obj bt0 (en_cellplanemake_Tape t0 g_t0) 94 :: L⟩ (fun v S' => v = .agg (en_Entry r.1).toArray ∧ S' = ⟨ρ,.row g_t0.L.1 t0.L.length g_t0.L.2 3 1 (fl eI64.en t0.L) :: .obj bt0 (en_cellplanemake_Tape ({ t0 with At := r.2 }) g_t0) 94 :: L⟩) := by
 replace h := h_in h
 refine HC.intro (N := 126) (args := [_,_,_]) tt_ok Tryz.func19 rfl (by decide +kernel) rfl (Nat.le_of_ble_eq_true rfl)<|rb<|r_bx (en_Config c1 g_c1) (by kernel_rfl) fun bq1 => r_bx (en_State s2 g_s2) (by kernel_rfl) fun bq2 => r_al tt_ok (en_Entry (⟨0,0,0,0,0,0,0,0,0⟩ : Entry)) ti_45 (by kernel_rfl) fun bq3 => rd<|rb<|r_mix tt_ok hm_ok _ _ [] (.pure 0 (.vb 1 (.pure 2 (.eff 3 (.pure 4 (.pure 5 .nil)))))) (le_w [true,true,true,false,false]) (le_w [true,true,true,false,false]) ?_ ?_
 ·decide +kernel
 refine x_p rfl<|vd<|x_vb rfl<|vl 1 tt_ok (v := ii s2.Tick) ts_3 rfl<|vd<|x_p rfl<|vd<|x_e rfl<|r_le ((le_mv 4).trans (le_mv 4)) ?_
 replace h := h_b h; obtain ⟨⟨x5,x6⟩,hx4,h⟩ := h
 refine rc (hc_33o (bt0 := bt0) (g_t0 := g_t0) (t0 := t0) (n1 := 4) (h := hx4)) ?_
 rintro _ _ ⟨rfl,rfl⟩
 refine rd ⟨rfl,k_a (le_w [false,false,true,true,true]) (le_w [false,false,true,true,true]),?_⟩
 refine x_p rfl<|v_num (e' := w64 (s2.Tick + x5)) rfl<|vd<|x_p rfl<|vd<|xk [(0,pp bt0 0),(4,pp bq1 0),(5,pp bq2 0),(6,pp bq3 0),(7,ii (w64 (s2.Tick + x5)))] fun fr => rd<|rb ?_
 replace h := h_j h; obtain ⟨K13,h,hK14⟩ := h
 refine r_meet (fun fr S => ∃ (x11 : Int),∃ (at12 : Int),∃ fr0,K13 (x11,at12) = some r ∧ fr = updL [(0,pp bt0 0),(4,pp bq1 0),(5,pp bq2 0),(6,pp bq3 0),(7,ii x11)] fr0 ∧ S = ⟨ρ,.row g_t0.L.1 t0.L.length g_t0.L.2 3 1 (fl eI64.en t0.L) :: .obj bt0 (en_cellplanemake_Tape ({ t0 with At := at12 }) g_t0) 94 :: .obj bq3 (en_Entry (⟨0,0,0,0,0,0,0,0,0⟩ : Entry)) 45 :: .obj bq2 (en_State s2 g_s2) 38 :: .obj bq1 (en_Config c1 g_c1) 30 :: L⟩) ?_ ?_
 ·refine rb ?_
  replace h := h_b h; obtain ⟨⟨x8,x9⟩,hx7,h⟩ := h
  refine rc (hc_35o (bt0 := bt0) (g_t0 := g_t0) (t0 := { t0 with At := x6 }) (n1 := 20) (h := hx7)) ?_
  rintro _ _ ⟨rfl,rfl⟩
  refine rd ?_
  apply r_iteh h<;>clear h<;>intro h
  ·exact ld 3 tt_ok (v := ii s2.Tick) ts_3 rfl<|r_num (e' := w64 (s2.Tick - 1)) rfl<|kr [(0,pp bt0 0),(4,pp bq1 0),(5,pp bq2 0),(6,pp bq3 0),(7,ii (mx 0 (w64 (s2.Tick - 1))))] fun fr => rd ⟨mx 0 (w64 (s2.Tick - 1)),x9,_,h,fe _,by kernel_rfl⟩
  exact rd ⟨w64 (s2.Tick + x5),x9,_,h,fe _,by kernel_rfl⟩
 clear h
 rintro fr S ⟨x11,at12,fr,h,rfl,rfl⟩
 replace h := hK14 _ h
 refine rd<|rb<|rb ?_
 replace h := h_j h; obtain ⟨K21,h,hK22⟩ := h
 refine r_meet (fun fr S => ∃ (x19 : Bool),∃ (at20 : Int),∃ fr0,K21 (x19,at20) = some r ∧ fr = updL [(0,pp bt0 0),(4,pp bq1 0),(5,pp bq2 0),(6,pp bq3 0),(7,ii x11),(30,.bool x19)] fr0 ∧ S = ⟨ρ,.row g_t0.L.1 t0.L.length g_t0.L.2 3 1 (fl eI64.en t0.L) :: .obj bt0 (en_cellplanemake_Tape ({ t0 with At := at20 }) g_t0) 94 :: .obj bq3 (en_Entry (⟨0,0,0,0,0,0,0,0,0⟩ : Entry)) 45 :: .obj bq2 (en_State s2 g_s2) 38 :: .obj bq1 (en_Config c1 g_c1) 30 :: L⟩) ?_ ?_
 ·refine ld 4 tt_ok (v := .slice g_c1.Tenants.1 c1.Tenants.length g_c1.Tenants.2) ts_27 rfl<|kp [(0,pp bt0 0),(4,pp bq1 0),(5,pp bq2 0),(6,pp bq3 0),(7,ii x11),(24,.slice g_c1.Tenants.1 c1.Tenants.length g_c1.Tenants.2)] fun fr => ?_
  apply r_iteh h<;>clear h<;>intro h
  ·exact r_T rfl<|r_T rfl<|rd ⟨true,at12,_,h,fe _,by kernel_rfl⟩
  refine r_F rfl ?_
  replace h := h_b h; obtain ⟨⟨x17,x18⟩,hx16,h⟩ := h
  refine rc (hc_35o (bt0 := bt0) (g_t0 := g_t0) (t0 := { t0 with At := at12 }) (n1 := 4) (h := hx16)) ?_
  rintro _ _ ⟨rfl,rfl⟩
  exact rd ⟨x17,x18,_,h,fe _,by kernel_rfl⟩
 clear h
 rintro fr S ⟨x19,at20,fr,h,rfl,rfl⟩
 replace h := hK22 _ h
 refine rd ?_
 apply r_iteh h<;>clear h<;>intro h
 ·refine rb<|ln 4 tt_ok (en_Config c1 g_c1) ta_30 rfl<|ln 3 tt_ok (en_State s2 g_s2) ta_38 rfl ?_
  replace h := h_b h; obtain ⟨⟨x25,x26⟩,hx24,h⟩ := h
  refine rc (hc_42o (bt0 := bt0) (g_t0 := g_t0) (t0 := { t0 with At := at20 }) (g_c1 := g_c1) (c1 := c1) (g_s2 := g_s2) (s2 := s2) (tick3 := x11) (hS_c1 := by exact (le_d 3).trans hS_c1) (h_c1 :=h_c1) (hS_s2 := by exact (le_d 3).trans hS_s2) (h_s2 :=h_s2) (h := hx24)) ?_
  rintro _ _ ⟨rfl,rfl⟩
  refine st 2 tt_ok (en_Entry x25) (fn ta_45) rfl<|rd ?_
  repeat refine rd ?_
  repeat refine rd ?_
  obtain rfl := h_out h
  exact ret_of (rv_cell 2 tt_ok (by kernel_rfl) ta_45 rfl rfl RV.nil) (le_w [true,true,false,false,false]) ⟨rfl,rfl⟩
 refine rd<|rb<|ld 4 tt_ok (v := .slice g_c1.Tenants.1 c1.Tenants.length g_c1.Tenants.2) ts_27 rfl ?_
 replace h := h_b h; obtain ⟨⟨x28,x29⟩,hx27,h⟩ := h
 refine rc (hc_33o (bt0 := bt0) (g_t0 := g_t0) (t0 := { t0 with At := at20 }) (n1 := (c1.Tenants.length : Int)) (h := hx27)) ?_
 rintro _ _ ⟨rfl,rfl⟩
 refine rd<|rb<|ld 3 tt_ok (v := .slice g_s2.Tenants.1 s2.Tenants.length g_s2.Tenants.2) ts_35 rfl ?_
 replace h := h_b h; obtain ⟨x30,hx31,h⟩ := h
 refine r_el hx31 ((h_s2.1).rd.mono ((le_d 5).trans hS_s2))<|kp [(0,pp bt0 0),(4,pp bq1 0),(5,pp bq2 0),(6,pp bq3 0),(7,ii x11),(8,ii x28),(44,.pointer (some ((adr g_s2.Tenants.1).add (x28.toNat * 12))))] fun fr => r_len (E := eTenantState) tt_ok (en_TenantState x30) (idx_get hx31) ((h_s2.1).rd.mono ((le_d 5).trans hS_s2)) ta_58 rfl (pl0 _ _) (by kernel_rfl) (by kernel_rfl)<|r_al tt_ok (en_TenantState (⟨false,false,0,0,0,0,0,(⟨0,0,0,0,0⟩ : Window)⟩ : TenantState)) ti_58 (by kernel_rfl) fun bq32 => st 0 tt_ok (en_TenantState x30) (fn ta_58) rfl<|rd<|rb<|rb<|ld 0 tt_ok (v := .bool x30.Placed) ts_4 rfl<|rd ?_
 apply r_iteh h<;>clear h<;>intro h
 ·refine rb<|rc (hc_43 (kind0 := 1) (tick1 := x11)) ?_
  rintro _ _ ⟨rfl,rfl⟩
  refine r_al tt_ok (en_Entry (⟨0,0,0,0,0,0,0,0,0⟩ : Entry)) ti_45 (by kernel_rfl) fun bq34 => kp [(0,pp bt0 0),(4,pp bq1 0),(6,pp bq3 0),(8,ii x28),(10,pp bq34 0),(50,.agg (en_Entry (cellplanemake_none 1 x11)).toArray)] fun fr => st 0 tt_ok (en_Entry (cellplanemake_none 1 x11)) (fn ta_45) rfl<|rd<|rb<|st 0 tt_ok (en_Entry ({ (cellplanemake_none 1 x11) with Tenant := x28 })) (f1 ts_3) rfl<|rd<|rb<|ln 6 tt_ok (en_Config c1 g_c1) ta_30 rfl ?_
  replace h := h_b h; obtain ⟨xs36,hx35,h⟩ := h
  refine rc (hc_45 (g_c0 := g_c1) (c0 := c1) (tenant1 := x28) (hS_c0 := by exact (le_d 7).trans hS_c1) (h_c0 :=h_c1) (h := hx35)) ?_
  rintro _ _ ⟨A37,c38,rfl,rfl⟩
  refine r_le ((le_mv 4).trans (le_mv 4)) ?_
  replace h := h_b h; obtain ⟨⟨x41,x42⟩,hx40,h⟩ := h
  refine rc (hc_44o (bt0 := bt0) (g_t0 := g_t0) (t0 := { t0 with At := x29 }) (A_l1 := A37) (c_l1 := c38) (l1 := xs36) (hS_l1 := by exact Le.refl _) (h_l1 := by exact sl_row 0 rfl) (h := hx40)) ?_
  rintro _ _ ⟨rfl,rfl⟩
  refine kp [(0,pp bt0 0),(4,pp bq1 0),(6,pp bq3 0),(8,ii x28),(10,pp bq34 0),(57,ii x41)] fun fr => st 3 tt_ok (en_Entry ({ (cellplanemake_none 1 x11) with Tenant := x28,Cell := mx 0 x41 })) (f1 ts_3) rfl<|rd<|rb<|ln 7 tt_ok (en_Config c1 g_c1) ta_30 rfl<|ld 3 tt_ok (v := ii (mx 0 x41)) ts_3 rfl ?_
  replace h := h_b h; obtain ⟨xs44,hx43,h⟩ := h
  refine rc (hc_46 (g_c0 := g_c1) (c0 := c1) (tenant1 := x28) (home2 := mx 0 x41) (hS_c0 := by exact (le_d 8).trans hS_c1) (h_c0 :=h_c1) (h := hx43)) ?_
  rintro _ _ ⟨A45,c46,rfl,rfl⟩
  refine kp [(6,pp bq3 0),(10,pp bq34 0),(60,pp bt0 0),(65,.slice A45 xs44.length c46)] fun fr => r_le ((le_mv 2).trans (le_mv 2)) ?_
  replace h := h_b h; obtain ⟨⟨x49,x50⟩,hx48,h⟩ := h
  refine rc (hc_44o (bt0 := bt0) (g_t0 := g_t0) (t0 := { t0 with At := x42 }) (A_l1 := A45) (c_l1 := c46) (l1 := xs44) (hS_l1 := by exact Le.refl _) (h_l1 := by exact sl_row 0 rfl) (h := hx48)) ?_
  rintro _ _ ⟨rfl,rfl⟩
  refine st 4 tt_ok (en_Entry ({ (cellplanemake_none 1 x11) with Tenant := x28,Cell := mx 0 x41,Other := x49 })) (f1 ts_3) rfl<|rd<|rb<|ln 4 tt_ok (en_Entry ({ (cellplanemake_none 1 x11) with Tenant := x28,Cell := mx 0 x41,Other := x49 })) ta_45 rfl<|st 6 tt_ok (en_Entry ({ (cellplanemake_none 1 x11) with Tenant := x28,Cell := mx 0 x41,Other := x49 })) (fn ta_45) rfl<|rd ?_
  repeat refine rd ?_
  repeat refine rd ?_
  obtain rfl := h_out h
  exact ret_of (rv_cell 6 tt_ok (by kernel_rfl) ta_45 rfl rfl RV.nil) (le_w [true,true,false,false,false,false,false,false,false]) ⟨rfl,rfl⟩
 refine rd<|rb<|rc (hc_43 (kind0 := 2) (tick1 := x11)) ?_
 rintro _ _ ⟨rfl,rfl⟩
 refine r_al tt_ok (en_Entry (⟨0,0,0,0,0,0,0,0,0⟩ : Entry)) ti_45 (by kernel_rfl) fun bq51 => kp [(0,pp bt0 0),(4,pp bq1 0),(5,pp bq2 0),(6,pp bq3 0),(8,ii x28),(9,pp bq32 0),(11,pp bq51 0),(70,.agg (en_Entry (cellplanemake_none 2 x11)).toArray)] fun fr => st 0 tt_ok (en_Entry (cellplanemake_none 2 x11)) (fn ta_45) rfl<|rd<|rb<|st 0 tt_ok (en_Entry ({ (cellplanemake_none 2 x11) with Tenant := x28 })) (f1 ts_3) rfl<|rd<|rb<|rb<|r_le ((le_mv 3).trans (le_mv 3)) ?_
 replace h := h_b h; obtain ⟨⟨x53,x54⟩,hx52,h⟩ := h
 refine rc (hc_33o (bt0 := bt0) (g_t0 := g_t0) (t0 := { t0 with At := x29 }) (n1 := 12) (h := hx52)) ?_
 rintro _ _ ⟨rfl,rfl⟩
 refine rd<|rb<|rb<|rd ?_
 apply r_iteh h<;>clear h<;>intro h
 ·refine r_mix tt_ok hm_ok _ _ [] (.pure 0 (.vb 1 (.pure 2 (.pure 3 (.eff 4 (.pure 5 (.eff 6 .nil))))))) (le_w [true,true,false,true,true,true,true]) (le_w [true,true,false,true,true,true,true]) ?_ ?_
  ·decide +kernel
  refine x_p rfl<|vd<|xp [(6,pp bq3 0),(11,pp bq51 0),(82,pp bq32 6)] fun fr => x_vb rfl<|vl 2 tt_ok (v := ii x30.Epoch) ts_3 rfl<|vd<|x_p rfl<|vd<|x_p rfl<|vd<|x_e rfl<|st 2 tt_ok (en_Entry ({ (cellplanemake_none 2 x11) with Kind := 3,Tenant := x28 })) (f1 ts_3) rfl<|rd ⟨rfl,k_a (le_w [true,true,false,true,true,true,true]) (le_w [true,true,false,true,true,true,true]),?_⟩
  refine x_p rfl<|vd<|x_e rfl<|st 2 tt_ok (en_Entry ({ (cellplanemake_none 2 x11) with Kind := 3,Tenant := x28,Epoch := mx 1 x30.Epoch })) (f1 ts_3) rfl<|rd ⟨rfl,k_a (le_w [true,true,false,true,true,true,true]) (le_w [true,true,false,true,true,true,true]),?_⟩
  refine xk [(6,pp bq3 0),(11,pp bq51 0)] fun fr => rd<|rd<|rb<|ln 2 tt_ok (en_Entry ({ (cellplanemake_none 2 x11) with Kind := 3,Tenant := x28,Epoch := mx 1 x30.Epoch })) ta_45 rfl<|st 4 tt_ok (en_Entry ({ (cellplanemake_none 2 x11) with Kind := 3,Tenant := x28,Epoch := mx 1 x30.Epoch })) (fn ta_45) rfl<|rd ?_
  repeat refine rd ?_
  repeat refine rd ?_
  obtain rfl := h_out h
  exact ret_of (rv_cell 4 tt_ok (by kernel_rfl) ta_45 rfl rfl RV.nil) (le_w [true,true,false,false,false,false,false]) ⟨rfl,rfl⟩
 refine rb<|kr [(0,pp bt0 0),(4,pp bq1 0),(5,pp bq2 0),(6,pp bq3 0),(8,ii x28),(9,pp bq32 0),(11,pp bq51 0),(74,ii x53),(87,.bool (decide (x53 = 1)))] fun fr => rd ?_
 apply r_iteh h<;>clear h<;>intro h
 ·refine ln 6 tt_ok (en_Config c1 g_c1) ta_30 rfl<|ld 3 tt_ok (v := ii x30.Home) ts_3 rfl ?_
  replace h := h_b h; obtain ⟨xs58,hx57,h⟩ := h
  refine rc (hc_46 (g_c0 := g_c1) (c0 := c1) (tenant1 := x28) (home2 := x30.Home) (hS_c0 := by exact (le_d 7).trans hS_c1) (h_c0 :=h_c1) (h := hx57)) ?_
  rintro _ _ ⟨A59,c60,rfl,rfl⟩
  refine r_le ((le_mv 2).trans (le_mv 2)) ?_
  replace h := h_b h; obtain ⟨⟨x63,x64⟩,hx62,h⟩ := h
  refine rc (hc_44o (bt0 := bt0) (g_t0 := g_t0) (t0 := { t0 with At := x54 }) (A_l1 := A59) (c_l1 := c60) (l1 := xs58) (hS_l1 := by exact Le.refl _) (h_l1 := by exact sl_row 0 rfl) (h := hx62)) ?_
  rintro _ _ ⟨rfl,rfl⟩
  refine st 3 tt_ok (en_Entry ({ (cellplanemake_none 2 x11) with Kind := 4,Tenant := x28 })) (f1 ts_3) rfl<|kp [(6,pp bq3 0),(11,pp bq51 0),(95,ii x63)] fun fr => st 3 tt_ok (en_Entry ({ (cellplanemake_none 2 x11) with Kind := 4,Tenant := x28,Cell := x63 })) (f1 ts_3) rfl<|rd<|rd<|rb<|ln 3 tt_ok (en_Entry ({ (cellplanemake_none 2 x11) with Kind := 4,Tenant := x28,Cell := x63 })) ta_45 rfl<|st 5 tt_ok (en_Entry ({ (cellplanemake_none 2 x11) with Kind := 4,Tenant := x28,Cell := x63 })) (fn ta_45) rfl<|rd ?_
  repeat refine rd ?_
  repeat refine rd ?_
  obtain rfl := h_out h
  exact ret_of (rv_cell 5 tt_ok (by kernel_rfl) ta_45 rfl rfl RV.nil) (le_w [true,true,false,false,false,false,false,false]) ⟨rfl,rfl⟩
 refine rb<|rd ?_
 apply r_iteh h<;>clear h<;>intro h
 ·refine r_mix tt_ok hm_ok _ _ [] (.pure 0 (.vb 1 (.pure 2 (.pure 3 (.eff 4 (.pure 5 (.eff 6 .nil))))))) (le_w [true,true,false,true,true,true,true]) (le_w [true,true,false,true,true,true,true]) ?_ ?_
  ·decide +kernel
  refine x_p rfl<|vd<|x_vb rfl<|vl 2 tt_ok (v := ii x30.Next) ts_3 rfl<|vd<|x_p rfl<|vd<|x_p rfl<|vd<|x_e rfl<|st 2 tt_ok (en_Entry ({ (cellplanemake_none 2 x11) with Kind := 5,Tenant := x28 })) (f1 ts_3) rfl<|rd ⟨rfl,k_a (le_w [true,true,false,true,true,true,true]) (le_w [true,true,false,true,true,true,true]),?_⟩
  refine x_p rfl<|vd<|x_e rfl<|st 2 tt_ok (en_Entry ({ (cellplanemake_none 2 x11) with Kind := 5,Tenant := x28,Cell := mx 0 x30.Next })) (f1 ts_3) rfl<|rd ⟨rfl,k_a (le_w [true,true,false,true,true,true,true]) (le_w [true,true,false,true,true,true,true]),?_⟩
  refine xk [(6,pp bq3 0),(11,pp bq51 0)] fun fr => rd<|rd<|rb<|ln 2 tt_ok (en_Entry ({ (cellplanemake_none 2 x11) with Kind := 5,Tenant := x28,Cell := mx 0 x30.Next })) ta_45 rfl<|st 4 tt_ok (en_Entry ({ (cellplanemake_none 2 x11) with Kind := 5,Tenant := x28,Cell := mx 0 x30.Next })) (fn ta_45) rfl<|rd ?_
  repeat refine rd ?_
  repeat refine rd ?_
  obtain rfl := h_out h
  exact ret_of (rv_cell 4 tt_ok (by kernel_rfl) ta_45 rfl rfl RV.nil) (le_w [true,true,false,false,false,false,false]) ⟨rfl,rfl⟩
 refine rb<|rd ?_
 apply r_iteh h<;>clear h<;>intro h
 ·refine ln 6 tt_ok (en_Config c1 g_c1) ta_30 rfl ?_
  replace h := h_b h; obtain ⟨xs68,hx67,h⟩ := h
  refine rc (hc_45 (g_c0 := g_c1) (c0 := c1) (tenant1 := x28) (hS_c0 := by exact (le_d 7).trans hS_c1) (h_c0 :=h_c1) (h := hx67)) ?_
  rintro _ _ ⟨A69,c70,rfl,rfl⟩
  refine r_le ((le_mv 2).trans (le_mv 2)) ?_
  replace h := h_b h; obtain ⟨⟨x73,x74⟩,hx72,h⟩ := h
  refine rc (hc_44o (bt0 := bt0) (g_t0 := g_t0) (t0 := { t0 with At := x54 }) (A_l1 := A69) (c_l1 := c70) (l1 := xs68) (hS_l1 := by exact Le.refl _) (h_l1 := by exact sl_row 0 rfl) (h := hx72)) ?_
  rintro _ _ ⟨rfl,rfl⟩
  refine kp [(6,pp bq3 0),(11,pp bq51 0),(111,ii x73)] fun fr => st 3 tt_ok (en_Entry ({ (cellplanemake_none 2 x11) with Kind := 6,Tenant := x28 })) (f1 ts_3) rfl<|st 3 tt_ok (en_Entry ({ (cellplanemake_none 2 x11) with Kind := 6,Tenant := x28,Cell := mx 0 x73 })) (f1 ts_3) rfl<|rd<|rd<|rb<|ln 3 tt_ok (en_Entry ({ (cellplanemake_none 2 x11) with Kind := 6,Tenant := x28,Cell := mx 0 x73 })) ta_45 rfl<|st 5 tt_ok (en_Entry ({ (cellplanemake_none 2 x11) with Kind := 6,Tenant := x28,Cell := mx 0 x73 })) (fn ta_45) rfl<|rd ?_
  repeat refine rd ?_
  repeat refine rd ?_
  obtain rfl := h_out h
  exact ret_of (rv_cell 5 tt_ok (by kernel_rfl) ta_45 rfl rfl RV.nil) (le_w [true,true,false,false,false,false,false,false]) ⟨rfl,rfl⟩
 refine rb<|rd ?_
 apply r_iteh h<;>clear h<;>intro h
 ·refine st 2 tt_ok (en_Entry ({ (cellplanemake_none 2 x11) with Kind := 7,Tenant := x28 })) (f1 ts_3) rfl<|rd<|rd<|rb<|ln 2 tt_ok (en_Entry ({ (cellplanemake_none 2 x11) with Kind := 7,Tenant := x28 })) ta_45 rfl<|kp [(6,pp bq3 0),(125,.agg (en_Entry ({ (cellplanemake_none 2 x11) with Kind := 7,Tenant := x28 })).toArray)] fun fr => st 4 tt_ok (en_Entry ({ (cellplanemake_none 2 x11) with Kind := 7,Tenant := x28 })) (fn ta_45) rfl<|rd ?_
  repeat refine rd ?_
  repeat refine rd ?_
  obtain rfl := h_out h
  exact ret_of (rv_cell 4 tt_ok (by kernel_rfl) ta_45 rfl rfl RV.nil) (le_w [true,true,false,false,false,false,false]) ⟨rfl,rfl⟩
 refine rb<|rd ?_
 apply r_iteh h<;>clear h<;>intro h
 ·refine rb<|st 2 tt_ok (en_Entry ({ (cellplanemake_none 2 x11) with Kind := 8,Tenant := x28 })) (f1 ts_3) rfl<|kp [(6,pp bq3 0),(9,pp bq32 0),(11,pp bq51 0)] fun fr => st 2 tt_ok (en_Entry ({ (cellplanemake_none 2 x11) with Kind := 8,Tenant := x28,N := 1 })) (f1 ts_3) rfl<|rd<|rb<|ld 3 tt_ok (v := .bool x30.Shed) ts_4 rfl<|rd ?_
  apply r_iteh h<;>clear h<;>intro h
  ·refine st 2 tt_ok (en_Entry ({ (cellplanemake_none 2 x11) with Kind := 8,Tenant := x28,N := 0 })) (f1 ts_3) rfl<|rd<|rd<|rb<|ln 2 tt_ok (en_Entry ({ (cellplanemake_none 2 x11) with Kind := 8,Tenant := x28,N := 0 })) ta_45 rfl<|st 4 tt_ok (en_Entry ({ (cellplanemake_none 2 x11) with Kind := 8,Tenant := x28,N := 0 })) (fn ta_45) rfl<|rd ?_
   repeat refine rd ?_
   repeat refine rd ?_
   obtain rfl := h_out h
   exact ret_of (rv_cell 4 tt_ok (by kernel_rfl) ta_45 rfl rfl RV.nil) (le_w [true,true,false,false,false,false,false]) ⟨rfl,rfl⟩
  refine rd<|rd<|rb<|ln 2 tt_ok (en_Entry ({ (cellplanemake_none 2 x11) with Kind := 8,Tenant := x28,N := 1 })) ta_45 rfl<|st 4 tt_ok (en_Entry ({ (cellplanemake_none 2 x11) with Kind := 8,Tenant := x28,N := 1 })) (fn ta_45) rfl<|rd ?_
  repeat refine rd ?_
  repeat refine rd ?_
  obtain rfl := h_out h
  exact ret_of (rv_cell 4 tt_ok (by kernel_rfl) ta_45 rfl rfl RV.nil) (le_w [true,true,false,false,false,false,false]) ⟨rfl,rfl⟩
 refine rb<|ln 6 tt_ok (en_Config c1 g_c1) ta_30 rfl<|kp [(5,pp bq2 0),(6,pp bq3 0),(11,pp bq51 0),(75,pp bt0 0),(76,.agg (en_Config c1 g_c1).toArray)] fun fr => ln 5 tt_ok (en_State s2 g_s2) ta_38 rfl<|ln 2 tt_ok (en_Entry ({ (cellplanemake_none 2 x11) with Tenant := x28 })) ta_45 rfl ?_
 replace h := h_b h; obtain ⟨⟨x79,x80⟩,hx78,h⟩ := h
 refine rc (hc_47o (bt0 := bt0) (g_t0 := g_t0) (t0 := { t0 with At := x54 }) (g_c1 := g_c1) (c1 := c1) (g_s2 := g_s2) (s2 := s2) (e3 := { (cellplanemake_none 2 x11) with Tenant := x28 }) (hS_c1 := by exact (le_d 5).trans hS_c1) (h_c1 :=h_c1) (hS_s2 := by exact (le_d 5).trans hS_s2) (h_s2 :=h_s2) (h := hx78)) ?_
 rintro _ _ ⟨rfl,rfl⟩
 refine st 4 tt_ok (en_Entry x79) (fn ta_45) rfl<|rd ?_
 repeat refine rd ?_
 repeat refine rd ?_
 obtain rfl := h_out h
 exact ret_of (rv_cell 4 tt_ok (by kernel_rfl) ta_45 rfl rfl RV.nil) (le_w [true,true,false,false,false,false,false]) ⟨rfl,rfl⟩
theorem hc_22   (e0 : Entry) (which1 : Int) (by2 : Int)  {r : Entry} (h : cellplanemake_Spoilt e0 which1 by2 = some r) : HC Tryz.prog 22 #[.agg (en_Entry e0).toArray,ii which1,ii by2] ⟨ρ,L⟩ (fun v S' => v = .agg (en_Entry r).toArray ∧ S' = ⟨ρ,L⟩) := by
 replace h := h_in h
 refine HC.intro (N := 44) (args := [_,_,_]) tt_ok Tryz.func22 rfl (by decide +kernel) rfl (Nat.le_of_ble_eq_true rfl)<|rb<|r_bx (en_Entry e0) (by kernel_rfl) fun bq1 => r_al tt_ok (en_Entry (⟨0,0,0,0,0,0,0,0,0⟩ : Entry)) ti_45 (by kernel_rfl) fun bq2 => rd<|rb<|rb ?_
 replace h := h_b h; obtain ⟨x4,hx3,h⟩ := h
 refine rc (hc_13 (v0 := which1) (n1 := 9) (h := hx3)) ?_
 rintro _ _ ⟨rfl,rfl⟩
 refine rd<|rb<|rb<|rd ?_
 apply r_iteh h<;>clear h<;>intro h
 ·refine st 1 tt_ok (en_Entry ({ e0 with Kind := by2 })) (f1 ts_3) rfl<|kr [(3,pp bq1 0),(6,pp bq2 0)] fun fr => rd<|rd<|rb<|ln 1 tt_ok (en_Entry ({ e0 with Kind := by2 })) ta_45 rfl<|st 0 tt_ok (en_Entry ({ e0 with Kind := by2 })) (fn ta_45) rfl<|rd ?_
  repeat refine rd ?_
  repeat refine rd ?_
  obtain rfl := h_out h
  exact ret_of (rv_cell 0 tt_ok (by kernel_rfl) ta_45 rfl rfl RV.nil) (le_w [false,false]) ⟨rfl,rfl⟩
 refine rb<|rd ?_
 apply r_iteh h<;>clear h<;>intro h
 ·refine st 1 tt_ok (en_Entry ({ e0 with Tick := by2 })) (f1 ts_3) rfl<|kr [(3,pp bq1 0),(6,pp bq2 0)] fun fr => rd<|rd<|rb<|ln 1 tt_ok (en_Entry ({ e0 with Tick := by2 })) ta_45 rfl<|st 0 tt_ok (en_Entry ({ e0 with Tick := by2 })) (fn ta_45) rfl<|rd ?_
  repeat refine rd ?_
  repeat refine rd ?_
  obtain rfl := h_out h
  exact ret_of (rv_cell 0 tt_ok (by kernel_rfl) ta_45 rfl rfl RV.nil) (le_w [false,false]) ⟨rfl,rfl⟩
 refine rb<|kr [(2,ii by2),(3,pp bq1 0),(6,pp bq2 0),(8,ii x4),(19,.bool (decide (x4 = 2)))] fun fr => rd ?_
 apply r_iteh h<;>clear h<;>intro h
 ·refine st 1 tt_ok (en_Entry ({ e0 with Tenant := by2 })) (f1 ts_3) rfl<|rd<|rd<|rb<|ln 1 tt_ok (en_Entry ({ e0 with Tenant := by2 })) ta_45 rfl<|st 0 tt_ok (en_Entry ({ e0 with Tenant := by2 })) (fn ta_45) rfl<|rd ?_
  repeat refine rd ?_
  repeat refine rd ?_
  obtain rfl := h_out h
  exact ret_of (rv_cell 0 tt_ok (by kernel_rfl) ta_45 rfl rfl RV.nil) (le_w [false,false]) ⟨rfl,rfl⟩
 refine rb<|rd ?_
 apply r_iteh h<;>clear h<;>intro h
 ·refine st 1 tt_ok (en_Entry ({ e0 with Cell := by2 })) (f1 ts_3) rfl<|rd<|rd<|rb<|ln 1 tt_ok (en_Entry ({ e0 with Cell := by2 })) ta_45 rfl<|st 0 tt_ok (en_Entry ({ e0 with Cell := by2 })) (fn ta_45) rfl<|rd ?_
  repeat refine rd ?_
  repeat refine rd ?_
  obtain rfl := h_out h
  exact ret_of (rv_cell 0 tt_ok (by kernel_rfl) ta_45 rfl rfl RV.nil) (le_w [false,false]) ⟨rfl,rfl⟩
 refine rb<|rd ?_
 apply r_iteh h<;>clear h<;>intro h
 ·refine st 1 tt_ok (en_Entry ({ e0 with Other := by2 })) (f1 ts_3) rfl<|rd<|rd<|rb<|ln 1 tt_ok (en_Entry ({ e0 with Other := by2 })) ta_45 rfl<|st 0 tt_ok (en_Entry ({ e0 with Other := by2 })) (fn ta_45) rfl<|kr [(6,pp bq2 0)] fun fr => rd ?_
  repeat refine rd ?_
  repeat refine rd ?_
  obtain rfl := h_out h
  exact ret_of (rv_cell 0 tt_ok (by kernel_rfl) ta_45 rfl rfl RV.nil) (le_w [false,false]) ⟨rfl,rfl⟩
 refine rb<|rd ?_
 apply r_iteh h<;>clear h<;>intro h
 ·refine st 1 tt_ok (en_Entry ({ e0 with Epoch := by2 })) (f1 ts_3) rfl<|kr [(3,pp bq1 0),(6,pp bq2 0)] fun fr => rd<|rd<|rb<|ln 1 tt_ok (en_Entry ({ e0 with Epoch := by2 })) ta_45 rfl<|st 0 tt_ok (en_Entry ({ e0 with Epoch := by2 })) (fn ta_45) rfl<|rd ?_
  repeat refine rd ?_
  repeat refine rd ?_
  obtain rfl := h_out h
  exact ret_of (rv_cell 0 tt_ok (by kernel_rfl) ta_45 rfl rfl RV.nil) (le_w [false,false]) ⟨rfl,rfl⟩
 refine rb<|rd ?_
 apply r_iteh h<;>clear h<;>intro h
 ·refine st 1 tt_ok (en_Entry ({ e0 with From := by2 })) (f1 ts_3) rfl<|kr [(3,pp bq1 0),(6,pp bq2 0)] fun fr => rd<|rd<|rb<|ln 1 tt_ok (en_Entry ({ e0 with From := by2 })) ta_45 rfl<|st 0 tt_ok (en_Entry ({ e0 with From := by2 })) (fn ta_45) rfl<|rd ?_
  repeat refine rd ?_
  repeat refine rd ?_
  obtain rfl := h_out h
  exact ret_of (rv_cell 0 tt_ok (by kernel_rfl) ta_45 rfl rfl RV.nil) (le_w [false,false]) ⟨rfl,rfl⟩
 refine rb<|kr [(2,ii by2),(3,pp bq1 0),(6,pp bq2 0),(39,.bool (decide (x4 = 7)))] fun fr => rd ?_
 apply r_iteh h<;>clear h<;>intro h
 ·refine st 1 tt_ok (en_Entry ({ e0 with Until := by2 })) (f1 ts_3) rfl<|rd<|rd<|rb<|ln 1 tt_ok (en_Entry ({ e0 with Until := by2 })) ta_45 rfl<|st 0 tt_ok (en_Entry ({ e0 with Until := by2 })) (fn ta_45) rfl<|rd ?_
  repeat refine rd ?_
  repeat refine rd ?_
  obtain rfl := h_out h
  exact ret_of (rv_cell 0 tt_ok (by kernel_rfl) ta_45 rfl rfl RV.nil) (le_w [false,false]) ⟨rfl,rfl⟩
 refine st 1 tt_ok (en_Entry ({ e0 with N := by2 })) (f1 ts_3) rfl<|rd<|rd<|rb<|ln 1 tt_ok (en_Entry ({ e0 with N := by2 })) ta_45 rfl<|st 0 tt_ok (en_Entry ({ e0 with N := by2 })) (fn ta_45) rfl<|rd ?_
 repeat refine rd ?_
 repeat refine rd ?_
 obtain rfl := h_out h
 exact ret_of (rv_cell 0 tt_ok (by kernel_rfl) ta_45 rfl rfl RV.nil) (le_w [false,false]) ⟨rfl,rfl⟩
theorem hc_16 {g_a0 : gState} {g_b1 : gState} {S_a0 : St} (hS_a0 : Le ⟨ρ,L⟩ S_a0) {S_b1 : St} (hS_b1 : Le ⟨ρ,L⟩ S_b1) (a0 : State) (b1 : State) (h_a0 : Sl_State S_a0 a0 g_a0) (h_b1 : Sl_State S_b1 b1 g_b1) {r : Bool} (h : cellplaneref12_Same a0 b1 = some r) : HC Tryz.prog 16 #[.agg (en_State a0 g_a0).toArray,.agg (en_State b1 g_b1).toArray] ⟨ρ,L⟩ (fun v S' => v = .bool r ∧ S' = ⟨ρ,L⟩) := by
 replace h := h_in h
 refine HC.intro (N := 101) (args := [_,_]) tt_ok Tryz.func16 rfl (by decide +kernel) rfl (Nat.le_of_ble_eq_true rfl)<|rb<|r_bx (en_State a0 g_a0) (by kernel_rfl) fun bq1 => r_bx (en_State b1 g_b1) (by kernel_rfl) fun bq2 => rd<|rb<|rb<|r_meet (fun fr S => ∃ fr0,fr = updL [(2,pp bq1 0),(3,pp bq2 0),(64,.bool ((!decide (a0.Tick = b1.Tick)) || ((!decide (a0.Count = b1.Count)) || ((!decide (a0.Proven = b1.Proven)) || ((!decide (a0.Evacuating = b1.Evacuating)) || ((!decide (a0.Low = b1.Low)) || ((!decide (a0.High = b1.High)) || ((!decide ((a0.Tenants.length : Int) = (b1.Tenants.length : Int))) || (!decide ((a0.Cells.length : Int) = (b1.Cells.length : Int)))))))))))] fr0 ∧ S = ⟨ρ,.obj bq2 (en_State b1 g_b1) 38 :: .obj bq1 (en_State a0 g_a0) 38 :: L⟩) ?_ ?_
 ·refine ld 1 tt_ok (v := ii a0.Tick) ts_3 rfl<|kp [(2,pp bq1 0),(3,pp bq2 0),(8,ii a0.Tick)] fun fr => ld 0 tt_ok (v := ii b1.Tick) ts_3 rfl<|r_ite (fun (hb3 : (!decide (a0.Tick = b1.Tick)) = true) => ?_) (fun (hb3 : (!decide (a0.Tick = b1.Tick)) = false) => ?_)
  ·refine r_T rfl<|r_T rfl<|r_T rfl<|r_T rfl<|kp [(2,pp bq1 0),(3,pp bq2 0),(12,.bool true),(17,undef)] fun fr => r_T rfl<|r_T rfl<|r_T rfl<|r_T rfl<|r_T rfl<|r_T rfl<|r_T rfl<|r_T rfl ?_
   refine kp [(2,pp bq1 0),(3,pp bq2 0),(26,.bool true),(27,undef)] fun fr => r_T rfl<|r_T rfl<|r_T rfl<|r_T rfl<|r_T rfl<|r_T rfl<|r_T rfl<|r_T rfl<|kp [(2,pp bq1 0),(3,pp bq2 0),(33,.bool true),(35,undef),(36,undef)] fun fr => r_T rfl<|r_T rfl<|r_T rfl ?_
   refine r_T rfl<|r_T rfl<|r_T rfl<|r_T rfl<|r_T rfl<|kp [(2,pp bq1 0),(3,pp bq2 0),(40,.bool true),(45,undef)] fun fr => r_T rfl<|r_T rfl<|r_T rfl<|r_T rfl<|r_T rfl<|r_T rfl<|r_T rfl ?_
   exact r_T rfl<|kp [(2,pp bq1 0),(3,pp bq2 0),(47,.bool true),(54,undef)] fun fr => r_T rfl<|r_T rfl<|r_T rfl<|r_T rfl<|r_T rfl<|r_T rfl<|r_T rfl<|r_T rfl<|kp [(2,pp bq1 0),(3,pp bq2 0),(56,.bool true),(63,undef)] fun fr => r_T rfl<|rd ⟨_,fr_eq _ (by (try rw [hb3]); kernel_rfl),by kernel_rfl⟩
  refine r_F rfl<|ld 1 tt_ok (v := ii a0.Count) ts_3 rfl<|r_F rfl<|r_F rfl<|ld 0 tt_ok (v := ii b1.Count) ts_3 rfl<|r_F rfl<|kp [(2,pp bq1 0),(3,pp bq2 0),(12,.bool false),(17,.bool (!decide (a0.Count = b1.Count)))] fun fr => r_ite (fun (hb4 : (!decide (a0.Count = b1.Count)) = true) => ?_) (fun (hb4 : (!decide (a0.Count = b1.Count)) = false) => ?_)
  ·refine r_T rfl<|r_T rfl<|r_T rfl<|r_T rfl<|r_T rfl<|r_T rfl<|kp [(2,pp bq1 0),(3,pp bq2 0),(26,.bool true),(27,undef)] fun fr => r_T rfl<|r_T rfl<|r_T rfl<|r_T rfl<|r_T rfl<|r_T rfl ?_
   refine r_T rfl<|r_T rfl<|kp [(2,pp bq1 0),(3,pp bq2 0),(33,.bool true),(35,undef),(36,undef)] fun fr => r_T rfl<|r_T rfl<|r_T rfl<|r_T rfl<|r_T rfl<|r_T rfl<|r_T rfl<|r_T rfl<|kp [(2,pp bq1 0),(3,pp bq2 0),(40,.bool true),(45,undef)] fun fr => r_T rfl ?_
   refine r_T rfl<|r_T rfl<|r_T rfl<|r_T rfl<|r_T rfl<|r_T rfl<|r_T rfl<|kp [(2,pp bq1 0),(3,pp bq2 0),(47,.bool true),(54,undef)] fun fr => r_T rfl<|r_T rfl<|r_T rfl<|r_T rfl<|r_T rfl ?_
   exact r_T rfl<|r_T rfl<|r_T rfl<|kp [(2,pp bq1 0),(3,pp bq2 0),(56,.bool true),(63,undef)] fun fr => r_T rfl<|rd ⟨_,fr_eq _ (by (try rw [hb4]); (try rw [hb3]); kernel_rfl),by kernel_rfl⟩
  refine r_F rfl<|ld 1 tt_ok (v := ii a0.Proven) ts_3 rfl<|r_F rfl<|r_F rfl<|ld 0 tt_ok (v := ii b1.Proven) ts_3 rfl<|r_F rfl<|r_ite (fun (hb5 : (!decide (a0.Proven = b1.Proven)) = true) => ?_) (fun (hb5 : (!decide (a0.Proven = b1.Proven)) = false) => ?_)
  ·refine kp [(2,pp bq1 0),(3,pp bq2 0),(26,.bool true),(27,undef)] fun fr => r_T rfl<|r_T rfl<|r_T rfl<|r_T rfl<|r_T rfl<|r_T rfl<|r_T rfl<|r_T rfl<|kp [(2,pp bq1 0),(3,pp bq2 0),(33,.bool true),(35,undef),(36,undef)] fun fr => r_T rfl<|r_T rfl<|r_T rfl ?_
   refine r_T rfl<|r_T rfl<|r_T rfl<|r_T rfl<|r_T rfl<|kp [(2,pp bq1 0),(3,pp bq2 0),(40,.bool true),(45,undef)] fun fr => r_T rfl<|r_T rfl<|r_T rfl<|r_T rfl<|r_T rfl<|r_T rfl<|r_T rfl ?_
   exact r_T rfl<|kp [(2,pp bq1 0),(3,pp bq2 0),(47,.bool true),(54,undef)] fun fr => r_T rfl<|r_T rfl<|r_T rfl<|r_T rfl<|r_T rfl<|r_T rfl<|r_T rfl<|r_T rfl<|kp [(2,pp bq1 0),(3,pp bq2 0),(56,.bool true),(63,undef)] fun fr => r_T rfl<|rd ⟨_,fr_eq _ (by (try rw [hb5]); (try rw [hb4]); (try rw [hb3]); kernel_rfl),by kernel_rfl⟩
  refine kp [(2,pp bq1 0),(3,pp bq2 0),(26,.bool false),(27,pp bq1 5)] fun fr => r_F rfl<|ld 1 tt_ok (v := ii a0.Evacuating) ts_3 rfl<|r_F rfl<|r_F rfl<|ld 0 tt_ok (v := ii b1.Evacuating) ts_3 rfl<|r_F rfl<|r_ite (fun (hb6 : (!decide (a0.Evacuating = b1.Evacuating)) = true) => ?_) (fun (hb6 : (!decide (a0.Evacuating = b1.Evacuating)) = false) => ?_)
  ·refine r_T rfl<|r_T rfl<|kp [(2,pp bq1 0),(3,pp bq2 0),(33,.bool true),(35,undef),(36,undef)] fun fr => r_T rfl<|r_T rfl<|r_T rfl<|r_T rfl<|r_T rfl<|r_T rfl<|r_T rfl<|r_T rfl<|kp [(2,pp bq1 0),(3,pp bq2 0),(40,.bool true),(45,undef)] fun fr => r_T rfl ?_
   refine r_T rfl<|r_T rfl<|r_T rfl<|r_T rfl<|r_T rfl<|r_T rfl<|r_T rfl<|kp [(2,pp bq1 0),(3,pp bq2 0),(47,.bool true),(54,undef)] fun fr => r_T rfl<|r_T rfl<|r_T rfl<|r_T rfl<|r_T rfl ?_
   exact r_T rfl<|r_T rfl<|r_T rfl<|kp [(2,pp bq1 0),(3,pp bq2 0),(56,.bool true),(63,undef)] fun fr => r_T rfl<|rd ⟨_,fr_eq _ (by (try rw [hb6]); (try rw [hb5]); (try rw [hb4]); (try rw [hb3]); kernel_rfl),by kernel_rfl⟩
  refine r_F rfl<|ld 1 tt_ok (v := ii a0.Low) ts_3 rfl<|r_F rfl<|kp [(2,pp bq1 0),(3,pp bq2 0),(33,.bool false),(35,ii a0.Low),(36,pp bq2 6)] fun fr => r_F rfl<|ld 0 tt_ok (v := ii b1.Low) ts_3 rfl<|r_F rfl<|r_ite (fun (hb7 : (!decide (a0.Low = b1.Low)) = true) => ?_) (fun (hb7 : (!decide (a0.Low = b1.Low)) = false) => ?_)
  ·refine r_T rfl<|r_T rfl<|r_T rfl<|r_T rfl<|kp [(2,pp bq1 0),(3,pp bq2 0),(40,.bool true),(45,undef)] fun fr => r_T rfl<|r_T rfl<|r_T rfl<|r_T rfl<|r_T rfl<|r_T rfl<|r_T rfl<|r_T rfl ?_
   exact kp [(2,pp bq1 0),(3,pp bq2 0),(47,.bool true),(54,undef)] fun fr => r_T rfl<|r_T rfl<|r_T rfl<|r_T rfl<|r_T rfl<|r_T rfl<|r_T rfl<|r_T rfl<|kp [(2,pp bq1 0),(3,pp bq2 0),(56,.bool true),(63,undef)] fun fr => r_T rfl<|rd ⟨_,fr_eq _ (by (try rw [hb7]); (try rw [hb6]); (try rw [hb5]); (try rw [hb4]); (try rw [hb3]); kernel_rfl),by kernel_rfl⟩
  refine r_F rfl<|ld 1 tt_ok (v := ii a0.High) ts_3 rfl<|r_F rfl<|r_F rfl<|ld 0 tt_ok (v := ii b1.High) ts_3 rfl<|r_F rfl<|kp [(2,pp bq1 0),(3,pp bq2 0),(40,.bool false),(45,.bool (!decide (a0.High = b1.High)))] fun fr => r_ite (fun (hb8 : (!decide (a0.High = b1.High)) = true) => ?_) (fun (hb8 : (!decide (a0.High = b1.High)) = false) => ?_)
  ·refine r_T rfl<|r_T rfl<|r_T rfl<|r_T rfl<|r_T rfl<|r_T rfl<|kp [(2,pp bq1 0),(3,pp bq2 0),(47,.bool true),(54,undef)] fun fr => r_T rfl<|r_T rfl<|r_T rfl<|r_T rfl<|r_T rfl<|r_T rfl ?_
   exact r_T rfl<|r_T rfl<|kp [(2,pp bq1 0),(3,pp bq2 0),(56,.bool true),(63,undef)] fun fr => r_T rfl<|rd ⟨_,fr_eq _ (by (try rw [hb8]); (try rw [hb7]); (try rw [hb6]); (try rw [hb5]); (try rw [hb4]); (try rw [hb3]); kernel_rfl),by kernel_rfl⟩
  refine r_F rfl<|ld 1 tt_ok (v := .slice g_a0.Tenants.1 a0.Tenants.length g_a0.Tenants.2) ts_35 rfl<|r_F rfl<|r_F rfl<|r_F rfl<|ld 0 tt_ok (v := .slice g_b1.Tenants.1 b1.Tenants.length g_b1.Tenants.2) ts_35 rfl<|r_F rfl<|r_F rfl<|kp [(2,pp bq1 0),(3,pp bq2 0),(47,.bool false),(54,.bool (!decide ((a0.Tenants.length : Int) = (b1.Tenants.length : Int))))] fun fr => r_ite (fun (hb9 : (!decide ((a0.Tenants.length : Int) = (b1.Tenants.length : Int))) = true) => ?_) (fun (hb9 : (!decide ((a0.Tenants.length : Int) = (b1.Tenants.length : Int))) = false) => ?_)
  ·exact r_T rfl<|r_T rfl<|r_T rfl<|r_T rfl<|r_T rfl<|r_T rfl<|kp [(2,pp bq1 0),(3,pp bq2 0),(56,.bool true),(63,undef)] fun fr => r_T rfl<|rd ⟨_,fr_eq _ (by (try rw [hb9]); (try rw [hb8]); (try rw [hb7]); (try rw [hb6]); (try rw [hb5]); (try rw [hb4]); (try rw [hb3]); kernel_rfl),by kernel_rfl⟩
  exact r_F rfl<|ld 1 tt_ok (v := .slice g_a0.Cells.1 a0.Cells.length g_a0.Cells.2) ts_36 rfl<|r_F rfl<|r_F rfl<|r_F rfl<|ld 0 tt_ok (v := .slice g_b1.Cells.1 b1.Cells.length g_b1.Cells.2) ts_36 rfl<|r_F rfl<|r_F rfl<|kp [(2,pp bq1 0),(3,pp bq2 0),(56,.bool false),(63,.bool (!decide ((a0.Cells.length : Int) = (b1.Cells.length : Int))))] fun fr => rd ⟨_,fr_eq _ (by (try rw [hb9]); (try rw [hb8]); (try rw [hb7]); (try rw [hb6]); (try rw [hb5]); (try rw [hb4]); (try rw [hb3]); kernel_rfl),by kernel_rfl⟩
 rintro fr S ⟨fr,rfl,rfl⟩
 refine rd ?_
 apply r_iteh h<;>clear h<;>intro h
 ·refine rb<|rd ?_
  repeat refine rd ?_
  repeat refine rd ?_
  obtain rfl := h_out h
  exact ret_of (RV.tmp RV.nil) (le_w [false,false]) ⟨rfl,rfl⟩
 refine rd<|rb ?_
 replace h := h_k h; obtain ⟨K36,h,hK37⟩ := h
 refine r_meet (fun fr S => ∃ fr0,(cellplaneref12_Same.j1 a0 b1).bind K36 = some r ∧ fr = updL [(2,pp bq1 0),(3,pp bq2 0)] fr0 ∧ S = ⟨ρ,.obj bq2 (en_State b1 g_b1) 38 :: .obj bq1 (en_State a0 g_a0) 38 :: L⟩) ?_ ?_
 ·refine rb<|rd<|rb ?_
  replace h := h_l h; obtain ⟨K32,n33,h,hK34⟩ := h
  refine r_loop (fun n fr S => ∃ (x25 : Int),∃ fr0,(runN (cellplaneref12_Same.b2 a0 b1) n x25).bind K32 = some r ∧ fr = updL [(2,pp bq1 0),(3,pp bq2 0),(5,ii x25)] fr0 ∧ S = ⟨ρ,.obj bq2 (en_State b1 g_b1) 38 :: .obj bq1 (en_State a0 g_a0) 38 :: L⟩) n33 ⟨0,_,h,fe _,by kernel_rfl⟩ ?_
  clear h
  rintro n33 fr S ⟨x25,fr,h,rfl,rfl⟩
  replace h := h_r h; obtain ⟨m35,hm35,h⟩ := h
  refine rb<|rb<|ld 1 tt_ok (v := .slice g_a0.Tenants.1 a0.Tenants.length g_a0.Tenants.2) ts_35 rfl<|rd ?_
  apply r_iteh h<;>clear h<;>intro h
  ·refine rd<|rb<|rb<|rb<|r_mix tt_ok hm_ok _ _ [] (.pure 0 (.vb 1 (.pure 2 (.vb 3 (.vb 4 (.pure 5 (.vb 6 (.pure 7 (.vb 8 (.vb 9 (.pure 10 .nil))))))))))) (le_w [true,true]) (le_w [true,true]) ?_ ?_
   ·decide +kernel
   refine x_p rfl<|vd<|x_vb rfl<|vl 1 tt_ok (v := .slice g_a0.Tenants.1 a0.Tenants.length g_a0.Tenants.2) ts_35 rfl<|vd<|x_p rfl<|vd<|x_vb rfl ?_
   replace h := h_b h; obtain ⟨x27,hx28,h⟩ := h
   refine v_el hx28 ((h_a0.1).rd.mono ((le_d 2).trans hS_a0))<|vd<|xp [(2,pp bq1 0),(3,pp bq2 0),(5,ii x25),(75,.pointer (some ((adr g_a0.Tenants.1).add (x25.toNat * 12))))] fun fr => x_vb rfl<|v_len (E := eTenantState) tt_ok (en_TenantState x27) (idx_get hx28) ((h_a0.1).rd.mono ((le_d 2).trans hS_a0)) ta_58 rfl (pl0 _ _) (by kernel_rfl) (by kernel_rfl)<|vd<|x_p rfl<|vd<|x_vb rfl<|vl 0 tt_ok (v := .slice g_b1.Tenants.1 b1.Tenants.length g_b1.Tenants.2) ts_35 rfl<|vd<|x_p rfl<|vd ?_
   refine x_vb rfl ?_
   replace h := h_b h; obtain ⟨x29,hx30,h⟩ := h
   refine v_el hx30 ((h_b1.1).rd.mono ((le_d 2).trans hS_b1))<|vd<|x_vb rfl<|v_len (E := eTenantState) tt_ok (en_TenantState x29) (idx_get hx30) ((h_b1.1).rd.mono ((le_d 2).trans hS_b1)) ta_58 rfl (pl0 _ _) (by kernel_rfl) (by kernel_rfl)<|vd<|x_p rfl<|v_op (fun w => ex_neS (fun w => eq_TenantState x27 x29 w) (by decide +kernel) rfl rfl rfl w)<|vd<|xk [(2,pp bq1 0),(3,pp bq2 0),(5,ii x25),(82,.bool (!decide (x27 = x29)))] fun fr => rd ?_
   apply r_iteh h<;>clear h<;>intro h
   ·refine rb<|rd ?_
    repeat refine rd ?_
    replace h := h_m h
    subst hK34
    subst hK37
    repeat refine rd ?_
    obtain rfl := h_out h
    exact ret_of (RV.tmp RV.nil) (le_w [false,false]) ⟨rfl,rfl⟩
   exact rd<|rd<|r_num (e' := w64 (x25 + 1)) rfl<|rd ⟨m35,lt_s hm35,w64 (x25 + 1),_,h,fe _,by kernel_rfl⟩
  refine rd<|rd ?_
  replace h := h_m h
  subst hK34
  exact rd ⟨_,h,fe _,by kernel_rfl⟩
 clear h
 rintro fr S ⟨fr,h,rfl,rfl⟩
 subst hK37
 refine rd<|rb<|rb<|rd<|rb ?_
 replace h := h_l h; obtain ⟨K59,n60,h,hK61⟩ := h
 refine r_loop (fun n fr S => ∃ (x52 : Int),∃ fr0,(runN (cellplaneref12_Same.b3 a0 b1) n x52).bind K59 = some r ∧ fr = updL [(2,pp bq1 0),(3,pp bq2 0),(6,ii x52)] fr0 ∧ S = ⟨ρ,.obj bq2 (en_State b1 g_b1) 38 :: .obj bq1 (en_State a0 g_a0) 38 :: L⟩) n60 ⟨0,_,h,fe _,by kernel_rfl⟩ ?_
 clear h
 rintro n60 fr S ⟨x52,fr,h,rfl,rfl⟩
 replace h := h_r h; obtain ⟨m62,hm62,h⟩ := h
 refine rb<|rb<|ld 1 tt_ok (v := .slice g_a0.Cells.1 a0.Cells.length g_a0.Cells.2) ts_36 rfl<|rd ?_
 apply r_iteh h<;>clear h<;>intro h
 ·refine rd<|rb<|rb<|rb<|r_mix tt_ok hm_ok _ _ [] (.pure 0 (.vb 1 (.pure 2 (.vb 3 (.vb 4 (.pure 5 (.vb 6 (.pure 7 (.vb 8 (.vb 9 (.pure 10 .nil))))))))))) (le_w [true,true]) (le_w [true,true]) ?_ ?_
  ·decide +kernel
  refine x_p rfl<|vd<|x_vb rfl<|vl 1 tt_ok (v := .slice g_a0.Cells.1 a0.Cells.length g_a0.Cells.2) ts_36 rfl<|vd<|x_p rfl<|vd<|x_vb rfl ?_
  replace h := h_b h; obtain ⟨x54,hx55,h⟩ := h
  refine v_el hx55 ((h_a0.2).rd.mono ((le_d 2).trans hS_a0))<|vd<|xp [(2,pp bq1 0),(3,pp bq2 0),(6,ii x52),(93,.pointer (some ((adr g_a0.Cells.1).add (x52.toNat * 4))))] fun fr => x_vb rfl<|v_len (E := eCellState) tt_ok (en_CellState x54) (idx_get hx55) ((h_a0.2).rd.mono ((le_d 2).trans hS_a0)) ta_54 rfl (pl0 _ _) (by kernel_rfl) (by kernel_rfl)<|vd<|x_p rfl<|vd<|x_vb rfl<|vl 0 tt_ok (v := .slice g_b1.Cells.1 b1.Cells.length g_b1.Cells.2) ts_36 rfl<|vd<|x_p rfl<|vd ?_
  refine x_vb rfl ?_
  replace h := h_b h; obtain ⟨x56,hx57,h⟩ := h
  refine v_el hx57 ((h_b1.2).rd.mono ((le_d 2).trans hS_b1))<|vd<|x_vb rfl<|v_len (E := eCellState) tt_ok (en_CellState x56) (idx_get hx57) ((h_b1.2).rd.mono ((le_d 2).trans hS_b1)) ta_54 rfl (pl0 _ _) (by kernel_rfl) (by kernel_rfl)<|vd<|x_p rfl<|v_op (fun w => ex_neS (fun w => eq_CellState x54 x56 w) (by decide +kernel) rfl rfl rfl w)<|vd<|xk [(2,pp bq1 0),(3,pp bq2 0),(6,ii x52),(100,.bool (!decide (x54 = x56)))] fun fr => rd ?_
  apply r_iteh h<;>clear h<;>intro h
  ·refine rb<|rd ?_
   repeat refine rd ?_
   replace h := h_m h
   subst hK61
   repeat refine rd ?_
   obtain rfl := h_out h
   exact ret_of (RV.tmp RV.nil) (le_w [false,false]) ⟨rfl,rfl⟩
  exact rd<|rd<|r_num (e' := w64 (x52 + 1)) rfl<|rd ⟨m62,lt_s hm62,w64 (x52 + 1),_,h,fe _,by kernel_rfl⟩
 refine rd<|rd ?_
 replace h := h_m h
 subst hK61
 refine rd<|rb<|rd ?_
 repeat refine rd ?_
 repeat refine rd ?_
 obtain rfl := h_out h
 exact ret_of (RV.tmp RV.nil) (le_w [false,false]) ⟨rfl,rfl⟩
theorem hc_24 {g_c0 : gConfig} {g_s1 : gState} {S_c0 : St} (hS_c0 : Le ⟨ρ,L⟩ S_c0) {S_s1 : St} (hS_s1 : Le ⟨ρ,L⟩ S_s1) (c0 : Config) (s1 : State) (e2 : Entry) (h_c0 : Sl_Config S_c0 c0 g_c0) (h_s1 : Sl_State S_s1 s1 g_s1) {r : Int} (h : state_Check c0 s1 e2 = some r) : HC Tryz.prog 24 #[.agg (en_Config c0 g_c0).toArray,.agg (en_State s1 g_s1).toArray,.agg (en_Entry e2).toArray] ⟨ρ,L⟩ (fun v S' => v = ii r ∧ S' = ⟨ρ,L⟩) := by
 replace h := h_in h
 refine HC.intro (N := 17) (args := [_,_,_]) tt_ok Tryz.func24 rfl (by decide +kernel) rfl (Nat.le_of_ble_eq_true rfl)<|rb<|r_bx (en_Config c0 g_c0) (by kernel_rfl) fun bq1 => r_bx (en_State s1 g_s1) (by kernel_rfl) fun bq2 => r_bx (en_Entry e2) (by kernel_rfl) fun bq3 => rd<|rb<|ln 2 tt_ok (en_Config c0 g_c0) ta_30 rfl<|ln 1 tt_ok (en_State s1 g_s1) ta_38 rfl<|ln 0 tt_ok (en_Entry e2) ta_45 rfl ?_
 replace h := h_b h; obtain ⟨⟨x5,x6⟩,hx4,h⟩ := h
 refine rc (hc_15 (g_c0 := g_c0) (c0 := c0) (g_s1 := g_s1) (s1 := s1) (e2 := e2) (hS_c0 := by exact (le_d 3).trans hS_c0) (h_c0 :=h_c0) (hS_s1 := by exact (le_d 3).trans hS_s1) (h_s1 :=h_s1) (h := hx4)) ?_
 rintro _ _ ⟨A7,c8,A10,c11,rfl,rfl⟩
 refine r_al tt_ok (en_State (⟨0,0,[],[],0,0,0,0⟩ : State) (⟨(none,0),(none,0)⟩)) ti_38 (by kernel_rfl) fun bq13 => kp [(7,pp bq13 0),(14,.agg (en_State x5 (⟨(A7,c8),(A10,c11)⟩)).toArray),(15,ii x6)] fun fr => st 0 tt_ok (en_State x5 (⟨(A7,c8),(A10,c11)⟩)) (fn ta_38) rfl<|rd<|rb<|rd ?_
 repeat refine rd ?_
 repeat refine rd ?_
 obtain rfl := h_out h
 exact ret_of (RV.tmp RV.nil) (le_w [false,false,false,false,false,false]) ⟨rfl,rfl⟩
theorem hc_5 {A_l0 : Option Addr} {c_l0 : Nat} {A_more1 : Option Addr} {c_more1 : Nat} {S_l0 : St} (hS_l0 : Le ⟨ρ,L⟩ S_l0) {S_more1 : St} (hS_more1 : Le ⟨ρ,L⟩ S_more1) (l0 : (List Int)) (more1 : (List Int)) (raw2 : Entry) (which3 : Int) (by4 : Int) (h_l0 : Sl S_l0 A_l0 l0.length c_l0 (fl eI64.en l0)) (h_more1 : Sl S_more1 A_more1 more1.length c_more1 (fl eI64.en more1)) {r : Bool} (h : cellplanelaw12_StateApplies l0 more1 raw2 which3 by4 = some r) : HC Tryz.prog 5 #[.slice A_l0 l0.length c_l0,.slice A_more1 more1.length c_more1,.agg (en_Entry raw2).toArray,ii which3,ii by4] ⟨ρ,L⟩ (fun v S' => v = .bool r ∧ S' = ⟨ρ,L⟩) := by
 replace h := h_in h
 refine HC.intro (N := 103) (args := [_,_,_,_,_]) tt_ok Tryz.func5 rfl (by decide +kernel) rfl (Nat.le_of_ble_eq_true rfl)<|rb<|r_bx (en_Entry raw2) (by kernel_rfl) fun bq1 => rd<|rb<|rb<|r_meet (fun fr S => ∃ fr0,fr = updL [(0,.slice A_l0 l0.length c_l0),(1,.slice A_more1 more1.length c_more1),(3,ii which3),(4,ii by4),(7,pp bq1 0),(27,.bool ((!(cellplanemake_Light l0)) || (!(cellplanemake_Light more1))))] fr0 ∧ S = ⟨ρ,.obj bq1 (en_Entry raw2) 45 :: L⟩) ?_ ?_
 ·refine rc (hc_9 (A_l0 := A_l0) (c_l0 := c_l0) (l0 := l0) (hS_l0 := by exact (le_d 1).trans hS_l0) (h_l0 :=h_l0)) ?_
  rintro _ _ ⟨rfl,rfl⟩
  refine kp [(0,.slice A_l0 l0.length c_l0),(1,.slice A_more1 more1.length c_more1),(3,ii which3),(4,ii by4),(7,pp bq1 0),(21,.bool (cellplanemake_Light l0))] fun fr => r_ite (fun (hb2 : (!(cellplanemake_Light l0)) = true) => ?_) (fun (hb2 : (!(cellplanemake_Light l0)) = false) => ?_)
  ·exact r_T rfl<|r_T rfl<|r_T rfl<|rd ⟨_,fr_eq _ (by (try rw [hb2]); kernel_rfl),by kernel_rfl⟩
  refine r_F rfl<|rc (hc_9 (A_l0 := A_more1) (c_l0 := c_more1) (l0 := more1) (hS_l0 := by exact (le_d 1).trans hS_more1) (h_l0 :=h_more1)) ?_
  rintro _ _ ⟨rfl,rfl⟩
  exact r_F rfl<|rd ⟨_,fr_eq _ (by (try rw [hb2]); kernel_rfl),by kernel_rfl⟩
 rintro fr S ⟨fr,rfl,rfl⟩
 refine rd ?_
 apply r_iteh h<;>clear h<;>intro h
 ·refine rb ?_
  replace h := h_b h; obtain ⟨x5,hx4,h⟩ := h
  refine rc (hc_10  (h := hx4)) ?_
  rintro _ _ ⟨rfl,rfl⟩
  refine rd ?_
  repeat refine rd ?_
  repeat refine rd ?_
  obtain rfl := h_out h
  exact ret_of (RV.tmp RV.nil) (le_w [false]) ⟨rfl,rfl⟩
 refine rd<|rb ?_
 replace h := h_b h; obtain ⟨x7,hx6,h⟩ := h
 refine rc (hc_11 (A_l0 := A_l0) (c_l0 := c_l0) (l0 := l0) (hS_l0 := by exact (le_d 1).trans hS_l0) (h_l0 :=h_l0) (h := hx6)) ?_
 rintro _ _ ⟨A8,c9,A11,c12,A14,c15,A17,c18,A20,c21,A23,c24,rfl,rfl⟩
 refine r_al tt_ok (en_Config (⟨0,[],[],[],[],[],[],0,0,0⟩ : Config) (⟨(none,0),(none,0),(none,0),(none,0),(none,0),(none,0)⟩)) ti_30 (by kernel_rfl) fun bq26 => st 0 tt_ok (en_Config x7 (⟨(A8,c9),(A11,c12),(A14,c15),(A17,c18),(A20,c21),(A23,c24)⟩)) (fn ta_30) rfl<|rd<|rb<|ln 0 tt_ok (en_Config x7 (⟨(A8,c9),(A11,c12),(A14,c15),(A17,c18),(A20,c21),(A23,c24)⟩)) ta_30 rfl ?_
 replace h := h_b h; obtain ⟨x28,hx27,h⟩ := h
 refine rc (hc_17 (A_l0 := A_more1) (c_l0 := c_more1) (l0 := more1) (g_c1 := ⟨(A8,c9),(A11,c12),(A14,c15),(A17,c18),(A20,c21),(A23,c24)⟩) (c1 := x7) (n2 := 40) (hS_l0 := by exact (le_d 8).trans hS_more1) (h_l0 :=h_more1) (hS_c1 := by exact Le.refl _) (h_c1 := by exact ⟨sl_row 1 rfl,sl_row 2 rfl,sl_row 3 rfl,sl_row 4 rfl,sl_row 5 rfl,sl_row 6 rfl⟩) (h := hx27)) ?_
 rintro _ _ ⟨A29,c30,A32,c33,rfl,rfl⟩
 refine r_al tt_ok (en_State (⟨0,0,[],[],0,0,0,0⟩ : State) (⟨(none,0),(none,0)⟩)) ti_38 (by kernel_rfl) fun bq35 => st 0 tt_ok (en_State x28 (⟨(A29,c30),(A32,c33)⟩)) (fn ta_38) rfl<|kr [(0,.slice A_l0 l0.length c_l0),(1,.slice A_more1 more1.length c_more1),(3,ii which3),(4,ii by4),(7,pp bq1 0),(11,pp bq26 0),(12,pp bq35 0)] fun fr => rd<|rb<|r_bs tt_ok (fl eI64.en ([] : (List Int))) te_22 ti_3 (by kernel_rfl) (by kernel_rfl) (by kernel_rfl) (by kernel_rfl) fun bq36 => ?_
 replace h := h_b h; obtain ⟨xs37,ha38,h⟩ := h
 refine r_app 0 (E := eI64) (xs := ([] : (List Int))) (ys := more1) tt_ok ha38 ((h_more1).rd.mono ((le_d 12).trans hS_more1)) rfl te_22 ti_3 rfl (by kernel_rfl) rfl (fun A39 c40 => ?_)
 replace h := h_b h; obtain ⟨xs42,ha43,h⟩ := h
 refine r_app 0 (E := eI64) (xs := xs37) (ys := l0) tt_ok ha43 ((h_l0).rd.mono ((le_d 12).trans hS_l0)) rfl te_22 ti_3 rfl (by kernel_rfl) rfl (fun A44 c45 => ?_)
 refine r_inl (HC.intro (N := 6) (args := [_]) tt_ok Tryz.func20 rfl (by decide +kernel) rfl (Nat.le_of_ble_eq_true rfl) ?_)
 refine rb<|rd<|rb<|r_bd tt_ok (en_cellplanemake_Tape (⟨xs42,0⟩ : cellplanemake_Tape) (⟨(A44,c45)⟩)) ti_94 tp_94 (by kernel_rfl)<|r_bx (en_cellplanemake_Tape (⟨xs42,0⟩ : cellplanemake_Tape) (⟨(A44,c45)⟩)) (by kernel_rfl) fun bq47 => rd ?_
 repeat refine rd ?_
 repeat refine rd ?_
 refine ret_of (RV.tmp RV.nil) (Le.refl _)<|rd<|rb ?_
 replace h := h_k h; obtain ⟨K265,h,hK266⟩ := h
 refine r_meet (fun fr S => ∃ fr0,(cellplanelaw12_StateApplies.j1).bind K265 = some r ∧ fr = updL [] fr0 ∧ S = ⟨ρ,L⟩) ?_ ?_
 ·refine rb<|rd<|rb ?_
  replace h := h_l h; obtain ⟨K261,n262,h,hK263⟩ := h
  refine r_le ((le_mv 12).trans ((le_mv 12).trans ((le_mv 12).trans ((le_mv 12).trans ((le_mv 12).trans ((le_mv 12).trans ((le_mv 12).trans ((le_mv 12).trans ((le_mv 10).trans ((le_mv 10).trans ((le_mv 10).trans ((le_mv 12).trans (le_mv 12)))))))))))))<|r_loop (fun n fr S => ∃ (x190 : Int),∃ (tic191 : Int),∃ (cou192 : Int),∃ (xs193 : (List TenantState)),∃ (xs197 : (List CellState)),∃ (pro201 : Int),∃ (eva202 : Int),∃ (low203 : Int),∃ (hig204 : Int),∃ (at205 : Int),∃ (A194 : Option Addr),∃ (c195 : Nat),∃ (A198 : Option Addr),∃ (c199 : Nat),∃ fr0,(runN (cellplanelaw12_StateApplies.b2 xs42 x7 which3 by4 raw2) n (x190,tic191,cou192,xs193,xs197,pro201,eva202,low203,hig204,at205)).bind K261 = some r ∧ fr = updL [(3,ii which3),(4,ii by4),(7,pp bq1 0),(11,pp bq26 0),(12,pp bq35 0),(13,pp bq47 0),(14,ii x190)] fr0 ∧ S = ⟨ρ,.row A194 xs193.length c195 58 12 (fl eTenantState.en xs193) :: .row A198 xs197.length c199 54 4 (fl eCellState.en xs197) :: .obj bq47 (en_cellplanemake_Tape (⟨xs42,at205⟩ : cellplanemake_Tape) (⟨(A44,c45)⟩)) 94 :: .row A44 xs42.length c45 3 1 (fl eI64.en xs42) :: .obj bq35 (en_State (⟨tic191,cou192,xs193,xs197,pro201,eva202,low203,hig204⟩ : State) (⟨(A194,c195),(A198,c199)⟩)) 38 :: .obj bq26 (en_Config x7 (⟨(A8,c9),(A11,c12),(A14,c15),(A17,c18),(A20,c21),(A23,c24)⟩)) 30 :: .row A8 x7.Zones.length c9 72 1 (fl eZone.en x7.Zones) :: .row A11 x7.Cells.length c12 74 2 (fl eCell.en x7.Cells) :: .row A14 x7.Tenants.length c15 77 7 (fl eTenant.en x7.Tenants) :: .row A17 x7.Versions.length c18 79 2 (fl eVersion.en x7.Versions) :: .row A20 x7.Replicas.length c21 3 1 (fl eI64.en x7.Replicas) :: .row A23 x7.Observers.length c24 3 1 (fl eI64.en x7.Observers) :: .obj bq1 (en_Entry raw2) 45 :: L⟩) n262 ⟨0,x28.Tick,x28.Count,x28.Tenants,x28.Cells,x28.Proven,x28.Evacuating,x28.Low,x28.High,0,A29,c30,A32,c33,_,h,fe _,by kernel_rfl⟩ ?_
  clear h
  rintro n262 fr S ⟨x190,tic191,cou192,xs193,xs197,pro201,eva202,low203,hig204,at205,A194,c195,A198,c199,fr,h,rfl,rfl⟩
  replace h := h_r h; obtain ⟨m264,hm264,h⟩ := h
  refine rb<|rb<|rd ?_
  apply r_iteh h<;>clear h<;>intro h
  ·refine rd<|rb<|rb<|rb<|ln 5 tt_ok (en_Config x7 (⟨(A8,c9),(A11,c12),(A14,c15),(A17,c18),(A20,c21),(A23,c24)⟩)) ta_30 rfl<|ln 4 tt_ok (en_State (⟨tic191,cou192,xs193,xs197,pro201,eva202,low203,hig204⟩ : State) (⟨(A194,c195),(A198,c199)⟩)) ta_38 rfl<|r_le ((le_mv 2).trans (le_mv 3)) ?_
   replace h := h_b h; obtain ⟨⟨x208,x209⟩,hx207,h⟩ := h
   refine rc (hc_19o (bt0 := bq47) (g_t0 := ⟨(A44,c45)⟩) (t0 := (⟨xs42,at205⟩ : cellplanemake_Tape)) (g_c1 := ⟨(A8,c9),(A11,c12),(A14,c15),(A17,c18),(A20,c21),(A23,c24)⟩) (c1 := x7) (g_s2 := ⟨(A194,c195),(A198,c199)⟩) (s2 := (⟨tic191,cou192,xs193,xs197,pro201,eva202,low203,hig204⟩ : State)) (hS_c1 := by exact Le.refl _) (h_c1 := by exact ⟨sl_row 4 rfl,sl_row 5 rfl,sl_row 6 rfl,sl_row 7 rfl,sl_row 8 rfl,sl_row 9 rfl⟩) (hS_s2 := by exact Le.refl _) (h_s2 := by exact ⟨sl_row 0 rfl,sl_row 1 rfl⟩) (h := hx207)) ?_
   rintro _ _ ⟨rfl,rfl⟩
   refine r_al tt_ok (en_Entry (⟨0,0,0,0,0,0,0,0,0⟩ : Entry)) ti_45 (by kernel_rfl) fun bq210 => st 0 tt_ok (en_Entry x208) (fn ta_45) rfl<|rd<|rb ?_
   replace h := h_j h; obtain ⟨K215,h,hK216⟩ := h
   refine r_meet (fun fr S => ∃ (y214 : Entry),∃ fr0,K215 y214 = some r ∧ fr = updL [(3,ii which3),(4,ii by4),(7,pp bq1 0),(11,pp bq26 0),(12,pp bq35 0),(13,pp bq47 0),(14,ii x190),(15,pp bq210 0)] fr0 ∧ S = ⟨ρ,.obj bq210 (en_Entry y214) 45 :: .row A44 xs42.length c45 3 1 (fl eI64.en xs42) :: .obj bq47 (en_cellplanemake_Tape (⟨xs42,x209⟩ : cellplanemake_Tape) (⟨(A44,c45)⟩)) 94 :: .row A194 xs193.length c195 58 12 (fl eTenantState.en xs193) :: .row A198 xs197.length c199 54 4 (fl eCellState.en xs197) :: .obj bq35 (en_State (⟨tic191,cou192,xs193,xs197,pro201,eva202,low203,hig204⟩ : State) (⟨(A194,c195),(A198,c199)⟩)) 38 :: .obj bq26 (en_Config x7 (⟨(A8,c9),(A11,c12),(A14,c15),(A17,c18),(A20,c21),(A23,c24)⟩)) 30 :: .row A8 x7.Zones.length c9 72 1 (fl eZone.en x7.Zones) :: .row A11 x7.Cells.length c12 74 2 (fl eCell.en x7.Cells) :: .row A14 x7.Tenants.length c15 77 7 (fl eTenant.en x7.Tenants) :: .row A17 x7.Versions.length c18 79 2 (fl eVersion.en x7.Versions) :: .row A20 x7.Replicas.length c21 3 1 (fl eI64.en x7.Replicas) :: .row A23 x7.Observers.length c24 3 1 (fl eI64.en x7.Observers) :: .obj bq1 (en_Entry raw2) 45 :: L⟩) ?_ ?_
   ·refine rb<|rd ?_
    apply r_iteh h<;>clear h<;>intro h
    ·refine ln 0 tt_ok (en_Entry x208) ta_45 rfl ?_
     replace h := h_b h; obtain ⟨x213,hx212,h⟩ := h
     refine rc (hc_22 (e0 := x208) (which1 := which3) (by2 := by4) (h := hx212)) ?_
     rintro _ _ ⟨rfl,rfl⟩
     exact st 0 tt_ok (en_Entry x213) (fn ta_45) rfl<|rd ⟨x213,_,h,fe _,by kernel_rfl⟩
    exact rd ⟨x208,_,h,fe _,by kernel_rfl⟩
   clear h
   rintro fr S ⟨y214,fr,h,rfl,rfl⟩
   replace h := hK216 _ h
   refine rd<|rb ?_
   replace h := h_j h; obtain ⟨K223,h,hK224⟩ := h
   refine r_meet (fun fr S => ∃ (y222 : Entry),∃ fr0,K223 y222 = some r ∧ fr = updL [(3,ii which3),(4,ii by4),(7,pp bq1 0),(11,pp bq26 0),(12,pp bq35 0),(13,pp bq47 0),(14,ii x190),(15,pp bq210 0)] fr0 ∧ S = ⟨ρ,.obj bq210 (en_Entry y222) 45 :: .row A44 xs42.length c45 3 1 (fl eI64.en xs42) :: .obj bq47 (en_cellplanemake_Tape (⟨xs42,x209⟩ : cellplanemake_Tape) (⟨(A44,c45)⟩)) 94 :: .row A194 xs193.length c195 58 12 (fl eTenantState.en xs193) :: .row A198 xs197.length c199 54 4 (fl eCellState.en xs197) :: .obj bq35 (en_State (⟨tic191,cou192,xs193,xs197,pro201,eva202,low203,hig204⟩ : State) (⟨(A194,c195),(A198,c199)⟩)) 38 :: .obj bq26 (en_Config x7 (⟨(A8,c9),(A11,c12),(A14,c15),(A17,c18),(A20,c21),(A23,c24)⟩)) 30 :: .row A8 x7.Zones.length c9 72 1 (fl eZone.en x7.Zones) :: .row A11 x7.Cells.length c12 74 2 (fl eCell.en x7.Cells) :: .row A14 x7.Tenants.length c15 77 7 (fl eTenant.en x7.Tenants) :: .row A17 x7.Versions.length c18 79 2 (fl eVersion.en x7.Versions) :: .row A20 x7.Replicas.length c21 3 1 (fl eI64.en x7.Replicas) :: .row A23 x7.Observers.length c24 3 1 (fl eI64.en x7.Observers) :: .obj bq1 (en_Entry raw2) 45 :: L⟩) ?_ ?_
   ·refine rb<|rd ?_
    apply r_iteh h<;>clear h<;>intro h
    ·refine r_mix tt_ok hm_ok _ _ [5] (.va 0 (.pure 1 (.pure 2 (.eff 3 (.eff 4 (.eff 5 .nil)))))) (le_w [true,true,true,true,true,true,true,true,true,true,true,true,true,true]) (le_w [false,true,true,true,true,true,true,true,true,true,true,true,true,true]) ?_ ?_
     ·decide +kernel
     refine x_va rfl<|vn 0 tt_ok (en_Entry y214) ta_45 rfl<|vd<|x_p rfl<|vd<|x_p rfl<|vd<|x_e rfl ?_
     replace h := h_b h; obtain ⟨x219,hx218,h⟩ := h
     refine rc (hc_23 (v0 := by4) (low1 := (-1)) (high2 := 12) (h := hx218)) ?_
     rintro _ _ ⟨rfl,rfl⟩
     refine rd ⟨rfl,k_a (le_w [true,true,true,true,true,true,true,true,true,true,true,true,true,true]) (le_w [false,true,true,true,true,true,true,true,true,true,true,true,true,true]),?_⟩
     refine x_e rfl ?_
     replace h := h_b h; obtain ⟨x221,hx220,h⟩ := h
     refine rc (hc_22 (e0 := y214) (which1 := which3) (by2 := x219) (h := hx220)) ?_
     rintro _ _ ⟨rfl,rfl⟩
     refine rd ⟨rfl,k_a (le_w [true,true,true,true,true,true,true,true,true,true,true,true,true,true]) (le_w [false,true,true,true,true,true,true,true,true,true,true,true,true,true]),?_⟩
     refine xp [(3,ii which3),(4,ii by4),(7,pp bq1 0),(11,pp bq26 0),(12,pp bq35 0),(13,pp bq47 0),(14,ii x190),(15,pp bq210 0),(60,.agg (en_Entry x221).toArray)] fun fr => x_e rfl<|st 0 tt_ok (en_Entry x221) (fn ta_45) rfl<|rd ⟨rfl,k_b rfl (le_w [false,true,true,true,true,true,true,true,true,true,true,true,true,true]),?_⟩
     exact xk [(3,ii which3),(4,ii by4),(7,pp bq1 0),(11,pp bq26 0),(12,pp bq35 0),(13,pp bq47 0),(14,ii x190),(15,pp bq210 0)] fun fr => rd ⟨x221,_,h,fe _,by kernel_rfl⟩
    exact rd ⟨y214,_,h,fe _,by kernel_rfl⟩
   clear h
   rintro fr S ⟨y222,fr,h,rfl,rfl⟩
   replace h := hK224 _ h
   refine rd<|rb ?_
   replace h := h_j h; obtain ⟨K227,h,hK228⟩ := h
   refine r_meet (fun fr S => ∃ (y226 : Entry),∃ fr0,K227 y226 = some r ∧ fr = updL [(3,ii which3),(4,ii by4),(7,pp bq1 0),(11,pp bq26 0),(12,pp bq35 0),(13,pp bq47 0),(14,ii x190),(15,pp bq210 0)] fr0 ∧ S = ⟨ρ,.obj bq210 (en_Entry y226) 45 :: .row A44 xs42.length c45 3 1 (fl eI64.en xs42) :: .obj bq47 (en_cellplanemake_Tape (⟨xs42,x209⟩ : cellplanemake_Tape) (⟨(A44,c45)⟩)) 94 :: .row A194 xs193.length c195 58 12 (fl eTenantState.en xs193) :: .row A198 xs197.length c199 54 4 (fl eCellState.en xs197) :: .obj bq35 (en_State (⟨tic191,cou192,xs193,xs197,pro201,eva202,low203,hig204⟩ : State) (⟨(A194,c195),(A198,c199)⟩)) 38 :: .obj bq26 (en_Config x7 (⟨(A8,c9),(A11,c12),(A14,c15),(A17,c18),(A20,c21),(A23,c24)⟩)) 30 :: .row A8 x7.Zones.length c9 72 1 (fl eZone.en x7.Zones) :: .row A11 x7.Cells.length c12 74 2 (fl eCell.en x7.Cells) :: .row A14 x7.Tenants.length c15 77 7 (fl eTenant.en x7.Tenants) :: .row A17 x7.Versions.length c18 79 2 (fl eVersion.en x7.Versions) :: .row A20 x7.Replicas.length c21 3 1 (fl eI64.en x7.Replicas) :: .row A23 x7.Observers.length c24 3 1 (fl eI64.en x7.Observers) :: .obj bq1 (en_Entry raw2) 45 :: L⟩) ?_ ?_
   ·refine rb<|rd ?_
    apply r_iteh h<;>clear h<;>intro h
    ·exact ln 13 tt_ok (en_Entry raw2) ta_45 rfl<|st 0 tt_ok (en_Entry raw2) (fn ta_45) rfl<|rd ⟨raw2,_,h,fe _,by kernel_rfl⟩
    exact rd ⟨y222,_,h,fe _,by kernel_rfl⟩
   clear h
   rintro fr S ⟨y226,fr,h,rfl,rfl⟩
   replace h := hK228 _ h
   refine rd<|rb<|ln 6 tt_ok (en_Config x7 (⟨(A8,c9),(A11,c12),(A14,c15),(A17,c18),(A20,c21),(A23,c24)⟩)) ta_30 rfl<|ln 5 tt_ok (en_State (⟨tic191,cou192,xs193,xs197,pro201,eva202,low203,hig204⟩ : State) (⟨(A194,c195),(A198,c199)⟩)) ta_38 rfl<|ln 0 tt_ok (en_Entry y226) ta_45 rfl ?_
   replace h := h_b h; obtain ⟨⟨x230,x231⟩,hx229,h⟩ := h
   refine rc (hc_15 (g_c0 := ⟨(A8,c9),(A11,c12),(A14,c15),(A17,c18),(A20,c21),(A23,c24)⟩) (c0 := x7) (g_s1 := ⟨(A194,c195),(A198,c199)⟩) (s1 := (⟨tic191,cou192,xs193,xs197,pro201,eva202,low203,hig204⟩ : State)) (e2 := y226) (hS_c0 := by exact Le.refl _) (h_c0 := by exact ⟨sl_row 7 rfl,sl_row 8 rfl,sl_row 9 rfl,sl_row 10 rfl,sl_row 11 rfl,sl_row 12 rfl⟩) (hS_s1 := by exact Le.refl _) (h_s1 := by exact ⟨sl_row 3 rfl,sl_row 4 rfl⟩) (h := hx229)) ?_
   rintro _ _ ⟨A232,c233,A235,c236,rfl,rfl⟩
   refine r_al tt_ok (en_State (⟨0,0,[],[],0,0,0,0⟩ : State) (⟨(none,0),(none,0)⟩)) ti_38 (by kernel_rfl) fun bq238 => st 0 tt_ok (en_State x230 (⟨(A232,c233),(A235,c236)⟩)) (fn ta_38) rfl<|kp [(3,ii which3),(4,ii by4),(7,pp bq1 0),(11,pp bq26 0),(12,pp bq35 0),(13,pp bq47 0),(14,ii x190),(15,pp bq210 0),(16,pp bq238 0),(70,ii x231)] fun fr => rd<|rb<|ln 9 tt_ok (en_Config x7 (⟨(A8,c9),(A11,c12),(A14,c15),(A17,c18),(A20,c21),(A23,c24)⟩)) ta_30 rfl<|ln 8 tt_ok (en_State (⟨tic191,cou192,xs193,xs197,pro201,eva202,low203,hig204⟩ : State) (⟨(A194,c195),(A198,c199)⟩)) ta_38 rfl<|ln 3 tt_ok (en_Entry y226) ta_45 rfl ?_
   replace h := h_b h; obtain ⟨⟨x240,x241⟩,hx239,h⟩ := h
   refine rc (hc_21 (g_c0 := ⟨(A8,c9),(A11,c12),(A14,c15),(A17,c18),(A20,c21),(A23,c24)⟩) (c0 := x7) (g_s1 := ⟨(A194,c195),(A198,c199)⟩) (s1 := (⟨tic191,cou192,xs193,xs197,pro201,eva202,low203,hig204⟩ : State)) (e2 := y226) (hS_c0 := by exact Le.refl _) (h_c0 := by exact ⟨sl_row 10 rfl,sl_row 11 rfl,sl_row 12 rfl,sl_row 13 rfl,sl_row 14 rfl,sl_row 15 rfl⟩) (hS_s1 := by exact Le.refl _) (h_s1 := by exact ⟨sl_row 6 rfl,sl_row 7 rfl⟩) (h := hx239)) ?_
   rintro _ _ ⟨A242,c243,A245,c246,rfl,rfl⟩
   refine r_al tt_ok (en_State (⟨0,0,[],[],0,0,0,0⟩ : State) (⟨(none,0),(none,0)⟩)) ti_38 (by kernel_rfl) fun bq248 => kp [(3,ii which3),(4,ii by4),(7,pp bq1 0),(11,pp bq26 0),(12,pp bq35 0),(13,pp bq47 0),(14,ii x190),(15,pp bq210 0),(16,pp bq238 0),(17,ii x231),(18,pp bq248 0),(76,.agg (en_State x240 (⟨(A242,c243),(A245,c246)⟩)).toArray),(77,ii x241)] fun fr => st 0 tt_ok (en_State x240 (⟨(A242,c243),(A245,c246)⟩)) (fn ta_38) rfl<|rd<|rb<|rb ?_
   replace h := h_j h; obtain ⟨K256,h,hK257⟩ := h
   refine r_meet (fun fr S => ∃ (x255 : Bool),∃ fr0,K256 x255 = some r ∧ fr = updL [(3,ii which3),(4,ii by4),(7,pp bq1 0),(11,pp bq26 0),(12,pp bq35 0),(13,pp bq47 0),(14,ii x190),(18,pp bq248 0),(19,ii x241),(94,.bool x255)] fr0 ∧ S = ⟨ρ,.obj bq248 (en_State x240 (⟨(A242,c243),(A245,c246)⟩)) 38 :: .row A242 x240.Tenants.length c243 58 12 (fl eTenantState.en x240.Tenants) :: .row A245 x240.Cells.length c246 54 4 (fl eCellState.en x240.Cells) :: .row A44 xs42.length c45 3 1 (fl eI64.en xs42) :: .obj bq47 (en_cellplanemake_Tape (⟨xs42,x209⟩ : cellplanemake_Tape) (⟨(A44,c45)⟩)) 94 :: .row A194 xs193.length c195 58 12 (fl eTenantState.en xs193) :: .row A198 xs197.length c199 54 4 (fl eCellState.en xs197) :: .obj bq35 (en_State (⟨tic191,cou192,xs193,xs197,pro201,eva202,low203,hig204⟩ : State) (⟨(A194,c195),(A198,c199)⟩)) 38 :: .obj bq26 (en_Config x7 (⟨(A8,c9),(A11,c12),(A14,c15),(A17,c18),(A20,c21),(A23,c24)⟩)) 30 :: .row A8 x7.Zones.length c9 72 1 (fl eZone.en x7.Zones) :: .row A11 x7.Cells.length c12 74 2 (fl eCell.en x7.Cells) :: .row A14 x7.Tenants.length c15 77 7 (fl eTenant.en x7.Tenants) :: .row A17 x7.Versions.length c18 79 2 (fl eVersion.en x7.Versions) :: .row A20 x7.Replicas.length c21 3 1 (fl eI64.en x7.Replicas) :: .row A23 x7.Observers.length c24 3 1 (fl eI64.en x7.Observers) :: .obj bq1 (en_Entry raw2) 45 :: L⟩) ?_ ?_
   ·apply r_iteh h<;>clear h<;>intro h
    ·refine kp [(3,ii which3),(4,ii by4),(7,pp bq1 0),(11,pp bq26 0),(12,pp bq35 0),(13,pp bq47 0),(14,ii x190),(15,pp bq210 0),(18,pp bq248 0),(19,ii x241),(81,.bool true),(82,undef)] fun fr => r_T rfl<|r_T rfl<|r_T rfl<|r_T rfl<|r_T rfl<|r_T rfl<|r_T rfl<|r_T rfl<|kp [(3,ii which3),(4,ii by4),(7,pp bq1 0),(11,pp bq26 0),(12,pp bq35 0),(13,pp bq47 0),(14,ii x190),(18,pp bq248 0),(19,ii x241),(82,undef),(83,undef),(84,undef),(85,undef),(87,.bool true),(88,undef),(89,undef),(90,undef),(91,undef)] fun fr => r_T rfl<|r_T rfl<|r_T rfl ?_
     exact r_le (le_w [true,true,true,false,false,false,false,true,true,true,true,true,true,true,true,true,true,true,true,true])<|rd ⟨true,_,h,fe _,by kernel_rfl⟩
    refine ln 3 tt_ok (en_State x230 (⟨(A232,c233),(A235,c236)⟩)) ta_38 rfl<|kp [(3,ii which3),(4,ii by4),(7,pp bq1 0),(11,pp bq26 0),(12,pp bq35 0),(13,pp bq47 0),(14,ii x190),(15,pp bq210 0),(18,pp bq248 0),(19,ii x241),(81,.bool false),(82,.agg (en_State x230 (⟨(A232,c233),(A235,c236)⟩)).toArray)] fun fr => r_F rfl<|ln 0 tt_ok (en_State x240 (⟨(A242,c243),(A245,c246)⟩)) ta_38 rfl<|r_F rfl ?_
    replace h := h_b h; obtain ⟨x251,hx250,h⟩ := h
    refine rc (hc_16 (g_a0 := ⟨(A232,c233),(A235,c236)⟩) (a0 := x230) (g_b1 := ⟨(A242,c243),(A245,c246)⟩) (b1 := x240) (hS_a0 := by exact Le.refl _) (h_a0 := by exact ⟨sl_row 4 rfl,sl_row 5 rfl⟩) (hS_b1 := by exact Le.refl _) (h_b1 := by exact ⟨sl_row 1 rfl,sl_row 2 rfl⟩) (h := hx250)) ?_
    rintro _ _ ⟨rfl,rfl⟩
    refine r_F rfl ?_
    apply r_iteh h<;>clear h<;>intro h
    ·exact r_T rfl<|r_T rfl<|r_T rfl<|kp [(3,ii which3),(4,ii by4),(7,pp bq1 0),(11,pp bq26 0),(12,pp bq35 0),(13,pp bq47 0),(14,ii x190),(18,pp bq248 0),(19,ii x241),(82,.agg (en_State x230 (⟨(A232,c233),(A235,c236)⟩)).toArray),(83,.agg (en_State x240 (⟨(A242,c243),(A245,c246)⟩)).toArray),(84,.bool x251),(85,.bool (!x251)),(87,.bool true),(88,undef),(89,undef),(90,undef),(91,undef)] fun fr => r_T rfl<|r_T rfl<|r_T rfl<|r_le (le_w [true,true,true,false,false,false,false,true,true,true,true,true,true,true,true,true,true,true,true,true])<|rd ⟨true,_,h,fe _,by kernel_rfl⟩
    refine ln 12 tt_ok (en_Config x7 (⟨(A8,c9),(A11,c12),(A14,c15),(A17,c18),(A20,c21),(A23,c24)⟩)) ta_30 rfl<|r_F rfl<|ln 11 tt_ok (en_State (⟨tic191,cou192,xs193,xs197,pro201,eva202,low203,hig204⟩ : State) (⟨(A194,c195),(A198,c199)⟩)) ta_38 rfl<|r_F rfl<|ln 6 tt_ok (en_Entry y226) ta_45 rfl<|r_F rfl ?_
    replace h := h_b h; obtain ⟨x254,hx253,h⟩ := h
    refine rc (hc_24 (g_c0 := ⟨(A8,c9),(A11,c12),(A14,c15),(A17,c18),(A20,c21),(A23,c24)⟩) (c0 := x7) (g_s1 := ⟨(A194,c195),(A198,c199)⟩) (s1 := (⟨tic191,cou192,xs193,xs197,pro201,eva202,low203,hig204⟩ : State)) (e2 := y226) (hS_c0 := by exact Le.refl _) (h_c0 := by exact ⟨sl_row 13 rfl,sl_row 14 rfl,sl_row 15 rfl,sl_row 16 rfl,sl_row 17 rfl,sl_row 18 rfl⟩) (hS_s1 := by exact Le.refl _) (h_s1 := by exact ⟨sl_row 9 rfl,sl_row 10 rfl⟩) (h := hx253)) ?_
    rintro _ _ ⟨rfl,rfl⟩
    exact kp [(3,ii which3),(4,ii by4),(7,pp bq1 0),(11,pp bq26 0),(12,pp bq35 0),(13,pp bq47 0),(14,ii x190),(18,pp bq248 0),(19,ii x241),(82,.agg (en_State x230 (⟨(A232,c233),(A235,c236)⟩)).toArray),(83,.agg (en_State x240 (⟨(A242,c243),(A245,c246)⟩)).toArray),(84,.bool x251),(85,.bool (!x251)),(87,.bool false),(88,.agg (en_Config x7 (⟨(A8,c9),(A11,c12),(A14,c15),(A17,c18),(A20,c21),(A23,c24)⟩)).toArray),(89,.agg (en_State (⟨tic191,cou192,xs193,xs197,pro201,eva202,low203,hig204⟩ : State) (⟨(A194,c195),(A198,c199)⟩)).toArray),(90,.agg (en_Entry y226).toArray),(91,ii x254)] fun fr => r_F rfl<|r_F rfl<|r_le (le_w [true,true,true,false,false,false,false,true,true,true,true,true,true,true,true,true,true,true,true,true])<|rd ⟨!decide (x254 = x241),_,h,fe _,by kernel_rfl⟩
   clear h
   rintro fr S ⟨x255,fr,h,rfl,rfl⟩
   replace h := hK257 _ h
   refine rd ?_
   apply r_iteh h<;>clear h<;>intro h
   ·refine rb<|rd ?_
    repeat refine rd ?_
    replace h := h_m h
    subst hK263
    subst hK266
    repeat refine rd ?_
    obtain rfl := h_out h
    exact ret_of (RV.tmp RV.nil) (le_w [false,false,false,false,false,false,false,false,false,false,false,false,false,false,false,false]) ⟨rfl,rfl⟩
   refine rd<|rb<|r_meet (fun fr S => ∃ fr0,fr = updL [(3,ii which3),(4,ii by4),(7,pp bq1 0),(11,pp bq26 0),(12,pp bq35 0),(13,pp bq47 0),(14,ii x190),(18,pp bq248 0),(100,.bool ((decide (x241 = 0)) && (decide (x190 < 5))))] fr0 ∧ S = ⟨ρ,.obj bq248 (en_State x240 (⟨(A242,c243),(A245,c246)⟩)) 38 :: .row A242 x240.Tenants.length c243 58 12 (fl eTenantState.en x240.Tenants) :: .row A245 x240.Cells.length c246 54 4 (fl eCellState.en x240.Cells) :: .row A44 xs42.length c45 3 1 (fl eI64.en xs42) :: .obj bq47 (en_cellplanemake_Tape (⟨xs42,x209⟩ : cellplanemake_Tape) (⟨(A44,c45)⟩)) 94 :: .row A194 xs193.length c195 58 12 (fl eTenantState.en xs193) :: .row A198 xs197.length c199 54 4 (fl eCellState.en xs197) :: .obj bq35 (en_State (⟨tic191,cou192,xs193,xs197,pro201,eva202,low203,hig204⟩ : State) (⟨(A194,c195),(A198,c199)⟩)) 38 :: .obj bq26 (en_Config x7 (⟨(A8,c9),(A11,c12),(A14,c15),(A17,c18),(A20,c21),(A23,c24)⟩)) 30 :: .row A8 x7.Zones.length c9 72 1 (fl eZone.en x7.Zones) :: .row A11 x7.Cells.length c12 74 2 (fl eCell.en x7.Cells) :: .row A14 x7.Tenants.length c15 77 7 (fl eTenant.en x7.Tenants) :: .row A17 x7.Versions.length c18 79 2 (fl eVersion.en x7.Versions) :: .row A20 x7.Replicas.length c21 3 1 (fl eI64.en x7.Replicas) :: .row A23 x7.Observers.length c24 3 1 (fl eI64.en x7.Observers) :: .obj bq1 (en_Entry raw2) 45 :: L⟩) ?_ ?_
   ·refine r_ite (fun (hb259 : (decide (x241 = 0)) = true) => ?_) (fun (hb259 : (decide (x241 = 0)) = false) => ?_)
    ·exact r_T rfl<|kp [(3,ii which3),(4,ii by4),(7,pp bq1 0),(11,pp bq26 0),(12,pp bq35 0),(13,pp bq47 0),(14,ii x190),(18,pp bq248 0),(97,.bool true),(98,ii x190),(99,.bool (decide (x190 < 5)))] fun fr => rd ⟨_,fr_eq _ (by (try rw [hb259]); kernel_rfl),by kernel_rfl⟩
    exact r_F rfl<|kp [(3,ii which3),(4,ii by4),(7,pp bq1 0),(11,pp bq26 0),(12,pp bq35 0),(13,pp bq47 0),(14,ii x190),(18,pp bq248 0),(97,.bool false),(98,undef),(99,undef)] fun fr => r_F rfl<|rd ⟨_,fr_eq _ (by (try rw [hb259]); kernel_rfl),by kernel_rfl⟩
   rintro fr S ⟨fr,rfl,rfl⟩
   refine rd ?_
   apply r_iteh h<;>clear h<;>intro h
   ·exact ln 0 tt_ok (en_State x240 (⟨(A242,c243),(A245,c246)⟩)) ta_38 rfl<|st 7 tt_ok (en_State x240 (⟨(A242,c243),(A245,c246)⟩)) (fn ta_38) rfl<|rd<|rd<|r_num (e' := w64 (x190 + 1)) rfl<|r_le ((le_mv 15).trans ((le_mv 15).trans ((le_mv 15).trans ((le_mv 15).trans ((le_mv 15).trans ((le_mv 15).trans ((le_mv 15).trans ((le_mv 15).trans ((le_mv 15).trans ((le_mv 12).trans ((le_mv 13).trans ((le_mv 13).trans ((le_mv 13).trans (le_w [true,true,true,true,true,true,true,true,true,true,true,true,true,false,false,false]))))))))))))))<|rd ⟨m264,lt_s hm264,w64 (x190 + 1),x240.Tick,x240.Count,x240.Tenants,x240.Cells,x240.Proven,x240.Evacuating,x240.Low,x240.High,x209,A242,c243,A245,c246,_,h,fe _,by kernel_rfl⟩
   exact rd<|rd<|r_num (e' := w64 (x190 + 1)) rfl<|r_le ((le_mv 15).trans ((le_mv 15).trans ((le_mv 15).trans ((le_mv 15).trans ((le_mv 15).trans ((le_mv 15).trans ((le_mv 15).trans ((le_mv 15).trans ((le_mv 15).trans ((le_mv 12).trans ((le_mv 13).trans ((le_mv 15).trans ((le_mv 15).trans (le_w [true,true,true,true,true,true,true,true,true,true,true,true,true,false,false,false]))))))))))))))<|rd ⟨m264,lt_s hm264,w64 (x190 + 1),tic191,cou192,xs193,xs197,pro201,eva202,low203,hig204,x209,A194,c195,A198,c199,_,h,fe _,by kernel_rfl⟩
  refine rd<|rd ?_
  replace h := h_m h
  subst hK263
  exact r_le (le_w [false,false,false,false,false,false,false,false,false,false,false,false,false])<|rd ⟨_,h,fe _,by kernel_rfl⟩
 clear h
 rintro fr S ⟨fr,h,rfl,rfl⟩
 subst hK266
 refine rd<|rb ?_
 replace h := h_b h; obtain ⟨x268,hx267,h⟩ := h
 refine rc (hc_10  (h := hx267)) ?_
 rintro _ _ ⟨rfl,rfl⟩
 refine rd ?_
 repeat refine rd ?_
 repeat refine rd ?_
 obtain rfl := h_out h
 exact ret_of (RV.tmp RV.nil) (Le.refl _) ⟨rfl,rfl⟩
end Go.Proofs.YtcdoangbkgaapaaGreatK
