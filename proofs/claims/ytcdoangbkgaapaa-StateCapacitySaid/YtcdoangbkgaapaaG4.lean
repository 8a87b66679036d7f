/- The code of 17 functions computes what it is to. No condition. -/
import Derived.Test.YtcdoangbkgaapaaG3
set_option linter.unusedVariables false
set_option maxHeartbeats 4000000
namespace Go.Proofs.YtcdoangbkgaapaaK
open Go Go.RowKit
theorem hc_23 {ρ : Addr → Option Value} {L : List Ent} {bt0 : Nat} {g_t0 : gcellplanemake_Tape} {S_t0 : St} (hS_t0 : Le ⟨ρ,L⟩ S_t0) (t0 : cellplanemake_Tape) (h_t0 : Sl_cellplanemake_Tape S_t0 t0 g_t0)  : HC Try.prog 23 #[.pointer (some ⟨bt0,0,none⟩)] ⟨ρ,.obj bt0 (en_cellplanemake_Tape t0 g_t0) 73 :: L⟩ (fun v S' => v = .bool (cellplanemake_Tape_More t0) ∧ S' = ⟨ρ,.obj bt0 (en_cellplanemake_Tape t0 g_t0) 73 :: L⟩) := by
 generalize h : cellplanemake_Tape_More t0 = r
 unfold cellplanemake_Tape_More at h
 refine HC.intro (N := 13) (args := [_]) tt_ok Try.func23 rfl (by decide +kernel) rfl (Nat.le_of_ble_eq_true rfl) ?_
 refine r_bind ?_
 refine r_done ?_
 refine r_bind ?_
 refine r_mix tt_ok hm_ok _ _ [] (.pure 0 (.pure 1 (.pure 2 (.vb 3 (.pure 4 (.pure 5 (.pure 6 (.vb 7 (.pure 8 (.pure 9 (.pure 10 .nil))))))))))) (le_w [true]) (le_w [true]) ?_ ?_
 ·decide +kernel
 refine x_p rfl ?_
 refine v_done ?_
 refine x_p rfl ?_
 refine v_done ?_
 refine x_p rfl ?_
 refine v_done ?_
 refine x_vb rfl ?_
 refine v_ld 0 tt_ok (v := .int .i64 t0.At) ts_3 rfl (by kernel_rfl) ?_
 refine v_done ?_
 refine x_p rfl ?_
 refine v_done ?_
 refine x_p rfl ?_
 refine v_done ?_
 refine x_p rfl ?_
 refine v_done ?_
 refine x_vb rfl ?_
 refine v_ld 0 tt_ok (v := .slice g_t0.L.1 t0.L.length g_t0.L.2) ts_22 rfl (by kernel_rfl) ?_
 refine v_done ?_
 refine x_kp [(2,.bool false),(6,.int .i64 t0.At),(10,.slice g_t0.L.1 t0.L.length g_t0.L.2)] (by kernel_rfl) fun fr => ?_
 refine x_p rfl ?_
 refine v_done ?_
 refine x_p rfl ?_
 refine v_done ?_
 refine x_p rfl ?_
 refine v_done ?_
 refine x_k [(2,.bool (decide (t0.At < (t0.L.length : Int))))] (by kernel_rfl) fun fr => ?_
 refine r_done ?_
 repeat refine r_done ?_
 repeat refine r_done ?_
 subst h
 exact ret_of (RV.tmp RV.nil) (Le.refl _) ⟨rfl,rfl⟩
theorem hc_32 {ρ : Addr → Option Value} {L : List Ent}   (kind0 : Int) (tick1 : Int)   : HC Try.prog 32 #[.int .i64 kind0,.int .i64 tick1] ⟨ρ,L⟩ (fun v S' => v = .agg (en_Entry (cellplanemake_none kind0 tick1)).toArray ∧ S' = ⟨ρ,L⟩) := by
 generalize h : cellplanemake_none kind0 tick1 = r
 unfold cellplanemake_none at h
 refine HC.intro (N := 8) (args := [_,_]) tt_ok Try.func32 rfl (by decide +kernel) rfl (Nat.le_of_ble_eq_true rfl) ?_
 refine r_bind ?_
 refine r_al tt_ok (en_Entry (⟨0,0,0,0,0,0,0,0,0⟩ : Entry)) ti_45 (by kernel_rfl) fun bq1 => ?_
 refine r_done ?_
 refine r_bind ?_
 refine r_bd tt_ok (en_Entry (⟨kind0,tick1,(-1),(-1),(-1),0,0,0,0⟩ : Entry)) ti_45 tp_45 (by kernel_rfl) ?_
 refine r_s 0 tt_ok (en_Entry (⟨kind0,tick1,(-1),(-1),(-1),0,0,0,0⟩ : Entry)) (fitn ta_45 (by kernel_rfl)) rfl (by kernel_rfl) (by kernel_rfl) ?_
 refine r_done ?_
 repeat refine r_done ?_
 repeat refine r_done ?_
 subst h
 exact ret_of (rv_cell 0 tt_ok (by kernel_rfl) ta_45 rfl rfl RV.nil) (le_w [false]) ⟨rfl,rfl⟩
theorem hc_61 {ρ : Addr → Option Value} {L : List Ent}   (set0 : Int) (i1 : Int)   : HC Try.prog 61 #[.int .i64 set0,.int .i64 i1] ⟨ρ,L⟩ (fun v S' => v = .bool (cellplaneref04_Has set0 i1) ∧ S' = ⟨ρ,L⟩) := by
 generalize h : cellplaneref04_Has set0 i1 = r
 unfold cellplaneref04_Has at h
 refine HC.intro (N := 19) (args := [_,_]) tt_ok Try.func61 rfl (by decide +kernel) rfl (Nat.le_of_ble_eq_true rfl) ?_
 refine r_bind ?_
 refine r_done ?_
 refine r_bind ?_
 refine r_meet (fun fr S => ∃ fr0,fr = updL [(4,.bool ((decide (0 ≤ i1)) && ((decide (i1 < 62)) && (!decide (Int.tmod (shr .i64 set0 (IntKind.u64.wrap (i1))) 2 = 0)))))] fr0 ∧ S = ⟨ρ,L⟩) ?_ ?_
 ·refine r_ite (fun (hb1 : (decide (0 ≤ i1)) = true) => ?_) (fun (hb1 : (decide (0 ≤ i1)) = false) => ?_)
  ·refine r_kp [(0,.int .i64 set0),(1,.int .i64 i1),(4,.bool false),(7,.bool true),(8,.int .i64 i1)] (by kernel_rfl) fun fr => ?_
   refine r_T rfl ?_
   refine r_ite (fun (hb2 : (decide (i1 < 62)) = true) => ?_) (fun (hb2 : (decide (i1 < 62)) = false) => ?_)
   ·refine r_T rfl ?_
    refine r_T rfl ?_
    refine r_num (e' := IntKind.u64.wrap (i1)) rfl ?_
    refine r_T rfl ?_
    refine r_check (u_nonneg rfl _) ?_
    refine r_num (e' := shr .i64 set0 (IntKind.u64.wrap (i1))) rfl ?_
    refine r_T rfl ?_
    refine r_check (by decide) ?_
    refine r_num (e' := Int.tmod (shr .i64 set0 (IntKind.u64.wrap (i1))) 2) rfl ?_
    refine r_T rfl ?_
    refine r_kp [(4,.bool false),(11,.bool true),(17,.bool (!decide (Int.tmod (shr .i64 set0 (IntKind.u64.wrap (i1))) 2 = 0)))] (by kernel_rfl) fun fr => ?_
    exact r_done ⟨_,fr_eq _ (by (try rw [hb2]); (try rw [hb1]); kernel_rfl),(by kernel_rfl)⟩
   ·refine r_F rfl ?_
    refine r_F rfl ?_
    refine r_F rfl ?_
    refine r_F rfl ?_
    refine r_F rfl ?_
    refine r_kp [(4,.bool false),(11,.bool false),(17,undef)] (by kernel_rfl) fun fr => ?_
    refine r_F rfl ?_
    exact r_done ⟨_,fr_eq _ (by (try rw [hb2]); (try rw [hb1]); kernel_rfl),(by kernel_rfl)⟩
  ·refine r_kp [(0,.int .i64 set0),(1,.int .i64 i1),(4,.bool false),(7,.bool false),(8,undef)] (by kernel_rfl) fun fr => ?_
   refine r_F rfl ?_
   refine r_F rfl ?_
   refine r_F rfl ?_
   refine r_F rfl ?_
   refine r_F rfl ?_
   refine r_F rfl ?_
   refine r_F rfl ?_
   refine r_F rfl ?_
   refine r_kp [(4,.bool false),(11,.bool false),(17,undef)] (by kernel_rfl) fun fr => ?_
   refine r_F rfl ?_
   exact r_done ⟨_,fr_eq _ (by (try rw [hb1]); kernel_rfl),(by kernel_rfl)⟩
 rintro fr S ⟨fr,rfl,rfl⟩
 refine r_done ?_
 repeat refine r_done ?_
 repeat refine r_done ?_
 subst h
 exact ret_of (RV.tmp RV.nil) (Le.refl _) ⟨rfl,rfl⟩
theorem hc_31 {ρ : Addr → Option Value} {L : List Ent} {bt0 : Nat} {g_t0 : gcellplanemake_Tape} {g_c1 : gConfig} {g_s2 : gState} {S_t0 : St} (hS_t0 : Le ⟨ρ,L⟩ S_t0) {S_c1 : St} (hS_c1 : Le ⟨ρ,L⟩ S_c1) {S_s2 : St} (hS_s2 : Le ⟨ρ,L⟩ S_s2) (t0 : cellplanemake_Tape) (c1 : Config) (s2 : State) (tick3 : Int) (h_t0 : Sl_cellplanemake_Tape S_t0 t0 g_t0) (h_c1 : Sl_Config S_c1 c1 g_c1) (h_s2 : Sl_State S_s2 s2 g_s2) {r : (Entry × Int)} (h : cellplanemake_platform t0 c1 s2 tick3 = some r) : HC Try.prog 31 #[.pointer (some ⟨bt0,0,none⟩),.agg (en_Config c1 g_c1).toArray,.agg (en_State s2 g_s2).toArray,.int .i64 tick3] ⟨ρ,.obj bt0 (en_cellplanemake_Tape t0 g_t0) 73 :: L⟩ (fun v S' => v = .agg (en_Entry r.1).toArray ∧ S' = ⟨ρ,.obj bt0 (en_cellplanemake_Tape ({ t0 with At := r.2 }) g_t0) 73 :: L⟩) := by
 replace h := h_in h
 refine HC.intro (N := 112) (args := [_,_,_,_]) tt_ok Try.func31 rfl (by decide +kernel) rfl (Nat.le_of_ble_eq_true rfl) ?_
 refine r_bind ?_
 refine r_bx (en_Config c1 g_c1) (by kernel_rfl) fun bq1 => ?_
 refine r_bx (en_State s2 g_s2) (by kernel_rfl) fun bq2 => ?_
 refine r_al tt_ok (en_Entry (⟨0,0,0,0,0,0,0,0,0⟩ : Entry)) ti_45 (by kernel_rfl) fun bq3 => ?_
 refine r_done ?_
 refine r_bind ?_
 refine r_call (hc_32 (kind0 := 16) (tick1 := tick3)) ?_
 rintro _ _ ⟨rfl,rfl⟩
 refine r_al tt_ok (en_Entry (⟨0,0,0,0,0,0,0,0,0⟩ : Entry)) ti_45 (by kernel_rfl) fun bq4 => ?_
 refine r_s 0 tt_ok (en_Entry (cellplanemake_none 16 tick3)) (fitn ta_45 (by kernel_rfl)) rfl (by kernel_rfl) (by kernel_rfl) ?_
 refine r_done ?_
 refine r_bind ?_
 refine r_ld 3 tt_ok (v := .slice g_c1.Cells.1 c1.Cells.length g_c1.Cells.2) ts_26 rfl (by kernel_rfl) ?_
 refine r_kp [(0,.pointer (some ⟨bt0,0,none⟩)),(3,.int .i64 tick3),(5,.pointer (some ⟨bq1,0,none⟩)),(6,.pointer (some ⟨bq2,0,none⟩)),(8,.pointer (some ⟨bq3,0,none⟩)),(9,.pointer (some ⟨bq4,0,none⟩)),(14,.pointer (some ⟨bt0,0,none⟩)),(16,.slice g_c1.Cells.1 c1.Cells.length g_c1.Cells.2)] (by kernel_rfl) fun fr => ?_
 refine r_le (le_mv 4) ?_
 replace h := h_b h; obtain ⟨⟨x6,x7⟩,hx5,h⟩ := h
 refine r_call (hc_20 (bt0 := bt0) (g_t0 := g_t0) (t0 := t0) (n1 := (c1.Cells.length : Int)) (hS_t0 := by exact (le_d 4).trans hS_t0) (h_t0 := by exact h_t0) (h := hx5)) ?_
 rintro _ _ ⟨rfl,rfl⟩
 refine r_done ?_
 refine r_bind ?_
 refine r_ld 3 tt_ok (v := .slice g_s2.Cells.1 s2.Cells.length g_s2.Cells.2) ts_34 rfl (by kernel_rfl) ?_
 replace h := h_b h; obtain ⟨x8,hx9,h⟩ := h
 refine r_el hx9 ((h_s2.2).rd.mono ((le_d 5).trans hS_s2)) ?_
 refine r_len (E := eCellState) tt_ok (en_CellState x8) (idx_get hx9) ((h_s2.2).rd.mono ((le_d 5).trans hS_s2)) ta_67 rfl (pl0 _ _) (by kernel_rfl) (by kernel_rfl) ?_
 refine r_al tt_ok (en_CellState (⟨0,0,0,0⟩ : CellState)) ti_67 (by kernel_rfl) fun bq10 => ?_
 refine r_kp [(0,.pointer (some ⟨bt0,0,none⟩)),(3,.int .i64 tick3),(5,.pointer (some ⟨bq1,0,none⟩)),(6,.pointer (some ⟨bq2,0,none⟩)),(8,.pointer (some ⟨bq3,0,none⟩)),(9,.pointer (some ⟨bq4,0,none⟩)),(10,.int .i64 x6),(11,.pointer (some ⟨bq10,0,none⟩)),(23,.agg (en_CellState x8).toArray)] (by kernel_rfl) fun fr => ?_
 refine r_s 0 tt_ok (en_CellState x8) (fitn ta_67 (by kernel_rfl)) rfl (by kernel_rfl) (by kernel_rfl) ?_
 refine r_done ?_
 refine r_bind ?_
 refine r_bind ?_
 refine r_le (le_mv 1) ?_
 replace h := h_b h; obtain ⟨⟨x12,x13⟩,hx11,h⟩ := h
 refine r_call (hc_20 (bt0 := bt0) (g_t0 := g_t0) (t0 := { t0 with At := x7 }) (n1 := 12) (hS_t0 := by exact (le_d 5).trans hS_t0) (h_t0 := by exact h_t0) (h := hx11)) ?_
 rintro _ _ ⟨rfl,rfl⟩
 refine r_done ?_
 refine r_bind ?_
 refine r_bind ?_
 refine r_done ?_
 refine r_ite (fun hb14 => ?_) (fun hb14 => ?_)
 ·replace h := h_t h hb14
  clear hb14
  replace h := h_b h; obtain ⟨⟨x16,x17⟩,hx15,h⟩ := h
  refine r_call (hc_21 (bt0 := bt0) (g_t0 := g_t0) (t0 := { t0 with At := x13 }) (low1 := 1) (high2 := 3) (hS_t0 := by exact (le_d 5).trans hS_t0) (h_t0 := by exact h_t0) (h := hx15)) ?_
  rintro _ _ ⟨rfl,rfl⟩
  refine r_s 2 tt_ok (en_Entry ({ (cellplanemake_none 16 tick3) with Kind := 9 })) (fit1 ts_3 (by kernel_rfl)) rfl (by kernel_rfl) (by kernel_rfl) ?_
  refine r_kp [(8,.pointer (some ⟨bq3,0,none⟩)),(9,.pointer (some ⟨bq4,0,none⟩)),(31,.int .i64 x6),(33,.int .i64 x16)] (by kernel_rfl) fun fr => ?_
  refine r_s 2 tt_ok (en_Entry ({ (cellplanemake_none 16 tick3) with Kind := 9,Cell := x6 })) (fit1 ts_3 (by kernel_rfl)) rfl (by kernel_rfl) (by kernel_rfl) ?_
  refine r_s 2 tt_ok (en_Entry ({ (cellplanemake_none 16 tick3) with Kind := 9,Cell := x6,N := x16 })) (fit1 ts_3 (by kernel_rfl)) rfl (by kernel_rfl) (by kernel_rfl) ?_
  refine r_done ?_
  refine r_done ?_
  refine r_bind ?_
  refine r_ldn 2 tt_ok (en_Entry ({ (cellplanemake_none 16 tick3) with Kind := 9,Cell := x6,N := x16 })) ta_45 rfl (by kernel_rfl) (by kernel_rfl) ?_
  refine r_s 3 tt_ok (en_Entry ({ (cellplanemake_none 16 tick3) with Kind := 9,Cell := x6,N := x16 })) (fitn ta_45 (by kernel_rfl)) rfl (by kernel_rfl) (by kernel_rfl) ?_
  refine r_done ?_
  repeat refine r_done ?_
  repeat refine r_done ?_
  obtain rfl := h_out h
  exact ret_of (rv_cell 3 tt_ok (by kernel_rfl) ta_45 rfl rfl RV.nil) (le_w [true,false,false,false,false,false]) ⟨rfl,rfl⟩
 ·replace h := h_f h hb14
  clear hb14
  refine r_bind ?_
  refine r_done ?_
  refine r_ite (fun hb18 => ?_) (fun hb18 => ?_)
  ·replace h := h_t h hb18
   clear hb18
   refine r_s 2 tt_ok (en_Entry ({ (cellplanemake_none 16 tick3) with Kind := 9 })) (fit1 ts_3 (by kernel_rfl)) rfl (by kernel_rfl) (by kernel_rfl) ?_
   refine r_kp [(8,.pointer (some ⟨bq3,0,none⟩)),(9,.pointer (some ⟨bq4,0,none⟩)),(39,.int .i64 x6)] (by kernel_rfl) fun fr => ?_
   refine r_s 2 tt_ok (en_Entry ({ (cellplanemake_none 16 tick3) with Kind := 9,Cell := x6 })) (fit1 ts_3 (by kernel_rfl)) rfl (by kernel_rfl) (by kernel_rfl) ?_
   refine r_s 2 tt_ok (en_Entry ({ (cellplanemake_none 16 tick3) with Kind := 9,Cell := x6,N := 1 })) (fit1 ts_3 (by kernel_rfl)) rfl (by kernel_rfl) (by kernel_rfl) ?_
   refine r_done ?_
   refine r_done ?_
   refine r_bind ?_
   refine r_ldn 2 tt_ok (en_Entry ({ (cellplanemake_none 16 tick3) with Kind := 9,Cell := x6,N := 1 })) ta_45 rfl (by kernel_rfl) (by kernel_rfl) ?_
   refine r_s 3 tt_ok (en_Entry ({ (cellplanemake_none 16 tick3) with Kind := 9,Cell := x6,N := 1 })) (fitn ta_45 (by kernel_rfl)) rfl (by kernel_rfl) (by kernel_rfl) ?_
   refine r_done ?_
   repeat refine r_done ?_
   repeat refine r_done ?_
   obtain rfl := h_out h
   exact ret_of (rv_cell 3 tt_ok (by kernel_rfl) ta_45 rfl rfl RV.nil) (le_w [true,false,false,false,false,false]) ⟨rfl,rfl⟩
  ·replace h := h_f h hb18
   clear hb18
   refine r_bind ?_
   replace h := h_j h; obtain ⟨K22,h,hK23⟩ := h
   refine r_meet (fun fr S => ∃ (x21 : Bool),∃ fr0,K22 x21 = some r ∧ fr = updL [(0,.pointer (some ⟨bt0,0,none⟩)),(3,.int .i64 tick3),(5,.pointer (some ⟨bq1,0,none⟩)),(6,.pointer (some ⟨bq2,0,none⟩)),(8,.pointer (some ⟨bq3,0,none⟩)),(9,.pointer (some ⟨bq4,0,none⟩)),(10,.int .i64 x6),(11,.pointer (some ⟨bq10,0,none⟩)),(25,.int .i64 x12),(43,.bool x21)] fr0 ∧ S = ⟨ρ,.obj bt0 (en_cellplanemake_Tape ({ t0 with At := x13 }) g_t0) 73 :: .obj bq10 (en_CellState x8) 67 :: .obj bq4 (en_Entry (cellplanemake_none 16 tick3)) 45 :: .obj bq3 (en_Entry (⟨0,0,0,0,0,0,0,0,0⟩ : Entry)) 45 :: .obj bq2 (en_State s2 g_s2) 36 :: .obj bq1 (en_Config c1 g_c1) 30 :: L⟩) ?_ ?_
   ·refine r_bind ?_
    refine r_done ?_
    refine r_ite (fun hb19 => ?_) (fun hb19 => ?_)
    ·replace h := h_t h hb19
     clear hb19
     exact r_done ⟨true,_,h,fr_eq _ (by kernel_rfl),(by kernel_rfl)⟩
    ·replace h := h_f h hb19
     clear hb19
     refine r_bind ?_
     refine r_done ?_
     refine r_ite (fun hb20 => ?_) (fun hb20 => ?_)
     ·replace h := h_t h hb20
      clear hb20
      exact r_done ⟨true,_,h,fr_eq _ (by kernel_rfl),(by kernel_rfl)⟩
     ·replace h := h_f h hb20
      clear hb20
      exact r_done ⟨decide (x12 = 4),_,h,fr_eq _ (by kernel_rfl),(by kernel_rfl)⟩
   clear h
   rintro fr S ⟨x21,fr,h,rfl,rfl⟩
   replace h := hK23 _ h
   refine r_done ?_
   refine r_ite (fun hb24 => ?_) (fun hb24 => ?_)
   ·replace h := h_t h hb24
    clear hb24
    refine r_ld 5 tt_ok (v := .slice g_c1.Versions.1 c1.Versions.length g_c1.Versions.2) ts_28 rfl (by kernel_rfl) ?_
    replace h := h_b h; obtain ⟨⟨x26,x27⟩,hx25,h⟩ := h
    refine r_call (hc_20 (bt0 := bt0) (g_t0 := g_t0) (t0 := { t0 with At := x13 }) (n1 := (c1.Versions.length : Int)) (hS_t0 := by exact (le_d 5).trans hS_t0) (h_t0 := by exact h_t0) (h := hx25)) ?_
    rintro _ _ ⟨rfl,rfl⟩
    refine r_s 2 tt_ok (en_Entry ({ (cellplanemake_none 16 tick3) with Kind := 10 })) (fit1 ts_3 (by kernel_rfl)) rfl (by kernel_rfl) (by kernel_rfl) ?_
    refine r_s 2 tt_ok (en_Entry ({ (cellplanemake_none 16 tick3) with Kind := 10,Cell := x6 })) (fit1 ts_3 (by kernel_rfl)) rfl (by kernel_rfl) (by kernel_rfl) ?_
    refine r_kp [(8,.pointer (some ⟨bq3,0,none⟩)),(9,.pointer (some ⟨bq4,0,none⟩)),(52,.int .i64 x26)] (by kernel_rfl) fun fr => ?_
    refine r_s 2 tt_ok (en_Entry ({ (cellplanemake_none 16 tick3) with Kind := 10,Cell := x6,N := x26 })) (fit1 ts_3 (by kernel_rfl)) rfl (by kernel_rfl) (by kernel_rfl) ?_
    refine r_done ?_
    refine r_done ?_
    refine r_bind ?_
    refine r_ldn 2 tt_ok (en_Entry ({ (cellplanemake_none 16 tick3) with Kind := 10,Cell := x6,N := x26 })) ta_45 rfl (by kernel_rfl) (by kernel_rfl) ?_
    refine r_s 3 tt_ok (en_Entry ({ (cellplanemake_none 16 tick3) with Kind := 10,Cell := x6,N := x26 })) (fitn ta_45 (by kernel_rfl)) rfl (by kernel_rfl) (by kernel_rfl) ?_
    refine r_done ?_
    repeat refine r_done ?_
    repeat refine r_done ?_
    obtain rfl := h_out h
    exact ret_of (rv_cell 3 tt_ok (by kernel_rfl) ta_45 rfl rfl RV.nil) (le_w [true,false,false,false,false,false]) ⟨rfl,rfl⟩
   ·replace h := h_f h hb24
    clear hb24
    refine r_bind ?_
    replace h := h_j h; obtain ⟨K31,h,hK32⟩ := h
    refine r_meet (fun fr S => ∃ (x30 : Bool),∃ fr0,K31 x30 = some r ∧ fr = updL [(0,.pointer (some ⟨bt0,0,none⟩)),(3,.int .i64 tick3),(5,.pointer (some ⟨bq1,0,none⟩)),(6,.pointer (some ⟨bq2,0,none⟩)),(8,.pointer (some ⟨bq3,0,none⟩)),(9,.pointer (some ⟨bq4,0,none⟩)),(10,.int .i64 x6),(11,.pointer (some ⟨bq10,0,none⟩)),(25,.int .i64 x12),(56,.bool x30)] fr0 ∧ S = ⟨ρ,.obj bt0 (en_cellplanemake_Tape ({ t0 with At := x13 }) g_t0) 73 :: .obj bq10 (en_CellState x8) 67 :: .obj bq4 (en_Entry (cellplanemake_none 16 tick3)) 45 :: .obj bq3 (en_Entry (⟨0,0,0,0,0,0,0,0,0⟩ : Entry)) 45 :: .obj bq2 (en_State s2 g_s2) 36 :: .obj bq1 (en_Config c1 g_c1) 30 :: L⟩) ?_ ?_
    ·refine r_bind ?_
     refine r_done ?_
     refine r_ite (fun hb28 => ?_) (fun hb28 => ?_)
     ·replace h := h_t h hb28
      clear hb28
      exact r_done ⟨true,_,h,fr_eq _ (by kernel_rfl),(by kernel_rfl)⟩
     ·replace h := h_f h hb28
      clear hb28
      refine r_bind ?_
      refine r_done ?_
      refine r_ite (fun hb29 => ?_) (fun hb29 => ?_)
      ·replace h := h_t h hb29
       clear hb29
       exact r_done ⟨true,_,h,fr_eq _ (by kernel_rfl),(by kernel_rfl)⟩
      ·replace h := h_f h hb29
       clear hb29
       exact r_done ⟨decide (x12 = 7),_,h,fr_eq _ (by kernel_rfl),(by kernel_rfl)⟩
    clear h
    rintro fr S ⟨x30,fr,h,rfl,rfl⟩
    replace h := hK32 _ h
    refine r_done ?_
    refine r_ite (fun hb33 => ?_) (fun hb33 => ?_)
    ·replace h := h_t h hb33
     clear hb33
     refine r_bind ?_
     refine r_mix tt_ok hm_ok _ _ [] (.pure 0 (.pure 1 (.vb 2 (.pure 3 (.eff 4 (.pure 5 (.eff 6 (.pure 7 (.eff 8 .nil))))))))) (le_w [true,true,false,true,true,true]) (le_w [true,true,false,true,true,true]) ?_ ?_
     ·decide +kernel
     refine x_p rfl ?_
     refine v_done ?_
     refine x_p rfl ?_
     refine v_done ?_
     refine x_vb rfl ?_
     refine v_ld 1 tt_ok (v := .int .i64 x8.Wanted) ts_3 rfl (by kernel_rfl) ?_
     refine v_done ?_
     refine x_p rfl ?_
     refine v_done ?_
     refine x_e rfl ?_
     refine r_s 2 tt_ok (en_Entry ({ (cellplanemake_none 16 tick3) with Kind := 11 })) (fit1 ts_3 (by kernel_rfl)) rfl (by kernel_rfl) (by kernel_rfl) ?_
     refine r_done ⟨rfl,k_a (le_w [true,true,false,true,true,true]) (le_w [true,true,false,true,true,true]),?_⟩
     refine x_p rfl ?_
     refine v_done ?_
     refine x_e rfl ?_
     refine r_s 2 tt_ok (en_Entry ({ (cellplanemake_none 16 tick3) with Kind := 11,Cell := x6 })) (fit1 ts_3 (by kernel_rfl)) rfl (by kernel_rfl) (by kernel_rfl) ?_
     refine r_done ⟨rfl,k_a (le_w [true,true,false,true,true,true]) (le_w [true,true,false,true,true,true]),?_⟩
     refine x_p rfl ?_
     refine v_done ?_
     refine x_e rfl ?_
     refine r_s 2 tt_ok (en_Entry ({ (cellplanemake_none 16 tick3) with Kind := 11,Cell := x6,N := x8.Wanted })) (fit1 ts_3 (by kernel_rfl)) rfl (by kernel_rfl) (by kernel_rfl) ?_
     refine r_done ⟨rfl,k_a (le_w [true,true,false,true,true,true]) (le_w [true,true,false,true,true,true]),?_⟩
     refine x_k [(0,.pointer (some ⟨bt0,0,none⟩)),(3,.int .i64 tick3),(5,.pointer (some ⟨bq1,0,none⟩)),(8,.pointer (some ⟨bq3,0,none⟩)),(9,.pointer (some ⟨bq4,0,none⟩))] (by kernel_rfl) fun fr => ?_
     refine r_done ?_
     refine r_ld 5 tt_ok (v := .int .i64 c1.Lease) ts_3 rfl (by kernel_rfl) ?_
     replace h := h_b h; obtain ⟨⟨x35,x36⟩,hx34,h⟩ := h
     refine r_call (hc_20 (bt0 := bt0) (g_t0 := g_t0) (t0 := { t0 with At := x13 }) (n1 := c1.Lease) (hS_t0 := by exact (le_d 5).trans hS_t0) (h_t0 := by exact h_t0) (h := hx34)) ?_
     rintro _ _ ⟨rfl,rfl⟩
     refine r_num (e' := w64 (tick3 + x35)) rfl ?_
     refine r_s 2 tt_ok (en_Entry ({ (cellplanemake_none 16 tick3) with Kind := 11,Tick := w64 (tick3 + x35),Cell := x6,N := x8.Wanted })) (fit1 ts_3 (by kernel_rfl)) rfl (by kernel_rfl) (by kernel_rfl) ?_
     refine r_done ?_
     refine r_done ?_
     refine r_bind ?_
     refine r_ldn 2 tt_ok (en_Entry ({ (cellplanemake_none 16 tick3) with Kind := 11,Tick := w64 (tick3 + x35),Cell := x6,N := x8.Wanted })) ta_45 rfl (by kernel_rfl) (by kernel_rfl) ?_
     refine r_kp [(8,.pointer (some ⟨bq3,0,none⟩)),(111,.agg (en_Entry ({ (cellplanemake_none 16 tick3) with Kind := 11,Tick := w64 (tick3 + x35),Cell := x6,N := x8.Wanted })).toArray)] (by kernel_rfl) fun fr => ?_
     refine r_s 3 tt_ok (en_Entry ({ (cellplanemake_none 16 tick3) with Kind := 11,Tick := w64 (tick3 + x35),Cell := x6,N := x8.Wanted })) (fitn ta_45 (by kernel_rfl)) rfl (by kernel_rfl) (by kernel_rfl) ?_
     refine r_done ?_
     repeat refine r_done ?_
     repeat refine r_done ?_
     obtain rfl := h_out h
     exact ret_of (rv_cell 3 tt_ok (by kernel_rfl) ta_45 rfl rfl RV.nil) (le_w [true,false,false,false,false,false]) ⟨rfl,rfl⟩
    ·replace h := h_f h hb33
     clear hb33
     refine r_bind ?_
     refine r_done ?_
     refine r_ite (fun hb37 => ?_) (fun hb37 => ?_)
     ·replace h := h_t h hb37
      clear hb37
      refine r_bind ?_
      refine r_mix tt_ok hm_ok _ _ [] (.pure 0 (.vb 1 (.pure 2 (.eff 3 (.pure 4 (.eff 5 .nil)))))) (le_w [true,true,false,true,true,true]) (le_w [true,true,false,true,true,true]) ?_ ?_
      ·decide +kernel
      refine x_p rfl ?_
      refine v_done ?_
      refine x_vb rfl ?_
      refine v_ld 1 tt_ok (v := .int .i64 x8.Running) ts_3 rfl (by kernel_rfl) ?_
      refine v_done ?_
      refine x_p rfl ?_
      refine v_done ?_
      refine x_e rfl ?_
      refine r_s 2 tt_ok (en_Entry ({ (cellplanemake_none 16 tick3) with Kind := 12 })) (fit1 ts_3 (by kernel_rfl)) rfl (by kernel_rfl) (by kernel_rfl) ?_
      refine r_done ⟨rfl,k_a (le_w [true,true,false,true,true,true]) (le_w [true,true,false,true,true,true]),?_⟩
      refine x_p rfl ?_
      refine v_done ?_
      refine x_e rfl ?_
      refine r_s 2 tt_ok (en_Entry ({ (cellplanemake_none 16 tick3) with Kind := 12,N := x8.Running })) (fit1 ts_3 (by kernel_rfl)) rfl (by kernel_rfl) (by kernel_rfl) ?_
      refine r_done ⟨rfl,k_a (le_w [true,true,false,true,true,true]) (le_w [true,true,false,true,true,true]),?_⟩
      refine x_k [(0,.pointer (some ⟨bt0,0,none⟩)),(3,.int .i64 tick3),(5,.pointer (some ⟨bq1,0,none⟩)),(8,.pointer (some ⟨bq3,0,none⟩)),(9,.pointer (some ⟨bq4,0,none⟩))] (by kernel_rfl) fun fr => ?_
      refine r_done ?_
      refine r_ld 5 tt_ok (v := .int .i64 c1.Bake) ts_3 rfl (by kernel_rfl) ?_
      refine r_num (e' := w64 (c1.Bake + 1)) rfl ?_
      replace h := h_b h; obtain ⟨⟨x39,x40⟩,hx38,h⟩ := h
      refine r_call (hc_20 (bt0 := bt0) (g_t0 := g_t0) (t0 := { t0 with At := x13 }) (n1 := w64 (c1.Bake + 1)) (hS_t0 := by exact (le_d 5).trans hS_t0) (h_t0 := by exact h_t0) (h := hx38)) ?_
      rintro _ _ ⟨rfl,rfl⟩
      refine r_num (e' := w64 (tick3 + x39)) rfl ?_
      refine r_s 2 tt_ok (en_Entry ({ (cellplanemake_none 16 tick3) with Kind := 12,Tick := w64 (tick3 + x39),N := x8.Running })) (fit1 ts_3 (by kernel_rfl)) rfl (by kernel_rfl) (by kernel_rfl) ?_
      refine r_keep [(8,.pointer (some ⟨bq3,0,none⟩)),(9,.pointer (some ⟨bq4,0,none⟩))] (by kernel_rfl) fun fr => ?_
      refine r_done ?_
      refine r_done ?_
      refine r_bind ?_
      refine r_ldn 2 tt_ok (en_Entry ({ (cellplanemake_none 16 tick3) with Kind := 12,Tick := w64 (tick3 + x39),N := x8.Running })) ta_45 rfl (by kernel_rfl) (by kernel_rfl) ?_
      refine r_s 3 tt_ok (en_Entry ({ (cellplanemake_none 16 tick3) with Kind := 12,Tick := w64 (tick3 + x39),N := x8.Running })) (fitn ta_45 (by kernel_rfl)) rfl (by kernel_rfl) (by kernel_rfl) ?_
      refine r_done ?_
      repeat refine r_done ?_
      repeat refine r_done ?_
      obtain rfl := h_out h
      exact ret_of (rv_cell 3 tt_ok (by kernel_rfl) ta_45 rfl rfl RV.nil) (le_w [true,false,false,false,false,false]) ⟨rfl,rfl⟩
     ·replace h := h_f h hb37
      clear hb37
      refine r_bind ?_
      refine r_done ?_
      refine r_ite (fun hb41 => ?_) (fun hb41 => ?_)
      ·replace h := h_t h hb41
       clear hb41
       refine r_bind ?_
       refine r_ld 5 tt_ok (v := .int .i64 c1.Regions) ts_3 rfl (by kernel_rfl) ?_
       replace h := h_b h; obtain ⟨⟨x43,x44⟩,hx42,h⟩ := h
       refine r_call (hc_20 (bt0 := bt0) (g_t0 := g_t0) (t0 := { t0 with At := x13 }) (n1 := c1.Regions) (hS_t0 := by exact (le_d 5).trans hS_t0) (h_t0 := by exact h_t0) (h := hx42)) ?_
       rintro _ _ ⟨rfl,rfl⟩
       refine r_s 2 tt_ok (en_Entry ({ (cellplanemake_none 16 tick3) with Kind := 13 })) (fit1 ts_3 (by kernel_rfl)) rfl (by kernel_rfl) (by kernel_rfl) ?_
       refine r_kp [(6,.pointer (some ⟨bq2,0,none⟩)),(8,.pointer (some ⟨bq3,0,none⟩)),(9,.pointer (some ⟨bq4,0,none⟩)),(92,.int .i64 x43)] (by kernel_rfl) fun fr => ?_
       refine r_s 2 tt_ok (en_Entry ({ (cellplanemake_none 16 tick3) with Kind := 13,Other := x43 })) (fit1 ts_3 (by kernel_rfl)) rfl (by kernel_rfl) (by kernel_rfl) ?_
       refine r_s 2 tt_ok (en_Entry ({ (cellplanemake_none 16 tick3) with Kind := 13,Other := x43,N := 1 })) (fit1 ts_3 (by kernel_rfl)) rfl (by kernel_rfl) (by kernel_rfl) ?_
       refine r_done ?_
       refine r_bind ?_
       refine r_ld 4 tt_ok (v := .int .i64 s2.Evacuating) ts_3 rfl (by kernel_rfl) ?_
       refine r_ld 2 tt_ok (v := .int .i64 x43) ts_3 rfl (by kernel_rfl) ?_
       refine r_call (hc_61 (set0 := s2.Evacuating) (i1 := x43)) ?_
       rintro _ _ ⟨rfl,rfl⟩
       refine r_keep [(8,.pointer (some ⟨bq3,0,none⟩)),(9,.pointer (some ⟨bq4,0,none⟩)),(100,.bool (cellplaneref04_Has s2.Evacuating x43))] (by kernel_rfl) fun fr => ?_
       refine r_done ?_
       refine r_ite (fun hb45 => ?_) (fun hb45 => ?_)
       ·replace h := h_t h hb45
        clear hb45
        refine r_s 2 tt_ok (en_Entry ({ (cellplanemake_none 16 tick3) with Kind := 13,Other := x43,N := 0 })) (fit1 ts_3 (by kernel_rfl)) rfl (by kernel_rfl) (by kernel_rfl) ?_
        refine r_done ?_
        refine r_done ?_
        refine r_bind ?_
        refine r_ldn 2 tt_ok (en_Entry ({ (cellplanemake_none 16 tick3) with Kind := 13,Other := x43,N := 0 })) ta_45 rfl (by kernel_rfl) (by kernel_rfl) ?_
        refine r_s 3 tt_ok (en_Entry ({ (cellplanemake_none 16 tick3) with Kind := 13,Other := x43,N := 0 })) (fitn ta_45 (by kernel_rfl)) rfl (by kernel_rfl) (by kernel_rfl) ?_
        refine r_done ?_
        repeat refine r_done ?_
        repeat refine r_done ?_
        obtain rfl := h_out h
        exact ret_of (rv_cell 3 tt_ok (by kernel_rfl) ta_45 rfl rfl RV.nil) (le_w [true,false,false,false,false,false]) ⟨rfl,rfl⟩
       ·replace h := h_f h hb45
        clear hb45
        refine r_done ?_
        refine r_done ?_
        refine r_bind ?_
        refine r_ldn 2 tt_ok (en_Entry ({ (cellplanemake_none 16 tick3) with Kind := 13,Other := x43,N := 1 })) ta_45 rfl (by kernel_rfl) (by kernel_rfl) ?_
        refine r_s 3 tt_ok (en_Entry ({ (cellplanemake_none 16 tick3) with Kind := 13,Other := x43,N := 1 })) (fitn ta_45 (by kernel_rfl)) rfl (by kernel_rfl) (by kernel_rfl) ?_
        refine r_done ?_
        repeat refine r_done ?_
        repeat refine r_done ?_
        obtain rfl := h_out h
        exact ret_of (rv_cell 3 tt_ok (by kernel_rfl) ta_45 rfl rfl RV.nil) (le_w [true,false,false,false,false,false]) ⟨rfl,rfl⟩
      ·replace h := h_f h hb41
       clear hb41
       refine r_bind ?_
       refine r_done ?_
       refine r_ite (fun hb46 => ?_) (fun hb46 => ?_)
       ·replace h := h_t h hb46
        clear hb46
        refine r_bind ?_
        refine r_s 2 tt_ok (en_Entry ({ (cellplanemake_none 16 tick3) with Kind := 14 })) (fit1 ts_3 (by kernel_rfl)) rfl (by kernel_rfl) (by kernel_rfl) ?_
        refine r_done ?_
        refine r_bind ?_
        refine r_ld 4 tt_ok (v := .int .i64 s2.High) ts_3 rfl (by kernel_rfl) ?_
        refine r_kp [(6,.pointer (some ⟨bq2,0,none⟩)),(8,.pointer (some ⟨bq3,0,none⟩)),(9,.pointer (some ⟨bq4,0,none⟩)),(106,.int .i64 s2.High)] (by kernel_rfl) fun fr => ?_
        refine r_ld 4 tt_ok (v := .int .i64 s2.Low) ts_3 rfl (by kernel_rfl) ?_
        refine r_done ?_
        refine r_ite (fun hb47 => ?_) (fun hb47 => ?_)
        ·replace h := h_t h hb47
         clear hb47
         refine r_s 2 tt_ok (en_Entry ({ (cellplanemake_none 16 tick3) with Kind := 15 })) (fit1 ts_3 (by kernel_rfl)) rfl (by kernel_rfl) (by kernel_rfl) ?_
         refine r_done ?_
         refine r_done ?_
         refine r_bind ?_
         refine r_ldn 2 tt_ok (en_Entry ({ (cellplanemake_none 16 tick3) with Kind := 15 })) ta_45 rfl (by kernel_rfl) (by kernel_rfl) ?_
         refine r_s 3 tt_ok (en_Entry ({ (cellplanemake_none 16 tick3) with Kind := 15 })) (fitn ta_45 (by kernel_rfl)) rfl (by kernel_rfl) (by kernel_rfl) ?_
         refine r_done ?_
         repeat refine r_done ?_
         repeat refine r_done ?_
         obtain rfl := h_out h
         exact ret_of (rv_cell 3 tt_ok (by kernel_rfl) ta_45 rfl rfl RV.nil) (le_w [true,false,false,false,false,false]) ⟨rfl,rfl⟩
        ·replace h := h_f h hb47
         clear hb47
         refine r_done ?_
         refine r_done ?_
         refine r_bind ?_
         refine r_ldn 2 tt_ok (en_Entry ({ (cellplanemake_none 16 tick3) with Kind := 14 })) ta_45 rfl (by kernel_rfl) (by kernel_rfl) ?_
         refine r_s 3 tt_ok (en_Entry ({ (cellplanemake_none 16 tick3) with Kind := 14 })) (fitn ta_45 (by kernel_rfl)) rfl (by kernel_rfl) (by kernel_rfl) ?_
         refine r_done ?_
         repeat refine r_done ?_
         repeat refine r_done ?_
         obtain rfl := h_out h
         exact ret_of (rv_cell 3 tt_ok (by kernel_rfl) ta_45 rfl rfl RV.nil) (le_w [true,false,false,false,false,false]) ⟨rfl,rfl⟩
       ·replace h := h_f h hb46
        clear hb46
        replace h := h_b h; obtain ⟨⟨x49,x50⟩,hx48,h⟩ := h
        refine r_call (hc_20 (bt0 := bt0) (g_t0 := g_t0) (t0 := { t0 with At := x13 }) (n1 := 100) (hS_t0 := by exact (le_d 5).trans hS_t0) (h_t0 := by exact h_t0) (h := hx48)) ?_
        rintro _ _ ⟨rfl,rfl⟩
        refine r_s 2 tt_ok (en_Entry ({ (cellplanemake_none 16 tick3) with N := x49 })) (fit1 ts_3 (by kernel_rfl)) rfl (by kernel_rfl) (by kernel_rfl) ?_
        refine r_keep [(8,.pointer (some ⟨bq3,0,none⟩)),(9,.pointer (some ⟨bq4,0,none⟩))] (by kernel_rfl) fun fr => ?_
        refine r_done ?_
        refine r_done ?_
        refine r_bind ?_
        refine r_ldn 2 tt_ok (en_Entry ({ (cellplanemake_none 16 tick3) with N := x49 })) ta_45 rfl (by kernel_rfl) (by kernel_rfl) ?_
        refine r_s 3 tt_ok (en_Entry ({ (cellplanemake_none 16 tick3) with N := x49 })) (fitn ta_45 (by kernel_rfl)) rfl (by kernel_rfl) (by kernel_rfl) ?_
        refine r_done ?_
        repeat refine r_done ?_
        repeat refine r_done ?_
        obtain rfl := h_out h
        exact ret_of (rv_cell 3 tt_ok (by kernel_rfl) ta_45 rfl rfl RV.nil) (le_w [true,false,false,false,false,false]) ⟨rfl,rfl⟩
theorem hc_96 {ρ : Addr → Option Value} {L : List Ent} {g_c0 : gConfig} {S_c0 : St} (hS_c0 : Le ⟨ρ,L⟩ S_c0) (c0 : Config) (cell1 : Int) (h_c0 : Sl_Config S_c0 c0 g_c0) {r : Int} (h : cellplaneref04_ZoneOf c0 cell1 = some r) : HC Try.prog 96 #[.agg (en_Config c0 g_c0).toArray,.int .i64 cell1] ⟨ρ,L⟩ (fun v S' => v = .int .i64 r ∧ S' = ⟨ρ,L⟩) := by
 replace h := h_in h
 refine HC.intro (N := 20) (args := [_,_]) tt_ok Try.func96 rfl (by decide +kernel) rfl (Nat.le_of_ble_eq_true rfl) ?_
 refine r_bind ?_
 refine r_bx (en_Config c0 g_c0) (by kernel_rfl) fun bq1 => ?_
 refine r_done ?_
 refine r_bind ?_
 refine r_bind ?_
 refine r_meet (fun fr S => ∃ fr0,fr = updL [(1,.int .i64 cell1),(2,.pointer (some ⟨bq1,0,none⟩)),(13,.bool ((decide (cell1 < 0)) || (decide ((c0.Cells.length : Int) ≤ cell1))))] fr0 ∧ S = ⟨ρ,.obj bq1 (en_Config c0 g_c0) 30 :: L⟩) ?_ ?_
 ·refine r_ite (fun (hb2 : (decide (cell1 < 0)) = true) => ?_) (fun (hb2 : (decide (cell1 < 0)) = false) => ?_)
  ·refine r_kp [(1,.int .i64 cell1),(2,.pointer (some ⟨bq1,0,none⟩)),(7,.bool true),(8,undef)] (by kernel_rfl) fun fr => ?_
   refine r_T rfl ?_
   refine r_T rfl ?_
   refine r_T rfl ?_
   refine r_T rfl ?_
   refine r_T rfl ?_
   exact r_done ⟨_,fr_eq _ (by (try rw [hb2]); kernel_rfl),(by kernel_rfl)⟩
  ·refine r_kp [(1,.int .i64 cell1),(2,.pointer (some ⟨bq1,0,none⟩)),(7,.bool false),(8,.int .i64 cell1)] (by kernel_rfl) fun fr => ?_
   refine r_F rfl ?_
   refine r_F rfl ?_
   refine r_ld 0 tt_ok (v := .slice g_c0.Cells.1 c0.Cells.length g_c0.Cells.2) ts_26 rfl (by kernel_rfl) ?_
   refine r_F rfl ?_
   refine r_F rfl ?_
   exact r_done ⟨_,fr_eq _ (by (try rw [hb2]); kernel_rfl),(by kernel_rfl)⟩
 rintro fr S ⟨fr,rfl,rfl⟩
 refine r_done ?_
 refine r_ite (fun hb3 => ?_) (fun hb3 => ?_)
 ·replace h := h_t h hb3
  clear hb3
  refine r_bind ?_
  refine r_done ?_
  repeat refine r_done ?_
  repeat refine r_done ?_
  obtain rfl := h_out h
  exact ret_of (RV.tmp RV.nil) (le_w [false]) ⟨rfl,rfl⟩
 ·replace h := h_f h hb3
  clear hb3
  refine r_done ?_
  refine r_bind ?_
  refine r_ld 0 tt_ok (v := .slice g_c0.Cells.1 c0.Cells.length g_c0.Cells.2) ts_26 rfl (by kernel_rfl) ?_
  replace h := h_b h; obtain ⟨x4,hx5,h⟩ := h
  refine r_el hx5 ((h_c0.2.1).rd.mono ((le_d 1).trans hS_c0)) ?_
  refine r_lec (E := eCell) tt_ok (v := .int .i64 x4.Zone) (idx_get hx5) ((h_c0.2.1).rd.mono ((le_d 1).trans hS_c0)) ts_3 rfl (pl1 _ _ _) (by kernel_rfl) ?_
  refine r_done ?_
  repeat refine r_done ?_
  repeat refine r_done ?_
  obtain rfl := h_out h
  exact ret_of (RV.tmp RV.nil) (le_w [false]) ⟨rfl,rfl⟩
theorem hc_83 {ρ : Addr → Option Value} {L : List Ent} {g_c0 : gConfig} {S_c0 : St} (hS_c0 : Le ⟨ρ,L⟩ S_c0) (c0 : Config) (cell1 : Int) (h_c0 : Sl_Config S_c0 c0 g_c0) {r : Int} (h : cellplaneref04_RegionOf c0 cell1 = some r) : HC Try.prog 83 #[.agg (en_Config c0 g_c0).toArray,.int .i64 cell1] ⟨ρ,L⟩ (fun v S' => v = .int .i64 r ∧ S' = ⟨ρ,L⟩) := by
 replace h := h_in h
 refine HC.intro (N := 17) (args := [_,_]) tt_ok Try.func83 rfl (by decide +kernel) rfl (Nat.le_of_ble_eq_true rfl) ?_
 refine r_bind ?_
 refine r_bx (en_Config c0 g_c0) (by kernel_rfl) fun bq1 => ?_
 refine r_done ?_
 refine r_bind ?_
 refine r_ldn 0 tt_ok (en_Config c0 g_c0) ta_30 rfl (by kernel_rfl) (by kernel_rfl) ?_
 replace h := h_b h; obtain ⟨x3,hx2,h⟩ := h
 refine r_call (hc_96 (g_c0 := g_c0) (c0 := c0) (cell1 := cell1) (hS_c0 := by exact (le_d 1).trans hS_c0) (h_c0 := by exact h_c0) (h := hx2)) ?_
 rintro _ _ ⟨rfl,rfl⟩
 refine r_done ?_
 refine r_bind ?_
 refine r_bind ?_
 refine r_done ?_
 refine r_ite (fun hb4 => ?_) (fun hb4 => ?_)
 ·replace h := h_t h hb4
  clear hb4
  refine r_bind ?_
  refine r_keep [(4,.int .i64 (-1))] (by kernel_rfl) fun fr => ?_
  refine r_done ?_
  repeat refine r_done ?_
  repeat refine r_done ?_
  obtain rfl := h_out h
  exact ret_of (RV.tmp RV.nil) (le_w [false]) ⟨rfl,rfl⟩
 ·replace h := h_f h hb4
  clear hb4
  refine r_done ?_
  refine r_bind ?_
  refine r_ld 0 tt_ok (v := .slice g_c0.Zones.1 c0.Zones.length g_c0.Zones.2) ts_25 rfl (by kernel_rfl) ?_
  refine r_kp [(4,.int .i64 0),(5,.int .i64 x3),(12,.slice g_c0.Zones.1 c0.Zones.length g_c0.Zones.2)] (by kernel_rfl) fun fr => ?_
  replace h := h_b h; obtain ⟨x5,hx6,h⟩ := h
  refine r_el hx6 ((h_c0.1).rd.mono ((le_d 1).trans hS_c0)) ?_
  refine r_lec (E := eZone) tt_ok (v := .int .i64 x5.Region) (idx_get hx6) ((h_c0.1).rd.mono ((le_d 1).trans hS_c0)) ts_3 rfl (pl1 _ _ _) (by kernel_rfl) ?_
  refine r_done ?_
  repeat refine r_done ?_
  repeat refine r_done ?_
  obtain rfl := h_out h
  exact ret_of (RV.tmp RV.nil) (le_w [false]) ⟨rfl,rfl⟩
theorem hc_62 {ρ : Addr → Option Value} {L : List Ent} {g_c0 : gConfig} {S_c0 : St} (hS_c0 : Le ⟨ρ,L⟩ S_c0) (c0 : Config) (tenant1 : Int) (cell2 : Int) (h_c0 : Sl_Config S_c0 c0 g_c0) {r : Bool} (h : cellplaneref05_May c0 tenant1 cell2 = some r) : HC Try.prog 62 #[.agg (en_Config c0 g_c0).toArray,.int .i64 tenant1,.int .i64 cell2] ⟨ρ,L⟩ (fun v S' => v = .bool r ∧ S' = ⟨ρ,L⟩) := by
 replace h := h_in h
 refine HC.intro (N := 28) (args := [_,_,_]) tt_ok Try.func62 rfl (by decide +kernel) rfl (Nat.le_of_ble_eq_true rfl) ?_
 refine r_bind ?_
 refine r_bx (en_Config c0 g_c0) (by kernel_rfl) fun bq1 => ?_
 refine r_done ?_
 refine r_bind ?_
 replace h := h_j h; obtain ⟨K9,h,hK10⟩ := h
 refine r_meet (fun fr S => ∃ (x8 : Bool),∃ fr0,K9 x8 = some r ∧ fr = updL [(6,.bool x8)] fr0 ∧ S = ⟨ρ,L⟩) ?_ ?_
 refine r_mix tt_ok hm_ok _ _ [] (.pure 0 (.pure 1 (.pure 2 (.pure 3 (.pure 4 (.vb 5 (.pure 6 (.pure 7 (.pure 8 (.pure 9 (.pure 10 (.vb 11 (.pure 12 (.vb 13 (.pure 14 (.vb 15 (.vb 16 (.pure 17 (.eff 18 (.eff 19 (.pure 20 (.pure 21 .nil)))))))))))))))))))))) (le_w [true]) (le_w [true]) ?_ ?_
 ·decide +kernel
 refine x_p rfl ?_
 refine v_done ?_
 refine x_p rfl ?_
 refine v_done ?_
 refine x_p rfl ?_
 refine v_done ?_
 refine x_p rfl ?_
 refine v_ite (fun (hb2 : (decide (0 ≤ tenant1)) = true) => ?_) (fun (hb2 : (decide (0 ≤ tenant1)) = false) => ?_)
 ·replace h := h_t h hb2
  clear hb2
  refine v_done ?_
  refine x_p rfl ?_
  refine v_T rfl ?_
  refine v_done ?_
  refine x_vb rfl ?_
  refine v_T rfl ?_
  refine v_ld 0 tt_ok (v := .slice g_c0.Tenants.1 c0.Tenants.length g_c0.Tenants.2) ts_27 rfl (by kernel_rfl) ?_
  refine v_done ?_
  refine x_p rfl ?_
  refine v_T rfl ?_
  refine v_done ?_
  refine x_p rfl ?_
  refine v_T rfl ?_
  refine v_done ?_
  refine x_kp [(1,.int .i64 tenant1),(2,.int .i64 cell2),(3,.pointer (some ⟨bq1,0,none⟩)),(6,.bool false),(9,.bool true),(14,.bool (decide (tenant1 < (c0.Tenants.length : Int))))] (by kernel_rfl) fun fr => ?_
  refine x_p rfl ?_
  refine v_done ?_
  refine x_p rfl ?_
  refine v_done ?_
  refine x_p rfl ?_
  refine v_ite (fun (hb3 : (decide (tenant1 < (c0.Tenants.length : Int))) = true) => ?_) (fun (hb3 : (decide (tenant1 < (c0.Tenants.length : Int))) = false) => ?_)
  ·replace h := h_t h hb3
   clear hb3
   refine v_done ?_
   refine x_vb rfl ?_
   refine v_T rfl ?_
   refine v_ld 0 tt_ok (v := .slice g_c0.Tenants.1 c0.Tenants.length g_c0.Tenants.2) ts_27 rfl (by kernel_rfl) ?_
   refine v_done ?_
   refine x_p rfl ?_
   refine v_T rfl ?_
   refine v_done ?_
   refine x_vb rfl ?_
   refine v_T rfl ?_
   replace h := h_b h; obtain ⟨x4,hx5,h⟩ := h
   refine v_el hx5 ((h_c0.2.2.1).rd.mono ((le_d 1).trans hS_c0)) ?_
   refine v_done ?_
   refine x_p rfl ?_
   refine v_T rfl ?_
   refine v_done ?_
   refine x_vb rfl ?_
   refine v_T rfl ?_
   refine v_lec (E := eTenant) tt_ok (v := .int .i64 x4.Allowed) (idx_get hx5) ((h_c0.2.2.1).rd.mono ((le_d 1).trans hS_c0)) ts_3 rfl (pl1 _ _ _) (by kernel_rfl) ?_
   refine v_done ?_
   refine x_vb rfl ?_
   refine v_T rfl ?_
   refine v_ldn 0 tt_ok (en_Config c0 g_c0) ta_30 rfl (by kernel_rfl) (by kernel_rfl) ?_
   refine v_done ?_
   refine x_kp [(2,.int .i64 cell2),(6,.bool false),(16,.bool true),(22,.int .i64 x4.Allowed),(23,.agg (en_Config c0 g_c0).toArray)] (by kernel_rfl) fun fr => ?_
   refine x_p rfl ?_
   refine v_T rfl ?_
   refine v_done ?_
   refine x_e rfl ?_
   refine r_T rfl ?_
   replace h := h_b h; obtain ⟨x7,hx6,h⟩ := h
   refine r_call (hc_83 (g_c0 := g_c0) (c0 := c0) (cell1 := cell2) (hS_c0 := by exact (le_d 1).trans hS_c0) (h_c0 := by exact h_c0) (h := hx6)) ?_
   rintro _ _ ⟨rfl,rfl⟩
   refine r_done ⟨rfl,k_a (le_w [true]) (le_w [true]),?_⟩
   refine x_e rfl ?_
   refine r_T rfl ?_
   refine r_call (hc_61 (set0 := x4.Allowed) (i1 := x7)) ?_
   rintro _ _ ⟨rfl,rfl⟩
   refine r_done ⟨rfl,k_a (le_w [true]) (le_w [true]),?_⟩
   refine x_p rfl ?_
   refine v_done ?_
   refine x_p rfl ?_
   refine v_done ?_
   refine x_k [(6,.bool (cellplaneref04_Has x4.Allowed x7))] (by kernel_rfl) fun fr => ?_
   refine r_le (le_w [false]) ?_
   exact r_done ⟨(cellplaneref04_Has x4.Allowed x7),_,h,fr_eq _ (by kernel_rfl),(by kernel_rfl)⟩
  ·replace h := h_f h hb3
   clear hb3
   refine v_done ?_
   refine x_vb rfl ?_
   refine v_F rfl ?_
   refine v_done ?_
   refine x_p rfl ?_
   refine v_F rfl ?_
   refine v_done ?_
   refine x_vb rfl ?_
   refine v_F rfl ?_
   refine v_done ?_
   refine x_p rfl ?_
   refine v_F rfl ?_
   refine v_done ?_
   refine x_vb rfl ?_
   refine v_F rfl ?_
   refine v_done ?_
   refine x_vb rfl ?_
   refine v_F rfl ?_
   refine v_done ?_
   refine x_kp [(2,.int .i64 cell2),(6,.bool false),(16,.bool false),(22,undef),(23,undef)] (by kernel_rfl) fun fr => ?_
   refine x_p rfl ?_
   refine v_F rfl ?_
   refine v_done ?_
   refine x_e rfl ?_
   refine r_F rfl ?_
   refine r_done ⟨rfl,k_a (le_w [true]) (le_w [true]),?_⟩
   refine x_e rfl ?_
   refine r_F rfl ?_
   refine r_done ⟨rfl,k_a (le_w [true]) (le_w [true]),?_⟩
   refine x_p rfl ?_
   refine v_F rfl ?_
   refine v_done ?_
   refine x_p rfl ?_
   refine v_done ?_
   refine x_k [(6,.bool false)] (by kernel_rfl) fun fr => ?_
   refine r_le (le_w [false]) ?_
   exact r_done ⟨false,_,h,fr_eq _ (by kernel_rfl),(by kernel_rfl)⟩
 ·replace h := h_f h hb2
  clear hb2
  refine v_done ?_
  refine x_p rfl ?_
  refine v_F rfl ?_
  refine v_done ?_
  refine x_vb rfl ?_
  refine v_F rfl ?_
  refine v_done ?_
  refine x_p rfl ?_
  refine v_F rfl ?_
  refine v_done ?_
  refine x_p rfl ?_
  refine v_F rfl ?_
  refine v_done ?_
  refine x_kp [(1,.int .i64 tenant1),(2,.int .i64 cell2),(3,.pointer (some ⟨bq1,0,none⟩)),(6,.bool false),(9,.bool false),(14,undef)] (by kernel_rfl) fun fr => ?_
  refine x_p rfl ?_
  refine v_F rfl ?_
  refine v_done ?_
  refine x_p rfl ?_
  refine v_done ?_
  refine x_p rfl ?_
  refine v_F rfl ?_
  refine v_done ?_
  refine x_vb rfl ?_
  refine v_F rfl ?_
  refine v_done ?_
  refine x_p rfl ?_
  refine v_F rfl ?_
  refine v_done ?_
  refine x_vb rfl ?_
  refine v_F rfl ?_
  refine v_done ?_
  refine x_p rfl ?_
  refine v_F rfl ?_
  refine v_done ?_
  refine x_vb rfl ?_
  refine v_F rfl ?_
  refine v_done ?_
  refine x_vb rfl ?_
  refine v_F rfl ?_
  refine v_done ?_
  refine x_kp [(2,.int .i64 cell2),(6,.bool false),(16,.bool false),(22,undef),(23,undef)] (by kernel_rfl) fun fr => ?_
  refine x_p rfl ?_
  refine v_F rfl ?_
  refine v_done ?_
  refine x_e rfl ?_
  refine r_F rfl ?_
  refine r_done ⟨rfl,k_a (le_w [true]) (le_w [true]),?_⟩
  refine x_e rfl ?_
  refine r_F rfl ?_
  refine r_done ⟨rfl,k_a (le_w [true]) (le_w [true]),?_⟩
  refine x_p rfl ?_
  refine v_F rfl ?_
  refine v_done ?_
  refine x_p rfl ?_
  refine v_done ?_
  refine x_k [(6,.bool false)] (by kernel_rfl) fun fr => ?_
  refine r_le (le_w [false]) ?_
  exact r_done ⟨false,_,h,fr_eq _ (by kernel_rfl),(by kernel_rfl)⟩
 clear h
 rintro fr S ⟨x8,fr,h,rfl,rfl⟩
 replace h := hK10 _ h
 refine r_done ?_
 repeat refine r_done ?_
 repeat refine r_done ?_
 obtain rfl := h_out h
 exact ret_of (RV.tmp RV.nil) (Le.refl _) ⟨rfl,rfl⟩
theorem hc_34 {ρ : Addr → Option Value} {L : List Ent} {g_c0 : gConfig} {S_c0 : St} (hS_c0 : Le ⟨ρ,L⟩ S_c0) (c0 : Config) (tenant1 : Int) (h_c0 : Sl_Config S_c0 c0 g_c0) {r : (List Int)} (h : cellplaneref05_Homes c0 tenant1 = some r) : HC Try.prog 34 #[.agg (en_Config c0 g_c0).toArray,.int .i64 tenant1] ⟨ρ,L⟩ (fun v S' => ∃ (Aq1_0 : Option Addr),∃ (cq1_0 : Nat),v = .slice Aq1_0 r.length cq1_0 ∧ S' = ⟨ρ,.row Aq1_0 r.length cq1_0 3 1 (fl eI64.en r) :: L⟩) := by
 replace h := h_in h
 refine HC.intro (N := 23) (args := [_,_]) tt_ok Try.func34 rfl (by decide +kernel) rfl (Nat.le_of_ble_eq_true rfl) ?_
 refine r_bind ?_
 refine r_bx (en_Config c0 g_c0) (by kernel_rfl) fun bq1 => ?_
 refine r_done ?_
 refine r_bind ?_
 refine r_done ?_
 refine r_bind ?_
 refine r_bind ?_
 refine r_done ?_
 refine r_bind ?_
 replace h := h_l h; obtain ⟨K48,n49,h,hK50⟩ := h
 refine r_le (le_nil 3 1) ?_
 refine r_loop (fun n fr S => ∃ (xs33 : (List Int)),∃ (x37 : Int),∃ (A34 : Option Addr),∃ (c35 : Nat),∃ fr0,(runN (cellplaneref05_Homes.b1 c0 tenant1) n (xs33,x37)).bind K48 = some r ∧ fr = updL [(1,.int .i64 tenant1),(2,.pointer (some ⟨bq1,0,none⟩)),(5,.slice A34 xs33.length c35),(6,.int .i64 x37)] fr0 ∧ S = ⟨ρ,.row A34 xs33.length c35 3 1 (fl eI64.en xs33) :: .obj bq1 (en_Config c0 g_c0) 30 :: L⟩) n49 ⟨[],0,none,0,_,h,fr_eq _ (by kernel_rfl),(by kernel_rfl)⟩ ?_
 clear h
 rintro n49 fr S ⟨xs33,x37,A34,c35,fr,h,rfl,rfl⟩
 replace h := h_r h; obtain ⟨m51,hm51,h⟩ := h
 refine r_bind ?_
 refine r_bind ?_
 refine r_ld 1 tt_ok (v := .slice g_c0.Cells.1 c0.Cells.length g_c0.Cells.2) ts_26 rfl (by kernel_rfl) ?_
 refine r_done ?_
 refine r_ite (fun hb38 => ?_) (fun hb38 => ?_)
 ·replace h := h_t h hb38
  clear hb38
  refine r_done ?_
  refine r_bind ?_
  refine r_bind ?_
  refine r_bind ?_
  refine r_ldn 1 tt_ok (en_Config c0 g_c0) ta_30 rfl (by kernel_rfl) (by kernel_rfl) ?_
  replace h := h_b h; obtain ⟨x40,hx39,h⟩ := h
  refine r_call (hc_62 (g_c0 := g_c0) (c0 := c0) (tenant1 := tenant1) (cell2 := x37) (hS_c0 := by exact (le_d 2).trans hS_c0) (h_c0 := by exact h_c0) (h := hx39)) ?_
  rintro _ _ ⟨rfl,rfl⟩
  refine r_keep [(1,.int .i64 tenant1),(2,.pointer (some ⟨bq1,0,none⟩)),(5,.slice A34 xs33.length c35),(6,.int .i64 x37),(17,.bool x40)] (by kernel_rfl) fun fr => ?_
  refine r_done ?_
  refine r_ite (fun hb41 => ?_) (fun hb41 => ?_)
  ·replace h := h_t h hb41
   clear hb41
   refine r_bs tt_ok (fl eI64.en [x37]) te_22 ti_3 (by kernel_rfl) (by kernel_rfl) (by kernel_rfl) (by kernel_rfl) fun bq42 => ?_
   replace h := h_b h; obtain ⟨xs43,ha44,h⟩ := h
   refine r_app 1 (E := eI64) (xs := xs33) (ys := [x37]) tt_ok ha44 (rd_row 0 rfl) rfl te_22 ti_3 rfl (by kernel_rfl) rfl (fun A45 c46 => ?_)
   refine r_done ?_
   refine r_done ?_
   refine r_num (e' := w64 (x37 + 1)) rfl ?_
   refine r_le (le_w [false,true,true]) ?_
   exact r_done ⟨m51,lt_s hm51,xs43,w64 (x37 + 1),A45,c46,_,h,fr_eq _ (by kernel_rfl),(by kernel_rfl)⟩
  ·replace h := h_f h hb41
   clear hb41
   refine r_done ?_
   refine r_done ?_
   refine r_num (e' := w64 (x37 + 1)) rfl ?_
   exact r_done ⟨m51,lt_s hm51,xs33,w64 (x37 + 1),A34,c35,_,h,fr_eq _ (by kernel_rfl),(by kernel_rfl)⟩
 ·replace h := h_f h hb38
  clear hb38
  refine r_done ?_
  refine r_done ?_
  replace h := h_m h
  subst hK50
  refine r_done ?_
  refine r_bind ?_
  refine r_done ?_
  repeat refine r_done ?_
  repeat refine r_done ?_
  obtain rfl := h_out h
  exact ret_of (RV.tmp RV.nil) (le_w [true,false]) ⟨A34,c35,rfl,rfl⟩
theorem hc_33 {ρ : Addr → Option Value} {L : List Ent} {bt0 : Nat} {g_t0 : gcellplanemake_Tape} {A_l1 : Option Addr} {c_l1 : Nat} {S_t0 : St} (hS_t0 : Le ⟨ρ,L⟩ S_t0) {S_l1 : St} (hS_l1 : Le ⟨ρ,L⟩ S_l1) (t0 : cellplanemake_Tape) (l1 : (List Int)) (h_t0 : Sl_cellplanemake_Tape S_t0 t0 g_t0) (h_l1 : Sl S_l1 A_l1 l1.length c_l1 (fl eI64.en l1)) {r : (Int × Int)} (h : cellplanemake_pick t0 l1 = some r) : HC Try.prog 33 #[.pointer (some ⟨bt0,0,none⟩),.slice A_l1 l1.length c_l1] ⟨ρ,.obj bt0 (en_cellplanemake_Tape t0 g_t0) 73 :: L⟩ (fun v S' => v = .int .i64 r.1 ∧ S' = ⟨ρ,.obj bt0 (en_cellplanemake_Tape ({ t0 with At := r.2 }) g_t0) 73 :: L⟩) := by
 replace h := h_in h
 refine HC.intro (N := 15) (args := [_,_]) tt_ok Try.func33 rfl (by decide +kernel) rfl (Nat.le_of_ble_eq_true rfl) ?_
 refine r_bind ?_
 refine r_done ?_
 refine r_bind ?_
 refine r_bind ?_
 refine r_done ?_
 refine r_ite (fun hb1 => ?_) (fun hb1 => ?_)
 ·replace h := h_t h hb1
  clear hb1
  refine r_bind ?_
  refine r_done ?_
  repeat refine r_done ?_
  repeat refine r_done ?_
  obtain rfl := h_out h
  exact ret_of (RV.tmp RV.nil) (Le.refl _) ⟨rfl,rfl⟩
 ·replace h := h_f h hb1
  clear hb1
  refine r_done ?_
  refine r_bind ?_
  replace h := h_b h; obtain ⟨⟨x3,x4⟩,hx2,h⟩ := h
  refine r_call (hc_20 (bt0 := bt0) (g_t0 := g_t0) (t0 := t0) (n1 := (l1.length : Int)) (hS_t0 := by exact (le_d 0).trans hS_t0) (h_t0 := by exact h_t0) (h := hx2)) ?_
  rintro _ _ ⟨rfl,rfl⟩
  refine r_kp [(4,.int .i64 0),(8,.slice A_l1 l1.length c_l1),(12,.int .i64 x3)] (by kernel_rfl) fun fr => ?_
  replace h := h_b h; obtain ⟨x5,hx6,h⟩ := h
  refine r_el hx6 ((h_l1).rd.mono ((le_d 1).trans hS_l1)) ?_
  refine r_lec (E := eI64) tt_ok (v := .int .i64 x5) (idx_get hx6) ((h_l1).rd.mono ((le_d 1).trans hS_l1)) ts_3 rfl (pl0 _ _) (by kernel_rfl) ?_
  refine r_done ?_
  repeat refine r_done ?_
  repeat refine r_done ?_
  obtain rfl := h_out h
  exact ret_of (RV.tmp RV.nil) (Le.refl _) ⟨rfl,rfl⟩
theorem hc_63 {ρ : Addr → Option Value} {L : List Ent} {g_c0 : gConfig} {S_c0 : St} (hS_c0 : Le ⟨ρ,L⟩ S_c0) (c0 : Config) (a1 : Int) (b2 : Int) (h_c0 : Sl_Config S_c0 c0 g_c0) {r : Bool} (h : cellplaneref05_Apart c0 a1 b2 = some r) : HC Try.prog 63 #[.agg (en_Config c0 g_c0).toArray,.int .i64 a1,.int .i64 b2] ⟨ρ,L⟩ (fun v S' => v = .bool r ∧ S' = ⟨ρ,L⟩) := by
 replace h := h_in h
 refine HC.intro (N := 26) (args := [_,_,_]) tt_ok Try.func63 rfl (by decide +kernel) rfl (Nat.le_of_ble_eq_true rfl) ?_
 refine r_bind ?_
 refine r_bx (en_Config c0 g_c0) (by kernel_rfl) fun bq1 => ?_
 refine r_done ?_
 refine r_bind ?_
 refine r_mix tt_ok hm_ok _ _ [] (.vb 0 (.pure 1 (.vb 3 (.pure 4 (.eff 2 (.eff 5 (.pure 6 (.pure 7 .nil)))))))) (le_w [true]) (le_w [true]) ?_ ?_
 ·decide +kernel
 refine x_vb rfl ?_
 refine v_ldn 0 tt_ok (en_Config c0 g_c0) ta_30 rfl (by kernel_rfl) (by kernel_rfl) ?_
 refine v_done ?_
 refine x_p rfl ?_
 refine v_done ?_
 refine x_vb rfl ?_
 refine v_ldn 0 tt_ok (en_Config c0 g_c0) ta_30 rfl (by kernel_rfl) (by kernel_rfl) ?_
 refine v_done ?_
 refine x_p rfl ?_
 refine v_done ?_
 refine x_e rfl ?_
 replace h := h_b h; obtain ⟨x3,hx2,h⟩ := h
 refine r_call (hc_83 (g_c0 := g_c0) (c0 := c0) (cell1 := a1) (hS_c0 := by exact (le_d 1).trans hS_c0) (h_c0 := by exact h_c0) (h := hx2)) ?_
 rintro _ _ ⟨rfl,rfl⟩
 refine r_done ⟨rfl,k_a (le_w [true]) (le_w [true]),?_⟩
 refine x_e rfl ?_
 replace h := h_b h; obtain ⟨x5,hx4,h⟩ := h
 refine r_call (hc_83 (g_c0 := g_c0) (c0 := c0) (cell1 := b2) (hS_c0 := by exact (le_d 1).trans hS_c0) (h_c0 := by exact h_c0) (h := hx4)) ?_
 rintro _ _ ⟨rfl,rfl⟩
 refine r_done ⟨rfl,k_a (le_w [true]) (le_w [true]),?_⟩
 refine x_p rfl ?_
 refine v_done ?_
 refine x_kp [(7,.int .i64 x3),(14,.int .i64 x5)] (by kernel_rfl) fun fr => ?_
 refine x_p rfl ?_
 refine v_done ?_
 refine x_k [(7,.int .i64 x3),(8,.int .i64 x5)] (by kernel_rfl) fun fr => ?_
 refine r_done ?_
 refine r_bind ?_
 refine r_meet (fun fr S => ∃ fr0,fr = updL [(6,.bool ((decide (0 ≤ x3)) && ((decide (0 ≤ x5)) && (!decide (x3 = x5)))))] fr0 ∧ S = ⟨ρ,.obj bq1 (en_Config c0 g_c0) 30 :: L⟩) ?_ ?_
 ·refine r_ite (fun (hb6 : (decide (0 ≤ x3)) = true) => ?_) (fun (hb6 : (decide (0 ≤ x3)) = false) => ?_)
  ·refine r_T rfl ?_
   refine r_kp [(7,.int .i64 x3),(8,.int .i64 x5),(17,.bool true),(19,.bool (decide (0 ≤ x5)))] (by kernel_rfl) fun fr => ?_
   refine r_ite (fun (hb7 : (decide (0 ≤ x5)) = true) => ?_) (fun (hb7 : (decide (0 ≤ x5)) = false) => ?_)
   ·refine r_T rfl ?_
    refine r_T rfl ?_
    exact r_done ⟨_,fr_eq _ (by (try rw [hb7]); (try rw [hb6]); kernel_rfl),(by kernel_rfl)⟩
   ·refine r_F rfl ?_
    refine r_F rfl ?_
    refine r_F rfl ?_
    exact r_done ⟨_,fr_eq _ (by (try rw [hb7]); (try rw [hb6]); kernel_rfl),(by kernel_rfl)⟩
  ·refine r_F rfl ?_
   refine r_kp [(7,.int .i64 x3),(8,.int .i64 x5),(17,.bool false),(19,undef)] (by kernel_rfl) fun fr => ?_
   refine r_F rfl ?_
   refine r_F rfl ?_
   refine r_F rfl ?_
   refine r_F rfl ?_
   refine r_F rfl ?_
   exact r_done ⟨_,fr_eq _ (by (try rw [hb6]); kernel_rfl),(by kernel_rfl)⟩
 rintro fr S ⟨fr,rfl,rfl⟩
 refine r_done ?_
 repeat refine r_done ?_
 repeat refine r_done ?_
 obtain rfl := h_out h
 exact ret_of (RV.tmp RV.nil) (le_w [false]) ⟨rfl,rfl⟩
theorem hc_35 {ρ : Addr → Option Value} {L : List Ent} {g_c0 : gConfig} {S_c0 : St} (hS_c0 : Le ⟨ρ,L⟩ S_c0) (c0 : Config) (tenant1 : Int) (home2 : Int) (h_c0 : Sl_Config S_c0 c0 g_c0) {r : (List Int)} (h : cellplaneref05_Standbys c0 tenant1 home2 = some r) : HC Try.prog 35 #[.agg (en_Config c0 g_c0).toArray,.int .i64 tenant1,.int .i64 home2] ⟨ρ,L⟩ (fun v S' => ∃ (Aq1_0 : Option Addr),∃ (cq1_0 : Nat),v = .slice Aq1_0 r.length cq1_0 ∧ S' = ⟨ρ,.row Aq1_0 r.length cq1_0 3 1 (fl eI64.en r) :: L⟩) := by
 replace h := h_in h
 refine HC.intro (N := 31) (args := [_,_,_]) tt_ok Try.func35 rfl (by decide +kernel) rfl (Nat.le_of_ble_eq_true rfl) ?_
 refine r_bind ?_
 refine r_bx (en_Config c0 g_c0) (by kernel_rfl) fun bq1 => ?_
 refine r_done ?_
 refine r_bind ?_
 refine r_done ?_
 refine r_bind ?_
 refine r_bind ?_
 refine r_done ?_
 refine r_bind ?_
 replace h := h_l h; obtain ⟨K66,n67,h,hK68⟩ := h
 refine r_le (le_nil 3 1) ?_
 refine r_loop (fun n fr S => ∃ (xs45 : (List Int)),∃ (x49 : Int),∃ (A46 : Option Addr),∃ (c47 : Nat),∃ fr0,(runN (cellplaneref05_Standbys.b1 c0 tenant1 home2) n (xs45,x49)).bind K66 = some r ∧ fr = updL [(1,.int .i64 tenant1),(2,.int .i64 home2),(3,.pointer (some ⟨bq1,0,none⟩)),(7,.slice A46 xs45.length c47),(8,.int .i64 x49)] fr0 ∧ S = ⟨ρ,.row A46 xs45.length c47 3 1 (fl eI64.en xs45) :: .obj bq1 (en_Config c0 g_c0) 30 :: L⟩) n67 ⟨[],0,none,0,_,h,fr_eq _ (by kernel_rfl),(by kernel_rfl)⟩ ?_
 clear h
 rintro n67 fr S ⟨xs45,x49,A46,c47,fr,h,rfl,rfl⟩
 replace h := h_r h; obtain ⟨m69,hm69,h⟩ := h
 refine r_bind ?_
 refine r_bind ?_
 refine r_ld 1 tt_ok (v := .slice g_c0.Cells.1 c0.Cells.length g_c0.Cells.2) ts_26 rfl (by kernel_rfl) ?_
 refine r_done ?_
 refine r_ite (fun hb50 => ?_) (fun hb50 => ?_)
 ·replace h := h_t h hb50
  clear hb50
  refine r_done ?_
  refine r_bind ?_
  refine r_bind ?_
  refine r_bind ?_
  replace h := h_j h; obtain ⟨K57,h,hK58⟩ := h
  refine r_meet (fun fr S => ∃ (x56 : Bool),∃ fr0,K57 x56 = some r ∧ fr = updL [(1,.int .i64 tenant1),(2,.int .i64 home2),(3,.pointer (some ⟨bq1,0,none⟩)),(7,.slice A46 xs45.length c47),(8,.int .i64 x49),(25,.bool x56)] fr0 ∧ S = ⟨ρ,.row A46 xs45.length c47 3 1 (fl eI64.en xs45) :: .obj bq1 (en_Config c0 g_c0) 30 :: L⟩) ?_ ?_
  ·refine r_ldn 1 tt_ok (en_Config c0 g_c0) ta_30 rfl (by kernel_rfl) (by kernel_rfl) ?_
   refine r_kp [(1,.int .i64 tenant1),(2,.int .i64 home2),(3,.pointer (some ⟨bq1,0,none⟩)),(7,.slice A46 xs45.length c47),(8,.int .i64 x49),(16,.agg (en_Config c0 g_c0).toArray)] (by kernel_rfl) fun fr => ?_
   replace h := h_b h; obtain ⟨x52,hx51,h⟩ := h
   refine r_call (hc_62 (g_c0 := g_c0) (c0 := c0) (tenant1 := tenant1) (cell2 := x49) (hS_c0 := by exact (le_d 2).trans hS_c0) (h_c0 := by exact h_c0) (h := hx51)) ?_
   rintro _ _ ⟨rfl,rfl⟩
   refine r_ite (fun (hb53 : x52 = true) => ?_) (fun (hb53 : x52 = false) => ?_)
   ·replace h := h_t h hb53
    clear hb53
    refine r_ldn 1 tt_ok (en_Config c0 g_c0) ta_30 rfl (by kernel_rfl) (by kernel_rfl) ?_
    refine r_T rfl ?_
    refine r_T rfl ?_
    refine r_T rfl ?_
    replace h := h_b h; obtain ⟨x55,hx54,h⟩ := h
    refine r_call (hc_63 (g_c0 := g_c0) (c0 := c0) (a1 := home2) (b2 := x49) (hS_c0 := by exact (le_d 2).trans hS_c0) (h_c0 := by exact h_c0) (h := hx54)) ?_
    rintro _ _ ⟨rfl,rfl⟩
    refine r_keep [(1,.int .i64 tenant1),(2,.int .i64 home2),(3,.pointer (some ⟨bq1,0,none⟩)),(7,.slice A46 xs45.length c47),(8,.int .i64 x49),(21,.agg (en_Config c0 g_c0).toArray),(22,.int .i64 home2),(23,.int .i64 x49),(24,.bool x55),(25,.bool x55)] (by kernel_rfl) fun fr => ?_
    exact r_done ⟨x55,_,h,fr_eq _ (by kernel_rfl),(by kernel_rfl)⟩
   ·replace h := h_f h hb53
    clear hb53
    refine r_F rfl ?_
    refine r_F rfl ?_
    refine r_F rfl ?_
    refine r_F rfl ?_
    refine r_keep [(1,.int .i64 tenant1),(2,.int .i64 home2),(3,.pointer (some ⟨bq1,0,none⟩)),(7,.slice A46 xs45.length c47),(8,.int .i64 x49),(25,.bool false)] (by kernel_rfl) fun fr => ?_
    exact r_done ⟨false,_,h,fr_eq _ (by kernel_rfl),(by kernel_rfl)⟩
  clear h
  rintro fr S ⟨x56,fr,h,rfl,rfl⟩
  replace h := hK58 _ h
  refine r_done ?_
  refine r_ite (fun hb59 => ?_) (fun hb59 => ?_)
  ·replace h := h_t h hb59
   clear hb59
   refine r_bs tt_ok (fl eI64.en [x49]) te_22 ti_3 (by kernel_rfl) (by kernel_rfl) (by kernel_rfl) (by kernel_rfl) fun bq60 => ?_
   replace h := h_b h; obtain ⟨xs61,ha62,h⟩ := h
   refine r_app 1 (E := eI64) (xs := xs45) (ys := [x49]) tt_ok ha62 (rd_row 0 rfl) rfl te_22 ti_3 rfl (by kernel_rfl) rfl (fun A63 c64 => ?_)
   refine r_done ?_
   refine r_done ?_
   refine r_num (e' := w64 (x49 + 1)) rfl ?_
   refine r_le (le_w [false,true,true]) ?_
   exact r_done ⟨m69,lt_s hm69,xs61,w64 (x49 + 1),A63,c64,_,h,fr_eq _ (by kernel_rfl),(by kernel_rfl)⟩
  ·replace h := h_f h hb59
   clear hb59
   refine r_done ?_
   refine r_done ?_
   refine r_num (e' := w64 (x49 + 1)) rfl ?_
   exact r_done ⟨m69,lt_s hm69,xs45,w64 (x49 + 1),A46,c47,_,h,fr_eq _ (by kernel_rfl),(by kernel_rfl)⟩
 ·replace h := h_f h hb50
  clear hb50
  refine r_done ?_
  refine r_done ?_
  replace h := h_m h
  subst hK68
  refine r_done ?_
  refine r_bind ?_
  refine r_done ?_
  repeat refine r_done ?_
  repeat refine r_done ?_
  obtain rfl := h_out h
  exact ret_of (RV.tmp RV.nil) (le_w [true,false]) ⟨A46,c47,rfl,rfl⟩
theorem hc_36 {ρ : Addr → Option Value} {L : List Ent} {bt0 : Nat} {g_t0 : gcellplanemake_Tape} {g_c1 : gConfig} {g_s2 : gState} {S_t0 : St} (hS_t0 : Le ⟨ρ,L⟩ S_t0) {S_c1 : St} (hS_c1 : Le ⟨ρ,L⟩ S_c1) {S_s2 : St} (hS_s2 : Le ⟨ρ,L⟩ S_s2) (t0 : cellplanemake_Tape) (c1 : Config) (s2 : State) (e3 : Entry) (h_t0 : Sl_cellplanemake_Tape S_t0 t0 g_t0) (h_c1 : Sl_Config S_c1 c1 g_c1) (h_s2 : Sl_State S_s2 s2 g_s2) {r : (Entry × Int)} (h : cellplanemake_grant t0 c1 s2 e3 = some r) : HC Try.prog 36 #[.pointer (some ⟨bt0,0,none⟩),.agg (en_Config c1 g_c1).toArray,.agg (en_State s2 g_s2).toArray,.agg (en_Entry e3).toArray] ⟨ρ,.obj bt0 (en_cellplanemake_Tape t0 g_t0) 73 :: L⟩ (fun v S' => v = .agg (en_Entry r.1).toArray ∧ S' = ⟨ρ,.obj bt0 (en_cellplanemake_Tape ({ t0 with At := r.2 }) g_t0) 73 :: L⟩) := by
 replace h := h_in h
 refine HC.intro (N := 129) (args := [_,_,_,_]) tt_ok Try.func36 rfl (by decide +kernel) rfl (Nat.le_of_ble_eq_true rfl) ?_
 refine r_bind ?_
 refine r_bx (en_Config c1 g_c1) (by kernel_rfl) fun bq1 => ?_
 refine r_bx (en_State s2 g_s2) (by kernel_rfl) fun bq2 => ?_
 refine r_bx (en_Entry e3) (by kernel_rfl) fun bq3 => ?_
 refine r_al tt_ok (en_Entry (⟨0,0,0,0,0,0,0,0,0⟩ : Entry)) ti_45 (by kernel_rfl) fun bq4 => ?_
 refine r_done ?_
 refine r_bind ?_
 refine r_ld 2 tt_ok (v := .slice g_s2.Tenants.1 s2.Tenants.length g_s2.Tenants.2) ts_33 rfl (by kernel_rfl) ?_
 refine r_ld 1 tt_ok (v := .int .i64 e3.Tenant) ts_3 rfl (by kernel_rfl) ?_
 replace h := h_b h; obtain ⟨x5,hx6,h⟩ := h
 refine r_el hx6 ((h_s2.1).rd.mono ((le_d 5).trans hS_s2)) ?_
 refine r_kp [(0,.pointer (some ⟨bt0,0,none⟩)),(5,.pointer (some ⟨bq1,0,none⟩)),(6,.pointer (some ⟨bq2,0,none⟩)),(7,.pointer (some ⟨bq3,0,none⟩)),(8,.pointer (some ⟨bq4,0,none⟩)),(14,.pointer (some ((adr g_s2.Tenants.1).add (e3.Tenant.toNat * 12))))] (by kernel_rfl) fun fr => ?_
 refine r_len (E := eTenantState) tt_ok (en_TenantState x5) (idx_get hx6) ((h_s2.1).rd.mono ((le_d 5).trans hS_s2)) ta_50 rfl (pl0 _ _) (by kernel_rfl) (by kernel_rfl) ?_
 refine r_al tt_ok (en_TenantState (⟨false,false,0,0,0,0,0,(⟨0,0,0,0,0⟩ : Window)⟩ : TenantState)) ti_50 (by kernel_rfl) fun bq7 => ?_
 refine r_s 0 tt_ok (en_TenantState x5) (fitn ta_50 (by kernel_rfl)) rfl (by kernel_rfl) (by kernel_rfl) ?_
 refine r_done ?_
 refine r_bind ?_
 refine r_ld 0 tt_ok (v := .int .i64 x5.Home) ts_3 rfl (by kernel_rfl) ?_
 refine r_s 2 tt_ok (en_Entry ({ e3 with Cell := x5.Home })) (fit1 ts_3 (by kernel_rfl)) rfl (by kernel_rfl) (by kernel_rfl) ?_
 refine r_done ?_
 refine r_bind ?_
 replace h := h_j h; obtain ⟨K29,h,hK30⟩ := h
 refine r_meet (fun fr S => ∃ (at27 : Int),∃ (cel28 : Int),∃ fr0,K29 (at27,cel28) = some r ∧ fr = updL [(0,.pointer (some ⟨bt0,0,none⟩)),(5,.pointer (some ⟨bq1,0,none⟩)),(6,.pointer (some ⟨bq2,0,none⟩)),(7,.pointer (some ⟨bq3,0,none⟩)),(8,.pointer (some ⟨bq4,0,none⟩)),(9,.pointer (some ⟨bq7,0,none⟩))] fr0 ∧ S = ⟨ρ,.obj bt0 (en_cellplanemake_Tape ({ t0 with At := at27 }) g_t0) 73 :: .obj bq7 (en_TenantState x5) 50 :: .obj bq4 (en_Entry (⟨0,0,0,0,0,0,0,0,0⟩ : Entry)) 45 :: .obj bq3 (en_Entry ({ e3 with Cell := cel28 })) 45 :: .obj bq2 (en_State s2 g_s2) 36 :: .obj bq1 (en_Config c1 g_c1) 30 :: L⟩) ?_ ?_
 ·refine r_bind ?_
  replace h := h_j h; obtain ⟨K14,h,hK15⟩ := h
  refine r_meet (fun fr S => ∃ (x12 : Bool),∃ (at13 : Int),∃ fr0,K14 (x12,at13) = some r ∧ fr = updL [(0,.pointer (some ⟨bt0,0,none⟩)),(5,.pointer (some ⟨bq1,0,none⟩)),(6,.pointer (some ⟨bq2,0,none⟩)),(7,.pointer (some ⟨bq3,0,none⟩)),(8,.pointer (some ⟨bq4,0,none⟩)),(9,.pointer (some ⟨bq7,0,none⟩)),(25,.bool x12)] fr0 ∧ S = ⟨ρ,.obj bt0 (en_cellplanemake_Tape ({ t0 with At := at13 }) g_t0) 73 :: .obj bq7 (en_TenantState x5) 50 :: .obj bq4 (en_Entry (⟨0,0,0,0,0,0,0,0,0⟩ : Entry)) 45 :: .obj bq3 (en_Entry ({ e3 with Cell := x5.Home })) 45 :: .obj bq2 (en_State s2 g_s2) 36 :: .obj bq1 (en_Config c1 g_c1) 30 :: L⟩) ?_ ?_
  ·refine r_ld 0 tt_ok (v := .int .i64 x5.Target) ts_3 rfl (by kernel_rfl) ?_
   refine r_kp [(0,.pointer (some ⟨bt0,0,none⟩)),(5,.pointer (some ⟨bq1,0,none⟩)),(6,.pointer (some ⟨bq2,0,none⟩)),(7,.pointer (some ⟨bq3,0,none⟩)),(8,.pointer (some ⟨bq4,0,none⟩)),(9,.pointer (some ⟨bq7,0,none⟩)),(20,.int .i64 x5.Target)] (by kernel_rfl) fun fr => ?_
   refine r_ite (fun (hb8 : (decide (0 ≤ x5.Target)) = true) => ?_) (fun (hb8 : (decide (0 ≤ x5.Target)) = false) => ?_)
   ·replace h := h_t h hb8
    clear hb8
    refine r_T rfl ?_
    refine r_le (le_mv 5) ?_
    replace h := h_b h; obtain ⟨⟨x10,x11⟩,hx9,h⟩ := h
    refine r_call (hc_22 (bt0 := bt0) (g_t0 := g_t0) (t0 := t0) (n1 := 2) (hS_t0 := by exact (le_d 5).trans hS_t0) (h_t0 := by exact h_t0) (h := hx9)) ?_
    rintro _ _ ⟨rfl,rfl⟩
    exact r_done ⟨x10,x11,_,h,fr_eq _ (by kernel_rfl),(by kernel_rfl)⟩
   ·replace h := h_f h hb8
    clear hb8
    refine r_F rfl ?_
    refine r_F rfl ?_
    refine r_le ((le_mv 4).trans ((le_mv 4).trans ((le_mv 4).trans ((le_mv 4).trans ((le_mv 4).trans (le_mv 5)))))) ?_
    exact r_done ⟨false,t0.At,_,h,fr_eq _ (by kernel_rfl),(by kernel_rfl)⟩
  clear h
  rintro fr S ⟨x12,at13,fr,h,rfl,rfl⟩
  replace h := hK15 _ h
  refine r_done ?_
  refine r_ite (fun hb16 => ?_) (fun hb16 => ?_)
  ·replace h := h_t h hb16
   clear hb16
   refine r_ld 1 tt_ok (v := .int .i64 x5.Target) ts_3 rfl (by kernel_rfl) ?_
   refine r_s 3 tt_ok (en_Entry ({ e3 with Cell := x5.Target })) (fit1 ts_3 (by kernel_rfl)) rfl (by kernel_rfl) (by kernel_rfl) ?_
   exact r_done ⟨at13,x5.Target,_,h,fr_eq _ (by kernel_rfl),(by kernel_rfl)⟩
  ·replace h := h_f h hb16
   clear hb16
   refine r_bind ?_
   replace h := h_j h; obtain ⟨K24,h,hK25⟩ := h
   refine r_meet (fun fr S => ∃ (x22 : Bool),∃ (at23 : Int),∃ fr0,K24 (x22,at23) = some r ∧ fr = updL [(0,.pointer (some ⟨bt0,0,none⟩)),(5,.pointer (some ⟨bq1,0,none⟩)),(6,.pointer (some ⟨bq2,0,none⟩)),(7,.pointer (some ⟨bq3,0,none⟩)),(8,.pointer (some ⟨bq4,0,none⟩)),(9,.pointer (some ⟨bq7,0,none⟩)),(39,.bool x22)] fr0 ∧ S = ⟨ρ,.obj bt0 (en_cellplanemake_Tape ({ t0 with At := at23 }) g_t0) 73 :: .obj bq7 (en_TenantState x5) 50 :: .obj bq4 (en_Entry (⟨0,0,0,0,0,0,0,0,0⟩ : Entry)) 45 :: .obj bq3 (en_Entry ({ e3 with Cell := x5.Home })) 45 :: .obj bq2 (en_State s2 g_s2) 36 :: .obj bq1 (en_Config c1 g_c1) 30 :: L⟩) ?_ ?_
   ·refine r_ld 1 tt_ok (v := .int .i64 x5.Standby) ts_3 rfl (by kernel_rfl) ?_
    refine r_kp [(0,.pointer (some ⟨bt0,0,none⟩)),(5,.pointer (some ⟨bq1,0,none⟩)),(6,.pointer (some ⟨bq2,0,none⟩)),(7,.pointer (some ⟨bq3,0,none⟩)),(8,.pointer (some ⟨bq4,0,none⟩)),(9,.pointer (some ⟨bq7,0,none⟩)),(30,.int .i64 x5.Standby)] (by kernel_rfl) fun fr => ?_
    refine r_ite (fun (hb17 : (decide (0 ≤ x5.Standby)) = true) => ?_) (fun (hb17 : (decide (0 ≤ x5.Standby)) = false) => ?_)
    ·replace h := h_t h hb17
     clear hb17
     refine r_T rfl ?_
     replace h := h_b h; obtain ⟨⟨x19,x20⟩,hx18,h⟩ := h
     refine r_call (hc_22 (bt0 := bt0) (g_t0 := g_t0) (t0 := { t0 with At := at13 }) (n1 := 5) (hS_t0 := by exact (le_d 5).trans hS_t0) (h_t0 := by exact h_t0) (h := hx18)) ?_
     rintro _ _ ⟨rfl,rfl⟩
     refine r_T rfl ?_
     refine r_ite (fun (hb21 : x19 = true) => ?_) (fun (hb21 : x19 = false) => ?_)
     ·replace h := h_t h hb21
      clear hb21
      refine r_T rfl ?_
      refine r_T rfl ?_
      refine r_T rfl ?_
      refine r_keep [(0,.pointer (some ⟨bt0,0,none⟩)),(5,.pointer (some ⟨bq1,0,none⟩)),(6,.pointer (some ⟨bq2,0,none⟩)),(7,.pointer (some ⟨bq3,0,none⟩)),(8,.pointer (some ⟨bq4,0,none⟩)),(9,.pointer (some ⟨bq7,0,none⟩)),(39,.bool true)] (by kernel_rfl) fun fr => ?_
      exact r_done ⟨true,x20,_,h,fr_eq _ (by kernel_rfl),(by kernel_rfl)⟩
     ·replace h := h_f h hb21
      clear hb21
      refine r_F rfl ?_
      refine r_ld 1 tt_ok (v := .bool x5.Shed) ts_4 rfl (by kernel_rfl) ?_
      refine r_T rfl ?_
      refine r_keep [(0,.pointer (some ⟨bt0,0,none⟩)),(5,.pointer (some ⟨bq1,0,none⟩)),(6,.pointer (some ⟨bq2,0,none⟩)),(7,.pointer (some ⟨bq3,0,none⟩)),(8,.pointer (some ⟨bq4,0,none⟩)),(9,.pointer (some ⟨bq7,0,none⟩)),(39,.bool x5.Shed)] (by kernel_rfl) fun fr => ?_
      exact r_done ⟨x5.Shed,x20,_,h,fr_eq _ (by kernel_rfl),(by kernel_rfl)⟩
    ·replace h := h_f h hb17
     clear hb17
     refine r_F rfl ?_
     refine r_F rfl ?_
     refine r_F rfl ?_
     refine r_F rfl ?_
     refine r_keep [(0,.pointer (some ⟨bt0,0,none⟩)),(5,.pointer (some ⟨bq1,0,none⟩)),(6,.pointer (some ⟨bq2,0,none⟩)),(7,.pointer (some ⟨bq3,0,none⟩)),(8,.pointer (some ⟨bq4,0,none⟩)),(9,.pointer (some ⟨bq7,0,none⟩)),(39,.bool false)] (by kernel_rfl) fun fr => ?_
     exact r_done ⟨false,at13,_,h,fr_eq _ (by kernel_rfl),(by kernel_rfl)⟩
   clear h
   rintro fr S ⟨x22,at23,fr,h,rfl,rfl⟩
   replace h := hK25 _ h
   refine r_done ?_
   refine r_ite (fun hb26 => ?_) (fun hb26 => ?_)
   ·replace h := h_t h hb26
    clear hb26
    refine r_ld 1 tt_ok (v := .int .i64 x5.Standby) ts_3 rfl (by kernel_rfl) ?_
    refine r_s 3 tt_ok (en_Entry ({ e3 with Cell := x5.Standby })) (fit1 ts_3 (by kernel_rfl)) rfl (by kernel_rfl) (by kernel_rfl) ?_
    exact r_done ⟨at23,x5.Standby,_,h,fr_eq _ (by kernel_rfl),(by kernel_rfl)⟩
   ·replace h := h_f h hb26
    clear hb26
    exact r_done ⟨at23,x5.Home,_,h,fr_eq _ (by kernel_rfl),(by kernel_rfl)⟩
 clear h
 rintro fr S ⟨at27,cel28,fr,h,rfl,rfl⟩
 replace h := hK30 _ h
 refine r_done ?_
 refine r_bind ?_
 refine r_ld 1 tt_ok (v := .int .i64 x5.Epoch) ts_3 rfl (by kernel_rfl) ?_
 refine r_s 3 tt_ok (en_Entry ({ e3 with Cell := cel28,Epoch := x5.Epoch })) (fit1 ts_3 (by kernel_rfl)) rfl (by kernel_rfl) (by kernel_rfl) ?_
 refine r_done ?_
 refine r_bind ?_
 replace h := h_j h; obtain ⟨K43,h,hK44⟩ := h
 refine r_meet (fun fr S => ∃ (at41 : Int),∃ (epo42 : Int),∃ fr0,K43 (at41,epo42) = some r ∧ fr = updL [(0,.pointer (some ⟨bt0,0,none⟩)),(5,.pointer (some ⟨bq1,0,none⟩)),(6,.pointer (some ⟨bq2,0,none⟩)),(7,.pointer (some ⟨bq3,0,none⟩)),(8,.pointer (some ⟨bq4,0,none⟩)),(9,.pointer (some ⟨bq7,0,none⟩))] fr0 ∧ S = ⟨ρ,.obj bt0 (en_cellplanemake_Tape ({ t0 with At := at41 }) g_t0) 73 :: .obj bq7 (en_TenantState x5) 50 :: .obj bq4 (en_Entry (⟨0,0,0,0,0,0,0,0,0⟩ : Entry)) 45 :: .obj bq3 (en_Entry ({ e3 with Cell := cel28,Epoch := epo42 })) 45 :: .obj bq2 (en_State s2 g_s2) 36 :: .obj bq1 (en_Config c1 g_c1) 30 :: L⟩) ?_ ?_
 ·refine r_bind ?_
  replace h := h_j h; obtain ⟨K38,h,hK39⟩ := h
  refine r_meet (fun fr S => ∃ (x36 : Bool),∃ (at37 : Int),∃ fr0,K38 (x36,at37) = some r ∧ fr = updL [(0,.pointer (some ⟨bt0,0,none⟩)),(5,.pointer (some ⟨bq1,0,none⟩)),(6,.pointer (some ⟨bq2,0,none⟩)),(7,.pointer (some ⟨bq3,0,none⟩)),(8,.pointer (some ⟨bq4,0,none⟩)),(9,.pointer (some ⟨bq7,0,none⟩)),(59,.bool x36)] fr0 ∧ S = ⟨ρ,.obj bt0 (en_cellplanemake_Tape ({ t0 with At := at37 }) g_t0) 73 :: .obj bq7 (en_TenantState x5) 50 :: .obj bq4 (en_Entry (⟨0,0,0,0,0,0,0,0,0⟩ : Entry)) 45 :: .obj bq3 (en_Entry ({ e3 with Cell := cel28,Epoch := x5.Epoch })) 45 :: .obj bq2 (en_State s2 g_s2) 36 :: .obj bq1 (en_Config c1 g_c1) 30 :: L⟩) ?_ ?_
  ·refine r_ld 3 tt_ok (v := .int .i64 cel28) ts_3 rfl (by kernel_rfl) ?_
   refine r_ld 1 tt_ok (v := .int .i64 x5.Home) ts_3 rfl (by kernel_rfl) ?_
   refine r_kp [(0,.pointer (some ⟨bt0,0,none⟩)),(5,.pointer (some ⟨bq1,0,none⟩)),(6,.pointer (some ⟨bq2,0,none⟩)),(7,.pointer (some ⟨bq3,0,none⟩)),(8,.pointer (some ⟨bq4,0,none⟩)),(9,.pointer (some ⟨bq7,0,none⟩)),(47,.int .i64 cel28),(49,.int .i64 x5.Home)] (by kernel_rfl) fun fr => ?_
   refine r_ite (fun (hb31 : (!decide (cel28 = x5.Home)) = true) => ?_) (fun (hb31 : (!decide (cel28 = x5.Home)) = false) => ?_)
   ·replace h := h_t h hb31
    clear hb31
    refine r_T rfl ?_
    refine r_T rfl ?_
    refine r_T rfl ?_
    refine r_T rfl ?_
    refine r_T rfl ?_
    refine r_kp [(0,.pointer (some ⟨bt0,0,none⟩)),(5,.pointer (some ⟨bq1,0,none⟩)),(6,.pointer (some ⟨bq2,0,none⟩)),(7,.pointer (some ⟨bq3,0,none⟩)),(8,.pointer (some ⟨bq4,0,none⟩)),(9,.pointer (some ⟨bq7,0,none⟩)),(56,.bool true),(58,undef)] (by kernel_rfl) fun fr => ?_
    refine r_T rfl ?_
    exact r_done ⟨true,at27,_,h,fr_eq _ (by kernel_rfl),(by kernel_rfl)⟩
   ·replace h := h_f h hb31
    clear hb31
    refine r_F rfl ?_
    refine r_ld 1 tt_ok (v := .int .i64 x5.Epoch) ts_3 rfl (by kernel_rfl) ?_
    refine r_F rfl ?_
    refine r_ite (fun (hb32 : (decide (x5.Epoch = 0)) = true) => ?_) (fun (hb32 : (decide (x5.Epoch = 0)) = false) => ?_)
    ·replace h := h_t h hb32
     clear hb32
     refine r_T rfl ?_
     refine r_kp [(0,.pointer (some ⟨bt0,0,none⟩)),(5,.pointer (some ⟨bq1,0,none⟩)),(6,.pointer (some ⟨bq2,0,none⟩)),(7,.pointer (some ⟨bq3,0,none⟩)),(8,.pointer (some ⟨bq4,0,none⟩)),(9,.pointer (some ⟨bq7,0,none⟩)),(56,.bool true),(58,undef)] (by kernel_rfl) fun fr => ?_
     refine r_T rfl ?_
     exact r_done ⟨true,at27,_,h,fr_eq _ (by kernel_rfl),(by kernel_rfl)⟩
    ·replace h := h_f h hb32
     clear hb32
     refine r_F rfl ?_
     replace h := h_b h; obtain ⟨⟨x34,x35⟩,hx33,h⟩ := h
     refine r_call (hc_22 (bt0 := bt0) (g_t0 := g_t0) (t0 := { t0 with At := at27 }) (n1 := 4) (hS_t0 := by exact (le_d 5).trans hS_t0) (h_t0 := by exact h_t0) (h := hx33)) ?_
     rintro _ _ ⟨rfl,rfl⟩
     refine r_kp [(0,.pointer (some ⟨bt0,0,none⟩)),(5,.pointer (some ⟨bq1,0,none⟩)),(6,.pointer (some ⟨bq2,0,none⟩)),(7,.pointer (some ⟨bq3,0,none⟩)),(8,.pointer (some ⟨bq4,0,none⟩)),(9,.pointer (some ⟨bq7,0,none⟩)),(56,.bool false),(58,.bool x34)] (by kernel_rfl) fun fr => ?_
     exact r_done ⟨x34,x35,_,h,fr_eq _ (by kernel_rfl),(by kernel_rfl)⟩
  clear h
  rintro fr S ⟨x36,at37,fr,h,rfl,rfl⟩
  replace h := hK39 _ h
  refine r_done ?_
  refine r_ite (fun hb40 => ?_) (fun hb40 => ?_)
  ·replace h := h_t h hb40
   clear hb40
   refine r_ld 1 tt_ok (v := .int .i64 x5.Epoch) ts_3 rfl (by kernel_rfl) ?_
   refine r_num (e' := w64 (x5.Epoch + 1)) rfl ?_
   refine r_s 3 tt_ok (en_Entry ({ e3 with Cell := cel28,Epoch := w64 (x5.Epoch + 1) })) (fit1 ts_3 (by kernel_rfl)) rfl (by kernel_rfl) (by kernel_rfl) ?_
   exact r_done ⟨at37,w64 (x5.Epoch + 1),_,h,fr_eq _ (by kernel_rfl),(by kernel_rfl)⟩
  ·replace h := h_f h hb40
   clear hb40
   exact r_done ⟨at37,x5.Epoch,_,h,fr_eq _ (by kernel_rfl),(by kernel_rfl)⟩
 clear h
 rintro fr S ⟨at41,epo42,fr,h,rfl,rfl⟩
 replace h := hK44 _ h
 refine r_done ?_
 refine r_bind ?_
 replace h := h_j h; obtain ⟨K56,h,hK57⟩ := h
 refine r_meet (fun fr S => ∃ (at54 : Int),∃ (tic55 : Int),∃ fr0,K56 (at54,tic55) = some r ∧ fr = updL [(0,.pointer (some ⟨bt0,0,none⟩)),(5,.pointer (some ⟨bq1,0,none⟩)),(6,.pointer (some ⟨bq2,0,none⟩)),(7,.pointer (some ⟨bq3,0,none⟩)),(8,.pointer (some ⟨bq4,0,none⟩)),(9,.pointer (some ⟨bq7,0,none⟩))] fr0 ∧ S = ⟨ρ,.obj bt0 (en_cellplanemake_Tape ({ t0 with At := at54 }) g_t0) 73 :: .obj bq7 (en_TenantState x5) 50 :: .obj bq4 (en_Entry (⟨0,0,0,0,0,0,0,0,0⟩ : Entry)) 45 :: .obj bq3 (en_Entry ({ e3 with Tick := tic55,Cell := cel28,Epoch := epo42 })) 45 :: .obj bq2 (en_State s2 g_s2) 36 :: .obj bq1 (en_Config c1 g_c1) 30 :: L⟩) ?_ ?_
 ·refine r_bind ?_
  replace h := h_j h; obtain ⟨K51,h,hK52⟩ := h
  refine r_meet (fun fr S => ∃ (x49 : Bool),∃ (at50 : Int),∃ fr0,K51 (x49,at50) = some r ∧ fr = updL [(0,.pointer (some ⟨bt0,0,none⟩)),(5,.pointer (some ⟨bq1,0,none⟩)),(6,.pointer (some ⟨bq2,0,none⟩)),(7,.pointer (some ⟨bq3,0,none⟩)),(8,.pointer (some ⟨bq4,0,none⟩)),(9,.pointer (some ⟨bq7,0,none⟩)),(73,.bool x49)] fr0 ∧ S = ⟨ρ,.obj bt0 (en_cellplanemake_Tape ({ t0 with At := at50 }) g_t0) 73 :: .obj bq7 (en_TenantState x5) 50 :: .obj bq4 (en_Entry (⟨0,0,0,0,0,0,0,0,0⟩ : Entry)) 45 :: .obj bq3 (en_Entry ({ e3 with Cell := cel28,Epoch := epo42 })) 45 :: .obj bq2 (en_State s2 g_s2) 36 :: .obj bq1 (en_Config c1 g_c1) 30 :: L⟩) ?_ ?_
  ·refine r_ld 3 tt_ok (v := .int .i64 cel28) ts_3 rfl (by kernel_rfl) ?_
   refine r_ld 1 tt_ok (v := .int .i64 x5.Home) ts_3 rfl (by kernel_rfl) ?_
   refine r_kp [(0,.pointer (some ⟨bt0,0,none⟩)),(5,.pointer (some ⟨bq1,0,none⟩)),(6,.pointer (some ⟨bq2,0,none⟩)),(7,.pointer (some ⟨bq3,0,none⟩)),(8,.pointer (some ⟨bq4,0,none⟩)),(9,.pointer (some ⟨bq7,0,none⟩)),(65,.int .i64 cel28),(67,.int .i64 x5.Home)] (by kernel_rfl) fun fr => ?_
   refine r_ite (fun (hb45 : (!decide (cel28 = x5.Home)) = true) => ?_) (fun (hb45 : (!decide (cel28 = x5.Home)) = false) => ?_)
   ·replace h := h_t h hb45
    clear hb45
    refine r_T rfl ?_
    replace h := h_b h; obtain ⟨⟨x47,x48⟩,hx46,h⟩ := h
    refine r_call (hc_20 (bt0 := bt0) (g_t0 := g_t0) (t0 := { t0 with At := at41 }) (n1 := 4) (hS_t0 := by exact (le_d 5).trans hS_t0) (h_t0 := by exact h_t0) (h := hx46)) ?_
    rintro _ _ ⟨rfl,rfl⟩
    refine r_T rfl ?_
    exact r_done ⟨decide (0 < x47),x48,_,h,fr_eq _ (by kernel_rfl),(by kernel_rfl)⟩
   ·replace h := h_f h hb45
    clear hb45
    refine r_F rfl ?_
    refine r_F rfl ?_
    refine r_F rfl ?_
    exact r_done ⟨false,at41,_,h,fr_eq _ (by kernel_rfl),(by kernel_rfl)⟩
  clear h
  rintro fr S ⟨x49,at50,fr,h,rfl,rfl⟩
  replace h := hK52 _ h
  refine r_done ?_
  refine r_ite (fun hb53 => ?_) (fun hb53 => ?_)
  ·replace h := h_t h hb53
   clear hb53
   refine r_ld 3 tt_ok (v := .int .i64 e3.Tick) ts_3 rfl (by kernel_rfl) ?_
   refine r_ld 1 tt_ok (v := .int .i64 x5.Window.Until) ts_3 rfl (by kernel_rfl) ?_
   refine r_s 3 tt_ok (en_Entry ({ e3 with Tick := mx e3.Tick x5.Window.Until,Cell := cel28,Epoch := epo42 })) (fit1 ts_3 (by kernel_rfl)) rfl (by kernel_rfl) (by kernel_rfl) ?_
   exact r_done ⟨at50,mx e3.Tick x5.Window.Until,_,h,fr_eq _ (by kernel_rfl),(by kernel_rfl)⟩
  ·replace h := h_f h hb53
   clear hb53
   exact r_done ⟨at50,e3.Tick,_,h,fr_eq _ (by kernel_rfl),(by kernel_rfl)⟩
 clear h
 rintro fr S ⟨at54,tic55,fr,h,rfl,rfl⟩
 replace h := hK57 _ h
 refine r_done ?_
 refine r_bind ?_
 refine r_ld 3 tt_ok (v := .int .i64 tic55) ts_3 rfl (by kernel_rfl) ?_
 refine r_ld 1 tt_ok (v := .int .i64 x5.Window.Until) ts_3 rfl (by kernel_rfl) ?_
 refine r_s 3 tt_ok (en_Entry ({ e3 with Tick := tic55,Cell := cel28,Epoch := epo42,From := mx tic55 x5.Window.Until })) (fit1 ts_3 (by kernel_rfl)) rfl (by kernel_rfl) (by kernel_rfl) ?_
 refine r_done ?_
 refine r_bind ?_
 replace h := h_j h; obtain ⟨K67,h,hK68⟩ := h
 refine r_meet (fun fr S => ∃ (at65 : Int),∃ (fro66 : Int),∃ fr0,K67 (at65,fro66) = some r ∧ fr = updL [(0,.pointer (some ⟨bt0,0,none⟩)),(5,.pointer (some ⟨bq1,0,none⟩)),(6,.pointer (some ⟨bq2,0,none⟩)),(7,.pointer (some ⟨bq3,0,none⟩)),(8,.pointer (some ⟨bq4,0,none⟩))] fr0 ∧ S = ⟨ρ,.obj bt0 (en_cellplanemake_Tape ({ t0 with At := at65 }) g_t0) 73 :: .obj bq4 (en_Entry (⟨0,0,0,0,0,0,0,0,0⟩ : Entry)) 45 :: .obj bq3 (en_Entry ({ e3 with Tick := tic55,Cell := cel28,Epoch := epo42,From := fro66 })) 45 :: .obj bq2 (en_State s2 g_s2) 36 :: .obj bq1 (en_Config c1 g_c1) 30 :: L⟩) ?_ ?_
 ·refine r_bind ?_
  replace h := h_b h; obtain ⟨⟨x59,x60⟩,hx58,h⟩ := h
  refine r_call (hc_22 (bt0 := bt0) (g_t0 := g_t0) (t0 := { t0 with At := at54 }) (n1 := 5) (hS_t0 := by exact (le_d 5).trans hS_t0) (h_t0 := by exact h_t0) (h := hx58)) ?_
  rintro _ _ ⟨rfl,rfl⟩
  refine r_done ?_
  refine r_ite (fun hb61 => ?_) (fun hb61 => ?_)
  ·replace h := h_t h hb61
   clear hb61
   refine r_mix tt_ok hm_ok _ _ [6] (.pure 0 (.va 1 (.pure 2 (.eff 3 (.pure 4 (.pure 5 (.eff 6 .nil))))))) (le_w [false,true,true,true,true,true]) (le_w [false,true,true,false,true,true]) ?_ ?_
   ·decide +kernel
   refine x_p rfl ?_
   refine v_done ?_
   refine x_va rfl ?_
   refine v_ld 2 tt_ok (v := .int .i64 (mx tic55 x5.Window.Until)) ts_3 rfl (by kernel_rfl) ?_
   refine v_done ?_
   refine x_p rfl ?_
   refine v_done ?_
   refine x_e rfl ?_
   replace h := h_b h; obtain ⟨⟨x63,x64⟩,hx62,h⟩ := h
   refine r_call (hc_20 (bt0 := bt0) (g_t0 := g_t0) (t0 := { t0 with At := x60 }) (n1 := 3) (hS_t0 := by exact (le_d 5).trans hS_t0) (h_t0 := by exact h_t0) (h := hx62)) ?_
   rintro _ _ ⟨rfl,rfl⟩
   refine r_done ⟨rfl,k_a (le_w [false,true,true,true,true,true]) (le_w [false,true,true,false,true,true]),?_⟩
   refine x_p rfl ?_
   refine v_num (e' := w64 ((mx tic55 x5.Window.Until) + x63)) rfl ?_
   refine v_done ?_
   refine x_p rfl ?_
   refine v_done ?_
   refine x_e rfl ?_
   refine r_s 3 tt_ok (en_Entry ({ e3 with Tick := tic55,Cell := cel28,Epoch := epo42,From := w64 ((mx tic55 x5.Window.Until) + x63) })) (fit1 ts_3 (by kernel_rfl)) rfl (by kernel_rfl) (by kernel_rfl) ?_
   refine r_done ⟨rfl,k_b rfl (le_w [false,true,true,false,true,true]),?_⟩
   refine x_k [(0,.pointer (some ⟨bt0,0,none⟩)),(5,.pointer (some ⟨bq1,0,none⟩)),(6,.pointer (some ⟨bq2,0,none⟩)),(7,.pointer (some ⟨bq3,0,none⟩)),(8,.pointer (some ⟨bq4,0,none⟩))] (by kernel_rfl) fun fr => ?_
   refine r_le (le_w [true,false,true,true,true,true]) ?_
   exact r_done ⟨x64,w64 ((mx tic55 x5.Window.Until) + x63),_,h,fr_eq _ (by kernel_rfl),(by kernel_rfl)⟩
  ·replace h := h_f h hb61
   clear hb61
   refine r_le (le_w [true,false,true,true,true,true]) ?_
   exact r_done ⟨x60,mx tic55 x5.Window.Until,_,h,fr_eq _ (by kernel_rfl),(by kernel_rfl)⟩
 clear h
 rintro fr S ⟨at65,fro66,fr,h,rfl,rfl⟩
 replace h := hK68 _ h
 refine r_done ?_
 refine r_bind ?_
 refine r_mix tt_ok hm_ok _ _ [8] (.pure 0 (.va 1 (.pure 2 (.pure 3 (.vb 4 (.eff 5 (.pure 6 (.pure 7 (.eff 8 .nil))))))))) (le_w [false,true,true,true,true]) (le_w [false,true,false,true,true]) ?_ ?_
 ·decide +kernel
 refine x_p rfl ?_
 refine v_done ?_
 refine x_va rfl ?_
 refine v_ld 1 tt_ok (v := .int .i64 fro66) ts_3 rfl (by kernel_rfl) ?_
 refine v_done ?_
 refine x_p rfl ?_
 refine v_done ?_
 refine x_p rfl ?_
 refine v_done ?_
 refine x_vb rfl ?_
 refine v_ld 2 tt_ok (v := .int .i64 c1.Lease) ts_3 rfl (by kernel_rfl) ?_
 refine v_done ?_
 refine x_e rfl ?_
 replace h := h_b h; obtain ⟨⟨x70,x71⟩,hx69,h⟩ := h
 refine r_call (hc_21 (bt0 := bt0) (g_t0 := g_t0) (t0 := { t0 with At := at65 }) (low1 := 1) (high2 := c1.Lease) (hS_t0 := by exact (le_d 4).trans hS_t0) (h_t0 := by exact h_t0) (h := hx69)) ?_
 rintro _ _ ⟨rfl,rfl⟩
 refine r_done ⟨rfl,k_a (le_w [false,true,true,true,true]) (le_w [false,true,false,true,true]),?_⟩
 refine x_p rfl ?_
 refine v_num (e' := w64 (fro66 + x70)) rfl ?_
 refine v_done ?_
 refine x_p rfl ?_
 refine v_done ?_
 refine x_e rfl ?_
 refine r_s 2 tt_ok (en_Entry ({ e3 with Tick := tic55,Cell := cel28,Epoch := epo42,From := fro66,Until := w64 (fro66 + x70) })) (fit1 ts_3 (by kernel_rfl)) rfl (by kernel_rfl) (by kernel_rfl) ?_
 refine r_done ⟨rfl,k_b rfl (le_w [false,true,false,true,true]),?_⟩
 refine x_k [(0,.pointer (some ⟨bt0,0,none⟩)),(6,.pointer (some ⟨bq2,0,none⟩)),(7,.pointer (some ⟨bq3,0,none⟩)),(8,.pointer (some ⟨bq4,0,none⟩))] (by kernel_rfl) fun fr => ?_
 refine r_done ?_
 refine r_bind ?_
 refine r_ld 3 tt_ok (v := .slice g_s2.Cells.1 s2.Cells.length g_s2.Cells.2) ts_34 rfl (by kernel_rfl) ?_
 refine r_ld 2 tt_ok (v := .int .i64 cel28) ts_3 rfl (by kernel_rfl) ?_
 replace h := h_b h; obtain ⟨x72,hx73,h⟩ := h
 refine r_el hx73 ((h_s2.2).rd.mono ((le_d 5).trans hS_s2)) ?_
 refine r_lec (E := eCellState) tt_ok (v := .int .i64 x72.Running) (idx_get hx73) ((h_s2.2).rd.mono ((le_d 5).trans hS_s2)) ts_3 rfl (pl1 _ _ _) (by kernel_rfl) ?_
 refine r_s 2 tt_ok (en_Entry ({ e3 with Tick := tic55,Cell := cel28,Epoch := epo42,From := fro66,Until := w64 (fro66 + x70),N := x72.Running })) (fit1 ts_3 (by kernel_rfl)) rfl (by kernel_rfl) (by kernel_rfl) ?_
 refine r_keep [(0,.pointer (some ⟨bt0,0,none⟩)),(7,.pointer (some ⟨bq3,0,none⟩)),(8,.pointer (some ⟨bq4,0,none⟩))] (by kernel_rfl) fun fr => ?_
 refine r_done ?_
 refine r_bind ?_
 refine r_bind ?_
 replace h := h_b h; obtain ⟨⟨x75,x76⟩,hx74,h⟩ := h
 refine r_call (hc_22 (bt0 := bt0) (g_t0 := g_t0) (t0 := { t0 with At := x71 }) (n1 := 15) (hS_t0 := by exact (le_d 4).trans hS_t0) (h_t0 := by exact h_t0) (h := hx74)) ?_
 rintro _ _ ⟨rfl,rfl⟩
 refine r_done ?_
 refine r_ite (fun hb77 => ?_) (fun hb77 => ?_)
 ·replace h := h_t h hb77
  clear hb77
  refine r_bind ?_
  refine r_mix tt_ok hm_ok _ _ [9,11] (.pure 0 (.va 1 (.pure 2 (.pure 3 (.va 4 (.pure 5 (.pure 8 (.eff 6 (.pure 7 (.eff 9 (.pure 10 (.eff 11 .nil)))))))))))) (le_w [false,true,true,true,true]) (le_w [false,true,false,true,true]) ?_ ?_
  ·decide +kernel
  refine x_p rfl ?_
  refine v_done ?_
  refine x_va rfl ?_
  refine v_ld 1 tt_ok (v := .int .i64 fro66) ts_3 rfl (by kernel_rfl) ?_
  refine v_done ?_
  refine x_p rfl ?_
  refine v_num (e' := w64 (fro66 - 1)) rfl ?_
  refine v_done ?_
  refine x_p rfl ?_
  refine v_done ?_
  refine x_va rfl ?_
  refine v_ld 1 tt_ok (v := .int .i64 (w64 (fro66 + x70))) ts_3 rfl (by kernel_rfl) ?_
  refine v_done ?_
  refine x_p rfl ?_
  refine v_done ?_
  refine x_p rfl ?_
  refine v_done ?_
  refine x_kp [(7,.pointer (some ⟨bq3,0,none⟩)),(8,.pointer (some ⟨bq4,0,none⟩)),(116,.int .i64 (w64 (fro66 - 1))),(118,.int .i64 (w64 (fro66 + x70))),(119,.pointer (some ⟨bt0,0,none⟩)),(122,.pointer (some ⟨bq3,6,none⟩))] (by kernel_rfl) fun fr => ?_
  refine x_e rfl ?_
  replace h := h_b h; obtain ⟨⟨x79,x80⟩,hx78,h⟩ := h
  refine r_call (hc_20 (bt0 := bt0) (g_t0 := g_t0) (t0 := { t0 with At := x76 }) (n1 := 30) (hS_t0 := by exact (le_d 4).trans hS_t0) (h_t0 := by exact h_t0) (h := hx78)) ?_
  rintro _ _ ⟨rfl,rfl⟩
  refine r_done ⟨rfl,k_a (le_w [false,true,true,true,true]) (le_w [false,true,false,true,true]),?_⟩
  refine x_p rfl ?_
  refine v_num (e' := w64 ((w64 (fro66 + x70)) + x79)) rfl ?_
  refine v_done ?_
  refine x_e rfl ?_
  refine r_s 2 tt_ok (en_Entry ({ e3 with Tick := tic55,Cell := cel28,Epoch := epo42,From := w64 (fro66 - 1),Until := w64 (fro66 + x70),N := x72.Running })) (fit1 ts_3 (by kernel_rfl)) rfl (by kernel_rfl) (by kernel_rfl) ?_
  refine r_done ⟨rfl,k_b rfl (le_w [false,true,false,true,true]),?_⟩
  refine x_p rfl ?_
  refine v_done ?_
  refine x_e rfl ?_
  refine r_s 2 tt_ok (en_Entry ({ e3 with Tick := tic55,Cell := cel28,Epoch := epo42,From := w64 (fro66 - 1),Until := w64 ((w64 (fro66 + x70)) + x79),N := x72.Running })) (fit1 ts_3 (by kernel_rfl)) rfl (by kernel_rfl) (by kernel_rfl) ?_
  refine r_done ⟨rfl,k_b rfl (le_w [false,true,false,true,true]),?_⟩
  refine x_k [(7,.pointer (some ⟨bq3,0,none⟩)),(8,.pointer (some ⟨bq4,0,none⟩))] (by kernel_rfl) fun fr => ?_
  refine r_done ?_
  refine r_ld 2 tt_ok (v := .int .i64 (w64 (fro66 - 1))) ts_3 rfl (by kernel_rfl) ?_
  refine r_s 2 tt_ok (en_Entry ({ e3 with Tick := tic55,Cell := cel28,Epoch := epo42,From := mx 0 (w64 (fro66 - 1)),Until := w64 ((w64 (fro66 + x70)) + x79),N := x72.Running })) (fit1 ts_3 (by kernel_rfl)) rfl (by kernel_rfl) (by kernel_rfl) ?_
  refine r_done ?_
  refine r_bind ?_
  refine r_ldn 2 tt_ok (en_Entry ({ e3 with Tick := tic55,Cell := cel28,Epoch := epo42,From := mx 0 (w64 (fro66 - 1)),Until := w64 ((w64 (fro66 + x70)) + x79),N := x72.Running })) ta_45 rfl (by kernel_rfl) (by kernel_rfl) ?_
  refine r_s 1 tt_ok (en_Entry ({ e3 with Tick := tic55,Cell := cel28,Epoch := epo42,From := mx 0 (w64 (fro66 - 1)),Until := w64 ((w64 (fro66 + x70)) + x79),N := x72.Running })) (fitn ta_45 (by kernel_rfl)) rfl (by kernel_rfl) (by kernel_rfl) ?_
  refine r_done ?_
  repeat refine r_done ?_
  repeat refine r_done ?_
  obtain rfl := h_out h
  exact ret_of (rv_cell 1 tt_ok (by kernel_rfl) ta_45 rfl rfl RV.nil) (le_w [true,false,false,false,false]) ⟨rfl,rfl⟩
 ·replace h := h_f h hb77
  clear hb77
  refine r_done ?_
  refine r_bind ?_
  refine r_ldn 2 tt_ok (en_Entry ({ e3 with Tick := tic55,Cell := cel28,Epoch := epo42,From := fro66,Until := w64 (fro66 + x70),N := x72.Running })) ta_45 rfl (by kernel_rfl) (by kernel_rfl) ?_
  refine r_s 1 tt_ok (en_Entry ({ e3 with Tick := tic55,Cell := cel28,Epoch := epo42,From := fro66,Until := w64 (fro66 + x70),N := x72.Running })) (fitn ta_45 (by kernel_rfl)) rfl (by kernel_rfl) (by kernel_rfl) ?_
  refine r_done ?_
  repeat refine r_done ?_
  repeat refine r_done ?_
  obtain rfl := h_out h
  exact ret_of (rv_cell 1 tt_ok (by kernel_rfl) ta_45 rfl rfl RV.nil) (le_w [true,false,false,false,false]) ⟨rfl,rfl⟩
theorem hc_25 {ρ : Addr → Option Value} {L : List Ent} {bt0 : Nat} {g_t0 : gcellplanemake_Tape} {g_c1 : gConfig} {g_s2 : gState} {S_t0 : St} (hS_t0 : Le ⟨ρ,L⟩ S_t0) {S_c1 : St} (hS_c1 : Le ⟨ρ,L⟩ S_c1) {S_s2 : St} (hS_s2 : Le ⟨ρ,L⟩ S_s2) (t0 : cellplanemake_Tape) (c1 : Config) (s2 : State) (h_t0 : Sl_cellplanemake_Tape S_t0 t0 g_t0) (h_c1 : Sl_Config S_c1 c1 g_c1) (h_s2 : Sl_State S_s2 s2 g_s2) {r : (Entry × Int)} (h : cellplanemake_Entry t0 c1 s2 = some r) : HC Try.prog 25 #[.pointer (some ⟨bt0,0,none⟩),.agg (en_Config c1 g_c1).toArray,.agg (en_State s2 g_s2).toArray] ⟨ρ,.obj bt0 (en_cellplanemake_Tape t0 g_t0) 73 :: L⟩ (fun v S' => v = .agg (en_Entry r.1).toArray ∧ S' = ⟨ρ,.obj bt0 (en_cellplanemake_Tape ({ t0 with At := r.2 }) g_t0) 73 :: L⟩) := by
 replace h := h_in h
 refine HC.intro (N := 126) (args := [_,_,_]) tt_ok Try.func25 rfl (by decide +kernel) rfl (Nat.le_of_ble_eq_true rfl) ?_
 refine r_bind ?_
 refine r_bx (en_Config c1 g_c1) (by kernel_rfl) fun bq1 => ?_
 refine r_bx (en_State s2 g_s2) (by kernel_rfl) fun bq2 => ?_
 refine r_al tt_ok (en_Entry (⟨0,0,0,0,0,0,0,0,0⟩ : Entry)) ti_45 (by kernel_rfl) fun bq3 => ?_
 refine r_done ?_
 refine r_bind ?_
 refine r_mix tt_ok hm_ok _ _ [] (.pure 0 (.vb 1 (.pure 2 (.eff 3 (.pure 4 (.pure 5 .nil)))))) (le_w [true,true,true,false]) (le_w [true,true,true,false]) ?_ ?_
 ·decide +kernel
 refine x_p rfl ?_
 refine v_done ?_
 refine x_vb rfl ?_
 refine v_ld 1 tt_ok (v := .int .i64 s2.Tick) ts_3 rfl (by kernel_rfl) ?_
 refine v_done ?_
 refine x_p rfl ?_
 refine v_done ?_
 refine x_e rfl ?_
 refine r_le (le_mv 3) ?_
 replace h := h_b h; obtain ⟨⟨x5,x6⟩,hx4,h⟩ := h
 refine r_call (hc_20 (bt0 := bt0) (g_t0 := g_t0) (t0 := t0) (n1 := 4) (hS_t0 := by exact (le_d 3).trans hS_t0) (h_t0 := by exact h_t0) (h := hx4)) ?_
 rintro _ _ ⟨rfl,rfl⟩
 refine r_done ⟨rfl,k_a (le_w [false,true,true,true]) (le_w [false,true,true,true]),?_⟩
 refine x_p rfl ?_
 refine v_num (e' := w64 (s2.Tick + x5)) rfl ?_
 refine v_done ?_
 refine x_p rfl ?_
 refine v_done ?_
 refine x_k [(0,.pointer (some ⟨bt0,0,none⟩)),(4,.pointer (some ⟨bq1,0,none⟩)),(5,.pointer (some ⟨bq2,0,none⟩)),(6,.pointer (some ⟨bq3,0,none⟩)),(7,.int .i64 (w64 (s2.Tick + x5)))] (by kernel_rfl) fun fr => ?_
 refine r_done ?_
 refine r_bind ?_
 replace h := h_j h; obtain ⟨K13,h,hK14⟩ := h
 refine r_meet (fun fr S => ∃ (x11 : Int),∃ (at12 : Int),∃ fr0,K13 (x11,at12) = some r ∧ fr = updL [(0,.pointer (some ⟨bt0,0,none⟩)),(4,.pointer (some ⟨bq1,0,none⟩)),(5,.pointer (some ⟨bq2,0,none⟩)),(6,.pointer (some ⟨bq3,0,none⟩)),(7,.int .i64 x11)] fr0 ∧ S = ⟨ρ,.obj bt0 (en_cellplanemake_Tape ({ t0 with At := at12 }) g_t0) 73 :: .obj bq3 (en_Entry (⟨0,0,0,0,0,0,0,0,0⟩ : Entry)) 45 :: .obj bq2 (en_State s2 g_s2) 36 :: .obj bq1 (en_Config c1 g_c1) 30 :: L⟩) ?_ ?_
 ·refine r_bind ?_
  replace h := h_b h; obtain ⟨⟨x8,x9⟩,hx7,h⟩ := h
  refine r_call (hc_22 (bt0 := bt0) (g_t0 := g_t0) (t0 := { t0 with At := x6 }) (n1 := 20) (hS_t0 := by exact (le_d 3).trans hS_t0) (h_t0 := by exact h_t0) (h := hx7)) ?_
  rintro _ _ ⟨rfl,rfl⟩
  refine r_done ?_
  refine r_ite (fun hb10 => ?_) (fun hb10 => ?_)
  ·replace h := h_t h hb10
   clear hb10
   refine r_ld 2 tt_ok (v := .int .i64 s2.Tick) ts_3 rfl (by kernel_rfl) ?_
   refine r_num (e' := w64 (s2.Tick - 1)) rfl ?_
   refine r_keep [(0,.pointer (some ⟨bt0,0,none⟩)),(4,.pointer (some ⟨bq1,0,none⟩)),(5,.pointer (some ⟨bq2,0,none⟩)),(6,.pointer (some ⟨bq3,0,none⟩)),(7,.int .i64 (mx 0 (w64 (s2.Tick - 1))))] (by kernel_rfl) fun fr => ?_
   exact r_done ⟨mx 0 (w64 (s2.Tick - 1)),x9,_,h,fr_eq _ (by kernel_rfl),(by kernel_rfl)⟩
  ·replace h := h_f h hb10
   clear hb10
   exact r_done ⟨w64 (s2.Tick + x5),x9,_,h,fr_eq _ (by kernel_rfl),(by kernel_rfl)⟩
 clear h
 rintro fr S ⟨x11,at12,fr,h,rfl,rfl⟩
 replace h := hK14 _ h
 refine r_done ?_
 refine r_bind ?_
 refine r_bind ?_
 replace h := h_j h; obtain ⟨K21,h,hK22⟩ := h
 refine r_meet (fun fr S => ∃ (x19 : Bool),∃ (at20 : Int),∃ fr0,K21 (x19,at20) = some r ∧ fr = updL [(0,.pointer (some ⟨bt0,0,none⟩)),(4,.pointer (some ⟨bq1,0,none⟩)),(5,.pointer (some ⟨bq2,0,none⟩)),(6,.pointer (some ⟨bq3,0,none⟩)),(7,.int .i64 x11),(30,.bool x19)] fr0 ∧ S = ⟨ρ,.obj bt0 (en_cellplanemake_Tape ({ t0 with At := at20 }) g_t0) 73 :: .obj bq3 (en_Entry (⟨0,0,0,0,0,0,0,0,0⟩ : Entry)) 45 :: .obj bq2 (en_State s2 g_s2) 36 :: .obj bq1 (en_Config c1 g_c1) 30 :: L⟩) ?_ ?_
 ·refine r_ld 3 tt_ok (v := .slice g_c1.Tenants.1 c1.Tenants.length g_c1.Tenants.2) ts_27 rfl (by kernel_rfl) ?_
  refine r_kp [(0,.pointer (some ⟨bt0,0,none⟩)),(4,.pointer (some ⟨bq1,0,none⟩)),(5,.pointer (some ⟨bq2,0,none⟩)),(6,.pointer (some ⟨bq3,0,none⟩)),(7,.int .i64 x11),(24,.slice g_c1.Tenants.1 c1.Tenants.length g_c1.Tenants.2)] (by kernel_rfl) fun fr => ?_
  refine r_ite (fun (hb15 : (decide ((c1.Tenants.length : Int) = 0)) = true) => ?_) (fun (hb15 : (decide ((c1.Tenants.length : Int) = 0)) = false) => ?_)
  ·replace h := h_t h hb15
   clear hb15
   refine r_T rfl ?_
   refine r_T rfl ?_
   exact r_done ⟨true,at12,_,h,fr_eq _ (by kernel_rfl),(by kernel_rfl)⟩
  ·replace h := h_f h hb15
   clear hb15
   refine r_F rfl ?_
   replace h := h_b h; obtain ⟨⟨x17,x18⟩,hx16,h⟩ := h
   refine r_call (hc_22 (bt0 := bt0) (g_t0 := g_t0) (t0 := { t0 with At := at12 }) (n1 := 4) (hS_t0 := by exact (le_d 3).trans hS_t0) (h_t0 := by exact h_t0) (h := hx16)) ?_
   rintro _ _ ⟨rfl,rfl⟩
   exact r_done ⟨x17,x18,_,h,fr_eq _ (by kernel_rfl),(by kernel_rfl)⟩
 clear h
 rintro fr S ⟨x19,at20,fr,h,rfl,rfl⟩
 replace h := hK22 _ h
 refine r_done ?_
 refine r_ite (fun hb23 => ?_) (fun hb23 => ?_)
 ·replace h := h_t h hb23
  clear hb23
  refine r_bind ?_
  refine r_ldn 3 tt_ok (en_Config c1 g_c1) ta_30 rfl (by kernel_rfl) (by kernel_rfl) ?_
  refine r_ldn 2 tt_ok (en_State s2 g_s2) ta_36 rfl (by kernel_rfl) (by kernel_rfl) ?_
  replace h := h_b h; obtain ⟨⟨x25,x26⟩,hx24,h⟩ := h
  refine r_call (hc_31 (bt0 := bt0) (g_t0 := g_t0) (t0 := { t0 with At := at20 }) (g_c1 := g_c1) (c1 := c1) (g_s2 := g_s2) (s2 := s2) (tick3 := x11) (hS_t0 := by exact (le_d 3).trans hS_t0) (h_t0 := by exact h_t0) (hS_c1 := by exact (le_d 3).trans hS_c1) (h_c1 := by exact h_c1) (hS_s2 := by exact (le_d 3).trans hS_s2) (h_s2 := by exact h_s2) (h := hx24)) ?_
  rintro _ _ ⟨rfl,rfl⟩
  refine r_s 1 tt_ok (en_Entry x25) (fitn ta_45 (by kernel_rfl)) rfl (by kernel_rfl) (by kernel_rfl) ?_
  refine r_done ?_
  repeat refine r_done ?_
  repeat refine r_done ?_
  obtain rfl := h_out h
  exact ret_of (rv_cell 1 tt_ok (by kernel_rfl) ta_45 rfl rfl RV.nil) (le_w [true,false,false,false]) ⟨rfl,rfl⟩
 ·replace h := h_f h hb23
  clear hb23
  refine r_done ?_
  refine r_bind ?_
  refine r_ld 3 tt_ok (v := .slice g_c1.Tenants.1 c1.Tenants.length g_c1.Tenants.2) ts_27 rfl (by kernel_rfl) ?_
  replace h := h_b h; obtain ⟨⟨x28,x29⟩,hx27,h⟩ := h
  refine r_call (hc_20 (bt0 := bt0) (g_t0 := g_t0) (t0 := { t0 with At := at20 }) (n1 := (c1.Tenants.length : Int)) (hS_t0 := by exact (le_d 3).trans hS_t0) (h_t0 := by exact h_t0) (h := hx27)) ?_
  rintro _ _ ⟨rfl,rfl⟩
  refine r_done ?_
  refine r_bind ?_
  refine r_ld 2 tt_ok (v := .slice g_s2.Tenants.1 s2.Tenants.length g_s2.Tenants.2) ts_33 rfl (by kernel_rfl) ?_
  replace h := h_b h; obtain ⟨x30,hx31,h⟩ := h
  refine r_el hx31 ((h_s2.1).rd.mono ((le_d 4).trans hS_s2)) ?_
  refine r_kp [(0,.pointer (some ⟨bt0,0,none⟩)),(4,.pointer (some ⟨bq1,0,none⟩)),(5,.pointer (some ⟨bq2,0,none⟩)),(6,.pointer (some ⟨bq3,0,none⟩)),(7,.int .i64 x11),(8,.int .i64 x28),(44,.pointer (some ((adr g_s2.Tenants.1).add (x28.toNat * 12))))] (by kernel_rfl) fun fr => ?_
  refine r_len (E := eTenantState) tt_ok (en_TenantState x30) (idx_get hx31) ((h_s2.1).rd.mono ((le_d 4).trans hS_s2)) ta_50 rfl (pl0 _ _) (by kernel_rfl) (by kernel_rfl) ?_
  refine r_al tt_ok (en_TenantState (⟨false,false,0,0,0,0,0,(⟨0,0,0,0,0⟩ : Window)⟩ : TenantState)) ti_50 (by kernel_rfl) fun bq32 => ?_
  refine r_s 0 tt_ok (en_TenantState x30) (fitn ta_50 (by kernel_rfl)) rfl (by kernel_rfl) (by kernel_rfl) ?_
  refine r_done ?_
  refine r_bind ?_
  refine r_bind ?_
  refine r_ld 0 tt_ok (v := .bool x30.Placed) ts_4 rfl (by kernel_rfl) ?_
  refine r_done ?_
  refine r_ite (fun hb33 => ?_) (fun hb33 => ?_)
  ·replace h := h_t h hb33
   clear hb33
   refine r_bind ?_
   refine r_call (hc_32 (kind0 := 1) (tick1 := x11)) ?_
   rintro _ _ ⟨rfl,rfl⟩
   refine r_al tt_ok (en_Entry (⟨0,0,0,0,0,0,0,0,0⟩ : Entry)) ti_45 (by kernel_rfl) fun bq34 => ?_
   refine r_kp [(0,.pointer (some ⟨bt0,0,none⟩)),(4,.pointer (some ⟨bq1,0,none⟩)),(6,.pointer (some ⟨bq3,0,none⟩)),(8,.int .i64 x28),(10,.pointer (some ⟨bq34,0,none⟩)),(50,.agg (en_Entry (cellplanemake_none 1 x11)).toArray)] (by kernel_rfl) fun fr => ?_
   refine r_s 0 tt_ok (en_Entry (cellplanemake_none 1 x11)) (fitn ta_45 (by kernel_rfl)) rfl (by kernel_rfl) (by kernel_rfl) ?_
   refine r_done ?_
   refine r_bind ?_
   refine r_s 0 tt_ok (en_Entry ({ (cellplanemake_none 1 x11) with Tenant := x28 })) (fit1 ts_3 (by kernel_rfl)) rfl (by kernel_rfl) (by kernel_rfl) ?_
   refine r_done ?_
   refine r_bind ?_
   refine r_ldn 5 tt_ok (en_Config c1 g_c1) ta_30 rfl (by kernel_rfl) (by kernel_rfl) ?_
   replace h := h_b h; obtain ⟨xs36,hx35,h⟩ := h
   refine r_call (hc_34 (g_c0 := g_c1) (c0 := c1) (tenant1 := x28) (hS_c0 := by exact (le_d 6).trans hS_c1) (h_c0 := by exact h_c1) (h := hx35)) ?_
   rintro _ _ ⟨A37,c38,rfl,rfl⟩
   refine r_le (le_mv 3) ?_
   replace h := h_b h; obtain ⟨⟨x41,x42⟩,hx40,h⟩ := h
   refine r_call (hc_33 (bt0 := bt0) (g_t0 := g_t0) (t0 := { t0 with At := x29 }) (A_l1 := A37) (c_l1 := c38) (l1 := xs36) (hS_t0 := by exact (le_d 6).trans hS_t0) (h_t0 := by exact h_t0) (hS_l1 := by exact Le.refl _) (h_l1 := by exact sl_row 0 rfl) (h := hx40)) ?_
   rintro _ _ ⟨rfl,rfl⟩
   refine r_kp [(0,.pointer (some ⟨bt0,0,none⟩)),(4,.pointer (some ⟨bq1,0,none⟩)),(6,.pointer (some ⟨bq3,0,none⟩)),(8,.int .i64 x28),(10,.pointer (some ⟨bq34,0,none⟩)),(57,.int .i64 x41)] (by kernel_rfl) fun fr => ?_
   refine r_s 2 tt_ok (en_Entry ({ (cellplanemake_none 1 x11) with Tenant := x28,Cell := mx 0 x41 })) (fit1 ts_3 (by kernel_rfl)) rfl (by kernel_rfl) (by kernel_rfl) ?_
   refine r_done ?_
   refine r_bind ?_
   refine r_ldn 6 tt_ok (en_Config c1 g_c1) ta_30 rfl (by kernel_rfl) (by kernel_rfl) ?_
   refine r_ld 2 tt_ok (v := .int .i64 (mx 0 x41)) ts_3 rfl (by kernel_rfl) ?_
   replace h := h_b h; obtain ⟨xs44,hx43,h⟩ := h
   refine r_call (hc_35 (g_c0 := g_c1) (c0 := c1) (tenant1 := x28) (home2 := mx 0 x41) (hS_c0 := by exact (le_d 7).trans hS_c1) (h_c0 := by exact h_c1) (h := hx43)) ?_
   rintro _ _ ⟨A45,c46,rfl,rfl⟩
   refine r_kp [(6,.pointer (some ⟨bq3,0,none⟩)),(10,.pointer (some ⟨bq34,0,none⟩)),(60,.pointer (some ⟨bt0,0,none⟩)),(65,.slice A45 xs44.length c46)] (by kernel_rfl) fun fr => ?_
   refine r_le (le_mv 1) ?_
   replace h := h_b h; obtain ⟨⟨x49,x50⟩,hx48,h⟩ := h
   refine r_call (hc_33 (bt0 := bt0) (g_t0 := g_t0) (t0 := { t0 with At := x42 }) (A_l1 := A45) (c_l1 := c46) (l1 := xs44) (hS_t0 := by exact (le_d 7).trans hS_t0) (h_t0 := by exact h_t0) (hS_l1 := by exact Le.refl _) (h_l1 := by exact sl_row 0 rfl) (h := hx48)) ?_
   rintro _ _ ⟨rfl,rfl⟩
   refine r_s 3 tt_ok (en_Entry ({ (cellplanemake_none 1 x11) with Tenant := x28,Cell := mx 0 x41,Other := x49 })) (fit1 ts_3 (by kernel_rfl)) rfl (by kernel_rfl) (by kernel_rfl) ?_
   refine r_done ?_
   refine r_bind ?_
   refine r_ldn 3 tt_ok (en_Entry ({ (cellplanemake_none 1 x11) with Tenant := x28,Cell := mx 0 x41,Other := x49 })) ta_45 rfl (by kernel_rfl) (by kernel_rfl) ?_
   refine r_s 5 tt_ok (en_Entry ({ (cellplanemake_none 1 x11) with Tenant := x28,Cell := mx 0 x41,Other := x49 })) (fitn ta_45 (by kernel_rfl)) rfl (by kernel_rfl) (by kernel_rfl) ?_
   refine r_done ?_
   repeat refine r_done ?_
   repeat refine r_done ?_
   obtain rfl := h_out h
   exact ret_of (rv_cell 5 tt_ok (by kernel_rfl) ta_45 rfl rfl RV.nil) (le_w [true,false,false,false,false,false,false,false]) ⟨rfl,rfl⟩
  ·replace h := h_f h hb33
   clear hb33
   refine r_done ?_
   refine r_bind ?_
   refine r_call (hc_32 (kind0 := 2) (tick1 := x11)) ?_
   rintro _ _ ⟨rfl,rfl⟩
   refine r_al tt_ok (en_Entry (⟨0,0,0,0,0,0,0,0,0⟩ : Entry)) ti_45 (by kernel_rfl) fun bq51 => ?_
   refine r_kp [(0,.pointer (some ⟨bt0,0,none⟩)),(4,.pointer (some ⟨bq1,0,none⟩)),(5,.pointer (some ⟨bq2,0,none⟩)),(6,.pointer (some ⟨bq3,0,none⟩)),(8,.int .i64 x28),(9,.pointer (some ⟨bq32,0,none⟩)),(11,.pointer (some ⟨bq51,0,none⟩)),(70,.agg (en_Entry (cellplanemake_none 2 x11)).toArray)] (by kernel_rfl) fun fr => ?_
   refine r_s 0 tt_ok (en_Entry (cellplanemake_none 2 x11)) (fitn ta_45 (by kernel_rfl)) rfl (by kernel_rfl) (by kernel_rfl) ?_
   refine r_done ?_
   refine r_bind ?_
   refine r_s 0 tt_ok (en_Entry ({ (cellplanemake_none 2 x11) with Tenant := x28 })) (fit1 ts_3 (by kernel_rfl)) rfl (by kernel_rfl) (by kernel_rfl) ?_
   refine r_done ?_
   refine r_bind ?_
   refine r_bind ?_
   refine r_le (le_mv 2) ?_
   replace h := h_b h; obtain ⟨⟨x53,x54⟩,hx52,h⟩ := h
   refine r_call (hc_20 (bt0 := bt0) (g_t0 := g_t0) (t0 := { t0 with At := x29 }) (n1 := 12) (hS_t0 := by exact (le_d 5).trans hS_t0) (h_t0 := by exact h_t0) (h := hx52)) ?_
   rintro _ _ ⟨rfl,rfl⟩
   refine r_done ?_
   refine r_bind ?_
   refine r_bind ?_
   refine r_done ?_
   refine r_ite (fun hb55 => ?_) (fun hb55 => ?_)
   ·replace h := h_t h hb55
    clear hb55
    refine r_mix tt_ok hm_ok _ _ [] (.pure 0 (.vb 1 (.pure 2 (.pure 3 (.eff 4 (.pure 5 (.eff 6 .nil))))))) (le_w [true,false,true,true,true,true]) (le_w [true,false,true,true,true,true]) ?_ ?_
    ·decide +kernel
    refine x_p rfl ?_
    refine v_done ?_
    refine x_kp [(6,.pointer (some ⟨bq3,0,none⟩)),(11,.pointer (some ⟨bq51,0,none⟩)),(82,.pointer (some ⟨bq32,6,none⟩))] (by kernel_rfl) fun fr => ?_
    refine x_vb rfl ?_
    refine v_ld 1 tt_ok (v := .int .i64 x30.Epoch) ts_3 rfl (by kernel_rfl) ?_
    refine v_done ?_
    refine x_p rfl ?_
    refine v_done ?_
    refine x_p rfl ?_
    refine v_done ?_
    refine x_e rfl ?_
    refine r_s 1 tt_ok (en_Entry ({ (cellplanemake_none 2 x11) with Kind := 3,Tenant := x28 })) (fit1 ts_3 (by kernel_rfl)) rfl (by kernel_rfl) (by kernel_rfl) ?_
    refine r_done ⟨rfl,k_a (le_w [true,false,true,true,true,true]) (le_w [true,false,true,true,true,true]),?_⟩
    refine x_p rfl ?_
    refine v_done ?_
    refine x_e rfl ?_
    refine r_s 1 tt_ok (en_Entry ({ (cellplanemake_none 2 x11) with Kind := 3,Tenant := x28,Epoch := mx 1 x30.Epoch })) (fit1 ts_3 (by kernel_rfl)) rfl (by kernel_rfl) (by kernel_rfl) ?_
    refine r_done ⟨rfl,k_a (le_w [true,false,true,true,true,true]) (le_w [true,false,true,true,true,true]),?_⟩
    refine x_k [(6,.pointer (some ⟨bq3,0,none⟩)),(11,.pointer (some ⟨bq51,0,none⟩))] (by kernel_rfl) fun fr => ?_
    refine r_done ?_
    refine r_done ?_
    refine r_bind ?_
    refine r_ldn 1 tt_ok (en_Entry ({ (cellplanemake_none 2 x11) with Kind := 3,Tenant := x28,Epoch := mx 1 x30.Epoch })) ta_45 rfl (by kernel_rfl) (by kernel_rfl) ?_
    refine r_s 3 tt_ok (en_Entry ({ (cellplanemake_none 2 x11) with Kind := 3,Tenant := x28,Epoch := mx 1 x30.Epoch })) (fitn ta_45 (by kernel_rfl)) rfl (by kernel_rfl) (by kernel_rfl) ?_
    refine r_done ?_
    repeat refine r_done ?_
    repeat refine r_done ?_
    obtain rfl := h_out h
    exact ret_of (rv_cell 3 tt_ok (by kernel_rfl) ta_45 rfl rfl RV.nil) (le_w [true,false,false,false,false,false]) ⟨rfl,rfl⟩
   ·replace h := h_f h hb55
    clear hb55
    refine r_bind ?_
    refine r_keep [(0,.pointer (some ⟨bt0,0,none⟩)),(4,.pointer (some ⟨bq1,0,none⟩)),(5,.pointer (some ⟨bq2,0,none⟩)),(6,.pointer (some ⟨bq3,0,none⟩)),(8,.int .i64 x28),(9,.pointer (some ⟨bq32,0,none⟩)),(11,.pointer (some ⟨bq51,0,none⟩)),(74,.int .i64 x53),(87,.bool (decide (x53 = 1)))] (by kernel_rfl) fun fr => ?_
    refine r_done ?_
    refine r_ite (fun hb56 => ?_) (fun hb56 => ?_)
    ·replace h := h_t h hb56
     clear hb56
     refine r_ldn 5 tt_ok (en_Config c1 g_c1) ta_30 rfl (by kernel_rfl) (by kernel_rfl) ?_
     refine r_ld 2 tt_ok (v := .int .i64 x30.Home) ts_3 rfl (by kernel_rfl) ?_
     replace h := h_b h; obtain ⟨xs58,hx57,h⟩ := h
     refine r_call (hc_35 (g_c0 := g_c1) (c0 := c1) (tenant1 := x28) (home2 := x30.Home) (hS_c0 := by exact (le_d 6).trans hS_c1) (h_c0 := by exact h_c1) (h := hx57)) ?_
     rintro _ _ ⟨A59,c60,rfl,rfl⟩
     refine r_le (le_mv 1) ?_
     replace h := h_b h; obtain ⟨⟨x63,x64⟩,hx62,h⟩ := h
     refine r_call (hc_33 (bt0 := bt0) (g_t0 := g_t0) (t0 := { t0 with At := x54 }) (A_l1 := A59) (c_l1 := c60) (l1 := xs58) (hS_t0 := by exact (le_d 6).trans hS_t0) (h_t0 := by exact h_t0) (hS_l1 := by exact Le.refl _) (h_l1 := by exact sl_row 0 rfl) (h := hx62)) ?_
     rintro _ _ ⟨rfl,rfl⟩
     refine r_s 2 tt_ok (en_Entry ({ (cellplanemake_none 2 x11) with Kind := 4,Tenant := x28 })) (fit1 ts_3 (by kernel_rfl)) rfl (by kernel_rfl) (by kernel_rfl) ?_
     refine r_kp [(6,.pointer (some ⟨bq3,0,none⟩)),(11,.pointer (some ⟨bq51,0,none⟩)),(95,.int .i64 x63)] (by kernel_rfl) fun fr => ?_
     refine r_s 2 tt_ok (en_Entry ({ (cellplanemake_none 2 x11) with Kind := 4,Tenant := x28,Cell := x63 })) (fit1 ts_3 (by kernel_rfl)) rfl (by kernel_rfl) (by kernel_rfl) ?_
     refine r_done ?_
     refine r_done ?_
     refine r_bind ?_
     refine r_ldn 2 tt_ok (en_Entry ({ (cellplanemake_none 2 x11) with Kind := 4,Tenant := x28,Cell := x63 })) ta_45 rfl (by kernel_rfl) (by kernel_rfl) ?_
     refine r_s 4 tt_ok (en_Entry ({ (cellplanemake_none 2 x11) with Kind := 4,Tenant := x28,Cell := x63 })) (fitn ta_45 (by kernel_rfl)) rfl (by kernel_rfl) (by kernel_rfl) ?_
     refine r_done ?_
     repeat refine r_done ?_
     repeat refine r_done ?_
     obtain rfl := h_out h
     exact ret_of (rv_cell 4 tt_ok (by kernel_rfl) ta_45 rfl rfl RV.nil) (le_w [true,false,false,false,false,false,false]) ⟨rfl,rfl⟩
    ·replace h := h_f h hb56
     clear hb56
     refine r_bind ?_
     refine r_done ?_
     refine r_ite (fun hb65 => ?_) (fun hb65 => ?_)
     ·replace h := h_t h hb65
      clear hb65
      refine r_mix tt_ok hm_ok _ _ [] (.pure 0 (.vb 1 (.pure 2 (.pure 3 (.eff 4 (.pure 5 (.eff 6 .nil))))))) (le_w [true,false,true,true,true,true]) (le_w [true,false,true,true,true,true]) ?_ ?_
      ·decide +kernel
      refine x_p rfl ?_
      refine v_done ?_
      refine x_vb rfl ?_
      refine v_ld 1 tt_ok (v := .int .i64 x30.Next) ts_3 rfl (by kernel_rfl) ?_
      refine v_done ?_
      refine x_p rfl ?_
      refine v_done ?_
      refine x_p rfl ?_
      refine v_done ?_
      refine x_e rfl ?_
      refine r_s 1 tt_ok (en_Entry ({ (cellplanemake_none 2 x11) with Kind := 5,Tenant := x28 })) (fit1 ts_3 (by kernel_rfl)) rfl (by kernel_rfl) (by kernel_rfl) ?_
      refine r_done ⟨rfl,k_a (le_w [true,false,true,true,true,true]) (le_w [true,false,true,true,true,true]),?_⟩
      refine x_p rfl ?_
      refine v_done ?_
      refine x_e rfl ?_
      refine r_s 1 tt_ok (en_Entry ({ (cellplanemake_none 2 x11) with Kind := 5,Tenant := x28,Cell := mx 0 x30.Next })) (fit1 ts_3 (by kernel_rfl)) rfl (by kernel_rfl) (by kernel_rfl) ?_
      refine r_done ⟨rfl,k_a (le_w [true,false,true,true,true,true]) (le_w [true,false,true,true,true,true]),?_⟩
      refine x_k [(6,.pointer (some ⟨bq3,0,none⟩)),(11,.pointer (some ⟨bq51,0,none⟩))] (by kernel_rfl) fun fr => ?_
      refine r_done ?_
      refine r_done ?_
      refine r_bind ?_
      refine r_ldn 1 tt_ok (en_Entry ({ (cellplanemake_none 2 x11) with Kind := 5,Tenant := x28,Cell := mx 0 x30.Next })) ta_45 rfl (by kernel_rfl) (by kernel_rfl) ?_
      refine r_s 3 tt_ok (en_Entry ({ (cellplanemake_none 2 x11) with Kind := 5,Tenant := x28,Cell := mx 0 x30.Next })) (fitn ta_45 (by kernel_rfl)) rfl (by kernel_rfl) (by kernel_rfl) ?_
      refine r_done ?_
      repeat refine r_done ?_
      repeat refine r_done ?_
      obtain rfl := h_out h
      exact ret_of (rv_cell 3 tt_ok (by kernel_rfl) ta_45 rfl rfl RV.nil) (le_w [true,false,false,false,false,false]) ⟨rfl,rfl⟩
     ·replace h := h_f h hb65
      clear hb65
      refine r_bind ?_
      refine r_done ?_
      refine r_ite (fun hb66 => ?_) (fun hb66 => ?_)
      ·replace h := h_t h hb66
       clear hb66
       refine r_ldn 5 tt_ok (en_Config c1 g_c1) ta_30 rfl (by kernel_rfl) (by kernel_rfl) ?_
       replace h := h_b h; obtain ⟨xs68,hx67,h⟩ := h
       refine r_call (hc_34 (g_c0 := g_c1) (c0 := c1) (tenant1 := x28) (hS_c0 := by exact (le_d 6).trans hS_c1) (h_c0 := by exact h_c1) (h := hx67)) ?_
       rintro _ _ ⟨A69,c70,rfl,rfl⟩
       refine r_le (le_mv 1) ?_
       replace h := h_b h; obtain ⟨⟨x73,x74⟩,hx72,h⟩ := h
       refine r_call (hc_33 (bt0 := bt0) (g_t0 := g_t0) (t0 := { t0 with At := x54 }) (A_l1 := A69) (c_l1 := c70) (l1 := xs68) (hS_t0 := by exact (le_d 6).trans hS_t0) (h_t0 := by exact h_t0) (hS_l1 := by exact Le.refl _) (h_l1 := by exact sl_row 0 rfl) (h := hx72)) ?_
       rintro _ _ ⟨rfl,rfl⟩
       refine r_kp [(6,.pointer (some ⟨bq3,0,none⟩)),(11,.pointer (some ⟨bq51,0,none⟩)),(111,.int .i64 x73)] (by kernel_rfl) fun fr => ?_
       refine r_s 2 tt_ok (en_Entry ({ (cellplanemake_none 2 x11) with Kind := 6,Tenant := x28 })) (fit1 ts_3 (by kernel_rfl)) rfl (by kernel_rfl) (by kernel_rfl) ?_
       refine r_s 2 tt_ok (en_Entry ({ (cellplanemake_none 2 x11) with Kind := 6,Tenant := x28,Cell := mx 0 x73 })) (fit1 ts_3 (by kernel_rfl)) rfl (by kernel_rfl) (by kernel_rfl) ?_
       refine r_done ?_
       refine r_done ?_
       refine r_bind ?_
       refine r_ldn 2 tt_ok (en_Entry ({ (cellplanemake_none 2 x11) with Kind := 6,Tenant := x28,Cell := mx 0 x73 })) ta_45 rfl (by kernel_rfl) (by kernel_rfl) ?_
       refine r_s 4 tt_ok (en_Entry ({ (cellplanemake_none 2 x11) with Kind := 6,Tenant := x28,Cell := mx 0 x73 })) (fitn ta_45 (by kernel_rfl)) rfl (by kernel_rfl) (by kernel_rfl) ?_
       refine r_done ?_
       repeat refine r_done ?_
       repeat refine r_done ?_
       obtain rfl := h_out h
       exact ret_of (rv_cell 4 tt_ok (by kernel_rfl) ta_45 rfl rfl RV.nil) (le_w [true,false,false,false,false,false,false]) ⟨rfl,rfl⟩
      ·replace h := h_f h hb66
       clear hb66
       refine r_bind ?_
       refine r_done ?_
       refine r_ite (fun hb75 => ?_) (fun hb75 => ?_)
       ·replace h := h_t h hb75
        clear hb75
        refine r_s 1 tt_ok (en_Entry ({ (cellplanemake_none 2 x11) with Kind := 7,Tenant := x28 })) (fit1 ts_3 (by kernel_rfl)) rfl (by kernel_rfl) (by kernel_rfl) ?_
        refine r_done ?_
        refine r_done ?_
        refine r_bind ?_
        refine r_ldn 1 tt_ok (en_Entry ({ (cellplanemake_none 2 x11) with Kind := 7,Tenant := x28 })) ta_45 rfl (by kernel_rfl) (by kernel_rfl) ?_
        refine r_kp [(6,.pointer (some ⟨bq3,0,none⟩)),(125,.agg (en_Entry ({ (cellplanemake_none 2 x11) with Kind := 7,Tenant := x28 })).toArray)] (by kernel_rfl) fun fr => ?_
        refine r_s 3 tt_ok (en_Entry ({ (cellplanemake_none 2 x11) with Kind := 7,Tenant := x28 })) (fitn ta_45 (by kernel_rfl)) rfl (by kernel_rfl) (by kernel_rfl) ?_
        refine r_done ?_
        repeat refine r_done ?_
        repeat refine r_done ?_
        obtain rfl := h_out h
        exact ret_of (rv_cell 3 tt_ok (by kernel_rfl) ta_45 rfl rfl RV.nil) (le_w [true,false,false,false,false,false]) ⟨rfl,rfl⟩
       ·replace h := h_f h hb75
        clear hb75
        refine r_bind ?_
        refine r_done ?_
        refine r_ite (fun hb76 => ?_) (fun hb76 => ?_)
        ·replace h := h_t h hb76
         clear hb76
         refine r_bind ?_
         refine r_s 1 tt_ok (en_Entry ({ (cellplanemake_none 2 x11) with Kind := 8,Tenant := x28 })) (fit1 ts_3 (by kernel_rfl)) rfl (by kernel_rfl) (by kernel_rfl) ?_
         refine r_kp [(6,.pointer (some ⟨bq3,0,none⟩)),(9,.pointer (some ⟨bq32,0,none⟩)),(11,.pointer (some ⟨bq51,0,none⟩))] (by kernel_rfl) fun fr => ?_
         refine r_s 1 tt_ok (en_Entry ({ (cellplanemake_none 2 x11) with Kind := 8,Tenant := x28,N := 1 })) (fit1 ts_3 (by kernel_rfl)) rfl (by kernel_rfl) (by kernel_rfl) ?_
         refine r_done ?_
         refine r_bind ?_
         refine r_ld 2 tt_ok (v := .bool x30.Shed) ts_4 rfl (by kernel_rfl) ?_
         refine r_done ?_
         refine r_ite (fun hb77 => ?_) (fun hb77 => ?_)
         ·replace h := h_t h hb77
          clear hb77
          refine r_s 1 tt_ok (en_Entry ({ (cellplanemake_none 2 x11) with Kind := 8,Tenant := x28,N := 0 })) (fit1 ts_3 (by kernel_rfl)) rfl (by kernel_rfl) (by kernel_rfl) ?_
          refine r_done ?_
          refine r_done ?_
          refine r_bind ?_
          refine r_ldn 1 tt_ok (en_Entry ({ (cellplanemake_none 2 x11) with Kind := 8,Tenant := x28,N := 0 })) ta_45 rfl (by kernel_rfl) (by kernel_rfl) ?_
          refine r_s 3 tt_ok (en_Entry ({ (cellplanemake_none 2 x11) with Kind := 8,Tenant := x28,N := 0 })) (fitn ta_45 (by kernel_rfl)) rfl (by kernel_rfl) (by kernel_rfl) ?_
          refine r_done ?_
          repeat refine r_done ?_
          repeat refine r_done ?_
          obtain rfl := h_out h
          exact ret_of (rv_cell 3 tt_ok (by kernel_rfl) ta_45 rfl rfl RV.nil) (le_w [true,false,false,false,false,false]) ⟨rfl,rfl⟩
         ·replace h := h_f h hb77
          clear hb77
          refine r_done ?_
          refine r_done ?_
          refine r_bind ?_
          refine r_ldn 1 tt_ok (en_Entry ({ (cellplanemake_none 2 x11) with Kind := 8,Tenant := x28,N := 1 })) ta_45 rfl (by kernel_rfl) (by kernel_rfl) ?_
          refine r_s 3 tt_ok (en_Entry ({ (cellplanemake_none 2 x11) with Kind := 8,Tenant := x28,N := 1 })) (fitn ta_45 (by kernel_rfl)) rfl (by kernel_rfl) (by kernel_rfl) ?_
          refine r_done ?_
          repeat refine r_done ?_
          repeat refine r_done ?_
          obtain rfl := h_out h
          exact ret_of (rv_cell 3 tt_ok (by kernel_rfl) ta_45 rfl rfl RV.nil) (le_w [true,false,false,false,false,false]) ⟨rfl,rfl⟩
        ·replace h := h_f h hb76
         clear hb76
         refine r_bind ?_
         refine r_ldn 5 tt_ok (en_Config c1 g_c1) ta_30 rfl (by kernel_rfl) (by kernel_rfl) ?_
         refine r_kp [(5,.pointer (some ⟨bq2,0,none⟩)),(6,.pointer (some ⟨bq3,0,none⟩)),(11,.pointer (some ⟨bq51,0,none⟩)),(75,.pointer (some ⟨bt0,0,none⟩)),(76,.agg (en_Config c1 g_c1).toArray)] (by kernel_rfl) fun fr => ?_
         refine r_ldn 4 tt_ok (en_State s2 g_s2) ta_36 rfl (by kernel_rfl) (by kernel_rfl) ?_
         refine r_ldn 1 tt_ok (en_Entry ({ (cellplanemake_none 2 x11) with Tenant := x28 })) ta_45 rfl (by kernel_rfl) (by kernel_rfl) ?_
         replace h := h_b h; obtain ⟨⟨x79,x80⟩,hx78,h⟩ := h
         refine r_call (hc_36 (bt0 := bt0) (g_t0 := g_t0) (t0 := { t0 with At := x54 }) (g_c1 := g_c1) (c1 := c1) (g_s2 := g_s2) (s2 := s2) (e3 := { (cellplanemake_none 2 x11) with Tenant := x28 }) (hS_t0 := by exact (le_d 5).trans hS_t0) (h_t0 := by exact h_t0) (hS_c1 := by exact (le_d 5).trans hS_c1) (h_c1 := by exact h_c1) (hS_s2 := by exact (le_d 5).trans hS_s2) (h_s2 := by exact h_s2) (h := hx78)) ?_
         rintro _ _ ⟨rfl,rfl⟩
         refine r_s 3 tt_ok (en_Entry x79) (fitn ta_45 (by kernel_rfl)) rfl (by kernel_rfl) (by kernel_rfl) ?_
         refine r_done ?_
         repeat refine r_done ?_
         repeat refine r_done ?_
         obtain rfl := h_out h
         exact ret_of (rv_cell 3 tt_ok (by kernel_rfl) ta_45 rfl rfl RV.nil) (le_w [true,false,false,false,false,false]) ⟨rfl,rfl⟩
theorem hc_37 {ρ : Addr → Option Value} {L : List Ent} {g_c0 : gConfig} {g_x1 : gState} {S_c0 : St} (hS_c0 : Le ⟨ρ,L⟩ S_c0) {S_x1 : St} (hS_x1 : Le ⟨ρ,L⟩ S_x1) (c0 : Config) (x1 : State) (h_c0 : Sl_Config S_c0 c0 g_c0) (h_x1 : Sl_State S_x1 x1 g_x1) {r : Bool} (h : cellplanelaw12_capacity c0 x1 = some r) : HC Try.prog 37 #[.agg (en_Config c0 g_c0).toArray,.agg (en_State x1 g_x1).toArray] ⟨ρ,L⟩ (fun v S' => v = .bool r ∧ S' = ⟨ρ,L⟩) := by
 replace h := h_in h
 refine HC.intro (N := 33) (args := [_,_]) tt_ok Try.func37 rfl (by decide +kernel) rfl (Nat.le_of_ble_eq_true rfl) ?_
 refine r_bind ?_
 refine r_bx (en_Config c0 g_c0) (by kernel_rfl) fun bq1 => ?_
 refine r_bx (en_State x1 g_x1) (by kernel_rfl) fun bq2 => ?_
 refine r_done ?_
 refine r_bind ?_
 refine r_ldn 1 tt_ok (en_Config c0 g_c0) ta_30 rfl (by kernel_rfl) (by kernel_rfl) ?_
 refine r_ldn 0 tt_ok (en_State x1 g_x1) ta_36 rfl (by kernel_rfl) (by kernel_rfl) ?_
 replace h := h_b h; obtain ⟨xs4,hx3,h⟩ := h
 refine r_call (hc_64 (g_c0 := g_c0) (c0 := c0) (g_s1 := g_x1) (s1 := x1) (hS_c0 := by exact (le_d 2).trans hS_c0) (h_c0 := by exact h_c0) (hS_s1 := by exact (le_d 2).trans hS_x1) (h_s1 := by exact h_x1) (h := hx3)) ?_
 rintro _ _ ⟨A5,c6,rfl,rfl⟩
 refine r_done ?_
 refine r_bind ?_
 refine r_bind ?_
 refine r_ld 2 tt_ok (v := .slice g_c0.Cells.1 c0.Cells.length g_c0.Cells.2) ts_26 rfl (by kernel_rfl) ?_
 refine r_kp [(2,.pointer (some ⟨bq1,0,none⟩)),(5,.slice A5 xs4.length c6),(11,.int .i64 (xs4.length : Int)),(13,.slice g_c0.Cells.1 c0.Cells.length g_c0.Cells.2)] (by kernel_rfl) fun fr => ?_
 refine r_done ?_
 refine r_ite (fun hb8 => ?_) (fun hb8 => ?_)
 ·replace h := h_t h hb8
  clear hb8
  refine r_bind ?_
  refine r_done ?_
  repeat refine r_done ?_
  repeat refine r_done ?_
  obtain rfl := h_out h
  exact ret_of (RV.tmp RV.nil) (le_w [false,false,false]) ⟨rfl,rfl⟩
 ·replace h := h_f h hb8
  clear hb8
  refine r_done ?_
  refine r_bind ?_
  refine r_bind ?_
  refine r_done ?_
  refine r_bind ?_
  replace h := h_l h; obtain ⟨K30,n31,h,hK32⟩ := h
  refine r_le (le_w [true,false,true]) ?_
  refine r_loop (fun n fr S => ∃ (x23 : Int),∃ fr0,(runN (cellplanelaw12_capacity.b1 xs4 c0) n x23).bind K30 = some r ∧ fr = updL [(2,.pointer (some ⟨bq1,0,none⟩)),(5,.slice A5 xs4.length c6),(6,.int .i64 x23)] fr0 ∧ S = ⟨ρ,.row A5 xs4.length c6 3 1 (fl eI64.en xs4) :: .obj bq1 (en_Config c0 g_c0) 30 :: L⟩) n31 ⟨0,_,h,fr_eq _ (by kernel_rfl),(by kernel_rfl)⟩ ?_
  clear h
  rintro n31 fr S ⟨x23,fr,h,rfl,rfl⟩
  replace h := h_r h; obtain ⟨m33,hm33,h⟩ := h
  refine r_bind ?_
  refine r_bind ?_
  refine r_done ?_
  refine r_ite (fun hb24 => ?_) (fun hb24 => ?_)
  ·replace h := h_t h hb24
   clear hb24
   refine r_done ?_
   refine r_bind ?_
   refine r_bind ?_
   refine r_bind ?_
   refine r_mix tt_ok hm_ok _ _ [] (.pure 0 (.pure 1 (.vb 2 (.vb 3 (.pure 4 (.vb 5 (.pure 6 (.vb 7 (.pure 8 (.vb 9 (.pure 10 .nil))))))))))) (le_w [true,true]) (le_w [true,true]) ?_ ?_
   ·decide +kernel
   refine x_p rfl ?_
   refine v_done ?_
   refine x_p rfl ?_
   refine v_done ?_
   refine x_vb rfl ?_
   replace h := h_b h; obtain ⟨x25,hx26,h⟩ := h
   refine v_el hx26 (rd_row 0 rfl) ?_
   refine v_done ?_
   refine x_vb rfl ?_
   refine v_lec (E := eI64) tt_ok (v := .int .i64 x25) (idx_get hx26) (rd_row 0 rfl) ts_3 rfl (pl0 _ _) (by kernel_rfl) ?_
   refine v_done ?_
   refine x_p rfl ?_
   refine v_done ?_
   refine x_kp [(2,.pointer (some ⟨bq1,0,none⟩)),(5,.slice A5 xs4.length c6),(6,.int .i64 x23),(25,.int .i64 x25),(26,.pointer (some ⟨bq1,2,none⟩))] (by kernel_rfl) fun fr => ?_
   refine x_vb rfl ?_
   refine v_ld 1 tt_ok (v := .slice g_c0.Cells.1 c0.Cells.length g_c0.Cells.2) ts_26 rfl (by kernel_rfl) ?_
   refine v_done ?_
   refine x_p rfl ?_
   refine v_done ?_
   refine x_vb rfl ?_
   replace h := h_b h; obtain ⟨x27,hx28,h⟩ := h
   refine v_el hx28 ((h_c0.2.1).rd.mono ((le_d 2).trans hS_c0)) ?_
   refine v_done ?_
   refine x_p rfl ?_
   refine v_done ?_
   refine x_vb rfl ?_
   refine v_lec (E := eCell) tt_ok (v := .int .i64 x27.Capacity) (idx_get hx28) ((h_c0.2.1).rd.mono ((le_d 2).trans hS_c0)) ts_3 rfl (pl1 _ _ _) (by kernel_rfl) ?_
   refine v_done ?_
   refine x_p rfl ?_
   refine v_done ?_
   refine x_k [(2,.pointer (some ⟨bq1,0,none⟩)),(5,.slice A5 xs4.length c6),(6,.int .i64 x23),(32,.bool (decide (x27.Capacity < x25)))] (by kernel_rfl) fun fr => ?_
   refine r_done ?_
   refine r_ite (fun hb29 => ?_) (fun hb29 => ?_)
   ·replace h := h_t h hb29
    clear hb29
    refine r_bind ?_
    refine r_done ?_
    repeat refine r_done ?_
    replace h := h_m h
    subst hK32
    repeat refine r_done ?_
    obtain rfl := h_out h
    exact ret_of (RV.tmp RV.nil) (le_w [false,false]) ⟨rfl,rfl⟩
   ·replace h := h_f h hb29
    clear hb29
    refine r_done ?_
    refine r_done ?_
    refine r_num (e' := w64 (x23 + 1)) rfl ?_
    exact r_done ⟨m33,lt_s hm33,w64 (x23 + 1),_,h,fr_eq _ (by kernel_rfl),(by kernel_rfl)⟩
  ·replace h := h_f h hb24
   clear hb24
   refine r_done ?_
   refine r_done ?_
   replace h := h_m h
   subst hK32
   refine r_done ?_
   refine r_bind ?_
   refine r_done ?_
   repeat refine r_done ?_
   repeat refine r_done ?_
   obtain rfl := h_out h
   exact ret_of (RV.tmp RV.nil) (le_w [false,false]) ⟨rfl,rfl⟩
theorem hc_38 {ρ : Addr → Option Value} {L : List Ent} {g_c0 : gConfig} {g_x1 : gState} {S_c0 : St} (hS_c0 : Le ⟨ρ,L⟩ S_c0) {S_x1 : St} (hS_x1 : Le ⟨ρ,L⟩ S_x1) (c0 : Config) (x1 : State) (h_c0 : Sl_Config S_c0 c0 g_c0) (h_x1 : Sl_State S_x1 x1 g_x1) {r : Bool} (h : cellplanelaw12_versions c0 x1 = some r) : HC Try.prog 38 #[.agg (en_Config c0 g_c0).toArray,.agg (en_State x1 g_x1).toArray] ⟨ρ,L⟩ (fun v S' => v = .bool r ∧ S' = ⟨ρ,L⟩) := by
 replace h := h_in h
 refine HC.intro (N := 109) (args := [_,_]) tt_ok Try.func38 rfl (by decide +kernel) rfl (Nat.le_of_ble_eq_true rfl) ?_
 refine r_bind ?_
 refine r_bx (en_Config c0 g_c0) (by kernel_rfl) fun bq1 => ?_
 refine r_bx (en_State x1 g_x1) (by kernel_rfl) fun bq2 => ?_
 refine r_done ?_
 refine r_bind ?_
 refine r_done ?_
 refine r_bind ?_
 replace h := h_k h; obtain ⟨K170,h,hK171⟩ := h
 refine r_meet (fun fr S => ∃ (x169 : Int),∃ fr0,(cellplanelaw12_versions.j1 c0 x1 x169).bind K170 = some r ∧ fr = updL [(2,.pointer (some ⟨bq1,0,none⟩)),(3,.pointer (some ⟨bq2,0,none⟩)),(5,.int .i64 x169)] fr0 ∧ S = ⟨ρ,.obj bq2 (en_State x1 g_x1) 36 :: .obj bq1 (en_Config c0 g_c0) 30 :: L⟩) ?_ ?_
 ·refine r_bind ?_
  refine r_done ?_
  refine r_bind ?_
  replace h := h_l h; obtain ⟨K165,n166,h,hK167⟩ := h
  refine r_loop (fun n fr S => ∃ (x111 : Int),∃ (x112 : Int),∃ fr0,(runN (cellplanelaw12_versions.b2 x1 c0) n (x111,x112)).bind K165 = some r ∧ fr = updL [(2,.pointer (some ⟨bq1,0,none⟩)),(3,.pointer (some ⟨bq2,0,none⟩)),(5,.int .i64 x111),(6,.int .i64 x112)] fr0 ∧ S = ⟨ρ,.obj bq2 (en_State x1 g_x1) 36 :: .obj bq1 (en_Config c0 g_c0) 30 :: L⟩) n166 ⟨0,0,_,h,fr_eq _ (by kernel_rfl),(by kernel_rfl)⟩ ?_
  clear h
  rintro n166 fr S ⟨x111,x112,fr,h,rfl,rfl⟩
  replace h := h_r h; obtain ⟨m168,hm168,h⟩ := h
  refine r_bind ?_
  refine r_bind ?_
  refine r_ld 0 tt_ok (v := .slice g_x1.Cells.1 x1.Cells.length g_x1.Cells.2) ts_34 rfl (by kernel_rfl) ?_
  refine r_done ?_
  refine r_ite (fun hb113 => ?_) (fun hb113 => ?_)
  ·replace h := h_t h hb113
   clear hb113
   refine r_done ?_
   refine r_bind ?_
   refine r_bind ?_
   refine r_bind ?_
   refine r_ld 0 tt_ok (v := .slice g_x1.Cells.1 x1.Cells.length g_x1.Cells.2) ts_34 rfl (by kernel_rfl) ?_
   replace h := h_b h; obtain ⟨x114,hx115,h⟩ := h
   refine r_el hx115 ((h_x1.2).rd.mono ((le_d 2).trans hS_x1)) ?_
   refine r_kp [(2,.pointer (some ⟨bq1,0,none⟩)),(3,.pointer (some ⟨bq2,0,none⟩)),(5,.int .i64 x111),(6,.int .i64 x112),(20,.pointer (some ((adr g_x1.Cells.1).add (x112.toNat * 4))))] (by kernel_rfl) fun fr => ?_
   refine r_len (E := eCellState) tt_ok (en_CellState x114) (idx_get hx115) ((h_x1.2).rd.mono ((le_d 2).trans hS_x1)) ta_67 rfl (pl0 _ _) (by kernel_rfl) (by kernel_rfl) ?_
   refine r_al tt_ok (en_CellState (⟨0,0,0,0⟩ : CellState)) ti_67 (by kernel_rfl) fun bq116 => ?_
   refine r_s 0 tt_ok (en_CellState x114) (fitn ta_67 (by kernel_rfl)) rfl (by kernel_rfl) (by kernel_rfl) ?_
   refine r_done ?_
   refine r_bind ?_
   refine r_ld 0 tt_ok (v := .int .i64 x114.Running) ts_3 rfl (by kernel_rfl) ?_
   refine r_ld 0 tt_ok (v := .int .i64 x114.Wanted) ts_3 rfl (by kernel_rfl) ?_
   refine r_bs tt_ok (fl eI64.en [x114.Running,x114.Wanted]) te_22 ti_3 (by kernel_rfl) (by kernel_rfl) (by kernel_rfl) (by kernel_rfl) fun bq117 => ?_
   refine r_keep [(2,.pointer (some ⟨bq1,0,none⟩)),(3,.pointer (some ⟨bq2,0,none⟩)),(5,.int .i64 x111),(6,.int .i64 x112),(7,.pointer (some ⟨bq116,0,none⟩)),(8,.slice (some ⟨bq117,0,none⟩) [x114.Running,x114.Wanted].length 2)] (by kernel_rfl) fun fr => ?_
   refine r_done ?_
   refine r_bind ?_
   replace h := h_k h; obtain ⟨K161,h,hK162⟩ := h
   refine r_meet (fun fr S => ∃ fr0,(cellplanelaw12_versions.j3 x1 x114 x111 x112).bind K161 = some r ∧ fr = updL [(2,.pointer (some ⟨bq1,0,none⟩)),(3,.pointer (some ⟨bq2,0,none⟩)),(5,.int .i64 x111),(6,.int .i64 x112),(7,.pointer (some ⟨bq116,0,none⟩))] fr0 ∧ S = ⟨ρ,.obj bq116 (en_CellState x114) 67 :: .obj bq2 (en_State x1 g_x1) 36 :: .obj bq1 (en_Config c0 g_c0) 30 :: L⟩) ?_ ?_
   ·refine r_bind ?_
    refine r_done ?_
    refine r_bind ?_
    replace h := h_l h; obtain ⟨K157,n158,h,hK159⟩ := h
    refine r_loop (fun n fr S => ∃ (x144 : Int),∃ fr0,(runN (cellplanelaw12_versions.b4 x111 x112 x114 c0 x1) n x144).bind K157 = some r ∧ fr = updL [(2,.pointer (some ⟨bq1,0,none⟩)),(3,.pointer (some ⟨bq2,0,none⟩)),(5,.int .i64 x111),(6,.int .i64 x112),(7,.pointer (some ⟨bq116,0,none⟩)),(8,.slice (some ⟨bq117,0,none⟩) [x114.Running,x114.Wanted].length 2),(9,.int .i64 x144)] fr0 ∧ S = ⟨ρ,.row (some ⟨bq117,0,none⟩) [x114.Running,x114.Wanted].length 2 3 1 (fl eI64.en [x114.Running,x114.Wanted]) :: .obj bq116 (en_CellState x114) 67 :: .obj bq2 (en_State x1 g_x1) 36 :: .obj bq1 (en_Config c0 g_c0) 30 :: L⟩) n158 ⟨0,_,h,fr_eq _ (by kernel_rfl),(by kernel_rfl)⟩ ?_
    clear h
    rintro n158 fr S ⟨x144,fr,h,rfl,rfl⟩
    replace h := h_r h; obtain ⟨m160,hm160,h⟩ := h
    refine r_bind ?_
    refine r_bind ?_
    refine r_done ?_
    refine r_ite (fun hb145 => ?_) (fun hb145 => ?_)
    ·replace h := h_t h hb145
     clear hb145
     refine r_done ?_
     refine r_bind ?_
     refine r_bind ?_
     refine r_bind ?_
     replace h := h_j h; obtain ⟨K154,h,hK155⟩ := h
     refine r_meet (fun fr S => ∃ (x153 : Bool),∃ fr0,K154 x153 = some r ∧ fr = updL [(2,.pointer (some ⟨bq1,0,none⟩)),(3,.pointer (some ⟨bq2,0,none⟩)),(5,.int .i64 x111),(6,.int .i64 x112),(7,.pointer (some ⟨bq116,0,none⟩)),(8,.slice (some ⟨bq117,0,none⟩) [x114.Running,x114.Wanted].length 2),(9,.int .i64 x144),(73,.bool x153)] fr0 ∧ S = ⟨ρ,.row (some ⟨bq117,0,none⟩) [x114.Running,x114.Wanted].length 2 3 1 (fl eI64.en [x114.Running,x114.Wanted]) :: .obj bq116 (en_CellState x114) 67 :: .obj bq2 (en_State x1 g_x1) 36 :: .obj bq1 (en_Config c0 g_c0) 30 :: L⟩) ?_ ?_
     refine r_mix tt_ok hm_ok _ _ [] (.pure 0 (.pure 1 (.vb 2 (.vb 3 (.pure 4 (.pure 5 (.pure 6 (.pure 7 (.vb 8 (.vb 9 (.pure 10 (.vb 11 (.pure 12 (.pure 13 (.pure 14 (.pure 15 (.pure 16 (.vb 17 (.pure 18 (.pure 19 (.vb 20 (.vb 21 (.vb 22 (.pure 23 (.vb 24 (.pure 25 (.vb 26 (.pure 27 (.pure 28 (.pure 29 (.pure 30 (.vb 31 (.pure 32 (.pure 33 (.vb 34 (.vb 35 (.vb 36 (.pure 37 (.vb 38 (.pure 39 (.vb 40 (.pure 41 (.pure 42 .nil))))))))))))))))))))))))))))))))))))))))))) (le_w [true,true,true,true]) (le_w [true,true,true,true]) ?_ ?_
     ·decide +kernel
     refine x_p rfl ?_
     refine v_done ?_
     refine x_p rfl ?_
     refine v_done ?_
     refine x_kp [(2,.pointer (some ⟨bq1,0,none⟩)),(3,.pointer (some ⟨bq2,0,none⟩)),(5,.int .i64 x111),(6,.int .i64 x112),(7,.pointer (some ⟨bq116,0,none⟩)),(8,.slice (some ⟨bq117,0,none⟩) [x114.Running,x114.Wanted].length 2),(9,.int .i64 x144),(31,.slice (some ⟨bq117,0,none⟩) [x114.Running,x114.Wanted].length 2),(32,.int .i64 x144)] (by kernel_rfl) fun fr => ?_
     refine x_vb rfl ?_
     replace h := h_b h; obtain ⟨x146,hx147,h⟩ := h
     refine v_el hx147 (rd_row 0 rfl) ?_
     refine v_done ?_
     refine x_vb rfl ?_
     refine v_lec (E := eI64) tt_ok (v := .int .i64 x146) (idx_get hx147) (rd_row 0 rfl) ts_3 rfl (pl0 _ _) (by kernel_rfl) ?_
     refine v_done ?_
     refine x_p rfl ?_
     refine v_done ?_
     refine x_p rfl ?_
     refine v_done ?_
     refine x_p rfl ?_
     refine v_ite (fun (hb148 : (decide (x146 < 0)) = true) => ?_) (fun (hb148 : (decide (x146 < 0)) = false) => ?_)
     ·replace h := h_t h hb148
      clear hb148
      refine v_done ?_
      refine x_p rfl ?_
      refine v_T rfl ?_
      refine v_done ?_
      refine x_vb rfl ?_
      refine v_T rfl ?_
      refine v_done ?_
      refine x_vb rfl ?_
      refine v_T rfl ?_
      refine v_done ?_
      refine x_p rfl ?_
      refine v_T rfl ?_
      refine v_done ?_
      refine x_kp [(2,.pointer (some ⟨bq1,0,none⟩)),(3,.pointer (some ⟨bq2,0,none⟩)),(5,.int .i64 x111),(6,.int .i64 x112),(7,.pointer (some ⟨bq116,0,none⟩)),(8,.slice (some ⟨bq117,0,none⟩) [x114.Running,x114.Wanted].length 2),(9,.int .i64 x144),(36,.bool true),(37,undef),(38,undef),(39,undef),(40,undef),(41,undef)] (by kernel_rfl) fun fr => ?_
      refine x_vb rfl ?_
      refine v_T rfl ?_
      refine v_done ?_
      refine x_p rfl ?_
      refine v_T rfl ?_
      refine v_done ?_
      refine x_p rfl ?_
      refine v_T rfl ?_
      refine v_done ?_
      refine x_p rfl ?_
      refine v_T rfl ?_
      refine v_done ?_
      refine x_p rfl ?_
      refine v_done ?_
      refine x_p rfl ?_
      refine v_T rfl ?_
      refine v_done ?_
      refine x_vb rfl ?_
      refine v_T rfl ?_
      refine v_done ?_
      refine x_p rfl ?_
      refine v_T rfl ?_
      refine v_done ?_
      refine x_p rfl ?_
      refine v_T rfl ?_
      refine v_done ?_
      refine x_kp [(2,.pointer (some ⟨bq1,0,none⟩)),(3,.pointer (some ⟨bq2,0,none⟩)),(5,.int .i64 x111),(6,.int .i64 x112),(7,.pointer (some ⟨bq116,0,none⟩)),(8,.slice (some ⟨bq117,0,none⟩) [x114.Running,x114.Wanted].length 2),(9,.int .i64 x144),(37,undef),(38,undef),(39,undef),(40,undef),(41,undef),(42,undef),(43,undef),(44,undef),(46,.bool true),(47,undef),(48,undef),(49,undef),(50,undef)] (by kernel_rfl) fun fr => ?_
      refine x_vb rfl ?_
      refine v_T rfl ?_
      refine v_done ?_
      refine x_vb rfl ?_
      refine v_T rfl ?_
      refine v_done ?_
      refine x_vb rfl ?_
      refine v_T rfl ?_
      refine v_done ?_
      refine x_p rfl ?_
      refine v_T rfl ?_
      refine v_done ?_
      refine x_vb rfl ?_
      refine v_T rfl ?_
      refine v_done ?_
      refine x_p rfl ?_
      refine v_T rfl ?_
      refine v_done ?_
      refine x_vb rfl ?_
      refine v_T rfl ?_
      refine v_done ?_
      refine x_p rfl ?_
      refine v_T rfl ?_
      refine v_done ?_
      refine x_p rfl ?_
      refine v_T rfl ?_
      refine v_done ?_
      refine x_kp [(2,.pointer (some ⟨bq1,0,none⟩)),(3,.pointer (some ⟨bq2,0,none⟩)),(5,.int .i64 x111),(6,.int .i64 x112),(7,.pointer (some ⟨bq116,0,none⟩)),(8,.slice (some ⟨bq117,0,none⟩) [x114.Running,x114.Wanted].length 2),(9,.int .i64 x144),(37,undef),(38,undef),(39,undef),(40,undef),(41,undef),(42,undef),(43,undef),(44,undef),(47,undef),(48,undef),(49,undef),(50,undef),(51,undef),(52,undef),(53,undef),(54,undef),(55,undef),(56,undef),(57,undef),(58,undef),(59,.bool true)] (by kernel_rfl) fun fr => ?_
      refine x_p rfl ?_
      refine v_done ?_
      refine x_p rfl ?_
      refine v_T rfl ?_
      refine v_done ?_
      refine x_vb rfl ?_
      refine v_T rfl ?_
      refine v_done ?_
      refine x_p rfl ?_
      refine v_T rfl ?_
      refine v_done ?_
      refine x_p rfl ?_
      refine v_T rfl ?_
      refine v_done ?_
      refine x_vb rfl ?_
      refine v_T rfl ?_
      refine v_done ?_
      refine x_vb rfl ?_
      refine v_T rfl ?_
      refine v_done ?_
      refine x_vb rfl ?_
      refine v_T rfl ?_
      refine v_done ?_
      refine x_p rfl ?_
      refine v_T rfl ?_
      refine v_done ?_
      refine x_kp [(2,.pointer (some ⟨bq1,0,none⟩)),(3,.pointer (some ⟨bq2,0,none⟩)),(5,.int .i64 x111),(6,.int .i64 x112),(7,.pointer (some ⟨bq116,0,none⟩)),(8,.slice (some ⟨bq117,0,none⟩) [x114.Running,x114.Wanted].length 2),(9,.int .i64 x144),(37,undef),(38,undef),(39,undef),(40,undef),(41,undef),(42,undef),(43,undef),(44,undef),(47,undef),(48,undef),(49,undef),(50,undef),(51,undef),(52,undef),(53,undef),(54,undef),(55,undef),(56,undef),(57,undef),(58,undef),(60,.bool true),(61,undef),(62,undef),(63,undef),(64,undef),(65,undef),(66,undef),(67,undef),(68,undef)] (by kernel_rfl) fun fr => ?_
      refine x_vb rfl ?_
      refine v_T rfl ?_
      refine v_done ?_
      refine x_p rfl ?_
      refine v_T rfl ?_
      refine v_done ?_
      refine x_vb rfl ?_
      refine v_T rfl ?_
      refine v_done ?_
      refine x_p rfl ?_
      refine v_T rfl ?_
      refine v_done ?_
      refine x_p rfl ?_
      refine v_T rfl ?_
      refine v_done ?_
      refine x_k [(2,.pointer (some ⟨bq1,0,none⟩)),(3,.pointer (some ⟨bq2,0,none⟩)),(5,.int .i64 x111),(6,.int .i64 x112),(7,.pointer (some ⟨bq116,0,none⟩)),(8,.slice (some ⟨bq117,0,none⟩) [x114.Running,x114.Wanted].length 2),(9,.int .i64 x144),(73,.bool true)] (by kernel_rfl) fun fr => ?_
      exact r_done ⟨true,_,h,fr_eq _ (by kernel_rfl),(by kernel_rfl)⟩
     ·replace h := h_f h hb148
      clear hb148
      refine v_done ?_
      refine x_p rfl ?_
      refine v_F rfl ?_
      refine v_done ?_
      refine x_vb rfl ?_
      refine v_F rfl ?_
      refine v_el hx147 (rd_row 0 rfl) ?_
      refine v_done ?_
      refine x_vb rfl ?_
      refine v_F rfl ?_
      refine v_lec (E := eI64) tt_ok (v := .int .i64 x146) (idx_get hx147) (rd_row 0 rfl) ts_3 rfl (pl0 _ _) (by kernel_rfl) ?_
      refine v_done ?_
      refine x_p rfl ?_
      refine v_F rfl ?_
      refine v_done ?_
      refine x_kp [(2,.pointer (some ⟨bq1,0,none⟩)),(3,.pointer (some ⟨bq2,0,none⟩)),(5,.int .i64 x111),(6,.int .i64 x112),(7,.pointer (some ⟨bq116,0,none⟩)),(8,.slice (some ⟨bq117,0,none⟩) [x114.Running,x114.Wanted].length 2),(9,.int .i64 x144),(36,.bool false),(37,.slice (some ⟨bq117,0,none⟩) [x114.Running,x114.Wanted].length 2),(38,.int .i64 x144),(39,.pointer (some ((adr (some ⟨bq117,0,none⟩)).add (x144.toNat * 1)))),(40,.int .i64 x146),(41,.pointer (some ⟨bq1,4,none⟩))] (by kernel_rfl) fun fr => ?_
      refine x_vb rfl ?_
      refine v_F rfl ?_
      refine v_ld 3 tt_ok (v := .slice g_c0.Versions.1 c0.Versions.length g_c0.Versions.2) ts_28 rfl (by kernel_rfl) ?_
      refine v_done ?_
      refine x_p rfl ?_
      refine v_F rfl ?_
      refine v_done ?_
      refine x_p rfl ?_
      refine v_F rfl ?_
      refine v_done ?_
      refine x_p rfl ?_
      refine v_done ?_
      refine x_p rfl ?_
      refine v_done ?_
      refine x_p rfl ?_
      refine v_ite (fun (hb149 : (decide ((c0.Versions.length : Int) ≤ x146)) = true) => ?_) (fun (hb149 : (decide ((c0.Versions.length : Int) ≤ x146)) = false) => ?_)
      ·replace h := h_t h hb149
       clear hb149
       refine v_done ?_
       refine x_vb rfl ?_
       refine v_T rfl ?_
       refine v_done ?_
       refine x_p rfl ?_
       refine v_T rfl ?_
       refine v_done ?_
       refine x_p rfl ?_
       refine v_T rfl ?_
       refine v_done ?_
       refine x_kp [(2,.pointer (some ⟨bq1,0,none⟩)),(3,.pointer (some ⟨bq2,0,none⟩)),(5,.int .i64 x111),(6,.int .i64 x112),(7,.pointer (some ⟨bq116,0,none⟩)),(8,.slice (some ⟨bq117,0,none⟩) [x114.Running,x114.Wanted].length 2),(9,.int .i64 x144),(37,.slice (some ⟨bq117,0,none⟩) [x114.Running,x114.Wanted].length 2),(38,.int .i64 x144),(39,.pointer (some ((adr (some ⟨bq117,0,none⟩)).add (x144.toNat * 1)))),(40,.int .i64 x146),(41,.pointer (some ⟨bq1,4,none⟩)),(42,.slice g_c0.Versions.1 c0.Versions.length g_c0.Versions.2),(43,.int .i64 (c0.Versions.length : Int)),(44,.bool (decide ((c0.Versions.length : Int) ≤ x146))),(46,.bool true),(47,undef),(48,undef),(49,undef),(50,undef)] (by kernel_rfl) fun fr => ?_
       refine x_vb rfl ?_
       refine v_T rfl ?_
       refine v_done ?_
       refine x_vb rfl ?_
       refine v_T rfl ?_
       refine v_done ?_
       refine x_vb rfl ?_
       refine v_T rfl ?_
       refine v_done ?_
       refine x_p rfl ?_
       refine v_T rfl ?_
       refine v_done ?_
       refine x_vb rfl ?_
       refine v_T rfl ?_
       refine v_done ?_
       refine x_p rfl ?_
       refine v_T rfl ?_
       refine v_done ?_
       refine x_vb rfl ?_
       refine v_T rfl ?_
       refine v_done ?_
       refine x_p rfl ?_
       refine v_T rfl ?_
       refine v_done ?_
       refine x_p rfl ?_
       refine v_T rfl ?_
       refine v_done ?_
       refine x_kp [(2,.pointer (some ⟨bq1,0,none⟩)),(3,.pointer (some ⟨bq2,0,none⟩)),(5,.int .i64 x111),(6,.int .i64 x112),(7,.pointer (some ⟨bq116,0,none⟩)),(8,.slice (some ⟨bq117,0,none⟩) [x114.Running,x114.Wanted].length 2),(9,.int .i64 x144),(37,.slice (some ⟨bq117,0,none⟩) [x114.Running,x114.Wanted].length 2),(38,.int .i64 x144),(39,.pointer (some ((adr (some ⟨bq117,0,none⟩)).add (x144.toNat * 1)))),(40,.int .i64 x146),(41,.pointer (some ⟨bq1,4,none⟩)),(42,.slice g_c0.Versions.1 c0.Versions.length g_c0.Versions.2),(43,.int .i64 (c0.Versions.length : Int)),(44,.bool (decide ((c0.Versions.length : Int) ≤ x146))),(47,undef),(48,undef),(49,undef),(50,undef),(51,undef),(52,undef),(53,undef),(54,undef),(55,undef),(56,undef),(57,undef),(58,undef),(59,.bool true)] (by kernel_rfl) fun fr => ?_
       refine x_p rfl ?_
       refine v_done ?_
       refine x_p rfl ?_
       refine v_T rfl ?_
       refine v_done ?_
       refine x_vb rfl ?_
       refine v_T rfl ?_
       refine v_done ?_
       refine x_p rfl ?_
       refine v_T rfl ?_
       refine v_done ?_
       refine x_p rfl ?_
       refine v_T rfl ?_
       refine v_done ?_
       refine x_vb rfl ?_
       refine v_T rfl ?_
       refine v_done ?_
       refine x_vb rfl ?_
       refine v_T rfl ?_
       refine v_done ?_
       refine x_vb rfl ?_
       refine v_T rfl ?_
       refine v_done ?_
       refine x_p rfl ?_
       refine v_T rfl ?_
       refine v_done ?_
       refine x_kp [(2,.pointer (some ⟨bq1,0,none⟩)),(3,.pointer (some ⟨bq2,0,none⟩)),(5,.int .i64 x111),(6,.int .i64 x112),(7,.pointer (some ⟨bq116,0,none⟩)),(8,.slice (some ⟨bq117,0,none⟩) [x114.Running,x114.Wanted].length 2),(9,.int .i64 x144),(37,.slice (some ⟨bq117,0,none⟩) [x114.Running,x114.Wanted].length 2),(38,.int .i64 x144),(39,.pointer (some ((adr (some ⟨bq117,0,none⟩)).add (x144.toNat * 1)))),(40,.int .i64 x146),(41,.pointer (some ⟨bq1,4,none⟩)),(42,.slice g_c0.Versions.1 c0.Versions.length g_c0.Versions.2),(43,.int .i64 (c0.Versions.length : Int)),(44,.bool (decide ((c0.Versions.length : Int) ≤ x146))),(47,undef),(48,undef),(49,undef),(50,undef),(51,undef),(52,undef),(53,undef),(54,undef),(55,undef),(56,undef),(57,undef),(58,undef),(60,.bool true),(61,undef),(62,undef),(63,undef),(64,undef),(65,undef),(66,undef),(67,undef),(68,undef)] (by kernel_rfl) fun fr => ?_
       refine x_vb rfl ?_
       refine v_T rfl ?_
       refine v_done ?_
       refine x_p rfl ?_
       refine v_T rfl ?_
       refine v_done ?_
       refine x_vb rfl ?_
       refine v_T rfl ?_
       refine v_done ?_
       refine x_p rfl ?_
       refine v_T rfl ?_
       refine v_done ?_
       refine x_p rfl ?_
       refine v_T rfl ?_
       refine v_done ?_
       refine x_k [(2,.pointer (some ⟨bq1,0,none⟩)),(3,.pointer (some ⟨bq2,0,none⟩)),(5,.int .i64 x111),(6,.int .i64 x112),(7,.pointer (some ⟨bq116,0,none⟩)),(8,.slice (some ⟨bq117,0,none⟩) [x114.Running,x114.Wanted].length 2),(9,.int .i64 x144),(37,.slice (some ⟨bq117,0,none⟩) [x114.Running,x114.Wanted].length 2),(38,.int .i64 x144),(39,.pointer (some ((adr (some ⟨bq117,0,none⟩)).add (x144.toNat * 1)))),(40,.int .i64 x146),(41,.pointer (some ⟨bq1,4,none⟩)),(42,.slice g_c0.Versions.1 c0.Versions.length g_c0.Versions.2),(43,.int .i64 (c0.Versions.length : Int)),(44,.bool (decide ((c0.Versions.length : Int) ≤ x146))),(73,.bool true)] (by kernel_rfl) fun fr => ?_
       exact r_done ⟨true,_,h,fr_eq _ (by kernel_rfl),(by kernel_rfl)⟩
      ·replace h := h_f h hb149
       clear hb149
       refine v_done ?_
       refine x_vb rfl ?_
       refine v_F rfl ?_
       refine v_ld 3 tt_ok (v := .slice g_c0.Versions.1 c0.Versions.length g_c0.Versions.2) ts_28 rfl (by kernel_rfl) ?_
       refine v_done ?_
       refine x_p rfl ?_
       refine v_F rfl ?_
       refine v_done ?_
       refine x_p rfl ?_
       refine v_F rfl ?_
       refine v_done ?_
       refine x_kp [(2,.pointer (some ⟨bq1,0,none⟩)),(3,.pointer (some ⟨bq2,0,none⟩)),(5,.int .i64 x111),(6,.int .i64 x112),(7,.pointer (some ⟨bq116,0,none⟩)),(8,.slice (some ⟨bq117,0,none⟩) [x114.Running,x114.Wanted].length 2),(9,.int .i64 x144),(37,.slice (some ⟨bq117,0,none⟩) [x114.Running,x114.Wanted].length 2),(38,.int .i64 x144),(39,.pointer (some ((adr (some ⟨bq117,0,none⟩)).add (x144.toNat * 1)))),(40,.int .i64 x146),(41,.pointer (some ⟨bq1,4,none⟩)),(42,.slice g_c0.Versions.1 c0.Versions.length g_c0.Versions.2),(43,.int .i64 (c0.Versions.length : Int)),(44,.bool (decide ((c0.Versions.length : Int) ≤ x146))),(46,.bool false),(47,.pointer (some ⟨bq1,4,none⟩)),(48,.slice g_c0.Versions.1 c0.Versions.length g_c0.Versions.2),(49,.slice (some ⟨bq117,0,none⟩) [x114.Running,x114.Wanted].length 2),(50,.int .i64 x144)] (by kernel_rfl) fun fr => ?_
       refine x_vb rfl ?_
       refine v_F rfl ?_
       refine v_el hx147 (rd_row 0 rfl) ?_
       refine v_done ?_
       refine x_vb rfl ?_
       refine v_F rfl ?_
       refine v_lec (E := eI64) tt_ok (v := .int .i64 x146) (idx_get hx147) (rd_row 0 rfl) ts_3 rfl (pl0 _ _) (by kernel_rfl) ?_
       refine v_done ?_
       refine x_vb rfl ?_
       refine v_F rfl ?_
       replace h := h_b h; obtain ⟨x150,hx151,h⟩ := h
       refine v_el hx151 ((h_c0.2.2.2.1).rd.mono ((le_d 4).trans hS_c0)) ?_
       refine v_done ?_
       refine x_p rfl ?_
       refine v_F rfl ?_
       refine v_done ?_
       refine x_vb rfl ?_
       refine v_F rfl ?_
       refine v_lec (E := eVersion) tt_ok (v := .int .i64 x150.Low) (idx_get hx151) ((h_c0.2.2.2.1).rd.mono ((le_d 4).trans hS_c0)) ts_3 rfl (pl1 _ _ _) (by kernel_rfl) ?_
       refine v_done ?_
       refine x_p rfl ?_
       refine v_F rfl ?_
       refine v_done ?_
       refine x_vb rfl ?_
       refine v_F rfl ?_
       refine v_ld 2 tt_ok (v := .int .i64 x1.Low) ts_3 rfl (by kernel_rfl) ?_
       refine v_done ?_
       refine x_p rfl ?_
       refine v_F rfl ?_
       refine v_done ?_
       refine x_p rfl ?_
       refine v_done ?_
       refine x_kp [(2,.pointer (some ⟨bq1,0,none⟩)),(3,.pointer (some ⟨bq2,0,none⟩)),(5,.int .i64 x111),(6,.int .i64 x112),(7,.pointer (some ⟨bq116,0,none⟩)),(8,.slice (some ⟨bq117,0,none⟩) [x114.Running,x114.Wanted].length 2),(9,.int .i64 x144),(37,.slice (some ⟨bq117,0,none⟩) [x114.Running,x114.Wanted].length 2),(38,.int .i64 x144),(39,.pointer (some ((adr (some ⟨bq117,0,none⟩)).add (x144.toNat * 1)))),(40,.int .i64 x146),(41,.pointer (some ⟨bq1,4,none⟩)),(42,.slice g_c0.Versions.1 c0.Versions.length g_c0.Versions.2),(43,.int .i64 (c0.Versions.length : Int)),(44,.bool (decide ((c0.Versions.length : Int) ≤ x146))),(47,.pointer (some ⟨bq1,4,none⟩)),(48,.slice g_c0.Versions.1 c0.Versions.length g_c0.Versions.2),(49,.slice (some ⟨bq117,0,none⟩) [x114.Running,x114.Wanted].length 2),(50,.int .i64 x144),(51,.pointer (some ((adr (some ⟨bq117,0,none⟩)).add (x144.toNat * 1)))),(52,.int .i64 x146),(53,.pointer (some ((adr g_c0.Versions.1).add (x146.toNat * 2)))),(54,.pointer (some (((adr g_c0.Versions.1).add (x146.toNat * 2)).add 0))),(55,.int .i64 x150.Low),(56,.pointer (some ⟨bq2,6,none⟩)),(57,.int .i64 x1.Low),(58,.bool (decide (x1.Low < x150.Low))),(59,.bool (decide (x1.Low < x150.Low)))] (by kernel_rfl) fun fr => ?_
       refine x_p rfl ?_
       refine v_done ?_
       refine x_p rfl ?_
       refine v_ite (fun (hb152 : (decide (x1.Low < x150.Low)) = true) => ?_) (fun (hb152 : (decide (x1.Low < x150.Low)) = false) => ?_)
       ·replace h := h_t h hb152
        clear hb152
        refine v_done ?_
        refine x_vb rfl ?_
        refine v_T rfl ?_
        refine v_done ?_
        refine x_p rfl ?_
        refine v_T rfl ?_
        refine v_done ?_
        refine x_p rfl ?_
        refine v_T rfl ?_
        refine v_done ?_
        refine x_vb rfl ?_
        refine v_T rfl ?_
        refine v_done ?_
        refine x_vb rfl ?_
        refine v_T rfl ?_
        refine v_done ?_
        refine x_vb rfl ?_
        refine v_T rfl ?_
        refine v_done ?_
        refine x_p rfl ?_
        refine v_T rfl ?_
        refine v_done ?_
        refine x_kp [(2,.pointer (some ⟨bq1,0,none⟩)),(3,.pointer (some ⟨bq2,0,none⟩)),(5,.int .i64 x111),(6,.int .i64 x112),(7,.pointer (some ⟨bq116,0,none⟩)),(8,.slice (some ⟨bq117,0,none⟩) [x114.Running,x114.Wanted].length 2),(9,.int .i64 x144),(37,.slice (some ⟨bq117,0,none⟩) [x114.Running,x114.Wanted].length 2),(38,.int .i64 x144),(39,.pointer (some ((adr (some ⟨bq117,0,none⟩)).add (x144.toNat * 1)))),(40,.int .i64 x146),(41,.pointer (some ⟨bq1,4,none⟩)),(42,.slice g_c0.Versions.1 c0.Versions.length g_c0.Versions.2),(43,.int .i64 (c0.Versions.length : Int)),(44,.bool (decide ((c0.Versions.length : Int) ≤ x146))),(47,.pointer (some ⟨bq1,4,none⟩)),(48,.slice g_c0.Versions.1 c0.Versions.length g_c0.Versions.2),(49,.slice (some ⟨bq117,0,none⟩) [x114.Running,x114.Wanted].length 2),(50,.int .i64 x144),(51,.pointer (some ((adr (some ⟨bq117,0,none⟩)).add (x144.toNat * 1)))),(52,.int .i64 x146),(53,.pointer (some ((adr g_c0.Versions.1).add (x146.toNat * 2)))),(54,.pointer (some (((adr g_c0.Versions.1).add (x146.toNat * 2)).add 0))),(55,.int .i64 x150.Low),(56,.pointer (some ⟨bq2,6,none⟩)),(57,.int .i64 x1.Low),(58,.bool (decide (x1.Low < x150.Low))),(60,.bool true),(61,undef),(62,undef),(63,undef),(64,undef),(65,undef),(66,undef),(67,undef),(68,undef)] (by kernel_rfl) fun fr => ?_
        refine x_vb rfl ?_
        refine v_T rfl ?_
        refine v_done ?_
        refine x_p rfl ?_
        refine v_T rfl ?_
        refine v_done ?_
        refine x_vb rfl ?_
        refine v_T rfl ?_
        refine v_done ?_
        refine x_p rfl ?_
        refine v_T rfl ?_
        refine v_done ?_
        refine x_p rfl ?_
        refine v_T rfl ?_
        refine v_done ?_
        refine x_k [(2,.pointer (some ⟨bq1,0,none⟩)),(3,.pointer (some ⟨bq2,0,none⟩)),(5,.int .i64 x111),(6,.int .i64 x112),(7,.pointer (some ⟨bq116,0,none⟩)),(8,.slice (some ⟨bq117,0,none⟩) [x114.Running,x114.Wanted].length 2),(9,.int .i64 x144),(37,.slice (some ⟨bq117,0,none⟩) [x114.Running,x114.Wanted].length 2),(38,.int .i64 x144),(39,.pointer (some ((adr (some ⟨bq117,0,none⟩)).add (x144.toNat * 1)))),(40,.int .i64 x146),(41,.pointer (some ⟨bq1,4,none⟩)),(42,.slice g_c0.Versions.1 c0.Versions.length g_c0.Versions.2),(43,.int .i64 (c0.Versions.length : Int)),(44,.bool (decide ((c0.Versions.length : Int) ≤ x146))),(47,.pointer (some ⟨bq1,4,none⟩)),(48,.slice g_c0.Versions.1 c0.Versions.length g_c0.Versions.2),(49,.slice (some ⟨bq117,0,none⟩) [x114.Running,x114.Wanted].length 2),(50,.int .i64 x144),(51,.pointer (some ((adr (some ⟨bq117,0,none⟩)).add (x144.toNat * 1)))),(52,.int .i64 x146),(53,.pointer (some ((adr g_c0.Versions.1).add (x146.toNat * 2)))),(54,.pointer (some (((adr g_c0.Versions.1).add (x146.toNat * 2)).add 0))),(55,.int .i64 x150.Low),(56,.pointer (some ⟨bq2,6,none⟩)),(57,.int .i64 x1.Low),(58,.bool (decide (x1.Low < x150.Low))),(73,.bool true)] (by kernel_rfl) fun fr => ?_
        exact r_done ⟨true,_,h,fr_eq _ (by kernel_rfl),(by kernel_rfl)⟩
       ·replace h := h_f h hb152
        clear hb152
        refine v_done ?_
        refine x_vb rfl ?_
        refine v_F rfl ?_
        refine v_ld 3 tt_ok (v := .slice g_c0.Versions.1 c0.Versions.length g_c0.Versions.2) ts_28 rfl (by kernel_rfl) ?_
        refine v_done ?_
        refine x_p rfl ?_
        refine v_F rfl ?_
        refine v_done ?_
        refine x_p rfl ?_
        refine v_F rfl ?_
        refine v_done ?_
        refine x_vb rfl ?_
        refine v_F rfl ?_
        refine v_el hx147 (rd_row 0 rfl) ?_
        refine v_done ?_
        refine x_vb rfl ?_
        refine v_F rfl ?_
        refine v_lec (E := eI64) tt_ok (v := .int .i64 x146) (idx_get hx147) (rd_row 0 rfl) ts_3 rfl (pl0 _ _) (by kernel_rfl) ?_
        refine v_done ?_
        refine x_vb rfl ?_
        refine v_F rfl ?_
        refine v_el hx151 ((h_c0.2.2.2.1).rd.mono ((le_d 4).trans hS_c0)) ?_
        refine v_done ?_
        refine x_p rfl ?_
        refine v_F rfl ?_
        refine v_done ?_
        refine x_kp [(2,.pointer (some ⟨bq1,0,none⟩)),(3,.pointer (some ⟨bq2,0,none⟩)),(5,.int .i64 x111),(6,.int .i64 x112),(7,.pointer (some ⟨bq116,0,none⟩)),(8,.slice (some ⟨bq117,0,none⟩) [x114.Running,x114.Wanted].length 2),(9,.int .i64 x144),(37,.slice (some ⟨bq117,0,none⟩) [x114.Running,x114.Wanted].length 2),(38,.int .i64 x144),(39,.pointer (some ((adr (some ⟨bq117,0,none⟩)).add (x144.toNat * 1)))),(40,.int .i64 x146),(41,.pointer (some ⟨bq1,4,none⟩)),(42,.slice g_c0.Versions.1 c0.Versions.length g_c0.Versions.2),(43,.int .i64 (c0.Versions.length : Int)),(44,.bool (decide ((c0.Versions.length : Int) ≤ x146))),(47,.pointer (some ⟨bq1,4,none⟩)),(48,.slice g_c0.Versions.1 c0.Versions.length g_c0.Versions.2),(49,.slice (some ⟨bq117,0,none⟩) [x114.Running,x114.Wanted].length 2),(50,.int .i64 x144),(51,.pointer (some ((adr (some ⟨bq117,0,none⟩)).add (x144.toNat * 1)))),(52,.int .i64 x146),(53,.pointer (some ((adr g_c0.Versions.1).add (x146.toNat * 2)))),(54,.pointer (some (((adr g_c0.Versions.1).add (x146.toNat * 2)).add 0))),(55,.int .i64 x150.Low),(56,.pointer (some ⟨bq2,6,none⟩)),(57,.int .i64 x1.Low),(58,.bool (decide (x1.Low < x150.Low))),(60,.bool false),(61,.pointer (some ⟨bq1,4,none⟩)),(62,.slice g_c0.Versions.1 c0.Versions.length g_c0.Versions.2),(63,.slice (some ⟨bq117,0,none⟩) [x114.Running,x114.Wanted].length 2),(64,.int .i64 x144),(65,.pointer (some ((adr (some ⟨bq117,0,none⟩)).add (x144.toNat * 1)))),(66,.int .i64 x146),(67,.pointer (some ((adr g_c0.Versions.1).add (x146.toNat * 2)))),(68,.pointer (some (((adr g_c0.Versions.1).add (x146.toNat * 2)).add 1)))] (by kernel_rfl) fun fr => ?_
        refine x_vb rfl ?_
        refine v_F rfl ?_
        refine v_lec (E := eVersion) tt_ok (v := .int .i64 x150.High) (idx_get hx151) ((h_c0.2.2.2.1).rd.mono ((le_d 4).trans hS_c0)) ts_3 rfl (pl1 _ _ _) (by kernel_rfl) ?_
        refine v_done ?_
        refine x_p rfl ?_
        refine v_F rfl ?_
        refine v_done ?_
        refine x_vb rfl ?_
        refine v_F rfl ?_
        refine v_ld 2 tt_ok (v := .int .i64 x1.High) ts_3 rfl (by kernel_rfl) ?_
        refine v_done ?_
        refine x_p rfl ?_
        refine v_F rfl ?_
        refine v_done ?_
        refine x_p rfl ?_
        refine v_done ?_
        refine x_k [(2,.pointer (some ⟨bq1,0,none⟩)),(3,.pointer (some ⟨bq2,0,none⟩)),(5,.int .i64 x111),(6,.int .i64 x112),(7,.pointer (some ⟨bq116,0,none⟩)),(8,.slice (some ⟨bq117,0,none⟩) [x114.Running,x114.Wanted].length 2),(9,.int .i64 x144),(37,.slice (some ⟨bq117,0,none⟩) [x114.Running,x114.Wanted].length 2),(38,.int .i64 x144),(39,.pointer (some ((adr (some ⟨bq117,0,none⟩)).add (x144.toNat * 1)))),(40,.int .i64 x146),(41,.pointer (some ⟨bq1,4,none⟩)),(42,.slice g_c0.Versions.1 c0.Versions.length g_c0.Versions.2),(43,.int .i64 (c0.Versions.length : Int)),(44,.bool (decide ((c0.Versions.length : Int) ≤ x146))),(47,.pointer (some ⟨bq1,4,none⟩)),(48,.slice g_c0.Versions.1 c0.Versions.length g_c0.Versions.2),(49,.slice (some ⟨bq117,0,none⟩) [x114.Running,x114.Wanted].length 2),(50,.int .i64 x144),(51,.pointer (some ((adr (some ⟨bq117,0,none⟩)).add (x144.toNat * 1)))),(52,.int .i64 x146),(53,.pointer (some ((adr g_c0.Versions.1).add (x146.toNat * 2)))),(54,.pointer (some (((adr g_c0.Versions.1).add (x146.toNat * 2)).add 0))),(55,.int .i64 x150.Low),(56,.pointer (some ⟨bq2,6,none⟩)),(57,.int .i64 x1.Low),(58,.bool (decide (x1.Low < x150.Low))),(61,.pointer (some ⟨bq1,4,none⟩)),(62,.slice g_c0.Versions.1 c0.Versions.length g_c0.Versions.2),(63,.slice (some ⟨bq117,0,none⟩) [x114.Running,x114.Wanted].length 2),(64,.int .i64 x144),(65,.pointer (some ((adr (some ⟨bq117,0,none⟩)).add (x144.toNat * 1)))),(66,.int .i64 x146),(67,.pointer (some ((adr g_c0.Versions.1).add (x146.toNat * 2)))),(68,.pointer (some (((adr g_c0.Versions.1).add (x146.toNat * 2)).add 1))),(69,.int .i64 x150.High),(70,.pointer (some ⟨bq2,7,none⟩)),(71,.int .i64 x1.High),(72,.bool (decide (x150.High < x1.High))),(73,.bool (decide (x150.High < x1.High)))] (by kernel_rfl) fun fr => ?_
        exact r_done ⟨decide (x150.High < x1.High),_,h,fr_eq _ (by kernel_rfl),(by kernel_rfl)⟩
     clear h
     rintro fr S ⟨x153,fr,h,rfl,rfl⟩
     replace h := hK155 _ h
     refine r_done ?_
     refine r_ite (fun hb156 => ?_) (fun hb156 => ?_)
     ·replace h := h_t h hb156
      clear hb156
      refine r_bind ?_
      refine r_done ?_
      repeat refine r_done ?_
      replace h := h_m h
      subst hK159
      subst hK162
      replace h := h_m h
      subst hK167
      subst hK171
      repeat refine r_done ?_
      obtain rfl := h_out h
      exact ret_of (RV.tmp RV.nil) (le_w [false,false,false,false]) ⟨rfl,rfl⟩
     ·replace h := h_f h hb156
      clear hb156
      refine r_done ?_
      refine r_done ?_
      refine r_num (e' := w64 (x144 + 1)) rfl ?_
      exact r_done ⟨m160,lt_s hm160,w64 (x144 + 1),_,h,fr_eq _ (by kernel_rfl),(by kernel_rfl)⟩
    ·replace h := h_f h hb145
     clear hb145
     refine r_done ?_
     refine r_done ?_
     replace h := h_m h
     subst hK159
     refine r_le (le_w [false,true,true,true]) ?_
     exact r_done ⟨_,h,fr_eq _ (by kernel_rfl),(by kernel_rfl)⟩
   clear h
   rintro fr S ⟨fr,h,rfl,rfl⟩
   subst hK162
   refine r_done ?_
   refine r_bind ?_
   refine r_meet (fun fr S => ∃ fr0,fr = updL [(2,.pointer (some ⟨bq1,0,none⟩)),(3,.pointer (some ⟨bq2,0,none⟩)),(5,.int .i64 x111),(6,.int .i64 x112),(87,.bool ((!(cellplaneref04_Has x1.Proven x114.Running)) || (!(cellplaneref04_Has x1.Proven x114.Wanted))))] fr0 ∧ S = ⟨ρ,.obj bq116 (en_CellState x114) 67 :: .obj bq2 (en_State x1 g_x1) 36 :: .obj bq1 (en_Config c0 g_c0) 30 :: L⟩) ?_ ?_
   ·refine r_ld 1 tt_ok (v := .int .i64 x1.Proven) ts_3 rfl (by kernel_rfl) ?_
    refine r_kp [(2,.pointer (some ⟨bq1,0,none⟩)),(3,.pointer (some ⟨bq2,0,none⟩)),(5,.int .i64 x111),(6,.int .i64 x112),(7,.pointer (some ⟨bq116,0,none⟩)),(75,.int .i64 x1.Proven)] (by kernel_rfl) fun fr => ?_
    refine r_ld 0 tt_ok (v := .int .i64 x114.Running) ts_3 rfl (by kernel_rfl) ?_
    refine r_call (hc_61 (set0 := x1.Proven) (i1 := x114.Running)) ?_
    rintro _ _ ⟨rfl,rfl⟩
    refine r_ite (fun (hb163 : (!(cellplaneref04_Has x1.Proven x114.Running)) = true) => ?_) (fun (hb163 : (!(cellplaneref04_Has x1.Proven x114.Running)) = false) => ?_)
    ·refine r_T rfl ?_
     refine r_T rfl ?_
     refine r_T rfl ?_
     refine r_kp [(2,.pointer (some ⟨bq1,0,none⟩)),(3,.pointer (some ⟨bq2,0,none⟩)),(5,.int .i64 x111),(6,.int .i64 x112),(80,.bool true),(81,undef),(82,undef),(83,undef),(84,undef)] (by kernel_rfl) fun fr => ?_
     refine r_T rfl ?_
     refine r_T rfl ?_
     refine r_T rfl ?_
     exact r_done ⟨_,fr_eq _ (by (try rw [hb163]); kernel_rfl),(by kernel_rfl)⟩
    ·refine r_F rfl ?_
     refine r_ld 1 tt_ok (v := .int .i64 x1.Proven) ts_3 rfl (by kernel_rfl) ?_
     refine r_F rfl ?_
     refine r_F rfl ?_
     refine r_ld 0 tt_ok (v := .int .i64 x114.Wanted) ts_3 rfl (by kernel_rfl) ?_
     refine r_kp [(2,.pointer (some ⟨bq1,0,none⟩)),(3,.pointer (some ⟨bq2,0,none⟩)),(5,.int .i64 x111),(6,.int .i64 x112),(80,.bool false),(81,.pointer (some ⟨bq2,4,none⟩)),(82,.int .i64 x1.Proven),(83,.pointer (some ⟨bq116,2,none⟩)),(84,.int .i64 x114.Wanted)] (by kernel_rfl) fun fr => ?_
     refine r_F rfl ?_
     refine r_call (hc_61 (set0 := x1.Proven) (i1 := x114.Wanted)) ?_
     rintro _ _ ⟨rfl,rfl⟩
     refine r_F rfl ?_
     exact r_done ⟨_,fr_eq _ (by (try rw [hb163]); kernel_rfl),(by kernel_rfl)⟩
   rintro fr S ⟨fr,rfl,rfl⟩
   refine r_done ?_
   refine r_ite (fun hb164 => ?_) (fun hb164 => ?_)
   ·replace h := h_t h hb164
    clear hb164
    refine r_num (e' := w64 (x111 + 1)) rfl ?_
    refine r_done ?_
    refine r_done ?_
    refine r_num (e' := w64 (x112 + 1)) rfl ?_
    refine r_le (le_w [false,true,true]) ?_
    exact r_done ⟨m168,lt_s hm168,w64 (x111 + 1),w64 (x112 + 1),_,h,fr_eq _ (by kernel_rfl),(by kernel_rfl)⟩
   ·replace h := h_f h hb164
    clear hb164
    refine r_done ?_
    refine r_done ?_
    refine r_num (e' := w64 (x112 + 1)) rfl ?_
    refine r_le (le_w [false,true,true]) ?_
    exact r_done ⟨m168,lt_s hm168,x111,w64 (x112 + 1),_,h,fr_eq _ (by kernel_rfl),(by kernel_rfl)⟩
  ·replace h := h_f h hb113
   clear hb113
   refine r_done ?_
   refine r_done ?_
   replace h := h_m h
   subst hK167
   exact r_done ⟨x111,_,h,fr_eq _ (by kernel_rfl),(by kernel_rfl)⟩
 clear h
 rintro fr S ⟨x169,fr,h,rfl,rfl⟩
 subst hK171
 refine r_done ?_
 refine r_bind ?_
 refine r_meet (fun fr S => ∃ fr0,fr = updL [(4,.bool ((decide (x169 ≤ c0.Blast)) && ((decide (x1.Low ≤ x1.High)) && (decide (x1.High ≤ w64 (x1.Low + 1))))))] fr0 ∧ S = ⟨ρ,.obj bq2 (en_State x1 g_x1) 36 :: .obj bq1 (en_Config c0 g_c0) 30 :: L⟩) ?_ ?_
 ·refine r_ld 1 tt_ok (v := .int .i64 c0.Blast) ts_3 rfl (by kernel_rfl) ?_
  refine r_kp [(3,.pointer (some ⟨bq2,0,none⟩)),(90,.int .i64 x169),(92,.int .i64 c0.Blast)] (by kernel_rfl) fun fr => ?_
  refine r_ite (fun (hb172 : (decide (x169 ≤ c0.Blast)) = true) => ?_) (fun (hb172 : (decide (x169 ≤ c0.Blast)) = false) => ?_)
  ·refine r_T rfl ?_
   refine r_ld 0 tt_ok (v := .int .i64 x1.Low) ts_3 rfl (by kernel_rfl) ?_
   refine r_T rfl ?_
   refine r_T rfl ?_
   refine r_ld 0 tt_ok (v := .int .i64 x1.High) ts_3 rfl (by kernel_rfl) ?_
   refine r_T rfl ?_
   refine r_ite (fun (hb173 : (decide (x1.Low ≤ x1.High)) = true) => ?_) (fun (hb173 : (decide (x1.Low ≤ x1.High)) = false) => ?_)
   ·refine r_kp [(3,.pointer (some ⟨bq2,0,none⟩)),(101,.bool true),(102,.pointer (some ⟨bq2,7,none⟩))] (by kernel_rfl) fun fr => ?_
    refine r_T rfl ?_
    refine r_ld 0 tt_ok (v := .int .i64 x1.High) ts_3 rfl (by kernel_rfl) ?_
    refine r_T rfl ?_
    refine r_T rfl ?_
    refine r_ld 0 tt_ok (v := .int .i64 x1.Low) ts_3 rfl (by kernel_rfl) ?_
    refine r_T rfl ?_
    refine r_num (e' := w64 (x1.Low + 1)) rfl ?_
    refine r_T rfl ?_
    exact r_done ⟨_,fr_eq _ (by (try rw [hb173]); (try rw [hb172]); kernel_rfl),(by kernel_rfl)⟩
   ·refine r_kp [(3,.pointer (some ⟨bq2,0,none⟩)),(101,.bool false),(102,undef)] (by kernel_rfl) fun fr => ?_
    refine r_F rfl ?_
    refine r_F rfl ?_
    refine r_F rfl ?_
    refine r_F rfl ?_
    refine r_F rfl ?_
    refine r_F rfl ?_
    exact r_done ⟨_,fr_eq _ (by (try rw [hb173]); (try rw [hb172]); kernel_rfl),(by kernel_rfl)⟩
  ·refine r_F rfl ?_
   refine r_F rfl ?_
   refine r_F rfl ?_
   refine r_F rfl ?_
   refine r_F rfl ?_
   refine r_F rfl ?_
   refine r_kp [(3,.pointer (some ⟨bq2,0,none⟩)),(101,.bool false),(102,undef)] (by kernel_rfl) fun fr => ?_
   refine r_F rfl ?_
   refine r_F rfl ?_
   refine r_F rfl ?_
   refine r_F rfl ?_
   refine r_F rfl ?_
   refine r_F rfl ?_
   exact r_done ⟨_,fr_eq _ (by (try rw [hb172]); kernel_rfl),(by kernel_rfl)⟩
 rintro fr S ⟨fr,rfl,rfl⟩
 refine r_done ?_
 repeat refine r_done ?_
 repeat refine r_done ?_
 obtain rfl := h_out h
 exact ret_of (RV.tmp RV.nil) (le_w [false,false]) ⟨rfl,rfl⟩
theorem hc_39 {ρ : Addr → Option Value} {L : List Ent} {g_c0 : gConfig} {g_x1 : gState} {S_c0 : St} (hS_c0 : Le ⟨ρ,L⟩ S_c0) {S_x1 : St} (hS_x1 : Le ⟨ρ,L⟩ S_x1) (c0 : Config) (x1 : State) (h_c0 : Sl_Config S_c0 c0 g_c0) (h_x1 : Sl_State S_x1 x1 g_x1) {r : Bool} (h : cellplanelaw12_places c0 x1 = some r) : HC Try.prog 39 #[.agg (en_Config c0 g_c0).toArray,.agg (en_State x1 g_x1).toArray] ⟨ρ,L⟩ (fun v S' => v = .bool r ∧ S' = ⟨ρ,L⟩) := by
 replace h := h_in h
 refine HC.intro (N := 99) (args := [_,_]) tt_ok Try.func39 rfl (by decide +kernel) rfl (Nat.le_of_ble_eq_true rfl) ?_
 refine r_bind ?_
 refine r_bx (en_Config c0 g_c0) (by kernel_rfl) fun bq1 => ?_
 refine r_bx (en_State x1 g_x1) (by kernel_rfl) fun bq2 => ?_
 refine r_done ?_
 refine r_bind ?_
 refine r_bind ?_
 refine r_done ?_
 refine r_bind ?_
 replace h := h_l h; obtain ⟨K300,n301,h,hK302⟩ := h
 refine r_loop (fun n fr S => ∃ (x201 : Int),∃ fr0,(runN (cellplanelaw12_places.b1 x1 c0) n x201).bind K300 = some r ∧ fr = updL [(2,.pointer (some ⟨bq1,0,none⟩)),(3,.pointer (some ⟨bq2,0,none⟩)),(5,.int .i64 x201)] fr0 ∧ S = ⟨ρ,.obj bq2 (en_State x1 g_x1) 36 :: .obj bq1 (en_Config c0 g_c0) 30 :: L⟩) n301 ⟨0,_,h,fr_eq _ (by kernel_rfl),(by kernel_rfl)⟩ ?_
 clear h
 rintro n301 fr S ⟨x201,fr,h,rfl,rfl⟩
 replace h := h_r h; obtain ⟨m303,hm303,h⟩ := h
 refine r_bind ?_
 refine r_bind ?_
 refine r_ld 0 tt_ok (v := .slice g_x1.Tenants.1 x1.Tenants.length g_x1.Tenants.2) ts_33 rfl (by kernel_rfl) ?_
 refine r_done ?_
 refine r_ite (fun hb202 => ?_) (fun hb202 => ?_)
 ·replace h := h_t h hb202
  clear hb202
  refine r_done ?_
  refine r_bind ?_
  refine r_bind ?_
  refine r_bind ?_
  refine r_ld 0 tt_ok (v := .slice g_x1.Tenants.1 x1.Tenants.length g_x1.Tenants.2) ts_33 rfl (by kernel_rfl) ?_
  replace h := h_b h; obtain ⟨x203,hx204,h⟩ := h
  refine r_el hx204 ((h_x1.1).rd.mono ((le_d 2).trans hS_x1)) ?_
  refine r_kp [(2,.pointer (some ⟨bq1,0,none⟩)),(3,.pointer (some ⟨bq2,0,none⟩)),(5,.int .i64 x201),(20,.pointer (some ((adr g_x1.Tenants.1).add (x201.toNat * 12))))] (by kernel_rfl) fun fr => ?_
  refine r_len (E := eTenantState) tt_ok (en_TenantState x203) (idx_get hx204) ((h_x1.1).rd.mono ((le_d 2).trans hS_x1)) ta_50 rfl (pl0 _ _) (by kernel_rfl) (by kernel_rfl) ?_
  refine r_al tt_ok (en_TenantState (⟨false,false,0,0,0,0,0,(⟨0,0,0,0,0⟩ : Window)⟩ : TenantState)) ti_50 (by kernel_rfl) fun bq205 => ?_
  refine r_s 0 tt_ok (en_TenantState x203) (fitn ta_50 (by kernel_rfl)) rfl (by kernel_rfl) (by kernel_rfl) ?_
  refine r_done ?_
  refine r_bind ?_
  refine r_bind ?_
  refine r_ld 0 tt_ok (v := .bool x203.Placed) ts_4 rfl (by kernel_rfl) ?_
  refine r_done ?_
  refine r_ite (fun hb206 => ?_) (fun hb206 => ?_)
  ·replace h := h_t h hb206
   clear hb206
   refine r_done ?_
   refine r_done ?_
   refine r_done ?_
   refine r_num (e' := w64 (x201 + 1)) rfl ?_
   refine r_keep [(2,.pointer (some ⟨bq1,0,none⟩)),(3,.pointer (some ⟨bq2,0,none⟩)),(5,.int .i64 (w64 (x201 + 1)))] (by kernel_rfl) fun fr => ?_
   refine r_le (le_w [false,true,true]) ?_
   exact r_done ⟨m303,lt_s hm303,w64 (x201 + 1),_,h,fr_eq _ (by kernel_rfl),(by kernel_rfl)⟩
  ·replace h := h_f h hb206
   clear hb206
   refine r_done ?_
   refine r_bind ?_
   refine r_ld 0 tt_ok (v := .int .i64 x203.Home) ts_3 rfl (by kernel_rfl) ?_
   refine r_ld 0 tt_ok (v := .int .i64 x203.Standby) ts_3 rfl (by kernel_rfl) ?_
   refine r_kp [(2,.pointer (some ⟨bq1,0,none⟩)),(3,.pointer (some ⟨bq2,0,none⟩)),(5,.int .i64 x201),(6,.pointer (some ⟨bq205,0,none⟩)),(26,.int .i64 x203.Home),(28,.int .i64 x203.Standby)] (by kernel_rfl) fun fr => ?_
   refine r_ld 0 tt_ok (v := .int .i64 x203.Next) ts_3 rfl (by kernel_rfl) ?_
   refine r_ld 0 tt_ok (v := .int .i64 x203.Target) ts_3 rfl (by kernel_rfl) ?_
   refine r_bs tt_ok (fl eI64.en [x203.Home,x203.Standby,x203.Next,x203.Target]) te_22 ti_3 (by kernel_rfl) (by kernel_rfl) (by kernel_rfl) (by kernel_rfl) fun bq207 => ?_
   refine r_done ?_
   refine r_bind ?_
   replace h := h_k h; obtain ⟨K245,h,hK246⟩ := h
   refine r_meet (fun fr S => ∃ fr0,(cellplanelaw12_places.j2 x201 x203 c0).bind K245 = some r ∧ fr = updL [(2,.pointer (some ⟨bq1,0,none⟩)),(3,.pointer (some ⟨bq2,0,none⟩)),(5,.int .i64 x201),(6,.pointer (some ⟨bq205,0,none⟩)),(7,.slice (some ⟨bq207,0,none⟩) [x203.Home,x203.Standby,x203.Next,x203.Target].length 4)] fr0 ∧ S = ⟨ρ,.row (some ⟨bq207,0,none⟩) [x203.Home,x203.Standby,x203.Next,x203.Target].length 4 3 1 (fl eI64.en [x203.Home,x203.Standby,x203.Next,x203.Target]) :: .obj bq205 (en_TenantState x203) 50 :: .obj bq2 (en_State x1 g_x1) 36 :: .obj bq1 (en_Config c0 g_c0) 30 :: L⟩) ?_ ?_
   ·refine r_bind ?_
    refine r_done ?_
    refine r_bind ?_
    replace h := h_l h; obtain ⟨K241,n242,h,hK243⟩ := h
    refine r_loop (fun n fr S => ∃ (x230 : Int),∃ fr0,(runN (cellplanelaw12_places.b3 x203 c0 x201) n x230).bind K241 = some r ∧ fr = updL [(2,.pointer (some ⟨bq1,0,none⟩)),(3,.pointer (some ⟨bq2,0,none⟩)),(5,.int .i64 x201),(6,.pointer (some ⟨bq205,0,none⟩)),(7,.slice (some ⟨bq207,0,none⟩) [x203.Home,x203.Standby,x203.Next,x203.Target].length 4),(8,.int .i64 x230)] fr0 ∧ S = ⟨ρ,.row (some ⟨bq207,0,none⟩) [x203.Home,x203.Standby,x203.Next,x203.Target].length 4 3 1 (fl eI64.en [x203.Home,x203.Standby,x203.Next,x203.Target]) :: .obj bq205 (en_TenantState x203) 50 :: .obj bq2 (en_State x1 g_x1) 36 :: .obj bq1 (en_Config c0 g_c0) 30 :: L⟩) n242 ⟨0,_,h,fr_eq _ (by kernel_rfl),(by kernel_rfl)⟩ ?_
    clear h
    rintro n242 fr S ⟨x230,fr,h,rfl,rfl⟩
    replace h := h_r h; obtain ⟨m244,hm244,h⟩ := h
    refine r_bind ?_
    refine r_bind ?_
    refine r_done ?_
    refine r_ite (fun hb231 => ?_) (fun hb231 => ?_)
    ·replace h := h_t h hb231
     clear hb231
     refine r_done ?_
     refine r_bind ?_
     refine r_bind ?_
     refine r_bind ?_
     replace h := h_j h; obtain ⟨K238,h,hK239⟩ := h
     refine r_meet (fun fr S => ∃ (x237 : Bool),∃ fr0,K238 x237 = some r ∧ fr = updL [(2,.pointer (some ⟨bq1,0,none⟩)),(3,.pointer (some ⟨bq2,0,none⟩)),(5,.int .i64 x201),(6,.pointer (some ⟨bq205,0,none⟩)),(7,.slice (some ⟨bq207,0,none⟩) [x203.Home,x203.Standby,x203.Next,x203.Target].length 4),(8,.int .i64 x230),(52,.bool x237)] fr0 ∧ S = ⟨ρ,.row (some ⟨bq207,0,none⟩) [x203.Home,x203.Standby,x203.Next,x203.Target].length 4 3 1 (fl eI64.en [x203.Home,x203.Standby,x203.Next,x203.Target]) :: .obj bq205 (en_TenantState x203) 50 :: .obj bq2 (en_State x1 g_x1) 36 :: .obj bq1 (en_Config c0 g_c0) 30 :: L⟩) ?_ ?_
     refine r_mix tt_ok hm_ok _ _ [] (.pure 0 (.pure 1 (.vb 2 (.vb 3 (.pure 4 (.pure 5 (.vb 6 (.pure 7 (.pure 8 (.pure 9 (.vb 10 (.vb 11 (.eff 12 (.pure 13 (.pure 14 .nil))))))))))))))) (le_w [true,true,true,true]) (le_w [true,true,true,true]) ?_ ?_
     ·decide +kernel
     refine x_p rfl ?_
     refine v_done ?_
     refine x_p rfl ?_
     refine v_done ?_
     refine x_kp [(2,.pointer (some ⟨bq1,0,none⟩)),(3,.pointer (some ⟨bq2,0,none⟩)),(5,.int .i64 x201),(6,.pointer (some ⟨bq205,0,none⟩)),(7,.slice (some ⟨bq207,0,none⟩) [x203.Home,x203.Standby,x203.Next,x203.Target].length 4),(8,.int .i64 x230),(38,.slice (some ⟨bq207,0,none⟩) [x203.Home,x203.Standby,x203.Next,x203.Target].length 4),(39,.int .i64 x230)] (by kernel_rfl) fun fr => ?_
     refine x_vb rfl ?_
     replace h := h_b h; obtain ⟨x232,hx233,h⟩ := h
     refine v_el hx233 (rd_row 0 rfl) ?_
     refine v_done ?_
     refine x_vb rfl ?_
     refine v_lec (E := eI64) tt_ok (v := .int .i64 x232) (idx_get hx233) (rd_row 0 rfl) ts_3 rfl (pl0 _ _) (by kernel_rfl) ?_
     refine v_done ?_
     refine x_p rfl ?_
     refine v_done ?_
     refine x_p rfl ?_
     refine v_done ?_
     refine x_vb rfl ?_
     refine v_ite (fun (hb234 : (decide (0 ≤ x232)) = true) => ?_) (fun (hb234 : (decide (0 ≤ x232)) = false) => ?_)
     ·replace h := h_t h hb234
      clear hb234
      refine v_ldn 3 tt_ok (en_Config c0 g_c0) ta_30 rfl (by kernel_rfl) (by kernel_rfl) ?_
      refine v_done ?_
      refine x_p rfl ?_
      refine v_T rfl ?_
      refine v_done ?_
      refine x_p rfl ?_
      refine v_T rfl ?_
      refine v_done ?_
      refine x_p rfl ?_
      refine v_T rfl ?_
      refine v_done ?_
      refine x_vb rfl ?_
      refine v_T rfl ?_
      refine v_el hx233 (rd_row 0 rfl) ?_
      refine v_done ?_
      refine x_kp [(2,.pointer (some ⟨bq1,0,none⟩)),(3,.pointer (some ⟨bq2,0,none⟩)),(5,.int .i64 x201),(6,.pointer (some ⟨bq205,0,none⟩)),(7,.slice (some ⟨bq207,0,none⟩) [x203.Home,x203.Standby,x203.Next,x203.Target].length 4),(8,.int .i64 x230),(43,.bool true),(44,.agg (en_Config c0 g_c0).toArray),(45,.int .i64 x201),(46,.slice (some ⟨bq207,0,none⟩) [x203.Home,x203.Standby,x203.Next,x203.Target].length 4),(47,.int .i64 x230),(48,.pointer (some ((adr (some ⟨bq207,0,none⟩)).add (x230.toNat * 1))))] (by kernel_rfl) fun fr => ?_
      refine x_vb rfl ?_
      refine v_T rfl ?_
      refine v_lec (E := eI64) tt_ok (v := .int .i64 x232) (idx_get hx233) (rd_row 0 rfl) ts_3 rfl (pl0 _ _) (by kernel_rfl) ?_
      refine v_done ?_
      refine x_e rfl ?_
      refine r_T rfl ?_
      replace h := h_b h; obtain ⟨x236,hx235,h⟩ := h
      refine r_call (hc_62 (g_c0 := g_c0) (c0 := c0) (tenant1 := x201) (cell2 := x232) (hS_c0 := by exact (le_d 4).trans hS_c0) (h_c0 := by exact h_c0) (h := hx235)) ?_
      rintro _ _ ⟨rfl,rfl⟩
      refine r_done ⟨rfl,k_a (le_w [true,true,true,true]) (le_w [true,true,true,true]),?_⟩
      refine x_p rfl ?_
      refine v_T rfl ?_
      refine v_done ?_
      refine x_p rfl ?_
      refine v_done ?_
      refine x_k [(2,.pointer (some ⟨bq1,0,none⟩)),(3,.pointer (some ⟨bq2,0,none⟩)),(5,.int .i64 x201),(6,.pointer (some ⟨bq205,0,none⟩)),(7,.slice (some ⟨bq207,0,none⟩) [x203.Home,x203.Standby,x203.Next,x203.Target].length 4),(8,.int .i64 x230),(44,.agg (en_Config c0 g_c0).toArray),(45,.int .i64 x201),(46,.slice (some ⟨bq207,0,none⟩) [x203.Home,x203.Standby,x203.Next,x203.Target].length 4),(47,.int .i64 x230),(48,.pointer (some ((adr (some ⟨bq207,0,none⟩)).add (x230.toNat * 1)))),(49,.int .i64 x232),(50,.bool x236),(51,.bool (!x236)),(52,.bool (!x236))] (by kernel_rfl) fun fr => ?_
      exact r_done ⟨!x236,_,h,fr_eq _ (by kernel_rfl),(by kernel_rfl)⟩
     ·replace h := h_f h hb234
      clear hb234
      refine v_done ?_
      refine x_p rfl ?_
      refine v_F rfl ?_
      refine v_done ?_
      refine x_p rfl ?_
      refine v_F rfl ?_
      refine v_done ?_
      refine x_p rfl ?_
      refine v_F rfl ?_
      refine v_done ?_
      refine x_vb rfl ?_
      refine v_F rfl ?_
      refine v_done ?_
      refine x_kp [(2,.pointer (some ⟨bq1,0,none⟩)),(3,.pointer (some ⟨bq2,0,none⟩)),(5,.int .i64 x201),(6,.pointer (some ⟨bq205,0,none⟩)),(7,.slice (some ⟨bq207,0,none⟩) [x203.Home,x203.Standby,x203.Next,x203.Target].length 4),(8,.int .i64 x230),(43,.bool false),(44,undef),(45,undef),(46,undef),(47,undef),(48,undef)] (by kernel_rfl) fun fr => ?_
      refine x_vb rfl ?_
      refine v_F rfl ?_
      refine v_done ?_
      refine x_e rfl ?_
      refine r_F rfl ?_
      refine r_done ⟨rfl,k_a (le_w [true,true,true,true]) (le_w [true,true,true,true]),?_⟩
      refine x_p rfl ?_
      refine v_F rfl ?_
      refine v_done ?_
      refine x_p rfl ?_
      refine v_F rfl ?_
      refine v_done ?_
      refine x_k [(2,.pointer (some ⟨bq1,0,none⟩)),(3,.pointer (some ⟨bq2,0,none⟩)),(5,.int .i64 x201),(6,.pointer (some ⟨bq205,0,none⟩)),(7,.slice (some ⟨bq207,0,none⟩) [x203.Home,x203.Standby,x203.Next,x203.Target].length 4),(8,.int .i64 x230),(52,.bool false)] (by kernel_rfl) fun fr => ?_
      exact r_done ⟨false,_,h,fr_eq _ (by kernel_rfl),(by kernel_rfl)⟩
     clear h
     rintro fr S ⟨x237,fr,h,rfl,rfl⟩
     replace h := hK239 _ h
     refine r_done ?_
     refine r_ite (fun hb240 => ?_) (fun hb240 => ?_)
     ·replace h := h_t h hb240
      clear hb240
      refine r_bind ?_
      refine r_done ?_
      repeat refine r_done ?_
      replace h := h_m h
      subst hK243
      subst hK246
      replace h := h_m h
      subst hK302
      repeat refine r_done ?_
      obtain rfl := h_out h
      exact ret_of (RV.tmp RV.nil) (le_w [false,false,false,false]) ⟨rfl,rfl⟩
     ·replace h := h_f h hb240
      clear hb240
      refine r_done ?_
      refine r_done ?_
      refine r_num (e' := w64 (x230 + 1)) rfl ?_
      exact r_done ⟨m244,lt_s hm244,w64 (x230 + 1),_,h,fr_eq _ (by kernel_rfl),(by kernel_rfl)⟩
    ·replace h := h_f h hb231
     clear hb231
     refine r_done ?_
     refine r_done ?_
     replace h := h_m h
     subst hK243
     exact r_done ⟨_,h,fr_eq _ (by kernel_rfl),(by kernel_rfl)⟩
   clear h
   rintro fr S ⟨fr,h,rfl,rfl⟩
   subst hK246
   refine r_done ?_
   refine r_bind ?_
   replace h := h_k h; obtain ⟨K296,h,hK297⟩ := h
   refine r_meet (fun fr S => ∃ fr0,(cellplanelaw12_places.j5 x203 x201).bind K296 = some r ∧ fr = updL [(2,.pointer (some ⟨bq1,0,none⟩)),(3,.pointer (some ⟨bq2,0,none⟩)),(5,.int .i64 x201),(6,.pointer (some ⟨bq205,0,none⟩))] fr0 ∧ S = ⟨ρ,.obj bq205 (en_TenantState x203) 50 :: .obj bq2 (en_State x1 g_x1) 36 :: .obj bq1 (en_Config c0 g_c0) 30 :: L⟩) ?_ ?_
   ·refine r_bind ?_
    refine r_done ?_
    refine r_bind ?_
    replace h := h_l h; obtain ⟨K292,n293,h,hK294⟩ := h
    refine r_loop (fun n fr S => ∃ (x277 : Int),∃ fr0,(runN (cellplanelaw12_places.b6 x201 x203 c0) n x277).bind K292 = some r ∧ fr = updL [(2,.pointer (some ⟨bq1,0,none⟩)),(3,.pointer (some ⟨bq2,0,none⟩)),(5,.int .i64 x201),(6,.pointer (some ⟨bq205,0,none⟩)),(7,.slice (some ⟨bq207,0,none⟩) [x203.Home,x203.Standby,x203.Next,x203.Target].length 4),(9,.int .i64 x277)] fr0 ∧ S = ⟨ρ,.row (some ⟨bq207,0,none⟩) [x203.Home,x203.Standby,x203.Next,x203.Target].length 4 3 1 (fl eI64.en [x203.Home,x203.Standby,x203.Next,x203.Target]) :: .obj bq205 (en_TenantState x203) 50 :: .obj bq2 (en_State x1 g_x1) 36 :: .obj bq1 (en_Config c0 g_c0) 30 :: L⟩) n293 ⟨1,_,h,fr_eq _ (by kernel_rfl),(by kernel_rfl)⟩ ?_
    clear h
    rintro n293 fr S ⟨x277,fr,h,rfl,rfl⟩
    replace h := h_r h; obtain ⟨m295,hm295,h⟩ := h
    refine r_bind ?_
    refine r_bind ?_
    refine r_done ?_
    refine r_ite (fun hb278 => ?_) (fun hb278 => ?_)
    ·replace h := h_t h hb278
     clear hb278
     refine r_done ?_
     refine r_bind ?_
     refine r_bind ?_
     refine r_bind ?_
     replace h := h_j h; obtain ⟨K289,h,hK290⟩ := h
     refine r_meet (fun fr S => ∃ (x288 : Bool),∃ fr0,K289 x288 = some r ∧ fr = updL [(2,.pointer (some ⟨bq1,0,none⟩)),(3,.pointer (some ⟨bq2,0,none⟩)),(5,.int .i64 x201),(6,.pointer (some ⟨bq205,0,none⟩)),(7,.slice (some ⟨bq207,0,none⟩) [x203.Home,x203.Standby,x203.Next,x203.Target].length 4),(9,.int .i64 x277),(88,.bool x288)] fr0 ∧ S = ⟨ρ,.row (some ⟨bq207,0,none⟩) [x203.Home,x203.Standby,x203.Next,x203.Target].length 4 3 1 (fl eI64.en [x203.Home,x203.Standby,x203.Next,x203.Target]) :: .obj bq205 (en_TenantState x203) 50 :: .obj bq2 (en_State x1 g_x1) 36 :: .obj bq1 (en_Config c0 g_c0) 30 :: L⟩) ?_ ?_
     refine r_mix tt_ok hm_ok _ _ [] (.pure 0 (.pure 1 (.vb 2 (.vb 3 (.pure 4 (.pure 5 (.vb 6 (.pure 7 (.pure 8 (.vb 9 (.vb 10 (.pure 11 (.vb 12 (.eff 13 (.pure 14 (.pure 15 (.pure 16 (.vb 17 (.pure 18 (.pure 19 (.vb 20 (.pure 21 (.pure 22 (.vb 23 (.vb 24 (.pure 25 (.vb 26 (.eff 27 (.pure 28 (.pure 29 (.pure 30 (.pure 31 .nil)))))))))))))))))))))))))))))))) (le_w [true,true,true,true]) (le_w [true,true,true,true]) ?_ ?_
     ·decide +kernel
     refine x_p rfl ?_
     refine v_done ?_
     refine x_p rfl ?_
     refine v_done ?_
     refine x_kp [(2,.pointer (some ⟨bq1,0,none⟩)),(3,.pointer (some ⟨bq2,0,none⟩)),(5,.int .i64 x201),(6,.pointer (some ⟨bq205,0,none⟩)),(7,.slice (some ⟨bq207,0,none⟩) [x203.Home,x203.Standby,x203.Next,x203.Target].length 4),(9,.int .i64 x277),(57,.slice (some ⟨bq207,0,none⟩) [x203.Home,x203.Standby,x203.Next,x203.Target].length 4),(58,.int .i64 x277)] (by kernel_rfl) fun fr => ?_
     refine x_vb rfl ?_
     replace h := h_b h; obtain ⟨x279,hx280,h⟩ := h
     refine v_el hx280 (rd_row 0 rfl) ?_
     refine v_done ?_
     refine x_vb rfl ?_
     refine v_lec (E := eI64) tt_ok (v := .int .i64 x279) (idx_get hx280) (rd_row 0 rfl) ts_3 rfl (pl0 _ _) (by kernel_rfl) ?_
     refine v_done ?_
     refine x_p rfl ?_
     refine v_done ?_
     refine x_p rfl ?_
     refine v_done ?_
     refine x_vb rfl ?_
     refine v_ite (fun (hb281 : (decide (0 ≤ x279)) = true) => ?_) (fun (hb281 : (decide (0 ≤ x279)) = false) => ?_)
     ·replace h := h_t h hb281
      clear hb281
      refine v_ldn 3 tt_ok (en_Config c0 g_c0) ta_30 rfl (by kernel_rfl) (by kernel_rfl) ?_
      refine v_done ?_
      refine x_p rfl ?_
      refine v_T rfl ?_
      refine v_done ?_
      refine x_p rfl ?_
      refine v_T rfl ?_
      refine v_done ?_
      refine x_vb rfl ?_
      refine v_T rfl ?_
      refine v_el hx280 (rd_row 0 rfl) ?_
      refine v_done ?_
      refine x_vb rfl ?_
      refine v_T rfl ?_
      refine v_lec (E := eI64) tt_ok (v := .int .i64 x279) (idx_get hx280) (rd_row 0 rfl) ts_3 rfl (pl0 _ _) (by kernel_rfl) ?_
      refine v_done ?_
      refine x_kp [(2,.pointer (some ⟨bq1,0,none⟩)),(3,.pointer (some ⟨bq2,0,none⟩)),(5,.int .i64 x201),(6,.pointer (some ⟨bq205,0,none⟩)),(7,.slice (some ⟨bq207,0,none⟩) [x203.Home,x203.Standby,x203.Next,x203.Target].length 4),(9,.int .i64 x277),(62,.bool true),(63,.agg (en_Config c0 g_c0).toArray),(64,.slice (some ⟨bq207,0,none⟩) [x203.Home,x203.Standby,x203.Next,x203.Target].length 4),(65,.int .i64 x277),(66,.pointer (some ((adr (some ⟨bq207,0,none⟩)).add (x277.toNat * 1)))),(67,.int .i64 x279)] (by kernel_rfl) fun fr => ?_
      refine x_p rfl ?_
      refine v_T rfl ?_
      refine v_done ?_
      refine x_vb rfl ?_
      refine v_T rfl ?_
      refine v_ld 1 tt_ok (v := .int .i64 x203.Home) ts_3 rfl (by kernel_rfl) ?_
      refine v_done ?_
      refine x_e rfl ?_
      refine r_T rfl ?_
      replace h := h_b h; obtain ⟨x283,hx282,h⟩ := h
      refine r_call (hc_63 (g_c0 := g_c0) (c0 := c0) (a1 := x279) (b2 := x203.Home) (hS_c0 := by exact (le_d 4).trans hS_c0) (h_c0 := by exact h_c0) (h := hx282)) ?_
      rintro _ _ ⟨rfl,rfl⟩
      refine r_done ⟨rfl,k_a (le_w [true,true,true,true]) (le_w [true,true,true,true]),?_⟩
      refine x_p rfl ?_
      refine v_T rfl ?_
      refine v_done ?_
      refine x_p rfl ?_
      refine v_T rfl ?_
      refine v_done ?_
      refine x_p rfl ?_
      refine v_ite (fun (hb284 : (!x283) = true) => ?_) (fun (hb284 : (!x283) = false) => ?_)
      ·replace h := h_t h hb284
       clear hb284
       refine v_done ?_
       refine x_vb rfl ?_
       refine v_T rfl ?_
       refine v_done ?_
       refine x_p rfl ?_
       refine v_T rfl ?_
       refine v_done ?_
       refine x_p rfl ?_
       refine v_T rfl ?_
       refine v_done ?_
       refine x_kp [(2,.pointer (some ⟨bq1,0,none⟩)),(3,.pointer (some ⟨bq2,0,none⟩)),(5,.int .i64 x201),(6,.pointer (some ⟨bq205,0,none⟩)),(7,.slice (some ⟨bq207,0,none⟩) [x203.Home,x203.Standby,x203.Next,x203.Target].length 4),(9,.int .i64 x277),(62,.bool true),(63,.agg (en_Config c0 g_c0).toArray),(64,.slice (some ⟨bq207,0,none⟩) [x203.Home,x203.Standby,x203.Next,x203.Target].length 4),(65,.int .i64 x277),(66,.pointer (some ((adr (some ⟨bq207,0,none⟩)).add (x277.toNat * 1)))),(67,.int .i64 x279),(68,.pointer (some ⟨bq205,2,none⟩)),(69,.int .i64 x203.Home),(70,.bool x283),(71,.bool (!x283)),(72,.bool true),(73,undef),(74,undef),(75,undef),(76,undef)] (by kernel_rfl) fun fr => ?_
       refine x_vb rfl ?_
       refine v_done ?_
       refine x_p rfl ?_
       refine v_done ?_
       refine x_p rfl ?_
       refine v_done ?_
       refine x_vb rfl ?_
       refine v_done ?_
       refine x_vb rfl ?_
       refine v_done ?_
       refine x_p rfl ?_
       refine v_done ?_
       refine x_vb rfl ?_
       refine v_done ?_
       refine x_e rfl ?_
       refine r_done ⟨rfl,k_a (le_w [true,true,true,true]) (le_w [true,true,true,true]),?_⟩
       refine x_p rfl ?_
       refine v_done ?_
       refine x_kp [(2,.pointer (some ⟨bq1,0,none⟩)),(3,.pointer (some ⟨bq2,0,none⟩)),(5,.int .i64 x201),(6,.pointer (some ⟨bq205,0,none⟩)),(7,.slice (some ⟨bq207,0,none⟩) [x203.Home,x203.Standby,x203.Next,x203.Target].length 4),(9,.int .i64 x277),(62,.bool true),(63,.agg (en_Config c0 g_c0).toArray),(64,.slice (some ⟨bq207,0,none⟩) [x203.Home,x203.Standby,x203.Next,x203.Target].length 4),(65,.int .i64 x277),(66,.pointer (some ((adr (some ⟨bq207,0,none⟩)).add (x277.toNat * 1)))),(67,.int .i64 x279),(68,.pointer (some ⟨bq205,2,none⟩)),(69,.int .i64 x203.Home),(70,.bool x283),(71,.bool (!x283)),(72,.bool true),(73,undef),(74,undef),(75,undef),(76,undef),(77,undef),(78,undef),(79,undef),(80,undef),(81,undef),(82,undef),(83,undef),(84,undef),(85,undef)] (by kernel_rfl) fun fr => ?_
       refine x_p rfl ?_
       refine v_T rfl ?_
       refine v_done ?_
       refine x_p rfl ?_
       refine v_T rfl ?_
       refine v_T rfl ?_
       refine v_done ?_
       refine x_p rfl ?_
       refine v_done ?_
       refine x_k [(2,.pointer (some ⟨bq1,0,none⟩)),(3,.pointer (some ⟨bq2,0,none⟩)),(5,.int .i64 x201),(6,.pointer (some ⟨bq205,0,none⟩)),(7,.slice (some ⟨bq207,0,none⟩) [x203.Home,x203.Standby,x203.Next,x203.Target].length 4),(9,.int .i64 x277),(63,.agg (en_Config c0 g_c0).toArray),(64,.slice (some ⟨bq207,0,none⟩) [x203.Home,x203.Standby,x203.Next,x203.Target].length 4),(65,.int .i64 x277),(66,.pointer (some ((adr (some ⟨bq207,0,none⟩)).add (x277.toNat * 1)))),(67,.int .i64 x279),(68,.pointer (some ⟨bq205,2,none⟩)),(69,.int .i64 x203.Home),(70,.bool x283),(71,.bool (!x283)),(72,.bool true),(87,.bool true),(88,.bool true)] (by kernel_rfl) fun fr => ?_
       exact r_done ⟨true,_,h,fr_eq _ (by kernel_rfl),(by kernel_rfl)⟩
      ·replace h := h_f h hb284
       clear hb284
       refine v_done ?_
       refine x_vb rfl ?_
       refine v_F rfl ?_
       refine v_ld 1 tt_ok (v := .int .i64 x203.Target) ts_3 rfl (by kernel_rfl) ?_
       refine v_done ?_
       refine x_p rfl ?_
       refine v_F rfl ?_
       refine v_done ?_
       refine x_p rfl ?_
       refine v_F rfl ?_
       refine v_done ?_
       refine x_kp [(2,.pointer (some ⟨bq1,0,none⟩)),(3,.pointer (some ⟨bq2,0,none⟩)),(5,.int .i64 x201),(6,.pointer (some ⟨bq205,0,none⟩)),(7,.slice (some ⟨bq207,0,none⟩) [x203.Home,x203.Standby,x203.Next,x203.Target].length 4),(9,.int .i64 x277),(62,.bool true),(63,.agg (en_Config c0 g_c0).toArray),(64,.slice (some ⟨bq207,0,none⟩) [x203.Home,x203.Standby,x203.Next,x203.Target].length 4),(65,.int .i64 x277),(66,.pointer (some ((adr (some ⟨bq207,0,none⟩)).add (x277.toNat * 1)))),(67,.int .i64 x279),(68,.pointer (some ⟨bq205,2,none⟩)),(69,.int .i64 x203.Home),(70,.bool x283),(71,.bool (!x283)),(72,.bool false),(73,.pointer (some ⟨bq205,5,none⟩)),(74,.int .i64 x203.Target),(75,.bool (decide (0 ≤ x203.Target))),(76,.bool (decide (0 ≤ x203.Target)))] (by kernel_rfl) fun fr => ?_
       refine x_vb rfl ?_
       refine v_ite (fun (hb285 : (decide (0 ≤ x203.Target)) = true) => ?_) (fun (hb285 : (decide (0 ≤ x203.Target)) = false) => ?_)
       ·replace h := h_t h hb285
        clear hb285
        refine v_ldn 3 tt_ok (en_Config c0 g_c0) ta_30 rfl (by kernel_rfl) (by kernel_rfl) ?_
        refine v_done ?_
        refine x_p rfl ?_
        refine v_T rfl ?_
        refine v_done ?_
        refine x_p rfl ?_
        refine v_T rfl ?_
        refine v_done ?_
        refine x_vb rfl ?_
        refine v_T rfl ?_
        refine v_el hx280 (rd_row 0 rfl) ?_
        refine v_done ?_
        refine x_vb rfl ?_
        refine v_T rfl ?_
        refine v_lec (E := eI64) tt_ok (v := .int .i64 x279) (idx_get hx280) (rd_row 0 rfl) ts_3 rfl (pl0 _ _) (by kernel_rfl) ?_
        refine v_done ?_
        refine x_p rfl ?_
        refine v_T rfl ?_
        refine v_done ?_
        refine x_vb rfl ?_
        refine v_T rfl ?_
        refine v_ld 1 tt_ok (v := .int .i64 x203.Target) ts_3 rfl (by kernel_rfl) ?_
        refine v_done ?_
        refine x_e rfl ?_
        refine r_T rfl ?_
        replace h := h_b h; obtain ⟨x287,hx286,h⟩ := h
        refine r_call (hc_63 (g_c0 := g_c0) (c0 := c0) (a1 := x279) (b2 := x203.Target) (hS_c0 := by exact (le_d 4).trans hS_c0) (h_c0 := by exact h_c0) (h := hx286)) ?_
        rintro _ _ ⟨rfl,rfl⟩
        refine r_done ⟨rfl,k_a (le_w [true,true,true,true]) (le_w [true,true,true,true]),?_⟩
        refine x_p rfl ?_
        refine v_T rfl ?_
        refine v_done ?_
        refine x_kp [(2,.pointer (some ⟨bq1,0,none⟩)),(3,.pointer (some ⟨bq2,0,none⟩)),(5,.int .i64 x201),(6,.pointer (some ⟨bq205,0,none⟩)),(7,.slice (some ⟨bq207,0,none⟩) [x203.Home,x203.Standby,x203.Next,x203.Target].length 4),(9,.int .i64 x277),(62,.bool true),(63,.agg (en_Config c0 g_c0).toArray),(64,.slice (some ⟨bq207,0,none⟩) [x203.Home,x203.Standby,x203.Next,x203.Target].length 4),(65,.int .i64 x277),(66,.pointer (some ((adr (some ⟨bq207,0,none⟩)).add (x277.toNat * 1)))),(67,.int .i64 x279),(68,.pointer (some ⟨bq205,2,none⟩)),(69,.int .i64 x203.Home),(70,.bool x283),(71,.bool (!x283)),(72,.bool false),(73,.pointer (some ⟨bq205,5,none⟩)),(74,.int .i64 x203.Target),(75,.bool (decide (0 ≤ x203.Target))),(76,.bool true),(77,.agg (en_Config c0 g_c0).toArray),(78,.slice (some ⟨bq207,0,none⟩) [x203.Home,x203.Standby,x203.Next,x203.Target].length 4),(79,.int .i64 x277),(80,.pointer (some ((adr (some ⟨bq207,0,none⟩)).add (x277.toNat * 1)))),(81,.int .i64 x279),(82,.pointer (some ⟨bq205,5,none⟩)),(83,.int .i64 x203.Target),(84,.bool x287),(85,.bool (!x287))] (by kernel_rfl) fun fr => ?_
        refine x_p rfl ?_
        refine v_F rfl ?_
        refine v_done ?_
        refine x_p rfl ?_
        refine v_T rfl ?_
        refine v_done ?_
        refine x_p rfl ?_
        refine v_done ?_
        refine x_k [(2,.pointer (some ⟨bq1,0,none⟩)),(3,.pointer (some ⟨bq2,0,none⟩)),(5,.int .i64 x201),(6,.pointer (some ⟨bq205,0,none⟩)),(7,.slice (some ⟨bq207,0,none⟩) [x203.Home,x203.Standby,x203.Next,x203.Target].length 4),(9,.int .i64 x277),(63,.agg (en_Config c0 g_c0).toArray),(64,.slice (some ⟨bq207,0,none⟩) [x203.Home,x203.Standby,x203.Next,x203.Target].length 4),(65,.int .i64 x277),(66,.pointer (some ((adr (some ⟨bq207,0,none⟩)).add (x277.toNat * 1)))),(67,.int .i64 x279),(68,.pointer (some ⟨bq205,2,none⟩)),(69,.int .i64 x203.Home),(70,.bool x283),(71,.bool (!x283)),(72,.bool false),(73,.pointer (some ⟨bq205,5,none⟩)),(74,.int .i64 x203.Target),(75,.bool (decide (0 ≤ x203.Target))),(76,.bool true),(77,.agg (en_Config c0 g_c0).toArray),(78,.slice (some ⟨bq207,0,none⟩) [x203.Home,x203.Standby,x203.Next,x203.Target].length 4),(79,.int .i64 x277),(80,.pointer (some ((adr (some ⟨bq207,0,none⟩)).add (x277.toNat * 1)))),(81,.int .i64 x279),(82,.pointer (some ⟨bq205,5,none⟩)),(83,.int .i64 x203.Target),(84,.bool x287),(85,.bool (!x287)),(86,.bool (!x287)),(87,.bool (!x287)),(88,.bool (!x287))] (by kernel_rfl) fun fr => ?_
        exact r_done ⟨!x287,_,h,fr_eq _ (by kernel_rfl),(by kernel_rfl)⟩
       ·replace h := h_f h hb285
        clear hb285
        refine v_done ?_
        refine x_p rfl ?_
        refine v_F rfl ?_
        refine v_done ?_
        refine x_p rfl ?_
        refine v_F rfl ?_
        refine v_done ?_
        refine x_vb rfl ?_
        refine v_F rfl ?_
        refine v_done ?_
        refine x_vb rfl ?_
        refine v_F rfl ?_
        refine v_done ?_
        refine x_p rfl ?_
        refine v_F rfl ?_
        refine v_done ?_
        refine x_vb rfl ?_
        refine v_F rfl ?_
        refine v_done ?_
        refine x_e rfl ?_
        refine r_F rfl ?_
        refine r_done ⟨rfl,k_a (le_w [true,true,true,true]) (le_w [true,true,true,true]),?_⟩
        refine x_p rfl ?_
        refine v_F rfl ?_
        refine v_done ?_
        refine x_kp [(2,.pointer (some ⟨bq1,0,none⟩)),(3,.pointer (some ⟨bq2,0,none⟩)),(5,.int .i64 x201),(6,.pointer (some ⟨bq205,0,none⟩)),(7,.slice (some ⟨bq207,0,none⟩) [x203.Home,x203.Standby,x203.Next,x203.Target].length 4),(9,.int .i64 x277),(62,.bool true),(63,.agg (en_Config c0 g_c0).toArray),(64,.slice (some ⟨bq207,0,none⟩) [x203.Home,x203.Standby,x203.Next,x203.Target].length 4),(65,.int .i64 x277),(66,.pointer (some ((adr (some ⟨bq207,0,none⟩)).add (x277.toNat * 1)))),(67,.int .i64 x279),(68,.pointer (some ⟨bq205,2,none⟩)),(69,.int .i64 x203.Home),(70,.bool x283),(71,.bool (!x283)),(72,.bool false),(73,.pointer (some ⟨bq205,5,none⟩)),(74,.int .i64 x203.Target),(75,.bool (decide (0 ≤ x203.Target))),(76,.bool false),(77,undef),(78,undef),(79,undef),(80,undef),(81,undef),(82,undef),(83,undef),(84,undef),(85,undef)] (by kernel_rfl) fun fr => ?_
        refine x_p rfl ?_
        refine v_F rfl ?_
        refine v_F rfl ?_
        refine v_done ?_
        refine x_p rfl ?_
        refine v_T rfl ?_
        refine v_done ?_
        refine x_p rfl ?_
        refine v_done ?_
        refine x_k [(2,.pointer (some ⟨bq1,0,none⟩)),(3,.pointer (some ⟨bq2,0,none⟩)),(5,.int .i64 x201),(6,.pointer (some ⟨bq205,0,none⟩)),(7,.slice (some ⟨bq207,0,none⟩) [x203.Home,x203.Standby,x203.Next,x203.Target].length 4),(9,.int .i64 x277),(63,.agg (en_Config c0 g_c0).toArray),(64,.slice (some ⟨bq207,0,none⟩) [x203.Home,x203.Standby,x203.Next,x203.Target].length 4),(65,.int .i64 x277),(66,.pointer (some ((adr (some ⟨bq207,0,none⟩)).add (x277.toNat * 1)))),(67,.int .i64 x279),(68,.pointer (some ⟨bq205,2,none⟩)),(69,.int .i64 x203.Home),(70,.bool x283),(71,.bool (!x283)),(72,.bool false),(73,.pointer (some ⟨bq205,5,none⟩)),(74,.int .i64 x203.Target),(75,.bool (decide (0 ≤ x203.Target))),(76,.bool false),(86,.bool false),(87,.bool false),(88,.bool false)] (by kernel_rfl) fun fr => ?_
        exact r_done ⟨false,_,h,fr_eq _ (by kernel_rfl),(by kernel_rfl)⟩
     ·replace h := h_f h hb281
      clear hb281
      refine v_done ?_
      refine x_p rfl ?_
      refine v_F rfl ?_
      refine v_done ?_
      refine x_p rfl ?_
      refine v_F rfl ?_
      refine v_done ?_
      refine x_vb rfl ?_
      refine v_F rfl ?_
      refine v_done ?_
      refine x_vb rfl ?_
      refine v_F rfl ?_
      refine v_done ?_
      refine x_kp [(2,.pointer (some ⟨bq1,0,none⟩)),(3,.pointer (some ⟨bq2,0,none⟩)),(5,.int .i64 x201),(6,.pointer (some ⟨bq205,0,none⟩)),(7,.slice (some ⟨bq207,0,none⟩) [x203.Home,x203.Standby,x203.Next,x203.Target].length 4),(9,.int .i64 x277),(62,.bool false),(63,undef),(64,undef),(65,undef),(66,undef),(67,undef)] (by kernel_rfl) fun fr => ?_
      refine x_p rfl ?_
      refine v_F rfl ?_
      refine v_done ?_
      refine x_vb rfl ?_
      refine v_F rfl ?_
      refine v_done ?_
      refine x_e rfl ?_
      refine r_F rfl ?_
      refine r_done ⟨rfl,k_a (le_w [true,true,true,true]) (le_w [true,true,true,true]),?_⟩
      refine x_p rfl ?_
      refine v_F rfl ?_
      refine v_done ?_
      refine x_p rfl ?_
      refine v_F rfl ?_
      refine v_done ?_
      refine x_p rfl ?_
      refine v_done ?_
      refine x_vb rfl ?_
      refine v_done ?_
      refine x_p rfl ?_
      refine v_done ?_
      refine x_p rfl ?_
      refine v_done ?_
      refine x_kp [(2,.pointer (some ⟨bq1,0,none⟩)),(3,.pointer (some ⟨bq2,0,none⟩)),(5,.int .i64 x201),(6,.pointer (some ⟨bq205,0,none⟩)),(7,.slice (some ⟨bq207,0,none⟩) [x203.Home,x203.Standby,x203.Next,x203.Target].length 4),(9,.int .i64 x277),(62,.bool false),(63,undef),(64,undef),(65,undef),(66,undef),(67,undef),(68,undef),(69,undef),(70,undef),(71,undef),(72,undef),(73,undef),(74,undef),(75,undef),(76,undef)] (by kernel_rfl) fun fr => ?_
      refine x_vb rfl ?_
      refine v_done ?_
      refine x_p rfl ?_
      refine v_done ?_
      refine x_p rfl ?_
      refine v_done ?_
      refine x_vb rfl ?_
      refine v_done ?_
      refine x_vb rfl ?_
      refine v_done ?_
      refine x_p rfl ?_
      refine v_done ?_
      refine x_vb rfl ?_
      refine v_done ?_
      refine x_e rfl ?_
      refine r_done ⟨rfl,k_a (le_w [true,true,true,true]) (le_w [true,true,true,true]),?_⟩
      refine x_p rfl ?_
      refine v_done ?_
      refine x_kp [(2,.pointer (some ⟨bq1,0,none⟩)),(3,.pointer (some ⟨bq2,0,none⟩)),(5,.int .i64 x201),(6,.pointer (some ⟨bq205,0,none⟩)),(7,.slice (some ⟨bq207,0,none⟩) [x203.Home,x203.Standby,x203.Next,x203.Target].length 4),(9,.int .i64 x277),(62,.bool false),(63,undef),(64,undef),(65,undef),(66,undef),(67,undef),(68,undef),(69,undef),(70,undef),(71,undef),(72,undef),(73,undef),(74,undef),(75,undef),(76,undef),(77,undef),(78,undef),(79,undef),(80,undef),(81,undef),(82,undef),(83,undef),(84,undef),(85,undef)] (by kernel_rfl) fun fr => ?_
      refine x_p rfl ?_
      refine v_done ?_
      refine x_p rfl ?_
      refine v_F rfl ?_
      refine v_done ?_
      refine x_p rfl ?_
      refine v_F rfl ?_
      refine v_done ?_
      refine x_k [(2,.pointer (some ⟨bq1,0,none⟩)),(3,.pointer (some ⟨bq2,0,none⟩)),(5,.int .i64 x201),(6,.pointer (some ⟨bq205,0,none⟩)),(7,.slice (some ⟨bq207,0,none⟩) [x203.Home,x203.Standby,x203.Next,x203.Target].length 4),(9,.int .i64 x277),(88,.bool false)] (by kernel_rfl) fun fr => ?_
      exact r_done ⟨false,_,h,fr_eq _ (by kernel_rfl),(by kernel_rfl)⟩
     clear h
     rintro fr S ⟨x288,fr,h,rfl,rfl⟩
     replace h := hK290 _ h
     refine r_done ?_
     refine r_ite (fun hb291 => ?_) (fun hb291 => ?_)
     ·replace h := h_t h hb291
      clear hb291
      refine r_bind ?_
      refine r_done ?_
      repeat refine r_done ?_
      replace h := h_m h
      subst hK294
      subst hK297
      replace h := h_m h
      subst hK302
      repeat refine r_done ?_
      obtain rfl := h_out h
      exact ret_of (RV.tmp RV.nil) (le_w [false,false,false,false]) ⟨rfl,rfl⟩
     ·replace h := h_f h hb291
      clear hb291
      refine r_done ?_
      refine r_done ?_
      refine r_num (e' := w64 (x277 + 1)) rfl ?_
      exact r_done ⟨m295,lt_s hm295,w64 (x277 + 1),_,h,fr_eq _ (by kernel_rfl),(by kernel_rfl)⟩
    ·replace h := h_f h hb278
     clear hb278
     refine r_done ?_
     refine r_done ?_
     replace h := h_m h
     subst hK294
     refine r_le (le_w [false,true,true,true]) ?_
     exact r_done ⟨_,h,fr_eq _ (by kernel_rfl),(by kernel_rfl)⟩
   clear h
   rintro fr S ⟨fr,h,rfl,rfl⟩
   subst hK297
   refine r_done ?_
   refine r_bind ?_
   refine r_meet (fun fr S => ∃ fr0,fr = updL [(2,.pointer (some ⟨bq1,0,none⟩)),(3,.pointer (some ⟨bq2,0,none⟩)),(5,.int .i64 x201),(98,.bool ((decide (x203.Home < 0)) || (decide (x203.Target = x203.Home))))] fr0 ∧ S = ⟨ρ,.obj bq205 (en_TenantState x203) 50 :: .obj bq2 (en_State x1 g_x1) 36 :: .obj bq1 (en_Config c0 g_c0) 30 :: L⟩) ?_ ?_
   ·refine r_ld 0 tt_ok (v := .int .i64 x203.Home) ts_3 rfl (by kernel_rfl) ?_
    refine r_ite (fun (hb298 : (decide (x203.Home < 0)) = true) => ?_) (fun (hb298 : (decide (x203.Home < 0)) = false) => ?_)
    ·refine r_kp [(2,.pointer (some ⟨bq1,0,none⟩)),(3,.pointer (some ⟨bq2,0,none⟩)),(5,.int .i64 x201),(6,.pointer (some ⟨bq205,0,none⟩)),(92,.bool true),(93,undef)] (by kernel_rfl) fun fr => ?_
     refine r_T rfl ?_
     refine r_T rfl ?_
     refine r_T rfl ?_
     refine r_T rfl ?_
     refine r_T rfl ?_
     exact r_done ⟨_,fr_eq _ (by (try rw [hb298]); kernel_rfl),(by kernel_rfl)⟩
    ·refine r_kp [(2,.pointer (some ⟨bq1,0,none⟩)),(3,.pointer (some ⟨bq2,0,none⟩)),(5,.int .i64 x201),(6,.pointer (some ⟨bq205,0,none⟩)),(92,.bool false),(93,.pointer (some ⟨bq205,5,none⟩))] (by kernel_rfl) fun fr => ?_
     refine r_F rfl ?_
     refine r_ld 0 tt_ok (v := .int .i64 x203.Target) ts_3 rfl (by kernel_rfl) ?_
     refine r_F rfl ?_
     refine r_F rfl ?_
     refine r_ld 0 tt_ok (v := .int .i64 x203.Home) ts_3 rfl (by kernel_rfl) ?_
     refine r_F rfl ?_
     exact r_done ⟨_,fr_eq _ (by (try rw [hb298]); kernel_rfl),(by kernel_rfl)⟩
   rintro fr S ⟨fr,rfl,rfl⟩
   refine r_done ?_
   refine r_ite (fun hb299 => ?_) (fun hb299 => ?_)
   ·replace h := h_t h hb299
    clear hb299
    refine r_bind ?_
    refine r_done ?_
    repeat refine r_done ?_
    replace h := h_m h
    subst hK302
    repeat refine r_done ?_
    obtain rfl := h_out h
    exact ret_of (RV.tmp RV.nil) (le_w [false,false,false]) ⟨rfl,rfl⟩
   ·replace h := h_f h hb299
    clear hb299
    refine r_done ?_
    refine r_done ?_
    refine r_num (e' := w64 (x201 + 1)) rfl ?_
    refine r_le (le_w [false,true,true]) ?_
    exact r_done ⟨m303,lt_s hm303,w64 (x201 + 1),_,h,fr_eq _ (by kernel_rfl),(by kernel_rfl)⟩
 ·replace h := h_f h hb202
  clear hb202
  refine r_done ?_
  refine r_done ?_
  replace h := h_m h
  subst hK302
  refine r_done ?_
  refine r_bind ?_
  refine r_done ?_
  repeat refine r_done ?_
  repeat refine r_done ?_
  obtain rfl := h_out h
  exact ret_of (RV.tmp RV.nil) (le_w [false,false]) ⟨rfl,rfl⟩
theorem hc_40 {ρ : Addr → Option Value} {L : List Ent} {g_s0 : gState} {g_x1 : gState} {S_s0 : St} (hS_s0 : Le ⟨ρ,L⟩ S_s0) {S_x1 : St} (hS_x1 : Le ⟨ρ,L⟩ S_x1) (s0 : State) (x1 : State) (h_s0 : Sl_State S_s0 s0 g_s0) (h_x1 : Sl_State S_x1 x1 g_x1) {r : Bool} (h : cellplanelaw12_epochs s0 x1 = some r) : HC Try.prog 40 #[.agg (en_State s0 g_s0).toArray,.agg (en_State x1 g_x1).toArray] ⟨ρ,L⟩ (fun v S' => v = .bool r ∧ S' = ⟨ρ,L⟩) := by
 replace h := h_in h
 refine HC.intro (N := 96) (args := [_,_]) tt_ok Try.func40 rfl (by decide +kernel) rfl (Nat.le_of_ble_eq_true rfl) ?_
 refine r_bind ?_
 refine r_bx (en_State s0 g_s0) (by kernel_rfl) fun bq1 => ?_
 refine r_bx (en_State x1 g_x1) (by kernel_rfl) fun bq2 => ?_
 refine r_done ?_
 refine r_bind ?_
 refine r_bind ?_
 refine r_meet (fun fr S => ∃ fr0,fr = updL [(2,.pointer (some ⟨bq1,0,none⟩)),(3,.pointer (some ⟨bq2,0,none⟩)),(20,.bool ((decide (x1.Tick < s0.Tick)) || (!decide (x1.Count = w64 (s0.Count + 1)))))] fr0 ∧ S = ⟨ρ,.obj bq2 (en_State x1 g_x1) 36 :: .obj bq1 (en_State s0 g_s0) 36 :: L⟩) ?_ ?_
 ·refine r_ld 0 tt_ok (v := .int .i64 x1.Tick) ts_3 rfl (by kernel_rfl) ?_
  refine r_kp [(2,.pointer (some ⟨bq1,0,none⟩)),(3,.pointer (some ⟨bq2,0,none⟩)),(9,.int .i64 x1.Tick)] (by kernel_rfl) fun fr => ?_
  refine r_ld 1 tt_ok (v := .int .i64 s0.Tick) ts_3 rfl (by kernel_rfl) ?_
  refine r_ite (fun (hb3 : (decide (x1.Tick < s0.Tick)) = true) => ?_) (fun (hb3 : (decide (x1.Tick < s0.Tick)) = false) => ?_)
  ·refine r_T rfl ?_
   refine r_T rfl ?_
   refine r_T rfl ?_
   refine r_T rfl ?_
   refine r_kp [(2,.pointer (some ⟨bq1,0,none⟩)),(3,.pointer (some ⟨bq2,0,none⟩)),(13,.bool true),(15,undef),(18,undef)] (by kernel_rfl) fun fr => ?_
   refine r_T rfl ?_
   refine r_T rfl ?_
   exact r_done ⟨_,fr_eq _ (by (try rw [hb3]); kernel_rfl),(by kernel_rfl)⟩
  ·refine r_F rfl ?_
   refine r_ld 0 tt_ok (v := .int .i64 x1.Count) ts_3 rfl (by kernel_rfl) ?_
   refine r_F rfl ?_
   refine r_F rfl ?_
   refine r_ld 1 tt_ok (v := .int .i64 s0.Count) ts_3 rfl (by kernel_rfl) ?_
   refine r_F rfl ?_
   refine r_num (e' := w64 (s0.Count + 1)) rfl ?_
   refine r_kp [(2,.pointer (some ⟨bq1,0,none⟩)),(3,.pointer (some ⟨bq2,0,none⟩)),(13,.bool false),(15,.int .i64 x1.Count),(18,.int .i64 (w64 (s0.Count + 1)))] (by kernel_rfl) fun fr => ?_
   refine r_F rfl ?_
   exact r_done ⟨_,fr_eq _ (by (try rw [hb3]); kernel_rfl),(by kernel_rfl)⟩
 rintro fr S ⟨fr,rfl,rfl⟩
 refine r_done ?_
 refine r_ite (fun hb4 => ?_) (fun hb4 => ?_)
 ·replace h := h_t h hb4
  clear hb4
  refine r_bind ?_
  refine r_done ?_
  repeat refine r_done ?_
  repeat refine r_done ?_
  obtain rfl := h_out h
  exact ret_of (RV.tmp RV.nil) (le_w [false,false]) ⟨rfl,rfl⟩
 ·replace h := h_f h hb4
  clear hb4
  refine r_done ?_
  refine r_bind ?_
  refine r_bind ?_
  refine r_done ?_
  refine r_bind ?_
  replace h := h_l h; obtain ⟨K80,n81,h,hK82⟩ := h
  refine r_loop (fun n fr S => ∃ (x55 : Int),∃ fr0,(runN (cellplanelaw12_epochs.b1 x1 s0) n x55).bind K80 = some r ∧ fr = updL [(2,.pointer (some ⟨bq1,0,none⟩)),(3,.pointer (some ⟨bq2,0,none⟩)),(5,.int .i64 x55)] fr0 ∧ S = ⟨ρ,.obj bq2 (en_State x1 g_x1) 36 :: .obj bq1 (en_State s0 g_s0) 36 :: L⟩) n81 ⟨0,_,h,fr_eq _ (by kernel_rfl),(by kernel_rfl)⟩ ?_
  clear h
  rintro n81 fr S ⟨x55,fr,h,rfl,rfl⟩
  replace h := h_r h; obtain ⟨m83,hm83,h⟩ := h
  refine r_bind ?_
  refine r_bind ?_
  refine r_ld 0 tt_ok (v := .slice g_x1.Tenants.1 x1.Tenants.length g_x1.Tenants.2) ts_33 rfl (by kernel_rfl) ?_
  refine r_done ?_
  refine r_ite (fun hb56 => ?_) (fun hb56 => ?_)
  ·replace h := h_t h hb56
   clear hb56
   refine r_done ?_
   refine r_bind ?_
   refine r_bind ?_
   refine r_bind ?_
   replace h := h_j h; obtain ⟨K69,h,hK70⟩ := h
   refine r_meet (fun fr S => ∃ (y66 : TenantState),∃ (y68 : TenantState),∃ (bq65 : Nat),∃ (bq67 : Nat),∃ fr0,K69 (y66,y68) = some r ∧ fr = updL [(2,.pointer (some ⟨bq1,0,none⟩)),(3,.pointer (some ⟨bq2,0,none⟩)),(5,.int .i64 x55),(6,.pointer (some ⟨bq65,0,none⟩)),(7,.pointer (some ⟨bq67,0,none⟩))] fr0 ∧ S = ⟨ρ,.obj bq65 (en_TenantState y66) 50 :: .obj bq67 (en_TenantState y68) 50 :: .obj bq2 (en_State x1 g_x1) 36 :: .obj bq1 (en_State s0 g_s0) 36 :: L⟩) ?_ ?_
   ·refine r_mix tt_ok hm_ok _ _ [] (.pure 0 (.vb 1 (.pure 2 (.vb 3 (.vb 4 (.pure 5 (.vb 6 (.pure 7 (.vb 8 (.vb 9 (.two 10 11 (.eff 11 (.eff 12 (.eff 13 .nil))) (.eff 10 (.eff 12 (.eff 13 .nil)))))))))))))) (le_w [true,true]) (le_w [true,true]) ?_ ?_
    ·decide +kernel
    refine x_p rfl ?_
    refine v_done ?_
    refine x_vb rfl ?_
    refine v_ld 1 tt_ok (v := .slice g_s0.Tenants.1 s0.Tenants.length g_s0.Tenants.2) ts_33 rfl (by kernel_rfl) ?_
    refine v_done ?_
    refine x_p rfl ?_
    refine v_done ?_
    refine x_vb rfl ?_
    replace h := h_b h; obtain ⟨x57,hx58,h⟩ := h
    refine v_el hx58 ((h_s0.1).rd.mono ((le_d 2).trans hS_s0)) ?_
    refine v_done ?_
    refine x_vb rfl ?_
    refine v_len (E := eTenantState) tt_ok (en_TenantState x57) (idx_get hx58) ((h_s0.1).rd.mono ((le_d 2).trans hS_s0)) ta_50 rfl (pl0 _ _) (by kernel_rfl) (by kernel_rfl) ?_
    refine v_done ?_
    refine x_p rfl ?_
    refine v_done ?_
    refine x_vb rfl ?_
    refine v_ld 0 tt_ok (v := .slice g_x1.Tenants.1 x1.Tenants.length g_x1.Tenants.2) ts_33 rfl (by kernel_rfl) ?_
    refine v_done ?_
    refine x_p rfl ?_
    refine v_done ?_
    refine x_vb rfl ?_
    replace h := h_b h; obtain ⟨x59,hx60,h⟩ := h
    refine v_el hx60 ((h_x1.1).rd.mono ((le_d 2).trans hS_x1)) ?_
    refine v_done ?_
    refine x_kp [(2,.pointer (some ⟨bq1,0,none⟩)),(3,.pointer (some ⟨bq2,0,none⟩)),(5,.int .i64 x55),(32,.agg (en_TenantState x57).toArray),(36,.pointer (some ((adr g_x1.Tenants.1).add (x55.toNat * 12))))] (by kernel_rfl) fun fr => ?_
    refine x_vb rfl ?_
    refine v_len (E := eTenantState) tt_ok (en_TenantState x59) (idx_get hx60) ((h_x1.1).rd.mono ((le_d 2).trans hS_x1)) ta_50 rfl (pl0 _ _) (by kernel_rfl) (by kernel_rfl) ?_
    refine v_done ?_
    refine x_2 rfl rfl ?_ ?_
    ·refine r_al tt_ok (en_TenantState (⟨false,false,0,0,0,0,0,(⟨0,0,0,0,0⟩ : Window)⟩ : TenantState)) ti_50 (by kernel_rfl) fun bq61 => ?_
     refine r_done ⟨rfl,k_a (le_w [false,true,true]) (le_w [false,true,true]),?_⟩
     refine x_e rfl ?_
     refine r_al tt_ok (en_TenantState (⟨false,false,0,0,0,0,0,(⟨0,0,0,0,0⟩ : Window)⟩ : TenantState)) ti_50 (by kernel_rfl) fun bq62 => ?_
     refine r_done ⟨rfl,k_a (le_w [false,false,true,true]) (le_w [false,false,true,true]),?_⟩
     refine x_e rfl ?_
     refine r_s 1 tt_ok (en_TenantState x57) (fitn ta_50 (by kernel_rfl)) rfl (by kernel_rfl) (by kernel_rfl) ?_
     refine r_done ⟨rfl,k_a (le_w [false,false,true,true]) (le_w [false,false,true,true]),?_⟩
     refine x_e rfl ?_
     refine r_s 0 tt_ok (en_TenantState x59) (fitn ta_50 (by kernel_rfl)) rfl (by kernel_rfl) (by kernel_rfl) ?_
     refine r_done ⟨rfl,k_a (le_w [false,false,true,true]) (le_w [false,false,true,true]),?_⟩
     refine x_k [(2,.pointer (some ⟨bq1,0,none⟩)),(3,.pointer (some ⟨bq2,0,none⟩)),(5,.int .i64 x55),(6,.pointer (some ⟨bq61,0,none⟩)),(7,.pointer (some ⟨bq62,0,none⟩))] (by kernel_rfl) fun fr => ?_
     refine r_le ((le_mv 3).trans ((le_mv 3).trans ((le_mv 2).trans (le_mv 3)))) ?_
     exact r_done ⟨x57,x59,bq61,bq62,_,h,fr_eq _ (by kernel_rfl),(by kernel_rfl)⟩
    ·refine r_al tt_ok (en_TenantState (⟨false,false,0,0,0,0,0,(⟨0,0,0,0,0⟩ : Window)⟩ : TenantState)) ti_50 (by kernel_rfl) fun bq63 => ?_
     refine r_done ⟨rfl,k_a (le_w [false,true,true]) (le_w [false,true,true]),?_⟩
     refine x_e rfl ?_
     refine r_al tt_ok (en_TenantState (⟨false,false,0,0,0,0,0,(⟨0,0,0,0,0⟩ : Window)⟩ : TenantState)) ti_50 (by kernel_rfl) fun bq64 => ?_
     refine r_done ⟨rfl,k_a (le_w [false,false,true,true]) (le_w [false,false,true,true]),?_⟩
     refine x_e rfl ?_
     refine r_s 0 tt_ok (en_TenantState x57) (fitn ta_50 (by kernel_rfl)) rfl (by kernel_rfl) (by kernel_rfl) ?_
     refine r_done ⟨rfl,k_a (le_w [false,false,true,true]) (le_w [false,false,true,true]),?_⟩
     refine x_e rfl ?_
     refine r_s 1 tt_ok (en_TenantState x59) (fitn ta_50 (by kernel_rfl)) rfl (by kernel_rfl) (by kernel_rfl) ?_
     refine r_done ⟨rfl,k_a (le_w [false,false,true,true]) (le_w [false,false,true,true]),?_⟩
     refine x_k [(2,.pointer (some ⟨bq1,0,none⟩)),(3,.pointer (some ⟨bq2,0,none⟩)),(5,.int .i64 x55),(6,.pointer (some ⟨bq64,0,none⟩)),(7,.pointer (some ⟨bq63,0,none⟩))] (by kernel_rfl) fun fr => ?_
     exact r_done ⟨x57,x59,bq64,bq63,_,h,fr_eq _ (by kernel_rfl),(by kernel_rfl)⟩
   clear h
   rintro fr S ⟨y66,y68,bq65,bq67,fr,h,rfl,rfl⟩
   replace h := hK70 _ h
   refine r_done ?_
   refine r_bind ?_
   refine r_bind ?_
   refine r_meet (fun fr S => ∃ fr0,fr = updL [(2,.pointer (some ⟨bq1,0,none⟩)),(3,.pointer (some ⟨bq2,0,none⟩)),(5,.int .i64 x55),(6,.pointer (some ⟨bq65,0,none⟩)),(7,.pointer (some ⟨bq67,0,none⟩)),(78,.bool ((decide (y68.Epoch < y66.Epoch)) || ((decide (w64 (y66.Epoch + 1) < y68.Epoch)) || (y66.Placed && (bif !decide (y66.Home = y68.Home) then ((!decide (y68.Epoch = w64 (y66.Epoch + 1))) || (!y68.Placed)) else !y68.Placed)))))] fr0 ∧ S = ⟨ρ,.obj bq65 (en_TenantState y66) 50 :: .obj bq67 (en_TenantState y68) 50 :: .obj bq2 (en_State x1 g_x1) 36 :: .obj bq1 (en_State s0 g_s0) 36 :: L⟩) ?_ ?_
   ·refine r_ld 1 tt_ok (v := .int .i64 y68.Epoch) ts_3 rfl (by kernel_rfl) ?_
    refine r_kp [(2,.pointer (some ⟨bq1,0,none⟩)),(3,.pointer (some ⟨bq2,0,none⟩)),(5,.int .i64 x55),(6,.pointer (some ⟨bq65,0,none⟩)),(7,.pointer (some ⟨bq67,0,none⟩)),(39,.int .i64 y68.Epoch)] (by kernel_rfl) fun fr => ?_
    refine r_ld 0 tt_ok (v := .int .i64 y66.Epoch) ts_3 rfl (by kernel_rfl) ?_
    refine r_ite (fun (hb71 : (decide (y68.Epoch < y66.Epoch)) = true) => ?_) (fun (hb71 : (decide (y68.Epoch < y66.Epoch)) = false) => ?_)
    ·refine r_T rfl ?_
     refine r_T rfl ?_
     refine r_T rfl ?_
     refine r_T rfl ?_
     refine r_kp [(2,.pointer (some ⟨bq1,0,none⟩)),(3,.pointer (some ⟨bq2,0,none⟩)),(5,.int .i64 x55),(6,.pointer (some ⟨bq65,0,none⟩)),(7,.pointer (some ⟨bq67,0,none⟩)),(43,.bool true),(44,undef),(45,undef),(46,undef),(47,undef),(48,undef)] (by kernel_rfl) fun fr => ?_
     refine r_T rfl ?_
     refine r_T rfl ?_
     refine r_T rfl ?_
     refine r_T rfl ?_
     refine r_T rfl ?_
     refine r_T rfl ?_
     refine r_kp [(2,.pointer (some ⟨bq1,0,none⟩)),(3,.pointer (some ⟨bq2,0,none⟩)),(5,.int .i64 x55),(6,.pointer (some ⟨bq65,0,none⟩)),(7,.pointer (some ⟨bq67,0,none⟩)),(44,undef),(45,undef),(46,undef),(47,undef),(48,undef),(49,undef),(51,.bool true),(52,undef),(53,undef),(54,undef),(55,undef),(56,undef),(57,undef),(58,undef),(59,undef),(60,undef)] (by kernel_rfl) fun fr => ?_
     refine r_T rfl ?_
     refine r_T rfl ?_
     refine r_T rfl ?_
     refine r_kp [(2,.pointer (some ⟨bq1,0,none⟩)),(3,.pointer (some ⟨bq2,0,none⟩)),(5,.int .i64 x55),(6,.pointer (some ⟨bq65,0,none⟩)),(7,.pointer (some ⟨bq67,0,none⟩)),(44,undef),(45,undef),(46,undef),(47,undef),(48,undef),(49,undef),(52,undef),(53,undef),(54,undef),(55,undef),(56,undef),(57,undef),(58,undef),(59,undef),(60,undef),(61,undef),(62,undef),(63,undef),(64,undef),(65,undef),(66,undef),(67,undef),(68,undef),(69,.bool true)] (by kernel_rfl) fun fr => ?_
     refine r_T rfl ?_
     refine r_T rfl ?_
     refine r_T rfl ?_
     refine r_T rfl ?_
     refine r_T rfl ?_
     refine r_keep [(2,.pointer (some ⟨bq1,0,none⟩)),(3,.pointer (some ⟨bq2,0,none⟩)),(5,.int .i64 x55),(6,.pointer (some ⟨bq65,0,none⟩)),(7,.pointer (some ⟨bq67,0,none⟩)),(78,.bool true)] (by kernel_rfl) fun fr => ?_
     exact r_done ⟨_,fr_eq _ (by (try rw [hb71]); kernel_rfl),(by kernel_rfl)⟩
    ·refine r_F rfl ?_
     refine r_ld 1 tt_ok (v := .int .i64 y68.Epoch) ts_3 rfl (by kernel_rfl) ?_
     refine r_F rfl ?_
     refine r_F rfl ?_
     refine r_ld 0 tt_ok (v := .int .i64 y66.Epoch) ts_3 rfl (by kernel_rfl) ?_
     refine r_F rfl ?_
     refine r_num (e' := w64 (y66.Epoch + 1)) rfl ?_
     refine r_kp [(2,.pointer (some ⟨bq1,0,none⟩)),(3,.pointer (some ⟨bq2,0,none⟩)),(5,.int .i64 x55),(6,.pointer (some ⟨bq65,0,none⟩)),(7,.pointer (some ⟨bq67,0,none⟩)),(43,.bool false),(44,.pointer (some ⟨bq67,6,none⟩)),(45,.int .i64 y68.Epoch),(46,.pointer (some ⟨bq65,6,none⟩)),(47,.int .i64 y66.Epoch),(48,.int .i64 (w64 (y66.Epoch + 1)))] (by kernel_rfl) fun fr => ?_
     refine r_F rfl ?_
     refine r_ite (fun (hb72 : (decide (w64 (y66.Epoch + 1) < y68.Epoch)) = true) => ?_) (fun (hb72 : (decide (w64 (y66.Epoch + 1) < y68.Epoch)) = false) => ?_)
     ·refine r_T rfl ?_
      refine r_T rfl ?_
      refine r_T rfl ?_
      refine r_kp [(2,.pointer (some ⟨bq1,0,none⟩)),(3,.pointer (some ⟨bq2,0,none⟩)),(5,.int .i64 x55),(6,.pointer (some ⟨bq65,0,none⟩)),(7,.pointer (some ⟨bq67,0,none⟩)),(44,.pointer (some ⟨bq67,6,none⟩)),(45,.int .i64 y68.Epoch),(46,.pointer (some ⟨bq65,6,none⟩)),(47,.int .i64 y66.Epoch),(48,.int .i64 (w64 (y66.Epoch + 1))),(49,.bool (decide (w64 (y66.Epoch + 1) < y68.Epoch))),(51,.bool true),(52,undef),(53,undef),(54,undef),(55,undef),(56,undef),(57,undef),(58,undef),(59,undef),(60,undef)] (by kernel_rfl) fun fr => ?_
      refine r_T rfl ?_
      refine r_T rfl ?_
      refine r_T rfl ?_
      refine r_kp [(2,.pointer (some ⟨bq1,0,none⟩)),(3,.pointer (some ⟨bq2,0,none⟩)),(5,.int .i64 x55),(6,.pointer (some ⟨bq65,0,none⟩)),(7,.pointer (some ⟨bq67,0,none⟩)),(44,.pointer (some ⟨bq67,6,none⟩)),(45,.int .i64 y68.Epoch),(46,.pointer (some ⟨bq65,6,none⟩)),(47,.int .i64 y66.Epoch),(48,.int .i64 (w64 (y66.Epoch + 1))),(49,.bool (decide (w64 (y66.Epoch + 1) < y68.Epoch))),(52,undef),(53,undef),(54,undef),(55,undef),(56,undef),(57,undef),(58,undef),(59,undef),(60,undef),(61,undef),(62,undef),(63,undef),(64,undef),(65,undef),(66,undef),(67,undef),(68,undef),(69,.bool true)] (by kernel_rfl) fun fr => ?_
      refine r_T rfl ?_
      refine r_T rfl ?_
      refine r_T rfl ?_
      refine r_T rfl ?_
      refine r_T rfl ?_
      refine r_keep [(2,.pointer (some ⟨bq1,0,none⟩)),(3,.pointer (some ⟨bq2,0,none⟩)),(5,.int .i64 x55),(6,.pointer (some ⟨bq65,0,none⟩)),(7,.pointer (some ⟨bq67,0,none⟩)),(44,.pointer (some ⟨bq67,6,none⟩)),(45,.int .i64 y68.Epoch),(46,.pointer (some ⟨bq65,6,none⟩)),(47,.int .i64 y66.Epoch),(48,.int .i64 (w64 (y66.Epoch + 1))),(49,.bool (decide (w64 (y66.Epoch + 1) < y68.Epoch))),(78,.bool true)] (by kernel_rfl) fun fr => ?_
      exact r_done ⟨_,fr_eq _ (by (try rw [hb72]); (try rw [hb71]); kernel_rfl),(by kernel_rfl)⟩
     ·refine r_F rfl ?_
      refine r_ld 0 tt_ok (v := .bool y66.Placed) ts_4 rfl (by kernel_rfl) ?_
      refine r_F rfl ?_
      refine r_ite (fun (hb73 : y66.Placed = true) => ?_) (fun (hb73 : y66.Placed = false) => ?_)
      ·refine r_T rfl ?_
       refine r_ld 0 tt_ok (v := .int .i64 y66.Home) ts_3 rfl (by kernel_rfl) ?_
       refine r_T rfl ?_
       refine r_kp [(2,.pointer (some ⟨bq1,0,none⟩)),(3,.pointer (some ⟨bq2,0,none⟩)),(5,.int .i64 x55),(6,.pointer (some ⟨bq65,0,none⟩)),(7,.pointer (some ⟨bq67,0,none⟩)),(44,.pointer (some ⟨bq67,6,none⟩)),(45,.int .i64 y68.Epoch),(46,.pointer (some ⟨bq65,6,none⟩)),(47,.int .i64 y66.Epoch),(48,.int .i64 (w64 (y66.Epoch + 1))),(49,.bool (decide (w64 (y66.Epoch + 1) < y68.Epoch))),(51,.bool false),(52,.pointer (some ⟨bq65,0,none⟩)),(53,.bool y66.Placed),(54,.bool true),(55,.pointer (some ⟨bq65,2,none⟩)),(56,.int .i64 y66.Home),(57,.pointer (some ⟨bq67,2,none⟩))] (by kernel_rfl) fun fr => ?_
       refine r_T rfl ?_
       refine r_ld 1 tt_ok (v := .int .i64 y68.Home) ts_3 rfl (by kernel_rfl) ?_
       refine r_T rfl ?_
       refine r_F rfl ?_
       refine r_F rfl ?_
       refine r_ite (fun (hb74 : (!decide (y66.Home = y68.Home)) = true) => ?_) (fun (hb74 : (!decide (y66.Home = y68.Home)) = false) => ?_)
       ·refine r_T rfl ?_
        refine r_ld 1 tt_ok (v := .int .i64 y68.Epoch) ts_3 rfl (by kernel_rfl) ?_
        refine r_T rfl ?_
        refine r_T rfl ?_
        refine r_ld 0 tt_ok (v := .int .i64 y66.Epoch) ts_3 rfl (by kernel_rfl) ?_
        refine r_T rfl ?_
        refine r_num (e' := w64 (y66.Epoch + 1)) rfl ?_
        refine r_kp [(2,.pointer (some ⟨bq1,0,none⟩)),(3,.pointer (some ⟨bq2,0,none⟩)),(5,.int .i64 x55),(6,.pointer (some ⟨bq65,0,none⟩)),(7,.pointer (some ⟨bq67,0,none⟩)),(44,.pointer (some ⟨bq67,6,none⟩)),(45,.int .i64 y68.Epoch),(46,.pointer (some ⟨bq65,6,none⟩)),(47,.int .i64 y66.Epoch),(48,.int .i64 (w64 (y66.Epoch + 1))),(49,.bool (decide (w64 (y66.Epoch + 1) < y68.Epoch))),(51,.bool false),(52,.pointer (some ⟨bq65,0,none⟩)),(53,.bool y66.Placed),(54,.bool true),(55,.pointer (some ⟨bq65,2,none⟩)),(56,.int .i64 y66.Home),(57,.pointer (some ⟨bq67,2,none⟩)),(58,.int .i64 y68.Home),(59,.bool (!decide (y66.Home = y68.Home))),(60,.bool (!decide (y66.Home = y68.Home))),(61,.bool true),(62,.pointer (some ⟨bq67,6,none⟩)),(63,.int .i64 y68.Epoch),(64,.pointer (some ⟨bq65,6,none⟩)),(65,.int .i64 y66.Epoch),(66,.int .i64 (w64 (y66.Epoch + 1)))] (by kernel_rfl) fun fr => ?_
        refine r_T rfl ?_
        refine r_F rfl ?_
        refine r_ite (fun (hb75 : (!decide (y68.Epoch = w64 (y66.Epoch + 1))) = true) => ?_) (fun (hb75 : (!decide (y68.Epoch = w64 (y66.Epoch + 1))) = false) => ?_)
        ·refine r_T rfl ?_
         refine r_T rfl ?_
         refine r_T rfl ?_
         refine r_kp [(2,.pointer (some ⟨bq1,0,none⟩)),(3,.pointer (some ⟨bq2,0,none⟩)),(5,.int .i64 x55),(6,.pointer (some ⟨bq65,0,none⟩)),(7,.pointer (some ⟨bq67,0,none⟩)),(44,.pointer (some ⟨bq67,6,none⟩)),(45,.int .i64 y68.Epoch),(46,.pointer (some ⟨bq65,6,none⟩)),(47,.int .i64 y66.Epoch),(48,.int .i64 (w64 (y66.Epoch + 1))),(49,.bool (decide (w64 (y66.Epoch + 1) < y68.Epoch))),(52,.pointer (some ⟨bq65,0,none⟩)),(53,.bool y66.Placed),(54,.bool true),(55,.pointer (some ⟨bq65,2,none⟩)),(56,.int .i64 y66.Home),(57,.pointer (some ⟨bq67,2,none⟩)),(58,.int .i64 y68.Home),(59,.bool (!decide (y66.Home = y68.Home))),(60,.bool (!decide (y66.Home = y68.Home))),(61,.bool true),(62,.pointer (some ⟨bq67,6,none⟩)),(63,.int .i64 y68.Epoch),(64,.pointer (some ⟨bq65,6,none⟩)),(65,.int .i64 y66.Epoch),(66,.int .i64 (w64 (y66.Epoch + 1))),(67,.bool (!decide (y68.Epoch = w64 (y66.Epoch + 1)))),(68,.bool (!decide (y68.Epoch = w64 (y66.Epoch + 1)))),(70,.bool true),(71,undef),(72,undef),(73,undef),(74,undef),(75,undef),(76,undef),(77,undef)] (by kernel_rfl) fun fr => ?_
         refine r_T rfl ?_
         exact r_done ⟨_,fr_eq _ (by (try rw [hb75]); (try rw [hb74]); (try rw [hb73]); (try rw [hb72]); (try rw [hb71]); kernel_rfl),(by kernel_rfl)⟩
        ·refine r_F rfl ?_
         refine r_ld 0 tt_ok (v := .bool y66.Placed) ts_4 rfl (by kernel_rfl) ?_
         refine r_F rfl ?_
         refine r_T hb73 ?_
         refine r_T rfl ?_
         refine r_ld 1 tt_ok (v := .bool y68.Placed) ts_4 rfl (by kernel_rfl) ?_
         refine r_kp [(2,.pointer (some ⟨bq1,0,none⟩)),(3,.pointer (some ⟨bq2,0,none⟩)),(5,.int .i64 x55),(6,.pointer (some ⟨bq65,0,none⟩)),(7,.pointer (some ⟨bq67,0,none⟩)),(44,.pointer (some ⟨bq67,6,none⟩)),(45,.int .i64 y68.Epoch),(46,.pointer (some ⟨bq65,6,none⟩)),(47,.int .i64 y66.Epoch),(48,.int .i64 (w64 (y66.Epoch + 1))),(49,.bool (decide (w64 (y66.Epoch + 1) < y68.Epoch))),(52,.pointer (some ⟨bq65,0,none⟩)),(53,.bool y66.Placed),(54,.bool true),(55,.pointer (some ⟨bq65,2,none⟩)),(56,.int .i64 y66.Home),(57,.pointer (some ⟨bq67,2,none⟩)),(58,.int .i64 y68.Home),(59,.bool (!decide (y66.Home = y68.Home))),(60,.bool (!decide (y66.Home = y68.Home))),(61,.bool true),(62,.pointer (some ⟨bq67,6,none⟩)),(63,.int .i64 y68.Epoch),(64,.pointer (some ⟨bq65,6,none⟩)),(65,.int .i64 y66.Epoch),(66,.int .i64 (w64 (y66.Epoch + 1))),(67,.bool (!decide (y68.Epoch = w64 (y66.Epoch + 1)))),(68,.bool (!decide (y68.Epoch = w64 (y66.Epoch + 1)))),(70,.bool false),(71,.pointer (some ⟨bq65,0,none⟩)),(72,.bool y66.Placed),(73,.bool true),(74,.pointer (some ⟨bq67,0,none⟩)),(75,.bool y68.Placed)] (by kernel_rfl) fun fr => ?_
         refine r_T rfl ?_
         refine r_F rfl ?_
         exact r_done ⟨_,fr_eq _ (by (try rw [hb75]); (try rw [hb74]); (try rw [hb73]); (try rw [hb72]); (try rw [hb71]); kernel_rfl),(by kernel_rfl)⟩
       ·refine r_F rfl ?_
        refine r_F rfl ?_
        refine r_F rfl ?_
        refine r_F rfl ?_
        refine r_kp [(2,.pointer (some ⟨bq1,0,none⟩)),(3,.pointer (some ⟨bq2,0,none⟩)),(5,.int .i64 x55),(6,.pointer (some ⟨bq65,0,none⟩)),(7,.pointer (some ⟨bq67,0,none⟩)),(44,.pointer (some ⟨bq67,6,none⟩)),(45,.int .i64 y68.Epoch),(46,.pointer (some ⟨bq65,6,none⟩)),(47,.int .i64 y66.Epoch),(48,.int .i64 (w64 (y66.Epoch + 1))),(49,.bool (decide (w64 (y66.Epoch + 1) < y68.Epoch))),(51,.bool false),(52,.pointer (some ⟨bq65,0,none⟩)),(53,.bool y66.Placed),(54,.bool true),(55,.pointer (some ⟨bq65,2,none⟩)),(56,.int .i64 y66.Home),(57,.pointer (some ⟨bq67,2,none⟩)),(58,.int .i64 y68.Home),(59,.bool (!decide (y66.Home = y68.Home))),(60,.bool (!decide (y66.Home = y68.Home))),(61,.bool false),(62,undef),(63,undef),(64,undef),(65,undef),(66,undef)] (by kernel_rfl) fun fr => ?_
        refine r_F rfl ?_
        refine r_F rfl ?_
        refine r_F rfl ?_
        refine r_F rfl ?_
        refine r_F rfl ?_
        refine r_ld 0 tt_ok (v := .bool y66.Placed) ts_4 rfl (by kernel_rfl) ?_
        refine r_F rfl ?_
        refine r_T hb73 ?_
        refine r_T rfl ?_
        refine r_ld 1 tt_ok (v := .bool y68.Placed) ts_4 rfl (by kernel_rfl) ?_
        refine r_kp [(2,.pointer (some ⟨bq1,0,none⟩)),(3,.pointer (some ⟨bq2,0,none⟩)),(5,.int .i64 x55),(6,.pointer (some ⟨bq65,0,none⟩)),(7,.pointer (some ⟨bq67,0,none⟩)),(44,.pointer (some ⟨bq67,6,none⟩)),(45,.int .i64 y68.Epoch),(46,.pointer (some ⟨bq65,6,none⟩)),(47,.int .i64 y66.Epoch),(48,.int .i64 (w64 (y66.Epoch + 1))),(49,.bool (decide (w64 (y66.Epoch + 1) < y68.Epoch))),(52,.pointer (some ⟨bq65,0,none⟩)),(53,.bool y66.Placed),(54,.bool true),(55,.pointer (some ⟨bq65,2,none⟩)),(56,.int .i64 y66.Home),(57,.pointer (some ⟨bq67,2,none⟩)),(58,.int .i64 y68.Home),(59,.bool (!decide (y66.Home = y68.Home))),(60,.bool (!decide (y66.Home = y68.Home))),(61,.bool false),(62,undef),(63,undef),(64,undef),(65,undef),(66,undef),(67,undef),(68,.bool false),(70,.bool false),(71,.pointer (some ⟨bq65,0,none⟩)),(72,.bool y66.Placed),(73,.bool true),(74,.pointer (some ⟨bq67,0,none⟩)),(75,.bool y68.Placed)] (by kernel_rfl) fun fr => ?_
        refine r_T rfl ?_
        refine r_F rfl ?_
        exact r_done ⟨_,fr_eq _ (by (try rw [hb74]); (try rw [hb73]); (try rw [hb72]); (try rw [hb71]); kernel_rfl),(by kernel_rfl)⟩
      ·refine r_F rfl ?_
       refine r_F rfl ?_
       refine r_kp [(2,.pointer (some ⟨bq1,0,none⟩)),(3,.pointer (some ⟨bq2,0,none⟩)),(5,.int .i64 x55),(6,.pointer (some ⟨bq65,0,none⟩)),(7,.pointer (some ⟨bq67,0,none⟩)),(44,.pointer (some ⟨bq67,6,none⟩)),(45,.int .i64 y68.Epoch),(46,.pointer (some ⟨bq65,6,none⟩)),(47,.int .i64 y66.Epoch),(48,.int .i64 (w64 (y66.Epoch + 1))),(49,.bool (decide (w64 (y66.Epoch + 1) < y68.Epoch))),(51,.bool false),(52,.pointer (some ⟨bq65,0,none⟩)),(53,.bool y66.Placed),(54,.bool false),(55,undef),(56,undef),(57,undef)] (by kernel_rfl) fun fr => ?_
       refine r_F rfl ?_
       refine r_F rfl ?_
       refine r_F rfl ?_
       refine r_F rfl ?_
       refine r_F rfl ?_
       refine r_F rfl ?_
       refine r_F rfl ?_
       refine r_F rfl ?_
       refine r_F rfl ?_
       refine r_F rfl ?_
       refine r_kp [(2,.pointer (some ⟨bq1,0,none⟩)),(3,.pointer (some ⟨bq2,0,none⟩)),(5,.int .i64 x55),(6,.pointer (some ⟨bq65,0,none⟩)),(7,.pointer (some ⟨bq67,0,none⟩)),(44,.pointer (some ⟨bq67,6,none⟩)),(45,.int .i64 y68.Epoch),(46,.pointer (some ⟨bq65,6,none⟩)),(47,.int .i64 y66.Epoch),(48,.int .i64 (w64 (y66.Epoch + 1))),(49,.bool (decide (w64 (y66.Epoch + 1) < y68.Epoch))),(51,.bool false),(52,.pointer (some ⟨bq65,0,none⟩)),(53,.bool y66.Placed),(54,.bool false),(55,undef),(56,undef),(57,undef),(58,undef),(59,undef),(60,.bool false),(61,.bool false),(62,undef),(63,undef),(64,undef),(65,undef),(66,undef)] (by kernel_rfl) fun fr => ?_
       refine r_F rfl ?_
       refine r_F rfl ?_
       refine r_F rfl ?_
       refine r_F rfl ?_
       refine r_F rfl ?_
       refine r_ld 0 tt_ok (v := .bool y66.Placed) ts_4 rfl (by kernel_rfl) ?_
       refine r_F rfl ?_
       refine r_F hb73 ?_
       refine r_F rfl ?_
       refine r_kp [(2,.pointer (some ⟨bq1,0,none⟩)),(3,.pointer (some ⟨bq2,0,none⟩)),(5,.int .i64 x55),(6,.pointer (some ⟨bq65,0,none⟩)),(7,.pointer (some ⟨bq67,0,none⟩)),(44,.pointer (some ⟨bq67,6,none⟩)),(45,.int .i64 y68.Epoch),(46,.pointer (some ⟨bq65,6,none⟩)),(47,.int .i64 y66.Epoch),(48,.int .i64 (w64 (y66.Epoch + 1))),(49,.bool (decide (w64 (y66.Epoch + 1) < y68.Epoch))),(52,.pointer (some ⟨bq65,0,none⟩)),(53,.bool y66.Placed),(54,.bool false),(55,undef),(56,undef),(57,undef),(58,undef),(59,undef),(60,.bool false),(61,.bool false),(62,undef),(63,undef),(64,undef),(65,undef),(66,undef),(67,undef),(68,.bool false),(70,.bool false),(71,.pointer (some ⟨bq65,0,none⟩)),(72,.bool y66.Placed),(73,.bool false),(74,undef),(75,undef)] (by kernel_rfl) fun fr => ?_
       refine r_F rfl ?_
       refine r_F rfl ?_
       refine r_F rfl ?_
       exact r_done ⟨_,fr_eq _ (by (try rw [hb73]); (try rw [hb72]); (try rw [hb71]); kernel_rfl),(by kernel_rfl)⟩
   rintro fr S ⟨fr,rfl,rfl⟩
   refine r_done ?_
   refine r_ite (fun hb76 => ?_) (fun hb76 => ?_)
   ·replace h := h_t h hb76
    clear hb76
    refine r_bind ?_
    refine r_done ?_
    repeat refine r_done ?_
    replace h := h_m h
    subst hK82
    repeat refine r_done ?_
    obtain rfl := h_out h
    exact ret_of (RV.tmp RV.nil) (le_w [false,false,false,false]) ⟨rfl,rfl⟩
   ·replace h := h_f h hb76
    clear hb76
    refine r_done ?_
    refine r_bind ?_
    refine r_meet (fun fr S => ∃ fr0,fr = updL [(2,.pointer (some ⟨bq1,0,none⟩)),(3,.pointer (some ⟨bq2,0,none⟩)),(5,.int .i64 x55),(95,.bool (y66.Placed && ((!decide (y66.Home = y68.Home)) && (decide (x1.Tick < y66.Window.Until)))))] fr0 ∧ S = ⟨ρ,.obj bq65 (en_TenantState y66) 50 :: .obj bq67 (en_TenantState y68) 50 :: .obj bq2 (en_State x1 g_x1) 36 :: .obj bq1 (en_State s0 g_s0) 36 :: L⟩) ?_ ?_
    ·refine r_ld 0 tt_ok (v := .bool y66.Placed) ts_4 rfl (by kernel_rfl) ?_
     refine r_ite (fun (hb77 : y66.Placed = true) => ?_) (fun (hb77 : y66.Placed = false) => ?_)
     ·refine r_T rfl ?_
      refine r_ld 0 tt_ok (v := .int .i64 y66.Home) ts_3 rfl (by kernel_rfl) ?_
      refine r_kp [(2,.pointer (some ⟨bq1,0,none⟩)),(3,.pointer (some ⟨bq2,0,none⟩)),(5,.int .i64 x55),(6,.pointer (some ⟨bq65,0,none⟩)),(7,.pointer (some ⟨bq67,0,none⟩)),(81,.bool true),(82,.pointer (some ⟨bq65,2,none⟩)),(83,.int .i64 y66.Home)] (by kernel_rfl) fun fr => ?_
      refine r_T rfl ?_
      refine r_T rfl ?_
      refine r_ld 1 tt_ok (v := .int .i64 y68.Home) ts_3 rfl (by kernel_rfl) ?_
      refine r_T rfl ?_
      refine r_ite (fun (hb78 : (!decide (y66.Home = y68.Home)) = true) => ?_) (fun (hb78 : (!decide (y66.Home = y68.Home)) = false) => ?_)
      ·refine r_T rfl ?_
       refine r_T rfl ?_
       refine r_ld 0 tt_ok (v := .int .i64 y66.Window.Until) ts_3 rfl (by kernel_rfl) ?_
       refine r_T rfl ?_
       refine r_kp [(2,.pointer (some ⟨bq1,0,none⟩)),(3,.pointer (some ⟨bq2,0,none⟩)),(5,.int .i64 x55),(82,.pointer (some ⟨bq65,2,none⟩)),(83,.int .i64 y66.Home),(84,.pointer (some ⟨bq67,2,none⟩)),(85,.int .i64 y68.Home),(86,.bool (!decide (y66.Home = y68.Home))),(88,.bool true),(89,.pointer (some ⟨bq65,7,none⟩)),(90,.pointer (some ⟨bq65,11,none⟩)),(91,.int .i64 y66.Window.Until),(92,.pointer (some ⟨bq2,0,none⟩))] (by kernel_rfl) fun fr => ?_
       refine r_T rfl ?_
       refine r_ld 2 tt_ok (v := .int .i64 x1.Tick) ts_3 rfl (by kernel_rfl) ?_
       refine r_T rfl ?_
       exact r_done ⟨_,fr_eq _ (by (try rw [hb78]); (try rw [hb77]); kernel_rfl),(by kernel_rfl)⟩
      ·refine r_F rfl ?_
       refine r_F rfl ?_
       refine r_F rfl ?_
       refine r_kp [(2,.pointer (some ⟨bq1,0,none⟩)),(3,.pointer (some ⟨bq2,0,none⟩)),(5,.int .i64 x55),(82,.pointer (some ⟨bq65,2,none⟩)),(83,.int .i64 y66.Home),(84,.pointer (some ⟨bq67,2,none⟩)),(85,.int .i64 y68.Home),(86,.bool (!decide (y66.Home = y68.Home))),(88,.bool false),(89,undef),(90,undef),(91,undef),(92,undef)] (by kernel_rfl) fun fr => ?_
       refine r_F rfl ?_
       refine r_F rfl ?_
       refine r_F rfl ?_
       exact r_done ⟨_,fr_eq _ (by (try rw [hb78]); (try rw [hb77]); kernel_rfl),(by kernel_rfl)⟩
     ·refine r_F rfl ?_
      refine r_kp [(2,.pointer (some ⟨bq1,0,none⟩)),(3,.pointer (some ⟨bq2,0,none⟩)),(5,.int .i64 x55),(6,.pointer (some ⟨bq65,0,none⟩)),(7,.pointer (some ⟨bq67,0,none⟩)),(81,.bool false),(82,undef),(83,undef)] (by kernel_rfl) fun fr => ?_
      refine r_F rfl ?_
      refine r_F rfl ?_
      refine r_F rfl ?_
      refine r_F rfl ?_
      refine r_F rfl ?_
      refine r_F rfl ?_
      refine r_F rfl ?_
      refine r_F rfl ?_
      refine r_kp [(2,.pointer (some ⟨bq1,0,none⟩)),(3,.pointer (some ⟨bq2,0,none⟩)),(5,.int .i64 x55),(82,undef),(83,undef),(84,undef),(85,undef),(86,undef),(88,.bool false),(89,undef),(90,undef),(91,undef),(92,undef)] (by kernel_rfl) fun fr => ?_
      refine r_F rfl ?_
      refine r_F rfl ?_
      refine r_F rfl ?_
      exact r_done ⟨_,fr_eq _ (by (try rw [hb77]); kernel_rfl),(by kernel_rfl)⟩
    rintro fr S ⟨fr,rfl,rfl⟩
    refine r_done ?_
    refine r_ite (fun hb79 => ?_) (fun hb79 => ?_)
    ·replace h := h_t h hb79
     clear hb79
     refine r_bind ?_
     refine r_done ?_
     repeat refine r_done ?_
     replace h := h_m h
     subst hK82
     repeat refine r_done ?_
     obtain rfl := h_out h
     exact ret_of (RV.tmp RV.nil) (le_w [false,false,false,false]) ⟨rfl,rfl⟩
    ·replace h := h_f h hb79
     clear hb79
     refine r_done ?_
     refine r_done ?_
     refine r_num (e' := w64 (x55 + 1)) rfl ?_
     refine r_le (le_w [false,false,true,true]) ?_
     exact r_done ⟨m83,lt_s hm83,w64 (x55 + 1),_,h,fr_eq _ (by kernel_rfl),(by kernel_rfl)⟩
  ·replace h := h_f h hb56
   clear hb56
   refine r_done ?_
   refine r_done ?_
   replace h := h_m h
   subst hK82
   refine r_done ?_
   refine r_bind ?_
   refine r_done ?_
   repeat refine r_done ?_
   repeat refine r_done ?_
   obtain rfl := h_out h
   exact ret_of (RV.tmp RV.nil) (le_w [false,false]) ⟨rfl,rfl⟩
end Go.Proofs.YtcdoangbkgaapaaK
