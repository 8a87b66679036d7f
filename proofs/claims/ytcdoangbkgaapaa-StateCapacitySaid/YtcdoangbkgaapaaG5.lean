/- The code of 4 functions computes what it is to. No condition. -/
import Derived.Test.YtcdoangbkgaapaaG4
set_option linter.unusedVariables false
set_option maxHeartbeats 4000000
namespace Go.Proofs.YtcdoangbkgaapaaK
open Go Go.RowKit
theorem hc_41 {ρ : Addr → Option Value} {L : List Ent} {g_x0 : gState} {S_x0 : St} (hS_x0 : Le ⟨ρ,L⟩ S_x0) (x0 : State) (h_x0 : Sl_State S_x0 x0 g_x0) {r : Bool} (h : cellplanelaw12_windows x0 = some r) : HC Try.prog 41 #[.agg (en_State x0 g_x0).toArray] ⟨ρ,L⟩ (fun v S' => v = .bool r ∧ S' = ⟨ρ,L⟩) := by
 replace h := h_in h
 refine HC.intro (N := 59) (args := [_]) tt_ok Try.func41 rfl (by decide +kernel) rfl (Nat.le_of_ble_eq_true rfl) ?_
 refine r_bind ?_
 refine r_bx (en_State x0 g_x0) (by kernel_rfl) fun bq1 => ?_
 refine r_done ?_
 refine r_bind ?_
 refine r_bind ?_
 refine r_done ?_
 refine r_bind ?_
 replace h := h_l h; obtain ⟨K50,n51,h,hK52⟩ := h
 refine r_loop (fun n fr S => ∃ (x34 : Int),∃ fr0,(runN (cellplanelaw12_windows.b1 x0) n x34).bind K50 = some r ∧ fr = updL [(1,.pointer (some ⟨bq1,0,none⟩)),(3,.int .i64 x34)] fr0 ∧ S = ⟨ρ,.obj bq1 (en_State x0 g_x0) 36 :: L⟩) n51 ⟨0,_,h,fr_eq _ (by kernel_rfl),(by kernel_rfl)⟩ ?_
 clear h
 rintro n51 fr S ⟨x34,fr,h,rfl,rfl⟩
 replace h := h_r h; obtain ⟨m53,hm53,h⟩ := h
 refine r_bind ?_
 refine r_bind ?_
 refine r_ld 0 tt_ok (v := .slice g_x0.Tenants.1 x0.Tenants.length g_x0.Tenants.2) ts_33 rfl (by kernel_rfl) ?_
 refine r_done ?_
 refine r_ite (fun hb35 => ?_) (fun hb35 => ?_)
 ·replace h := h_t h hb35
  clear hb35
  refine r_done ?_
  refine r_bind ?_
  refine r_bind ?_
  refine r_bind ?_
  refine r_ld 0 tt_ok (v := .slice g_x0.Tenants.1 x0.Tenants.length g_x0.Tenants.2) ts_33 rfl (by kernel_rfl) ?_
  replace h := h_b h; obtain ⟨x36,hx37,h⟩ := h
  refine r_el hx37 ((h_x0.1).rd.mono ((le_d 1).trans hS_x0)) ?_
  refine r_kp [(1,.pointer (some ⟨bq1,0,none⟩)),(3,.int .i64 x34),(15,.pointer (some ((adr g_x0.Tenants.1).add (x34.toNat * 12))))] (by kernel_rfl) fun fr => ?_
  refine r_len (E := eTenantState) tt_ok (en_TenantState x36) (idx_get hx37) ((h_x0.1).rd.mono ((le_d 1).trans hS_x0)) ta_50 rfl (pl0 _ _) (by kernel_rfl) (by kernel_rfl) ?_
  refine r_al tt_ok (en_TenantState (⟨false,false,0,0,0,0,0,(⟨0,0,0,0,0⟩ : Window)⟩ : TenantState)) ti_50 (by kernel_rfl) fun bq38 => ?_
  refine r_s 0 tt_ok (en_TenantState x36) (fitn ta_50 (by kernel_rfl)) rfl (by kernel_rfl) (by kernel_rfl) ?_
  refine r_done ?_
  refine r_bind ?_
  refine r_bind ?_
  refine r_ld 0 tt_ok (v := .int .i64 x36.Window.Until) ts_3 rfl (by kernel_rfl) ?_
  refine r_ld 1 tt_ok (v := .int .i64 x0.Tick) ts_3 rfl (by kernel_rfl) ?_
  refine r_keep [(1,.pointer (some ⟨bq1,0,none⟩)),(3,.int .i64 x34),(4,.pointer (some ⟨bq38,0,none⟩)),(22,.bool (decide (x36.Window.Until ≤ x0.Tick)))] (by kernel_rfl) fun fr => ?_
  refine r_done ?_
  refine r_ite (fun hb39 => ?_) (fun hb39 => ?_)
  ·replace h := h_t h hb39
   clear hb39
   refine r_done ?_
   refine r_done ?_
   refine r_done ?_
   refine r_num (e' := w64 (x34 + 1)) rfl ?_
   refine r_le (le_w [false,true]) ?_
   exact r_done ⟨m53,lt_s hm53,w64 (x34 + 1),_,h,fr_eq _ (by kernel_rfl),(by kernel_rfl)⟩
  ·replace h := h_f h hb39
   clear hb39
   refine r_done ?_
   refine r_bind ?_
   replace h := h_j h; obtain ⟨K47,h,hK48⟩ := h
   refine r_meet (fun fr S => ∃ (x46 : Bool),∃ fr0,K47 x46 = some r ∧ fr = updL [(1,.pointer (some ⟨bq1,0,none⟩)),(3,.int .i64 x34),(58,.bool x46)] fr0 ∧ S = ⟨ρ,.obj bq1 (en_State x0 g_x0) 36 :: L⟩) ?_ ?_
   refine r_mix tt_ok hm_ok _ _ [] (.pure 0 (.vb 1 (.pure 2 (.pure 3 (.pure 4 (.vb 5 (.pure 6 (.pure 7 (.pure 8 (.pure 9 (.vb 10 (.pure 11 (.vb 12 (.pure 13 (.pure 14 (.pure 15 (.pure 16 (.pure 17 (.vb 18 (.pure 19 (.vb 20 (.pure 21 (.pure 22 (.pure 23 (.pure 24 (.pure 25 (.vb 26 (.pure 27 (.vb 28 (.pure 29 (.vb 30 (.vb 31 (.pure 32 (.vb 33 (.pure 34 (.pure 35 .nil)))))))))))))))))))))))))))))))))))) (le_w [true,true]) (le_w [true,true]) ?_ ?_
   ·decide +kernel
   refine x_p rfl ?_
   refine v_done ?_
   refine x_vb rfl ?_
   refine v_ld 0 tt_ok (v := .bool x36.Placed) ts_4 rfl (by kernel_rfl) ?_
   refine v_done ?_
   refine x_p rfl ?_
   refine v_done ?_
   refine x_p rfl ?_
   refine v_done ?_
   refine x_p rfl ?_
   refine v_ite (fun (hb40 : (!x36.Placed) = true) => ?_) (fun (hb40 : (!x36.Placed) = false) => ?_)
   ·replace h := h_t h hb40
    clear hb40
    refine v_done ?_
    refine x_vb rfl ?_
    refine v_T rfl ?_
    refine v_done ?_
    refine x_p rfl ?_
    refine v_T rfl ?_
    refine v_done ?_
    refine x_p rfl ?_
    refine v_done ?_
    refine x_kp [(1,.pointer (some ⟨bq1,0,none⟩)),(3,.int .i64 x34),(4,.pointer (some ⟨bq38,0,none⟩)),(27,undef),(28,undef),(30,.bool true)] (by kernel_rfl) fun fr => ?_
    refine x_p rfl ?_
    refine v_T rfl ?_
    refine v_done ?_
    refine x_p rfl ?_
    refine v_T rfl ?_
    refine v_done ?_
    refine x_vb rfl ?_
    refine v_T rfl ?_
    refine v_done ?_
    refine x_p rfl ?_
    refine v_T rfl ?_
    refine v_done ?_
    refine x_vb rfl ?_
    refine v_T rfl ?_
    refine v_done ?_
    refine x_p rfl ?_
    refine v_T rfl ?_
    refine v_done ?_
    refine x_p rfl ?_
    refine v_T rfl ?_
    refine v_done ?_
    refine x_p rfl ?_
    refine v_done ?_
    refine x_p rfl ?_
    refine v_T rfl ?_
    refine v_done ?_
    refine x_kp [(1,.pointer (some ⟨bq1,0,none⟩)),(3,.int .i64 x34),(4,.pointer (some ⟨bq38,0,none⟩)),(27,undef),(28,undef),(31,undef),(32,undef),(33,undef),(34,undef),(35,undef),(36,undef),(38,.bool true),(39,undef)] (by kernel_rfl) fun fr => ?_
    refine x_p rfl ?_
    refine v_T rfl ?_
    refine v_done ?_
    refine x_vb rfl ?_
    refine v_T rfl ?_
    refine v_done ?_
    refine x_p rfl ?_
    refine v_T rfl ?_
    refine v_done ?_
    refine x_vb rfl ?_
    refine v_T rfl ?_
    refine v_done ?_
    refine x_p rfl ?_
    refine v_T rfl ?_
    refine v_done ?_
    refine x_p rfl ?_
    refine v_T rfl ?_
    refine v_done ?_
    refine x_p rfl ?_
    refine v_done ?_
    refine x_p rfl ?_
    refine v_T rfl ?_
    refine v_done ?_
    refine x_p rfl ?_
    refine v_T rfl ?_
    refine v_done ?_
    refine x_kp [(1,.pointer (some ⟨bq1,0,none⟩)),(3,.int .i64 x34),(4,.pointer (some ⟨bq38,0,none⟩)),(27,undef),(28,undef),(31,undef),(32,undef),(33,undef),(34,undef),(35,undef),(36,undef),(39,undef),(40,undef),(41,undef),(42,undef),(43,undef),(44,undef),(46,.bool true),(47,undef),(48,undef)] (by kernel_rfl) fun fr => ?_
    refine x_vb rfl ?_
    refine v_T rfl ?_
    refine v_done ?_
    refine x_p rfl ?_
    refine v_T rfl ?_
    refine v_done ?_
    refine x_vb rfl ?_
    refine v_T rfl ?_
    refine v_done ?_
    refine x_p rfl ?_
    refine v_T rfl ?_
    refine v_done ?_
    refine x_vb rfl ?_
    refine v_T rfl ?_
    refine v_done ?_
    refine x_vb rfl ?_
    refine v_T rfl ?_
    refine v_done ?_
    refine x_p rfl ?_
    refine v_T rfl ?_
    refine v_done ?_
    refine x_vb rfl ?_
    refine v_T rfl ?_
    refine v_done ?_
    refine x_p rfl ?_
    refine v_T rfl ?_
    refine v_done ?_
    refine x_kp [(1,.pointer (some ⟨bq1,0,none⟩)),(3,.int .i64 x34),(27,undef),(28,undef),(31,undef),(32,undef),(33,undef),(34,undef),(35,undef),(36,undef),(39,undef),(40,undef),(41,undef),(42,undef),(43,undef),(44,undef),(46,.bool true),(47,undef),(48,undef),(49,undef),(50,undef),(51,undef),(52,undef),(53,undef),(54,undef),(55,undef),(56,undef),(57,undef)] (by kernel_rfl) fun fr => ?_
    refine x_p rfl ?_
    refine v_T rfl ?_
    refine v_done ?_
    refine x_k [(1,.pointer (some ⟨bq1,0,none⟩)),(3,.int .i64 x34),(58,.bool true)] (by kernel_rfl) fun fr => ?_
    refine r_le (le_w [false,true]) ?_
    exact r_done ⟨true,_,h,fr_eq _ (by kernel_rfl),(by kernel_rfl)⟩
   ·replace h := h_f h hb40
    clear hb40
    refine v_done ?_
    refine x_vb rfl ?_
    refine v_F rfl ?_
    refine v_ld 0 tt_ok (v := .bool x36.Shed) ts_4 rfl (by kernel_rfl) ?_
    refine v_done ?_
    refine x_p rfl ?_
    refine v_done ?_
    refine x_p rfl ?_
    refine v_done ?_
    refine x_kp [(1,.pointer (some ⟨bq1,0,none⟩)),(3,.int .i64 x34),(4,.pointer (some ⟨bq38,0,none⟩)),(27,.pointer (some ⟨bq38,1,none⟩)),(28,.bool x36.Shed),(30,.bool x36.Shed)] (by kernel_rfl) fun fr => ?_
    refine x_p rfl ?_
    refine v_ite (fun (hb41 : x36.Shed = true) => ?_) (fun (hb41 : x36.Shed = false) => ?_)
    ·replace h := h_t h hb41
     clear hb41
     refine v_done ?_
     refine x_p rfl ?_
     refine v_T rfl ?_
     refine v_done ?_
     refine x_vb rfl ?_
     refine v_T rfl ?_
     refine v_done ?_
     refine x_p rfl ?_
     refine v_T rfl ?_
     refine v_done ?_
     refine x_vb rfl ?_
     refine v_T rfl ?_
     refine v_done ?_
     refine x_p rfl ?_
     refine v_T rfl ?_
     refine v_done ?_
     refine x_p rfl ?_
     refine v_T rfl ?_
     refine v_done ?_
     refine x_p rfl ?_
     refine v_done ?_
     refine x_p rfl ?_
     refine v_T rfl ?_
     refine v_done ?_
     refine x_kp [(1,.pointer (some ⟨bq1,0,none⟩)),(3,.int .i64 x34),(4,.pointer (some ⟨bq38,0,none⟩)),(27,.pointer (some ⟨bq38,1,none⟩)),(28,.bool x36.Shed),(31,undef),(32,undef),(33,undef),(34,undef),(35,undef),(36,undef),(38,.bool true),(39,undef)] (by kernel_rfl) fun fr => ?_
     refine x_p rfl ?_
     refine v_T rfl ?_
     refine v_done ?_
     refine x_vb rfl ?_
     refine v_T rfl ?_
     refine v_done ?_
     refine x_p rfl ?_
     refine v_T rfl ?_
     refine v_done ?_
     refine x_vb rfl ?_
     refine v_T rfl ?_
     refine v_done ?_
     refine x_p rfl ?_
     refine v_T rfl ?_
     refine v_done ?_
     refine x_p rfl ?_
     refine v_T rfl ?_
     refine v_done ?_
     refine x_p rfl ?_
     refine v_done ?_
     refine x_p rfl ?_
     refine v_T rfl ?_
     refine v_done ?_
     refine x_p rfl ?_
     refine v_T rfl ?_
     refine v_done ?_
     refine x_kp [(1,.pointer (some ⟨bq1,0,none⟩)),(3,.int .i64 x34),(4,.pointer (some ⟨bq38,0,none⟩)),(27,.pointer (some ⟨bq38,1,none⟩)),(28,.bool x36.Shed),(31,undef),(32,undef),(33,undef),(34,undef),(35,undef),(36,undef),(39,undef),(40,undef),(41,undef),(42,undef),(43,undef),(44,undef),(46,.bool true),(47,undef),(48,undef)] (by kernel_rfl) fun fr => ?_
     refine x_vb rfl ?_
     refine v_T rfl ?_
     refine v_done ?_
     refine x_p rfl ?_
     refine v_T rfl ?_
     refine v_done ?_
     refine x_vb rfl ?_
     refine v_T rfl ?_
     refine v_done ?_
     refine x_p rfl ?_
     refine v_T rfl ?_
     refine v_done ?_
     refine x_vb rfl ?_
     refine v_T rfl ?_
     refine v_done ?_
     refine x_vb rfl ?_
     refine v_T rfl ?_
     refine v_done ?_
     refine x_p rfl ?_
     refine v_T rfl ?_
     refine v_done ?_
     refine x_vb rfl ?_
     refine v_T rfl ?_
     refine v_done ?_
     refine x_p rfl ?_
     refine v_T rfl ?_
     refine v_done ?_
     refine x_kp [(1,.pointer (some ⟨bq1,0,none⟩)),(3,.int .i64 x34),(27,.pointer (some ⟨bq38,1,none⟩)),(28,.bool x36.Shed),(31,undef),(32,undef),(33,undef),(34,undef),(35,undef),(36,undef),(39,undef),(40,undef),(41,undef),(42,undef),(43,undef),(44,undef),(46,.bool true),(47,undef),(48,undef),(49,undef),(50,undef),(51,undef),(52,undef),(53,undef),(54,undef),(55,undef),(56,undef),(57,undef)] (by kernel_rfl) fun fr => ?_
     refine x_p rfl ?_
     refine v_T rfl ?_
     refine v_done ?_
     refine x_k [(1,.pointer (some ⟨bq1,0,none⟩)),(3,.int .i64 x34),(27,.pointer (some ⟨bq38,1,none⟩)),(28,.bool x36.Shed),(58,.bool true)] (by kernel_rfl) fun fr => ?_
     refine r_le (le_w [false,true]) ?_
     exact r_done ⟨true,_,h,fr_eq _ (by kernel_rfl),(by kernel_rfl)⟩
    ·replace h := h_f h hb41
     clear hb41
     refine v_done ?_
     refine x_p rfl ?_
     refine v_F rfl ?_
     refine v_done ?_
     refine x_vb rfl ?_
     refine v_F rfl ?_
     refine v_ld 0 tt_ok (v := .int .i64 x36.Window.Cell) ts_3 rfl (by kernel_rfl) ?_
     refine v_done ?_
     refine x_p rfl ?_
     refine v_F rfl ?_
     refine v_done ?_
     refine x_vb rfl ?_
     refine v_F rfl ?_
     refine v_ld 0 tt_ok (v := .int .i64 x36.Home) ts_3 rfl (by kernel_rfl) ?_
     refine v_done ?_
     refine x_p rfl ?_
     refine v_F rfl ?_
     refine v_done ?_
     refine x_p rfl ?_
     refine v_done ?_
     refine x_p rfl ?_
     refine v_done ?_
     refine x_p rfl ?_
     refine v_ite (fun (hb42 : (!decide (x36.Window.Cell = x36.Home)) = true) => ?_) (fun (hb42 : (!decide (x36.Window.Cell = x36.Home)) = false) => ?_)
     ·replace h := h_t h hb42
      clear hb42
      refine v_done ?_
      refine x_kp [(1,.pointer (some ⟨bq1,0,none⟩)),(3,.int .i64 x34),(4,.pointer (some ⟨bq38,0,none⟩)),(27,.pointer (some ⟨bq38,1,none⟩)),(28,.bool x36.Shed),(31,.pointer (some ⟨bq38,7,none⟩)),(32,.pointer (some ⟨bq38,7,none⟩)),(33,.int .i64 x36.Window.Cell),(34,.pointer (some ⟨bq38,2,none⟩)),(35,.int .i64 x36.Home),(36,.bool (!decide (x36.Window.Cell = x36.Home))),(38,.bool true),(39,undef)] (by kernel_rfl) fun fr => ?_
      refine x_p rfl ?_
      refine v_T rfl ?_
      refine v_done ?_
      refine x_vb rfl ?_
      refine v_T rfl ?_
      refine v_done ?_
      refine x_p rfl ?_
      refine v_T rfl ?_
      refine v_done ?_
      refine x_vb rfl ?_
      refine v_T rfl ?_
      refine v_done ?_
      refine x_p rfl ?_
      refine v_T rfl ?_
      refine v_done ?_
      refine x_p rfl ?_
      refine v_T rfl ?_
      refine v_done ?_
      refine x_p rfl ?_
      refine v_done ?_
      refine x_p rfl ?_
      refine v_T rfl ?_
      refine v_done ?_
      refine x_p rfl ?_
      refine v_T rfl ?_
      refine v_done ?_
      refine x_kp [(1,.pointer (some ⟨bq1,0,none⟩)),(3,.int .i64 x34),(4,.pointer (some ⟨bq38,0,none⟩)),(27,.pointer (some ⟨bq38,1,none⟩)),(28,.bool x36.Shed),(31,.pointer (some ⟨bq38,7,none⟩)),(32,.pointer (some ⟨bq38,7,none⟩)),(33,.int .i64 x36.Window.Cell),(34,.pointer (some ⟨bq38,2,none⟩)),(35,.int .i64 x36.Home),(36,.bool (!decide (x36.Window.Cell = x36.Home))),(39,undef),(40,undef),(41,undef),(42,undef),(43,undef),(44,undef),(46,.bool true),(47,undef),(48,undef)] (by kernel_rfl) fun fr => ?_
      refine x_vb rfl ?_
      refine v_T rfl ?_
      refine v_done ?_
      refine x_p rfl ?_
      refine v_T rfl ?_
      refine v_done ?_
      refine x_vb rfl ?_
      refine v_T rfl ?_
      refine v_done ?_
      refine x_p rfl ?_
      refine v_T rfl ?_
      refine v_done ?_
      refine x_vb rfl ?_
      refine v_T rfl ?_
      refine v_done ?_
      refine x_vb rfl ?_
      refine v_T rfl ?_
      refine v_done ?_
      refine x_p rfl ?_
      refine v_T rfl ?_
      refine v_done ?_
      refine x_vb rfl ?_
      refine v_T rfl ?_
      refine v_done ?_
      refine x_p rfl ?_
      refine v_T rfl ?_
      refine v_done ?_
      refine x_kp [(1,.pointer (some ⟨bq1,0,none⟩)),(3,.int .i64 x34),(27,.pointer (some ⟨bq38,1,none⟩)),(28,.bool x36.Shed),(31,.pointer (some ⟨bq38,7,none⟩)),(32,.pointer (some ⟨bq38,7,none⟩)),(33,.int .i64 x36.Window.Cell),(34,.pointer (some ⟨bq38,2,none⟩)),(35,.int .i64 x36.Home),(36,.bool (!decide (x36.Window.Cell = x36.Home))),(39,undef),(40,undef),(41,undef),(42,undef),(43,undef),(44,undef),(46,.bool true),(47,undef),(48,undef),(49,undef),(50,undef),(51,undef),(52,undef),(53,undef),(54,undef),(55,undef),(56,undef),(57,undef)] (by kernel_rfl) fun fr => ?_
      refine x_p rfl ?_
      refine v_T rfl ?_
      refine v_done ?_
      refine x_k [(1,.pointer (some ⟨bq1,0,none⟩)),(3,.int .i64 x34),(27,.pointer (some ⟨bq38,1,none⟩)),(28,.bool x36.Shed),(31,.pointer (some ⟨bq38,7,none⟩)),(32,.pointer (some ⟨bq38,7,none⟩)),(33,.int .i64 x36.Window.Cell),(34,.pointer (some ⟨bq38,2,none⟩)),(35,.int .i64 x36.Home),(36,.bool (!decide (x36.Window.Cell = x36.Home))),(58,.bool true)] (by kernel_rfl) fun fr => ?_
      refine r_le (le_w [false,true]) ?_
      exact r_done ⟨true,_,h,fr_eq _ (by kernel_rfl),(by kernel_rfl)⟩
     ·replace h := h_f h hb42
      clear hb42
      refine v_done ?_
      refine x_kp [(1,.pointer (some ⟨bq1,0,none⟩)),(3,.int .i64 x34),(4,.pointer (some ⟨bq38,0,none⟩)),(27,.pointer (some ⟨bq38,1,none⟩)),(28,.bool x36.Shed),(31,.pointer (some ⟨bq38,7,none⟩)),(32,.pointer (some ⟨bq38,7,none⟩)),(33,.int .i64 x36.Window.Cell),(34,.pointer (some ⟨bq38,2,none⟩)),(35,.int .i64 x36.Home),(36,.bool (!decide (x36.Window.Cell = x36.Home))),(38,.bool false),(39,.pointer (some ⟨bq38,7,none⟩))] (by kernel_rfl) fun fr => ?_
      refine x_p rfl ?_
      refine v_F rfl ?_
      refine v_done ?_
      refine x_vb rfl ?_
      refine v_F rfl ?_
      refine v_ld 0 tt_ok (v := .int .i64 x36.Window.Epoch) ts_3 rfl (by kernel_rfl) ?_
      refine v_done ?_
      refine x_p rfl ?_
      refine v_F rfl ?_
      refine v_done ?_
      refine x_vb rfl ?_
      refine v_F rfl ?_
      refine v_ld 0 tt_ok (v := .int .i64 x36.Epoch) ts_3 rfl (by kernel_rfl) ?_
      refine v_done ?_
      refine x_p rfl ?_
      refine v_F rfl ?_
      refine v_done ?_
      refine x_p rfl ?_
      refine v_done ?_
      refine x_p rfl ?_
      refine v_done ?_
      refine x_p rfl ?_
      refine v_ite (fun (hb43 : (!decide (x36.Window.Epoch = x36.Epoch)) = true) => ?_) (fun (hb43 : (!decide (x36.Window.Epoch = x36.Epoch)) = false) => ?_)
      ·replace h := h_t h hb43
       clear hb43
       refine v_done ?_
       refine x_p rfl ?_
       refine v_T rfl ?_
       refine v_done ?_
       refine x_kp [(1,.pointer (some ⟨bq1,0,none⟩)),(3,.int .i64 x34),(4,.pointer (some ⟨bq38,0,none⟩)),(27,.pointer (some ⟨bq38,1,none⟩)),(28,.bool x36.Shed),(31,.pointer (some ⟨bq38,7,none⟩)),(32,.pointer (some ⟨bq38,7,none⟩)),(33,.int .i64 x36.Window.Cell),(34,.pointer (some ⟨bq38,2,none⟩)),(35,.int .i64 x36.Home),(36,.bool (!decide (x36.Window.Cell = x36.Home))),(39,.pointer (some ⟨bq38,7,none⟩)),(40,.pointer (some ⟨bq38,8,none⟩)),(41,.int .i64 x36.Window.Epoch),(42,.pointer (some ⟨bq38,6,none⟩)),(43,.int .i64 x36.Epoch),(44,.bool (!decide (x36.Window.Epoch = x36.Epoch))),(46,.bool true),(47,undef),(48,undef)] (by kernel_rfl) fun fr => ?_
       refine x_vb rfl ?_
       refine v_T rfl ?_
       refine v_done ?_
       refine x_p rfl ?_
       refine v_T rfl ?_
       refine v_done ?_
       refine x_vb rfl ?_
       refine v_T rfl ?_
       refine v_done ?_
       refine x_p rfl ?_
       refine v_T rfl ?_
       refine v_done ?_
       refine x_vb rfl ?_
       refine v_T rfl ?_
       refine v_done ?_
       refine x_vb rfl ?_
       refine v_T rfl ?_
       refine v_done ?_
       refine x_p rfl ?_
       refine v_T rfl ?_
       refine v_done ?_
       refine x_vb rfl ?_
       refine v_T rfl ?_
       refine v_done ?_
       refine x_p rfl ?_
       refine v_T rfl ?_
       refine v_done ?_
       refine x_kp [(1,.pointer (some ⟨bq1,0,none⟩)),(3,.int .i64 x34),(27,.pointer (some ⟨bq38,1,none⟩)),(28,.bool x36.Shed),(31,.pointer (some ⟨bq38,7,none⟩)),(32,.pointer (some ⟨bq38,7,none⟩)),(33,.int .i64 x36.Window.Cell),(34,.pointer (some ⟨bq38,2,none⟩)),(35,.int .i64 x36.Home),(36,.bool (!decide (x36.Window.Cell = x36.Home))),(39,.pointer (some ⟨bq38,7,none⟩)),(40,.pointer (some ⟨bq38,8,none⟩)),(41,.int .i64 x36.Window.Epoch),(42,.pointer (some ⟨bq38,6,none⟩)),(43,.int .i64 x36.Epoch),(44,.bool (!decide (x36.Window.Epoch = x36.Epoch))),(46,.bool true),(47,undef),(48,undef),(49,undef),(50,undef),(51,undef),(52,undef),(53,undef),(54,undef),(55,undef),(56,undef),(57,undef)] (by kernel_rfl) fun fr => ?_
       refine x_p rfl ?_
       refine v_T rfl ?_
       refine v_done ?_
       refine x_k [(1,.pointer (some ⟨bq1,0,none⟩)),(3,.int .i64 x34),(27,.pointer (some ⟨bq38,1,none⟩)),(28,.bool x36.Shed),(31,.pointer (some ⟨bq38,7,none⟩)),(32,.pointer (some ⟨bq38,7,none⟩)),(33,.int .i64 x36.Window.Cell),(34,.pointer (some ⟨bq38,2,none⟩)),(35,.int .i64 x36.Home),(36,.bool (!decide (x36.Window.Cell = x36.Home))),(39,.pointer (some ⟨bq38,7,none⟩)),(40,.pointer (some ⟨bq38,8,none⟩)),(41,.int .i64 x36.Window.Epoch),(42,.pointer (some ⟨bq38,6,none⟩)),(43,.int .i64 x36.Epoch),(44,.bool (!decide (x36.Window.Epoch = x36.Epoch))),(58,.bool true)] (by kernel_rfl) fun fr => ?_
       refine r_le (le_w [false,true]) ?_
       exact r_done ⟨true,_,h,fr_eq _ (by kernel_rfl),(by kernel_rfl)⟩
      ·replace h := h_f h hb43
       clear hb43
       refine v_done ?_
       refine x_p rfl ?_
       refine v_F rfl ?_
       refine v_done ?_
       refine x_kp [(1,.pointer (some ⟨bq1,0,none⟩)),(3,.int .i64 x34),(4,.pointer (some ⟨bq38,0,none⟩)),(27,.pointer (some ⟨bq38,1,none⟩)),(28,.bool x36.Shed),(31,.pointer (some ⟨bq38,7,none⟩)),(32,.pointer (some ⟨bq38,7,none⟩)),(33,.int .i64 x36.Window.Cell),(34,.pointer (some ⟨bq38,2,none⟩)),(35,.int .i64 x36.Home),(36,.bool (!decide (x36.Window.Cell = x36.Home))),(39,.pointer (some ⟨bq38,7,none⟩)),(40,.pointer (some ⟨bq38,8,none⟩)),(41,.int .i64 x36.Window.Epoch),(42,.pointer (some ⟨bq38,6,none⟩)),(43,.int .i64 x36.Epoch),(44,.bool (!decide (x36.Window.Epoch = x36.Epoch))),(46,.bool false),(47,.pointer (some ⟨bq38,7,none⟩)),(48,.pointer (some ⟨bq38,9,none⟩))] (by kernel_rfl) fun fr => ?_
       refine x_vb rfl ?_
       refine v_F rfl ?_
       refine v_ld 0 tt_ok (v := .int .i64 x36.Window.Version) ts_3 rfl (by kernel_rfl) ?_
       refine v_done ?_
       refine x_p rfl ?_
       refine v_F rfl ?_
       refine v_done ?_
       refine x_vb rfl ?_
       refine v_F rfl ?_
       refine v_ld 1 tt_ok (v := .slice g_x0.Cells.1 x0.Cells.length g_x0.Cells.2) ts_34 rfl (by kernel_rfl) ?_
       refine v_done ?_
       refine x_p rfl ?_
       refine v_F rfl ?_
       refine v_done ?_
       refine x_vb rfl ?_
       refine v_F rfl ?_
       refine v_ld 0 tt_ok (v := .int .i64 x36.Home) ts_3 rfl (by kernel_rfl) ?_
       refine v_done ?_
       refine x_vb rfl ?_
       refine v_F rfl ?_
       replace h := h_b h; obtain ⟨x44,hx45,h⟩ := h
       refine v_el hx45 ((h_x0.2).rd.mono ((le_d 2).trans hS_x0)) ?_
       refine v_done ?_
       refine x_p rfl ?_
       refine v_F rfl ?_
       refine v_done ?_
       refine x_vb rfl ?_
       refine v_F rfl ?_
       refine v_lec (E := eCellState) tt_ok (v := .int .i64 x44.Running) (idx_get hx45) ((h_x0.2).rd.mono ((le_d 2).trans hS_x0)) ts_3 rfl (pl1 _ _ _) (by kernel_rfl) ?_
       refine v_done ?_
       refine x_p rfl ?_
       refine v_F rfl ?_
       refine v_done ?_
       refine x_kp [(1,.pointer (some ⟨bq1,0,none⟩)),(3,.int .i64 x34),(27,.pointer (some ⟨bq38,1,none⟩)),(28,.bool x36.Shed),(31,.pointer (some ⟨bq38,7,none⟩)),(32,.pointer (some ⟨bq38,7,none⟩)),(33,.int .i64 x36.Window.Cell),(34,.pointer (some ⟨bq38,2,none⟩)),(35,.int .i64 x36.Home),(36,.bool (!decide (x36.Window.Cell = x36.Home))),(39,.pointer (some ⟨bq38,7,none⟩)),(40,.pointer (some ⟨bq38,8,none⟩)),(41,.int .i64 x36.Window.Epoch),(42,.pointer (some ⟨bq38,6,none⟩)),(43,.int .i64 x36.Epoch),(44,.bool (!decide (x36.Window.Epoch = x36.Epoch))),(46,.bool false),(47,.pointer (some ⟨bq38,7,none⟩)),(48,.pointer (some ⟨bq38,9,none⟩)),(49,.int .i64 x36.Window.Version),(50,.pointer (some ⟨bq1,3,none⟩)),(51,.slice g_x0.Cells.1 x0.Cells.length g_x0.Cells.2),(52,.pointer (some ⟨bq38,2,none⟩)),(53,.int .i64 x36.Home),(54,.pointer (some ((adr g_x0.Cells.1).add (x36.Home.toNat * 4)))),(55,.pointer (some (((adr g_x0.Cells.1).add (x36.Home.toNat * 4)).add 1))),(56,.int .i64 x44.Running),(57,.bool (!decide (x36.Window.Version = x44.Running)))] (by kernel_rfl) fun fr => ?_
       refine x_p rfl ?_
       refine v_done ?_
       refine x_k [(1,.pointer (some ⟨bq1,0,none⟩)),(3,.int .i64 x34),(27,.pointer (some ⟨bq38,1,none⟩)),(28,.bool x36.Shed),(31,.pointer (some ⟨bq38,7,none⟩)),(32,.pointer (some ⟨bq38,7,none⟩)),(33,.int .i64 x36.Window.Cell),(34,.pointer (some ⟨bq38,2,none⟩)),(35,.int .i64 x36.Home),(36,.bool (!decide (x36.Window.Cell = x36.Home))),(39,.pointer (some ⟨bq38,7,none⟩)),(40,.pointer (some ⟨bq38,8,none⟩)),(41,.int .i64 x36.Window.Epoch),(42,.pointer (some ⟨bq38,6,none⟩)),(43,.int .i64 x36.Epoch),(44,.bool (!decide (x36.Window.Epoch = x36.Epoch))),(47,.pointer (some ⟨bq38,7,none⟩)),(48,.pointer (some ⟨bq38,9,none⟩)),(49,.int .i64 x36.Window.Version),(50,.pointer (some ⟨bq1,3,none⟩)),(51,.slice g_x0.Cells.1 x0.Cells.length g_x0.Cells.2),(52,.pointer (some ⟨bq38,2,none⟩)),(53,.int .i64 x36.Home),(54,.pointer (some ((adr g_x0.Cells.1).add (x36.Home.toNat * 4)))),(55,.pointer (some (((adr g_x0.Cells.1).add (x36.Home.toNat * 4)).add 1))),(56,.int .i64 x44.Running),(57,.bool (!decide (x36.Window.Version = x44.Running))),(58,.bool (!decide (x36.Window.Version = x44.Running)))] (by kernel_rfl) fun fr => ?_
       refine r_le (le_w [false,true]) ?_
       exact r_done ⟨!decide (x36.Window.Version = x44.Running),_,h,fr_eq _ (by kernel_rfl),(by kernel_rfl)⟩
   clear h
   rintro fr S ⟨x46,fr,h,rfl,rfl⟩
   replace h := hK48 _ h
   refine r_done ?_
   refine r_ite (fun hb49 => ?_) (fun hb49 => ?_)
   ·replace h := h_t h hb49
    clear hb49
    refine r_bind ?_
    refine r_done ?_
    repeat refine r_done ?_
    replace h := h_m h
    subst hK52
    repeat refine r_done ?_
    obtain rfl := h_out h
    exact ret_of (RV.tmp RV.nil) (le_w [false]) ⟨rfl,rfl⟩
   ·replace h := h_f h hb49
    clear hb49
    refine r_done ?_
    refine r_done ?_
    refine r_num (e' := w64 (x34 + 1)) rfl ?_
    exact r_done ⟨m53,lt_s hm53,w64 (x34 + 1),_,h,fr_eq _ (by kernel_rfl),(by kernel_rfl)⟩
 ·replace h := h_f h hb35
  clear hb35
  refine r_done ?_
  refine r_done ?_
  replace h := h_m h
  subst hK52
  refine r_done ?_
  refine r_bind ?_
  refine r_done ?_
  repeat refine r_done ?_
  repeat refine r_done ?_
  obtain rfl := h_out h
  exact ret_of (RV.tmp RV.nil) (le_w [false]) ⟨rfl,rfl⟩
theorem hc_26 {ρ : Addr → Option Value} {L : List Ent} {g_c0 : gConfig} {g_s1 : gState} {g_x2 : gState} {S_c0 : St} (hS_c0 : Le ⟨ρ,L⟩ S_c0) {S_s1 : St} (hS_s1 : Le ⟨ρ,L⟩ S_s1) {S_x2 : St} (hS_x2 : Le ⟨ρ,L⟩ S_x2) (c0 : Config) (s1 : State) (x2 : State) (rule3 : Int) (h_c0 : Sl_Config S_c0 c0 g_c0) (h_s1 : Sl_State S_s1 s1 g_s1) (h_x2 : Sl_State S_x2 x2 g_x2) {r : Bool} (h : cellplanelaw12_obeys c0 s1 x2 rule3 = some r) : HC Try.prog 26 #[.agg (en_Config c0 g_c0).toArray,.agg (en_State s1 g_s1).toArray,.agg (en_State x2 g_x2).toArray,.int .i64 rule3] ⟨ρ,L⟩ (fun v S' => v = .bool r ∧ S' = ⟨ρ,L⟩) := by
 replace h := h_in h
 refine HC.intro (N := 48) (args := [_,_,_,_]) tt_ok Try.func26 rfl (by decide +kernel) rfl (Nat.le_of_ble_eq_true rfl) ?_
 refine r_bind ?_
 refine r_bx (en_Config c0 g_c0) (by kernel_rfl) fun bq1 => ?_
 refine r_bx (en_State s1 g_s1) (by kernel_rfl) fun bq2 => ?_
 refine r_bx (en_State x2 g_x2) (by kernel_rfl) fun bq3 => ?_
 refine r_done ?_
 refine r_bind ?_
 refine r_bind ?_
 refine r_meet (fun fr S => ∃ fr0,fr = updL [(3,.int .i64 rule3),(4,.pointer (some ⟨bq1,0,none⟩)),(5,.pointer (some ⟨bq2,0,none⟩)),(6,.pointer (some ⟨bq3,0,none⟩)),(24,.bool ((!decide ((x2.Tenants.length : Int) = (c0.Tenants.length : Int))) || (!decide ((x2.Cells.length : Int) = (c0.Cells.length : Int)))))] fr0 ∧ S = ⟨ρ,.obj bq3 (en_State x2 g_x2) 36 :: .obj bq2 (en_State s1 g_s1) 36 :: .obj bq1 (en_Config c0 g_c0) 30 :: L⟩) ?_ ?_
 ·refine r_ld 0 tt_ok (v := .slice g_x2.Tenants.1 x2.Tenants.length g_x2.Tenants.2) ts_33 rfl (by kernel_rfl) ?_
  refine r_ld 2 tt_ok (v := .slice g_c0.Tenants.1 c0.Tenants.length g_c0.Tenants.2) ts_27 rfl (by kernel_rfl) ?_
  refine r_kp [(3,.int .i64 rule3),(4,.pointer (some ⟨bq1,0,none⟩)),(5,.pointer (some ⟨bq2,0,none⟩)),(6,.pointer (some ⟨bq3,0,none⟩)),(11,.int .i64 (x2.Tenants.length : Int)),(13,.slice g_c0.Tenants.1 c0.Tenants.length g_c0.Tenants.2)] (by kernel_rfl) fun fr => ?_
  refine r_ite (fun (hb4 : (!decide ((x2.Tenants.length : Int) = (c0.Tenants.length : Int))) = true) => ?_) (fun (hb4 : (!decide ((x2.Tenants.length : Int) = (c0.Tenants.length : Int))) = false) => ?_)
  ·refine r_T rfl ?_
   refine r_T rfl ?_
   refine r_T rfl ?_
   refine r_T rfl ?_
   refine r_T rfl ?_
   refine r_kp [(3,.int .i64 rule3),(4,.pointer (some ⟨bq1,0,none⟩)),(5,.pointer (some ⟨bq2,0,none⟩)),(6,.pointer (some ⟨bq3,0,none⟩)),(16,.bool true),(19,undef),(22,undef)] (by kernel_rfl) fun fr => ?_
   refine r_T rfl ?_
   refine r_T rfl ?_
   exact r_done ⟨_,fr_eq _ (by (try rw [hb4]); kernel_rfl),(by kernel_rfl)⟩
  ·refine r_F rfl ?_
   refine r_ld 0 tt_ok (v := .slice g_x2.Cells.1 x2.Cells.length g_x2.Cells.2) ts_34 rfl (by kernel_rfl) ?_
   refine r_F rfl ?_
   refine r_F rfl ?_
   refine r_F rfl ?_
   refine r_ld 2 tt_ok (v := .slice g_c0.Cells.1 c0.Cells.length g_c0.Cells.2) ts_26 rfl (by kernel_rfl) ?_
   refine r_F rfl ?_
   refine r_kp [(3,.int .i64 rule3),(4,.pointer (some ⟨bq1,0,none⟩)),(5,.pointer (some ⟨bq2,0,none⟩)),(6,.pointer (some ⟨bq3,0,none⟩)),(16,.bool false),(19,.int .i64 (x2.Cells.length : Int)),(22,.int .i64 (c0.Cells.length : Int))] (by kernel_rfl) fun fr => ?_
   refine r_F rfl ?_
   exact r_done ⟨_,fr_eq _ (by (try rw [hb4]); kernel_rfl),(by kernel_rfl)⟩
 rintro fr S ⟨fr,rfl,rfl⟩
 refine r_done ?_
 refine r_ite (fun hb5 => ?_) (fun hb5 => ?_)
 ·replace h := h_t h hb5
  clear hb5
  refine r_bind ?_
  refine r_done ?_
  repeat refine r_done ?_
  repeat refine r_done ?_
  obtain rfl := h_out h
  exact ret_of (RV.tmp RV.nil) (le_w [false,false,false]) ⟨rfl,rfl⟩
 ·replace h := h_f h hb5
  clear hb5
  refine r_done ?_
  refine r_bind ?_
  refine r_bind ?_
  refine r_done ?_
  refine r_bind ?_
  refine r_bind ?_
  refine r_done ?_
  refine r_ite (fun hb6 => ?_) (fun hb6 => ?_)
  ·replace h := h_t h hb6
   clear hb6
   refine r_bind ?_
   refine r_ldn 2 tt_ok (en_Config c0 g_c0) ta_30 rfl (by kernel_rfl) (by kernel_rfl) ?_
   refine r_ldn 0 tt_ok (en_State x2 g_x2) ta_36 rfl (by kernel_rfl) (by kernel_rfl) ?_
   replace h := h_b h; obtain ⟨x8,hx7,h⟩ := h
   refine r_call (hc_37 (g_c0 := g_c0) (c0 := c0) (g_x1 := g_x2) (x1 := x2) (hS_c0 := by exact (le_d 3).trans hS_c0) (h_c0 := by exact h_c0) (hS_x1 := by exact (le_d 3).trans hS_x2) (h_x1 := by exact h_x2) (h := hx7)) ?_
   rintro _ _ ⟨rfl,rfl⟩
   refine r_done ?_
   repeat refine r_done ?_
   repeat refine r_done ?_
   obtain rfl := h_out h
   exact ret_of (RV.tmp RV.nil) (le_w [false,false,false]) ⟨rfl,rfl⟩
  ·replace h := h_f h hb6
   clear hb6
   refine r_bind ?_
   refine r_done ?_
   refine r_ite (fun hb9 => ?_) (fun hb9 => ?_)
   ·replace h := h_t h hb9
    clear hb9
    refine r_bind ?_
    refine r_ldn 2 tt_ok (en_Config c0 g_c0) ta_30 rfl (by kernel_rfl) (by kernel_rfl) ?_
    refine r_ldn 0 tt_ok (en_State x2 g_x2) ta_36 rfl (by kernel_rfl) (by kernel_rfl) ?_
    replace h := h_b h; obtain ⟨x11,hx10,h⟩ := h
    refine r_call (hc_38 (g_c0 := g_c0) (c0 := c0) (g_x1 := g_x2) (x1 := x2) (hS_c0 := by exact (le_d 3).trans hS_c0) (h_c0 := by exact h_c0) (hS_x1 := by exact (le_d 3).trans hS_x2) (h_x1 := by exact h_x2) (h := hx10)) ?_
    rintro _ _ ⟨rfl,rfl⟩
    refine r_keep [(8,.bool x11)] (by kernel_rfl) fun fr => ?_
    refine r_done ?_
    repeat refine r_done ?_
    repeat refine r_done ?_
    obtain rfl := h_out h
    exact ret_of (RV.tmp RV.nil) (le_w [false,false,false]) ⟨rfl,rfl⟩
   ·replace h := h_f h hb9
    clear hb9
    refine r_bind ?_
    refine r_done ?_
    refine r_ite (fun hb12 => ?_) (fun hb12 => ?_)
    ·replace h := h_t h hb12
     clear hb12
     refine r_bind ?_
     refine r_ldn 2 tt_ok (en_Config c0 g_c0) ta_30 rfl (by kernel_rfl) (by kernel_rfl) ?_
     refine r_ldn 0 tt_ok (en_State x2 g_x2) ta_36 rfl (by kernel_rfl) (by kernel_rfl) ?_
     refine r_kp [(38,.agg (en_Config c0 g_c0).toArray),(39,.agg (en_State x2 g_x2).toArray)] (by kernel_rfl) fun fr => ?_
     replace h := h_b h; obtain ⟨x14,hx13,h⟩ := h
     refine r_call (hc_39 (g_c0 := g_c0) (c0 := c0) (g_x1 := g_x2) (x1 := x2) (hS_c0 := by exact (le_d 3).trans hS_c0) (h_c0 := by exact h_c0) (hS_x1 := by exact (le_d 3).trans hS_x2) (h_x1 := by exact h_x2) (h := hx13)) ?_
     rintro _ _ ⟨rfl,rfl⟩
     refine r_done ?_
     repeat refine r_done ?_
     repeat refine r_done ?_
     obtain rfl := h_out h
     exact ret_of (RV.tmp RV.nil) (le_w [false,false,false]) ⟨rfl,rfl⟩
    ·replace h := h_f h hb12
     clear hb12
     refine r_bind ?_
     refine r_keep [(5,.pointer (some ⟨bq2,0,none⟩)),(6,.pointer (some ⟨bq3,0,none⟩)),(41,.bool (decide (rule3 = 3)))] (by kernel_rfl) fun fr => ?_
     refine r_done ?_
     refine r_ite (fun hb15 => ?_) (fun hb15 => ?_)
     ·replace h := h_t h hb15
      clear hb15
      refine r_bind ?_
      refine r_ldn 1 tt_ok (en_State s1 g_s1) ta_36 rfl (by kernel_rfl) (by kernel_rfl) ?_
      refine r_ldn 0 tt_ok (en_State x2 g_x2) ta_36 rfl (by kernel_rfl) (by kernel_rfl) ?_
      replace h := h_b h; obtain ⟨x17,hx16,h⟩ := h
      refine r_call (hc_40 (g_s0 := g_s1) (s0 := s1) (g_x1 := g_x2) (x1 := x2) (hS_s0 := by exact (le_d 3).trans hS_s1) (h_s0 := by exact h_s1) (hS_x1 := by exact (le_d 3).trans hS_x2) (h_x1 := by exact h_x2) (h := hx16)) ?_
      rintro _ _ ⟨rfl,rfl⟩
      refine r_done ?_
      repeat refine r_done ?_
      repeat refine r_done ?_
      obtain rfl := h_out h
      exact ret_of (RV.tmp RV.nil) (le_w [false,false,false]) ⟨rfl,rfl⟩
     ·replace h := h_f h hb15
      clear hb15
      refine r_done ?_
      refine r_done ?_
      refine r_bind ?_
      refine r_ldn 0 tt_ok (en_State x2 g_x2) ta_36 rfl (by kernel_rfl) (by kernel_rfl) ?_
      replace h := h_b h; obtain ⟨x19,hx18,h⟩ := h
      refine r_call (hc_41 (g_x0 := g_x2) (x0 := x2) (hS_x0 := by exact (le_d 3).trans hS_x2) (h_x0 := by exact h_x2) (h := hx18)) ?_
      rintro _ _ ⟨rfl,rfl⟩
      refine r_done ?_
      repeat refine r_done ?_
      repeat refine r_done ?_
      obtain rfl := h_out h
      exact ret_of (RV.tmp RV.nil) (le_w [false,false,false]) ⟨rfl,rfl⟩
theorem hc_15 {ρ : Addr → Option Value} {L : List Ent} {A_l0 : Option Addr} {c_l0 : Nat} {A_more1 : Option Addr} {c_more1 : Nat} {S_l0 : St} (hS_l0 : Le ⟨ρ,L⟩ S_l0) {S_more1 : St} (hS_more1 : Le ⟨ρ,L⟩ S_more1) (l0 : (List Int)) (more1 : (List Int)) (rule2 : Int) (h_l0 : Sl S_l0 A_l0 l0.length c_l0 (fl eI64.en l0)) (h_more1 : Sl S_more1 A_more1 more1.length c_more1 (fl eI64.en more1)) {r : Bool} (h : cellplanelaw12_each l0 more1 rule2 = some r) : HC Try.prog 15 #[.slice A_l0 l0.length c_l0,.slice A_more1 more1.length c_more1,.int .i64 rule2] ⟨ρ,L⟩ (fun v S' => v = .bool r ∧ S' = ⟨ρ,L⟩) := by
 replace h := h_in h
 refine HC.intro (N := 62) (args := [_,_,_]) tt_ok Try.func15 rfl (by decide +kernel) rfl (Nat.le_of_ble_eq_true rfl) ?_
 refine r_bind ?_
 refine r_done ?_
 refine r_bind ?_
 replace h := h_b h; obtain ⟨x2,hx1,h⟩ := h
 refine r_call (hc_11 (A_l0 := A_l0) (c_l0 := c_l0) (l0 := l0) (hS_l0 := by exact (le_d 0).trans hS_l0) (h_l0 := by exact h_l0) (h := hx1)) ?_
 rintro _ _ ⟨A3,c4,A6,c7,A9,c10,A12,c13,A15,c16,A18,c19,rfl,rfl⟩
 refine r_al tt_ok (en_Config (⟨0,[],[],[],[],[],[],0,0,0⟩ : Config) (⟨(none,0),(none,0),(none,0),(none,0),(none,0),(none,0)⟩)) ti_30 (by kernel_rfl) fun bq21 => ?_
 refine r_s 0 tt_ok (en_Config x2 (⟨(A3,c4),(A6,c7),(A9,c10),(A12,c13),(A15,c16),(A18,c19)⟩)) (fitn ta_30 (by kernel_rfl)) rfl (by kernel_rfl) (by kernel_rfl) ?_
 refine r_done ?_
 refine r_bind ?_
 refine r_ldn 0 tt_ok (en_Config x2 (⟨(A3,c4),(A6,c7),(A9,c10),(A12,c13),(A15,c16),(A18,c19)⟩)) ta_30 rfl (by kernel_rfl) (by kernel_rfl) ?_
 replace h := h_b h; obtain ⟨x23,hx22,h⟩ := h
 refine r_call (hc_13 (g_c0 := ⟨(A3,c4),(A6,c7),(A9,c10),(A12,c13),(A15,c16),(A18,c19)⟩) (c0 := x2) (hS_c0 := by exact Le.refl _) (h_c0 := by exact ⟨sl_row 1 rfl,sl_row 2 rfl,sl_row 3 rfl,sl_row 4 rfl,sl_row 5 rfl,sl_row 6 rfl⟩) (h := hx22)) ?_
 rintro _ _ ⟨A24,c25,A27,c28,rfl,rfl⟩
 refine r_al tt_ok (en_State (⟨0,0,[],[],0,0,0,0⟩ : State) (⟨(none,0),(none,0)⟩)) ti_36 (by kernel_rfl) fun bq30 => ?_
 refine r_s 0 tt_ok (en_State x23 (⟨(A24,c25),(A27,c28)⟩)) (fitn ta_36 (by kernel_rfl)) rfl (by kernel_rfl) (by kernel_rfl) ?_
 refine r_keep [(1,.slice A_more1 more1.length c_more1),(2,.int .i64 rule2),(7,.pointer (some ⟨bq21,0,none⟩)),(8,.pointer (some ⟨bq30,0,none⟩))] (by kernel_rfl) fun fr => ?_
 refine r_done ?_
 refine r_bind ?_
 refine r_call (hc_18 (A_l0 := A_more1) (c_l0 := c_more1) (l0 := more1) (hS_l0 := by exact (le_d 10).trans hS_more1) (h_l0 := by exact h_more1)) ?_
 rintro _ _ ⟨bq31,A32,c33,rfl,rfl,hs34⟩
 refine r_done ?_
 refine r_bind ?_
 refine r_bind ?_
 refine r_done ?_
 refine r_bind ?_
 replace h := h_l h; obtain ⟨K278,n279,h,hK280⟩ := h
 refine r_le ((le_mv 10).trans ((le_mv 10).trans ((le_mv 10).trans ((le_mv 10).trans ((le_mv 10).trans ((le_mv 10).trans ((le_mv 10).trans ((le_mv 8).trans ((le_mv 8).trans ((le_mv 10).trans (le_mv 10))))))))))) ?_
 refine r_loop (fun n fr S => ∃ (x196 : Int),∃ (tic197 : Int),∃ (cou198 : Int),∃ (xs199 : (List TenantState)),∃ (xs203 : (List CellState)),∃ (pro207 : Int),∃ (eva208 : Int),∃ (low209 : Int),∃ (hig210 : Int),∃ (at211 : Int),∃ (A200 : Option Addr),∃ (c201 : Nat),∃ (A204 : Option Addr),∃ (c205 : Nat),∃ fr0,(runN (cellplanelaw12_each.b1 more1 x2 rule2) n (x196,tic197,cou198,xs199,xs203,pro207,eva208,low209,hig210,at211)).bind K278 = some r ∧ fr = updL [(2,.int .i64 rule2),(7,.pointer (some ⟨bq21,0,none⟩)),(8,.pointer (some ⟨bq30,0,none⟩)),(9,.pointer (some ⟨bq31,0,none⟩)),(10,.int .i64 x196)] fr0 ∧ S = ⟨ρ,.row A200 xs199.length c201 50 12 (fl eTenantState.en xs199) :: .row A204 xs203.length c205 67 4 (fl eCellState.en xs203) :: .obj bq31 (en_cellplanemake_Tape ({ (cellplanemake_New more1) with At := at211 }) (⟨(A32,c33)⟩)) 73 :: .obj bq30 (en_State (⟨tic197,cou198,xs199,xs203,pro207,eva208,low209,hig210⟩ : State) (⟨(A200,c201),(A204,c205)⟩)) 36 :: .obj bq21 (en_Config x2 (⟨(A3,c4),(A6,c7),(A9,c10),(A12,c13),(A15,c16),(A18,c19)⟩)) 30 :: .row A3 x2.Zones.length c4 58 1 (fl eZone.en x2.Zones) :: .row A6 x2.Cells.length c7 60 2 (fl eCell.en x2.Cells) :: .row A9 x2.Tenants.length c10 63 7 (fl eTenant.en x2.Tenants) :: .row A12 x2.Versions.length c13 65 2 (fl eVersion.en x2.Versions) :: .row A15 x2.Replicas.length c16 3 1 (fl eI64.en x2.Replicas) :: .row A18 x2.Observers.length c19 3 1 (fl eI64.en x2.Observers) :: L⟩) n279 ⟨0,x23.Tick,x23.Count,x23.Tenants,x23.Cells,x23.Proven,x23.Evacuating,x23.Low,x23.High,(cellplanemake_New more1).At,A24,c25,A27,c28,_,h,fr_eq _ (by kernel_rfl),(by kernel_rfl)⟩ ?_
 clear h
 rintro n279 fr S ⟨x196,tic197,cou198,xs199,xs203,pro207,eva208,low209,hig210,at211,A200,c201,A204,c205,fr,h,rfl,rfl⟩
 replace h := h_r h; obtain ⟨m281,hm281,h⟩ := h
 refine r_bind ?_
 refine r_bind ?_
 replace h := h_j h; obtain ⟨K214,h,hK215⟩ := h
 refine r_meet (fun fr S => ∃ (x213 : Bool),∃ fr0,K214 x213 = some r ∧ fr = updL [(2,.int .i64 rule2),(7,.pointer (some ⟨bq21,0,none⟩)),(8,.pointer (some ⟨bq30,0,none⟩)),(9,.pointer (some ⟨bq31,0,none⟩)),(10,.int .i64 x196),(24,.bool x213)] fr0 ∧ S = ⟨ρ,.obj bq31 (en_cellplanemake_Tape ({ (cellplanemake_New more1) with At := at211 }) (⟨(A32,c33)⟩)) 73 :: .row A200 xs199.length c201 50 12 (fl eTenantState.en xs199) :: .row A204 xs203.length c205 67 4 (fl eCellState.en xs203) :: .obj bq30 (en_State (⟨tic197,cou198,xs199,xs203,pro207,eva208,low209,hig210⟩ : State) (⟨(A200,c201),(A204,c205)⟩)) 36 :: .obj bq21 (en_Config x2 (⟨(A3,c4),(A6,c7),(A9,c10),(A12,c13),(A15,c16),(A18,c19)⟩)) 30 :: .row A3 x2.Zones.length c4 58 1 (fl eZone.en x2.Zones) :: .row A6 x2.Cells.length c7 60 2 (fl eCell.en x2.Cells) :: .row A9 x2.Tenants.length c10 63 7 (fl eTenant.en x2.Tenants) :: .row A12 x2.Versions.length c13 65 2 (fl eVersion.en x2.Versions) :: .row A15 x2.Replicas.length c16 3 1 (fl eI64.en x2.Replicas) :: .row A18 x2.Observers.length c19 3 1 (fl eI64.en x2.Observers) :: L⟩) ?_ ?_
 ·refine r_ite (fun (hb212 : (decide (x196 < 60)) = true) => ?_) (fun (hb212 : (decide (x196 < 60)) = false) => ?_)
  ·replace h := h_t h hb212
   clear hb212
   refine r_kp [(2,.int .i64 rule2),(7,.pointer (some ⟨bq21,0,none⟩)),(8,.pointer (some ⟨bq30,0,none⟩)),(9,.pointer (some ⟨bq31,0,none⟩)),(10,.int .i64 x196),(21,.bool true),(22,.pointer (some ⟨bq31,0,none⟩))] (by kernel_rfl) fun fr => ?_
   refine r_T rfl ?_
   refine r_le (le_mv 2) ?_
   refine r_call (hc_23 (bt0 := bq31) (g_t0 := ⟨(A32,c33)⟩) (t0 := { (cellplanemake_New more1) with At := at211 }) (hS_t0 := by exact (le_d 10).trans hS_more1) (h_t0 := by exact hs34)) ?_
   rintro _ _ ⟨rfl,rfl⟩
   exact r_done ⟨(cellplanemake_Tape_More ({ (cellplanemake_New more1) with At := at211 })),_,h,fr_eq _ (by kernel_rfl),(by kernel_rfl)⟩
  ·replace h := h_f h hb212
   clear hb212
   refine r_kp [(2,.int .i64 rule2),(7,.pointer (some ⟨bq21,0,none⟩)),(8,.pointer (some ⟨bq30,0,none⟩)),(9,.pointer (some ⟨bq31,0,none⟩)),(10,.int .i64 x196),(21,.bool false),(22,undef)] (by kernel_rfl) fun fr => ?_
   refine r_F rfl ?_
   refine r_F rfl ?_
   refine r_le ((le_mv 10).trans ((le_mv 10).trans ((le_mv 10).trans ((le_mv 10).trans ((le_mv 10).trans ((le_mv 10).trans ((le_mv 10).trans ((le_mv 10).trans ((le_mv 9).trans ((le_mv 9).trans (le_mv 10))))))))))) ?_
   exact r_done ⟨false,_,h,fr_eq _ (by kernel_rfl),(by kernel_rfl)⟩
 clear h
 rintro fr S ⟨x213,fr,h,rfl,rfl⟩
 replace h := hK215 _ h
 refine r_done ?_
 refine r_ite (fun hb216 => ?_) (fun hb216 => ?_)
 ·replace h := h_t h hb216
  clear hb216
  refine r_done ?_
  refine r_bind ?_
  refine r_bind ?_
  refine r_bind ?_
  refine r_bind ?_
  refine r_meet (fun fr S => ∃ fr0,fr = updL [(2,.int .i64 rule2),(7,.pointer (some ⟨bq21,0,none⟩)),(8,.pointer (some ⟨bq30,0,none⟩)),(9,.pointer (some ⟨bq31,0,none⟩)),(10,.int .i64 x196),(42,.bool ((!decide ((xs199.length : Int) = (x2.Tenants.length : Int))) || (!decide ((xs203.length : Int) = (x2.Cells.length : Int)))))] fr0 ∧ S = ⟨ρ,.obj bq31 (en_cellplanemake_Tape ({ (cellplanemake_New more1) with At := at211 }) (⟨(A32,c33)⟩)) 73 :: .row A200 xs199.length c201 50 12 (fl eTenantState.en xs199) :: .row A204 xs203.length c205 67 4 (fl eCellState.en xs203) :: .obj bq30 (en_State (⟨tic197,cou198,xs199,xs203,pro207,eva208,low209,hig210⟩ : State) (⟨(A200,c201),(A204,c205)⟩)) 36 :: .obj bq21 (en_Config x2 (⟨(A3,c4),(A6,c7),(A9,c10),(A12,c13),(A15,c16),(A18,c19)⟩)) 30 :: .row A3 x2.Zones.length c4 58 1 (fl eZone.en x2.Zones) :: .row A6 x2.Cells.length c7 60 2 (fl eCell.en x2.Cells) :: .row A9 x2.Tenants.length c10 63 7 (fl eTenant.en x2.Tenants) :: .row A12 x2.Versions.length c13 65 2 (fl eVersion.en x2.Versions) :: .row A15 x2.Replicas.length c16 3 1 (fl eI64.en x2.Replicas) :: .row A18 x2.Observers.length c19 3 1 (fl eI64.en x2.Observers) :: L⟩) ?_ ?_
  ·refine r_ld 3 tt_ok (v := .slice A200 xs199.length c201) ts_33 rfl (by kernel_rfl) ?_
   refine r_kp [(2,.int .i64 rule2),(7,.pointer (some ⟨bq21,0,none⟩)),(8,.pointer (some ⟨bq30,0,none⟩)),(9,.pointer (some ⟨bq31,0,none⟩)),(10,.int .i64 x196),(28,.slice A200 xs199.length c201)] (by kernel_rfl) fun fr => ?_
   refine r_ld 4 tt_ok (v := .slice A9 x2.Tenants.length c10) ts_27 rfl (by kernel_rfl) ?_
   refine r_ite (fun (hb217 : (!decide ((xs199.length : Int) = (x2.Tenants.length : Int))) = true) => ?_) (fun (hb217 : (!decide ((xs199.length : Int) = (x2.Tenants.length : Int))) = false) => ?_)
   ·refine r_T rfl ?_
    refine r_T rfl ?_
    refine r_kp [(2,.int .i64 rule2),(7,.pointer (some ⟨bq21,0,none⟩)),(8,.pointer (some ⟨bq30,0,none⟩)),(9,.pointer (some ⟨bq31,0,none⟩)),(10,.int .i64 x196),(34,.bool true),(35,undef),(36,undef),(37,undef)] (by kernel_rfl) fun fr => ?_
    refine r_T rfl ?_
    refine r_T rfl ?_
    refine r_T rfl ?_
    refine r_T rfl ?_
    refine r_T rfl ?_
    exact r_done ⟨_,fr_eq _ (by (try rw [hb217]); kernel_rfl),(by kernel_rfl)⟩
   ·refine r_F rfl ?_
    refine r_ld 3 tt_ok (v := .slice A204 xs203.length c205) ts_34 rfl (by kernel_rfl) ?_
    refine r_F rfl ?_
    refine r_kp [(2,.int .i64 rule2),(7,.pointer (some ⟨bq21,0,none⟩)),(8,.pointer (some ⟨bq30,0,none⟩)),(9,.pointer (some ⟨bq31,0,none⟩)),(10,.int .i64 x196),(34,.bool false),(35,.pointer (some ⟨bq30,3,none⟩)),(36,.slice A204 xs203.length c205),(37,.int .i64 (xs203.length : Int))] (by kernel_rfl) fun fr => ?_
    refine r_F rfl ?_
    refine r_F rfl ?_
    refine r_ld 4 tt_ok (v := .slice A6 x2.Cells.length c7) ts_26 rfl (by kernel_rfl) ?_
    refine r_F rfl ?_
    refine r_F rfl ?_
    exact r_done ⟨_,fr_eq _ (by (try rw [hb217]); kernel_rfl),(by kernel_rfl)⟩
  rintro fr S ⟨fr,rfl,rfl⟩
  refine r_done ?_
  refine r_ite (fun hb218 => ?_) (fun hb218 => ?_)
  ·replace h := h_t h hb218
   clear hb218
   refine r_bind ?_
   refine r_done ?_
   repeat refine r_done ?_
   replace h := h_m h
   subst hK280
   repeat refine r_done ?_
   obtain rfl := h_out h
   exact ret_of (RV.tmp RV.nil) (le_w [false,false,false,false,false,false,false,false,false,false,false]) ⟨rfl,rfl⟩
  ·replace h := h_f h hb218
   clear hb218
   refine r_done ?_
   refine r_bind ?_
   replace h := h_j h; obtain ⟨K272,h,hK273⟩ := h
   refine r_meet (fun fr S => ∃ (tic256 : Int),∃ (cou257 : Int),∃ (xs258 : (List TenantState)),∃ (xs262 : (List CellState)),∃ (pro266 : Int),∃ (eva267 : Int),∃ (low268 : Int),∃ (hig269 : Int),∃ (x270 : Int),∃ (at271 : Int),∃ (bq255 : Nat),∃ (A259 : Option Addr),∃ (c260 : Nat),∃ (A263 : Option Addr),∃ (c264 : Nat),∃ fr0,K272 (tic256,cou257,xs258,xs262,pro266,eva267,low268,hig269,x270,at271) = some r ∧ fr = updL [(2,.int .i64 rule2),(7,.pointer (some ⟨bq21,0,none⟩)),(8,.pointer (some ⟨bq30,0,none⟩)),(9,.pointer (some ⟨bq31,0,none⟩)),(10,.int .i64 x196),(11,.pointer (some ⟨bq255,0,none⟩)),(12,.int .i64 x270)] fr0 ∧ S = ⟨ρ,.obj bq255 (en_State (⟨tic256,cou257,xs258,xs262,pro266,eva267,low268,hig269⟩ : State) (⟨(A259,c260),(A263,c264)⟩)) 36 :: .row A259 xs258.length c260 50 12 (fl eTenantState.en xs258) :: .row A263 xs262.length c264 67 4 (fl eCellState.en xs262) :: .obj bq31 (en_cellplanemake_Tape ({ (cellplanemake_New more1) with At := at271 }) (⟨(A32,c33)⟩)) 73 :: .row A200 xs199.length c201 50 12 (fl eTenantState.en xs199) :: .row A204 xs203.length c205 67 4 (fl eCellState.en xs203) :: .obj bq30 (en_State (⟨tic197,cou198,xs199,xs203,pro207,eva208,low209,hig210⟩ : State) (⟨(A200,c201),(A204,c205)⟩)) 36 :: .obj bq21 (en_Config x2 (⟨(A3,c4),(A6,c7),(A9,c10),(A12,c13),(A15,c16),(A18,c19)⟩)) 30 :: .row A3 x2.Zones.length c4 58 1 (fl eZone.en x2.Zones) :: .row A6 x2.Cells.length c7 60 2 (fl eCell.en x2.Cells) :: .row A9 x2.Tenants.length c10 63 7 (fl eTenant.en x2.Tenants) :: .row A12 x2.Versions.length c13 65 2 (fl eVersion.en x2.Versions) :: .row A15 x2.Replicas.length c16 3 1 (fl eI64.en x2.Replicas) :: .row A18 x2.Observers.length c19 3 1 (fl eI64.en x2.Observers) :: L⟩) ?_ ?_
   ·refine r_mix tt_ok hm_ok _ _ [] (.vb 0 (.vb 1 (.pure 2 (.vb 3 (.vb 4 (.two 5 10 (.two 6 10 (.pure 7 (.pure 8 (.pure 9 (.eff 10 (.eff 11 (.pure 12 .nil)))))) (.eff 6 (.pure 7 (.pure 8 (.pure 9 (.eff 11 (.pure 12 .nil))))))) (.eff 5 (.eff 6 (.pure 7 (.pure 8 (.pure 9 (.eff 11 (.pure 12 .nil))))))))))))) (le_w [false,true,true,true,true,true,true,true,true,true,true]) (le_w [false,true,true,true,true,true,true,true,true,true,true]) ?_ ?_
    ·decide +kernel
    refine x_vb rfl ?_
    refine v_ldn 3 tt_ok (en_Config x2 (⟨(A3,c4),(A6,c7),(A9,c10),(A12,c13),(A15,c16),(A18,c19)⟩)) ta_30 rfl (by kernel_rfl) (by kernel_rfl) ?_
    refine v_done ?_
    refine x_vb rfl ?_
    refine v_ldn 2 tt_ok (en_State (⟨tic197,cou198,xs199,xs203,pro207,eva208,low209,hig210⟩ : State) (⟨(A200,c201),(A204,c205)⟩)) ta_36 rfl (by kernel_rfl) (by kernel_rfl) ?_
    refine v_done ?_
    refine x_p rfl ?_
    refine v_done ?_
    refine x_vb rfl ?_
    refine v_ldn 3 tt_ok (en_Config x2 (⟨(A3,c4),(A6,c7),(A9,c10),(A12,c13),(A15,c16),(A18,c19)⟩)) ta_30 rfl (by kernel_rfl) (by kernel_rfl) ?_
    refine v_done ?_
    refine x_vb rfl ?_
    refine v_ldn 2 tt_ok (en_State (⟨tic197,cou198,xs199,xs203,pro207,eva208,low209,hig210⟩ : State) (⟨(A200,c201),(A204,c205)⟩)) ta_36 rfl (by kernel_rfl) (by kernel_rfl) ?_
    refine v_done ?_
    refine x_2 rfl rfl ?_ ?_
    ·replace h := h_b h; obtain ⟨⟨x220,x221⟩,hx219,h⟩ := h
     refine r_call (hc_25 (bt0 := bq31) (g_t0 := ⟨(A32,c33)⟩) (t0 := { (cellplanemake_New more1) with At := at211 }) (g_c1 := ⟨(A3,c4),(A6,c7),(A9,c10),(A12,c13),(A15,c16),(A18,c19)⟩) (c1 := x2) (g_s2 := ⟨(A200,c201),(A204,c205)⟩) (s2 := (⟨tic197,cou198,xs199,xs203,pro207,eva208,low209,hig210⟩ : State)) (hS_t0 := by exact (le_d 10).trans hS_more1) (h_t0 := by exact hs34) (hS_c1 := by exact Le.refl _) (h_c1 := by exact ⟨sl_row 4 rfl,sl_row 5 rfl,sl_row 6 rfl,sl_row 7 rfl,sl_row 8 rfl,sl_row 9 rfl⟩) (hS_s2 := by exact Le.refl _) (h_s2 := by exact ⟨sl_row 0 rfl,sl_row 1 rfl⟩) (h := hx219)) ?_
     rintro _ _ ⟨rfl,rfl⟩
     refine r_done ⟨rfl,k_a (le_w [false,true,true,true,true,true,true,true,true,true,true]) (le_w [false,true,true,true,true,true,true,true,true,true,true]),?_⟩
     refine x_2 rfl rfl ?_ ?_
     ·replace h := h_b h; obtain ⟨⟨x223,x224⟩,hx222,h⟩ := h
      refine r_call (hc_24 (g_c0 := ⟨(A3,c4),(A6,c7),(A9,c10),(A12,c13),(A15,c16),(A18,c19)⟩) (c0 := x2) (g_s1 := ⟨(A200,c201),(A204,c205)⟩) (s1 := (⟨tic197,cou198,xs199,xs203,pro207,eva208,low209,hig210⟩ : State)) (e2 := x220) (hS_c0 := by exact Le.refl _) (h_c0 := by exact ⟨sl_row 5 rfl,sl_row 6 rfl,sl_row 7 rfl,sl_row 8 rfl,sl_row 9 rfl,sl_row 10 rfl⟩) (hS_s1 := by exact Le.refl _) (h_s1 := by exact ⟨sl_row 1 rfl,sl_row 2 rfl⟩) (h := hx222)) ?_
      rintro _ _ ⟨A225,c226,A228,c229,rfl,rfl⟩
      refine r_done ⟨rfl,k_a (le_w [false,false,false,true,true,true,true,true,true,true,true,true,true]) (le_w [false,false,false,true,true,true,true,true,true,true,true,true,true]),?_⟩
      refine x_p rfl ?_
      refine v_done ?_
      refine x_p rfl ?_
      refine v_done ?_
      refine x_kp [(2,.int .i64 rule2),(7,.pointer (some ⟨bq21,0,none⟩)),(8,.pointer (some ⟨bq30,0,none⟩)),(9,.pointer (some ⟨bq31,0,none⟩)),(10,.int .i64 x196),(43,.tuple #[.agg (en_State x223 (⟨(A225,c226),(A228,c229)⟩)).toArray,.int .i64 x224]),(51,.agg (en_State x223 (⟨(A225,c226),(A228,c229)⟩)).toArray)] (by kernel_rfl) fun fr => ?_
      refine x_p rfl ?_
      refine v_done ?_
      refine x_e rfl ?_
      refine r_al tt_ok (en_State (⟨0,0,[],[],0,0,0,0⟩ : State) (⟨(none,0),(none,0)⟩)) ti_36 (by kernel_rfl) fun bq231 => ?_
      refine r_done ⟨rfl,k_a (le_w [false,false,false,false,true,true,true,true,true,true,true,true,true,true]) (le_w [false,false,false,false,true,true,true,true,true,true,true,true,true,true]),?_⟩
      refine x_e rfl ?_
      refine r_s 0 tt_ok (en_State x223 (⟨(A225,c226),(A228,c229)⟩)) (fitn ta_36 (by kernel_rfl)) rfl (by kernel_rfl) (by kernel_rfl) ?_
      refine r_done ⟨rfl,k_a (le_w [false,false,false,false,true,true,true,true,true,true,true,true,true,true]) (le_w [false,false,false,false,true,true,true,true,true,true,true,true,true,true]),?_⟩
      refine x_p rfl ?_
      refine v_done ?_
      refine x_k [(2,.int .i64 rule2),(7,.pointer (some ⟨bq21,0,none⟩)),(8,.pointer (some ⟨bq30,0,none⟩)),(9,.pointer (some ⟨bq31,0,none⟩)),(10,.int .i64 x196),(11,.pointer (some ⟨bq231,0,none⟩)),(12,.int .i64 x224)] (by kernel_rfl) fun fr => ?_
      exact r_done ⟨x223.Tick,x223.Count,x223.Tenants,x223.Cells,x223.Proven,x223.Evacuating,x223.Low,x223.High,x224,x221,bq231,A225,c226,A228,c229,_,h,fr_eq _ (by kernel_rfl),(by kernel_rfl)⟩
     ·refine r_al tt_ok (en_State (⟨0,0,[],[],0,0,0,0⟩ : State) (⟨(none,0),(none,0)⟩)) ti_36 (by kernel_rfl) fun bq232 => ?_
      refine r_done ⟨rfl,k_a (le_w [false,false,true,true,true,true,true,true,true,true,true,true]) (le_w [false,false,true,true,true,true,true,true,true,true,true,true]),?_⟩
      refine x_e rfl ?_
      replace h := h_b h; obtain ⟨⟨x234,x235⟩,hx233,h⟩ := h
      refine r_call (hc_24 (g_c0 := ⟨(A3,c4),(A6,c7),(A9,c10),(A12,c13),(A15,c16),(A18,c19)⟩) (c0 := x2) (g_s1 := ⟨(A200,c201),(A204,c205)⟩) (s1 := (⟨tic197,cou198,xs199,xs203,pro207,eva208,low209,hig210⟩ : State)) (e2 := x220) (hS_c0 := by exact Le.refl _) (h_c0 := by exact ⟨sl_row 6 rfl,sl_row 7 rfl,sl_row 8 rfl,sl_row 9 rfl,sl_row 10 rfl,sl_row 11 rfl⟩) (hS_s1 := by exact Le.refl _) (h_s1 := by exact ⟨sl_row 2 rfl,sl_row 3 rfl⟩) (h := hx233)) ?_
      rintro _ _ ⟨A236,c237,A239,c240,rfl,rfl⟩
      refine r_done ⟨rfl,k_a (le_w [false,false,false,false,true,true,true,true,true,true,true,true,true,true]) (le_w [false,false,false,false,true,true,true,true,true,true,true,true,true,true]),?_⟩
      refine x_p rfl ?_
      refine v_done ?_
      refine x_p rfl ?_
      refine v_done ?_
      refine x_p rfl ?_
      refine v_done ?_
      refine x_e rfl ?_
      refine r_s 2 tt_ok (en_State x234 (⟨(A236,c237),(A239,c240)⟩)) (fitn ta_36 (by kernel_rfl)) rfl (by kernel_rfl) (by kernel_rfl) ?_
      refine r_done ⟨rfl,k_a (le_w [false,false,false,false,true,true,true,true,true,true,true,true,true,true]) (le_w [false,false,false,false,true,true,true,true,true,true,true,true,true,true]),?_⟩
      refine x_p rfl ?_
      refine v_done ?_
      refine x_k [(2,.int .i64 rule2),(7,.pointer (some ⟨bq21,0,none⟩)),(8,.pointer (some ⟨bq30,0,none⟩)),(9,.pointer (some ⟨bq31,0,none⟩)),(10,.int .i64 x196),(11,.pointer (some ⟨bq232,0,none⟩)),(12,.int .i64 x235)] (by kernel_rfl) fun fr => ?_
      refine r_le ((le_mv 13).trans ((le_mv 13).trans ((le_mv 13).trans ((le_mv 13).trans ((le_mv 13).trans ((le_mv 13).trans ((le_mv 13).trans ((le_mv 13).trans ((le_mv 13).trans ((le_mv 13).trans ((le_mv 13).trans ((le_mv 12).trans ((le_mv 12).trans (le_mv 13)))))))))))))) ?_
      exact r_done ⟨x234.Tick,x234.Count,x234.Tenants,x234.Cells,x234.Proven,x234.Evacuating,x234.Low,x234.High,x235,x221,bq232,A236,c237,A239,c240,_,h,fr_eq _ (by kernel_rfl),(by kernel_rfl)⟩
    ·refine r_al tt_ok (en_State (⟨0,0,[],[],0,0,0,0⟩ : State) (⟨(none,0),(none,0)⟩)) ti_36 (by kernel_rfl) fun bq242 => ?_
     refine r_done ⟨rfl,k_a (le_w [false,false,true,true,true,true,true,true,true,true,true,true]) (le_w [false,false,true,true,true,true,true,true,true,true,true,true]),?_⟩
     refine x_e rfl ?_
     refine r_le (le_mv 1) ?_
     replace h := h_b h; obtain ⟨⟨x244,x245⟩,hx243,h⟩ := h
     refine r_call (hc_25 (bt0 := bq31) (g_t0 := ⟨(A32,c33)⟩) (t0 := { (cellplanemake_New more1) with At := at211 }) (g_c1 := ⟨(A3,c4),(A6,c7),(A9,c10),(A12,c13),(A15,c16),(A18,c19)⟩) (c1 := x2) (g_s2 := ⟨(A200,c201),(A204,c205)⟩) (s2 := (⟨tic197,cou198,xs199,xs203,pro207,eva208,low209,hig210⟩ : State)) (hS_t0 := by exact (le_d 11).trans hS_more1) (h_t0 := by exact hs34) (hS_c1 := by exact Le.refl _) (h_c1 := by exact ⟨sl_row 5 rfl,sl_row 6 rfl,sl_row 7 rfl,sl_row 8 rfl,sl_row 9 rfl,sl_row 10 rfl⟩) (hS_s2 := by exact Le.refl _) (h_s2 := by exact ⟨sl_row 1 rfl,sl_row 2 rfl⟩) (h := hx243)) ?_
     rintro _ _ ⟨rfl,rfl⟩
     refine r_done ⟨rfl,k_a (le_w [false,false,true,true,true,true,true,true,true,true,true,true]) (le_w [false,false,true,true,true,true,true,true,true,true,true,true]),?_⟩
     refine x_e rfl ?_
     replace h := h_b h; obtain ⟨⟨x247,x248⟩,hx246,h⟩ := h
     refine r_call (hc_24 (g_c0 := ⟨(A3,c4),(A6,c7),(A9,c10),(A12,c13),(A15,c16),(A18,c19)⟩) (c0 := x2) (g_s1 := ⟨(A200,c201),(A204,c205)⟩) (s1 := (⟨tic197,cou198,xs199,xs203,pro207,eva208,low209,hig210⟩ : State)) (e2 := x244) (hS_c0 := by exact Le.refl _) (h_c0 := by exact ⟨sl_row 6 rfl,sl_row 7 rfl,sl_row 8 rfl,sl_row 9 rfl,sl_row 10 rfl,sl_row 11 rfl⟩) (hS_s1 := by exact Le.refl _) (h_s1 := by exact ⟨sl_row 2 rfl,sl_row 3 rfl⟩) (h := hx246)) ?_
     rintro _ _ ⟨A249,c250,A252,c253,rfl,rfl⟩
     refine r_done ⟨rfl,k_a (le_w [false,false,false,false,true,true,true,true,true,true,true,true,true,true]) (le_w [false,false,false,false,true,true,true,true,true,true,true,true,true,true]),?_⟩
     refine x_p rfl ?_
     refine v_done ?_
     refine x_p rfl ?_
     refine v_done ?_
     refine x_p rfl ?_
     refine v_done ?_
     refine x_e rfl ?_
     refine r_s 3 tt_ok (en_State x247 (⟨(A249,c250),(A252,c253)⟩)) (fitn ta_36 (by kernel_rfl)) rfl (by kernel_rfl) (by kernel_rfl) ?_
     refine r_done ⟨rfl,k_a (le_w [false,false,false,false,true,true,true,true,true,true,true,true,true,true]) (le_w [false,false,false,false,true,true,true,true,true,true,true,true,true,true]),?_⟩
     refine x_p rfl ?_
     refine v_done ?_
     refine x_k [(2,.int .i64 rule2),(7,.pointer (some ⟨bq21,0,none⟩)),(8,.pointer (some ⟨bq30,0,none⟩)),(9,.pointer (some ⟨bq31,0,none⟩)),(10,.int .i64 x196),(11,.pointer (some ⟨bq242,0,none⟩)),(12,.int .i64 x248)] (by kernel_rfl) fun fr => ?_
     refine r_le ((le_mv 13).trans ((le_mv 13).trans ((le_mv 13).trans ((le_mv 13).trans ((le_mv 13).trans ((le_mv 13).trans ((le_mv 13).trans ((le_mv 13).trans ((le_mv 13).trans ((le_mv 13).trans ((le_mv 12).trans ((le_mv 12).trans ((le_mv 12).trans (le_mv 13)))))))))))))) ?_
     exact r_done ⟨x247.Tick,x247.Count,x247.Tenants,x247.Cells,x247.Proven,x247.Evacuating,x247.Low,x247.High,x248,x245,bq242,A249,c250,A252,c253,_,h,fr_eq _ (by kernel_rfl),(by kernel_rfl)⟩
   clear h
   rintro fr S ⟨tic256,cou257,xs258,xs262,pro266,eva267,low268,hig269,x270,at271,bq255,A259,c260,A263,c264,fr,h,rfl,rfl⟩
   replace h := hK273 _ h
   refine r_done ?_
   refine r_bind ?_
   refine r_bind ?_
   refine r_done ?_
   refine r_ite (fun hb274 => ?_) (fun hb274 => ?_)
   ·replace h := h_t h hb274
    clear hb274
    refine r_done ?_
    refine r_done ?_
    refine r_done ?_
    refine r_num (e' := w64 (x196 + 1)) rfl ?_
    refine r_le ((le_mv 13).trans ((le_mv 13).trans ((le_mv 13).trans ((le_mv 13).trans ((le_mv 13).trans ((le_mv 13).trans ((le_mv 13).trans ((le_mv 13).trans ((le_mv 11).trans ((le_mv 13).trans ((le_mv 13).trans (le_w [true,true,true,true,true,true,true,true,true,true,true,false,false,false])))))))))))) ?_
    exact r_done ⟨m281,lt_s hm281,w64 (x196 + 1),tic197,cou198,xs199,xs203,pro207,eva208,low209,hig210,at271,A200,c201,A204,c205,_,h,fr_eq _ (by kernel_rfl),(by kernel_rfl)⟩
   ·replace h := h_f h hb274
    clear hb274
    refine r_done ?_
    refine r_bind ?_
    refine r_bind ?_
    refine r_ldn 7 tt_ok (en_Config x2 (⟨(A3,c4),(A6,c7),(A9,c10),(A12,c13),(A15,c16),(A18,c19)⟩)) ta_30 rfl (by kernel_rfl) (by kernel_rfl) ?_
    refine r_ldn 6 tt_ok (en_State (⟨tic197,cou198,xs199,xs203,pro207,eva208,low209,hig210⟩ : State) (⟨(A200,c201),(A204,c205)⟩)) ta_36 rfl (by kernel_rfl) (by kernel_rfl) ?_
    refine r_ldn 0 tt_ok (en_State (⟨tic256,cou257,xs258,xs262,pro266,eva267,low268,hig269⟩ : State) (⟨(A259,c260),(A263,c264)⟩)) ta_36 rfl (by kernel_rfl) (by kernel_rfl) ?_
    replace h := h_b h; obtain ⟨x276,hx275,h⟩ := h
    refine r_call (hc_26 (g_c0 := ⟨(A3,c4),(A6,c7),(A9,c10),(A12,c13),(A15,c16),(A18,c19)⟩) (c0 := x2) (g_s1 := ⟨(A200,c201),(A204,c205)⟩) (s1 := (⟨tic197,cou198,xs199,xs203,pro207,eva208,low209,hig210⟩ : State)) (g_x2 := ⟨(A259,c260),(A263,c264)⟩) (x2 := (⟨tic256,cou257,xs258,xs262,pro266,eva267,low268,hig269⟩ : State)) (rule3 := rule2) (hS_c0 := by exact Le.refl _) (h_c0 := by exact ⟨sl_row 8 rfl,sl_row 9 rfl,sl_row 10 rfl,sl_row 11 rfl,sl_row 12 rfl,sl_row 13 rfl⟩) (hS_s1 := by exact Le.refl _) (h_s1 := by exact ⟨sl_row 4 rfl,sl_row 5 rfl⟩) (hS_x2 := by exact Le.refl _) (h_x2 := by exact ⟨sl_row 1 rfl,sl_row 2 rfl⟩) (h := hx275)) ?_
    rintro _ _ ⟨rfl,rfl⟩
    refine r_done ?_
    refine r_ite (fun hb277 => ?_) (fun hb277 => ?_)
    ·replace h := h_t h hb277
     clear hb277
     refine r_bind ?_
     refine r_keep [(6,.bool false)] (by kernel_rfl) fun fr => ?_
     refine r_done ?_
     repeat refine r_done ?_
     replace h := h_m h
     subst hK280
     repeat refine r_done ?_
     obtain rfl := h_out h
     exact ret_of (RV.tmp RV.nil) (le_w [false,false,false,false,false,false,false,false,false,false,false,false,false,false]) ⟨rfl,rfl⟩
    ·replace h := h_f h hb277
     clear hb277
     refine r_done ?_
     refine r_ldn 0 tt_ok (en_State (⟨tic256,cou257,xs258,xs262,pro266,eva267,low268,hig269⟩ : State) (⟨(A259,c260),(A263,c264)⟩)) ta_36 rfl (by kernel_rfl) (by kernel_rfl) ?_
     refine r_kp [(2,.int .i64 rule2),(7,.pointer (some ⟨bq21,0,none⟩)),(8,.pointer (some ⟨bq30,0,none⟩)),(9,.pointer (some ⟨bq31,0,none⟩)),(10,.int .i64 x196),(61,.agg (en_State (⟨tic256,cou257,xs258,xs262,pro266,eva267,low268,hig269⟩ : State) (⟨(A259,c260),(A263,c264)⟩)).toArray)] (by kernel_rfl) fun fr => ?_
     refine r_s 6 tt_ok (en_State (⟨tic256,cou257,xs258,xs262,pro266,eva267,low268,hig269⟩ : State) (⟨(A259,c260),(A263,c264)⟩)) (fitn ta_36 (by kernel_rfl)) rfl (by kernel_rfl) (by kernel_rfl) ?_
     refine r_done ?_
     refine r_done ?_
     refine r_num (e' := w64 (x196 + 1)) rfl ?_
     refine r_le (le_w [false,true,true,true,false,false,true,true,true,true,true,true,true,true]) ?_
     exact r_done ⟨m281,lt_s hm281,w64 (x196 + 1),tic256,cou257,xs258,xs262,pro266,eva267,low268,hig269,at271,A259,c260,A263,c264,_,h,fr_eq _ (by kernel_rfl),(by kernel_rfl)⟩
 ·replace h := h_f h hb216
  clear hb216
  refine r_done ?_
  refine r_done ?_
  replace h := h_m h
  subst hK280
  refine r_done ?_
  refine r_bind ?_
  refine r_done ?_
  repeat refine r_done ?_
  repeat refine r_done ?_
  obtain rfl := h_out h
  exact ret_of (RV.tmp RV.nil) (le_w [false,false,false,false,false,false,false,false,false,false,false]) ⟨rfl,rfl⟩
theorem hc_4 {ρ : Addr → Option Value} {L : List Ent} {A_l0 : Option Addr} {c_l0 : Nat} {A_more1 : Option Addr} {c_more1 : Nat} {S_l0 : St} (hS_l0 : Le ⟨ρ,L⟩ S_l0) {S_more1 : St} (hS_more1 : Le ⟨ρ,L⟩ S_more1) (l0 : (List Int)) (more1 : (List Int)) (h_l0 : Sl S_l0 A_l0 l0.length c_l0 (fl eI64.en l0)) (h_more1 : Sl S_more1 A_more1 more1.length c_more1 (fl eI64.en more1)) {r : Bool} (h : cellplanelaw12_StateCapacity l0 more1 = some r) : HC Try.prog 4 #[.slice A_l0 l0.length c_l0,.slice A_more1 more1.length c_more1] ⟨ρ,L⟩ (fun v S' => v = .bool r ∧ S' = ⟨ρ,L⟩) := by
 replace h := h_in h
 refine HC.intro (N := 20) (args := [_,_]) tt_ok Try.func4 rfl (by decide +kernel) rfl (Nat.le_of_ble_eq_true rfl) ?_
 refine r_bind ?_
 refine r_done ?_
 refine r_bind ?_
 refine r_bind ?_
 refine r_meet (fun fr S => ∃ fr0,fr = updL [(0,.slice A_l0 l0.length c_l0),(1,.slice A_more1 more1.length c_more1),(12,.bool ((!(cellplanemake_Light l0)) || (!(cellplanemake_Light more1))))] fr0 ∧ S = ⟨ρ,L⟩) ?_ ?_
 ·refine r_call (hc_9 (A_l0 := A_l0) (c_l0 := c_l0) (l0 := l0) (hS_l0 := by exact (le_d 0).trans hS_l0) (h_l0 := by exact h_l0)) ?_
  rintro _ _ ⟨rfl,rfl⟩
  refine r_ite (fun (hb1 : (!(cellplanemake_Light l0)) = true) => ?_) (fun (hb1 : (!(cellplanemake_Light l0)) = false) => ?_)
  ·refine r_kp [(0,.slice A_l0 l0.length c_l0),(1,.slice A_more1 more1.length c_more1),(8,.bool true),(9,undef)] (by kernel_rfl) fun fr => ?_
   refine r_T rfl ?_
   refine r_T rfl ?_
   refine r_T rfl ?_
   exact r_done ⟨_,fr_eq _ (by (try rw [hb1]); kernel_rfl),(by kernel_rfl)⟩
  ·refine r_kp [(0,.slice A_l0 l0.length c_l0),(1,.slice A_more1 more1.length c_more1),(8,.bool false),(9,.slice A_more1 more1.length c_more1)] (by kernel_rfl) fun fr => ?_
   refine r_F rfl ?_
   refine r_call (hc_9 (A_l0 := A_more1) (c_l0 := c_more1) (l0 := more1) (hS_l0 := by exact (le_d 0).trans hS_more1) (h_l0 := by exact h_more1)) ?_
   rintro _ _ ⟨rfl,rfl⟩
   refine r_F rfl ?_
   exact r_done ⟨_,fr_eq _ (by (try rw [hb1]); kernel_rfl),(by kernel_rfl)⟩
 rintro fr S ⟨fr,rfl,rfl⟩
 refine r_done ?_
 refine r_ite (fun hb2 => ?_) (fun hb2 => ?_)
 ·replace h := h_t h hb2
  clear hb2
  refine r_bind ?_
  replace h := h_b h; obtain ⟨x4,hx3,h⟩ := h
  refine r_call (hc_10  (h := hx3)) ?_
  rintro _ _ ⟨rfl,rfl⟩
  refine r_done ?_
  repeat refine r_done ?_
  repeat refine r_done ?_
  obtain rfl := h_out h
  exact ret_of (RV.tmp RV.nil) (Le.refl _) ⟨rfl,rfl⟩
 ·replace h := h_f h hb2
  clear hb2
  refine r_done ?_
  refine r_bind ?_
  replace h := h_j h; obtain ⟨K11,h,hK12⟩ := h
  refine r_meet (fun fr S => ∃ (x10 : Bool),∃ fr0,K11 x10 = some r ∧ fr = updL [(4,.bool x10)] fr0 ∧ S = ⟨ρ,L⟩) ?_ ?_
  ·replace h := h_b h; obtain ⟨x6,hx5,h⟩ := h
   refine r_call (hc_10  (h := hx5)) ?_
   rintro _ _ ⟨rfl,rfl⟩
   refine r_ite (fun (hb7 : x6 = true) => ?_) (fun (hb7 : x6 = false) => ?_)
   ·replace h := h_t h hb7
    clear hb7
    refine r_kp [(1,.slice A_more1 more1.length c_more1),(15,.bool true),(16,.slice A_l0 l0.length c_l0)] (by kernel_rfl) fun fr => ?_
    refine r_T rfl ?_
    refine r_T rfl ?_
    replace h := h_b h; obtain ⟨x9,hx8,h⟩ := h
    refine r_call (hc_15 (A_l0 := A_l0) (c_l0 := c_l0) (l0 := l0) (A_more1 := A_more1) (c_more1 := c_more1) (more1 := more1) (rule2 := 0) (hS_l0 := by exact (le_d 0).trans hS_l0) (h_l0 := by exact h_l0) (hS_more1 := by exact (le_d 0).trans hS_more1) (h_more1 := by exact h_more1) (h := hx8)) ?_
    rintro _ _ ⟨rfl,rfl⟩
    exact r_done ⟨x9,_,h,fr_eq _ (by kernel_rfl),(by kernel_rfl)⟩
   ·replace h := h_f h hb7
    clear hb7
    refine r_kp [(1,.slice A_more1 more1.length c_more1),(15,.bool false),(16,undef)] (by kernel_rfl) fun fr => ?_
    refine r_F rfl ?_
    refine r_F rfl ?_
    refine r_F rfl ?_
    exact r_done ⟨false,_,h,fr_eq _ (by kernel_rfl),(by kernel_rfl)⟩
  clear h
  rintro fr S ⟨x10,fr,h,rfl,rfl⟩
  replace h := hK12 _ h
  refine r_done ?_
  repeat refine r_done ?_
  repeat refine r_done ?_
  obtain rfl := h_out h
  exact ret_of (RV.tmp RV.nil) (Le.refl _) ⟨rfl,rfl⟩
end Go.Proofs.YtcdoangbkgaapaaK
