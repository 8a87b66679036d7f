/- The code of 15 functions computes what it is to. No condition. -/
import Derived.Test.YtcdoangbkgaapaaG2
set_option linter.unusedVariables false
set_option maxHeartbeats 4000000
namespace Go.Proofs.YtcdoangbkgaapaaK
open Go Go.RowKit
theorem hc_60 {ρ : Addr → Option Value} {L : List Ent} {bf0 : Nat} {g_f0 : gstate_fold} {S_f0 : St} (hS_f0 : Le ⟨ρ,L⟩ S_f0) (f0 : state_fold) (h_f0 : Sl_state_fold S_f0 f0 g_f0) (h_f0_t : g_f0.t = fptr g_f0.s_Tenants.1 f0.e.Tenant 12) (h_f0_cell : g_f0.cell = fptr g_f0.s_Cells.1 f0.e.Cell 4)  : HC Try.prog 60 #[.pointer (some ⟨bf0,0,none⟩)] ⟨ρ,.row g_f0.s_Tenants.1 f0.s.Tenants.length g_f0.s_Tenants.2 50 12 (fl eTenantState.en f0.s.Tenants) :: .row g_f0.s_Cells.1 f0.s.Cells.length g_f0.s_Cells.2 67 4 (fl eCellState.en f0.s.Cells) :: .obj bf0 (en_state_fold f0 g_f0) 80 :: L⟩ (fun v S' => v = .int .i64 ((state_fold_contract f0).1) ∧ S' = ⟨ρ,.row g_f0.s_Tenants.1 (((state_fold_contract f0).2).Tenants).length g_f0.s_Tenants.2 50 12 (fl eTenantState.en (((state_fold_contract f0).2).Tenants)) :: .row g_f0.s_Cells.1 (((state_fold_contract f0).2).Cells).length g_f0.s_Cells.2 67 4 (fl eCellState.en (((state_fold_contract f0).2).Cells)) :: .obj bf0 (en_state_fold ({ f0 with s := (state_fold_contract f0).2 }) g_f0) 80 :: L⟩) := by
 generalize h : state_fold_contract f0 = r
 unfold state_fold_contract at h
 refine HC.intro (N := 23) (args := [_]) tt_ok Try.func60 rfl (by decide +kernel) rfl (Nat.le_of_ble_eq_true rfl) ?_
 refine r_bind ?_
 refine r_done ?_
 refine r_bind ?_
 refine r_bind ?_
 refine r_mix tt_ok hm_ok _ _ [] (.pure 0 (.pure 1 (.pure 2 (.pure 3 (.vb 4 (.pure 5 (.pure 6 (.pure 7 (.pure 8 (.vb 9 (.pure 10 .nil))))))))))) (le_w [true,true,true]) (le_w [true,true,true]) ?_ ?_
 ·decide +kernel
 refine x_p rfl ?_
 refine v_done ?_
 refine x_p rfl ?_
 refine v_done ?_
 refine x_p rfl ?_
 refine v_done ?_
 refine x_p rfl ?_
 refine v_done ?_
 refine x_vb rfl ?_
 refine v_ld 2 tt_ok (v := .int .i64 f0.s.High) ts_3 rfl (by kernel_rfl) ?_
 refine v_done ?_
 refine x_p rfl ?_
 refine v_done ?_
 refine x_p rfl ?_
 refine v_done ?_
 refine x_p rfl ?_
 refine v_done ?_
 refine x_kp [(0,.pointer (some ⟨bf0,0,none⟩)),(7,.int .i64 f0.s.High),(10,.pointer (some ⟨bf0,10,none⟩))] (by kernel_rfl) fun fr => ?_
 refine x_p rfl ?_
 refine v_done ?_
 refine x_vb rfl ?_
 refine v_ld 2 tt_ok (v := .int .i64 f0.s.Low) ts_3 rfl (by kernel_rfl) ?_
 refine v_done ?_
 refine x_p rfl ?_
 refine v_done ?_
 refine x_k [(0,.pointer (some ⟨bf0,0,none⟩)),(13,.bool (decide (f0.s.High = f0.s.Low)))] (by kernel_rfl) fun fr => ?_
 refine r_done ?_
 refine r_ite (fun hb1 => ?_) (fun hb1 => ?_)
 ·replace h := t_t h hb1
  clear hb1
  refine r_bind ?_
  refine r_done ?_
  repeat refine r_done ?_
  repeat refine r_done ?_
  subst h
  exact ret_of (RV.tmp RV.nil) (Le.refl _) ⟨rfl,rfl⟩
 ·replace h := t_f h hb1
  clear hb1
  refine r_done ?_
  refine r_bind ?_
  refine r_ld 2 tt_ok (v := .int .i64 f0.s.High) ts_3 rfl (by kernel_rfl) ?_
  refine r_s 2 tt_ok (en_state_fold ({ f0 with s := { f0.s with Low := f0.s.High } }) g_f0) (fit1 ts_3 (by kernel_rfl)) rfl (by kernel_rfl) (by kernel_rfl) ?_
  refine r_keep [] (by kernel_rfl) fun fr => ?_
  refine r_done ?_
  refine r_bind ?_
  refine r_done ?_
  repeat refine r_done ?_
  repeat refine r_done ?_
  subst h
  exact ret_of (RV.tmp RV.nil) (Le.refl _) ⟨rfl,rfl⟩
theorem hc_30 {ρ : Addr → Option Value} {L : List Ent} {bf0 : Nat} {g_f0 : gstate_fold} {S_f0 : St} (hS_f0 : Le ⟨ρ,L⟩ S_f0) (f0 : state_fold) (h_f0 : Sl_state_fold S_f0 f0 g_f0) (h_f0_t : g_f0.t = fptr g_f0.s_Tenants.1 f0.e.Tenant 12) (h_f0_cell : g_f0.cell = fptr g_f0.s_Cells.1 f0.e.Cell 4) {r : (Int × State)} (h : state_fold_apply f0 = some r) : HC Try.prog 30 #[.pointer (some ⟨bf0,0,none⟩)] ⟨ρ,.row g_f0.s_Tenants.1 f0.s.Tenants.length g_f0.s_Tenants.2 50 12 (fl eTenantState.en f0.s.Tenants) :: .row g_f0.s_Cells.1 f0.s.Cells.length g_f0.s_Cells.2 67 4 (fl eCellState.en f0.s.Cells) :: .obj bf0 (en_state_fold f0 g_f0) 80 :: L⟩ (fun v S' => v = .int .i64 r.1 ∧ S' = ⟨ρ,.row g_f0.s_Tenants.1 r.2.Tenants.length g_f0.s_Tenants.2 50 12 (fl eTenantState.en r.2.Tenants) :: .row g_f0.s_Cells.1 r.2.Cells.length g_f0.s_Cells.2 67 4 (fl eCellState.en r.2.Cells) :: .obj bf0 (en_state_fold ({ f0 with s := r.2 }) g_f0) 80 :: L⟩) := by
 replace h := h_in h
 refine HC.intro (N := 68) (args := [_]) tt_ok Try.func30 rfl (by decide +kernel) rfl (Nat.le_of_ble_eq_true rfl) ?_
 refine r_bind ?_
 refine r_done ?_
 refine r_bind ?_
 refine r_bind ?_
 refine r_ld 2 tt_ok (v := .int .i64 f0.e.Kind) ts_3 rfl (by kernel_rfl) ?_
 refine r_done ?_
 refine r_bind ?_
 refine r_bind ?_
 refine r_done ?_
 refine r_ite (fun hb1 => ?_) (fun hb1 => ?_)
 ·replace h := h_t h hb1
  clear hb1
  refine r_bind ?_
  replace h := h_b h; obtain ⟨⟨x3,x4⟩,hx2,h⟩ := h
  refine r_call (hc_46 (bf0 := bf0) (g_f0 := g_f0) (f0 := f0) (hS_f0 := by exact (le_d 0).trans hS_f0) (h_f0 := by exact h_f0) (h_f0_t := by exact h_f0_t) (h_f0_cell := by exact h_f0_cell) (h := hx2)) ?_
  rintro _ _ ⟨rfl,rfl⟩
  refine r_kp [(2,.int .i64 0),(11,.int .i64 x3)] (by kernel_rfl) fun fr => ?_
  refine r_done ?_
  repeat refine r_done ?_
  repeat refine r_done ?_
  obtain rfl := h_out h
  exact ret_of (RV.tmp RV.nil) (Le.refl _) ⟨rfl,rfl⟩
 ·replace h := h_f h hb1
  clear hb1
  refine r_bind ?_
  refine r_keep [(0,.pointer (some ⟨bf0,0,none⟩)),(7,.int .i64 f0.e.Kind),(12,.bool (decide (f0.e.Kind = 2)))] (by kernel_rfl) fun fr => ?_
  refine r_done ?_
  refine r_ite (fun hb5 => ?_) (fun hb5 => ?_)
  ·replace h := h_t h hb5
   clear hb5
   refine r_bind ?_
   replace h := h_b h; obtain ⟨⟨x7,x8⟩,hx6,h⟩ := h
   refine r_call (hc_47 (bf0 := bf0) (g_f0 := g_f0) (f0 := f0) (hS_f0 := by exact (le_d 0).trans hS_f0) (h_f0 := by exact h_f0) (h_f0_t := by exact h_f0_t) (h_f0_cell := by exact h_f0_cell) (h := hx6)) ?_
   rintro _ _ ⟨rfl,rfl⟩
   refine r_done ?_
   repeat refine r_done ?_
   repeat refine r_done ?_
   obtain rfl := h_out h
   exact ret_of (RV.tmp RV.nil) (Le.refl _) ⟨rfl,rfl⟩
  ·replace h := h_f h hb5
   clear hb5
   refine r_bind ?_
   refine r_done ?_
   refine r_ite (fun hb9 => ?_) (fun hb9 => ?_)
   ·replace h := h_t h hb9
    clear hb9
    refine r_bind ?_
    replace h := h_b h; obtain ⟨⟨x11,x12⟩,hx10,h⟩ := h
    refine r_call (hc_48 (bf0 := bf0) (g_f0 := g_f0) (f0 := f0) (hS_f0 := by exact (le_d 0).trans hS_f0) (h_f0 := by exact h_f0) (h_f0_t := by exact h_f0_t) (h_f0_cell := by exact h_f0_cell) (h := hx10)) ?_
    rintro _ _ ⟨rfl,rfl⟩
    refine r_done ?_
    repeat refine r_done ?_
    repeat refine r_done ?_
    obtain rfl := h_out h
    exact ret_of (RV.tmp RV.nil) (Le.refl _) ⟨rfl,rfl⟩
   ·replace h := h_f h hb9
    clear hb9
    refine r_bind ?_
    refine r_done ?_
    refine r_ite (fun hb13 => ?_) (fun hb13 => ?_)
    ·replace h := h_t h hb13
     clear hb13
     refine r_bind ?_
     replace h := h_b h; obtain ⟨⟨x15,x16⟩,hx14,h⟩ := h
     refine r_call (hc_49 (bf0 := bf0) (g_f0 := g_f0) (f0 := f0) (hS_f0 := by exact (le_d 0).trans hS_f0) (h_f0 := by exact h_f0) (h_f0_t := by exact h_f0_t) (h_f0_cell := by exact h_f0_cell) (h := hx14)) ?_
     rintro _ _ ⟨rfl,rfl⟩
     refine r_done ?_
     repeat refine r_done ?_
     repeat refine r_done ?_
     obtain rfl := h_out h
     exact ret_of (RV.tmp RV.nil) (Le.refl _) ⟨rfl,rfl⟩
    ·replace h := h_f h hb13
     clear hb13
     refine r_bind ?_
     refine r_done ?_
     refine r_ite (fun hb17 => ?_) (fun hb17 => ?_)
     ·replace h := h_t h hb17
      clear hb17
      refine r_bind ?_
      replace h := h_b h; obtain ⟨⟨x19,x20⟩,hx18,h⟩ := h
      refine r_call (hc_50 (bf0 := bf0) (g_f0 := g_f0) (f0 := f0) (hS_f0 := by exact (le_d 0).trans hS_f0) (h_f0 := by exact h_f0) (h_f0_t := by exact h_f0_t) (h_f0_cell := by exact h_f0_cell) (h := hx18)) ?_
      rintro _ _ ⟨rfl,rfl⟩
      refine r_keep [(2,.int .i64 x19)] (by kernel_rfl) fun fr => ?_
      refine r_done ?_
      repeat refine r_done ?_
      repeat refine r_done ?_
      obtain rfl := h_out h
      exact ret_of (RV.tmp RV.nil) (Le.refl _) ⟨rfl,rfl⟩
     ·replace h := h_f h hb17
      clear hb17
      refine r_bind ?_
      refine r_done ?_
      refine r_ite (fun hb21 => ?_) (fun hb21 => ?_)
      ·replace h := h_t h hb21
       clear hb21
       refine r_bind ?_
       replace h := h_b h; obtain ⟨⟨x23,x24⟩,hx22,h⟩ := h
       refine r_call (hc_51 (bf0 := bf0) (g_f0 := g_f0) (f0 := f0) (hS_f0 := by exact (le_d 0).trans hS_f0) (h_f0 := by exact h_f0) (h_f0_t := by exact h_f0_t) (h_f0_cell := by exact h_f0_cell) (h := hx22)) ?_
       rintro _ _ ⟨rfl,rfl⟩
       refine r_kp [(31,.int .i64 x23)] (by kernel_rfl) fun fr => ?_
       refine r_done ?_
       repeat refine r_done ?_
       repeat refine r_done ?_
       obtain rfl := h_out h
       exact ret_of (RV.tmp RV.nil) (Le.refl _) ⟨rfl,rfl⟩
      ·replace h := h_f h hb21
       clear hb21
       refine r_bind ?_
       refine r_keep [(0,.pointer (some ⟨bf0,0,none⟩)),(7,.int .i64 f0.e.Kind),(32,.bool (decide (f0.e.Kind = 7)))] (by kernel_rfl) fun fr => ?_
       refine r_done ?_
       refine r_ite (fun hb25 => ?_) (fun hb25 => ?_)
       ·replace h := h_t h hb25
        clear hb25
        refine r_bind ?_
        replace h := h_b h; obtain ⟨⟨x27,x28⟩,hx26,h⟩ := h
        refine r_call (hc_52 (bf0 := bf0) (g_f0 := g_f0) (f0 := f0) (hS_f0 := by exact (le_d 0).trans hS_f0) (h_f0 := by exact h_f0) (h_f0_t := by exact h_f0_t) (h_f0_cell := by exact h_f0_cell) (h := hx26)) ?_
        rintro _ _ ⟨rfl,rfl⟩
        refine r_done ?_
        repeat refine r_done ?_
        repeat refine r_done ?_
        obtain rfl := h_out h
        exact ret_of (RV.tmp RV.nil) (Le.refl _) ⟨rfl,rfl⟩
       ·replace h := h_f h hb25
        clear hb25
        refine r_bind ?_
        refine r_done ?_
        refine r_ite (fun hb29 => ?_) (fun hb29 => ?_)
        ·replace h := h_t h hb29
         clear hb29
         refine r_bind ?_
         replace h := h_b h; obtain ⟨⟨x31,x32⟩,hx30,h⟩ := h
         refine r_call (hc_53 (bf0 := bf0) (g_f0 := g_f0) (f0 := f0) (hS_f0 := by exact (le_d 0).trans hS_f0) (h_f0 := by exact h_f0) (h_f0_t := by exact h_f0_t) (h_f0_cell := by exact h_f0_cell) (h := hx30)) ?_
         rintro _ _ ⟨rfl,rfl⟩
         refine r_done ?_
         repeat refine r_done ?_
         repeat refine r_done ?_
         obtain rfl := h_out h
         exact ret_of (RV.tmp RV.nil) (Le.refl _) ⟨rfl,rfl⟩
        ·replace h := h_f h hb29
         clear hb29
         refine r_bind ?_
         refine r_done ?_
         refine r_ite (fun hb33 => ?_) (fun hb33 => ?_)
         ·replace h := h_t h hb33
          clear hb33
          refine r_bind ?_
          replace h := h_b h; obtain ⟨⟨x35,x36⟩,hx34,h⟩ := h
          refine r_call (hc_54 (bf0 := bf0) (g_f0 := g_f0) (f0 := f0) (hS_f0 := by exact (le_d 0).trans hS_f0) (h_f0 := by exact h_f0) (h_f0_t := by exact h_f0_t) (h_f0_cell := by exact h_f0_cell) (h := hx34)) ?_
          rintro _ _ ⟨rfl,rfl⟩
          refine r_done ?_
          repeat refine r_done ?_
          repeat refine r_done ?_
          obtain rfl := h_out h
          exact ret_of (RV.tmp RV.nil) (Le.refl _) ⟨rfl,rfl⟩
         ·replace h := h_f h hb33
          clear hb33
          refine r_bind ?_
          refine r_done ?_
          refine r_ite (fun hb37 => ?_) (fun hb37 => ?_)
          ·replace h := h_t h hb37
           clear hb37
           refine r_bind ?_
           replace h := h_b h; obtain ⟨⟨x39,x40⟩,hx38,h⟩ := h
           refine r_call (hc_55 (bf0 := bf0) (g_f0 := g_f0) (f0 := f0) (hS_f0 := by exact (le_d 0).trans hS_f0) (h_f0 := by exact h_f0) (h_f0_t := by exact h_f0_t) (h_f0_cell := by exact h_f0_cell) (h := hx38)) ?_
           rintro _ _ ⟨rfl,rfl⟩
           refine r_keep [(2,.int .i64 x39)] (by kernel_rfl) fun fr => ?_
           refine r_done ?_
           repeat refine r_done ?_
           repeat refine r_done ?_
           obtain rfl := h_out h
           exact ret_of (RV.tmp RV.nil) (Le.refl _) ⟨rfl,rfl⟩
          ·replace h := h_f h hb37
           clear hb37
           refine r_bind ?_
           refine r_done ?_
           refine r_ite (fun hb41 => ?_) (fun hb41 => ?_)
           ·replace h := h_t h hb41
            clear hb41
            refine r_bind ?_
            replace h := h_b h; obtain ⟨⟨x43,x44⟩,hx42,h⟩ := h
            refine r_call (hc_56 (bf0 := bf0) (g_f0 := g_f0) (f0 := f0) (hS_f0 := by exact (le_d 0).trans hS_f0) (h_f0 := by exact h_f0) (h_f0_t := by exact h_f0_t) (h_f0_cell := by exact h_f0_cell) (h := hx42)) ?_
            rintro _ _ ⟨rfl,rfl⟩
            refine r_kp [(51,.int .i64 x43)] (by kernel_rfl) fun fr => ?_
            refine r_done ?_
            repeat refine r_done ?_
            repeat refine r_done ?_
            obtain rfl := h_out h
            exact ret_of (RV.tmp RV.nil) (Le.refl _) ⟨rfl,rfl⟩
           ·replace h := h_f h hb41
            clear hb41
            refine r_bind ?_
            refine r_keep [(0,.pointer (some ⟨bf0,0,none⟩)),(7,.int .i64 f0.e.Kind),(52,.bool (decide (f0.e.Kind = 12)))] (by kernel_rfl) fun fr => ?_
            refine r_done ?_
            refine r_ite (fun hb45 => ?_) (fun hb45 => ?_)
            ·replace h := h_t h hb45
             clear hb45
             refine r_bind ?_
             replace h := h_b h; obtain ⟨⟨x47,x48⟩,hx46,h⟩ := h
             refine r_call (hc_57 (bf0 := bf0) (g_f0 := g_f0) (f0 := f0) (hS_f0 := by exact (le_d 0).trans hS_f0) (h_f0 := by exact h_f0) (h_f0_t := by exact h_f0_t) (h_f0_cell := by exact h_f0_cell) (h := hx46)) ?_
             rintro _ _ ⟨rfl,rfl⟩
             refine r_done ?_
             repeat refine r_done ?_
             repeat refine r_done ?_
             obtain rfl := h_out h
             exact ret_of (RV.tmp RV.nil) (Le.refl _) ⟨rfl,rfl⟩
            ·replace h := h_f h hb45
             clear hb45
             refine r_bind ?_
             refine r_done ?_
             refine r_ite (fun hb49 => ?_) (fun hb49 => ?_)
             ·replace h := h_t h hb49
              clear hb49
              refine r_bind ?_
              replace h := h_b h; obtain ⟨⟨x51,x52⟩,hx50,h⟩ := h
              refine r_call (hc_58 (bf0 := bf0) (g_f0 := g_f0) (f0 := f0) (hS_f0 := by exact (le_d 0).trans hS_f0) (h_f0 := by exact h_f0) (h_f0_t := by exact h_f0_t) (h_f0_cell := by exact h_f0_cell) (h := hx50)) ?_
              rintro _ _ ⟨rfl,rfl⟩
              refine r_done ?_
              repeat refine r_done ?_
              repeat refine r_done ?_
              obtain rfl := h_out h
              exact ret_of (RV.tmp RV.nil) (Le.refl _) ⟨rfl,rfl⟩
             ·replace h := h_f h hb49
              clear hb49
              refine r_bind ?_
              refine r_done ?_
              refine r_ite (fun hb53 => ?_) (fun hb53 => ?_)
              ·replace h := h_t h hb53
               clear hb53
               refine r_bind ?_
               replace h := h_b h; obtain ⟨⟨x55,x56⟩,hx54,h⟩ := h
               refine r_call (hc_59 (bf0 := bf0) (g_f0 := g_f0) (f0 := f0) (hS_f0 := by exact (le_d 0).trans hS_f0) (h_f0 := by exact h_f0) (h_f0_t := by exact h_f0_t) (h_f0_cell := by exact h_f0_cell) (h := hx54)) ?_
               rintro _ _ ⟨rfl,rfl⟩
               refine r_done ?_
               repeat refine r_done ?_
               repeat refine r_done ?_
               obtain rfl := h_out h
               exact ret_of (RV.tmp RV.nil) (Le.refl _) ⟨rfl,rfl⟩
              ·replace h := h_f h hb53
               clear hb53
               refine r_bind ?_
               refine r_done ?_
               refine r_ite (fun hb57 => ?_) (fun hb57 => ?_)
               ·replace h := h_t h hb57
                clear hb57
                refine r_bind ?_
                refine r_call (hc_60 (bf0 := bf0) (g_f0 := g_f0) (f0 := f0) (hS_f0 := by exact (le_d 0).trans hS_f0) (h_f0 := by exact h_f0) (h_f0_t := by exact h_f0_t) (h_f0_cell := by exact h_f0_cell)) ?_
                rintro _ _ ⟨rfl,rfl⟩
                refine r_keep [(2,.int .i64 ((state_fold_contract f0).1))] (by kernel_rfl) fun fr => ?_
                refine r_done ?_
                repeat refine r_done ?_
                repeat refine r_done ?_
                obtain rfl := h_out h
                exact ret_of (RV.tmp RV.nil) (Le.refl _) ⟨rfl,rfl⟩
               ·replace h := h_f h hb57
                clear hb57
                refine r_done ?_
                refine r_done ?_
                refine r_bind ?_
                refine r_done ?_
                repeat refine r_done ?_
                repeat refine r_done ?_
                obtain rfl := h_out h
                exact ret_of (RV.tmp RV.nil) (Le.refl _) ⟨rfl,rfl⟩
theorem hc_24 {ρ : Addr → Option Value} {L : List Ent} {g_c0 : gConfig} {g_s1 : gState} {S_c0 : St} (hS_c0 : Le ⟨ρ,L⟩ S_c0) {S_s1 : St} (hS_s1 : Le ⟨ρ,L⟩ S_s1) (c0 : Config) (s1 : State) (e2 : Entry) (h_c0 : Sl_Config S_c0 c0 g_c0) (h_s1 : Sl_State S_s1 s1 g_s1) {r : (State × Int)} (h : state_Apply c0 s1 e2 = some r) : HC Try.prog 24 #[.agg (en_Config c0 g_c0).toArray,.agg (en_State s1 g_s1).toArray,.agg (en_Entry e2).toArray] ⟨ρ,L⟩ (fun v S' => ∃ (Aq1_0 : Option Addr),∃ (cq1_0 : Nat),∃ (Aq1_1 : Option Addr),∃ (cq1_1 : Nat),v = .tuple #[.agg (en_State r.1 (⟨(Aq1_0,cq1_0),(Aq1_1,cq1_1)⟩)).toArray,.int .i64 r.2] ∧ S' = ⟨ρ,.row Aq1_0 r.1.Tenants.length cq1_0 50 12 (fl eTenantState.en r.1.Tenants) :: .row Aq1_1 r.1.Cells.length cq1_1 67 4 (fl eCellState.en r.1.Cells) :: L⟩) := by
 replace h := h_in h
 refine HC.intro (N := 103) (args := [_,_,_]) tt_ok Try.func24 rfl (by decide +kernel) rfl (Nat.le_of_ble_eq_true rfl) ?_
 refine r_bind ?_
 refine r_bx (en_Config c0 g_c0) (by kernel_rfl) fun bq1 => ?_
 refine r_bx (en_State s1 g_s1) (by kernel_rfl) fun bq2 => ?_
 refine r_bx (en_Entry e2) (by kernel_rfl) fun bq3 => ?_
 refine r_al tt_ok (en_State (⟨0,0,[],[],0,0,0,0⟩ : State) (⟨(none,0),(none,0)⟩)) ti_36 (by kernel_rfl) fun bq4 => ?_
 refine r_done ?_
 refine r_bind ?_
 refine r_bind ?_
 refine r_bind ?_
 replace h := h_j h; obtain ⟨K10,h,hK11⟩ := h
 refine r_meet (fun fr S => ∃ (x9 : Bool),∃ fr0,K10 x9 = some r ∧ fr = updL [(3,.pointer (some ⟨bq1,0,none⟩)),(4,.pointer (some ⟨bq2,0,none⟩)),(5,.pointer (some ⟨bq3,0,none⟩)),(6,.pointer (some ⟨bq4,0,none⟩)),(10,.bool x9)] fr0 ∧ S = ⟨ρ,.obj bq4 (en_State (⟨0,0,[],[],0,0,0,0⟩ : State) (⟨(none,0),(none,0)⟩)) 36 :: .obj bq3 (en_Entry e2) 45 :: .obj bq2 (en_State s1 g_s1) 36 :: .obj bq1 (en_Config c0 g_c0) 30 :: L⟩) ?_ ?_
 ·refine r_ldn 3 tt_ok (en_Config c0 g_c0) ta_30 rfl (by kernel_rfl) (by kernel_rfl) ?_
  refine r_ldn 1 tt_ok (en_Entry e2) ta_45 rfl (by kernel_rfl) (by kernel_rfl) ?_
  replace h := h_b h; obtain ⟨x6,hx5,h⟩ := h
  refine r_call (hc_28 (g_c0 := g_c0) (c0 := c0) (e1 := e2) (hS_c0 := by exact (le_d 4).trans hS_c0) (h_c0 := by exact h_c0) (h := hx5)) ?_
  rintro _ _ ⟨rfl,rfl⟩
  refine r_ite (fun (hb7 : (!x6) = true) => ?_) (fun (hb7 : (!x6) = false) => ?_)
  ·replace h := h_t h hb7
   clear hb7
   refine r_kp [(3,.pointer (some ⟨bq1,0,none⟩)),(4,.pointer (some ⟨bq2,0,none⟩)),(5,.pointer (some ⟨bq3,0,none⟩)),(6,.pointer (some ⟨bq4,0,none⟩)),(15,.bool true),(16,undef)] (by kernel_rfl) fun fr => ?_
   refine r_T rfl ?_
   refine r_T rfl ?_
   refine r_T rfl ?_
   refine r_T rfl ?_
   refine r_T rfl ?_
   refine r_T rfl ?_
   refine r_T rfl ?_
   refine r_T rfl ?_
   refine r_kp [(3,.pointer (some ⟨bq1,0,none⟩)),(4,.pointer (some ⟨bq2,0,none⟩)),(5,.pointer (some ⟨bq3,0,none⟩)),(6,.pointer (some ⟨bq4,0,none⟩)),(24,.bool true),(25,undef)] (by kernel_rfl) fun fr => ?_
   refine r_T rfl ?_
   refine r_T rfl ?_
   refine r_T rfl ?_
   refine r_T rfl ?_
   refine r_T rfl ?_
   refine r_T rfl ?_
   refine r_T rfl ?_
   exact r_done ⟨true,_,h,fr_eq _ (by kernel_rfl),(by kernel_rfl)⟩
  ·replace h := h_f h hb7
   clear hb7
   refine r_kp [(3,.pointer (some ⟨bq1,0,none⟩)),(4,.pointer (some ⟨bq2,0,none⟩)),(5,.pointer (some ⟨bq3,0,none⟩)),(6,.pointer (some ⟨bq4,0,none⟩)),(15,.bool false),(16,.pointer (some ⟨bq2,2,none⟩))] (by kernel_rfl) fun fr => ?_
   refine r_F rfl ?_
   refine r_ld 2 tt_ok (v := .slice g_s1.Tenants.1 s1.Tenants.length g_s1.Tenants.2) ts_33 rfl (by kernel_rfl) ?_
   refine r_F rfl ?_
   refine r_F rfl ?_
   refine r_F rfl ?_
   refine r_ld 3 tt_ok (v := .slice g_c0.Tenants.1 c0.Tenants.length g_c0.Tenants.2) ts_27 rfl (by kernel_rfl) ?_
   refine r_F rfl ?_
   refine r_F rfl ?_
   refine r_ite (fun (hb8 : (!decide ((s1.Tenants.length : Int) = (c0.Tenants.length : Int))) = true) => ?_) (fun (hb8 : (!decide ((s1.Tenants.length : Int) = (c0.Tenants.length : Int))) = false) => ?_)
   ·replace h := h_t h hb8
    clear hb8
    refine r_kp [(3,.pointer (some ⟨bq1,0,none⟩)),(4,.pointer (some ⟨bq2,0,none⟩)),(5,.pointer (some ⟨bq3,0,none⟩)),(6,.pointer (some ⟨bq4,0,none⟩)),(24,.bool true),(25,undef)] (by kernel_rfl) fun fr => ?_
    refine r_T rfl ?_
    refine r_T rfl ?_
    refine r_T rfl ?_
    refine r_T rfl ?_
    refine r_T rfl ?_
    refine r_T rfl ?_
    refine r_T rfl ?_
    exact r_done ⟨true,_,h,fr_eq _ (by kernel_rfl),(by kernel_rfl)⟩
   ·replace h := h_f h hb8
    clear hb8
    refine r_kp [(3,.pointer (some ⟨bq1,0,none⟩)),(4,.pointer (some ⟨bq2,0,none⟩)),(5,.pointer (some ⟨bq3,0,none⟩)),(6,.pointer (some ⟨bq4,0,none⟩)),(24,.bool false),(25,.pointer (some ⟨bq2,3,none⟩))] (by kernel_rfl) fun fr => ?_
    refine r_F rfl ?_
    refine r_ld 2 tt_ok (v := .slice g_s1.Cells.1 s1.Cells.length g_s1.Cells.2) ts_34 rfl (by kernel_rfl) ?_
    refine r_F rfl ?_
    refine r_F rfl ?_
    refine r_F rfl ?_
    refine r_ld 3 tt_ok (v := .slice g_c0.Cells.1 c0.Cells.length g_c0.Cells.2) ts_26 rfl (by kernel_rfl) ?_
    refine r_F rfl ?_
    refine r_F rfl ?_
    exact r_done ⟨!decide ((s1.Cells.length : Int) = (c0.Cells.length : Int)),_,h,fr_eq _ (by kernel_rfl),(by kernel_rfl)⟩
 clear h
 rintro fr S ⟨x9,fr,h,rfl,rfl⟩
 replace h := hK11 _ h
 refine r_done ?_
 refine r_ite (fun hb12 => ?_) (fun hb12 => ?_)
 ·replace h := h_t h hb12
  refine r_bind ?_
  refine r_bd tt_ok (en_State (⟨0,0,[],[],0,0,0,0⟩ : State) (⟨(none,0),(none,0)⟩)) ti_36 tp_36 (by kernel_rfl) ?_
  refine r_s 0 tt_ok (en_State (⟨0,0,[],[],0,0,0,0⟩ : State) (⟨(none,0),(none,0)⟩)) (fitn ta_36 (by kernel_rfl)) rfl (by kernel_rfl) (by kernel_rfl) ?_
  refine r_done ?_
  repeat refine r_done ?_
  repeat refine r_done ?_
  obtain rfl := h_out h
  exact ret_of (rv_cell 0 tt_ok (by kernel_rfl) ta_36 rfl rfl (RV.tmp RV.nil)) ((le_nil 67 4).trans ((le_nil 50 12).trans (le_w [true,true,false,false,false,false]))) ⟨none,0,none,0,rfl,rfl⟩
 ·replace h := h_f h hb12
  refine r_bind ?_
  refine r_ld 2 tt_ok (v := .int .i64 s1.Count) ts_3 rfl (by kernel_rfl) ?_
  refine r_done ?_
  refine r_ite (fun hb13 => ?_) (fun hb13 => ?_)
  ·replace h := h_t h hb13
   refine r_bind ?_
   refine r_bd tt_ok (en_State (⟨0,0,[],[],0,0,0,0⟩ : State) (⟨(none,0),(none,0)⟩)) ti_36 tp_36 (by kernel_rfl) ?_
   refine r_s 0 tt_ok (en_State (⟨0,0,[],[],0,0,0,0⟩ : State) (⟨(none,0),(none,0)⟩)) (fitn ta_36 (by kernel_rfl)) rfl (by kernel_rfl) (by kernel_rfl) ?_
   refine r_done ?_
   repeat refine r_done ?_
   repeat refine r_done ?_
   obtain rfl := h_out h
   exact ret_of (rv_cell 0 tt_ok (by kernel_rfl) ta_36 rfl rfl (RV.tmp RV.nil)) ((le_nil 67 4).trans ((le_nil 50 12).trans (le_w [true,true,false,false,false,false]))) ⟨none,0,none,0,rfl,rfl⟩
  ·replace h := h_f h hb13
   refine r_bind ?_
   refine r_ld 1 tt_ok (v := .int .i64 e2.Tick) ts_3 rfl (by kernel_rfl) ?_
   refine r_ld 2 tt_ok (v := .int .i64 s1.Tick) ts_3 rfl (by kernel_rfl) ?_
   refine r_keep [(3,.pointer (some ⟨bq1,0,none⟩)),(4,.pointer (some ⟨bq2,0,none⟩)),(5,.pointer (some ⟨bq3,0,none⟩)),(6,.pointer (some ⟨bq4,0,none⟩)),(39,.bool (decide (e2.Tick < s1.Tick)))] (by kernel_rfl) fun fr => ?_
   refine r_done ?_
   refine r_ite (fun hb14 => ?_) (fun hb14 => ?_)
   ·replace h := h_t h hb14
    refine r_bind ?_
    refine r_bd tt_ok (en_State (⟨0,0,[],[],0,0,0,0⟩ : State) (⟨(none,0),(none,0)⟩)) ti_36 tp_36 (by kernel_rfl) ?_
    refine r_s 0 tt_ok (en_State (⟨0,0,[],[],0,0,0,0⟩ : State) (⟨(none,0),(none,0)⟩)) (fitn ta_36 (by kernel_rfl)) rfl (by kernel_rfl) (by kernel_rfl) ?_
    refine r_done ?_
    repeat refine r_done ?_
    repeat refine r_done ?_
    obtain rfl := h_out h
    exact ret_of (rv_cell 0 tt_ok (by kernel_rfl) ta_36 rfl rfl (RV.tmp RV.nil)) ((le_nil 67 4).trans ((le_nil 50 12).trans (le_w [true,true,false,false,false,false]))) ⟨none,0,none,0,rfl,rfl⟩
   ·replace h := h_f h hb14
    refine r_done ?_
    refine r_done ?_
    refine r_bind ?_
    refine r_mix tt_ok hm_ok _ _ [] (.vb 0 (.vb 1 (.vb 3 (.eff 2 (.pure 4 (.eff 5 (.pure 6 .nil))))))) (le_w [true,true,true,true]) (le_w [true,true,true,true]) ?_ ?_
    ·decide +kernel
    refine x_vb rfl ?_
    refine v_ldn 3 tt_ok (en_Config c0 g_c0) ta_30 rfl (by kernel_rfl) (by kernel_rfl) ?_
    refine v_done ?_
    refine x_vb rfl ?_
    refine v_ldn 2 tt_ok (en_State s1 g_s1) ta_36 rfl (by kernel_rfl) (by kernel_rfl) ?_
    refine v_done ?_
    refine x_vb rfl ?_
    refine v_ldn 1 tt_ok (en_Entry e2) ta_45 rfl (by kernel_rfl) (by kernel_rfl) ?_
    refine v_done ?_
    refine x_e rfl ?_
    replace h := h_b h; obtain ⟨x16,hx15,h⟩ := h
    refine r_call (hc_29 (g_s0 := g_s1) (s0 := s1) (hS_s0 := by exact (le_d 4).trans hS_s1) (h_s0 := by exact h_s1) (h := hx15)) ?_
    rintro _ _ ⟨A17,c18,A20,c21,rfl,rfl⟩
    refine r_done ⟨rfl,k_a (le_w [false,false,true,true,true,true]) (le_w [false,false,true,true,true,true]),?_⟩
    refine x_p rfl ?_
    refine v_bd tt_ok (en_state_fold (⟨c0,x16,e2⟩ : state_fold) (⟨(g_c0.Zones.1,g_c0.Zones.2),(g_c0.Cells.1,g_c0.Cells.2),(g_c0.Tenants.1,g_c0.Tenants.2),(g_c0.Versions.1,g_c0.Versions.2),(g_c0.Replicas.1,g_c0.Replicas.2),(g_c0.Observers.1,g_c0.Observers.2),(A17,c18),(A20,c21),(.pointer none),(.pointer none)⟩)) ti_80 tp_80 (by kernel_rfl) ?_
    refine v_done ?_
    refine x_e rfl ?_
    refine r_bx (en_state_fold (⟨c0,x16,e2⟩ : state_fold) (⟨(g_c0.Zones.1,g_c0.Zones.2),(g_c0.Cells.1,g_c0.Cells.2),(g_c0.Tenants.1,g_c0.Tenants.2),(g_c0.Versions.1,g_c0.Versions.2),(g_c0.Replicas.1,g_c0.Replicas.2),(g_c0.Observers.1,g_c0.Observers.2),(A17,c18),(A20,c21),(.pointer none),(.pointer none)⟩)) (by kernel_rfl) fun bq23 => ?_
    refine r_done ⟨rfl,k_a (le_w [false,false,false,true,true,true,true]) (le_w [false,false,false,true,true,true,true]),?_⟩
    refine x_p rfl ?_
    refine v_done ?_
    refine x_k [(4,.pointer (some ⟨bq2,0,none⟩)),(5,.pointer (some ⟨bq3,0,none⟩)),(6,.pointer (some ⟨bq4,0,none⟩)),(8,.pointer (some ⟨bq23,0,none⟩))] (by kernel_rfl) fun fr => ?_
    refine r_done ?_
    refine r_bind ?_
    replace h := h_j h; obtain ⟨K29,h,hK30⟩ := h
    refine r_meet (fun fr S => ∃ (P27 : Value),∃ fr0,K29 () = some r ∧ fr = updL [(4,.pointer (some ⟨bq2,0,none⟩)),(5,.pointer (some ⟨bq3,0,none⟩)),(6,.pointer (some ⟨bq4,0,none⟩)),(8,.pointer (some ⟨bq23,0,none⟩))] fr0 ∧ S = ⟨ρ,.obj bq23 (en_state_fold (⟨c0,x16,e2⟩ : state_fold) (⟨(g_c0.Zones.1,g_c0.Zones.2),(g_c0.Cells.1,g_c0.Cells.2),(g_c0.Tenants.1,g_c0.Tenants.2),(g_c0.Versions.1,g_c0.Versions.2),(g_c0.Replicas.1,g_c0.Replicas.2),(g_c0.Observers.1,g_c0.Observers.2),(A17,c18),(A20,c21),P27,(.pointer none)⟩)) 80 :: .row A17 x16.Tenants.length c18 50 12 (fl eTenantState.en x16.Tenants) :: .row A20 x16.Cells.length c21 67 4 (fl eCellState.en x16.Cells) :: .obj bq4 (en_State (⟨0,0,[],[],0,0,0,0⟩ : State) (⟨(none,0),(none,0)⟩)) 36 :: .obj bq3 (en_Entry e2) 45 :: .obj bq2 (en_State s1 g_s1) 36 :: L⟩ ∧ P27 = fptr A17 e2.Tenant 12) ?_ ?_
    ·refine r_bind ?_
     refine r_ld 4 tt_ok (v := .int .i64 e2.Tenant) ts_3 rfl (by kernel_rfl) ?_
     refine r_done ?_
     refine r_ite (fun hb24 => ?_) (fun hb24 => ?_)
     ·replace h := h_t h hb24
      refine r_mix tt_ok hm_ok _ _ [11] (.pure 0 (.pure 1 (.pure 2 (.pure 3 (.pure 4 (.va 5 (.pure 6 (.vb 7 (.vb 8 (.pure 9 (.pure 10 (.eff 11 .nil)))))))))))) (le_w [true,true,true,true,true,true,true]) (le_w [false,true,true,true,true,true,true]) ?_ ?_
      ·decide +kernel
      refine x_p rfl ?_
      refine v_done ?_
      refine x_p rfl ?_
      refine v_done ?_
      refine x_p rfl ?_
      refine v_done ?_
      refine x_kp [(4,.pointer (some ⟨bq2,0,none⟩)),(5,.pointer (some ⟨bq3,0,none⟩)),(6,.pointer (some ⟨bq4,0,none⟩)),(8,.pointer (some ⟨bq23,0,none⟩)),(55,.pointer (some ⟨bq23,0,none⟩)),(57,.pointer (some ⟨bq23,0,none⟩))] (by kernel_rfl) fun fr => ?_
      refine x_p rfl ?_
      refine v_done ?_
      refine x_p rfl ?_
      refine v_done ?_
      refine x_va rfl ?_
      refine v_ld 0 tt_ok (v := .slice A17 x16.Tenants.length c18) ts_33 rfl (by kernel_rfl) ?_
      refine v_done ?_
      refine x_p rfl ?_
      refine v_done ?_
      refine x_vb rfl ?_
      refine v_ld 3 tt_ok (v := .int .i64 e2.Tenant) ts_3 rfl (by kernel_rfl) ?_
      refine v_done ?_
      refine x_vb rfl ?_
      replace h := h_b h; obtain ⟨x25,hx26,h⟩ := h
      refine v_el hx26 (rd_row 0 rfl) ?_
      refine v_done ?_
      refine x_p rfl ?_
      refine v_done ?_
      refine x_p rfl ?_
      refine v_done ?_
      refine x_e rfl ?_
      refine r_s 0 tt_ok (en_state_fold (⟨c0,x16,e2⟩ : state_fold) (⟨(g_c0.Zones.1,g_c0.Zones.2),(g_c0.Cells.1,g_c0.Cells.2),(g_c0.Tenants.1,g_c0.Tenants.2),(g_c0.Versions.1,g_c0.Versions.2),(g_c0.Replicas.1,g_c0.Replicas.2),(g_c0.Observers.1,g_c0.Observers.2),(A17,c18),(A20,c21),(.pointer (some ((adr A17).add (e2.Tenant.toNat * 12)))),(.pointer none)⟩)) (fit1 ts_77 (by kernel_rfl)) rfl (by kernel_rfl) (by kernel_rfl) ?_
      refine r_done ⟨rfl,k_b rfl (le_w [false,true,true,true,true,true,true]),?_⟩
      refine x_k [(4,.pointer (some ⟨bq2,0,none⟩)),(5,.pointer (some ⟨bq3,0,none⟩)),(6,.pointer (some ⟨bq4,0,none⟩)),(8,.pointer (some ⟨bq23,0,none⟩))] (by kernel_rfl) fun fr => ?_
      refine r_le (le_w [true,true,true,true,true,true,false]) ?_
      exact r_done ⟨.pointer (some ((adr A17).add (e2.Tenant.toNat * 12))),_,h,fr_eq _ (by kernel_rfl),(by kernel_rfl),(fptr_some hx26).symm⟩
     ·replace h := h_f h hb24
      refine r_le (le_w [true,true,true,true,true,true,false]) ?_
      exact r_done ⟨.pointer none,_,h,fr_eq _ (by kernel_rfl),(by kernel_rfl),(fptr_none (by assumption)).symm⟩
    clear h
    rintro fr S ⟨P27,fr,h,rfl,rfl,hp28⟩
    replace h := hK30 _ h
    refine r_done ?_
    refine r_bind ?_
    replace h := h_j h; obtain ⟨K36,h,hK37⟩ := h
    refine r_meet (fun fr S => ∃ (P34 : Value),∃ fr0,K36 () = some r ∧ fr = updL [(4,.pointer (some ⟨bq2,0,none⟩)),(5,.pointer (some ⟨bq3,0,none⟩)),(6,.pointer (some ⟨bq4,0,none⟩)),(8,.pointer (some ⟨bq23,0,none⟩))] fr0 ∧ S = ⟨ρ,.obj bq23 (en_state_fold (⟨c0,x16,e2⟩ : state_fold) (⟨(g_c0.Zones.1,g_c0.Zones.2),(g_c0.Cells.1,g_c0.Cells.2),(g_c0.Tenants.1,g_c0.Tenants.2),(g_c0.Versions.1,g_c0.Versions.2),(g_c0.Replicas.1,g_c0.Replicas.2),(g_c0.Observers.1,g_c0.Observers.2),(A17,c18),(A20,c21),P27,P34⟩)) 80 :: .row A17 x16.Tenants.length c18 50 12 (fl eTenantState.en x16.Tenants) :: .row A20 x16.Cells.length c21 67 4 (fl eCellState.en x16.Cells) :: .obj bq4 (en_State (⟨0,0,[],[],0,0,0,0⟩ : State) (⟨(none,0),(none,0)⟩)) 36 :: .obj bq3 (en_Entry e2) 45 :: .obj bq2 (en_State s1 g_s1) 36 :: L⟩ ∧ P34 = fptr A20 e2.Cell 4) ?_ ?_
    ·refine r_bind ?_
     refine r_ld 4 tt_ok (v := .int .i64 e2.Cell) ts_3 rfl (by kernel_rfl) ?_
     refine r_done ?_
     refine r_ite (fun hb31 => ?_) (fun hb31 => ?_)
     ·replace h := h_t h hb31
      refine r_mix tt_ok hm_ok _ _ [11] (.pure 0 (.pure 1 (.pure 2 (.pure 3 (.pure 4 (.va 5 (.pure 6 (.vb 7 (.vb 8 (.pure 9 (.pure 10 (.eff 11 .nil)))))))))))) (le_w [true,true,true,true,true,true]) (le_w [false,true,true,true,true,true]) ?_ ?_
      ·decide +kernel
      refine x_p rfl ?_
      refine v_done ?_
      refine x_p rfl ?_
      refine v_done ?_
      refine x_p rfl ?_
      refine v_done ?_
      refine x_kp [(4,.pointer (some ⟨bq2,0,none⟩)),(5,.pointer (some ⟨bq3,0,none⟩)),(6,.pointer (some ⟨bq4,0,none⟩)),(8,.pointer (some ⟨bq23,0,none⟩)),(69,.pointer (some ⟨bq23,0,none⟩)),(71,.pointer (some ⟨bq23,0,none⟩))] (by kernel_rfl) fun fr => ?_
      refine x_p rfl ?_
      refine v_done ?_
      refine x_p rfl ?_
      refine v_done ?_
      refine x_va rfl ?_
      refine v_ld 0 tt_ok (v := .slice A20 x16.Cells.length c21) ts_34 rfl (by kernel_rfl) ?_
      refine v_done ?_
      refine x_p rfl ?_
      refine v_done ?_
      refine x_vb rfl ?_
      refine v_ld 3 tt_ok (v := .int .i64 e2.Cell) ts_3 rfl (by kernel_rfl) ?_
      refine v_done ?_
      refine x_vb rfl ?_
      replace h := h_b h; obtain ⟨x32,hx33,h⟩ := h
      refine v_el hx33 (rd_row 1 rfl) ?_
      refine v_done ?_
      refine x_p rfl ?_
      refine v_done ?_
      refine x_p rfl ?_
      refine v_done ?_
      refine x_e rfl ?_
      refine r_s 0 tt_ok (en_state_fold (⟨c0,x16,e2⟩ : state_fold) (⟨(g_c0.Zones.1,g_c0.Zones.2),(g_c0.Cells.1,g_c0.Cells.2),(g_c0.Tenants.1,g_c0.Tenants.2),(g_c0.Versions.1,g_c0.Versions.2),(g_c0.Replicas.1,g_c0.Replicas.2),(g_c0.Observers.1,g_c0.Observers.2),(A17,c18),(A20,c21),P27,(.pointer (some ((adr A20).add (e2.Cell.toNat * 4))))⟩)) (fit1 ts_78 (by kernel_rfl)) rfl (by kernel_rfl) (by kernel_rfl) ?_
      refine r_done ⟨rfl,k_b rfl (le_w [false,true,true,true,true,true]),?_⟩
      refine x_k [(4,.pointer (some ⟨bq2,0,none⟩)),(5,.pointer (some ⟨bq3,0,none⟩)),(6,.pointer (some ⟨bq4,0,none⟩)),(8,.pointer (some ⟨bq23,0,none⟩))] (by kernel_rfl) fun fr => ?_
      exact r_done ⟨.pointer (some ((adr A20).add (e2.Cell.toNat * 4))),_,h,fr_eq _ (by kernel_rfl),(by kernel_rfl),(fptr_some hx33).symm⟩
     ·replace h := h_f h hb31
      exact r_done ⟨.pointer none,_,h,fr_eq _ (by kernel_rfl),(by kernel_rfl),(fptr_none (by assumption)).symm⟩
    clear h
    rintro fr S ⟨P34,fr,h,rfl,rfl,hp35⟩
    replace h := hK37 _ h
    refine r_done ?_
    refine r_bind ?_
    refine r_bind ?_
    refine r_le ((le_mv 2).trans (le_mv 2)) ?_
    replace h := h_b h; obtain ⟨⟨x39,x40⟩,hx38,h⟩ := h
    refine r_call (hc_30 (bf0 := bq23) (g_f0 := ⟨(g_c0.Zones.1,g_c0.Zones.2),(g_c0.Cells.1,g_c0.Cells.2),(g_c0.Tenants.1,g_c0.Tenants.2),(g_c0.Versions.1,g_c0.Versions.2),(g_c0.Replicas.1,g_c0.Replicas.2),(g_c0.Observers.1,g_c0.Observers.2),(A17,c18),(A20,c21),P27,P34⟩) (f0 := (⟨c0,x16,e2⟩ : state_fold)) (hS_f0 := by exact (le_d 3).trans hS_c0) (h_f0 := by exact h_c0) (h_f0_t := by exact hp28) (h_f0_cell := by exact hp35) (h := hx38)) ?_
    rintro _ _ ⟨rfl,rfl⟩
    refine r_done ?_
    refine r_bind ?_
    refine r_done ?_
    refine r_ite (fun hb41 => ?_) (fun hb41 => ?_)
    ·replace h := h_t h hb41
     refine r_bind ?_
     refine r_bd tt_ok (en_State (⟨0,0,[],[],0,0,0,0⟩ : State) (⟨(none,0),(none,0)⟩)) ti_36 tp_36 (by kernel_rfl) ?_
     refine r_s 3 tt_ok (en_State (⟨0,0,[],[],0,0,0,0⟩ : State) (⟨(none,0),(none,0)⟩)) (fitn ta_36 (by kernel_rfl)) rfl (by kernel_rfl) (by kernel_rfl) ?_
     refine r_keep [(6,.pointer (some ⟨bq4,0,none⟩)),(7,.int .i64 x39)] (by kernel_rfl) fun fr => ?_
     refine r_done ?_
     repeat refine r_done ?_
     repeat refine r_done ?_
     obtain rfl := h_out h
     exact ret_of (rv_cell 3 tt_ok (by kernel_rfl) ta_36 rfl rfl (RV.tmp RV.nil)) ((le_nil 67 4).trans ((le_nil 50 12).trans (le_w [true,true,false,false,false,false,false,false]))) ⟨none,0,none,0,rfl,rfl⟩
    ·replace h := h_f h hb41
     refine r_done ?_
     refine r_bind ?_
     refine r_mix tt_ok hm_ok _ _ [] (.pure 0 (.pure 1 (.pure 2 (.vb 3 (.pure 4 (.vb 5 (.pure 6 (.pure 7 (.pure 8 (.pure 9 (.eff 10 (.pure 11 (.pure 12 (.pure 13 (.eff 14 .nil))))))))))))))) (le_w [true,true,false,true,true,true]) (le_w [true,true,false,true,true,true]) ?_ ?_
     ·decide +kernel
     refine x_p rfl ?_
     refine v_done ?_
     refine x_p rfl ?_
     refine v_done ?_
     refine x_p rfl ?_
     refine v_done ?_
     refine x_vb rfl ?_
     refine v_ld 3 tt_ok (v := .int .i64 e2.Tick) ts_3 rfl (by kernel_rfl) ?_
     refine v_done ?_
     refine x_kp [(4,.pointer (some ⟨bq2,0,none⟩)),(6,.pointer (some ⟨bq4,0,none⟩)),(8,.pointer (some ⟨bq23,0,none⟩)),(86,.pointer (some ⟨bq23,0,none⟩)),(87,.pointer (some ⟨bq23,0,none⟩)),(89,.int .i64 e2.Tick)] (by kernel_rfl) fun fr => ?_
     refine x_p rfl ?_
     refine v_done ?_
     refine x_vb rfl ?_
     refine v_ld 4 tt_ok (v := .int .i64 s1.Count) ts_3 rfl (by kernel_rfl) ?_
     refine v_done ?_
     refine x_p rfl ?_
     refine v_num (e' := w64 (s1.Count + 1)) rfl ?_
     refine v_done ?_
     refine x_p rfl ?_
     refine v_done ?_
     refine x_p rfl ?_
     refine v_done ?_
     refine x_p rfl ?_
     refine v_done ?_
     refine x_e rfl ?_
     refine r_s 2 tt_ok (en_state_fold (⟨c0,{ x40 with Tick := e2.Tick },e2⟩ : state_fold) (⟨(g_c0.Zones.1,g_c0.Zones.2),(g_c0.Cells.1,g_c0.Cells.2),(g_c0.Tenants.1,g_c0.Tenants.2),(g_c0.Versions.1,g_c0.Versions.2),(g_c0.Replicas.1,g_c0.Replicas.2),(g_c0.Observers.1,g_c0.Observers.2),(A17,c18),(A20,c21),P27,P34⟩)) (fit1 ts_3 (by kernel_rfl)) rfl (by kernel_rfl) (by kernel_rfl) ?_
     refine r_done ⟨rfl,k_a (le_w [true,true,false,true,true,true]) (le_w [true,true,false,true,true,true]),?_⟩
     refine x_p rfl ?_
     refine v_done ?_
     refine x_p rfl ?_
     refine v_done ?_
     refine x_kp [(6,.pointer (some ⟨bq4,0,none⟩)),(8,.pointer (some ⟨bq23,0,none⟩)),(92,.int .i64 (w64 (s1.Count + 1))),(97,.pointer (some ⟨bq23,10,none⟩))] (by kernel_rfl) fun fr => ?_
     refine x_p rfl ?_
     refine v_done ?_
     refine x_e rfl ?_
     refine r_s 2 tt_ok (en_state_fold (⟨c0,{ x40 with Tick := e2.Tick,Count := w64 (s1.Count + 1) },e2⟩ : state_fold) (⟨(g_c0.Zones.1,g_c0.Zones.2),(g_c0.Cells.1,g_c0.Cells.2),(g_c0.Tenants.1,g_c0.Tenants.2),(g_c0.Versions.1,g_c0.Versions.2),(g_c0.Replicas.1,g_c0.Replicas.2),(g_c0.Observers.1,g_c0.Observers.2),(A17,c18),(A20,c21),P27,P34⟩)) (fit1 ts_3 (by kernel_rfl)) rfl (by kernel_rfl) (by kernel_rfl) ?_
     refine r_done ⟨rfl,k_a (le_w [true,true,false,true,true,true]) (le_w [true,true,false,true,true,true]),?_⟩
     refine x_k [(6,.pointer (some ⟨bq4,0,none⟩)),(8,.pointer (some ⟨bq23,0,none⟩))] (by kernel_rfl) fun fr => ?_
     refine r_done ?_
     refine r_bind ?_
     refine r_ldn 2 tt_ok (en_State ({ x40 with Tick := e2.Tick,Count := w64 (s1.Count + 1) }) (⟨(A17,c18),(A20,c21)⟩)) ta_36 rfl (by kernel_rfl) (by kernel_rfl) ?_
     refine r_s 3 tt_ok (en_State ({ x40 with Tick := e2.Tick,Count := w64 (s1.Count + 1) }) (⟨(A17,c18),(A20,c21)⟩)) (fitn ta_36 (by kernel_rfl)) rfl (by kernel_rfl) (by kernel_rfl) ?_
     refine r_done ?_
     repeat refine r_done ?_
     repeat refine r_done ?_
     obtain rfl := h_out h
     exact ret_of (rv_cell 3 tt_ok (by kernel_rfl) ta_36 rfl rfl (RV.tmp RV.nil)) (le_w [true,true,false,false,false,false]) ⟨A17,c18,A20,c21,rfl,rfl⟩
theorem hc_17 {ρ : Addr → Option Value} {L : List Ent} {g_c0 : gConfig} {A_l1 : Option Addr} {c_l1 : Nat} {S_c0 : St} (hS_c0 : Le ⟨ρ,L⟩ S_c0) {S_l1 : St} (hS_l1 : Le ⟨ρ,L⟩ S_l1) (c0 : Config) (l1 : (List Entry)) (h_c0 : Sl_Config S_c0 c0 g_c0) (h_l1 : Sl S_l1 A_l1 l1.length c_l1 (fl eEntry.en l1)) {r : (State × Int × Int)} (h : state_Fold c0 l1 = some r) : HC Try.prog 17 #[.agg (en_Config c0 g_c0).toArray,.slice A_l1 l1.length c_l1] ⟨ρ,L⟩ (fun v S' => ∃ (Aq1_0 : Option Addr),∃ (cq1_0 : Nat),∃ (Aq1_1 : Option Addr),∃ (cq1_1 : Nat),v = .tuple #[.agg (en_State r.1 (⟨(Aq1_0,cq1_0),(Aq1_1,cq1_1)⟩)).toArray,.int .i64 r.2.1,.int .i64 r.2.2] ∧ S' = ⟨ρ,.row Aq1_0 r.1.Tenants.length cq1_0 50 12 (fl eTenantState.en r.1.Tenants) :: .row Aq1_1 r.1.Cells.length cq1_1 67 4 (fl eCellState.en r.1.Cells) :: L⟩) := by
 replace h := h_in h
 refine HC.intro (N := 38) (args := [_,_]) tt_ok Try.func17 rfl (by decide +kernel) rfl (Nat.le_of_ble_eq_true rfl) ?_
 refine r_bind ?_
 refine r_bx (en_Config c0 g_c0) (by kernel_rfl) fun bq1 => ?_
 refine r_al tt_ok (en_State (⟨0,0,[],[],0,0,0,0⟩ : State) (⟨(none,0),(none,0)⟩)) ti_36 (by kernel_rfl) fun bq2 => ?_
 refine r_done ?_
 refine r_bind ?_
 refine r_ldn 1 tt_ok (en_Config c0 g_c0) ta_30 rfl (by kernel_rfl) (by kernel_rfl) ?_
 replace h := h_b h; obtain ⟨x4,hx3,h⟩ := h
 refine r_call (hc_13 (g_c0 := g_c0) (c0 := c0) (hS_c0 := by exact (le_d 2).trans hS_c0) (h_c0 := by exact h_c0) (h := hx3)) ?_
 rintro _ _ ⟨A5,c6,A8,c9,rfl,rfl⟩
 refine r_al tt_ok (en_State (⟨0,0,[],[],0,0,0,0⟩ : State) (⟨(none,0),(none,0)⟩)) ti_36 (by kernel_rfl) fun bq11 => ?_
 refine r_s 0 tt_ok (en_State x4 (⟨(A5,c6),(A8,c9)⟩)) (fitn ta_36 (by kernel_rfl)) rfl (by kernel_rfl) (by kernel_rfl) ?_
 refine r_done ?_
 refine r_bind ?_
 replace h := h_k h; obtain ⟨K120,h,hK121⟩ := h
 refine r_meet (fun fr S => ∃ (tic106 : Int),∃ (cou107 : Int),∃ (xs108 : (List TenantState)),∃ (xs112 : (List CellState)),∃ (pro116 : Int),∃ (eva117 : Int),∃ (low118 : Int),∃ (hig119 : Int),∃ (A109 : Option Addr),∃ (c110 : Nat),∃ (A113 : Option Addr),∃ (c114 : Nat),∃ fr0,(state_Fold.j1 l1 tic106 cou107 xs108 xs112 pro116 eva117 low118 hig119).bind K120 = some r ∧ fr = updL [(1,.slice A_l1 l1.length c_l1),(4,.pointer (some ⟨bq2,0,none⟩)),(7,.pointer (some ⟨bq11,0,none⟩))] fr0 ∧ S = ⟨ρ,.row A109 xs108.length c110 50 12 (fl eTenantState.en xs108) :: .row A113 xs112.length c114 67 4 (fl eCellState.en xs112) :: .obj bq11 (en_State (⟨tic106,cou107,xs108,xs112,pro116,eva117,low118,hig119⟩ : State) (⟨(A109,c110),(A113,c114)⟩)) 36 :: .obj bq2 (en_State (⟨0,0,[],[],0,0,0,0⟩ : State) (⟨(none,0),(none,0)⟩)) 36 :: L⟩) ?_ ?_
 ·refine r_bind ?_
  refine r_done ?_
  refine r_bind ?_
  replace h := h_l h; obtain ⟨K102,n103,h,hK104⟩ := h
  refine r_le ((le_mv 4).trans ((le_mv 4).trans ((le_mv 2).trans ((le_mv 4).trans (le_mv 4))))) ?_
  refine r_loop (fun n fr S => ∃ (x72 : Int),∃ (tic73 : Int),∃ (cou74 : Int),∃ (xs75 : (List TenantState)),∃ (xs79 : (List CellState)),∃ (pro83 : Int),∃ (eva84 : Int),∃ (low85 : Int),∃ (hig86 : Int),∃ (A76 : Option Addr),∃ (c77 : Nat),∃ (A80 : Option Addr),∃ (c81 : Nat),∃ fr0,(runN (state_Fold.b2 l1 c0) n (x72,tic73,cou74,xs75,xs79,pro83,eva84,low85,hig86)).bind K102 = some r ∧ fr = updL [(1,.slice A_l1 l1.length c_l1),(2,.pointer (some ⟨bq1,0,none⟩)),(4,.pointer (some ⟨bq2,0,none⟩)),(7,.pointer (some ⟨bq11,0,none⟩)),(14,.slice A_l1 l1.length c_l1),(15,.int .i64 (l1.length : Int)),(16,.int .i64 x72)] fr0 ∧ S = ⟨ρ,.row A76 xs75.length c77 50 12 (fl eTenantState.en xs75) :: .row A80 xs79.length c81 67 4 (fl eCellState.en xs79) :: .obj bq11 (en_State (⟨tic73,cou74,xs75,xs79,pro83,eva84,low85,hig86⟩ : State) (⟨(A76,c77),(A80,c81)⟩)) 36 :: .obj bq2 (en_State (⟨0,0,[],[],0,0,0,0⟩ : State) (⟨(none,0),(none,0)⟩)) 36 :: .obj bq1 (en_Config c0 g_c0) 30 :: L⟩) n103 ⟨0,x4.Tick,x4.Count,x4.Tenants,x4.Cells,x4.Proven,x4.Evacuating,x4.Low,x4.High,A5,c6,A8,c9,_,h,fr_eq _ (by kernel_rfl),(by kernel_rfl)⟩ ?_
  clear h
  rintro n103 fr S ⟨x72,tic73,cou74,xs75,xs79,pro83,eva84,low85,hig86,A76,c77,A80,c81,fr,h,rfl,rfl⟩
  replace h := h_r h; obtain ⟨m105,hm105,h⟩ := h
  refine r_bind ?_
  refine r_done ?_
  refine r_bind ?_
  refine r_ite (fun hb87 => ?_) (fun hb87 => ?_)
  ·replace h := h_t h hb87
   clear hb87
   refine r_done ?_
   refine r_bind ?_
   refine r_bind ?_
   refine r_bind ?_
   replace h := h_b h; obtain ⟨x88,hx89,h⟩ := h
   refine r_el hx89 ((h_l1).rd.mono ((le_d 5).trans hS_l1)) ?_
   refine r_len (E := eEntry) tt_ok (en_Entry x88) (idx_get hx89) ((h_l1).rd.mono ((le_d 5).trans hS_l1)) ta_45 rfl (pl0 _ _) (by kernel_rfl) (by kernel_rfl) ?_
   refine r_al tt_ok (en_Entry (⟨0,0,0,0,0,0,0,0,0⟩ : Entry)) ti_45 (by kernel_rfl) fun bq90 => ?_
   refine r_s 0 tt_ok (en_Entry x88) (fitn ta_45 (by kernel_rfl)) rfl (by kernel_rfl) (by kernel_rfl) ?_
   refine r_done ?_
   refine r_bind ?_
   refine r_ldn 5 tt_ok (en_Config c0 g_c0) ta_30 rfl (by kernel_rfl) (by kernel_rfl) ?_
   refine r_ldn 3 tt_ok (en_State (⟨tic73,cou74,xs75,xs79,pro83,eva84,low85,hig86⟩ : State) (⟨(A76,c77),(A80,c81)⟩)) ta_36 rfl (by kernel_rfl) (by kernel_rfl) ?_
   refine r_kp [(1,.slice A_l1 l1.length c_l1),(2,.pointer (some ⟨bq1,0,none⟩)),(4,.pointer (some ⟨bq2,0,none⟩)),(7,.pointer (some ⟨bq11,0,none⟩)),(8,.int .i64 x72),(9,.pointer (some ⟨bq90,0,none⟩)),(14,.slice A_l1 l1.length c_l1),(15,.int .i64 (l1.length : Int)),(16,.int .i64 x72),(22,.agg (en_Config c0 g_c0).toArray),(23,.agg (en_State (⟨tic73,cou74,xs75,xs79,pro83,eva84,low85,hig86⟩ : State) (⟨(A76,c77),(A80,c81)⟩)).toArray)] (by kernel_rfl) fun fr => ?_
   refine r_ldn 0 tt_ok (en_Entry x88) ta_45 rfl (by kernel_rfl) (by kernel_rfl) ?_
   replace h := h_b h; obtain ⟨⟨x92,x93⟩,hx91,h⟩ := h
   refine r_call (hc_24 (g_c0 := g_c0) (c0 := c0) (g_s1 := ⟨(A76,c77),(A80,c81)⟩) (s1 := (⟨tic73,cou74,xs75,xs79,pro83,eva84,low85,hig86⟩ : State)) (e2 := x88) (hS_c0 := by exact (le_d 6).trans hS_c0) (h_c0 := by exact h_c0) (hS_s1 := by exact Le.refl _) (h_s1 := by exact ⟨sl_row 1 rfl,sl_row 2 rfl⟩) (h := hx91)) ?_
   rintro _ _ ⟨A94,c95,A97,c98,rfl,rfl⟩
   refine r_al tt_ok (en_State (⟨0,0,[],[],0,0,0,0⟩ : State) (⟨(none,0),(none,0)⟩)) ti_36 (by kernel_rfl) fun bq100 => ?_
   refine r_s 0 tt_ok (en_State x92 (⟨(A94,c95),(A97,c98)⟩)) (fitn ta_36 (by kernel_rfl)) rfl (by kernel_rfl) (by kernel_rfl) ?_
   refine r_done ?_
   refine r_bind ?_
   refine r_bind ?_
   refine r_keep [(1,.slice A_l1 l1.length c_l1),(2,.pointer (some ⟨bq1,0,none⟩)),(4,.pointer (some ⟨bq2,0,none⟩)),(7,.pointer (some ⟨bq11,0,none⟩)),(8,.int .i64 x72),(10,.pointer (some ⟨bq100,0,none⟩)),(11,.int .i64 x93),(14,.slice A_l1 l1.length c_l1),(15,.int .i64 (l1.length : Int)),(16,.int .i64 x72),(29,.bool (!decide (x93 = 0)))] (by kernel_rfl) fun fr => ?_
   refine r_done ?_
   refine r_ite (fun hb101 => ?_) (fun hb101 => ?_)
   ·replace h := h_t h hb101
    clear hb101
    refine r_bind ?_
    refine r_ldn 6 tt_ok (en_State (⟨tic73,cou74,xs75,xs79,pro83,eva84,low85,hig86⟩ : State) (⟨(A76,c77),(A80,c81)⟩)) ta_36 rfl (by kernel_rfl) (by kernel_rfl) ?_
    refine r_s 7 tt_ok (en_State (⟨tic73,cou74,xs75,xs79,pro83,eva84,low85,hig86⟩ : State) (⟨(A76,c77),(A80,c81)⟩)) (fitn ta_36 (by kernel_rfl)) rfl (by kernel_rfl) (by kernel_rfl) ?_
    refine r_done ?_
    repeat refine r_done ?_
    replace h := h_m h
    subst hK104
    subst hK121
    repeat refine r_done ?_
    obtain rfl := h_out h
    exact ret_of (rv_cell 7 tt_ok (by kernel_rfl) ta_36 rfl rfl (RV.tmp (RV.tmp RV.nil))) (le_w [false,false,false,false,true,true,false,false,false]) ⟨A76,c77,A80,c81,rfl,rfl⟩
   ·replace h := h_f h hb101
    clear hb101
    refine r_done ?_
    refine r_ldn 0 tt_ok (en_State x92 (⟨(A94,c95),(A97,c98)⟩)) ta_36 rfl (by kernel_rfl) (by kernel_rfl) ?_
    refine r_s 6 tt_ok (en_State x92 (⟨(A94,c95),(A97,c98)⟩)) (fitn ta_36 (by kernel_rfl)) rfl (by kernel_rfl) (by kernel_rfl) ?_
    refine r_done ?_
    refine r_done ?_
    refine r_num (e' := w64 (x72 + 1)) rfl ?_
    refine r_le (le_w [false,true,true,false,false,false,true,true,true]) ?_
    exact r_done ⟨m105,lt_s hm105,w64 (x72 + 1),x92.Tick,x92.Count,x92.Tenants,x92.Cells,x92.Proven,x92.Evacuating,x92.Low,x92.High,A94,c95,A97,c98,_,h,fr_eq _ (by kernel_rfl),(by kernel_rfl)⟩
  ·replace h := h_f h hb87
   clear hb87
   refine r_done ?_
   refine r_done ?_
   replace h := h_m h
   subst hK104
   refine r_le (le_w [true,true,true,true,false]) ?_
   exact r_done ⟨tic73,cou74,xs75,xs79,pro83,eva84,low85,hig86,A76,c77,A80,c81,_,h,fr_eq _ (by kernel_rfl),(by kernel_rfl)⟩
 clear h
 rintro fr S ⟨tic106,cou107,xs108,xs112,pro116,eva117,low118,hig119,A109,c110,A113,c114,fr,h,rfl,rfl⟩
 subst hK121
 refine r_done ?_
 refine r_bind ?_
 refine r_ldn 2 tt_ok (en_State (⟨tic106,cou107,xs108,xs112,pro116,eva117,low118,hig119⟩ : State) (⟨(A109,c110),(A113,c114)⟩)) ta_36 rfl (by kernel_rfl) (by kernel_rfl) ?_
 refine r_s 3 tt_ok (en_State (⟨tic106,cou107,xs108,xs112,pro116,eva117,low118,hig119⟩ : State) (⟨(A109,c110),(A113,c114)⟩)) (fitn ta_36 (by kernel_rfl)) rfl (by kernel_rfl) (by kernel_rfl) ?_
 refine r_done ?_
 repeat refine r_done ?_
 repeat refine r_done ?_
 obtain rfl := h_out h
 exact ret_of (rv_cell 3 tt_ok (by kernel_rfl) ta_36 rfl rfl (RV.tmp (RV.tmp RV.nil))) (le_w [true,true,false,false]) ⟨A109,c110,A113,c114,rfl,rfl⟩
theorem hc_10 {ρ : Addr → Option Value} {L : List Ent}     {r : Bool} (h : cellplanelaw12_awake = some r) : HC Try.prog 10 #[] ⟨ρ,L⟩ (fun v S' => v = .bool r ∧ S' = ⟨ρ,L⟩) := by
 replace h := h_in h
 refine HC.intro (N := 48) (args := []) tt_ok Try.func10 rfl (by decide +kernel) rfl (Nat.le_of_ble_eq_true rfl) ?_
 refine r_bind ?_
 refine r_done ?_
 refine r_bind ?_
 refine r_call (hc_16 ) ?_
 rintro _ _ ⟨A1,c2,A4,c5,A7,c8,A10,c11,A13,c14,A16,c17,rfl,rfl⟩
 refine r_al tt_ok (en_Config (⟨0,[],[],[],[],[],[],0,0,0⟩ : Config) (⟨(none,0),(none,0),(none,0),(none,0),(none,0),(none,0)⟩)) ti_30 (by kernel_rfl) fun bq19 => ?_
 refine r_s 0 tt_ok (en_Config cellplanelaw12_two (⟨(A1,c2),(A4,c5),(A7,c8),(A10,c11),(A13,c14),(A16,c17)⟩)) (fitn ta_30 (by kernel_rfl)) rfl (by kernel_rfl) (by kernel_rfl) ?_
 refine r_done ?_
 refine r_bind ?_
 refine r_ldn 0 tt_ok (en_Config cellplanelaw12_two (⟨(A1,c2),(A4,c5),(A7,c8),(A10,c11),(A13,c14),(A16,c17)⟩)) ta_30 rfl (by kernel_rfl) (by kernel_rfl) ?_
 refine r_bd tt_ok (en_Entry (⟨1,0,0,0,1,0,0,0,0⟩ : Entry)) ti_45 tp_45 (by kernel_rfl) ?_
 refine r_bd tt_ok (en_Entry (⟨2,0,0,0,(-1),1,0,20,0⟩ : Entry)) ti_45 tp_45 (by kernel_rfl) ?_
 refine r_bd tt_ok (en_Entry (⟨3,5,0,(-1),(-1),1,0,0,0⟩ : Entry)) ti_45 tp_45 (by kernel_rfl) ?_
 refine r_bd tt_ok (en_Entry (⟨2,5,0,1,(-1),2,6,9,0⟩ : Entry)) ti_45 tp_45 (by kernel_rfl) ?_
 refine r_kp [(7,.agg (en_Config cellplanelaw12_two (⟨(A1,c2),(A4,c5),(A7,c8),(A10,c11),(A13,c14),(A16,c17)⟩)).toArray),(8,.agg (en_Entry (⟨1,0,0,0,1,0,0,0,0⟩ : Entry)).toArray),(9,.agg (en_Entry (⟨2,0,0,0,(-1),1,0,20,0⟩ : Entry)).toArray),(10,.agg (en_Entry (⟨3,5,0,(-1),(-1),1,0,0,0⟩ : Entry)).toArray),(11,.agg (en_Entry (⟨2,5,0,1,(-1),2,6,9,0⟩ : Entry)).toArray)] (by kernel_rfl) fun fr => ?_
 refine r_bs tt_ok (fl eEntry.en [(⟨1,0,0,0,1,0,0,0,0⟩ : Entry),(⟨2,0,0,0,(-1),1,0,20,0⟩ : Entry),(⟨3,5,0,(-1),(-1),1,0,0,0⟩ : Entry),(⟨2,5,0,1,(-1),2,6,9,0⟩ : Entry)]) te_46 ti_45 (by kernel_rfl) (by kernel_rfl) (by kernel_rfl) (by kernel_rfl) fun bq20 => ?_
 replace h := h_b h; obtain ⟨⟨x22,x23,x24⟩,hx21,h⟩ := h
 refine r_call (hc_17 (g_c0 := ⟨(A1,c2),(A4,c5),(A7,c8),(A10,c11),(A13,c14),(A16,c17)⟩) (c0 := cellplanelaw12_two) (A_l1 := (some ⟨bq20,0,none⟩)) (c_l1 := 4) (l1 := [(⟨1,0,0,0,1,0,0,0,0⟩ : Entry),(⟨2,0,0,0,(-1),1,0,20,0⟩ : Entry),(⟨3,5,0,(-1),(-1),1,0,0,0⟩ : Entry),(⟨2,5,0,1,(-1),2,6,9,0⟩ : Entry)]) (hS_c0 := by exact Le.refl _) (h_c0 := by exact ⟨sl_row 2 rfl,sl_row 3 rfl,sl_row 4 rfl,sl_row 5 rfl,sl_row 6 rfl,sl_row 7 rfl⟩) (hS_l1 := by exact Le.refl _) (h_l1 := by exact sl_row 0 rfl) (h := hx21)) ?_
 rintro _ _ ⟨A25,c26,A28,c29,rfl,rfl⟩
 refine r_al tt_ok (en_State (⟨0,0,[],[],0,0,0,0⟩ : State) (⟨(none,0),(none,0)⟩)) ti_36 (by kernel_rfl) fun bq31 => ?_
 refine r_s 0 tt_ok (en_State x22 (⟨(A25,c26),(A28,c29)⟩)) (fitn ta_36 (by kernel_rfl)) rfl (by kernel_rfl) (by kernel_rfl) ?_
 refine r_keep [(2,.pointer (some ⟨bq31,0,none⟩)),(3,.int .i64 x23),(4,.int .i64 x24)] (by kernel_rfl) fun fr => ?_
 refine r_done ?_
 refine r_bind ?_
 replace h := h_j h; obtain ⟨K40,h,hK41⟩ := h
 refine r_meet (fun fr S => ∃ (x39 : Bool),∃ fr0,K40 x39 = some r ∧ fr = updL [(0,.bool x39)] fr0 ∧ S = ⟨ρ,L⟩) ?_ ?_
 ·refine r_ite (fun (hb32 : (decide (x23 = 3)) = true) => ?_) (fun (hb32 : (decide (x23 = 3)) = false) => ?_)
  ·replace h := h_t h hb32
   clear hb32
   refine r_kp [(2,.pointer (some ⟨bq31,0,none⟩)),(19,.bool true),(20,.int .i64 x24)] (by kernel_rfl) fun fr => ?_
   refine r_T rfl ?_
   refine r_ite (fun (hb33 : (decide (x24 = 9)) = true) => ?_) (fun (hb33 : (decide (x24 = 9)) = false) => ?_)
   ·replace h := h_t h hb33
    clear hb33
    refine r_T rfl ?_
    refine r_ld 0 tt_ok (v := .slice A25 x22.Tenants.length c26) ts_33 rfl (by kernel_rfl) ?_
    refine r_T rfl ?_
    refine r_T rfl ?_
    refine r_ite (fun (hb34 : (decide ((x22.Tenants.length : Int) = 1)) = true) => ?_) (fun (hb34 : (decide ((x22.Tenants.length : Int) = 1)) = false) => ?_)
    ·replace h := h_t h hb34
     clear hb34
     refine r_kp [(2,.pointer (some ⟨bq31,0,none⟩)),(29,.bool true),(30,.pointer (some ⟨bq31,2,none⟩))] (by kernel_rfl) fun fr => ?_
     refine r_T rfl ?_
     refine r_ld 0 tt_ok (v := .slice A25 x22.Tenants.length c26) ts_33 rfl (by kernel_rfl) ?_
     refine r_T rfl ?_
     replace h := h_b h; obtain ⟨x35,hx36,h⟩ := h
     refine r_el hx36 (rd_row 1 rfl) ?_
     refine r_T rfl ?_
     refine r_T rfl ?_
     refine r_len (E := eTenantState) tt_ok (en_Window x35.Window) (idx_get hx36) (rd_row 1 rfl) ta_48 rfl (pl1 _ _ _) (by kernel_rfl) (by kernel_rfl) ?_
     refine r_T rfl ?_
     refine r_bd tt_ok (en_Window (⟨0,1,0,0,6⟩ : Window)) ti_48 tp_48 (by kernel_rfl) ?_
     refine r_T rfl ?_
     refine r_op (fun w => ex_eqS (fun w => eq_Window x35.Window (⟨0,1,0,0,6⟩ : Window) w) (by decide +kernel) rfl rfl rfl w) ?_
     refine r_ite (fun (hb37 : (decide (x35.Window = (⟨0,1,0,0,6⟩ : Window))) = true) => ?_) (fun (hb37 : (decide (x35.Window = (⟨0,1,0,0,6⟩ : Window))) = false) => ?_)
     ·replace h := h_t h hb37
      clear hb37
      refine r_kp [(2,.pointer (some ⟨bq31,0,none⟩)),(38,.bool true),(39,.pointer (some ⟨bq31,1,none⟩))] (by kernel_rfl) fun fr => ?_
      refine r_T rfl ?_
      refine r_ld 0 tt_ok (v := .int .i64 x22.Count) ts_3 rfl (by kernel_rfl) ?_
      refine r_T rfl ?_
      refine r_ite (fun (hb38 : (decide (x22.Count = 3)) = true) => ?_) (fun (hb38 : (decide (x22.Count = 3)) = false) => ?_)
      ·replace h := h_t h hb38
       clear hb38
       refine r_T rfl ?_
       refine r_ld 0 tt_ok (v := .int .i64 x22.Tick) ts_3 rfl (by kernel_rfl) ?_
       refine r_T rfl ?_
       refine r_keep [(0,.bool (decide (x22.Tick = 5)))] (by kernel_rfl) fun fr => ?_
       refine r_le (le_w [false,false,false,false,false,false,false,false,false,false,false]) ?_
       exact r_done ⟨decide (x22.Tick = 5),_,h,fr_eq _ (by kernel_rfl),(by kernel_rfl)⟩
      ·replace h := h_f h hb38
       clear hb38
       refine r_F rfl ?_
       refine r_F rfl ?_
       refine r_F rfl ?_
       refine r_keep [(0,.bool false)] (by kernel_rfl) fun fr => ?_
       refine r_le (le_w [false,false,false,false,false,false,false,false,false,false,false]) ?_
       exact r_done ⟨false,_,h,fr_eq _ (by kernel_rfl),(by kernel_rfl)⟩
     ·replace h := h_f h hb37
      clear hb37
      refine r_kp [(2,.pointer (some ⟨bq31,0,none⟩)),(38,.bool false),(39,undef)] (by kernel_rfl) fun fr => ?_
      refine r_F rfl ?_
      refine r_F rfl ?_
      refine r_F rfl ?_
      refine r_F rfl ?_
      refine r_F rfl ?_
      refine r_F rfl ?_
      refine r_F rfl ?_
      refine r_keep [(0,.bool false)] (by kernel_rfl) fun fr => ?_
      refine r_le (le_w [false,false,false,false,false,false,false,false,false,false,false]) ?_
      exact r_done ⟨false,_,h,fr_eq _ (by kernel_rfl),(by kernel_rfl)⟩
    ·replace h := h_f h hb34
     clear hb34
     refine r_kp [(2,.pointer (some ⟨bq31,0,none⟩)),(29,.bool false),(30,undef)] (by kernel_rfl) fun fr => ?_
     refine r_F rfl ?_
     refine r_F rfl ?_
     refine r_F rfl ?_
     refine r_F rfl ?_
     refine r_F rfl ?_
     refine r_F rfl ?_
     refine r_F rfl ?_
     refine r_F rfl ?_
     refine r_kp [(2,.pointer (some ⟨bq31,0,none⟩)),(38,.bool false),(39,undef)] (by kernel_rfl) fun fr => ?_
     refine r_F rfl ?_
     refine r_F rfl ?_
     refine r_F rfl ?_
     refine r_F rfl ?_
     refine r_F rfl ?_
     refine r_F rfl ?_
     refine r_F rfl ?_
     refine r_keep [(0,.bool false)] (by kernel_rfl) fun fr => ?_
     refine r_le (le_w [false,false,false,false,false,false,false,false,false,false,false]) ?_
     exact r_done ⟨false,_,h,fr_eq _ (by kernel_rfl),(by kernel_rfl)⟩
   ·replace h := h_f h hb33
    clear hb33
    refine r_F rfl ?_
    refine r_F rfl ?_
    refine r_F rfl ?_
    refine r_F rfl ?_
    refine r_F rfl ?_
    refine r_kp [(2,.pointer (some ⟨bq31,0,none⟩)),(29,.bool false),(30,undef)] (by kernel_rfl) fun fr => ?_
    refine r_F rfl ?_
    refine r_F rfl ?_
    refine r_F rfl ?_
    refine r_F rfl ?_
    refine r_F rfl ?_
    refine r_F rfl ?_
    refine r_F rfl ?_
    refine r_F rfl ?_
    refine r_kp [(2,.pointer (some ⟨bq31,0,none⟩)),(38,.bool false),(39,undef)] (by kernel_rfl) fun fr => ?_
    refine r_F rfl ?_
    refine r_F rfl ?_
    refine r_F rfl ?_
    refine r_F rfl ?_
    refine r_F rfl ?_
    refine r_F rfl ?_
    refine r_F rfl ?_
    refine r_keep [(0,.bool false)] (by kernel_rfl) fun fr => ?_
    refine r_le (le_w [false,false,false,false,false,false,false,false,false,false,false]) ?_
    exact r_done ⟨false,_,h,fr_eq _ (by kernel_rfl),(by kernel_rfl)⟩
  ·replace h := h_f h hb32
   clear hb32
   refine r_kp [(2,.pointer (some ⟨bq31,0,none⟩)),(19,.bool false),(20,undef)] (by kernel_rfl) fun fr => ?_
   refine r_F rfl ?_
   refine r_F rfl ?_
   refine r_F rfl ?_
   refine r_F rfl ?_
   refine r_F rfl ?_
   refine r_F rfl ?_
   refine r_F rfl ?_
   refine r_F rfl ?_
   refine r_kp [(2,.pointer (some ⟨bq31,0,none⟩)),(29,.bool false),(30,undef)] (by kernel_rfl) fun fr => ?_
   refine r_F rfl ?_
   refine r_F rfl ?_
   refine r_F rfl ?_
   refine r_F rfl ?_
   refine r_F rfl ?_
   refine r_F rfl ?_
   refine r_F rfl ?_
   refine r_F rfl ?_
   refine r_kp [(2,.pointer (some ⟨bq31,0,none⟩)),(38,.bool false),(39,undef)] (by kernel_rfl) fun fr => ?_
   refine r_F rfl ?_
   refine r_F rfl ?_
   refine r_F rfl ?_
   refine r_F rfl ?_
   refine r_F rfl ?_
   refine r_F rfl ?_
   refine r_F rfl ?_
   refine r_keep [(0,.bool false)] (by kernel_rfl) fun fr => ?_
   refine r_le (le_w [false,false,false,false,false,false,false,false,false,false,false]) ?_
   exact r_done ⟨false,_,h,fr_eq _ (by kernel_rfl),(by kernel_rfl)⟩
 clear h
 rintro fr S ⟨x39,fr,h,rfl,rfl⟩
 replace h := hK41 _ h
 refine r_done ?_
 repeat refine r_done ?_
 repeat refine r_done ?_
 obtain rfl := h_out h
 exact ret_of (RV.tmp RV.nil) (Le.refl _) ⟨rfl,rfl⟩
theorem hc_18 {ρ : Addr → Option Value} {L : List Ent} {A_l0 : Option Addr} {c_l0 : Nat} {S_l0 : St} (hS_l0 : Le ⟨ρ,L⟩ S_l0) (l0 : (List Int)) (h_l0 : Sl S_l0 A_l0 l0.length c_l0 (fl eI64.en l0))  : HC Try.prog 18 #[.slice A_l0 l0.length c_l0] ⟨ρ,L⟩ (fun v S' => ∃ (bq1 : Nat),∃ (Aq1_0 : Option Addr),∃ (cq1_0 : Nat),v = .pointer (some ⟨bq1,0,none⟩) ∧ S' = ⟨ρ,.obj bq1 (en_cellplanemake_Tape (cellplanemake_New l0) (⟨(Aq1_0,cq1_0)⟩)) 73 :: L⟩ ∧ Sl S_l0 Aq1_0 ((cellplanemake_New l0).L).length cq1_0 (fl eI64.en ((cellplanemake_New l0).L))) := by
 generalize h : cellplanemake_New l0 = r
 unfold cellplanemake_New at h
 refine HC.intro (N := 6) (args := [_]) tt_ok Try.func18 rfl (by decide +kernel) rfl (Nat.le_of_ble_eq_true rfl) ?_
 refine r_bind ?_
 refine r_done ?_
 refine r_bind ?_
 refine r_bd tt_ok (en_cellplanemake_Tape (⟨l0,0⟩ : cellplanemake_Tape) (⟨(A_l0,c_l0)⟩)) ti_73 tp_73 (by kernel_rfl) ?_
 refine r_bx (en_cellplanemake_Tape (⟨l0,0⟩ : cellplanemake_Tape) (⟨(A_l0,c_l0)⟩)) (by kernel_rfl) fun bq1 => ?_
 refine r_done ?_
 repeat refine r_done ?_
 repeat refine r_done ?_
 subst h
 exact ret_of (RV.tmp RV.nil) (Le.refl _) ⟨bq1,A_l0,c_l0,rfl,rfl,h_l0⟩
theorem hc_27 {ρ : Addr → Option Value} {L : List Ent}   (v0 : Int) (n1 : Int)  {r : Int} (h : cellplanemake_Mod v0 n1 = some r) : HC Try.prog 27 #[.int .i64 v0,.int .i64 n1] ⟨ρ,L⟩ (fun v S' => v = .int .i64 r ∧ S' = ⟨ρ,L⟩) := by
 replace h := h_in h
 refine HC.intro (N := 12) (args := [_,_]) tt_ok Try.func27 rfl (by decide +kernel) rfl (Nat.le_of_ble_eq_true rfl) ?_
 refine r_bind ?_
 refine r_done ?_
 refine r_bind ?_
 replace h := h_p h; obtain ⟨hc1,h⟩ := h
 refine r_check hc1 ?_
 refine r_num (e' := Int.tmod v0 n1) rfl ?_
 refine r_num (e' := w64 ((Int.tmod v0 n1) + n1)) rfl ?_
 replace h := h_p h; obtain ⟨hc2,h⟩ := h
 refine r_check hc2 ?_
 refine r_num (e' := Int.tmod (w64 ((Int.tmod v0 n1) + n1)) n1) rfl ?_
 refine r_keep [(4,.int .i64 (Int.tmod (w64 ((Int.tmod v0 n1) + n1)) n1))] (by kernel_rfl) fun fr => ?_
 refine r_done ?_
 repeat refine r_done ?_
 repeat refine r_done ?_
 obtain rfl := h_out h
 exact ret_of (RV.tmp RV.nil) (Le.refl _) ⟨rfl,rfl⟩
theorem hc_20 {ρ : Addr → Option Value} {L : List Ent} {bt0 : Nat} {g_t0 : gcellplanemake_Tape} {S_t0 : St} (hS_t0 : Le ⟨ρ,L⟩ S_t0) (t0 : cellplanemake_Tape) (n1 : Int) (h_t0 : Sl_cellplanemake_Tape S_t0 t0 g_t0) {r : (Int × Int)} (h : cellplanemake_Tape_Next t0 n1 = some r) : HC Try.prog 20 #[.pointer (some ⟨bt0,0,none⟩),.int .i64 n1] ⟨ρ,.obj bt0 (en_cellplanemake_Tape t0 g_t0) 73 :: L⟩ (fun v S' => v = .int .i64 r.1 ∧ S' = ⟨ρ,.obj bt0 (en_cellplanemake_Tape ({ t0 with At := r.2 }) g_t0) 73 :: L⟩) := by
 replace h := h_in h
 refine HC.intro (N := 53) (args := [_,_]) tt_ok Try.func20 rfl (by decide +kernel) rfl (Nat.le_of_ble_eq_true rfl) ?_
 refine r_bind ?_
 refine r_done ?_
 refine r_bind ?_
 refine r_bind ?_
 refine r_ld 0 tt_ok (v := .slice g_t0.L.1 t0.L.length g_t0.L.2) ts_22 rfl (by kernel_rfl) ?_
 refine r_done ?_
 refine r_ite (fun hb1 => ?_) (fun hb1 => ?_)
 ·replace h := h_t h hb1
  clear hb1
  refine r_bind ?_
  refine r_done ?_
  repeat refine r_done ?_
  repeat refine r_done ?_
  obtain rfl := h_out h
  exact ret_of (RV.tmp RV.nil) (Le.refl _) ⟨rfl,rfl⟩
 ·replace h := h_f h hb1
  clear hb1
  refine r_done ?_
  refine r_bind ?_
  refine r_mix tt_ok hm_ok _ _ [] (.pure 0 (.pure 1 (.pure 2 (.vb 3 (.pure 4 (.pure 5 (.pure 6 (.vb 7 (.pure 8 (.pure 9 (.pure 10 (.vb 11 (.pure 12 (.pure 13 (.vb 14 (.vb 15 (.pure 16 .nil))))))))))))))))) (le_w [true]) (le_w [true]) ?_ ?_
  ·decide +kernel
  refine x_p rfl ?_
  refine v_done ?_
  refine x_p rfl ?_
  refine v_done ?_
  refine x_kp [(0,.pointer (some ⟨bt0,0,none⟩)),(1,.int .i64 n1),(14,.pointer (some ⟨bt0,0,none⟩))] (by kernel_rfl) fun fr => ?_
  refine x_p rfl ?_
  refine v_done ?_
  refine x_vb rfl ?_
  refine v_ld 0 tt_ok (v := .slice g_t0.L.1 t0.L.length g_t0.L.2) ts_22 rfl (by kernel_rfl) ?_
  refine v_done ?_
  refine x_p rfl ?_
  refine v_done ?_
  refine x_p rfl ?_
  refine v_done ?_
  refine x_p rfl ?_
  refine v_done ?_
  refine x_vb rfl ?_
  refine v_ld 0 tt_ok (v := .int .i64 t0.At) ts_3 rfl (by kernel_rfl) ?_
  refine v_done ?_
  refine x_p rfl ?_
  refine v_done ?_
  refine x_p rfl ?_
  refine v_done ?_
  refine x_p rfl ?_
  refine v_done ?_
  refine x_kp [(0,.pointer (some ⟨bt0,0,none⟩)),(1,.int .i64 n1),(16,.slice g_t0.L.1 t0.L.length g_t0.L.2),(20,.int .i64 t0.At),(23,.pointer (some ⟨bt0,0,none⟩))] (by kernel_rfl) fun fr => ?_
  refine x_vb rfl ?_
  refine v_ld 0 tt_ok (v := .slice g_t0.L.1 t0.L.length g_t0.L.2) ts_22 rfl (by kernel_rfl) ?_
  refine v_done ?_
  refine x_p rfl ?_
  refine v_done ?_
  refine x_p rfl ?_
  replace h := h_p h; obtain ⟨hc2,h⟩ := h
  refine v_check hc2 ?_
  refine v_num (e' := Int.tmod t0.At (t0.L.length : Int)) rfl ?_
  refine v_done ?_
  refine x_vb rfl ?_
  replace h := h_b h; obtain ⟨x3,hx4,h⟩ := h
  refine v_el hx4 ((h_t0).rd.mono ((le_d 1).trans hS_t0)) ?_
  refine v_done ?_
  refine x_vb rfl ?_
  refine v_lec (E := eI64) tt_ok (v := .int .i64 x3) (idx_get hx4) ((h_t0).rd.mono ((le_d 1).trans hS_t0)) ts_3 rfl (pl0 _ _) (by kernel_rfl) ?_
  refine v_done ?_
  refine x_p rfl ?_
  refine v_done ?_
  refine x_k [(0,.pointer (some ⟨bt0,0,none⟩)),(1,.int .i64 n1),(5,.int .i64 x3)] (by kernel_rfl) fun fr => ?_
  refine r_done ?_
  refine r_bind ?_
  refine r_mix tt_ok hm_ok _ _ [] (.pure 0 (.pure 1 (.pure 2 (.vb 3 (.pure 4 (.pure 5 (.pure 6 (.vb 7 (.pure 8 (.pure 9 (.pure 10 .nil))))))))))) (le_w [true]) (le_w [true]) ?_ ?_
  ·decide +kernel
  refine x_p rfl ?_
  refine v_done ?_
  refine x_p rfl ?_
  refine v_done ?_
  refine x_p rfl ?_
  refine v_done ?_
  refine x_vb rfl ?_
  refine v_ld 0 tt_ok (v := .int .i64 t0.At) ts_3 rfl (by kernel_rfl) ?_
  refine v_done ?_
  refine x_p rfl ?_
  refine v_done ?_
  refine x_p rfl ?_
  refine v_done ?_
  refine x_p rfl ?_
  refine v_done ?_
  refine x_vb rfl ?_
  refine v_ld 0 tt_ok (v := .slice g_t0.L.1 t0.L.length g_t0.L.2) ts_22 rfl (by kernel_rfl) ?_
  refine v_done ?_
  refine x_p rfl ?_
  refine v_done ?_
  refine x_kp [(0,.pointer (some ⟨bt0,0,none⟩)),(1,.int .i64 n1),(5,.int .i64 x3),(32,.int .i64 t0.At),(37,.int .i64 (t0.L.length : Int))] (by kernel_rfl) fun fr => ?_
  refine x_p rfl ?_
  replace h := h_p h; obtain ⟨hc5,h⟩ := h
  refine v_check hc5 ?_
  refine v_num (e' := w64 (Int.tdiv t0.At (t0.L.length : Int))) rfl ?_
  refine v_done ?_
  refine x_p rfl ?_
  refine v_done ?_
  refine x_k [(0,.pointer (some ⟨bt0,0,none⟩)),(1,.int .i64 n1),(5,.int .i64 x3),(6,.int .i64 (w64 (Int.tdiv t0.At (t0.L.length : Int))))] (by kernel_rfl) fun fr => ?_
  refine r_done ?_
  refine r_bind ?_
  refine r_ld 0 tt_ok (v := .int .i64 t0.At) ts_3 rfl (by kernel_rfl) ?_
  refine r_num (e' := w64 (t0.At + 1)) rfl ?_
  refine r_s 0 tt_ok (en_cellplanemake_Tape ({ t0 with At := w64 (t0.At + 1) }) g_t0) (fit1 ts_3 (by kernel_rfl)) rfl (by kernel_rfl) (by kernel_rfl) ?_
  refine r_done ?_
  refine r_bind ?_
  replace h := h_b h; obtain ⟨x7,hx6,h⟩ := h
  refine r_call (hc_27 (v0 := x3) (n1 := 1073741824) (h := hx6)) ?_
  rintro _ _ ⟨rfl,rfl⟩
  refine r_kp [(1,.int .i64 n1),(6,.int .i64 (w64 (Int.tdiv t0.At (t0.L.length : Int)))),(47,.int .i64 x7)] (by kernel_rfl) fun fr => ?_
  refine r_num (e' := w64 ((w64 (Int.tdiv t0.At (t0.L.length : Int))) * 7)) rfl ?_
  refine r_num (e' := w64 (x7 + (w64 ((w64 (Int.tdiv t0.At (t0.L.length : Int))) * 7)))) rfl ?_
  replace h := h_b h; obtain ⟨x9,hx8,h⟩ := h
  refine r_call (hc_27 (v0 := w64 (x7 + (w64 ((w64 (Int.tdiv t0.At (t0.L.length : Int))) * 7)))) (n1 := n1) (h := hx8)) ?_
  rintro _ _ ⟨rfl,rfl⟩
  refine r_done ?_
  repeat refine r_done ?_
  repeat refine r_done ?_
  obtain rfl := h_out h
  exact ret_of (RV.tmp RV.nil) (Le.refl _) ⟨rfl,rfl⟩
theorem hc_19 {ρ : Addr → Option Value} {L : List Ent}   (v0 : Int) (low1 : Int) (high2 : Int)  {r : Int} (h : cellplanemake_Between v0 low1 high2 = some r) : HC Try.prog 19 #[.int .i64 v0,.int .i64 low1,.int .i64 high2] ⟨ρ,L⟩ (fun v S' => v = .int .i64 r ∧ S' = ⟨ρ,L⟩) := by
 replace h := h_in h
 refine HC.intro (N := 15) (args := [_,_,_]) tt_ok Try.func19 rfl (by decide +kernel) rfl (Nat.le_of_ble_eq_true rfl) ?_
 refine r_bind ?_
 refine r_done ?_
 refine r_bind ?_
 refine r_num (e' := w64 (high2 - low1)) rfl ?_
 refine r_num (e' := w64 ((w64 (high2 - low1)) + 1)) rfl ?_
 replace h := h_b h; obtain ⟨x2,hx1,h⟩ := h
 refine r_call (hc_27 (v0 := v0) (n1 := w64 ((w64 (high2 - low1)) + 1)) (h := hx1)) ?_
 rintro _ _ ⟨rfl,rfl⟩
 refine r_num (e' := w64 (low1 + x2)) rfl ?_
 refine r_kp [(6,.int .i64 0),(14,.int .i64 (w64 (low1 + x2)))] (by kernel_rfl) fun fr => ?_
 refine r_done ?_
 repeat refine r_done ?_
 repeat refine r_done ?_
 obtain rfl := h_out h
 exact ret_of (RV.tmp RV.nil) (Le.refl _) ⟨rfl,rfl⟩
theorem hc_21 {ρ : Addr → Option Value} {L : List Ent} {bt0 : Nat} {g_t0 : gcellplanemake_Tape} {S_t0 : St} (hS_t0 : Le ⟨ρ,L⟩ S_t0) (t0 : cellplanemake_Tape) (low1 : Int) (high2 : Int) (h_t0 : Sl_cellplanemake_Tape S_t0 t0 g_t0) {r : (Int × Int)} (h : cellplanemake_Tape_Range t0 low1 high2 = some r) : HC Try.prog 21 #[.pointer (some ⟨bt0,0,none⟩),.int .i64 low1,.int .i64 high2] ⟨ρ,.obj bt0 (en_cellplanemake_Tape t0 g_t0) 73 :: L⟩ (fun v S' => v = .int .i64 r.1 ∧ S' = ⟨ρ,.obj bt0 (en_cellplanemake_Tape ({ t0 with At := r.2 }) g_t0) 73 :: L⟩) := by
 replace h := h_in h
 refine HC.intro (N := 15) (args := [_,_,_]) tt_ok Try.func21 rfl (by decide +kernel) rfl (Nat.le_of_ble_eq_true rfl) ?_
 refine r_bind ?_
 refine r_done ?_
 refine r_bind ?_
 refine r_num (e' := w64 (high2 - low1)) rfl ?_
 refine r_num (e' := w64 ((w64 (high2 - low1)) + 1)) rfl ?_
 replace h := h_b h; obtain ⟨⟨x2,x3⟩,hx1,h⟩ := h
 refine r_call (hc_20 (bt0 := bt0) (g_t0 := g_t0) (t0 := t0) (n1 := w64 ((w64 (high2 - low1)) + 1)) (hS_t0 := by exact (le_d 0).trans hS_t0) (h_t0 := by exact h_t0) (h := hx1)) ?_
 rintro _ _ ⟨rfl,rfl⟩
 refine r_num (e' := w64 (low1 + x2)) rfl ?_
 refine r_kp [(6,.int .i64 0),(14,.int .i64 (w64 (low1 + x2)))] (by kernel_rfl) fun fr => ?_
 refine r_done ?_
 repeat refine r_done ?_
 repeat refine r_done ?_
 obtain rfl := h_out h
 exact ret_of (RV.tmp RV.nil) (Le.refl _) ⟨rfl,rfl⟩
theorem hc_22 {ρ : Addr → Option Value} {L : List Ent} {bt0 : Nat} {g_t0 : gcellplanemake_Tape} {S_t0 : St} (hS_t0 : Le ⟨ρ,L⟩ S_t0) (t0 : cellplanemake_Tape) (n1 : Int) (h_t0 : Sl_cellplanemake_Tape S_t0 t0 g_t0) {r : (Bool × Int)} (h : cellplanemake_Tape_Yes t0 n1 = some r) : HC Try.prog 22 #[.pointer (some ⟨bt0,0,none⟩),.int .i64 n1] ⟨ρ,.obj bt0 (en_cellplanemake_Tape t0 g_t0) 73 :: L⟩ (fun v S' => v = .bool r.1 ∧ S' = ⟨ρ,.obj bt0 (en_cellplanemake_Tape ({ t0 with At := r.2 }) g_t0) 73 :: L⟩) := by
 replace h := h_in h
 refine HC.intro (N := 9) (args := [_,_]) tt_ok Try.func22 rfl (by decide +kernel) rfl (Nat.le_of_ble_eq_true rfl) ?_
 refine r_bind ?_
 refine r_done ?_
 refine r_bind ?_
 replace h := h_b h; obtain ⟨⟨x2,x3⟩,hx1,h⟩ := h
 refine r_call (hc_20 (bt0 := bt0) (g_t0 := g_t0) (t0 := t0) (n1 := n1) (hS_t0 := by exact (le_d 0).trans hS_t0) (h_t0 := by exact h_t0) (h := hx1)) ?_
 rintro _ _ ⟨rfl,rfl⟩
 refine r_done ?_
 repeat refine r_done ?_
 repeat refine r_done ?_
 obtain rfl := h_out h
 exact ret_of (RV.tmp RV.nil) (Le.refl _) ⟨rfl,rfl⟩
theorem hc_11 {ρ : Addr → Option Value} {L : List Ent} {A_l0 : Option Addr} {c_l0 : Nat} {S_l0 : St} (hS_l0 : Le ⟨ρ,L⟩ S_l0) (l0 : (List Int)) (h_l0 : Sl S_l0 A_l0 l0.length c_l0 (fl eI64.en l0)) {r : Config} (h : cellplanemake_Config l0 = some r) : HC Try.prog 11 #[.slice A_l0 l0.length c_l0] ⟨ρ,L⟩ (fun v S' => ∃ (Aq1_0 : Option Addr),∃ (cq1_0 : Nat),∃ (Aq1_1 : Option Addr),∃ (cq1_1 : Nat),∃ (Aq1_2 : Option Addr),∃ (cq1_2 : Nat),∃ (Aq1_3 : Option Addr),∃ (cq1_3 : Nat),∃ (Aq1_4 : Option Addr),∃ (cq1_4 : Nat),∃ (Aq1_5 : Option Addr),∃ (cq1_5 : Nat),v = .agg (en_Config r (⟨(Aq1_0,cq1_0),(Aq1_1,cq1_1),(Aq1_2,cq1_2),(Aq1_3,cq1_3),(Aq1_4,cq1_4),(Aq1_5,cq1_5)⟩)).toArray ∧ S' = ⟨ρ,.row Aq1_0 r.Zones.length cq1_0 58 1 (fl eZone.en r.Zones) :: .row Aq1_1 r.Cells.length cq1_1 60 2 (fl eCell.en r.Cells) :: .row Aq1_2 r.Tenants.length cq1_2 63 7 (fl eTenant.en r.Tenants) :: .row Aq1_3 r.Versions.length cq1_3 65 2 (fl eVersion.en r.Versions) :: .row Aq1_4 r.Replicas.length cq1_4 3 1 (fl eI64.en r.Replicas) :: .row Aq1_5 r.Observers.length cq1_5 3 1 (fl eI64.en r.Observers) :: L⟩) := by
 replace h := h_in h
 refine HC.intro (N := 182) (args := [_]) tt_ok Try.func11 rfl (by decide +kernel) rfl (Nat.le_of_ble_eq_true rfl) ?_
 refine r_bind ?_
 refine r_al tt_ok (en_Config (⟨0,[],[],[],[],[],[],0,0,0⟩ : Config) (⟨(none,0),(none,0),(none,0),(none,0),(none,0),(none,0)⟩)) ti_30 (by kernel_rfl) fun bq1 => ?_
 refine r_done ?_
 refine r_bind ?_
 refine r_call (hc_18 (A_l0 := A_l0) (c_l0 := c_l0) (l0 := l0) (hS_l0 := by exact (le_d 1).trans hS_l0) (h_l0 := by exact h_l0)) ?_
 rintro _ _ ⟨bq2,A3,c4,rfl,rfl,hs5⟩
 refine r_done ?_
 refine r_bind ?_
 replace h := h_b h; obtain ⟨⟨x7,x8⟩,hx6,h⟩ := h
 refine r_call (hc_20 (bt0 := bq2) (g_t0 := ⟨(A3,c4)⟩) (t0 := (cellplanemake_New l0)) (n1 := 5) (hS_t0 := by exact (le_d 1).trans hS_l0) (h_t0 := by exact hs5) (h := hx6)) ?_
 rintro _ _ ⟨rfl,rfl⟩
 refine r_num (e' := w64 (x7 + 1)) rfl ?_
 replace h := h_b h; obtain ⟨x10,hx9,h⟩ := h
 refine r_call (hc_19 (v0 := w64 (x7 + 1)) (low1 := 1) (high2 := 3) (h := hx9)) ?_
 rintro _ _ ⟨rfl,rfl⟩
 replace h := h_b h; obtain ⟨⟨x12,x13⟩,hx11,h⟩ := h
 refine r_call (hc_21 (bt0 := bq2) (g_t0 := ⟨(A3,c4)⟩) (t0 := { (cellplanemake_New l0) with At := x8 }) (low1 := 1) (high2 := 3) (hS_t0 := by exact (le_d 1).trans hS_l0) (h_t0 := by exact hs5) (h := hx11)) ?_
 rintro _ _ ⟨rfl,rfl⟩
 refine r_kp [(2,.pointer (some ⟨bq1,0,none⟩)),(3,.pointer (some ⟨bq2,0,none⟩)),(19,.int .i64 x10),(21,.int .i64 x12)] (by kernel_rfl) fun fr => ?_
 replace h := h_b h; obtain ⟨⟨x15,x16⟩,hx14,h⟩ := h
 refine r_call (hc_21 (bt0 := bq2) (g_t0 := ⟨(A3,c4)⟩) (t0 := { (cellplanemake_New l0) with At := x13 }) (low1 := 2) (high2 := 12) (hS_t0 := by exact (le_d 1).trans hS_l0) (h_t0 := by exact hs5) (h := hx14)) ?_
 rintro _ _ ⟨rfl,rfl⟩
 replace h := h_b h; obtain ⟨⟨x18,x19⟩,hx17,h⟩ := h
 refine r_call (hc_20 (bt0 := bq2) (g_t0 := ⟨(A3,c4)⟩) (t0 := { (cellplanemake_New l0) with At := x16 }) (n1 := 9) (hS_t0 := by exact (le_d 1).trans hS_l0) (h_t0 := by exact hs5) (h := hx17)) ?_
 rintro _ _ ⟨rfl,rfl⟩
 refine r_bd tt_ok (en_Config (⟨x10,[],[],[],[],[],[],x12,x15,x18⟩ : Config) (⟨(none,0),(none,0),(none,0),(none,0),(none,0),(none,0)⟩)) ti_30 tp_30 (by kernel_rfl) ?_
 refine r_al tt_ok (en_Config (⟨0,[],[],[],[],[],[],0,0,0⟩ : Config) (⟨(none,0),(none,0),(none,0),(none,0),(none,0),(none,0)⟩)) ti_30 (by kernel_rfl) fun bq20 => ?_
 refine r_s 0 tt_ok (en_Config (⟨x10,[],[],[],[],[],[],x12,x15,x18⟩ : Config) (⟨(none,0),(none,0),(none,0),(none,0),(none,0),(none,0)⟩)) (fitn ta_30 (by kernel_rfl)) rfl (by kernel_rfl) (by kernel_rfl) ?_
 refine r_done ?_
 refine r_bind ?_
 replace h := h_j h; obtain ⟨K100,h,hK101⟩ := h
 refine r_meet (fun fr S => ∃ (at95 : Int),∃ (xs96 : (List Zone)),∃ (A97 : Option Addr),∃ (c98 : Nat),∃ fr0,K100 (at95,xs96) = some r ∧ fr = updL [(2,.pointer (some ⟨bq1,0,none⟩)),(3,.pointer (some ⟨bq2,0,none⟩)),(4,.pointer (some ⟨bq20,0,none⟩))] fr0 ∧ S = ⟨ρ,.row A97 xs96.length c98 58 1 (fl eZone.en xs96) :: .obj bq20 (en_Config (⟨x10,xs96,[],[],[],[],[],x12,x15,x18⟩ : Config) (⟨(A97,c98),(none,0),(none,0),(none,0),(none,0),(none,0)⟩)) 30 :: .obj bq2 (en_cellplanemake_Tape ({ (cellplanemake_New l0) with At := at95 }) (⟨(A3,c4)⟩)) 73 :: .obj bq1 (en_Config (⟨0,[],[],[],[],[],[],0,0,0⟩ : Config) (⟨(none,0),(none,0),(none,0),(none,0),(none,0),(none,0)⟩)) 30 :: L⟩) ?_ ?_
 ·refine r_bind ?_
  refine r_done ?_
  refine r_bind ?_
  replace h := h_l h; obtain ⟨K91,n92,h,hK93⟩ := h
  refine r_le (le_nil 58 1) ?_
  refine r_loop (fun n fr S => ∃ (x68 : Int),∃ (at69 : Int),∃ (xs70 : (List Zone)),∃ (A71 : Option Addr),∃ (c72 : Nat),∃ fr0,(runN (cellplanemake_Config.b2 x10 l0) n (x68,at69,xs70)).bind K91 = some r ∧ fr = updL [(2,.pointer (some ⟨bq1,0,none⟩)),(3,.pointer (some ⟨bq2,0,none⟩)),(4,.pointer (some ⟨bq20,0,none⟩)),(5,.int .i64 x68)] fr0 ∧ S = ⟨ρ,.row A71 xs70.length c72 58 1 (fl eZone.en xs70) :: .obj bq20 (en_Config (⟨x10,xs70,[],[],[],[],[],x12,x15,x18⟩ : Config) (⟨(A71,c72),(none,0),(none,0),(none,0),(none,0),(none,0)⟩)) 30 :: .obj bq2 (en_cellplanemake_Tape ({ (cellplanemake_New l0) with At := at69 }) (⟨(A3,c4)⟩)) 73 :: .obj bq1 (en_Config (⟨0,[],[],[],[],[],[],0,0,0⟩ : Config) (⟨(none,0),(none,0),(none,0),(none,0),(none,0),(none,0)⟩)) 30 :: L⟩) n92 ⟨0,x19,[],none,0,_,h,fr_eq _ (by kernel_rfl),(by kernel_rfl)⟩ ?_
  clear h
  rintro n92 fr S ⟨x68,at69,xs70,A71,c72,fr,h,rfl,rfl⟩
  replace h := h_r h; obtain ⟨m94,hm94,h⟩ := h
  refine r_bind ?_
  refine r_bind ?_
  replace h := h_j h; obtain ⟨K81,h,hK82⟩ := h
  refine r_meet (fun fr S => ∃ (x79 : Bool),∃ (at80 : Int),∃ fr0,K81 (x79,at80) = some r ∧ fr = updL [(2,.pointer (some ⟨bq1,0,none⟩)),(3,.pointer (some ⟨bq2,0,none⟩)),(4,.pointer (some ⟨bq20,0,none⟩)),(5,.int .i64 x68),(38,.bool x79)] fr0 ∧ S = ⟨ρ,.row A71 xs70.length c72 58 1 (fl eZone.en xs70) :: .obj bq20 (en_Config (⟨x10,xs70,[],[],[],[],[],x12,x15,x18⟩ : Config) (⟨(A71,c72),(none,0),(none,0),(none,0),(none,0),(none,0)⟩)) 30 :: .obj bq2 (en_cellplanemake_Tape ({ (cellplanemake_New l0) with At := at80 }) (⟨(A3,c4)⟩)) 73 :: .obj bq1 (en_Config (⟨0,[],[],[],[],[],[],0,0,0⟩ : Config) (⟨(none,0),(none,0),(none,0),(none,0),(none,0),(none,0)⟩)) 30 :: L⟩) ?_ ?_
  ·refine r_ld 1 tt_ok (v := .int .i64 x10) ts_3 rfl (by kernel_rfl) ?_
   refine r_ite (fun (hb74 : (decide (x68 < x10)) = true) => ?_) (fun (hb74 : (decide (x68 < x10)) = false) => ?_)
   ·replace h := h_t h hb74
    clear hb74
    refine r_kp [(2,.pointer (some ⟨bq1,0,none⟩)),(3,.pointer (some ⟨bq2,0,none⟩)),(4,.pointer (some ⟨bq20,0,none⟩)),(5,.int .i64 x68),(31,.bool true),(32,undef)] (by kernel_rfl) fun fr => ?_
    refine r_T rfl ?_
    refine r_T rfl ?_
    refine r_T rfl ?_
    refine r_T rfl ?_
    exact r_done ⟨true,at69,_,h,fr_eq _ (by kernel_rfl),(by kernel_rfl)⟩
   ·replace h := h_f h hb74
    clear hb74
    refine r_kp [(2,.pointer (some ⟨bq1,0,none⟩)),(3,.pointer (some ⟨bq2,0,none⟩)),(4,.pointer (some ⟨bq20,0,none⟩)),(5,.int .i64 x68),(31,.bool false),(32,.pointer (some ⟨bq2,0,none⟩))] (by kernel_rfl) fun fr => ?_
    refine r_F rfl ?_
    refine r_le (le_mv 2) ?_
    replace h := h_b h; obtain ⟨⟨x76,x77⟩,hx75,h⟩ := h
    refine r_call (hc_22 (bt0 := bq2) (g_t0 := ⟨(A3,c4)⟩) (t0 := { (cellplanemake_New l0) with At := at69 }) (n1 := 3) (hS_t0 := by exact (le_d 3).trans hS_l0) (h_t0 := by exact hs5) (h := hx75)) ?_
    rintro _ _ ⟨rfl,rfl⟩
    refine r_F rfl ?_
    refine r_ite (fun (hb78 : x76 = true) => ?_) (fun (hb78 : x76 = false) => ?_)
    ·replace h := h_t h hb78
     clear hb78
     refine r_T rfl ?_
     refine r_F rfl ?_
     refine r_le ((le_mv 3).trans ((le_mv 1).trans ((le_mv 3).trans (le_mv 3)))) ?_
     exact r_done ⟨decide (x68 < 6),x77,_,h,fr_eq _ (by kernel_rfl),(by kernel_rfl)⟩
    ·replace h := h_f h hb78
     clear hb78
     refine r_F rfl ?_
     refine r_F rfl ?_
     refine r_F rfl ?_
     refine r_le ((le_mv 3).trans ((le_mv 1).trans ((le_mv 3).trans (le_mv 3)))) ?_
     exact r_done ⟨false,x77,_,h,fr_eq _ (by kernel_rfl),(by kernel_rfl)⟩
  clear h
  rintro fr S ⟨x79,at80,fr,h,rfl,rfl⟩
  replace h := hK82 _ h
  refine r_done ?_
  refine r_ite (fun hb83 => ?_) (fun hb83 => ?_)
  ·replace h := h_t h hb83
   clear hb83
   refine r_done ?_
   refine r_bind ?_
   refine r_bind ?_
   refine r_mix tt_ok hm_ok _ _ [10] (.pure 0 (.va 1 (.pure 2 (.pure 3 (.va 4 (.pure 5 (.pure 6 (.eff 7 (.eff 8 (.pure 9 (.eff 10 .nil))))))))))) (le_w [false,true,true,true]) (le_w [false,false,true,true]) ?_ ?_
   ·decide +kernel
   refine x_p rfl ?_
   refine v_done ?_
   refine x_va rfl ?_
   refine v_ld 0 tt_ok (v := .slice A71 xs70.length c72) ts_25 rfl (by kernel_rfl) ?_
   refine v_done ?_
   refine x_p rfl ?_
   refine v_done ?_
   refine x_p rfl ?_
   refine v_done ?_
   refine x_va rfl ?_
   refine v_ld 0 tt_ok (v := .int .i64 x10) ts_3 rfl (by kernel_rfl) ?_
   refine v_done ?_
   refine x_p rfl ?_
   replace h := h_p h; obtain ⟨hc84,h⟩ := h
   refine v_check hc84 ?_
   refine v_num (e' := Int.tmod x68 x10) rfl ?_
   refine v_done ?_
   refine x_p rfl ?_
   refine v_bd tt_ok (en_Zone (⟨Int.tmod x68 x10⟩ : Zone)) ti_58 tp_58 (by kernel_rfl) ?_
   refine v_done ?_
   refine x_e rfl ?_
   refine r_bs tt_ok (fl eZone.en [(⟨Int.tmod x68 x10⟩ : Zone)]) te_25 ti_58 (by kernel_rfl) (by kernel_rfl) (by kernel_rfl) (by kernel_rfl) fun bq85 => ?_
   refine r_done ⟨rfl,k_a (le_w [false,false,true,true,true]) (le_w [false,false,false,true,true]),?_⟩
   refine x_e rfl ?_
   replace h := h_b h; obtain ⟨xs86,ha87,h⟩ := h
   refine r_app 1 (E := eZone) (xs := xs70) (ys := [(⟨Int.tmod x68 x10⟩ : Zone)]) tt_ok ha87 (rd_row 0 rfl) rfl te_25 ti_58 rfl (by kernel_rfl) rfl (fun A88 c89 => ?_)
   refine r_done ⟨rfl,k_a (le_w [false,false,true,true,true]) (le_w [false,false,false,true,true]),?_⟩
   refine x_kp [(2,.pointer (some ⟨bq1,0,none⟩)),(3,.pointer (some ⟨bq2,0,none⟩)),(4,.pointer (some ⟨bq20,0,none⟩)),(5,.int .i64 x68),(49,.slice A88 xs86.length c89)] (by kernel_rfl) fun fr => ?_
   refine x_p rfl ?_
   refine v_done ?_
   refine x_e rfl ?_
   refine r_s 2 tt_ok (en_Config (⟨x10,xs86,[],[],[],[],[],x12,x15,x18⟩ : Config) (⟨(A88,c89),(none,0),(none,0),(none,0),(none,0),(none,0)⟩)) (fit1 ts_25 (by kernel_rfl)) rfl (by kernel_rfl) (by kernel_rfl) ?_
   refine r_done ⟨rfl,k_b rfl (le_w [false,false,false,true,true]),?_⟩
   refine x_k [(2,.pointer (some ⟨bq1,0,none⟩)),(3,.pointer (some ⟨bq2,0,none⟩)),(4,.pointer (some ⟨bq20,0,none⟩)),(5,.int .i64 x68)] (by kernel_rfl) fun fr => ?_
   refine r_done ?_
   refine r_done ?_
   refine r_num (e' := w64 (x68 + 1)) rfl ?_
   refine r_le (le_w [false,true,true,true,true]) ?_
   exact r_done ⟨m94,lt_s hm94,w64 (x68 + 1),at80,xs86,A88,c89,_,h,fr_eq _ (by kernel_rfl),(by kernel_rfl)⟩
  ·replace h := h_f h hb83
   clear hb83
   refine r_done ?_
   refine r_done ?_
   replace h := h_m h
   subst hK93
   exact r_done ⟨at80,xs70,A71,c72,_,h,fr_eq _ (by kernel_rfl),(by kernel_rfl)⟩
 clear h
 rintro fr S ⟨at95,xs96,A97,c98,fr,h,rfl,rfl⟩
 replace h := hK101 _ h
 refine r_done ?_
 refine r_bind ?_
 replace h := h_j h; obtain ⟨K190,h,hK191⟩ := h
 refine r_meet (fun fr S => ∃ (at185 : Int),∃ (xs186 : (List Cell)),∃ (A187 : Option Addr),∃ (c188 : Nat),∃ fr0,K190 (at185,xs186) = some r ∧ fr = updL [(2,.pointer (some ⟨bq1,0,none⟩)),(3,.pointer (some ⟨bq2,0,none⟩)),(4,.pointer (some ⟨bq20,0,none⟩))] fr0 ∧ S = ⟨ρ,.row A187 xs186.length c188 60 2 (fl eCell.en xs186) :: .row A97 xs96.length c98 58 1 (fl eZone.en xs96) :: .obj bq20 (en_Config (⟨x10,xs96,xs186,[],[],[],[],x12,x15,x18⟩ : Config) (⟨(A97,c98),(A187,c188),(none,0),(none,0),(none,0),(none,0)⟩)) 30 :: .obj bq2 (en_cellplanemake_Tape ({ (cellplanemake_New l0) with At := at185 }) (⟨(A3,c4)⟩)) 73 :: .obj bq1 (en_Config (⟨0,[],[],[],[],[],[],0,0,0⟩ : Config) (⟨(none,0),(none,0),(none,0),(none,0),(none,0),(none,0)⟩)) 30 :: L⟩) ?_ ?_
 ·refine r_bind ?_
  refine r_done ?_
  refine r_bind ?_
  replace h := h_l h; obtain ⟨K181,n182,h,hK183⟩ := h
  refine r_le (le_nil 60 2) ?_
  refine r_loop (fun n fr S => ∃ (x155 : Int),∃ (at156 : Int),∃ (xs157 : (List Cell)),∃ (A158 : Option Addr),∃ (c159 : Nat),∃ fr0,(runN (cellplanemake_Config.b5 xs96 l0) n (x155,at156,xs157)).bind K181 = some r ∧ fr = updL [(2,.pointer (some ⟨bq1,0,none⟩)),(3,.pointer (some ⟨bq2,0,none⟩)),(4,.pointer (some ⟨bq20,0,none⟩)),(6,.int .i64 x155)] fr0 ∧ S = ⟨ρ,.row A158 xs157.length c159 60 2 (fl eCell.en xs157) :: .row A97 xs96.length c98 58 1 (fl eZone.en xs96) :: .obj bq20 (en_Config (⟨x10,xs96,xs157,[],[],[],[],x12,x15,x18⟩ : Config) (⟨(A97,c98),(A158,c159),(none,0),(none,0),(none,0),(none,0)⟩)) 30 :: .obj bq2 (en_cellplanemake_Tape ({ (cellplanemake_New l0) with At := at156 }) (⟨(A3,c4)⟩)) 73 :: .obj bq1 (en_Config (⟨0,[],[],[],[],[],[],0,0,0⟩ : Config) (⟨(none,0),(none,0),(none,0),(none,0),(none,0),(none,0)⟩)) 30 :: L⟩) n182 ⟨0,at95,[],none,0,_,h,fr_eq _ (by kernel_rfl),(by kernel_rfl)⟩ ?_
  clear h
  rintro n182 fr S ⟨x155,at156,xs157,A158,c159,fr,h,rfl,rfl⟩
  replace h := h_r h; obtain ⟨m184,hm184,h⟩ := h
  refine r_bind ?_
  refine r_bind ?_
  replace h := h_j h; obtain ⟨K168,h,hK169⟩ := h
  refine r_meet (fun fr S => ∃ (x166 : Bool),∃ (at167 : Int),∃ fr0,K168 (x166,at167) = some r ∧ fr = updL [(2,.pointer (some ⟨bq1,0,none⟩)),(3,.pointer (some ⟨bq2,0,none⟩)),(4,.pointer (some ⟨bq20,0,none⟩)),(6,.int .i64 x155),(63,.bool x166)] fr0 ∧ S = ⟨ρ,.row A158 xs157.length c159 60 2 (fl eCell.en xs157) :: .row A97 xs96.length c98 58 1 (fl eZone.en xs96) :: .obj bq20 (en_Config (⟨x10,xs96,xs157,[],[],[],[],x12,x15,x18⟩ : Config) (⟨(A97,c98),(A158,c159),(none,0),(none,0),(none,0),(none,0)⟩)) 30 :: .obj bq2 (en_cellplanemake_Tape ({ (cellplanemake_New l0) with At := at167 }) (⟨(A3,c4)⟩)) 73 :: .obj bq1 (en_Config (⟨0,[],[],[],[],[],[],0,0,0⟩ : Config) (⟨(none,0),(none,0),(none,0),(none,0),(none,0),(none,0)⟩)) 30 :: L⟩) ?_ ?_
  ·refine r_ld 2 tt_ok (v := .slice A97 xs96.length c98) ts_25 rfl (by kernel_rfl) ?_
   refine r_ite (fun (hb161 : (decide (x155 < (xs96.length : Int))) = true) => ?_) (fun (hb161 : (decide (x155 < (xs96.length : Int))) = false) => ?_)
   ·replace h := h_t h hb161
    clear hb161
    refine r_kp [(2,.pointer (some ⟨bq1,0,none⟩)),(3,.pointer (some ⟨bq2,0,none⟩)),(4,.pointer (some ⟨bq20,0,none⟩)),(6,.int .i64 x155),(56,.bool true),(57,undef)] (by kernel_rfl) fun fr => ?_
    refine r_T rfl ?_
    refine r_T rfl ?_
    refine r_T rfl ?_
    refine r_T rfl ?_
    exact r_done ⟨true,at156,_,h,fr_eq _ (by kernel_rfl),(by kernel_rfl)⟩
   ·replace h := h_f h hb161
    clear hb161
    refine r_kp [(2,.pointer (some ⟨bq1,0,none⟩)),(3,.pointer (some ⟨bq2,0,none⟩)),(4,.pointer (some ⟨bq20,0,none⟩)),(6,.int .i64 x155),(56,.bool false),(57,.pointer (some ⟨bq2,0,none⟩))] (by kernel_rfl) fun fr => ?_
    refine r_F rfl ?_
    refine r_le (le_mv 3) ?_
    replace h := h_b h; obtain ⟨⟨x163,x164⟩,hx162,h⟩ := h
    refine r_call (hc_22 (bt0 := bq2) (g_t0 := ⟨(A3,c4)⟩) (t0 := { (cellplanemake_New l0) with At := at156 }) (n1 := 2) (hS_t0 := by exact (le_d 4).trans hS_l0) (h_t0 := by exact hs5) (h := hx162)) ?_
    rintro _ _ ⟨rfl,rfl⟩
    refine r_F rfl ?_
    refine r_ite (fun (hb165 : x163 = true) => ?_) (fun (hb165 : x163 = false) => ?_)
    ·replace h := h_t h hb165
     clear hb165
     refine r_T rfl ?_
     refine r_F rfl ?_
     refine r_le ((le_mv 4).trans ((le_mv 1).trans ((le_mv 4).trans ((le_mv 4).trans (le_mv 4))))) ?_
     exact r_done ⟨decide (x155 < 7),x164,_,h,fr_eq _ (by kernel_rfl),(by kernel_rfl)⟩
    ·replace h := h_f h hb165
     clear hb165
     refine r_F rfl ?_
     refine r_F rfl ?_
     refine r_F rfl ?_
     refine r_le ((le_mv 4).trans ((le_mv 1).trans ((le_mv 4).trans ((le_mv 4).trans (le_mv 4))))) ?_
     exact r_done ⟨false,x164,_,h,fr_eq _ (by kernel_rfl),(by kernel_rfl)⟩
  clear h
  rintro fr S ⟨x166,at167,fr,h,rfl,rfl⟩
  replace h := hK169 _ h
  refine r_done ?_
  refine r_ite (fun hb170 => ?_) (fun hb170 => ?_)
  ·replace h := h_t h hb170
   clear hb170
   refine r_done ?_
   refine r_bind ?_
   refine r_bind ?_
   refine r_mix tt_ok hm_ok _ _ [14] (.pure 0 (.va 1 (.pure 2 (.pure 3 (.va 4 (.pure 5 (.pure 6 (.pure 7 (.eff 8 (.pure 9 (.pure 10 (.eff 11 (.eff 12 (.pure 13 (.eff 14 .nil))))))))))))))) (le_w [false,true,true,false,true]) (le_w [false,true,false,false,true]) ?_ ?_
   ·decide +kernel
   refine x_p rfl ?_
   refine v_done ?_
   refine x_va rfl ?_
   refine v_ld 1 tt_ok (v := .slice A158 xs157.length c159) ts_26 rfl (by kernel_rfl) ?_
   refine v_done ?_
   refine x_p rfl ?_
   refine v_done ?_
   refine x_p rfl ?_
   refine v_done ?_
   refine x_va rfl ?_
   refine v_ld 1 tt_ok (v := .slice A97 xs96.length c98) ts_25 rfl (by kernel_rfl) ?_
   refine v_done ?_
   refine x_p rfl ?_
   refine v_done ?_
   refine x_p rfl ?_
   replace h := h_p h; obtain ⟨hc171,h⟩ := h
   refine v_check hc171 ?_
   refine v_num (e' := Int.tmod x155 (xs96.length : Int)) rfl ?_
   refine v_done ?_
   refine x_p rfl ?_
   refine v_done ?_
   refine x_e rfl ?_
   refine r_le (le_mv 3) ?_
   replace h := h_b h; obtain ⟨⟨x173,x174⟩,hx172,h⟩ := h
   refine r_call (hc_21 (bt0 := bq2) (g_t0 := ⟨(A3,c4)⟩) (t0 := { (cellplanemake_New l0) with At := at167 }) (low1 := 1) (high2 := 4) (hS_t0 := by exact (le_d 4).trans hS_l0) (h_t0 := by exact hs5) (h := hx172)) ?_
   rintro _ _ ⟨rfl,rfl⟩
   refine r_done ⟨rfl,k_a (le_w [false,false,true,true,true]) (le_w [false,false,true,false,true]),?_⟩
   refine x_kp [(2,.pointer (some ⟨bq1,0,none⟩)),(3,.pointer (some ⟨bq2,0,none⟩)),(4,.pointer (some ⟨bq20,0,none⟩)),(6,.int .i64 x155),(67,.slice A158 xs157.length c159),(72,.int .i64 (Int.tmod x155 (xs96.length : Int))),(74,.int .i64 x173)] (by kernel_rfl) fun fr => ?_
   refine x_p rfl ?_
   refine v_num (e' := w64 (x173 * 10)) rfl ?_
   refine v_done ?_
   refine x_p rfl ?_
   refine v_bd tt_ok (en_Cell (⟨Int.tmod x155 (xs96.length : Int),w64 (x173 * 10)⟩ : Cell)) ti_60 tp_60 (by kernel_rfl) ?_
   refine v_done ?_
   refine x_e rfl ?_
   refine r_bs tt_ok (fl eCell.en [(⟨Int.tmod x155 (xs96.length : Int),w64 (x173 * 10)⟩ : Cell)]) te_26 ti_60 (by kernel_rfl) (by kernel_rfl) (by kernel_rfl) (by kernel_rfl) fun bq175 => ?_
   refine r_done ⟨rfl,k_a (le_w [false,false,false,true,true,true]) (le_w [false,false,false,true,false,true]),?_⟩
   refine x_e rfl ?_
   replace h := h_b h; obtain ⟨xs176,ha177,h⟩ := h
   refine r_app 2 (E := eCell) (xs := xs157) (ys := [(⟨Int.tmod x155 (xs96.length : Int),w64 (x173 * 10)⟩ : Cell)]) tt_ok ha177 (rd_row 0 rfl) rfl te_26 ti_60 rfl (by kernel_rfl) rfl (fun A178 c179 => ?_)
   refine r_done ⟨rfl,k_a (le_w [false,false,false,true,true,true]) (le_w [false,false,false,true,false,true]),?_⟩
   refine x_p rfl ?_
   refine v_done ?_
   refine x_e rfl ?_
   refine r_s 4 tt_ok (en_Config (⟨x10,xs96,xs176,[],[],[],[],x12,x15,x18⟩ : Config) (⟨(A97,c98),(A178,c179),(none,0),(none,0),(none,0),(none,0)⟩)) (fit1 ts_26 (by kernel_rfl)) rfl (by kernel_rfl) (by kernel_rfl) ?_
   refine r_done ⟨rfl,k_b rfl (le_w [false,false,false,true,false,true]),?_⟩
   refine x_k [(2,.pointer (some ⟨bq1,0,none⟩)),(3,.pointer (some ⟨bq2,0,none⟩)),(4,.pointer (some ⟨bq20,0,none⟩)),(6,.int .i64 x155)] (by kernel_rfl) fun fr => ?_
   refine r_done ?_
   refine r_done ?_
   refine r_num (e' := w64 (x155 + 1)) rfl ?_
   refine r_le ((le_mv 5).trans ((le_mv 2).trans ((le_mv 5).trans ((le_mv 5).trans ((le_mv 5).trans (le_w [true,true,true,true,true,false])))))) ?_
   exact r_done ⟨m184,lt_s hm184,w64 (x155 + 1),x174,xs176,A178,c179,_,h,fr_eq _ (by kernel_rfl),(by kernel_rfl)⟩
  ·replace h := h_f h hb170
   clear hb170
   refine r_done ?_
   refine r_done ?_
   replace h := h_m h
   subst hK183
   exact r_done ⟨at167,xs157,A158,c159,_,h,fr_eq _ (by kernel_rfl),(by kernel_rfl)⟩
 clear h
 rintro fr S ⟨at185,xs186,A187,c188,fr,h,rfl,rfl⟩
 replace h := hK191 _ h
 refine r_done ?_
 refine r_bind ?_
 replace h := h_j h; obtain ⟨K499,h,hK500⟩ := h
 refine r_meet (fun fr S => ∃ (at494 : Int),∃ (xs495 : (List Tenant)),∃ (A496 : Option Addr),∃ (c497 : Nat),∃ fr0,K499 (at494,xs495) = some r ∧ fr = updL [(2,.pointer (some ⟨bq1,0,none⟩)),(3,.pointer (some ⟨bq2,0,none⟩)),(4,.pointer (some ⟨bq20,0,none⟩))] fr0 ∧ S = ⟨ρ,.row A496 xs495.length c497 63 7 (fl eTenant.en xs495) :: .obj bq2 (en_cellplanemake_Tape ({ (cellplanemake_New l0) with At := at494 }) (⟨(A3,c4)⟩)) 73 :: .row A187 xs186.length c188 60 2 (fl eCell.en xs186) :: .row A97 xs96.length c98 58 1 (fl eZone.en xs96) :: .obj bq20 (en_Config (⟨x10,xs96,xs186,xs495,[],[],[],x12,x15,x18⟩ : Config) (⟨(A97,c98),(A187,c188),(A496,c497),(none,0),(none,0),(none,0)⟩)) 30 :: .obj bq1 (en_Config (⟨0,[],[],[],[],[],[],0,0,0⟩ : Config) (⟨(none,0),(none,0),(none,0),(none,0),(none,0),(none,0)⟩)) 30 :: L⟩) ?_ ?_
 ·refine r_bind ?_
  refine r_le (le_mv 3) ?_
  replace h := h_b h; obtain ⟨⟨x193,x194⟩,hx192,h⟩ := h
  refine r_call (hc_20 (bt0 := bq2) (g_t0 := ⟨(A3,c4)⟩) (t0 := { (cellplanemake_New l0) with At := at185 }) (n1 := 6) (hS_t0 := by exact (le_d 4).trans hS_l0) (h_t0 := by exact hs5) (h := hx192)) ?_
  rintro _ _ ⟨rfl,rfl⟩
  refine r_done ?_
  refine r_bind ?_
  replace h := h_l h; obtain ⟨K490,n491,h,hK492⟩ := h
  refine r_le (le_nil 63 7) ?_
  refine r_loop (fun n fr S => ∃ (x392 : Int),∃ (at393 : Int),∃ (xs394 : (List Tenant)),∃ (A395 : Option Addr),∃ (c396 : Nat),∃ fr0,(runN (cellplanemake_Config.b8 l0 x10) n (x392,at393,xs394)).bind K490 = some r ∧ fr = updL [(2,.pointer (some ⟨bq1,0,none⟩)),(3,.pointer (some ⟨bq2,0,none⟩)),(4,.pointer (some ⟨bq20,0,none⟩)),(7,.int .i64 x392)] fr0 ∧ S = ⟨ρ,.row A395 xs394.length c396 63 7 (fl eTenant.en xs394) :: .obj bq2 (en_cellplanemake_Tape ({ (cellplanemake_New l0) with At := at393 }) (⟨(A3,c4)⟩)) 73 :: .row A187 xs186.length c188 60 2 (fl eCell.en xs186) :: .row A97 xs96.length c98 58 1 (fl eZone.en xs96) :: .obj bq20 (en_Config (⟨x10,xs96,xs186,xs394,[],[],[],x12,x15,x18⟩ : Config) (⟨(A97,c98),(A187,c188),(A395,c396),(none,0),(none,0),(none,0)⟩)) 30 :: .obj bq1 (en_Config (⟨0,[],[],[],[],[],[],0,0,0⟩ : Config) (⟨(none,0),(none,0),(none,0),(none,0),(none,0),(none,0)⟩)) 30 :: L⟩) n491 ⟨x193,x194,[],none,0,_,h,fr_eq _ (by kernel_rfl),(by kernel_rfl)⟩ ?_
  clear h
  rintro n491 fr S ⟨x392,at393,xs394,A395,c396,fr,h,rfl,rfl⟩
  replace h := h_r h; obtain ⟨m493,hm493,h⟩ := h
  refine r_bind ?_
  refine r_bind ?_
  refine r_done ?_
  refine r_ite (fun hb398 => ?_) (fun hb398 => ?_)
  ·replace h := h_t h hb398
   clear hb398
   refine r_done ?_
   refine r_bind ?_
   refine r_bind ?_
   refine r_bind ?_
   refine r_le (le_mv 1) ?_
   replace h := h_b h; obtain ⟨⟨x400,x401⟩,hx399,h⟩ := h
   refine r_call (hc_21 (bt0 := bq2) (g_t0 := ⟨(A3,c4)⟩) (t0 := { (cellplanemake_New l0) with At := at393 }) (low1 := 1) (high2 := 12) (hS_t0 := by exact (le_d 5).trans hS_l0) (h_t0 := by exact hs5) (h := hx399)) ?_
   rintro _ _ ⟨rfl,rfl⟩
   refine r_done ?_
   refine r_bind ?_
   replace h := h_j h; obtain ⟨K471,h,hK472⟩ := h
   refine r_meet (fun fr S => ∃ (y469 : Tenant),∃ (at470 : Int),∃ (bq468 : Nat),∃ fr0,K471 (y469,at470) = some r ∧ fr = updL [(2,.pointer (some ⟨bq1,0,none⟩)),(3,.pointer (some ⟨bq2,0,none⟩)),(4,.pointer (some ⟨bq20,0,none⟩)),(7,.int .i64 x392),(9,.pointer (some ⟨bq468,0,none⟩))] fr0 ∧ S = ⟨ρ,.obj bq468 (en_Tenant y469) 63 :: .obj bq2 (en_cellplanemake_Tape ({ (cellplanemake_New l0) with At := at470 }) (⟨(A3,c4)⟩)) 73 :: .row A395 xs394.length c396 63 7 (fl eTenant.en xs394) :: .row A187 xs186.length c188 60 2 (fl eCell.en xs186) :: .row A97 xs96.length c98 58 1 (fl eZone.en xs96) :: .obj bq20 (en_Config (⟨x10,xs96,xs186,xs394,[],[],[],x12,x15,x18⟩ : Config) (⟨(A97,c98),(A187,c188),(A395,c396),(none,0),(none,0),(none,0)⟩)) 30 :: .obj bq1 (en_Config (⟨0,[],[],[],[],[],[],0,0,0⟩ : Config) (⟨(none,0),(none,0),(none,0),(none,0),(none,0),(none,0)⟩)) 30 :: L⟩) ?_ ?_
   ·refine r_mix tt_ok hm_ok _ _ [] (.pure 0 (.pure 1 (.pure 2 (.pure 3 (.pure 5 (.pure 7 (.pure 9 (.vb 10 (.pure 11 (.pure 12 (.pure 13 (.pure 14 (.pure 16 (.two 4 19 (.two 6 19 (.two 8 19 (.two 15 19 (.two 17 19 (.pure 18 (.eff 19 (.eff 20 .nil))) (.eff 17 (.pure 18 (.eff 20 .nil)))) (.eff 15 (.eff 17 (.pure 18 (.eff 20 .nil))))) (.eff 8 (.eff 15 (.eff 17 (.pure 18 (.eff 20 .nil)))))) (.eff 6 (.eff 8 (.eff 15 (.eff 17 (.pure 18 (.eff 20 .nil))))))) (.eff 4 (.eff 6 (.eff 8 (.eff 15 (.eff 17 (.pure 18 (.eff 20 .nil))))))))))))))))))))) (le_w [false,true,true,true,true,true]) (le_w [false,true,true,true,true,true]) ?_ ?_
    ·decide +kernel
    refine x_p rfl ?_
    refine v_done ?_
    refine x_p rfl ?_
    refine v_done ?_
    refine x_p rfl ?_
    refine v_done ?_
    refine x_p rfl ?_
    refine v_num (e' := w64 (x400 + 1)) rfl ?_
    refine v_done ?_
    refine x_p rfl ?_
    refine v_done ?_
    refine x_p rfl ?_
    refine v_done ?_
    refine x_p rfl ?_
    refine v_done ?_
    refine x_vb rfl ?_
    refine v_ld 3 tt_ok (v := .int .i64 x10) ts_3 rfl (by kernel_rfl) ?_
    refine v_done ?_
    refine x_p rfl ?_
    refine v_num (e' := IntKind.u64.wrap (x10)) rfl ?_
    refine v_done ?_
    refine x_kp [(2,.pointer (some ⟨bq1,0,none⟩)),(3,.pointer (some ⟨bq2,0,none⟩)),(4,.pointer (some ⟨bq20,0,none⟩)),(7,.int .i64 x392),(88,.int .i64 x400),(89,.pointer (some ⟨bq2,0,none⟩)),(91,.int .i64 (w64 (x400 + 1))),(93,.pointer (some ⟨bq2,0,none⟩)),(95,.pointer (some ⟨bq2,0,none⟩)),(99,.int .u64 (IntKind.u64.wrap (x10)))] (by kernel_rfl) fun fr => ?_
    refine x_p rfl ?_
    refine v_check (u_nonneg rfl _) ?_
    refine v_num (e' := shl .i64 1 (IntKind.u64.wrap (x10))) rfl ?_
    refine v_done ?_
    refine x_p rfl ?_
    refine v_num (e' := w64 ((shl .i64 1 (IntKind.u64.wrap (x10))) - 1)) rfl ?_
    refine v_done ?_
    refine x_p rfl ?_
    refine v_done ?_
    refine x_p rfl ?_
    refine v_done ?_
    refine x_2 rfl rfl ?_ ?_
    ·replace h := h_b h; obtain ⟨⟨x403,x404⟩,hx402,h⟩ := h
     refine r_call (hc_20 (bt0 := bq2) (g_t0 := ⟨(A3,c4)⟩) (t0 := { (cellplanemake_New l0) with At := x401 }) (n1 := w64 (x400 + 1)) (hS_t0 := by exact (le_d 5).trans hS_l0) (h_t0 := by exact hs5) (h := hx402)) ?_
     rintro _ _ ⟨rfl,rfl⟩
     refine r_done ⟨rfl,k_a (le_w [false,true,true,true,true,true]) (le_w [false,true,true,true,true,true]),?_⟩
     refine x_2 rfl rfl ?_ ?_
     ·replace h := h_b h; obtain ⟨⟨x406,x407⟩,hx405,h⟩ := h
      refine r_call (hc_20 (bt0 := bq2) (g_t0 := ⟨(A3,c4)⟩) (t0 := { (cellplanemake_New l0) with At := x404 }) (n1 := 4) (hS_t0 := by exact (le_d 5).trans hS_l0) (h_t0 := by exact hs5) (h := hx405)) ?_
      rintro _ _ ⟨rfl,rfl⟩
      refine r_done ⟨rfl,k_a (le_w [false,true,true,true,true,true]) (le_w [false,true,true,true,true,true]),?_⟩
      refine x_2 rfl rfl ?_ ?_
      ·replace h := h_b h; obtain ⟨⟨x409,x410⟩,hx408,h⟩ := h
       refine r_call (hc_21 (bt0 := bq2) (g_t0 := ⟨(A3,c4)⟩) (t0 := { (cellplanemake_New l0) with At := x407 }) (low1 := (-1)) (high2 := 3) (hS_t0 := by exact (le_d 5).trans hS_l0) (h_t0 := by exact hs5) (h := hx408)) ?_
       rintro _ _ ⟨rfl,rfl⟩
       refine r_done ⟨rfl,k_a (le_w [false,true,true,true,true,true]) (le_w [false,true,true,true,true,true]),?_⟩
       refine x_2 rfl rfl ?_ ?_
       ·replace h := h_b h; obtain ⟨⟨x412,x413⟩,hx411,h⟩ := h
        refine r_call (hc_20 (bt0 := bq2) (g_t0 := ⟨(A3,c4)⟩) (t0 := { (cellplanemake_New l0) with At := x410 }) (n1 := 3) (hS_t0 := by exact (le_d 5).trans hS_l0) (h_t0 := by exact hs5) (h := hx411)) ?_
        rintro _ _ ⟨rfl,rfl⟩
        refine r_done ⟨rfl,k_a (le_w [false,true,true,true,true,true]) (le_w [false,true,true,true,true,true]),?_⟩
        refine x_2 rfl rfl ?_ ?_
        ·replace h := h_b h; obtain ⟨⟨x415,x416⟩,hx414,h⟩ := h
         refine r_call (hc_22 (bt0 := bq2) (g_t0 := ⟨(A3,c4)⟩) (t0 := { (cellplanemake_New l0) with At := x413 }) (n1 := 4) (hS_t0 := by exact (le_d 5).trans hS_l0) (h_t0 := by exact hs5) (h := hx414)) ?_
         rintro _ _ ⟨rfl,rfl⟩
         refine r_done ⟨rfl,k_a (le_w [false,true,true,true,true,true]) (le_w [false,true,true,true,true,true]),?_⟩
         refine x_kp [(2,.pointer (some ⟨bq1,0,none⟩)),(3,.pointer (some ⟨bq2,0,none⟩)),(4,.pointer (some ⟨bq20,0,none⟩)),(7,.int .i64 x392),(88,.int .i64 x400),(92,.int .i64 x403),(94,.int .i64 x406),(96,.int .i64 x409),(101,.int .i64 (w64 ((shl .i64 1 (IntKind.u64.wrap (x10))) - 1))),(103,.int .i64 x412),(105,.bool x415)] (by kernel_rfl) fun fr => ?_
         refine x_p rfl ?_
         refine v_bd tt_ok (en_Tenant (⟨x400,x403,x406,x409,w64 ((shl .i64 1 (IntKind.u64.wrap (x10))) - 1),x412,x415⟩ : Tenant)) ti_63 tp_63 (by kernel_rfl) ?_
         refine v_done ?_
         refine x_e rfl ?_
         refine r_al tt_ok (en_Tenant (⟨0,0,0,0,0,0,false⟩ : Tenant)) ti_63 (by kernel_rfl) fun bq417 => ?_
         refine r_done ⟨rfl,k_a (le_w [false,false,true,true,true,true,true]) (le_w [false,false,true,true,true,true,true]),?_⟩
         refine x_e rfl ?_
         refine r_s 0 tt_ok (en_Tenant (⟨x400,x403,x406,x409,w64 ((shl .i64 1 (IntKind.u64.wrap (x10))) - 1),x412,x415⟩ : Tenant)) (fitn ta_63 (by kernel_rfl)) rfl (by kernel_rfl) (by kernel_rfl) ?_
         refine r_done ⟨rfl,k_a (le_w [false,false,true,true,true,true,true]) (le_w [false,false,true,true,true,true,true]),?_⟩
         refine x_k [(2,.pointer (some ⟨bq1,0,none⟩)),(3,.pointer (some ⟨bq2,0,none⟩)),(4,.pointer (some ⟨bq20,0,none⟩)),(7,.int .i64 x392),(9,.pointer (some ⟨bq417,0,none⟩))] (by kernel_rfl) fun fr => ?_
         exact r_done ⟨(⟨x400,x403,x406,x409,w64 ((shl .i64 1 (IntKind.u64.wrap (x10))) - 1),x412,x415⟩ : Tenant),x416,bq417,_,h,fr_eq _ (by kernel_rfl),(by kernel_rfl)⟩
        ·refine r_al tt_ok (en_Tenant (⟨0,0,0,0,0,0,false⟩ : Tenant)) ti_63 (by kernel_rfl) fun bq418 => ?_
         refine r_done ⟨rfl,k_a (le_w [false,false,true,true,true,true,true]) (le_w [false,false,true,true,true,true,true]),?_⟩
         refine x_e rfl ?_
         refine r_le (le_mv 1) ?_
         replace h := h_b h; obtain ⟨⟨x420,x421⟩,hx419,h⟩ := h
         refine r_call (hc_22 (bt0 := bq2) (g_t0 := ⟨(A3,c4)⟩) (t0 := { (cellplanemake_New l0) with At := x413 }) (n1 := 4) (hS_t0 := by exact (le_d 6).trans hS_l0) (h_t0 := by exact hs5) (h := hx419)) ?_
         rintro _ _ ⟨rfl,rfl⟩
         refine r_done ⟨rfl,k_a (le_w [false,false,true,true,true,true,true]) (le_w [false,false,true,true,true,true,true]),?_⟩
         refine x_p rfl ?_
         refine v_bd tt_ok (en_Tenant (⟨x400,x403,x406,x409,w64 ((shl .i64 1 (IntKind.u64.wrap (x10))) - 1),x412,x420⟩ : Tenant)) ti_63 tp_63 (by kernel_rfl) ?_
         refine v_done ?_
         refine x_e rfl ?_
         refine r_s 1 tt_ok (en_Tenant (⟨x400,x403,x406,x409,w64 ((shl .i64 1 (IntKind.u64.wrap (x10))) - 1),x412,x420⟩ : Tenant)) (fitn ta_63 (by kernel_rfl)) rfl (by kernel_rfl) (by kernel_rfl) ?_
         refine r_done ⟨rfl,k_a (le_w [false,false,true,true,true,true,true]) (le_w [false,false,true,true,true,true,true]),?_⟩
         refine x_k [(2,.pointer (some ⟨bq1,0,none⟩)),(3,.pointer (some ⟨bq2,0,none⟩)),(4,.pointer (some ⟨bq20,0,none⟩)),(7,.int .i64 x392),(9,.pointer (some ⟨bq418,0,none⟩))] (by kernel_rfl) fun fr => ?_
         refine r_le ((le_mv 6).trans ((le_mv 6).trans ((le_mv 6).trans ((le_mv 6).trans ((le_mv 6).trans ((le_mv 5).trans (le_mv 6))))))) ?_
         exact r_done ⟨(⟨x400,x403,x406,x409,w64 ((shl .i64 1 (IntKind.u64.wrap (x10))) - 1),x412,x420⟩ : Tenant),x421,bq418,_,h,fr_eq _ (by kernel_rfl),(by kernel_rfl)⟩
       ·refine r_al tt_ok (en_Tenant (⟨0,0,0,0,0,0,false⟩ : Tenant)) ti_63 (by kernel_rfl) fun bq422 => ?_
        refine r_done ⟨rfl,k_a (le_w [false,false,true,true,true,true,true]) (le_w [false,false,true,true,true,true,true]),?_⟩
        refine x_e rfl ?_
        refine r_le (le_mv 1) ?_
        replace h := h_b h; obtain ⟨⟨x424,x425⟩,hx423,h⟩ := h
        refine r_call (hc_20 (bt0 := bq2) (g_t0 := ⟨(A3,c4)⟩) (t0 := { (cellplanemake_New l0) with At := x410 }) (n1 := 3) (hS_t0 := by exact (le_d 6).trans hS_l0) (h_t0 := by exact hs5) (h := hx423)) ?_
        rintro _ _ ⟨rfl,rfl⟩
        refine r_done ⟨rfl,k_a (le_w [false,false,true,true,true,true,true]) (le_w [false,false,true,true,true,true,true]),?_⟩
        refine x_e rfl ?_
        replace h := h_b h; obtain ⟨⟨x427,x428⟩,hx426,h⟩ := h
        refine r_call (hc_22 (bt0 := bq2) (g_t0 := ⟨(A3,c4)⟩) (t0 := { (cellplanemake_New l0) with At := x425 }) (n1 := 4) (hS_t0 := by exact (le_d 6).trans hS_l0) (h_t0 := by exact hs5) (h := hx426)) ?_
        rintro _ _ ⟨rfl,rfl⟩
        refine r_done ⟨rfl,k_a (le_w [false,false,true,true,true,true,true]) (le_w [false,false,true,true,true,true,true]),?_⟩
        refine x_p rfl ?_
        refine v_bd tt_ok (en_Tenant (⟨x400,x403,x406,x409,w64 ((shl .i64 1 (IntKind.u64.wrap (x10))) - 1),x424,x427⟩ : Tenant)) ti_63 tp_63 (by kernel_rfl) ?_
        refine v_done ?_
        refine x_e rfl ?_
        refine r_s 1 tt_ok (en_Tenant (⟨x400,x403,x406,x409,w64 ((shl .i64 1 (IntKind.u64.wrap (x10))) - 1),x424,x427⟩ : Tenant)) (fitn ta_63 (by kernel_rfl)) rfl (by kernel_rfl) (by kernel_rfl) ?_
        refine r_done ⟨rfl,k_a (le_w [false,false,true,true,true,true,true]) (le_w [false,false,true,true,true,true,true]),?_⟩
        refine x_k [(2,.pointer (some ⟨bq1,0,none⟩)),(3,.pointer (some ⟨bq2,0,none⟩)),(4,.pointer (some ⟨bq20,0,none⟩)),(7,.int .i64 x392),(9,.pointer (some ⟨bq422,0,none⟩))] (by kernel_rfl) fun fr => ?_
        refine r_le ((le_mv 6).trans ((le_mv 6).trans ((le_mv 6).trans ((le_mv 6).trans ((le_mv 6).trans ((le_mv 5).trans (le_mv 6))))))) ?_
        exact r_done ⟨(⟨x400,x403,x406,x409,w64 ((shl .i64 1 (IntKind.u64.wrap (x10))) - 1),x424,x427⟩ : Tenant),x428,bq422,_,h,fr_eq _ (by kernel_rfl),(by kernel_rfl)⟩
      ·refine r_al tt_ok (en_Tenant (⟨0,0,0,0,0,0,false⟩ : Tenant)) ti_63 (by kernel_rfl) fun bq429 => ?_
       refine r_done ⟨rfl,k_a (le_w [false,false,true,true,true,true,true]) (le_w [false,false,true,true,true,true,true]),?_⟩
       refine x_e rfl ?_
       refine r_le (le_mv 1) ?_
       replace h := h_b h; obtain ⟨⟨x431,x432⟩,hx430,h⟩ := h
       refine r_call (hc_21 (bt0 := bq2) (g_t0 := ⟨(A3,c4)⟩) (t0 := { (cellplanemake_New l0) with At := x407 }) (low1 := (-1)) (high2 := 3) (hS_t0 := by exact (le_d 6).trans hS_l0) (h_t0 := by exact hs5) (h := hx430)) ?_
       rintro _ _ ⟨rfl,rfl⟩
       refine r_done ⟨rfl,k_a (le_w [false,false,true,true,true,true,true]) (le_w [false,false,true,true,true,true,true]),?_⟩
       refine x_e rfl ?_
       replace h := h_b h; obtain ⟨⟨x434,x435⟩,hx433,h⟩ := h
       refine r_call (hc_20 (bt0 := bq2) (g_t0 := ⟨(A3,c4)⟩) (t0 := { (cellplanemake_New l0) with At := x432 }) (n1 := 3) (hS_t0 := by exact (le_d 6).trans hS_l0) (h_t0 := by exact hs5) (h := hx433)) ?_
       rintro _ _ ⟨rfl,rfl⟩
       refine r_done ⟨rfl,k_a (le_w [false,false,true,true,true,true,true]) (le_w [false,false,true,true,true,true,true]),?_⟩
       refine x_e rfl ?_
       replace h := h_b h; obtain ⟨⟨x437,x438⟩,hx436,h⟩ := h
       refine r_call (hc_22 (bt0 := bq2) (g_t0 := ⟨(A3,c4)⟩) (t0 := { (cellplanemake_New l0) with At := x435 }) (n1 := 4) (hS_t0 := by exact (le_d 6).trans hS_l0) (h_t0 := by exact hs5) (h := hx436)) ?_
       rintro _ _ ⟨rfl,rfl⟩
       refine r_done ⟨rfl,k_a (le_w [false,false,true,true,true,true,true]) (le_w [false,false,true,true,true,true,true]),?_⟩
       refine x_p rfl ?_
       refine v_bd tt_ok (en_Tenant (⟨x400,x403,x406,x431,w64 ((shl .i64 1 (IntKind.u64.wrap (x10))) - 1),x434,x437⟩ : Tenant)) ti_63 tp_63 (by kernel_rfl) ?_
       refine v_done ?_
       refine x_e rfl ?_
       refine r_s 1 tt_ok (en_Tenant (⟨x400,x403,x406,x431,w64 ((shl .i64 1 (IntKind.u64.wrap (x10))) - 1),x434,x437⟩ : Tenant)) (fitn ta_63 (by kernel_rfl)) rfl (by kernel_rfl) (by kernel_rfl) ?_
       refine r_done ⟨rfl,k_a (le_w [false,false,true,true,true,true,true]) (le_w [false,false,true,true,true,true,true]),?_⟩
       refine x_k [(2,.pointer (some ⟨bq1,0,none⟩)),(3,.pointer (some ⟨bq2,0,none⟩)),(4,.pointer (some ⟨bq20,0,none⟩)),(7,.int .i64 x392),(9,.pointer (some ⟨bq429,0,none⟩))] (by kernel_rfl) fun fr => ?_
       refine r_le ((le_mv 6).trans ((le_mv 6).trans ((le_mv 6).trans ((le_mv 6).trans ((le_mv 6).trans ((le_mv 5).trans (le_mv 6))))))) ?_
       exact r_done ⟨(⟨x400,x403,x406,x431,w64 ((shl .i64 1 (IntKind.u64.wrap (x10))) - 1),x434,x437⟩ : Tenant),x438,bq429,_,h,fr_eq _ (by kernel_rfl),(by kernel_rfl)⟩
     ·refine r_al tt_ok (en_Tenant (⟨0,0,0,0,0,0,false⟩ : Tenant)) ti_63 (by kernel_rfl) fun bq439 => ?_
      refine r_done ⟨rfl,k_a (le_w [false,false,true,true,true,true,true]) (le_w [false,false,true,true,true,true,true]),?_⟩
      refine x_e rfl ?_
      refine r_le (le_mv 1) ?_
      replace h := h_b h; obtain ⟨⟨x441,x442⟩,hx440,h⟩ := h
      refine r_call (hc_20 (bt0 := bq2) (g_t0 := ⟨(A3,c4)⟩) (t0 := { (cellplanemake_New l0) with At := x404 }) (n1 := 4) (hS_t0 := by exact (le_d 6).trans hS_l0) (h_t0 := by exact hs5) (h := hx440)) ?_
      rintro _ _ ⟨rfl,rfl⟩
      refine r_done ⟨rfl,k_a (le_w [false,false,true,true,true,true,true]) (le_w [false,false,true,true,true,true,true]),?_⟩
      refine x_e rfl ?_
      replace h := h_b h; obtain ⟨⟨x444,x445⟩,hx443,h⟩ := h
      refine r_call (hc_21 (bt0 := bq2) (g_t0 := ⟨(A3,c4)⟩) (t0 := { (cellplanemake_New l0) with At := x442 }) (low1 := (-1)) (high2 := 3) (hS_t0 := by exact (le_d 6).trans hS_l0) (h_t0 := by exact hs5) (h := hx443)) ?_
      rintro _ _ ⟨rfl,rfl⟩
      refine r_done ⟨rfl,k_a (le_w [false,false,true,true,true,true,true]) (le_w [false,false,true,true,true,true,true]),?_⟩
      refine x_e rfl ?_
      replace h := h_b h; obtain ⟨⟨x447,x448⟩,hx446,h⟩ := h
      refine r_call (hc_20 (bt0 := bq2) (g_t0 := ⟨(A3,c4)⟩) (t0 := { (cellplanemake_New l0) with At := x445 }) (n1 := 3) (hS_t0 := by exact (le_d 6).trans hS_l0) (h_t0 := by exact hs5) (h := hx446)) ?_
      rintro _ _ ⟨rfl,rfl⟩
      refine r_done ⟨rfl,k_a (le_w [false,false,true,true,true,true,true]) (le_w [false,false,true,true,true,true,true]),?_⟩
      refine x_e rfl ?_
      replace h := h_b h; obtain ⟨⟨x450,x451⟩,hx449,h⟩ := h
      refine r_call (hc_22 (bt0 := bq2) (g_t0 := ⟨(A3,c4)⟩) (t0 := { (cellplanemake_New l0) with At := x448 }) (n1 := 4) (hS_t0 := by exact (le_d 6).trans hS_l0) (h_t0 := by exact hs5) (h := hx449)) ?_
      rintro _ _ ⟨rfl,rfl⟩
      refine r_done ⟨rfl,k_a (le_w [false,false,true,true,true,true,true]) (le_w [false,false,true,true,true,true,true]),?_⟩
      refine x_p rfl ?_
      refine v_bd tt_ok (en_Tenant (⟨x400,x403,x441,x444,w64 ((shl .i64 1 (IntKind.u64.wrap (x10))) - 1),x447,x450⟩ : Tenant)) ti_63 tp_63 (by kernel_rfl) ?_
      refine v_done ?_
      refine x_e rfl ?_
      refine r_s 1 tt_ok (en_Tenant (⟨x400,x403,x441,x444,w64 ((shl .i64 1 (IntKind.u64.wrap (x10))) - 1),x447,x450⟩ : Tenant)) (fitn ta_63 (by kernel_rfl)) rfl (by kernel_rfl) (by kernel_rfl) ?_
      refine r_done ⟨rfl,k_a (le_w [false,false,true,true,true,true,true]) (le_w [false,false,true,true,true,true,true]),?_⟩
      refine x_k [(2,.pointer (some ⟨bq1,0,none⟩)),(3,.pointer (some ⟨bq2,0,none⟩)),(4,.pointer (some ⟨bq20,0,none⟩)),(7,.int .i64 x392),(9,.pointer (some ⟨bq439,0,none⟩))] (by kernel_rfl) fun fr => ?_
      refine r_le ((le_mv 6).trans ((le_mv 6).trans ((le_mv 6).trans ((le_mv 6).trans ((le_mv 6).trans ((le_mv 5).trans (le_mv 6))))))) ?_
      exact r_done ⟨(⟨x400,x403,x441,x444,w64 ((shl .i64 1 (IntKind.u64.wrap (x10))) - 1),x447,x450⟩ : Tenant),x451,bq439,_,h,fr_eq _ (by kernel_rfl),(by kernel_rfl)⟩
    ·refine r_al tt_ok (en_Tenant (⟨0,0,0,0,0,0,false⟩ : Tenant)) ti_63 (by kernel_rfl) fun bq452 => ?_
     refine r_done ⟨rfl,k_a (le_w [false,false,true,true,true,true,true]) (le_w [false,false,true,true,true,true,true]),?_⟩
     refine x_e rfl ?_
     refine r_le (le_mv 1) ?_
     replace h := h_b h; obtain ⟨⟨x454,x455⟩,hx453,h⟩ := h
     refine r_call (hc_20 (bt0 := bq2) (g_t0 := ⟨(A3,c4)⟩) (t0 := { (cellplanemake_New l0) with At := x401 }) (n1 := w64 (x400 + 1)) (hS_t0 := by exact (le_d 6).trans hS_l0) (h_t0 := by exact hs5) (h := hx453)) ?_
     rintro _ _ ⟨rfl,rfl⟩
     refine r_done ⟨rfl,k_a (le_w [false,false,true,true,true,true,true]) (le_w [false,false,true,true,true,true,true]),?_⟩
     refine x_e rfl ?_
     replace h := h_b h; obtain ⟨⟨x457,x458⟩,hx456,h⟩ := h
     refine r_call (hc_20 (bt0 := bq2) (g_t0 := ⟨(A3,c4)⟩) (t0 := { (cellplanemake_New l0) with At := x455 }) (n1 := 4) (hS_t0 := by exact (le_d 6).trans hS_l0) (h_t0 := by exact hs5) (h := hx456)) ?_
     rintro _ _ ⟨rfl,rfl⟩
     refine r_done ⟨rfl,k_a (le_w [false,false,true,true,true,true,true]) (le_w [false,false,true,true,true,true,true]),?_⟩
     refine x_e rfl ?_
     replace h := h_b h; obtain ⟨⟨x460,x461⟩,hx459,h⟩ := h
     refine r_call (hc_21 (bt0 := bq2) (g_t0 := ⟨(A3,c4)⟩) (t0 := { (cellplanemake_New l0) with At := x458 }) (low1 := (-1)) (high2 := 3) (hS_t0 := by exact (le_d 6).trans hS_l0) (h_t0 := by exact hs5) (h := hx459)) ?_
     rintro _ _ ⟨rfl,rfl⟩
     refine r_done ⟨rfl,k_a (le_w [false,false,true,true,true,true,true]) (le_w [false,false,true,true,true,true,true]),?_⟩
     refine x_e rfl ?_
     replace h := h_b h; obtain ⟨⟨x463,x464⟩,hx462,h⟩ := h
     refine r_call (hc_20 (bt0 := bq2) (g_t0 := ⟨(A3,c4)⟩) (t0 := { (cellplanemake_New l0) with At := x461 }) (n1 := 3) (hS_t0 := by exact (le_d 6).trans hS_l0) (h_t0 := by exact hs5) (h := hx462)) ?_
     rintro _ _ ⟨rfl,rfl⟩
     refine r_done ⟨rfl,k_a (le_w [false,false,true,true,true,true,true]) (le_w [false,false,true,true,true,true,true]),?_⟩
     refine x_e rfl ?_
     replace h := h_b h; obtain ⟨⟨x466,x467⟩,hx465,h⟩ := h
     refine r_call (hc_22 (bt0 := bq2) (g_t0 := ⟨(A3,c4)⟩) (t0 := { (cellplanemake_New l0) with At := x464 }) (n1 := 4) (hS_t0 := by exact (le_d 6).trans hS_l0) (h_t0 := by exact hs5) (h := hx465)) ?_
     rintro _ _ ⟨rfl,rfl⟩
     refine r_done ⟨rfl,k_a (le_w [false,false,true,true,true,true,true]) (le_w [false,false,true,true,true,true,true]),?_⟩
     refine x_p rfl ?_
     refine v_bd tt_ok (en_Tenant (⟨x400,x454,x457,x460,w64 ((shl .i64 1 (IntKind.u64.wrap (x10))) - 1),x463,x466⟩ : Tenant)) ti_63 tp_63 (by kernel_rfl) ?_
     refine v_done ?_
     refine x_e rfl ?_
     refine r_s 1 tt_ok (en_Tenant (⟨x400,x454,x457,x460,w64 ((shl .i64 1 (IntKind.u64.wrap (x10))) - 1),x463,x466⟩ : Tenant)) (fitn ta_63 (by kernel_rfl)) rfl (by kernel_rfl) (by kernel_rfl) ?_
     refine r_done ⟨rfl,k_a (le_w [false,false,true,true,true,true,true]) (le_w [false,false,true,true,true,true,true]),?_⟩
     refine x_k [(2,.pointer (some ⟨bq1,0,none⟩)),(3,.pointer (some ⟨bq2,0,none⟩)),(4,.pointer (some ⟨bq20,0,none⟩)),(7,.int .i64 x392),(9,.pointer (some ⟨bq452,0,none⟩))] (by kernel_rfl) fun fr => ?_
     refine r_le ((le_mv 6).trans ((le_mv 6).trans ((le_mv 6).trans ((le_mv 6).trans ((le_mv 6).trans ((le_mv 5).trans (le_mv 6))))))) ?_
     exact r_done ⟨(⟨x400,x454,x457,x460,w64 ((shl .i64 1 (IntKind.u64.wrap (x10))) - 1),x463,x466⟩ : Tenant),x467,bq452,_,h,fr_eq _ (by kernel_rfl),(by kernel_rfl)⟩
   clear h
   rintro fr S ⟨y469,at470,bq468,fr,h,rfl,rfl⟩
   replace h := hK472 _ h
   refine r_done ?_
   refine r_bind ?_
   replace h := h_j h; obtain ⟨K482,h,hK483⟩ := h
   refine r_meet (fun fr S => ∃ (at480 : Int),∃ (all481 : Int),∃ fr0,K482 (at480,all481) = some r ∧ fr = updL [(2,.pointer (some ⟨bq1,0,none⟩)),(3,.pointer (some ⟨bq2,0,none⟩)),(4,.pointer (some ⟨bq20,0,none⟩)),(7,.int .i64 x392),(9,.pointer (some ⟨bq468,0,none⟩))] fr0 ∧ S = ⟨ρ,.obj bq2 (en_cellplanemake_Tape ({ (cellplanemake_New l0) with At := at480 }) (⟨(A3,c4)⟩)) 73 :: .obj bq468 (en_Tenant ({ y469 with Allowed := all481 })) 63 :: .row A395 xs394.length c396 63 7 (fl eTenant.en xs394) :: .row A187 xs186.length c188 60 2 (fl eCell.en xs186) :: .row A97 xs96.length c98 58 1 (fl eZone.en xs96) :: .obj bq20 (en_Config (⟨x10,xs96,xs186,xs394,[],[],[],x12,x15,x18⟩ : Config) (⟨(A97,c98),(A187,c188),(A395,c396),(none,0),(none,0),(none,0)⟩)) 30 :: .obj bq1 (en_Config (⟨0,[],[],[],[],[],[],0,0,0⟩ : Config) (⟨(none,0),(none,0),(none,0),(none,0),(none,0),(none,0)⟩)) 30 :: L⟩) ?_ ?_
   ·refine r_bind ?_
    refine r_le (le_mv 1) ?_
    replace h := h_b h; obtain ⟨⟨x474,x475⟩,hx473,h⟩ := h
    refine r_call (hc_22 (bt0 := bq2) (g_t0 := ⟨(A3,c4)⟩) (t0 := { (cellplanemake_New l0) with At := at470 }) (n1 := 4) (hS_t0 := by exact (le_d 6).trans hS_l0) (h_t0 := by exact hs5) (h := hx473)) ?_
    rintro _ _ ⟨rfl,rfl⟩
    refine r_done ?_
    refine r_ite (fun hb476 => ?_) (fun hb476 => ?_)
    ·replace h := h_t h hb476
     clear hb476
     refine r_ld 5 tt_ok (v := .int .i64 x10) ts_3 rfl (by kernel_rfl) ?_
     refine r_num (e' := IntKind.u64.wrap (x10)) rfl ?_
     refine r_check (u_nonneg rfl _) ?_
     refine r_num (e' := shl .i64 1 (IntKind.u64.wrap (x10))) rfl ?_
     refine r_kp [(2,.pointer (some ⟨bq1,0,none⟩)),(3,.pointer (some ⟨bq2,0,none⟩)),(4,.pointer (some ⟨bq20,0,none⟩)),(7,.int .i64 x392),(9,.pointer (some ⟨bq468,0,none⟩)),(109,.pointer (some ⟨bq2,0,none⟩)),(113,.int .i64 (shl .i64 1 (IntKind.u64.wrap (x10))))] (by kernel_rfl) fun fr => ?_
     refine r_num (e' := w64 ((shl .i64 1 (IntKind.u64.wrap (x10))) - 1)) rfl ?_
     replace h := h_b h; obtain ⟨⟨x478,x479⟩,hx477,h⟩ := h
     refine r_call (hc_21 (bt0 := bq2) (g_t0 := ⟨(A3,c4)⟩) (t0 := { (cellplanemake_New l0) with At := x475 }) (low1 := 1) (high2 := w64 ((shl .i64 1 (IntKind.u64.wrap (x10))) - 1)) (hS_t0 := by exact (le_d 6).trans hS_l0) (h_t0 := by exact hs5) (h := hx477)) ?_
     rintro _ _ ⟨rfl,rfl⟩
     refine r_s 1 tt_ok (en_Tenant ({ y469 with Allowed := x478 })) (fit1 ts_3 (by kernel_rfl)) rfl (by kernel_rfl) (by kernel_rfl) ?_
     exact r_done ⟨x479,x478,_,h,fr_eq _ (by kernel_rfl),(by kernel_rfl)⟩
    ·replace h := h_f h hb476
     clear hb476
     exact r_done ⟨x475,y469.Allowed,_,h,fr_eq _ (by kernel_rfl),(by kernel_rfl)⟩
   clear h
   rintro fr S ⟨at480,all481,fr,h,rfl,rfl⟩
   replace h := hK483 _ h
   refine r_done ?_
   refine r_ld 5 tt_ok (v := .slice A395 xs394.length c396) ts_27 rfl (by kernel_rfl) ?_
   refine r_ldn 1 tt_ok (en_Tenant ({ y469 with Allowed := all481 })) ta_63 rfl (by kernel_rfl) (by kernel_rfl) ?_
   refine r_bs tt_ok (fl eTenant.en [{ y469 with Allowed := all481 }]) te_27 ti_63 (by kernel_rfl) (by kernel_rfl) (by kernel_rfl) (by kernel_rfl) fun bq484 => ?_
   replace h := h_b h; obtain ⟨xs485,ha486,h⟩ := h
   refine r_app 3 (E := eTenant) (xs := xs394) (ys := [{ y469 with Allowed := all481 }]) tt_ok ha486 (rd_row 0 rfl) rfl te_27 ti_63 rfl (by kernel_rfl) rfl (fun A487 c488 => ?_)
   refine r_s 6 tt_ok (en_Config (⟨x10,xs96,xs186,xs485,[],[],[],x12,x15,x18⟩ : Config) (⟨(A97,c98),(A187,c188),(A487,c488),(none,0),(none,0),(none,0)⟩)) (fit1 ts_27 (by kernel_rfl)) rfl (by kernel_rfl) (by kernel_rfl) ?_
   refine r_done ?_
   refine r_done ?_
   refine r_num (e' := w64 (x392 - 1)) rfl ?_
   refine r_kp [(2,.pointer (some ⟨bq1,0,none⟩)),(3,.pointer (some ⟨bq2,0,none⟩)),(4,.pointer (some ⟨bq20,0,none⟩)),(7,.int .i64 x392),(85,.int .i64 (w64 (x392 - 1)))] (by kernel_rfl) fun fr => ?_
   refine r_le ((le_mv 7).trans ((le_mv 7).trans ((le_mv 7).trans ((le_mv 7).trans ((le_mv 5).trans ((le_mv 7).trans (le_w [true,true,true,true,true,true,false,false]))))))) ?_
   exact r_done ⟨m493,lt_s hm493,w64 (x392 - 1),at480,xs485,A487,c488,_,h,fr_eq _ (by kernel_rfl),(by kernel_rfl)⟩
  ·replace h := h_f h hb398
   clear hb398
   refine r_done ?_
   refine r_done ?_
   replace h := h_m h
   subst hK492
   exact r_done ⟨at393,xs394,A395,c396,_,h,fr_eq _ (by kernel_rfl),(by kernel_rfl)⟩
 clear h
 rintro fr S ⟨at494,xs495,A496,c497,fr,h,rfl,rfl⟩
 replace h := hK500 _ h
 refine r_done ?_
 refine r_bind ?_
 refine r_le (le_mv 1) ?_
 replace h := h_b h; obtain ⟨⟨x502,x503⟩,hx501,h⟩ := h
 refine r_call (hc_20 (bt0 := bq2) (g_t0 := ⟨(A3,c4)⟩) (t0 := { (cellplanemake_New l0) with At := at494 }) (n1 := 3) (hS_t0 := by exact (le_d 5).trans hS_l0) (h_t0 := by exact hs5) (h := hx501)) ?_
 rintro _ _ ⟨rfl,rfl⟩
 refine r_bd tt_ok (en_Version (⟨0,x502⟩ : Version)) ti_65 tp_65 (by kernel_rfl) ?_
 refine r_bs tt_ok (fl eVersion.en [(⟨0,x502⟩ : Version)]) te_28 ti_65 (by kernel_rfl) (by kernel_rfl) (by kernel_rfl) (by kernel_rfl) fun bq504 => ?_
 refine r_s 5 tt_ok (en_Config (⟨x10,xs96,xs186,xs495,[(⟨0,x502⟩ : Version)],[],[],x12,x15,x18⟩ : Config) (⟨(A97,c98),(A187,c188),(A496,c497),((some ⟨bq504,0,none⟩),1),(none,0),(none,0)⟩)) (fit1 ts_28 (by kernel_rfl)) rfl (by kernel_rfl) (by kernel_rfl) ?_
 refine r_done ?_
 refine r_bind ?_
 replace h := h_j h; obtain ⟨K574,h,hK575⟩ := h
 refine r_meet (fun fr S => ∃ (at569 : Int),∃ (xs570 : (List Version)),∃ (A571 : Option Addr),∃ (c572 : Nat),∃ fr0,K574 (at569,xs570) = some r ∧ fr = updL [(2,.pointer (some ⟨bq1,0,none⟩)),(3,.pointer (some ⟨bq2,0,none⟩)),(4,.pointer (some ⟨bq20,0,none⟩))] fr0 ∧ S = ⟨ρ,.row A571 xs570.length c572 65 2 (fl eVersion.en xs570) :: .obj bq2 (en_cellplanemake_Tape ({ (cellplanemake_New l0) with At := at569 }) (⟨(A3,c4)⟩)) 73 :: .row A496 xs495.length c497 63 7 (fl eTenant.en xs495) :: .row A187 xs186.length c188 60 2 (fl eCell.en xs186) :: .row A97 xs96.length c98 58 1 (fl eZone.en xs96) :: .obj bq20 (en_Config (⟨x10,xs96,xs186,xs495,xs570,[],[],x12,x15,x18⟩ : Config) (⟨(A97,c98),(A187,c188),(A496,c497),(A571,c572),(none,0),(none,0)⟩)) 30 :: .obj bq1 (en_Config (⟨0,[],[],[],[],[],[],0,0,0⟩ : Config) (⟨(none,0),(none,0),(none,0),(none,0),(none,0),(none,0)⟩)) 30 :: L⟩) ?_ ?_
 ·refine r_bind ?_
  refine r_le (le_mv 1) ?_
  replace h := h_b h; obtain ⟨⟨x506,x507⟩,hx505,h⟩ := h
  refine r_call (hc_20 (bt0 := bq2) (g_t0 := ⟨(A3,c4)⟩) (t0 := { (cellplanemake_New l0) with At := x503 }) (n1 := 3) (hS_t0 := by exact (le_d 6).trans hS_l0) (h_t0 := by exact hs5) (h := hx505)) ?_
  rintro _ _ ⟨rfl,rfl⟩
  refine r_done ?_
  refine r_bind ?_
  replace h := h_l h; obtain ⟨K565,n566,h,hK567⟩ := h
  refine r_le ((le_mv 6).trans ((le_mv 6).trans ((le_mv 6).trans ((le_mv 6).trans ((le_mv 6).trans ((le_mv 5).trans (le_mv 6))))))) ?_
  refine r_loop (fun n fr S => ∃ (x546 : Int),∃ (at547 : Int),∃ (xs548 : (List Version)),∃ (A549 : Option Addr),∃ (c550 : Nat),∃ fr0,(runN (cellplanemake_Config.b12 l0) n (x546,at547,xs548)).bind K565 = some r ∧ fr = updL [(2,.pointer (some ⟨bq1,0,none⟩)),(3,.pointer (some ⟨bq2,0,none⟩)),(4,.pointer (some ⟨bq20,0,none⟩)),(10,.int .i64 x546)] fr0 ∧ S = ⟨ρ,.row A549 xs548.length c550 65 2 (fl eVersion.en xs548) :: .obj bq2 (en_cellplanemake_Tape ({ (cellplanemake_New l0) with At := at547 }) (⟨(A3,c4)⟩)) 73 :: .row A496 xs495.length c497 63 7 (fl eTenant.en xs495) :: .row A187 xs186.length c188 60 2 (fl eCell.en xs186) :: .row A97 xs96.length c98 58 1 (fl eZone.en xs96) :: .obj bq20 (en_Config (⟨x10,xs96,xs186,xs495,xs548,[],[],x12,x15,x18⟩ : Config) (⟨(A97,c98),(A187,c188),(A496,c497),(A549,c550),(none,0),(none,0)⟩)) 30 :: .obj bq1 (en_Config (⟨0,[],[],[],[],[],[],0,0,0⟩ : Config) (⟨(none,0),(none,0),(none,0),(none,0),(none,0),(none,0)⟩)) 30 :: L⟩) n566 ⟨x506,x507,[(⟨0,x502⟩ : Version)],(some ⟨bq504,0,none⟩),1,_,h,fr_eq _ (by kernel_rfl),(by kernel_rfl)⟩ ?_
  clear h
  rintro n566 fr S ⟨x546,at547,xs548,A549,c550,fr,h,rfl,rfl⟩
  replace h := h_r h; obtain ⟨m568,hm568,h⟩ := h
  refine r_bind ?_
  refine r_bind ?_
  refine r_done ?_
  refine r_ite (fun hb552 => ?_) (fun hb552 => ?_)
  ·replace h := h_t h hb552
   clear hb552
   refine r_done ?_
   refine r_bind ?_
   refine r_bind ?_
   refine r_bind ?_
   refine r_le (le_mv 1) ?_
   replace h := h_b h; obtain ⟨⟨x554,x555⟩,hx553,h⟩ := h
   refine r_call (hc_20 (bt0 := bq2) (g_t0 := ⟨(A3,c4)⟩) (t0 := { (cellplanemake_New l0) with At := at547 }) (n1 := 2) (hS_t0 := by exact (le_d 6).trans hS_l0) (h_t0 := by exact hs5) (h := hx553)) ?_
   rintro _ _ ⟨rfl,rfl⟩
   refine r_done ?_
   refine r_mix tt_ok hm_ok _ _ [9,11] (.pure 0 (.va 1 (.pure 2 (.pure 3 (.pure 4 (.eff 5 (.pure 6 (.pure 7 (.eff 8 (.eff 9 (.pure 10 (.eff 11 .nil)))))))))))) (le_w [false,true,true,true,true,true,true]) (le_w [false,false,true,true,true,false,true]) ?_ ?_
   ·decide +kernel
   refine x_p rfl ?_
   refine v_done ?_
   refine x_va rfl ?_
   refine v_ld 4 tt_ok (v := .slice A549 xs548.length c550) ts_28 rfl (by kernel_rfl) ?_
   refine v_done ?_
   refine x_p rfl ?_
   refine v_done ?_
   refine x_p rfl ?_
   refine v_done ?_
   refine x_kp [(2,.pointer (some ⟨bq1,0,none⟩)),(3,.pointer (some ⟨bq2,0,none⟩)),(4,.pointer (some ⟨bq20,0,none⟩)),(10,.int .i64 x546),(137,.slice A549 xs548.length c550),(138,.int .i64 x554),(139,.int .i64 x554)] (by kernel_rfl) fun fr => ?_
   refine x_p rfl ?_
   refine v_done ?_
   refine x_e rfl ?_
   replace h := h_b h; obtain ⟨⟨x557,x558⟩,hx556,h⟩ := h
   refine r_call (hc_20 (bt0 := bq2) (g_t0 := ⟨(A3,c4)⟩) (t0 := { (cellplanemake_New l0) with At := x555 }) (n1 := 3) (hS_t0 := by exact (le_d 6).trans hS_l0) (h_t0 := by exact hs5) (h := hx556)) ?_
   rintro _ _ ⟨rfl,rfl⟩
   refine r_done ⟨rfl,k_a (le_w [false,true,true,true,true,true,true]) (le_w [false,false,true,true,true,false,true]),?_⟩
   refine x_p rfl ?_
   refine v_num (e' := w64 (x554 + x557)) rfl ?_
   refine v_done ?_
   refine x_p rfl ?_
   refine v_bd tt_ok (en_Version (⟨x554,w64 (x554 + x557)⟩ : Version)) ti_65 tp_65 (by kernel_rfl) ?_
   refine v_done ?_
   refine x_e rfl ?_
   refine r_bs tt_ok (fl eVersion.en [(⟨x554,w64 (x554 + x557)⟩ : Version)]) te_28 ti_65 (by kernel_rfl) (by kernel_rfl) (by kernel_rfl) (by kernel_rfl) fun bq559 => ?_
   refine r_done ⟨rfl,k_a (le_w [false,false,true,true,true,true,true,true]) (le_w [false,false,false,true,true,true,false,true]),?_⟩
   refine x_e rfl ?_
   replace h := h_b h; obtain ⟨xs560,ha561,h⟩ := h
   refine r_app 2 (E := eVersion) (xs := xs548) (ys := [(⟨x554,w64 (x554 + x557)⟩ : Version)]) tt_ok ha561 (rd_row 0 rfl) rfl te_28 ti_65 rfl (by kernel_rfl) rfl (fun A562 c563 => ?_)
   refine r_done ⟨rfl,k_b rfl (le_w [false,false,false,true,true,true,false,true]),?_⟩
   refine x_p rfl ?_
   refine v_done ?_
   refine x_e rfl ?_
   refine r_s 6 tt_ok (en_Config (⟨x10,xs96,xs186,xs495,xs560,[],[],x12,x15,x18⟩ : Config) (⟨(A97,c98),(A187,c188),(A496,c497),(A562,c563),(none,0),(none,0)⟩)) (fit1 ts_28 (by kernel_rfl)) rfl (by kernel_rfl) (by kernel_rfl) ?_
   refine r_done ⟨rfl,k_b rfl (le_w [false,false,false,true,true,true,false,true]),?_⟩
   refine x_k [(2,.pointer (some ⟨bq1,0,none⟩)),(3,.pointer (some ⟨bq2,0,none⟩)),(4,.pointer (some ⟨bq20,0,none⟩)),(10,.int .i64 x546)] (by kernel_rfl) fun fr => ?_
   refine r_done ?_
   refine r_done ?_
   refine r_num (e' := w64 (x546 - 1)) rfl ?_
   refine r_le ((le_mv 7).trans ((le_mv 7).trans ((le_mv 7).trans ((le_mv 7).trans ((le_mv 7).trans ((le_mv 6).trans ((le_mv 7).trans (le_w [true,true,true,true,true,true,true,false])))))))) ?_
   exact r_done ⟨m568,lt_s hm568,w64 (x546 - 1),x558,xs560,A562,c563,_,h,fr_eq _ (by kernel_rfl),(by kernel_rfl)⟩
  ·replace h := h_f h hb552
   clear hb552
   refine r_done ?_
   refine r_done ?_
   replace h := h_m h
   subst hK567
   exact r_done ⟨at547,xs548,A549,c550,_,h,fr_eq _ (by kernel_rfl),(by kernel_rfl)⟩
 clear h
 rintro fr S ⟨at569,xs570,A571,c572,fr,h,rfl,rfl⟩
 replace h := hK575 _ h
 refine r_done ?_
 refine r_bind ?_
 replace h := h_j h; obtain ⟨K637,h,hK638⟩ := h
 refine r_meet (fun fr S => ∃ (at632 : Int),∃ (xs633 : (List Int)),∃ (A634 : Option Addr),∃ (c635 : Nat),∃ fr0,K637 (at632,xs633) = some r ∧ fr = updL [(2,.pointer (some ⟨bq1,0,none⟩)),(3,.pointer (some ⟨bq2,0,none⟩)),(4,.pointer (some ⟨bq20,0,none⟩))] fr0 ∧ S = ⟨ρ,.row A634 xs633.length c635 3 1 (fl eI64.en xs633) :: .obj bq2 (en_cellplanemake_Tape ({ (cellplanemake_New l0) with At := at632 }) (⟨(A3,c4)⟩)) 73 :: .row A571 xs570.length c572 65 2 (fl eVersion.en xs570) :: .row A496 xs495.length c497 63 7 (fl eTenant.en xs495) :: .row A187 xs186.length c188 60 2 (fl eCell.en xs186) :: .row A97 xs96.length c98 58 1 (fl eZone.en xs96) :: .obj bq20 (en_Config (⟨x10,xs96,xs186,xs495,xs570,xs633,[],x12,x15,x18⟩ : Config) (⟨(A97,c98),(A187,c188),(A496,c497),(A571,c572),(A634,c635),(none,0)⟩)) 30 :: .obj bq1 (en_Config (⟨0,[],[],[],[],[],[],0,0,0⟩ : Config) (⟨(none,0),(none,0),(none,0),(none,0),(none,0),(none,0)⟩)) 30 :: L⟩) ?_ ?_
 ·refine r_bind ?_
  refine r_le (le_mv 1) ?_
  replace h := h_b h; obtain ⟨⟨x577,x578⟩,hx576,h⟩ := h
  refine r_call (hc_20 (bt0 := bq2) (g_t0 := ⟨(A3,c4)⟩) (t0 := { (cellplanemake_New l0) with At := at569 }) (n1 := 2) (hS_t0 := by exact (le_d 6).trans hS_l0) (h_t0 := by exact hs5) (h := hx576)) ?_
  rintro _ _ ⟨rfl,rfl⟩
  refine r_num (e' := w64 (2 * x577)) rfl ?_
  refine r_num (e' := w64 ((w64 (2 * x577)) + 1)) rfl ?_
  refine r_done ?_
  refine r_bind ?_
  replace h := h_l h; obtain ⟨K628,n629,h,hK630⟩ := h
  refine r_le (le_nil 3 1) ?_
  refine r_loop (fun n fr S => ∃ (x612 : Int),∃ (at613 : Int),∃ (xs614 : (List Int)),∃ (A615 : Option Addr),∃ (c616 : Nat),∃ fr0,(runN (cellplanemake_Config.b14 l0 xs96) n (x612,at613,xs614)).bind K628 = some r ∧ fr = updL [(2,.pointer (some ⟨bq1,0,none⟩)),(3,.pointer (some ⟨bq2,0,none⟩)),(4,.pointer (some ⟨bq20,0,none⟩)),(12,.int .i64 x612)] fr0 ∧ S = ⟨ρ,.row A615 xs614.length c616 3 1 (fl eI64.en xs614) :: .obj bq2 (en_cellplanemake_Tape ({ (cellplanemake_New l0) with At := at613 }) (⟨(A3,c4)⟩)) 73 :: .row A571 xs570.length c572 65 2 (fl eVersion.en xs570) :: .row A496 xs495.length c497 63 7 (fl eTenant.en xs495) :: .row A187 xs186.length c188 60 2 (fl eCell.en xs186) :: .row A97 xs96.length c98 58 1 (fl eZone.en xs96) :: .obj bq20 (en_Config (⟨x10,xs96,xs186,xs495,xs570,xs614,[],x12,x15,x18⟩ : Config) (⟨(A97,c98),(A187,c188),(A496,c497),(A571,c572),(A615,c616),(none,0)⟩)) 30 :: .obj bq1 (en_Config (⟨0,[],[],[],[],[],[],0,0,0⟩ : Config) (⟨(none,0),(none,0),(none,0),(none,0),(none,0),(none,0)⟩)) 30 :: L⟩) n629 ⟨w64 ((w64 (2 * x577)) + 1),x578,[],none,0,_,h,fr_eq _ (by kernel_rfl),(by kernel_rfl)⟩ ?_
  clear h
  rintro n629 fr S ⟨x612,at613,xs614,A615,c616,fr,h,rfl,rfl⟩
  replace h := h_r h; obtain ⟨m631,hm631,h⟩ := h
  refine r_bind ?_
  refine r_bind ?_
  refine r_done ?_
  refine r_ite (fun hb618 => ?_) (fun hb618 => ?_)
  ·replace h := h_t h hb618
   clear hb618
   refine r_done ?_
   refine r_bind ?_
   refine r_bind ?_
   refine r_mix tt_ok hm_ok _ _ [10] (.pure 0 (.va 1 (.pure 2 (.pure 3 (.va 4 (.pure 5 (.eff 6 (.eff 7 (.eff 8 (.pure 9 (.eff 10 .nil))))))))))) (le_w [false,false,true,true,true,true,true,true]) (le_w [false,false,true,true,true,true,false,true]) ?_ ?_
   ·decide +kernel
   refine x_p rfl ?_
   refine v_done ?_
   refine x_va rfl ?_
   refine v_ld 4 tt_ok (v := .slice A615 xs614.length c616) ts_22 rfl (by kernel_rfl) ?_
   refine v_done ?_
   refine x_p rfl ?_
   refine v_done ?_
   refine x_p rfl ?_
   refine v_done ?_
   refine x_va rfl ?_
   refine v_ld 4 tt_ok (v := .slice A97 xs96.length c98) ts_25 rfl (by kernel_rfl) ?_
   refine v_done ?_
   refine x_p rfl ?_
   refine v_done ?_
   refine x_e rfl ?_
   refine r_le (le_mv 1) ?_
   replace h := h_b h; obtain ⟨⟨x620,x621⟩,hx619,h⟩ := h
   refine r_call (hc_20 (bt0 := bq2) (g_t0 := ⟨(A3,c4)⟩) (t0 := { (cellplanemake_New l0) with At := at613 }) (n1 := (xs96.length : Int)) (hS_t0 := by exact (le_d 7).trans hS_l0) (h_t0 := by exact hs5) (h := hx619)) ?_
   rintro _ _ ⟨rfl,rfl⟩
   refine r_done ⟨rfl,k_a (le_w [false,false,true,true,true,true,true,true]) (le_w [false,false,true,true,true,true,false,true]),?_⟩
   refine x_kp [(2,.pointer (some ⟨bq1,0,none⟩)),(3,.pointer (some ⟨bq2,0,none⟩)),(4,.pointer (some ⟨bq20,0,none⟩)),(12,.int .i64 x612),(156,.slice A615 xs614.length c616),(161,.int .i64 x620)] (by kernel_rfl) fun fr => ?_
   refine x_e rfl ?_
   refine r_bs tt_ok (fl eI64.en [x620]) te_22 ti_3 (by kernel_rfl) (by kernel_rfl) (by kernel_rfl) (by kernel_rfl) fun bq622 => ?_
   refine r_done ⟨rfl,k_a (le_w [false,false,false,true,true,true,true,true,true]) (le_w [false,false,false,true,true,true,true,false,true]),?_⟩
   refine x_e rfl ?_
   replace h := h_b h; obtain ⟨xs623,ha624,h⟩ := h
   refine r_app 2 (E := eI64) (xs := xs614) (ys := [x620]) tt_ok ha624 (rd_row 0 rfl) rfl te_22 ti_3 rfl (by kernel_rfl) rfl (fun A625 c626 => ?_)
   refine r_done ⟨rfl,k_a (le_w [false,false,false,true,true,true,true,true,true]) (le_w [false,false,false,true,true,true,true,false,true]),?_⟩
   refine x_p rfl ?_
   refine v_done ?_
   refine x_e rfl ?_
   refine r_s 7 tt_ok (en_Config (⟨x10,xs96,xs186,xs495,xs570,xs623,[],x12,x15,x18⟩ : Config) (⟨(A97,c98),(A187,c188),(A496,c497),(A571,c572),(A625,c626),(none,0)⟩)) (fit1 ts_22 (by kernel_rfl)) rfl (by kernel_rfl) (by kernel_rfl) ?_
   refine r_done ⟨rfl,k_b rfl (le_w [false,false,false,true,true,true,true,false,true]),?_⟩
   refine x_k [(2,.pointer (some ⟨bq1,0,none⟩)),(3,.pointer (some ⟨bq2,0,none⟩)),(4,.pointer (some ⟨bq20,0,none⟩)),(12,.int .i64 x612)] (by kernel_rfl) fun fr => ?_
   refine r_done ?_
   refine r_done ?_
   refine r_num (e' := w64 (x612 - 1)) rfl ?_
   refine r_le ((le_mv 8).trans ((le_mv 8).trans ((le_mv 8).trans ((le_mv 8).trans ((le_mv 8).trans ((le_mv 8).trans ((le_mv 7).trans ((le_mv 8).trans (le_w [true,true,true,true,true,true,true,true,false]))))))))) ?_
   exact r_done ⟨m631,lt_s hm631,w64 (x612 - 1),x621,xs623,A625,c626,_,h,fr_eq _ (by kernel_rfl),(by kernel_rfl)⟩
  ·replace h := h_f h hb618
   clear hb618
   refine r_done ?_
   refine r_done ?_
   replace h := h_m h
   subst hK630
   exact r_done ⟨at613,xs614,A615,c616,_,h,fr_eq _ (by kernel_rfl),(by kernel_rfl)⟩
 clear h
 rintro fr S ⟨at632,xs633,A634,c635,fr,h,rfl,rfl⟩
 replace h := hK638 _ h
 refine r_done ?_
 refine r_bind ?_
 refine r_bind ?_
 refine r_le (le_mv 1) ?_
 replace h := h_b h; obtain ⟨⟨x640,x641⟩,hx639,h⟩ := h
 refine r_call (hc_21 (bt0 := bq2) (g_t0 := ⟨(A3,c4)⟩) (t0 := { (cellplanemake_New l0) with At := at632 }) (low1 := 1) (high2 := 4) (hS_t0 := by exact (le_d 7).trans hS_l0) (h_t0 := by exact hs5) (h := hx639)) ?_
 rintro _ _ ⟨rfl,rfl⟩
 refine r_done ?_
 refine r_bind ?_
 replace h := h_l h; obtain ⟨K691,n692,h,hK693⟩ := h
 refine r_le (le_nil 3 1) ?_
 refine r_loop (fun n fr S => ∃ (x675 : Int),∃ (at676 : Int),∃ (xs677 : (List Int)),∃ (A678 : Option Addr),∃ (c679 : Nat),∃ fr0,(runN (cellplanemake_Config.b15 l0 xs96 x10 xs186 xs495 xs570 xs633 x12 x15 x18) n (x675,at676,xs677)).bind K691 = some r ∧ fr = updL [(2,.pointer (some ⟨bq1,0,none⟩)),(3,.pointer (some ⟨bq2,0,none⟩)),(4,.pointer (some ⟨bq20,0,none⟩)),(13,.int .i64 x675)] fr0 ∧ S = ⟨ρ,.row A678 xs677.length c679 3 1 (fl eI64.en xs677) :: .obj bq2 (en_cellplanemake_Tape ({ (cellplanemake_New l0) with At := at676 }) (⟨(A3,c4)⟩)) 73 :: .row A634 xs633.length c635 3 1 (fl eI64.en xs633) :: .row A571 xs570.length c572 65 2 (fl eVersion.en xs570) :: .row A496 xs495.length c497 63 7 (fl eTenant.en xs495) :: .row A187 xs186.length c188 60 2 (fl eCell.en xs186) :: .row A97 xs96.length c98 58 1 (fl eZone.en xs96) :: .obj bq20 (en_Config (⟨x10,xs96,xs186,xs495,xs570,xs633,xs677,x12,x15,x18⟩ : Config) (⟨(A97,c98),(A187,c188),(A496,c497),(A571,c572),(A634,c635),(A678,c679)⟩)) 30 :: .obj bq1 (en_Config (⟨0,[],[],[],[],[],[],0,0,0⟩ : Config) (⟨(none,0),(none,0),(none,0),(none,0),(none,0),(none,0)⟩)) 30 :: L⟩) n692 ⟨x640,x641,[],none,0,_,h,fr_eq _ (by kernel_rfl),(by kernel_rfl)⟩ ?_
 clear h
 rintro n692 fr S ⟨x675,at676,xs677,A678,c679,fr,h,rfl,rfl⟩
 replace h := h_r h; obtain ⟨m694,hm694,h⟩ := h
 refine r_bind ?_
 refine r_bind ?_
 refine r_done ?_
 refine r_ite (fun hb681 => ?_) (fun hb681 => ?_)
 ·replace h := h_t h hb681
  clear hb681
  refine r_done ?_
  refine r_bind ?_
  refine r_bind ?_
  refine r_mix tt_ok hm_ok _ _ [10] (.pure 0 (.va 1 (.pure 2 (.pure 3 (.va 4 (.pure 5 (.eff 6 (.eff 7 (.eff 8 (.pure 9 (.eff 10 .nil))))))))))) (le_w [false,false,true,true,true,true,true,true,true]) (le_w [false,false,true,true,true,true,true,false,true]) ?_ ?_
  ·decide +kernel
  refine x_p rfl ?_
  refine v_done ?_
  refine x_va rfl ?_
  refine v_ld 5 tt_ok (v := .slice A678 xs677.length c679) ts_22 rfl (by kernel_rfl) ?_
  refine v_done ?_
  refine x_p rfl ?_
  refine v_done ?_
  refine x_p rfl ?_
  refine v_done ?_
  refine x_va rfl ?_
  refine v_ld 5 tt_ok (v := .slice A97 xs96.length c98) ts_25 rfl (by kernel_rfl) ?_
  refine v_done ?_
  refine x_p rfl ?_
  refine v_done ?_
  refine x_e rfl ?_
  refine r_le (le_mv 1) ?_
  replace h := h_b h; obtain ⟨⟨x683,x684⟩,hx682,h⟩ := h
  refine r_call (hc_20 (bt0 := bq2) (g_t0 := ⟨(A3,c4)⟩) (t0 := { (cellplanemake_New l0) with At := at676 }) (n1 := (xs96.length : Int)) (hS_t0 := by exact (le_d 8).trans hS_l0) (h_t0 := by exact hs5) (h := hx682)) ?_
  rintro _ _ ⟨rfl,rfl⟩
  refine r_done ⟨rfl,k_a (le_w [false,false,true,true,true,true,true,true,true]) (le_w [false,false,true,true,true,true,true,false,true]),?_⟩
  refine x_kp [(2,.pointer (some ⟨bq1,0,none⟩)),(3,.pointer (some ⟨bq2,0,none⟩)),(4,.pointer (some ⟨bq20,0,none⟩)),(13,.int .i64 x675),(172,.slice A678 xs677.length c679),(177,.int .i64 x683)] (by kernel_rfl) fun fr => ?_
  refine x_e rfl ?_
  refine r_bs tt_ok (fl eI64.en [x683]) te_22 ti_3 (by kernel_rfl) (by kernel_rfl) (by kernel_rfl) (by kernel_rfl) fun bq685 => ?_
  refine r_done ⟨rfl,k_a (le_w [false,false,false,true,true,true,true,true,true,true]) (le_w [false,false,false,true,true,true,true,true,false,true]),?_⟩
  refine x_e rfl ?_
  replace h := h_b h; obtain ⟨xs686,ha687,h⟩ := h
  refine r_app 2 (E := eI64) (xs := xs677) (ys := [x683]) tt_ok ha687 (rd_row 0 rfl) rfl te_22 ti_3 rfl (by kernel_rfl) rfl (fun A688 c689 => ?_)
  refine r_done ⟨rfl,k_a (le_w [false,false,false,true,true,true,true,true,true,true]) (le_w [false,false,false,true,true,true,true,true,false,true]),?_⟩
  refine x_p rfl ?_
  refine v_done ?_
  refine x_e rfl ?_
  refine r_s 8 tt_ok (en_Config (⟨x10,xs96,xs186,xs495,xs570,xs633,xs686,x12,x15,x18⟩ : Config) (⟨(A97,c98),(A187,c188),(A496,c497),(A571,c572),(A634,c635),(A688,c689)⟩)) (fit1 ts_22 (by kernel_rfl)) rfl (by kernel_rfl) (by kernel_rfl) ?_
  refine r_done ⟨rfl,k_b rfl (le_w [false,false,false,true,true,true,true,true,false,true]),?_⟩
  refine x_k [(2,.pointer (some ⟨bq1,0,none⟩)),(3,.pointer (some ⟨bq2,0,none⟩)),(4,.pointer (some ⟨bq20,0,none⟩)),(13,.int .i64 x675)] (by kernel_rfl) fun fr => ?_
  refine r_done ?_
  refine r_done ?_
  refine r_num (e' := w64 (x675 - 1)) rfl ?_
  refine r_le ((le_mv 9).trans ((le_mv 9).trans ((le_mv 9).trans ((le_mv 9).trans ((le_mv 9).trans ((le_mv 9).trans ((le_mv 9).trans ((le_mv 8).trans ((le_mv 9).trans (le_w [true,true,true,true,true,true,true,true,true,false])))))))))) ?_
  exact r_done ⟨m694,lt_s hm694,w64 (x675 - 1),x684,xs686,A688,c689,_,h,fr_eq _ (by kernel_rfl),(by kernel_rfl)⟩
 ·replace h := h_f h hb681
  clear hb681
  refine r_done ?_
  refine r_done ?_
  replace h := h_m h
  subst hK693
  refine r_done ?_
  refine r_bind ?_
  refine r_ldn 7 tt_ok (en_Config (⟨x10,xs96,xs186,xs495,xs570,xs633,xs677,x12,x15,x18⟩ : Config) (⟨(A97,c98),(A187,c188),(A496,c497),(A571,c572),(A634,c635),(A678,c679)⟩)) ta_30 rfl (by kernel_rfl) (by kernel_rfl) ?_
  refine r_s 8 tt_ok (en_Config (⟨x10,xs96,xs186,xs495,xs570,xs633,xs677,x12,x15,x18⟩ : Config) (⟨(A97,c98),(A187,c188),(A496,c497),(A571,c572),(A634,c635),(A678,c679)⟩)) (fitn ta_30 (by kernel_rfl)) rfl (by kernel_rfl) (by kernel_rfl) ?_
  refine r_done ?_
  repeat refine r_done ?_
  repeat refine r_done ?_
  obtain rfl := h_out h
  exact ret_of (rv_cell 8 tt_ok (by kernel_rfl) ta_30 rfl rfl RV.nil) ((le_mv 2).trans ((le_mv 3).trans ((le_mv 4).trans ((le_mv 5).trans ((le_mv 6).trans (le_w [true,true,true,true,true,true,false,false,false])))))) ⟨A97,c98,A187,c188,A496,c497,A571,c572,A634,c635,A678,c679,rfl,rfl⟩
theorem hc_14 {ρ : Addr → Option Value} {L : List Ent} {g_c0 : gConfig} {S_c0 : St} (hS_c0 : Le ⟨ρ,L⟩ S_c0) (c0 : Config) (h_c0 : Sl_Config S_c0 c0 g_c0) {r : State} (h : cellplaneref12_New c0 = some r) : HC Try.prog 14 #[.agg (en_Config c0 g_c0).toArray] ⟨ρ,L⟩ (fun v S' => ∃ (Aq1_0 : Option Addr),∃ (cq1_0 : Nat),∃ (Aq1_1 : Option Addr),∃ (cq1_1 : Nat),v = .agg (en_State r (⟨(Aq1_0,cq1_0),(Aq1_1,cq1_1)⟩)).toArray ∧ S' = ⟨ρ,.row Aq1_0 r.Tenants.length cq1_0 50 12 (fl eTenantState.en r.Tenants) :: .row Aq1_1 r.Cells.length cq1_1 67 4 (fl eCellState.en r.Cells) :: L⟩) := by
 replace h := h_in h
 refine HC.intro (N := 35) (args := [_]) tt_ok Try.func14 rfl (by decide +kernel) rfl (Nat.le_of_ble_eq_true rfl) ?_
 refine r_bind ?_
 refine r_bx (en_Config c0 g_c0) (by kernel_rfl) fun bq1 => ?_
 refine r_al tt_ok (en_State (⟨0,0,[],[],0,0,0,0⟩ : State) (⟨(none,0),(none,0)⟩)) ti_36 (by kernel_rfl) fun bq2 => ?_
 refine r_done ?_
 refine r_bind ?_
 refine r_bd tt_ok (en_State (⟨0,0,[],[],1,0,0,0⟩ : State) (⟨(none,0),(none,0)⟩)) ti_36 tp_36 (by kernel_rfl) ?_
 refine r_al tt_ok (en_State (⟨0,0,[],[],0,0,0,0⟩ : State) (⟨(none,0),(none,0)⟩)) ti_36 (by kernel_rfl) fun bq3 => ?_
 refine r_s 0 tt_ok (en_State (⟨0,0,[],[],1,0,0,0⟩ : State) (⟨(none,0),(none,0)⟩)) (fitn ta_36 (by kernel_rfl)) rfl (by kernel_rfl) (by kernel_rfl) ?_
 refine r_done ?_
 refine r_bind ?_
 replace h := h_j h; obtain ⟨K49,h,hK50⟩ := h
 refine r_meet (fun fr S => ∃ (xs45 : (List TenantState)),∃ (A46 : Option Addr),∃ (c47 : Nat),∃ fr0,K49 xs45 = some r ∧ fr = updL [(1,.pointer (some ⟨bq1,0,none⟩)),(2,.pointer (some ⟨bq2,0,none⟩)),(3,.pointer (some ⟨bq3,0,none⟩))] fr0 ∧ S = ⟨ρ,.row A46 xs45.length c47 50 12 (fl eTenantState.en xs45) :: .obj bq3 (en_State (⟨0,0,xs45,[],1,0,0,0⟩ : State) (⟨(A46,c47),(none,0)⟩)) 36 :: .obj bq2 (en_State (⟨0,0,[],[],0,0,0,0⟩ : State) (⟨(none,0),(none,0)⟩)) 36 :: .obj bq1 (en_Config c0 g_c0) 30 :: L⟩) ?_ ?_
 ·refine r_bind ?_
  refine r_done ?_
  refine r_bind ?_
  replace h := h_l h; obtain ⟨K41,n42,h,hK43⟩ := h
  refine r_le (le_nil 50 12) ?_
  refine r_loop (fun n fr S => ∃ (x29 : Int),∃ (xs30 : (List TenantState)),∃ (A31 : Option Addr),∃ (c32 : Nat),∃ fr0,(runN (cellplaneref12_New.b2 c0) n (x29,xs30)).bind K41 = some r ∧ fr = updL [(1,.pointer (some ⟨bq1,0,none⟩)),(2,.pointer (some ⟨bq2,0,none⟩)),(3,.pointer (some ⟨bq3,0,none⟩)),(4,.int .i64 x29)] fr0 ∧ S = ⟨ρ,.row A31 xs30.length c32 50 12 (fl eTenantState.en xs30) :: .obj bq3 (en_State (⟨0,0,xs30,[],1,0,0,0⟩ : State) (⟨(A31,c32),(none,0)⟩)) 36 :: .obj bq2 (en_State (⟨0,0,[],[],0,0,0,0⟩ : State) (⟨(none,0),(none,0)⟩)) 36 :: .obj bq1 (en_Config c0 g_c0) 30 :: L⟩) n42 ⟨0,[],none,0,_,h,fr_eq _ (by kernel_rfl),(by kernel_rfl)⟩ ?_
  clear h
  rintro n42 fr S ⟨x29,xs30,A31,c32,fr,h,rfl,rfl⟩
  replace h := h_r h; obtain ⟨m44,hm44,h⟩ := h
  refine r_bind ?_
  refine r_bind ?_
  refine r_ld 3 tt_ok (v := .slice g_c0.Tenants.1 c0.Tenants.length g_c0.Tenants.2) ts_27 rfl (by kernel_rfl) ?_
  refine r_done ?_
  refine r_ite (fun hb34 => ?_) (fun hb34 => ?_)
  ·replace h := h_t h hb34
   clear hb34
   refine r_done ?_
   refine r_bind ?_
   refine r_bind ?_
   refine r_ld 1 tt_ok (v := .slice A31 xs30.length c32) ts_33 rfl (by kernel_rfl) ?_
   refine r_bd tt_ok (en_Window (⟨(-1),0,0,0,0⟩ : Window)) ti_48 tp_48 (by kernel_rfl) ?_
   refine r_bd tt_ok (en_TenantState (⟨false,false,(-1),(-1),(-1),(-1),0,(⟨(-1),0,0,0,0⟩ : Window)⟩ : TenantState)) ti_50 tp_50 (by kernel_rfl) ?_
   refine r_kp [(1,.pointer (some ⟨bq1,0,none⟩)),(2,.pointer (some ⟨bq2,0,none⟩)),(3,.pointer (some ⟨bq3,0,none⟩)),(4,.int .i64 x29),(15,.slice A31 xs30.length c32),(17,.agg (en_TenantState (⟨false,false,(-1),(-1),(-1),(-1),0,(⟨(-1),0,0,0,0⟩ : Window)⟩ : TenantState)).toArray)] (by kernel_rfl) fun fr => ?_
   refine r_bs tt_ok (fl eTenantState.en [(⟨false,false,(-1),(-1),(-1),(-1),0,(⟨(-1),0,0,0,0⟩ : Window)⟩ : TenantState)]) te_33 ti_50 (by kernel_rfl) (by kernel_rfl) (by kernel_rfl) (by kernel_rfl) fun bq35 => ?_
   replace h := h_b h; obtain ⟨xs36,ha37,h⟩ := h
   refine r_app 1 (E := eTenantState) (xs := xs30) (ys := [(⟨false,false,(-1),(-1),(-1),(-1),0,(⟨(-1),0,0,0,0⟩ : Window)⟩ : TenantState)]) tt_ok ha37 (rd_row 0 rfl) rfl te_33 ti_50 rfl (by kernel_rfl) rfl (fun A38 c39 => ?_)
   refine r_s 2 tt_ok (en_State (⟨0,0,xs36,[],1,0,0,0⟩ : State) (⟨(A38,c39),(none,0)⟩)) (fit1 ts_33 (by kernel_rfl)) rfl (by kernel_rfl) (by kernel_rfl) ?_
   refine r_done ?_
   refine r_done ?_
   refine r_num (e' := w64 (x29 + 1)) rfl ?_
   refine r_le (le_w [false,true,true,true,true]) ?_
   exact r_done ⟨m44,lt_s hm44,w64 (x29 + 1),xs36,A38,c39,_,h,fr_eq _ (by kernel_rfl),(by kernel_rfl)⟩
  ·replace h := h_f h hb34
   clear hb34
   refine r_done ?_
   refine r_done ?_
   replace h := h_m h
   subst hK43
   exact r_done ⟨xs30,A31,c32,_,h,fr_eq _ (by kernel_rfl),(by kernel_rfl)⟩
 clear h
 rintro fr S ⟨xs45,A46,c47,fr,h,rfl,rfl⟩
 replace h := hK50 _ h
 refine r_done ?_
 refine r_bind ?_
 refine r_bind ?_
 refine r_done ?_
 refine r_bind ?_
 replace h := h_l h; obtain ⟨K88,n89,h,hK90⟩ := h
 refine r_le (le_nil 67 4) ?_
 refine r_loop (fun n fr S => ∃ (x76 : Int),∃ (xs77 : (List CellState)),∃ (A78 : Option Addr),∃ (c79 : Nat),∃ fr0,(runN (cellplaneref12_New.b3 c0 xs45) n (x76,xs77)).bind K88 = some r ∧ fr = updL [(1,.pointer (some ⟨bq1,0,none⟩)),(2,.pointer (some ⟨bq2,0,none⟩)),(3,.pointer (some ⟨bq3,0,none⟩)),(5,.int .i64 x76)] fr0 ∧ S = ⟨ρ,.row A78 xs77.length c79 67 4 (fl eCellState.en xs77) :: .row A46 xs45.length c47 50 12 (fl eTenantState.en xs45) :: .obj bq3 (en_State (⟨0,0,xs45,xs77,1,0,0,0⟩ : State) (⟨(A46,c47),(A78,c79)⟩)) 36 :: .obj bq2 (en_State (⟨0,0,[],[],0,0,0,0⟩ : State) (⟨(none,0),(none,0)⟩)) 36 :: .obj bq1 (en_Config c0 g_c0) 30 :: L⟩) n89 ⟨0,[],none,0,_,h,fr_eq _ (by kernel_rfl),(by kernel_rfl)⟩ ?_
 clear h
 rintro n89 fr S ⟨x76,xs77,A78,c79,fr,h,rfl,rfl⟩
 replace h := h_r h; obtain ⟨m91,hm91,h⟩ := h
 refine r_bind ?_
 refine r_bind ?_
 refine r_ld 4 tt_ok (v := .slice g_c0.Cells.1 c0.Cells.length g_c0.Cells.2) ts_26 rfl (by kernel_rfl) ?_
 refine r_done ?_
 refine r_ite (fun hb81 => ?_) (fun hb81 => ?_)
 ·replace h := h_t h hb81
  clear hb81
  refine r_done ?_
  refine r_bind ?_
  refine r_bind ?_
  refine r_ld 2 tt_ok (v := .slice A78 xs77.length c79) ts_34 rfl (by kernel_rfl) ?_
  refine r_bd tt_ok (en_CellState (⟨1,0,0,0⟩ : CellState)) ti_67 tp_67 (by kernel_rfl) ?_
  refine r_bs tt_ok (fl eCellState.en [(⟨1,0,0,0⟩ : CellState)]) te_34 ti_67 (by kernel_rfl) (by kernel_rfl) (by kernel_rfl) (by kernel_rfl) fun bq82 => ?_
  refine r_kp [(1,.pointer (some ⟨bq1,0,none⟩)),(2,.pointer (some ⟨bq2,0,none⟩)),(3,.pointer (some ⟨bq3,0,none⟩)),(5,.int .i64 x76),(29,.slice A78 xs77.length c79),(31,.slice (some ⟨bq82,0,none⟩) [(⟨1,0,0,0⟩ : CellState)].length 1)] (by kernel_rfl) fun fr => ?_
  replace h := h_b h; obtain ⟨xs83,ha84,h⟩ := h
  refine r_app 1 (E := eCellState) (xs := xs77) (ys := [(⟨1,0,0,0⟩ : CellState)]) tt_ok ha84 (rd_row 0 rfl) rfl te_34 ti_67 rfl (by kernel_rfl) rfl (fun A85 c86 => ?_)
  refine r_s 3 tt_ok (en_State (⟨0,0,xs45,xs83,1,0,0,0⟩ : State) (⟨(A46,c47),(A85,c86)⟩)) (fit1 ts_34 (by kernel_rfl)) rfl (by kernel_rfl) (by kernel_rfl) ?_
  refine r_done ?_
  refine r_done ?_
  refine r_num (e' := w64 (x76 + 1)) rfl ?_
  refine r_le (le_w [false,true,true,true,true,true]) ?_
  exact r_done ⟨m91,lt_s hm91,w64 (x76 + 1),xs83,A85,c86,_,h,fr_eq _ (by kernel_rfl),(by kernel_rfl)⟩
 ·replace h := h_f h hb81
  clear hb81
  refine r_done ?_
  refine r_done ?_
  replace h := h_m h
  subst hK90
  refine r_done ?_
  refine r_bind ?_
  refine r_ldn 2 tt_ok (en_State (⟨0,0,xs45,xs77,1,0,0,0⟩ : State) (⟨(A46,c47),(A78,c79)⟩)) ta_36 rfl (by kernel_rfl) (by kernel_rfl) ?_
  refine r_s 3 tt_ok (en_State (⟨0,0,xs45,xs77,1,0,0,0⟩ : State) (⟨(A46,c47),(A78,c79)⟩)) (fitn ta_36 (by kernel_rfl)) rfl (by kernel_rfl) (by kernel_rfl) ?_
  refine r_done ?_
  repeat refine r_done ?_
  repeat refine r_done ?_
  obtain rfl := h_out h
  exact ret_of (rv_cell 3 tt_ok (by kernel_rfl) ta_36 rfl rfl RV.nil) ((le_mv 1).trans (le_w [true,true,false,false,false])) ⟨A46,c47,A78,c79,rfl,rfl⟩
theorem hc_12 {ρ : Addr → Option Value} {L : List Ent} {g_a0 : gState} {g_b1 : gState} {S_a0 : St} (hS_a0 : Le ⟨ρ,L⟩ S_a0) {S_b1 : St} (hS_b1 : Le ⟨ρ,L⟩ S_b1) (a0 : State) (b1 : State) (h_a0 : Sl_State S_a0 a0 g_a0) (h_b1 : Sl_State S_b1 b1 g_b1) {r : Bool} (h : cellplaneref12_Same a0 b1 = some r) : HC Try.prog 12 #[.agg (en_State a0 g_a0).toArray,.agg (en_State b1 g_b1).toArray] ⟨ρ,L⟩ (fun v S' => v = .bool r ∧ S' = ⟨ρ,L⟩) := by
 replace h := h_in h
 refine HC.intro (N := 101) (args := [_,_]) tt_ok Try.func12 rfl (by decide +kernel) rfl (Nat.le_of_ble_eq_true rfl) ?_
 refine r_bind ?_
 refine r_bx (en_State a0 g_a0) (by kernel_rfl) fun bq1 => ?_
 refine r_bx (en_State b1 g_b1) (by kernel_rfl) fun bq2 => ?_
 refine r_done ?_
 refine r_bind ?_
 refine r_bind ?_
 refine r_meet (fun fr S => ∃ fr0,fr = updL [(2,.pointer (some ⟨bq1,0,none⟩)),(3,.pointer (some ⟨bq2,0,none⟩)),(64,.bool ((!decide (a0.Tick = b1.Tick)) || ((!decide (a0.Count = b1.Count)) || ((!decide (a0.Proven = b1.Proven)) || ((!decide (a0.Evacuating = b1.Evacuating)) || ((!decide (a0.Low = b1.Low)) || ((!decide (a0.High = b1.High)) || ((!decide ((a0.Tenants.length : Int) = (b1.Tenants.length : Int))) || (!decide ((a0.Cells.length : Int) = (b1.Cells.length : Int)))))))))))] fr0 ∧ S = ⟨ρ,.obj bq2 (en_State b1 g_b1) 36 :: .obj bq1 (en_State a0 g_a0) 36 :: L⟩) ?_ ?_
 ·refine r_ld 1 tt_ok (v := .int .i64 a0.Tick) ts_3 rfl (by kernel_rfl) ?_
  refine r_kp [(2,.pointer (some ⟨bq1,0,none⟩)),(3,.pointer (some ⟨bq2,0,none⟩)),(8,.int .i64 a0.Tick)] (by kernel_rfl) fun fr => ?_
  refine r_ld 0 tt_ok (v := .int .i64 b1.Tick) ts_3 rfl (by kernel_rfl) ?_
  refine r_ite (fun (hb3 : (!decide (a0.Tick = b1.Tick)) = true) => ?_) (fun (hb3 : (!decide (a0.Tick = b1.Tick)) = false) => ?_)
  ·refine r_T rfl ?_
   refine r_T rfl ?_
   refine r_T rfl ?_
   refine r_T rfl ?_
   refine r_kp [(2,.pointer (some ⟨bq1,0,none⟩)),(3,.pointer (some ⟨bq2,0,none⟩)),(12,.bool true),(17,undef)] (by kernel_rfl) fun fr => ?_
   refine r_T rfl ?_
   refine r_T rfl ?_
   refine r_T rfl ?_
   refine r_T rfl ?_
   refine r_T rfl ?_
   refine r_T rfl ?_
   refine r_T rfl ?_
   refine r_T rfl ?_
   refine r_kp [(2,.pointer (some ⟨bq1,0,none⟩)),(3,.pointer (some ⟨bq2,0,none⟩)),(26,.bool true),(27,undef)] (by kernel_rfl) fun fr => ?_
   refine r_T rfl ?_
   refine r_T rfl ?_
   refine r_T rfl ?_
   refine r_T rfl ?_
   refine r_T rfl ?_
   refine r_T rfl ?_
   refine r_T rfl ?_
   refine r_T rfl ?_
   refine r_kp [(2,.pointer (some ⟨bq1,0,none⟩)),(3,.pointer (some ⟨bq2,0,none⟩)),(33,.bool true),(35,undef),(36,undef)] (by kernel_rfl) fun fr => ?_
   refine r_T rfl ?_
   refine r_T rfl ?_
   refine r_T rfl ?_
   refine r_T rfl ?_
   refine r_T rfl ?_
   refine r_T rfl ?_
   refine r_T rfl ?_
   refine r_T rfl ?_
   refine r_kp [(2,.pointer (some ⟨bq1,0,none⟩)),(3,.pointer (some ⟨bq2,0,none⟩)),(40,.bool true),(45,undef)] (by kernel_rfl) fun fr => ?_
   refine r_T rfl ?_
   refine r_T rfl ?_
   refine r_T rfl ?_
   refine r_T rfl ?_
   refine r_T rfl ?_
   refine r_T rfl ?_
   refine r_T rfl ?_
   refine r_T rfl ?_
   refine r_kp [(2,.pointer (some ⟨bq1,0,none⟩)),(3,.pointer (some ⟨bq2,0,none⟩)),(47,.bool true),(54,undef)] (by kernel_rfl) fun fr => ?_
   refine r_T rfl ?_
   refine r_T rfl ?_
   refine r_T rfl ?_
   refine r_T rfl ?_
   refine r_T rfl ?_
   refine r_T rfl ?_
   refine r_T rfl ?_
   refine r_T rfl ?_
   refine r_kp [(2,.pointer (some ⟨bq1,0,none⟩)),(3,.pointer (some ⟨bq2,0,none⟩)),(56,.bool true),(63,undef)] (by kernel_rfl) fun fr => ?_
   refine r_T rfl ?_
   exact r_done ⟨_,fr_eq _ (by (try rw [hb3]); kernel_rfl),(by kernel_rfl)⟩
  ·refine r_F rfl ?_
   refine r_ld 1 tt_ok (v := .int .i64 a0.Count) ts_3 rfl (by kernel_rfl) ?_
   refine r_F rfl ?_
   refine r_F rfl ?_
   refine r_ld 0 tt_ok (v := .int .i64 b1.Count) ts_3 rfl (by kernel_rfl) ?_
   refine r_F rfl ?_
   refine r_kp [(2,.pointer (some ⟨bq1,0,none⟩)),(3,.pointer (some ⟨bq2,0,none⟩)),(12,.bool false),(17,.bool (!decide (a0.Count = b1.Count)))] (by kernel_rfl) fun fr => ?_
   refine r_ite (fun (hb4 : (!decide (a0.Count = b1.Count)) = true) => ?_) (fun (hb4 : (!decide (a0.Count = b1.Count)) = false) => ?_)
   ·refine r_T rfl ?_
    refine r_T rfl ?_
    refine r_T rfl ?_
    refine r_T rfl ?_
    refine r_T rfl ?_
    refine r_T rfl ?_
    refine r_kp [(2,.pointer (some ⟨bq1,0,none⟩)),(3,.pointer (some ⟨bq2,0,none⟩)),(26,.bool true),(27,undef)] (by kernel_rfl) fun fr => ?_
    refine r_T rfl ?_
    refine r_T rfl ?_
    refine r_T rfl ?_
    refine r_T rfl ?_
    refine r_T rfl ?_
    refine r_T rfl ?_
    refine r_T rfl ?_
    refine r_T rfl ?_
    refine r_kp [(2,.pointer (some ⟨bq1,0,none⟩)),(3,.pointer (some ⟨bq2,0,none⟩)),(33,.bool true),(35,undef),(36,undef)] (by kernel_rfl) fun fr => ?_
    refine r_T rfl ?_
    refine r_T rfl ?_
    refine r_T rfl ?_
    refine r_T rfl ?_
    refine r_T rfl ?_
    refine r_T rfl ?_
    refine r_T rfl ?_
    refine r_T rfl ?_
    refine r_kp [(2,.pointer (some ⟨bq1,0,none⟩)),(3,.pointer (some ⟨bq2,0,none⟩)),(40,.bool true),(45,undef)] (by kernel_rfl) fun fr => ?_
    refine r_T rfl ?_
    refine r_T rfl ?_
    refine r_T rfl ?_
    refine r_T rfl ?_
    refine r_T rfl ?_
    refine r_T rfl ?_
    refine r_T rfl ?_
    refine r_T rfl ?_
    refine r_kp [(2,.pointer (some ⟨bq1,0,none⟩)),(3,.pointer (some ⟨bq2,0,none⟩)),(47,.bool true),(54,undef)] (by kernel_rfl) fun fr => ?_
    refine r_T rfl ?_
    refine r_T rfl ?_
    refine r_T rfl ?_
    refine r_T rfl ?_
    refine r_T rfl ?_
    refine r_T rfl ?_
    refine r_T rfl ?_
    refine r_T rfl ?_
    refine r_kp [(2,.pointer (some ⟨bq1,0,none⟩)),(3,.pointer (some ⟨bq2,0,none⟩)),(56,.bool true),(63,undef)] (by kernel_rfl) fun fr => ?_
    refine r_T rfl ?_
    exact r_done ⟨_,fr_eq _ (by (try rw [hb4]); (try rw [hb3]); kernel_rfl),(by kernel_rfl)⟩
   ·refine r_F rfl ?_
    refine r_ld 1 tt_ok (v := .int .i64 a0.Proven) ts_3 rfl (by kernel_rfl) ?_
    refine r_F rfl ?_
    refine r_F rfl ?_
    refine r_ld 0 tt_ok (v := .int .i64 b1.Proven) ts_3 rfl (by kernel_rfl) ?_
    refine r_F rfl ?_
    refine r_ite (fun (hb5 : (!decide (a0.Proven = b1.Proven)) = true) => ?_) (fun (hb5 : (!decide (a0.Proven = b1.Proven)) = false) => ?_)
    ·refine r_kp [(2,.pointer (some ⟨bq1,0,none⟩)),(3,.pointer (some ⟨bq2,0,none⟩)),(26,.bool true),(27,undef)] (by kernel_rfl) fun fr => ?_
     refine r_T rfl ?_
     refine r_T rfl ?_
     refine r_T rfl ?_
     refine r_T rfl ?_
     refine r_T rfl ?_
     refine r_T rfl ?_
     refine r_T rfl ?_
     refine r_T rfl ?_
     refine r_kp [(2,.pointer (some ⟨bq1,0,none⟩)),(3,.pointer (some ⟨bq2,0,none⟩)),(33,.bool true),(35,undef),(36,undef)] (by kernel_rfl) fun fr => ?_
     refine r_T rfl ?_
     refine r_T rfl ?_
     refine r_T rfl ?_
     refine r_T rfl ?_
     refine r_T rfl ?_
     refine r_T rfl ?_
     refine r_T rfl ?_
     refine r_T rfl ?_
     refine r_kp [(2,.pointer (some ⟨bq1,0,none⟩)),(3,.pointer (some ⟨bq2,0,none⟩)),(40,.bool true),(45,undef)] (by kernel_rfl) fun fr => ?_
     refine r_T rfl ?_
     refine r_T rfl ?_
     refine r_T rfl ?_
     refine r_T rfl ?_
     refine r_T rfl ?_
     refine r_T rfl ?_
     refine r_T rfl ?_
     refine r_T rfl ?_
     refine r_kp [(2,.pointer (some ⟨bq1,0,none⟩)),(3,.pointer (some ⟨bq2,0,none⟩)),(47,.bool true),(54,undef)] (by kernel_rfl) fun fr => ?_
     refine r_T rfl ?_
     refine r_T rfl ?_
     refine r_T rfl ?_
     refine r_T rfl ?_
     refine r_T rfl ?_
     refine r_T rfl ?_
     refine r_T rfl ?_
     refine r_T rfl ?_
     refine r_kp [(2,.pointer (some ⟨bq1,0,none⟩)),(3,.pointer (some ⟨bq2,0,none⟩)),(56,.bool true),(63,undef)] (by kernel_rfl) fun fr => ?_
     refine r_T rfl ?_
     exact r_done ⟨_,fr_eq _ (by (try rw [hb5]); (try rw [hb4]); (try rw [hb3]); kernel_rfl),(by kernel_rfl)⟩
    ·refine r_kp [(2,.pointer (some ⟨bq1,0,none⟩)),(3,.pointer (some ⟨bq2,0,none⟩)),(26,.bool false),(27,.pointer (some ⟨bq1,5,none⟩))] (by kernel_rfl) fun fr => ?_
     refine r_F rfl ?_
     refine r_ld 1 tt_ok (v := .int .i64 a0.Evacuating) ts_3 rfl (by kernel_rfl) ?_
     refine r_F rfl ?_
     refine r_F rfl ?_
     refine r_ld 0 tt_ok (v := .int .i64 b1.Evacuating) ts_3 rfl (by kernel_rfl) ?_
     refine r_F rfl ?_
     refine r_ite (fun (hb6 : (!decide (a0.Evacuating = b1.Evacuating)) = true) => ?_) (fun (hb6 : (!decide (a0.Evacuating = b1.Evacuating)) = false) => ?_)
     ·refine r_T rfl ?_
      refine r_T rfl ?_
      refine r_kp [(2,.pointer (some ⟨bq1,0,none⟩)),(3,.pointer (some ⟨bq2,0,none⟩)),(33,.bool true),(35,undef),(36,undef)] (by kernel_rfl) fun fr => ?_
      refine r_T rfl ?_
      refine r_T rfl ?_
      refine r_T rfl ?_
      refine r_T rfl ?_
      refine r_T rfl ?_
      refine r_T rfl ?_
      refine r_T rfl ?_
      refine r_T rfl ?_
      refine r_kp [(2,.pointer (some ⟨bq1,0,none⟩)),(3,.pointer (some ⟨bq2,0,none⟩)),(40,.bool true),(45,undef)] (by kernel_rfl) fun fr => ?_
      refine r_T rfl ?_
      refine r_T rfl ?_
      refine r_T rfl ?_
      refine r_T rfl ?_
      refine r_T rfl ?_
      refine r_T rfl ?_
      refine r_T rfl ?_
      refine r_T rfl ?_
      refine r_kp [(2,.pointer (some ⟨bq1,0,none⟩)),(3,.pointer (some ⟨bq2,0,none⟩)),(47,.bool true),(54,undef)] (by kernel_rfl) fun fr => ?_
      refine r_T rfl ?_
      refine r_T rfl ?_
      refine r_T rfl ?_
      refine r_T rfl ?_
      refine r_T rfl ?_
      refine r_T rfl ?_
      refine r_T rfl ?_
      refine r_T rfl ?_
      refine r_kp [(2,.pointer (some ⟨bq1,0,none⟩)),(3,.pointer (some ⟨bq2,0,none⟩)),(56,.bool true),(63,undef)] (by kernel_rfl) fun fr => ?_
      refine r_T rfl ?_
      exact r_done ⟨_,fr_eq _ (by (try rw [hb6]); (try rw [hb5]); (try rw [hb4]); (try rw [hb3]); kernel_rfl),(by kernel_rfl)⟩
     ·refine r_F rfl ?_
      refine r_ld 1 tt_ok (v := .int .i64 a0.Low) ts_3 rfl (by kernel_rfl) ?_
      refine r_F rfl ?_
      refine r_kp [(2,.pointer (some ⟨bq1,0,none⟩)),(3,.pointer (some ⟨bq2,0,none⟩)),(33,.bool false),(35,.int .i64 a0.Low),(36,.pointer (some ⟨bq2,6,none⟩))] (by kernel_rfl) fun fr => ?_
      refine r_F rfl ?_
      refine r_ld 0 tt_ok (v := .int .i64 b1.Low) ts_3 rfl (by kernel_rfl) ?_
      refine r_F rfl ?_
      refine r_ite (fun (hb7 : (!decide (a0.Low = b1.Low)) = true) => ?_) (fun (hb7 : (!decide (a0.Low = b1.Low)) = false) => ?_)
      ·refine r_T rfl ?_
       refine r_T rfl ?_
       refine r_T rfl ?_
       refine r_T rfl ?_
       refine r_kp [(2,.pointer (some ⟨bq1,0,none⟩)),(3,.pointer (some ⟨bq2,0,none⟩)),(40,.bool true),(45,undef)] (by kernel_rfl) fun fr => ?_
       refine r_T rfl ?_
       refine r_T rfl ?_
       refine r_T rfl ?_
       refine r_T rfl ?_
       refine r_T rfl ?_
       refine r_T rfl ?_
       refine r_T rfl ?_
       refine r_T rfl ?_
       refine r_kp [(2,.pointer (some ⟨bq1,0,none⟩)),(3,.pointer (some ⟨bq2,0,none⟩)),(47,.bool true),(54,undef)] (by kernel_rfl) fun fr => ?_
       refine r_T rfl ?_
       refine r_T rfl ?_
       refine r_T rfl ?_
       refine r_T rfl ?_
       refine r_T rfl ?_
       refine r_T rfl ?_
       refine r_T rfl ?_
       refine r_T rfl ?_
       refine r_kp [(2,.pointer (some ⟨bq1,0,none⟩)),(3,.pointer (some ⟨bq2,0,none⟩)),(56,.bool true),(63,undef)] (by kernel_rfl) fun fr => ?_
       refine r_T rfl ?_
       exact r_done ⟨_,fr_eq _ (by (try rw [hb7]); (try rw [hb6]); (try rw [hb5]); (try rw [hb4]); (try rw [hb3]); kernel_rfl),(by kernel_rfl)⟩
      ·refine r_F rfl ?_
       refine r_ld 1 tt_ok (v := .int .i64 a0.High) ts_3 rfl (by kernel_rfl) ?_
       refine r_F rfl ?_
       refine r_F rfl ?_
       refine r_ld 0 tt_ok (v := .int .i64 b1.High) ts_3 rfl (by kernel_rfl) ?_
       refine r_F rfl ?_
       refine r_kp [(2,.pointer (some ⟨bq1,0,none⟩)),(3,.pointer (some ⟨bq2,0,none⟩)),(40,.bool false),(45,.bool (!decide (a0.High = b1.High)))] (by kernel_rfl) fun fr => ?_
       refine r_ite (fun (hb8 : (!decide (a0.High = b1.High)) = true) => ?_) (fun (hb8 : (!decide (a0.High = b1.High)) = false) => ?_)
       ·refine r_T rfl ?_
        refine r_T rfl ?_
        refine r_T rfl ?_
        refine r_T rfl ?_
        refine r_T rfl ?_
        refine r_T rfl ?_
        refine r_kp [(2,.pointer (some ⟨bq1,0,none⟩)),(3,.pointer (some ⟨bq2,0,none⟩)),(47,.bool true),(54,undef)] (by kernel_rfl) fun fr => ?_
        refine r_T rfl ?_
        refine r_T rfl ?_
        refine r_T rfl ?_
        refine r_T rfl ?_
        refine r_T rfl ?_
        refine r_T rfl ?_
        refine r_T rfl ?_
        refine r_T rfl ?_
        refine r_kp [(2,.pointer (some ⟨bq1,0,none⟩)),(3,.pointer (some ⟨bq2,0,none⟩)),(56,.bool true),(63,undef)] (by kernel_rfl) fun fr => ?_
        refine r_T rfl ?_
        exact r_done ⟨_,fr_eq _ (by (try rw [hb8]); (try rw [hb7]); (try rw [hb6]); (try rw [hb5]); (try rw [hb4]); (try rw [hb3]); kernel_rfl),(by kernel_rfl)⟩
       ·refine r_F rfl ?_
        refine r_ld 1 tt_ok (v := .slice g_a0.Tenants.1 a0.Tenants.length g_a0.Tenants.2) ts_33 rfl (by kernel_rfl) ?_
        refine r_F rfl ?_
        refine r_F rfl ?_
        refine r_F rfl ?_
        refine r_ld 0 tt_ok (v := .slice g_b1.Tenants.1 b1.Tenants.length g_b1.Tenants.2) ts_33 rfl (by kernel_rfl) ?_
        refine r_F rfl ?_
        refine r_F rfl ?_
        refine r_kp [(2,.pointer (some ⟨bq1,0,none⟩)),(3,.pointer (some ⟨bq2,0,none⟩)),(47,.bool false),(54,.bool (!decide ((a0.Tenants.length : Int) = (b1.Tenants.length : Int))))] (by kernel_rfl) fun fr => ?_
        refine r_ite (fun (hb9 : (!decide ((a0.Tenants.length : Int) = (b1.Tenants.length : Int))) = true) => ?_) (fun (hb9 : (!decide ((a0.Tenants.length : Int) = (b1.Tenants.length : Int))) = false) => ?_)
        ·refine r_T rfl ?_
         refine r_T rfl ?_
         refine r_T rfl ?_
         refine r_T rfl ?_
         refine r_T rfl ?_
         refine r_T rfl ?_
         refine r_kp [(2,.pointer (some ⟨bq1,0,none⟩)),(3,.pointer (some ⟨bq2,0,none⟩)),(56,.bool true),(63,undef)] (by kernel_rfl) fun fr => ?_
         refine r_T rfl ?_
         exact r_done ⟨_,fr_eq _ (by (try rw [hb9]); (try rw [hb8]); (try rw [hb7]); (try rw [hb6]); (try rw [hb5]); (try rw [hb4]); (try rw [hb3]); kernel_rfl),(by kernel_rfl)⟩
        ·refine r_F rfl ?_
         refine r_ld 1 tt_ok (v := .slice g_a0.Cells.1 a0.Cells.length g_a0.Cells.2) ts_34 rfl (by kernel_rfl) ?_
         refine r_F rfl ?_
         refine r_F rfl ?_
         refine r_F rfl ?_
         refine r_ld 0 tt_ok (v := .slice g_b1.Cells.1 b1.Cells.length g_b1.Cells.2) ts_34 rfl (by kernel_rfl) ?_
         refine r_F rfl ?_
         refine r_F rfl ?_
         refine r_kp [(2,.pointer (some ⟨bq1,0,none⟩)),(3,.pointer (some ⟨bq2,0,none⟩)),(56,.bool false),(63,.bool (!decide ((a0.Cells.length : Int) = (b1.Cells.length : Int))))] (by kernel_rfl) fun fr => ?_
         exact r_done ⟨_,fr_eq _ (by (try rw [hb9]); (try rw [hb8]); (try rw [hb7]); (try rw [hb6]); (try rw [hb5]); (try rw [hb4]); (try rw [hb3]); kernel_rfl),(by kernel_rfl)⟩
 rintro fr S ⟨fr,rfl,rfl⟩
 refine r_done ?_
 refine r_ite (fun hb10 => ?_) (fun hb10 => ?_)
 ·replace h := h_t h hb10
  clear hb10
  refine r_bind ?_
  refine r_done ?_
  repeat refine r_done ?_
  repeat refine r_done ?_
  obtain rfl := h_out h
  exact ret_of (RV.tmp RV.nil) (le_w [false,false]) ⟨rfl,rfl⟩
 ·replace h := h_f h hb10
  clear hb10
  refine r_done ?_
  refine r_bind ?_
  replace h := h_k h; obtain ⟨K36,h,hK37⟩ := h
  refine r_meet (fun fr S => ∃ fr0,(cellplaneref12_Same.j1 a0 b1).bind K36 = some r ∧ fr = updL [(2,.pointer (some ⟨bq1,0,none⟩)),(3,.pointer (some ⟨bq2,0,none⟩))] fr0 ∧ S = ⟨ρ,.obj bq2 (en_State b1 g_b1) 36 :: .obj bq1 (en_State a0 g_a0) 36 :: L⟩) ?_ ?_
  ·refine r_bind ?_
   refine r_done ?_
   refine r_bind ?_
   replace h := h_l h; obtain ⟨K32,n33,h,hK34⟩ := h
   refine r_loop (fun n fr S => ∃ (x25 : Int),∃ fr0,(runN (cellplaneref12_Same.b2 a0 b1) n x25).bind K32 = some r ∧ fr = updL [(2,.pointer (some ⟨bq1,0,none⟩)),(3,.pointer (some ⟨bq2,0,none⟩)),(5,.int .i64 x25)] fr0 ∧ S = ⟨ρ,.obj bq2 (en_State b1 g_b1) 36 :: .obj bq1 (en_State a0 g_a0) 36 :: L⟩) n33 ⟨0,_,h,fr_eq _ (by kernel_rfl),(by kernel_rfl)⟩ ?_
   clear h
   rintro n33 fr S ⟨x25,fr,h,rfl,rfl⟩
   replace h := h_r h; obtain ⟨m35,hm35,h⟩ := h
   refine r_bind ?_
   refine r_bind ?_
   refine r_ld 1 tt_ok (v := .slice g_a0.Tenants.1 a0.Tenants.length g_a0.Tenants.2) ts_33 rfl (by kernel_rfl) ?_
   refine r_done ?_
   refine r_ite (fun hb26 => ?_) (fun hb26 => ?_)
   ·replace h := h_t h hb26
    clear hb26
    refine r_done ?_
    refine r_bind ?_
    refine r_bind ?_
    refine r_bind ?_
    refine r_mix tt_ok hm_ok _ _ [] (.pure 0 (.vb 1 (.pure 2 (.vb 3 (.vb 4 (.pure 5 (.vb 6 (.pure 7 (.vb 8 (.vb 9 (.pure 10 .nil))))))))))) (le_w [true,true]) (le_w [true,true]) ?_ ?_
    ·decide +kernel
    refine x_p rfl ?_
    refine v_done ?_
    refine x_vb rfl ?_
    refine v_ld 1 tt_ok (v := .slice g_a0.Tenants.1 a0.Tenants.length g_a0.Tenants.2) ts_33 rfl (by kernel_rfl) ?_
    refine v_done ?_
    refine x_p rfl ?_
    refine v_done ?_
    refine x_vb rfl ?_
    replace h := h_b h; obtain ⟨x27,hx28,h⟩ := h
    refine v_el hx28 ((h_a0.1).rd.mono ((le_d 2).trans hS_a0)) ?_
    refine v_done ?_
    refine x_kp [(2,.pointer (some ⟨bq1,0,none⟩)),(3,.pointer (some ⟨bq2,0,none⟩)),(5,.int .i64 x25),(75,.pointer (some ((adr g_a0.Tenants.1).add (x25.toNat * 12))))] (by kernel_rfl) fun fr => ?_
    refine x_vb rfl ?_
    refine v_len (E := eTenantState) tt_ok (en_TenantState x27) (idx_get hx28) ((h_a0.1).rd.mono ((le_d 2).trans hS_a0)) ta_50 rfl (pl0 _ _) (by kernel_rfl) (by kernel_rfl) ?_
    refine v_done ?_
    refine x_p rfl ?_
    refine v_done ?_
    refine x_vb rfl ?_
    refine v_ld 0 tt_ok (v := .slice g_b1.Tenants.1 b1.Tenants.length g_b1.Tenants.2) ts_33 rfl (by kernel_rfl) ?_
    refine v_done ?_
    refine x_p rfl ?_
    refine v_done ?_
    refine x_vb rfl ?_
    replace h := h_b h; obtain ⟨x29,hx30,h⟩ := h
    refine v_el hx30 ((h_b1.1).rd.mono ((le_d 2).trans hS_b1)) ?_
    refine v_done ?_
    refine x_vb rfl ?_
    refine v_len (E := eTenantState) tt_ok (en_TenantState x29) (idx_get hx30) ((h_b1.1).rd.mono ((le_d 2).trans hS_b1)) ta_50 rfl (pl0 _ _) (by kernel_rfl) (by kernel_rfl) ?_
    refine v_done ?_
    refine x_p rfl ?_
    refine v_op (fun w => ex_neS (fun w => eq_TenantState x27 x29 w) (by decide +kernel) rfl rfl rfl w) ?_
    refine v_done ?_
    refine x_k [(2,.pointer (some ⟨bq1,0,none⟩)),(3,.pointer (some ⟨bq2,0,none⟩)),(5,.int .i64 x25),(82,.bool (!decide (x27 = x29)))] (by kernel_rfl) fun fr => ?_
    refine r_done ?_
    refine r_ite (fun hb31 => ?_) (fun hb31 => ?_)
    ·replace h := h_t h hb31
     clear hb31
     refine r_bind ?_
     refine r_done ?_
     repeat refine r_done ?_
     replace h := h_m h
     subst hK34
     subst hK37
     repeat refine r_done ?_
     obtain rfl := h_out h
     exact ret_of (RV.tmp RV.nil) (le_w [false,false]) ⟨rfl,rfl⟩
    ·replace h := h_f h hb31
     clear hb31
     refine r_done ?_
     refine r_done ?_
     refine r_num (e' := w64 (x25 + 1)) rfl ?_
     exact r_done ⟨m35,lt_s hm35,w64 (x25 + 1),_,h,fr_eq _ (by kernel_rfl),(by kernel_rfl)⟩
   ·replace h := h_f h hb26
    clear hb26
    refine r_done ?_
    refine r_done ?_
    replace h := h_m h
    subst hK34
    exact r_done ⟨_,h,fr_eq _ (by kernel_rfl),(by kernel_rfl)⟩
  clear h
  rintro fr S ⟨fr,h,rfl,rfl⟩
  subst hK37
  refine r_done ?_
  refine r_bind ?_
  refine r_bind ?_
  refine r_done ?_
  refine r_bind ?_
  replace h := h_l h; obtain ⟨K59,n60,h,hK61⟩ := h
  refine r_loop (fun n fr S => ∃ (x52 : Int),∃ fr0,(runN (cellplaneref12_Same.b3 a0 b1) n x52).bind K59 = some r ∧ fr = updL [(2,.pointer (some ⟨bq1,0,none⟩)),(3,.pointer (some ⟨bq2,0,none⟩)),(6,.int .i64 x52)] fr0 ∧ S = ⟨ρ,.obj bq2 (en_State b1 g_b1) 36 :: .obj bq1 (en_State a0 g_a0) 36 :: L⟩) n60 ⟨0,_,h,fr_eq _ (by kernel_rfl),(by kernel_rfl)⟩ ?_
  clear h
  rintro n60 fr S ⟨x52,fr,h,rfl,rfl⟩
  replace h := h_r h; obtain ⟨m62,hm62,h⟩ := h
  refine r_bind ?_
  refine r_bind ?_
  refine r_ld 1 tt_ok (v := .slice g_a0.Cells.1 a0.Cells.length g_a0.Cells.2) ts_34 rfl (by kernel_rfl) ?_
  refine r_done ?_
  refine r_ite (fun hb53 => ?_) (fun hb53 => ?_)
  ·replace h := h_t h hb53
   clear hb53
   refine r_done ?_
   refine r_bind ?_
   refine r_bind ?_
   refine r_bind ?_
   refine r_mix tt_ok hm_ok _ _ [] (.pure 0 (.vb 1 (.pure 2 (.vb 3 (.vb 4 (.pure 5 (.vb 6 (.pure 7 (.vb 8 (.vb 9 (.pure 10 .nil))))))))))) (le_w [true,true]) (le_w [true,true]) ?_ ?_
   ·decide +kernel
   refine x_p rfl ?_
   refine v_done ?_
   refine x_vb rfl ?_
   refine v_ld 1 tt_ok (v := .slice g_a0.Cells.1 a0.Cells.length g_a0.Cells.2) ts_34 rfl (by kernel_rfl) ?_
   refine v_done ?_
   refine x_p rfl ?_
   refine v_done ?_
   refine x_vb rfl ?_
   replace h := h_b h; obtain ⟨x54,hx55,h⟩ := h
   refine v_el hx55 ((h_a0.2).rd.mono ((le_d 2).trans hS_a0)) ?_
   refine v_done ?_
   refine x_kp [(2,.pointer (some ⟨bq1,0,none⟩)),(3,.pointer (some ⟨bq2,0,none⟩)),(6,.int .i64 x52),(93,.pointer (some ((adr g_a0.Cells.1).add (x52.toNat * 4))))] (by kernel_rfl) fun fr => ?_
   refine x_vb rfl ?_
   refine v_len (E := eCellState) tt_ok (en_CellState x54) (idx_get hx55) ((h_a0.2).rd.mono ((le_d 2).trans hS_a0)) ta_67 rfl (pl0 _ _) (by kernel_rfl) (by kernel_rfl) ?_
   refine v_done ?_
   refine x_p rfl ?_
   refine v_done ?_
   refine x_vb rfl ?_
   refine v_ld 0 tt_ok (v := .slice g_b1.Cells.1 b1.Cells.length g_b1.Cells.2) ts_34 rfl (by kernel_rfl) ?_
   refine v_done ?_
   refine x_p rfl ?_
   refine v_done ?_
   refine x_vb rfl ?_
   replace h := h_b h; obtain ⟨x56,hx57,h⟩ := h
   refine v_el hx57 ((h_b1.2).rd.mono ((le_d 2).trans hS_b1)) ?_
   refine v_done ?_
   refine x_vb rfl ?_
   refine v_len (E := eCellState) tt_ok (en_CellState x56) (idx_get hx57) ((h_b1.2).rd.mono ((le_d 2).trans hS_b1)) ta_67 rfl (pl0 _ _) (by kernel_rfl) (by kernel_rfl) ?_
   refine v_done ?_
   refine x_p rfl ?_
   refine v_op (fun w => ex_neS (fun w => eq_CellState x54 x56 w) (by decide +kernel) rfl rfl rfl w) ?_
   refine v_done ?_
   refine x_k [(2,.pointer (some ⟨bq1,0,none⟩)),(3,.pointer (some ⟨bq2,0,none⟩)),(6,.int .i64 x52),(100,.bool (!decide (x54 = x56)))] (by kernel_rfl) fun fr => ?_
   refine r_done ?_
   refine r_ite (fun hb58 => ?_) (fun hb58 => ?_)
   ·replace h := h_t h hb58
    clear hb58
    refine r_bind ?_
    refine r_done ?_
    repeat refine r_done ?_
    replace h := h_m h
    subst hK61
    repeat refine r_done ?_
    obtain rfl := h_out h
    exact ret_of (RV.tmp RV.nil) (le_w [false,false]) ⟨rfl,rfl⟩
   ·replace h := h_f h hb58
    clear hb58
    refine r_done ?_
    refine r_done ?_
    refine r_num (e' := w64 (x52 + 1)) rfl ?_
    exact r_done ⟨m62,lt_s hm62,w64 (x52 + 1),_,h,fr_eq _ (by kernel_rfl),(by kernel_rfl)⟩
  ·replace h := h_f h hb53
   clear hb53
   refine r_done ?_
   refine r_done ?_
   replace h := h_m h
   subst hK61
   refine r_done ?_
   refine r_bind ?_
   refine r_done ?_
   repeat refine r_done ?_
   repeat refine r_done ?_
   obtain rfl := h_out h
   exact ret_of (RV.tmp RV.nil) (le_w [false,false]) ⟨rfl,rfl⟩
theorem hc_3 {ρ : Addr → Option Value} {L : List Ent} {A_l0 : Option Addr} {c_l0 : Nat} {S_l0 : St} (hS_l0 : Le ⟨ρ,L⟩ S_l0) (l0 : (List Int)) (h_l0 : Sl S_l0 A_l0 l0.length c_l0 (fl eI64.en l0)) {r : Bool} (h : cellplanelaw12_StateNew l0 = some r) : HC Try.prog 3 #[.slice A_l0 l0.length c_l0] ⟨ρ,L⟩ (fun v S' => v = .bool r ∧ S' = ⟨ρ,L⟩) := by
 replace h := h_in h
 refine HC.intro (N := 18) (args := [_]) tt_ok Try.func3 rfl (by decide +kernel) rfl (Nat.le_of_ble_eq_true rfl) ?_
 refine r_bind ?_
 refine r_done ?_
 refine r_bind ?_
 refine r_bind ?_
 refine r_call (hc_9 (A_l0 := A_l0) (c_l0 := c_l0) (l0 := l0) (hS_l0 := by exact (le_d 0).trans hS_l0) (h_l0 := by exact h_l0)) ?_
 rintro _ _ ⟨rfl,rfl⟩
 refine r_done ?_
 refine r_ite (fun hb1 => ?_) (fun hb1 => ?_)
 ·replace h := h_t h hb1
  clear hb1
  refine r_bind ?_
  replace h := h_b h; obtain ⟨x3,hx2,h⟩ := h
  refine r_call (hc_10  (h := hx2)) ?_
  rintro _ _ ⟨rfl,rfl⟩
  refine r_done ?_
  repeat refine r_done ?_
  repeat refine r_done ?_
  obtain rfl := h_out h
  exact ret_of (RV.tmp RV.nil) (Le.refl _) ⟨rfl,rfl⟩
 ·replace h := h_f h hb1
  clear hb1
  refine r_done ?_
  refine r_bind ?_
  replace h := h_b h; obtain ⟨x5,hx4,h⟩ := h
  refine r_call (hc_11 (A_l0 := A_l0) (c_l0 := c_l0) (l0 := l0) (hS_l0 := by exact (le_d 0).trans hS_l0) (h_l0 := by exact h_l0) (h := hx4)) ?_
  rintro _ _ ⟨A6,c7,A9,c10,A12,c13,A15,c16,A18,c19,A21,c22,rfl,rfl⟩
  refine r_al tt_ok (en_Config (⟨0,[],[],[],[],[],[],0,0,0⟩ : Config) (⟨(none,0),(none,0),(none,0),(none,0),(none,0),(none,0)⟩)) ti_30 (by kernel_rfl) fun bq24 => ?_
  refine r_s 0 tt_ok (en_Config x5 (⟨(A6,c7),(A9,c10),(A12,c13),(A15,c16),(A18,c19),(A21,c22)⟩)) (fitn ta_30 (by kernel_rfl)) rfl (by kernel_rfl) (by kernel_rfl) ?_
  refine r_done ?_
  refine r_bind ?_
  replace h := h_j h; obtain ⟨K47,h,hK48⟩ := h
  refine r_meet (fun fr S => ∃ (x46 : Bool),∃ fr0,K47 x46 = some r ∧ fr = updL [(2,.bool x46)] fr0 ∧ S = ⟨ρ,L⟩) ?_ ?_
  refine r_mix tt_ok hm_ok _ _ [] (.eff 0 (.pure 1 (.vb 2 (.vb 4 (.eff 3 (.eff 5 (.eff 6 (.pure 7 (.pure 8 .nil))))))))) (le_w [true,true,true,true,true,true,true]) (le_w [true,true,true,true,true,true,true]) ?_ ?_
  ·decide +kernel
  refine x_e rfl ?_
  replace h := h_b h; obtain ⟨x26,hx25,h⟩ := h
  refine r_call (hc_10  (h := hx25)) ?_
  rintro _ _ ⟨rfl,rfl⟩
  refine r_done ⟨rfl,k_a (le_w [true,true,true,true,true,true,true]) (le_w [true,true,true,true,true,true,true]),?_⟩
  refine x_p rfl ?_
  refine v_done ?_
  refine x_vb rfl ?_
  refine v_ite (fun (hb27 : x26 = true) => ?_) (fun (hb27 : x26 = false) => ?_)
  ·replace h := h_t h hb27
   clear hb27
   refine v_ldn 0 tt_ok (en_Config x5 (⟨(A6,c7),(A9,c10),(A12,c13),(A15,c16),(A18,c19),(A21,c22)⟩)) ta_30 rfl (by kernel_rfl) (by kernel_rfl) ?_
   refine v_done ?_
   refine x_vb rfl ?_
   refine v_T rfl ?_
   refine v_ldn 0 tt_ok (en_Config x5 (⟨(A6,c7),(A9,c10),(A12,c13),(A15,c16),(A18,c19),(A21,c22)⟩)) ta_30 rfl (by kernel_rfl) (by kernel_rfl) ?_
   refine v_done ?_
   refine x_kp [(2,.bool false),(11,.bool true),(12,.agg (en_Config x5 (⟨(A6,c7),(A9,c10),(A12,c13),(A15,c16),(A18,c19),(A21,c22)⟩)).toArray),(14,.agg (en_Config x5 (⟨(A6,c7),(A9,c10),(A12,c13),(A15,c16),(A18,c19),(A21,c22)⟩)).toArray)] (by kernel_rfl) fun fr => ?_
   refine x_e rfl ?_
   refine r_T rfl ?_
   replace h := h_b h; obtain ⟨x29,hx28,h⟩ := h
   refine r_call (hc_13 (g_c0 := ⟨(A6,c7),(A9,c10),(A12,c13),(A15,c16),(A18,c19),(A21,c22)⟩) (c0 := x5) (hS_c0 := by exact Le.refl _) (h_c0 := by exact ⟨sl_row 1 rfl,sl_row 2 rfl,sl_row 3 rfl,sl_row 4 rfl,sl_row 5 rfl,sl_row 6 rfl⟩) (h := hx28)) ?_
   rintro _ _ ⟨A30,c31,A33,c34,rfl,rfl⟩
   refine r_done ⟨rfl,k_a (le_w [false,false,true,true,true,true,true,true,true]) (le_w [false,false,true,true,true,true,true,true,true]),?_⟩
   refine x_e rfl ?_
   refine r_T rfl ?_
   replace h := h_b h; obtain ⟨x37,hx36,h⟩ := h
   refine r_call (hc_14 (g_c0 := ⟨(A6,c7),(A9,c10),(A12,c13),(A15,c16),(A18,c19),(A21,c22)⟩) (c0 := x5) (hS_c0 := by exact Le.refl _) (h_c0 := by exact ⟨sl_row 3 rfl,sl_row 4 rfl,sl_row 5 rfl,sl_row 6 rfl,sl_row 7 rfl,sl_row 8 rfl⟩) (h := hx36)) ?_
   rintro _ _ ⟨A38,c39,A41,c42,rfl,rfl⟩
   refine r_done ⟨rfl,k_a (le_w [false,false,false,false,true,true,true,true,true,true,true]) (le_w [false,false,false,false,true,true,true,true,true,true,true]),?_⟩
   refine x_e rfl ?_
   refine r_T rfl ?_
   replace h := h_b h; obtain ⟨x45,hx44,h⟩ := h
   refine r_call (hc_12 (g_a0 := ⟨(A30,c31),(A33,c34)⟩) (a0 := x29) (g_b1 := ⟨(A38,c39),(A41,c42)⟩) (b1 := x37) (hS_a0 := by exact Le.refl _) (h_a0 := by exact ⟨sl_row 2 rfl,sl_row 3 rfl⟩) (hS_b1 := by exact Le.refl _) (h_b1 := by exact ⟨sl_row 0 rfl,sl_row 1 rfl⟩) (h := hx44)) ?_
   rintro _ _ ⟨rfl,rfl⟩
   refine r_done ⟨rfl,k_a (le_w [false,false,false,false,true,true,true,true,true,true,true]) (le_w [false,false,false,false,true,true,true,true,true,true,true]),?_⟩
   refine x_p rfl ?_
   refine v_done ?_
   refine x_p rfl ?_
   refine v_done ?_
   refine x_k [(2,.bool x45)] (by kernel_rfl) fun fr => ?_
   refine r_le (le_w [false,false,false,false,false,false,false,false,false,false,false]) ?_
   exact r_done ⟨x45,_,h,fr_eq _ (by kernel_rfl),(by kernel_rfl)⟩
  ·replace h := h_f h hb27
   clear hb27
   refine v_done ?_
   refine x_vb rfl ?_
   refine v_F rfl ?_
   refine v_done ?_
   refine x_kp [(2,.bool false),(11,.bool false),(12,undef),(14,undef)] (by kernel_rfl) fun fr => ?_
   refine x_e rfl ?_
   refine r_F rfl ?_
   refine r_done ⟨rfl,k_a (le_w [true,true,true,true,true,true,true]) (le_w [true,true,true,true,true,true,true]),?_⟩
   refine x_e rfl ?_
   refine r_F rfl ?_
   refine r_done ⟨rfl,k_a (le_w [true,true,true,true,true,true,true]) (le_w [true,true,true,true,true,true,true]),?_⟩
   refine x_e rfl ?_
   refine r_F rfl ?_
   refine r_done ⟨rfl,k_a (le_w [true,true,true,true,true,true,true]) (le_w [true,true,true,true,true,true,true]),?_⟩
   refine x_p rfl ?_
   refine v_F rfl ?_
   refine v_done ?_
   refine x_p rfl ?_
   refine v_done ?_
   refine x_k [(2,.bool false)] (by kernel_rfl) fun fr => ?_
   refine r_le (le_w [false,false,false,false,false,false,false]) ?_
   exact r_done ⟨false,_,h,fr_eq _ (by kernel_rfl),(by kernel_rfl)⟩
  clear h
  rintro fr S ⟨x46,fr,h,rfl,rfl⟩
  replace h := hK48 _ h
  refine r_done ?_
  repeat refine r_done ?_
  repeat refine r_done ?_
  obtain rfl := h_out h
  exact ret_of (RV.tmp RV.nil) (Le.refl _) ⟨rfl,rfl⟩
end Go.Proofs.YtcdoangbkgaapaaK
