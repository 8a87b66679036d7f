/- The code of cellplanelaw31_awake computes what it is to. No condition. -/
import Derived.Test.YtjhdppioeehahaaE
import Derived.Test.YtjhdppioeehahaaC16
import Derived.Test.YtjhdppioeehahaaC18
import Derived.Test.YtjhdppioeehahaaC19
import Derived.Test.YtjhdppioeehahaaC20
import Derived.Test.YtjhdppioeehahaaC21
set_option linter.unusedVariables false
set_option maxHeartbeats 4000000
namespace Go.Proofs.YtjhdppioeehahaaK
open Go Go.RowKit
theorem hc_14 {ρ : Addr → Option Value} {L : List Ent}     {r : Bool} (h : cellplanelaw31_awake = some r) : HC Try.prog 14 #[] ⟨ρ,L⟩ (fun v S' => v = .bool r ∧ S' = ⟨ρ,L⟩) := by
 replace h := h_in h
 refine HC.intro (N := 67) (args := []) tt_ok Try.func14 rfl (by decide +kernel) rfl (Nat.le_of_ble_eq_true rfl) ?_
 refine r_bind ?_
 refine r_done ?_
 refine r_bind ?_
 refine r_call (hc_16 (tenant0 := 0) (from1 := 1) (to2 := 2) (epoch3 := 3)) ?_
 rintro _ _ ⟨bq1,rfl,rfl⟩
 refine r_done ?_
 refine r_bind ?_
 replace h := h_b h; obtain ⟨⟨x3,x4,x5,x6⟩,hx2,h⟩ := h
 refine r_call (hc_18 (bm0 := bq1) (m0 := (migrate_New 0 1 2 3)) (event1 := 1) (n2 := 20) (h := hx2)) ?_
 rintro _ _ ⟨rfl,rfl⟩
 replace h := h_b h; obtain ⟨⟨x8,x9,x10,x11⟩,hx7,h⟩ := h
 refine r_call (hc_18 (bm0 := bq1) (m0 := { (migrate_New 0 1 2 3) with phase := x4,earliest := x5,closed := x6 }) (event1 := 1) (n2 := 3) (h := hx7)) ?_
 rintro _ _ ⟨rfl,rfl⟩
 refine r_keep [(1,.pointer (some ⟨bq1,0,none⟩)),(2,.bool x3),(3,.bool x8)] (by kernel_rfl) fun fr => ?_
 refine r_done ?_
 refine r_bind ?_
 replace h := h_j h; obtain ⟨K17,h,hK18⟩ := h
 refine r_meet (fun fr S => ∃ (x16 : Bool),∃ fr0,K17 x16 = some r ∧ fr = updL [(1,.pointer (some ⟨bq1,0,none⟩)),(2,.bool x3),(3,.bool x8),(4,.bool x16)] fr0 ∧ S = ⟨ρ,.obj bq1 (en_migrate_Migration ({ (migrate_New 0 1 2 3) with phase := x9,earliest := x10,closed := x11 })) 97 :: L⟩) ?_ ?_
 ·refine r_call (hc_20 (bm0 := bq1) (m0 := { (migrate_New 0 1 2 3) with phase := x9,earliest := x10,closed := x11 })) ?_
  rintro _ _ ⟨rfl,rfl⟩
  refine r_kp [(1,.pointer (some ⟨bq1,0,none⟩)),(2,.bool x3),(3,.bool x8),(14,.int .i64 (migrate_Migration_Phase ({ (migrate_New 0 1 2 3) with phase := x9,earliest := x10,closed := x11 })))] (by kernel_rfl) fun fr => ?_
  refine r_ite (fun (hb12 : (decide ((migrate_Migration_Phase ({ (migrate_New 0 1 2 3) with phase := x9,earliest := x10,closed := x11 })) = 2)) = true) => ?_) (fun (hb12 : (decide ((migrate_Migration_Phase ({ (migrate_New 0 1 2 3) with phase := x9,earliest := x10,closed := x11 })) = 2)) = false) => ?_)
  ·replace h := h_t h hb12
   clear hb12
   refine r_T rfl ?_
   replace h := h_b h; obtain ⟨x14,hx13,h⟩ := h
   refine r_call (hc_21 (bm0 := bq1) (m0 := { (migrate_New 0 1 2 3) with phase := x9,earliest := x10,closed := x11 }) (h := hx13)) ?_
   rintro _ _ ⟨rfl,rfl⟩
   refine r_T rfl ?_
   refine r_ite (fun (hb15 : (decide (x14 = 2)) = true) => ?_) (fun (hb15 : (decide (x14 = 2)) = false) => ?_)
   ·replace h := h_t h hb15
    clear hb15
    refine r_T rfl ?_
    refine r_call (hc_19 (bm0 := bq1) (m0 := { (migrate_New 0 1 2 3) with phase := x9,earliest := x10,closed := x11 })) ?_
    rintro _ _ ⟨rfl,rfl⟩
    refine r_kp [(1,.pointer (some ⟨bq1,0,none⟩)),(2,.bool x3),(3,.bool x8),(21,.bool true),(23,.bool (migrate_Migration_Closed ({ (migrate_New 0 1 2 3) with phase := x9,earliest := x10,closed := x11 })))] (by kernel_rfl) fun fr => ?_
    refine r_T rfl ?_
    exact r_done ⟨!(migrate_Migration_Closed ({ (migrate_New 0 1 2 3) with phase := x9,earliest := x10,closed := x11 })),_,h,fr_eq _ (by kernel_rfl),(by kernel_rfl)⟩
   ·replace h := h_f h hb15
    clear hb15
    refine r_F rfl ?_
    refine r_kp [(1,.pointer (some ⟨bq1,0,none⟩)),(2,.bool x3),(3,.bool x8),(21,.bool false),(23,undef)] (by kernel_rfl) fun fr => ?_
    refine r_F rfl ?_
    refine r_F rfl ?_
    exact r_done ⟨false,_,h,fr_eq _ (by kernel_rfl),(by kernel_rfl)⟩
  ·replace h := h_f h hb12
   clear hb12
   refine r_F rfl ?_
   refine r_F rfl ?_
   refine r_F rfl ?_
   refine r_F rfl ?_
   refine r_F rfl ?_
   refine r_kp [(1,.pointer (some ⟨bq1,0,none⟩)),(2,.bool x3),(3,.bool x8),(21,.bool false),(23,undef)] (by kernel_rfl) fun fr => ?_
   refine r_F rfl ?_
   refine r_F rfl ?_
   exact r_done ⟨false,_,h,fr_eq _ (by kernel_rfl),(by kernel_rfl)⟩
 clear h
 rintro fr S ⟨x16,fr,h,rfl,rfl⟩
 replace h := hK18 _ h
 refine r_done ?_
 refine r_bind ?_
 replace h := h_b h; obtain ⟨⟨x20,x21,x22,x23⟩,hx19,h⟩ := h
 refine r_call (hc_18 (bm0 := bq1) (m0 := { (migrate_New 0 1 2 3) with phase := x9,earliest := x10,closed := x11 }) (event1 := 2) (n2 := 0) (h := hx19)) ?_
 rintro _ _ ⟨rfl,rfl⟩
 replace h := h_b h; obtain ⟨⟨x25,x26,x27,x28⟩,hx24,h⟩ := h
 refine r_call (hc_18 (bm0 := bq1) (m0 := { (migrate_New 0 1 2 3) with phase := x21,earliest := x22,closed := x23 }) (event1 := 5) (n2 := 0) (h := hx24)) ?_
 rintro _ _ ⟨rfl,rfl⟩
 refine r_done ?_
 refine r_bind ?_
 replace h := h_j h; obtain ⟨K34,h,hK35⟩ := h
 refine r_meet (fun fr S => ∃ (x33 : Bool),∃ fr0,K34 x33 = some r ∧ fr = updL [(1,.pointer (some ⟨bq1,0,none⟩)),(2,.bool x3),(3,.bool x8),(4,.bool x16),(5,.bool x20),(6,.bool x25),(7,.bool x33)] fr0 ∧ S = ⟨ρ,.obj bq1 (en_migrate_Migration ({ (migrate_New 0 1 2 3) with phase := x26,earliest := x27,closed := x28 })) 97 :: L⟩) ?_ ?_
 ·refine r_call (hc_20 (bm0 := bq1) (m0 := { (migrate_New 0 1 2 3) with phase := x26,earliest := x27,closed := x28 })) ?_
  rintro _ _ ⟨rfl,rfl⟩
  refine r_ite (fun (hb29 : (decide ((migrate_Migration_Phase ({ (migrate_New 0 1 2 3) with phase := x26,earliest := x27,closed := x28 })) = 8)) = true) => ?_) (fun (hb29 : (decide ((migrate_Migration_Phase ({ (migrate_New 0 1 2 3) with phase := x26,earliest := x27,closed := x28 })) = 8)) = false) => ?_)
  ·replace h := h_t h hb29
   clear hb29
   refine r_T rfl ?_
   replace h := h_b h; obtain ⟨x31,hx30,h⟩ := h
   refine r_call (hc_21 (bm0 := bq1) (m0 := { (migrate_New 0 1 2 3) with phase := x26,earliest := x27,closed := x28 }) (h := hx30)) ?_
   rintro _ _ ⟨rfl,rfl⟩
   refine r_kp [(1,.pointer (some ⟨bq1,0,none⟩)),(2,.bool x3),(3,.bool x8),(4,.bool x16),(5,.bool x20),(6,.bool x25),(33,.bool true),(35,.int .i64 x31)] (by kernel_rfl) fun fr => ?_
   refine r_T rfl ?_
   refine r_ite (fun (hb32 : (decide (x31 = 5)) = true) => ?_) (fun (hb32 : (decide (x31 = 5)) = false) => ?_)
   ·replace h := h_t h hb32
    clear hb32
    refine r_T rfl ?_
    refine r_call (hc_19 (bm0 := bq1) (m0 := { (migrate_New 0 1 2 3) with phase := x26,earliest := x27,closed := x28 })) ?_
    rintro _ _ ⟨rfl,rfl⟩
    exact r_done ⟨(migrate_Migration_Closed ({ (migrate_New 0 1 2 3) with phase := x26,earliest := x27,closed := x28 })),_,h,fr_eq _ (by kernel_rfl),(by kernel_rfl)⟩
   ·replace h := h_f h hb32
    clear hb32
    refine r_F rfl ?_
    refine r_F rfl ?_
    exact r_done ⟨false,_,h,fr_eq _ (by kernel_rfl),(by kernel_rfl)⟩
  ·replace h := h_f h hb29
   clear hb29
   refine r_F rfl ?_
   refine r_kp [(1,.pointer (some ⟨bq1,0,none⟩)),(2,.bool x3),(3,.bool x8),(4,.bool x16),(5,.bool x20),(6,.bool x25),(33,.bool false),(35,undef)] (by kernel_rfl) fun fr => ?_
   refine r_F rfl ?_
   refine r_F rfl ?_
   refine r_F rfl ?_
   refine r_F rfl ?_
   refine r_F rfl ?_
   exact r_done ⟨false,_,h,fr_eq _ (by kernel_rfl),(by kernel_rfl)⟩
 clear h
 rintro fr S ⟨x33,fr,h,rfl,rfl⟩
 replace h := hK35 _ h
 refine r_done ?_
 refine r_bind ?_
 replace h := h_j h; obtain ⟨K51,h,hK52⟩ := h
 refine r_meet (fun fr S => ∃ (x50 : Bool),∃ fr0,K51 x50 = some r ∧ fr = updL [(0,.bool x50)] fr0 ∧ S = ⟨ρ,L⟩) ?_ ?_
 ·refine r_ite (fun (hb36 : x3 = true) => ?_) (fun (hb36 : x3 = false) => ?_)
  ·replace h := h_t h hb36
   clear hb36
   refine r_kp [(1,.pointer (some ⟨bq1,0,none⟩)),(4,.bool x16),(5,.bool x20),(6,.bool x25),(7,.bool x33),(43,.bool true),(44,.bool x8)] (by kernel_rfl) fun fr => ?_
   refine r_ite (fun (hb37 : x8 = true) => ?_) (fun (hb37 : x8 = false) => ?_)
   ·replace h := h_t h hb37
    clear hb37
    refine r_ite (fun (hb38 : x16 = true) => ?_) (fun (hb38 : x16 = false) => ?_)
    ·replace h := h_t h hb38
     clear hb38
     refine r_ite (fun (hb39 : x20 = true) => ?_) (fun (hb39 : x20 = false) => ?_)
     ·replace h := h_t h hb39
      clear hb39
      refine r_kp [(1,.pointer (some ⟨bq1,0,none⟩)),(7,.bool x33),(52,.bool true),(53,.bool x25)] (by kernel_rfl) fun fr => ?_
      refine r_ite (fun (hb40 : x25 = true) => ?_) (fun (hb40 : x25 = false) => ?_)
      ·replace h := h_t h hb40
       clear hb40
       refine r_ite (fun (hb41 : x33 = true) => ?_) (fun (hb41 : x33 = false) => ?_)
       ·replace h := h_t h hb41
        clear hb41
        refine r_T rfl ?_
        replace h := h_b h; obtain ⟨⟨x43,x44,x45,x46⟩,hx42,h⟩ := h
        refine r_call (hc_18 (bm0 := bq1) (m0 := { (migrate_New 0 1 2 3) with phase := x26,earliest := x27,closed := x28 }) (event1 := 6) (n2 := 0) (h := hx42)) ?_
        rintro _ _ ⟨rfl,rfl⟩
        refine r_ite (fun (hb47 : x43 = true) => ?_) (fun (hb47 : x43 = false) => ?_)
        ·replace h := h_t h hb47
         clear hb47
         refine r_kp [(62,.bool true),(63,.pointer (some ⟨bq1,0,none⟩))] (by kernel_rfl) fun fr => ?_
         refine r_T rfl ?_
         replace h := h_b h; obtain ⟨x49,hx48,h⟩ := h
         refine r_call (hc_21 (bm0 := bq1) (m0 := { (migrate_New 0 1 2 3) with phase := x44,earliest := x45,closed := x46 }) (h := hx48)) ?_
         rintro _ _ ⟨rfl,rfl⟩
         refine r_T rfl ?_
         refine r_le (le_w [false]) ?_
         exact r_done ⟨decide (x49 = 6),_,h,fr_eq _ (by kernel_rfl),(by kernel_rfl)⟩
        ·replace h := h_f h hb47
         clear hb47
         refine r_kp [(62,.bool false),(63,undef)] (by kernel_rfl) fun fr => ?_
         refine r_F rfl ?_
         refine r_F rfl ?_
         refine r_F rfl ?_
         refine r_le (le_w [false]) ?_
         exact r_done ⟨false,_,h,fr_eq _ (by kernel_rfl),(by kernel_rfl)⟩
       ·replace h := h_f h hb41
        clear hb41
        refine r_F rfl ?_
        refine r_F rfl ?_
        refine r_F rfl ?_
        refine r_kp [(62,.bool false),(63,undef)] (by kernel_rfl) fun fr => ?_
        refine r_F rfl ?_
        refine r_F rfl ?_
        refine r_F rfl ?_
        refine r_le (le_w [false]) ?_
        exact r_done ⟨false,_,h,fr_eq _ (by kernel_rfl),(by kernel_rfl)⟩
      ·replace h := h_f h hb40
       clear hb40
       refine r_F rfl ?_
       refine r_F rfl ?_
       refine r_F rfl ?_
       refine r_F rfl ?_
       refine r_F rfl ?_
       refine r_kp [(62,.bool false),(63,undef)] (by kernel_rfl) fun fr => ?_
       refine r_F rfl ?_
       refine r_F rfl ?_
       refine r_F rfl ?_
       refine r_le (le_w [false]) ?_
       exact r_done ⟨false,_,h,fr_eq _ (by kernel_rfl),(by kernel_rfl)⟩
     ·replace h := h_f h hb39
      clear hb39
      refine r_kp [(1,.pointer (some ⟨bq1,0,none⟩)),(7,.bool x33),(52,.bool false),(53,undef)] (by kernel_rfl) fun fr => ?_
      refine r_F rfl ?_
      refine r_F rfl ?_
      refine r_F rfl ?_
      refine r_F rfl ?_
      refine r_F rfl ?_
      refine r_F rfl ?_
      refine r_F rfl ?_
      refine r_kp [(62,.bool false),(63,undef)] (by kernel_rfl) fun fr => ?_
      refine r_F rfl ?_
      refine r_F rfl ?_
      refine r_F rfl ?_
      refine r_le (le_w [false]) ?_
      exact r_done ⟨false,_,h,fr_eq _ (by kernel_rfl),(by kernel_rfl)⟩
    ·replace h := h_f h hb38
     clear hb38
     refine r_F rfl ?_
     refine r_F rfl ?_
     refine r_kp [(1,.pointer (some ⟨bq1,0,none⟩)),(7,.bool x33),(52,.bool false),(53,undef)] (by kernel_rfl) fun fr => ?_
     refine r_F rfl ?_
     refine r_F rfl ?_
     refine r_F rfl ?_
     refine r_F rfl ?_
     refine r_F rfl ?_
     refine r_F rfl ?_
     refine r_F rfl ?_
     refine r_kp [(62,.bool false),(63,undef)] (by kernel_rfl) fun fr => ?_
     refine r_F rfl ?_
     refine r_F rfl ?_
     refine r_F rfl ?_
     refine r_le (le_w [false]) ?_
     exact r_done ⟨false,_,h,fr_eq _ (by kernel_rfl),(by kernel_rfl)⟩
   ·replace h := h_f h hb37
    clear hb37
    refine r_F rfl ?_
    refine r_F rfl ?_
    refine r_F rfl ?_
    refine r_F rfl ?_
    refine r_kp [(1,.pointer (some ⟨bq1,0,none⟩)),(7,.bool x33),(52,.bool false),(53,undef)] (by kernel_rfl) fun fr => ?_
    refine r_F rfl ?_
    refine r_F rfl ?_
    refine r_F rfl ?_
    refine r_F rfl ?_
    refine r_F rfl ?_
    refine r_F rfl ?_
    refine r_F rfl ?_
    refine r_kp [(62,.bool false),(63,undef)] (by kernel_rfl) fun fr => ?_
    refine r_F rfl ?_
    refine r_F rfl ?_
    refine r_F rfl ?_
    refine r_le (le_w [false]) ?_
    exact r_done ⟨false,_,h,fr_eq _ (by kernel_rfl),(by kernel_rfl)⟩
  ·replace h := h_f h hb36
   clear hb36
   refine r_kp [(1,.pointer (some ⟨bq1,0,none⟩)),(4,.bool x16),(5,.bool x20),(6,.bool x25),(7,.bool x33),(43,.bool false),(44,undef)] (by kernel_rfl) fun fr => ?_
   refine r_F rfl ?_
   refine r_F rfl ?_
   refine r_F rfl ?_
   refine r_F rfl ?_
   refine r_F rfl ?_
   refine r_F rfl ?_
   refine r_kp [(1,.pointer (some ⟨bq1,0,none⟩)),(7,.bool x33),(52,.bool false),(53,undef)] (by kernel_rfl) fun fr => ?_
   refine r_F rfl ?_
   refine r_F rfl ?_
   refine r_F rfl ?_
   refine r_F rfl ?_
   refine r_F rfl ?_
   refine r_F rfl ?_
   refine r_F rfl ?_
   refine r_kp [(62,.bool false),(63,undef)] (by kernel_rfl) fun fr => ?_
   refine r_F rfl ?_
   refine r_F rfl ?_
   refine r_F rfl ?_
   refine r_le (le_w [false]) ?_
   exact r_done ⟨false,_,h,fr_eq _ (by kernel_rfl),(by kernel_rfl)⟩
 clear h
 rintro fr S ⟨x50,fr,h,rfl,rfl⟩
 replace h := hK52 _ h
 refine r_done ?_
 repeat refine r_done ?_
 repeat refine r_done ?_
 obtain rfl := h_out h
 exact ret_of (RV.tmp RV.nil) (Le.refl _) ⟨rfl,rfl⟩
end Go.Proofs.YtjhdppioeehahaaK
