/- The code of migrate_Migration_after computes what it is to. No condition. -/
import Derived.Test.YtjhdppioeehahaaE
set_option linter.unusedVariables false
set_option maxHeartbeats 4000000
namespace Go.Proofs.YtjhdppioeehahaaK
open Go Go.RowKit
theorem hc_67 {ρ : Addr → Option Value} {L : List Ent} {bm0 : Nat}  (m0 : migrate_Migration) (event1 : Int) (n2 : Int)  {r : Int} (h : migrate_Migration_after m0 event1 n2 = some r) : HC Try.prog 67 #[.pointer (some ⟨bm0,0,none⟩),.int .i64 event1,.int .i64 n2] ⟨ρ,.obj bm0 (en_migrate_Migration m0) 97 :: L⟩ (fun v S' => v = .int .i64 r ∧ S' = ⟨ρ,.obj bm0 (en_migrate_Migration m0) 97 :: L⟩) := by
 replace h := h_in h
 refine HC.intro (N := 132) (args := [_,_,_]) tt_ok Try.func67 rfl (by decide +kernel) rfl (Nat.le_of_ble_eq_true rfl) ?_
 refine r_bind ?_
 refine r_done ?_
 refine r_bind ?_
 refine r_bind ?_
 refine r_meet (fun fr S => ∃ fr0,fr = updL [(0,.pointer (some ⟨bm0,0,none⟩)),(1,.int .i64 event1),(2,.int .i64 n2),(22,.bool ((decide (event1 = 8)) && ((!decide (m0.phase = 6)) && (!decide (m0.phase = 10)))))] fr0 ∧ S = ⟨ρ,.obj bm0 (en_migrate_Migration m0) 97 :: L⟩) ?_ ?_
 ·refine r_ite (fun (hb1 : (decide (event1 = 8)) = true) => ?_) (fun (hb1 : (decide (event1 = 8)) = false) => ?_)
  ·refine r_kp [(0,.pointer (some ⟨bm0,0,none⟩)),(1,.int .i64 event1),(2,.int .i64 n2),(9,.bool true),(10,.pointer (some ⟨bm0,0,none⟩))] (by kernel_rfl) fun fr => ?_
   refine r_T rfl ?_
   refine r_T rfl ?_
   refine r_T rfl ?_
   refine r_ld 0 tt_ok (v := .int .i64 m0.phase) ts_3 rfl (by kernel_rfl) ?_
   refine r_T rfl ?_
   refine r_ite (fun (hb2 : (!decide (m0.phase = 6)) = true) => ?_) (fun (hb2 : (!decide (m0.phase = 6)) = false) => ?_)
   ·refine r_T rfl ?_
    refine r_T rfl ?_
    refine r_kp [(0,.pointer (some ⟨bm0,0,none⟩)),(1,.int .i64 event1),(2,.int .i64 n2),(16,.bool true),(19,.pointer (some ⟨bm0,4,none⟩))] (by kernel_rfl) fun fr => ?_
    refine r_T rfl ?_
    refine r_ld 0 tt_ok (v := .int .i64 m0.phase) ts_3 rfl (by kernel_rfl) ?_
    refine r_T rfl ?_
    exact r_done ⟨_,fr_eq _ (by (try rw [hb2]); (try rw [hb1]); kernel_rfl),(by kernel_rfl)⟩
   ·refine r_F rfl ?_
    refine r_F rfl ?_
    refine r_kp [(0,.pointer (some ⟨bm0,0,none⟩)),(1,.int .i64 event1),(2,.int .i64 n2),(16,.bool false),(19,undef)] (by kernel_rfl) fun fr => ?_
    refine r_F rfl ?_
    refine r_F rfl ?_
    refine r_F rfl ?_
    exact r_done ⟨_,fr_eq _ (by (try rw [hb2]); (try rw [hb1]); kernel_rfl),(by kernel_rfl)⟩
  ·refine r_kp [(0,.pointer (some ⟨bm0,0,none⟩)),(1,.int .i64 event1),(2,.int .i64 n2),(9,.bool false),(10,undef)] (by kernel_rfl) fun fr => ?_
   refine r_F rfl ?_
   refine r_F rfl ?_
   refine r_F rfl ?_
   refine r_F rfl ?_
   refine r_F rfl ?_
   refine r_F rfl ?_
   refine r_F rfl ?_
   refine r_F rfl ?_
   refine r_kp [(0,.pointer (some ⟨bm0,0,none⟩)),(1,.int .i64 event1),(2,.int .i64 n2),(16,.bool false),(19,undef)] (by kernel_rfl) fun fr => ?_
   refine r_F rfl ?_
   refine r_F rfl ?_
   refine r_F rfl ?_
   exact r_done ⟨_,fr_eq _ (by (try rw [hb1]); kernel_rfl),(by kernel_rfl)⟩
 rintro fr S ⟨fr,rfl,rfl⟩
 refine r_done ?_
 refine r_ite (fun hb3 => ?_) (fun hb3 => ?_)
 ·replace h := h_t h hb3
  clear hb3
  refine r_bind ?_
  refine r_done ?_
  repeat refine r_done ?_
  repeat refine r_done ?_
  obtain rfl := h_out h
  exact ret_of (RV.tmp RV.nil) (Le.refl _) ⟨rfl,rfl⟩
 ·replace h := h_f h hb3
  clear hb3
  refine r_done ?_
  refine r_bind ?_
  refine r_bind ?_
  refine r_ld 0 tt_ok (v := .int .i64 m0.phase) ts_3 rfl (by kernel_rfl) ?_
  refine r_done ?_
  refine r_bind ?_
  refine r_bind ?_
  replace h := h_j h; obtain ⟨K6,h,hK7⟩ := h
  refine r_meet (fun fr S => ∃ (x5 : Bool),∃ fr0,K6 x5 = some r ∧ fr = updL [(0,.pointer (some ⟨bm0,0,none⟩)),(1,.int .i64 event1),(2,.int .i64 n2),(26,.int .i64 m0.phase),(27,.bool x5)] fr0 ∧ S = ⟨ρ,.obj bm0 (en_migrate_Migration m0) 97 :: L⟩) ?_ ?_
  ·refine r_bind ?_
   refine r_done ?_
   refine r_ite (fun hb4 => ?_) (fun hb4 => ?_)
   ·replace h := h_t h hb4
    clear hb4
    exact r_done ⟨true,_,h,fr_eq _ (by kernel_rfl),(by kernel_rfl)⟩
   ·replace h := h_f h hb4
    clear hb4
    refine r_keep [(0,.pointer (some ⟨bm0,0,none⟩)),(1,.int .i64 event1),(2,.int .i64 n2),(26,.int .i64 m0.phase),(27,.bool (decide (m0.phase = 2)))] (by kernel_rfl) fun fr => ?_
    exact r_done ⟨decide (m0.phase = 2),_,h,fr_eq _ (by kernel_rfl),(by kernel_rfl)⟩
  clear h
  rintro fr S ⟨x5,fr,h,rfl,rfl⟩
  replace h := hK7 _ h
  refine r_done ?_
  refine r_ite (fun hb8 => ?_) (fun hb8 => ?_)
  ·replace h := h_t h hb8
   clear hb8
   refine r_bind ?_
   refine r_bind ?_
   refine r_meet (fun fr S => ∃ fr0,fr = updL [(0,.pointer (some ⟨bm0,0,none⟩)),(1,.int .i64 event1),(2,.int .i64 n2),(30,.bool ((decide (event1 = 1)) && (decide (8 < n2))))] fr0 ∧ S = ⟨ρ,.obj bm0 (en_migrate_Migration m0) 97 :: L⟩) ?_ ?_
   ·refine r_ite (fun (hb9 : (decide (event1 = 1)) = true) => ?_) (fun (hb9 : (decide (event1 = 1)) = false) => ?_)
    ·refine r_T rfl ?_
     refine r_kp [(0,.pointer (some ⟨bm0,0,none⟩)),(1,.int .i64 event1),(2,.int .i64 n2),(33,.bool true),(35,.bool (decide (8 < n2)))] (by kernel_rfl) fun fr => ?_
     exact r_done ⟨_,fr_eq _ (by (try rw [hb9]); kernel_rfl),(by kernel_rfl)⟩
    ·refine r_F rfl ?_
     refine r_kp [(0,.pointer (some ⟨bm0,0,none⟩)),(1,.int .i64 event1),(2,.int .i64 n2),(33,.bool false),(35,undef)] (by kernel_rfl) fun fr => ?_
     refine r_F rfl ?_
     exact r_done ⟨_,fr_eq _ (by (try rw [hb9]); kernel_rfl),(by kernel_rfl)⟩
   rintro fr S ⟨fr,rfl,rfl⟩
   refine r_done ?_
   refine r_ite (fun hb10 => ?_) (fun hb10 => ?_)
   ·replace h := h_t h hb10
    clear hb10
    refine r_bind ?_
    refine r_done ?_
    repeat refine r_done ?_
    repeat refine r_done ?_
    obtain rfl := h_out h
    exact ret_of (RV.tmp RV.nil) (Le.refl _) ⟨rfl,rfl⟩
   ·replace h := h_f h hb10
    clear hb10
    refine r_bind ?_
    refine r_meet (fun fr S => ∃ fr0,fr = updL [(0,.pointer (some ⟨bm0,0,none⟩)),(1,.int .i64 event1),(37,.bool ((decide (event1 = 1)) && (decide (0 ≤ n2))))] fr0 ∧ S = ⟨ρ,.obj bm0 (en_migrate_Migration m0) 97 :: L⟩) ?_ ?_
    ·refine r_ite (fun (hb11 : (decide (event1 = 1)) = true) => ?_) (fun (hb11 : (decide (event1 = 1)) = false) => ?_)
     ·refine r_T rfl ?_
      refine r_kp [(0,.pointer (some ⟨bm0,0,none⟩)),(1,.int .i64 event1),(40,.bool true),(42,.bool (decide (0 ≤ n2)))] (by kernel_rfl) fun fr => ?_
      exact r_done ⟨_,fr_eq _ (by (try rw [hb11]); kernel_rfl),(by kernel_rfl)⟩
     ·refine r_F rfl ?_
      refine r_kp [(0,.pointer (some ⟨bm0,0,none⟩)),(1,.int .i64 event1),(40,.bool false),(42,undef)] (by kernel_rfl) fun fr => ?_
      refine r_F rfl ?_
      exact r_done ⟨_,fr_eq _ (by (try rw [hb11]); kernel_rfl),(by kernel_rfl)⟩
    rintro fr S ⟨fr,rfl,rfl⟩
    refine r_done ?_
    refine r_ite (fun hb12 => ?_) (fun hb12 => ?_)
    ·replace h := h_t h hb12
     clear hb12
     refine r_bind ?_
     refine r_done ?_
     repeat refine r_done ?_
     repeat refine r_done ?_
     obtain rfl := h_out h
     exact ret_of (RV.tmp RV.nil) (Le.refl _) ⟨rfl,rfl⟩
    ·replace h := h_f h hb12
     clear hb12
     refine r_bind ?_
     refine r_meet (fun fr S => ∃ fr0,fr = updL [(1,.int .i64 event1),(44,.bool ((decide (event1 = 2)) && (decide (m0.phase = 2))))] fr0 ∧ S = ⟨ρ,.obj bm0 (en_migrate_Migration m0) 97 :: L⟩) ?_ ?_
     ·refine r_ite (fun (hb13 : (decide (event1 = 2)) = true) => ?_) (fun (hb13 : (decide (event1 = 2)) = false) => ?_)
      ·refine r_T rfl ?_
       refine r_kp [(1,.int .i64 event1),(47,.bool true),(49,.pointer (some ⟨bm0,0,none⟩))] (by kernel_rfl) fun fr => ?_
       refine r_T rfl ?_
       refine r_T rfl ?_
       refine r_ld 0 tt_ok (v := .int .i64 m0.phase) ts_3 rfl (by kernel_rfl) ?_
       refine r_T rfl ?_
       exact r_done ⟨_,fr_eq _ (by (try rw [hb13]); kernel_rfl),(by kernel_rfl)⟩
      ·refine r_F rfl ?_
       refine r_kp [(1,.int .i64 event1),(47,.bool false),(49,undef)] (by kernel_rfl) fun fr => ?_
       refine r_F rfl ?_
       refine r_F rfl ?_
       refine r_F rfl ?_
       refine r_F rfl ?_
       exact r_done ⟨_,fr_eq _ (by (try rw [hb13]); kernel_rfl),(by kernel_rfl)⟩
     rintro fr S ⟨fr,rfl,rfl⟩
     refine r_done ?_
     refine r_ite (fun hb14 => ?_) (fun hb14 => ?_)
     ·replace h := h_t h hb14
      clear hb14
      refine r_bind ?_
      refine r_done ?_
      repeat refine r_done ?_
      repeat refine r_done ?_
      obtain rfl := h_out h
      exact ret_of (RV.tmp RV.nil) (Le.refl _) ⟨rfl,rfl⟩
     ·replace h := h_f h hb14
      clear hb14
      refine r_bind ?_
      refine r_done ?_
      refine r_ite (fun hb15 => ?_) (fun hb15 => ?_)
      ·replace h := h_t h hb15
       clear hb15
       refine r_bind ?_
       refine r_done ?_
       repeat refine r_done ?_
       repeat refine r_done ?_
       obtain rfl := h_out h
       exact ret_of (RV.tmp RV.nil) (Le.refl _) ⟨rfl,rfl⟩
      ·replace h := h_f h hb15
       clear hb15
       refine r_done ?_
       refine r_done ?_
       refine r_done ?_
       refine r_bind ?_
       refine r_done ?_
       repeat refine r_done ?_
       repeat refine r_done ?_
       obtain rfl := h_out h
       exact ret_of (RV.tmp RV.nil) (Le.refl _) ⟨rfl,rfl⟩
  ·replace h := h_f h hb8
   clear hb8
   refine r_bind ?_
   replace h := h_j h; obtain ⟨K19,h,hK20⟩ := h
   refine r_meet (fun fr S => ∃ (x18 : Bool),∃ fr0,K19 x18 = some r ∧ fr = updL [(0,.pointer (some ⟨bm0,0,none⟩)),(1,.int .i64 event1),(2,.int .i64 n2),(26,.int .i64 m0.phase),(57,.bool x18)] fr0 ∧ S = ⟨ρ,.obj bm0 (en_migrate_Migration m0) 97 :: L⟩) ?_ ?_
   ·refine r_bind ?_
    refine r_done ?_
    refine r_ite (fun hb16 => ?_) (fun hb16 => ?_)
    ·replace h := h_t h hb16
     clear hb16
     exact r_done ⟨true,_,h,fr_eq _ (by kernel_rfl),(by kernel_rfl)⟩
    ·replace h := h_f h hb16
     clear hb16
     refine r_bind ?_
     refine r_done ?_
     refine r_ite (fun hb17 => ?_) (fun hb17 => ?_)
     ·replace h := h_t h hb17
      clear hb17
      exact r_done ⟨true,_,h,fr_eq _ (by kernel_rfl),(by kernel_rfl)⟩
     ·replace h := h_f h hb17
      clear hb17
      exact r_done ⟨decide (m0.phase = 5),_,h,fr_eq _ (by kernel_rfl),(by kernel_rfl)⟩
   clear h
   rintro fr S ⟨x18,fr,h,rfl,rfl⟩
   replace h := hK20 _ h
   refine r_done ?_
   refine r_ite (fun hb21 => ?_) (fun hb21 => ?_)
   ·replace h := h_t h hb21
    clear hb21
    refine r_bind ?_
    refine r_bind ?_
    refine r_done ?_
    refine r_ite (fun hb22 => ?_) (fun hb22 => ?_)
    ·replace h := h_t h hb22
     clear hb22
     refine r_bind ?_
     refine r_done ?_
     repeat refine r_done ?_
     repeat refine r_done ?_
     obtain rfl := h_out h
     exact ret_of (RV.tmp RV.nil) (Le.refl _) ⟨rfl,rfl⟩
    ·replace h := h_f h hb22
     clear hb22
     refine r_bind ?_
     refine r_meet (fun fr S => ∃ fr0,fr = updL [(0,.pointer (some ⟨bm0,0,none⟩)),(1,.int .i64 event1),(2,.int .i64 n2),(64,.bool ((decide (event1 = 1)) && ((decide (m0.phase = 3)) && (decide (0 < n2)))))] fr0 ∧ S = ⟨ρ,.obj bm0 (en_migrate_Migration m0) 97 :: L⟩) ?_ ?_
     ·refine r_ite (fun (hb23 : (decide (event1 = 1)) = true) => ?_) (fun (hb23 : (decide (event1 = 1)) = false) => ?_)
      ·refine r_kp [(0,.pointer (some ⟨bm0,0,none⟩)),(1,.int .i64 event1),(2,.int .i64 n2),(67,.bool true),(68,.pointer (some ⟨bm0,0,none⟩))] (by kernel_rfl) fun fr => ?_
       refine r_T rfl ?_
       refine r_T rfl ?_
       refine r_T rfl ?_
       refine r_ld 0 tt_ok (v := .int .i64 m0.phase) ts_3 rfl (by kernel_rfl) ?_
       refine r_T rfl ?_
       refine r_ite (fun (hb24 : (decide (m0.phase = 3)) = true) => ?_) (fun (hb24 : (decide (m0.phase = 3)) = false) => ?_)
       ·refine r_T rfl ?_
        refine r_keep [(0,.pointer (some ⟨bm0,0,none⟩)),(1,.int .i64 event1),(2,.int .i64 n2),(64,.bool (decide (0 < n2)))] (by kernel_rfl) fun fr => ?_
        exact r_done ⟨_,fr_eq _ (by (try rw [hb24]); (try rw [hb23]); kernel_rfl),(by kernel_rfl)⟩
       ·refine r_F rfl ?_
        refine r_F rfl ?_
        refine r_kp [(0,.pointer (some ⟨bm0,0,none⟩)),(1,.int .i64 event1),(2,.int .i64 n2),(77,.bool false)] (by kernel_rfl) fun fr => ?_
        exact r_done ⟨_,fr_eq _ (by (try rw [hb24]); (try rw [hb23]); kernel_rfl),(by kernel_rfl)⟩
      ·refine r_kp [(0,.pointer (some ⟨bm0,0,none⟩)),(1,.int .i64 event1),(2,.int .i64 n2),(67,.bool false),(68,undef)] (by kernel_rfl) fun fr => ?_
       refine r_F rfl ?_
       refine r_F rfl ?_
       refine r_F rfl ?_
       refine r_F rfl ?_
       refine r_F rfl ?_
       refine r_F rfl ?_
       refine r_F rfl ?_
       refine r_F rfl ?_
       refine r_kp [(0,.pointer (some ⟨bm0,0,none⟩)),(1,.int .i64 event1),(2,.int .i64 n2),(77,.bool false)] (by kernel_rfl) fun fr => ?_
       exact r_done ⟨_,fr_eq _ (by (try rw [hb23]); kernel_rfl),(by kernel_rfl)⟩
     rintro fr S ⟨fr,rfl,rfl⟩
     refine r_done ?_
     refine r_ite (fun hb25 => ?_) (fun hb25 => ?_)
     ·replace h := h_t h hb25
      clear hb25
      refine r_bind ?_
      refine r_done ?_
      repeat refine r_done ?_
      repeat refine r_done ?_
      obtain rfl := h_out h
      exact ret_of (RV.tmp RV.nil) (Le.refl _) ⟨rfl,rfl⟩
     ·replace h := h_f h hb25
      clear hb25
      refine r_bind ?_
      refine r_meet (fun fr S => ∃ fr0,fr = updL [(0,.pointer (some ⟨bm0,0,none⟩)),(1,.int .i64 event1),(2,.int .i64 n2),(78,.bool ((decide (event1 = 1)) && ((decide (m0.phase = 3)) && (decide (n2 = 0)))))] fr0 ∧ S = ⟨ρ,.obj bm0 (en_migrate_Migration m0) 97 :: L⟩) ?_ ?_
      ·refine r_ite (fun (hb26 : (decide (event1 = 1)) = true) => ?_) (fun (hb26 : (decide (event1 = 1)) = false) => ?_)
       ·refine r_T rfl ?_
        refine r_kp [(0,.pointer (some ⟨bm0,0,none⟩)),(1,.int .i64 event1),(2,.int .i64 n2),(81,.bool true),(83,.pointer (some ⟨bm0,0,none⟩))] (by kernel_rfl) fun fr => ?_
        refine r_T rfl ?_
        refine r_T rfl ?_
        refine r_ld 0 tt_ok (v := .int .i64 m0.phase) ts_3 rfl (by kernel_rfl) ?_
        refine r_T rfl ?_
        refine r_ite (fun (hb27 : (decide (m0.phase = 3)) = true) => ?_) (fun (hb27 : (decide (m0.phase = 3)) = false) => ?_)
        ·refine r_T rfl ?_
         refine r_keep [(0,.pointer (some ⟨bm0,0,none⟩)),(1,.int .i64 event1),(2,.int .i64 n2),(78,.bool (decide (n2 = 0)))] (by kernel_rfl) fun fr => ?_
         exact r_done ⟨_,fr_eq _ (by (try rw [hb27]); (try rw [hb26]); kernel_rfl),(by kernel_rfl)⟩
        ·refine r_F rfl ?_
         refine r_F rfl ?_
         refine r_keep [(0,.pointer (some ⟨bm0,0,none⟩)),(1,.int .i64 event1),(2,.int .i64 n2),(78,.bool false)] (by kernel_rfl) fun fr => ?_
         exact r_done ⟨_,fr_eq _ (by (try rw [hb27]); (try rw [hb26]); kernel_rfl),(by kernel_rfl)⟩
       ·refine r_F rfl ?_
        refine r_kp [(0,.pointer (some ⟨bm0,0,none⟩)),(1,.int .i64 event1),(2,.int .i64 n2),(81,.bool false),(83,undef)] (by kernel_rfl) fun fr => ?_
        refine r_F rfl ?_
        refine r_F rfl ?_
        refine r_F rfl ?_
        refine r_F rfl ?_
        refine r_F rfl ?_
        refine r_F rfl ?_
        refine r_F rfl ?_
        refine r_keep [(0,.pointer (some ⟨bm0,0,none⟩)),(1,.int .i64 event1),(2,.int .i64 n2),(78,.bool false)] (by kernel_rfl) fun fr => ?_
        exact r_done ⟨_,fr_eq _ (by (try rw [hb26]); kernel_rfl),(by kernel_rfl)⟩
      rintro fr S ⟨fr,rfl,rfl⟩
      refine r_done ?_
      refine r_ite (fun hb28 => ?_) (fun hb28 => ?_)
      ·replace h := h_t h hb28
       clear hb28
       refine r_bind ?_
       refine r_done ?_
       repeat refine r_done ?_
       repeat refine r_done ?_
       obtain rfl := h_out h
       exact ret_of (RV.tmp RV.nil) (Le.refl _) ⟨rfl,rfl⟩
      ·replace h := h_f h hb28
       clear hb28
       refine r_bind ?_
       refine r_meet (fun fr S => ∃ fr0,fr = updL [(0,.pointer (some ⟨bm0,0,none⟩)),(1,.int .i64 event1),(92,.bool ((decide (event1 = 3)) && ((decide (m0.phase = 4)) && ((decide (0 ≤ n2)) && (decide (n2 ≤ 1073741824))))))] fr0 ∧ S = ⟨ρ,.obj bm0 (en_migrate_Migration m0) 97 :: L⟩) ?_ ?_
       ·refine r_ite (fun (hb29 : (decide (event1 = 3)) = true) => ?_) (fun (hb29 : (decide (event1 = 3)) = false) => ?_)
        ·refine r_T rfl ?_
         refine r_kp [(0,.pointer (some ⟨bm0,0,none⟩)),(1,.int .i64 event1),(2,.int .i64 n2),(95,.bool true),(97,.pointer (some ⟨bm0,0,none⟩))] (by kernel_rfl) fun fr => ?_
         refine r_T rfl ?_
         refine r_T rfl ?_
         refine r_ld 0 tt_ok (v := .int .i64 m0.phase) ts_3 rfl (by kernel_rfl) ?_
         refine r_T rfl ?_
         refine r_ite (fun (hb30 : (decide (m0.phase = 4)) = true) => ?_) (fun (hb30 : (decide (m0.phase = 4)) = false) => ?_)
         ·refine r_T rfl ?_
          refine r_ite (fun (hb31 : (decide (0 ≤ n2)) = true) => ?_) (fun (hb31 : (decide (0 ≤ n2)) = false) => ?_)
          ·refine r_kp [(0,.pointer (some ⟨bm0,0,none⟩)),(1,.int .i64 event1),(106,.bool true),(107,.int .i64 n2)] (by kernel_rfl) fun fr => ?_
           refine r_T rfl ?_
           exact r_done ⟨_,fr_eq _ (by (try rw [hb31]); (try rw [hb30]); (try rw [hb29]); kernel_rfl),(by kernel_rfl)⟩
          ·refine r_kp [(0,.pointer (some ⟨bm0,0,none⟩)),(1,.int .i64 event1),(106,.bool false),(107,undef)] (by kernel_rfl) fun fr => ?_
           refine r_F rfl ?_
           refine r_F rfl ?_
           exact r_done ⟨_,fr_eq _ (by (try rw [hb31]); (try rw [hb30]); (try rw [hb29]); kernel_rfl),(by kernel_rfl)⟩
         ·refine r_F rfl ?_
          refine r_F rfl ?_
          refine r_F rfl ?_
          refine r_kp [(0,.pointer (some ⟨bm0,0,none⟩)),(1,.int .i64 event1),(106,.bool false),(107,undef)] (by kernel_rfl) fun fr => ?_
          refine r_F rfl ?_
          refine r_F rfl ?_
          exact r_done ⟨_,fr_eq _ (by (try rw [hb30]); (try rw [hb29]); kernel_rfl),(by kernel_rfl)⟩
        ·refine r_F rfl ?_
         refine r_kp [(0,.pointer (some ⟨bm0,0,none⟩)),(1,.int .i64 event1),(2,.int .i64 n2),(95,.bool false),(97,undef)] (by kernel_rfl) fun fr => ?_
         refine r_F rfl ?_
         refine r_F rfl ?_
         refine r_F rfl ?_
         refine r_F rfl ?_
         refine r_F rfl ?_
         refine r_F rfl ?_
         refine r_F rfl ?_
         refine r_F rfl ?_
         refine r_kp [(0,.pointer (some ⟨bm0,0,none⟩)),(1,.int .i64 event1),(106,.bool false),(107,undef)] (by kernel_rfl) fun fr => ?_
         refine r_F rfl ?_
         refine r_F rfl ?_
         exact r_done ⟨_,fr_eq _ (by (try rw [hb29]); kernel_rfl),(by kernel_rfl)⟩
       rintro fr S ⟨fr,rfl,rfl⟩
       refine r_done ?_
       refine r_ite (fun hb32 => ?_) (fun hb32 => ?_)
       ·replace h := h_t h hb32
        clear hb32
        refine r_bind ?_
        refine r_done ?_
        repeat refine r_done ?_
        repeat refine r_done ?_
        obtain rfl := h_out h
        exact ret_of (RV.tmp RV.nil) (Le.refl _) ⟨rfl,rfl⟩
       ·replace h := h_f h hb32
        clear hb32
        refine r_bind ?_
        refine r_meet (fun fr S => ∃ fr0,fr = updL [(110,.bool ((decide (event1 = 4)) && (decide (m0.phase = 5))))] fr0 ∧ S = ⟨ρ,.obj bm0 (en_migrate_Migration m0) 97 :: L⟩) ?_ ?_
        ·refine r_ite (fun (hb33 : (decide (event1 = 4)) = true) => ?_) (fun (hb33 : (decide (event1 = 4)) = false) => ?_)
         ·refine r_T rfl ?_
          refine r_kp [(113,.bool true),(115,.pointer (some ⟨bm0,0,none⟩))] (by kernel_rfl) fun fr => ?_
          refine r_T rfl ?_
          refine r_T rfl ?_
          refine r_ld 0 tt_ok (v := .int .i64 m0.phase) ts_3 rfl (by kernel_rfl) ?_
          refine r_T rfl ?_
          exact r_done ⟨_,fr_eq _ (by (try rw [hb33]); kernel_rfl),(by kernel_rfl)⟩
         ·refine r_F rfl ?_
          refine r_kp [(113,.bool false),(115,undef)] (by kernel_rfl) fun fr => ?_
          refine r_F rfl ?_
          refine r_F rfl ?_
          refine r_F rfl ?_
          refine r_F rfl ?_
          exact r_done ⟨_,fr_eq _ (by (try rw [hb33]); kernel_rfl),(by kernel_rfl)⟩
        rintro fr S ⟨fr,rfl,rfl⟩
        refine r_done ?_
        refine r_ite (fun hb34 => ?_) (fun hb34 => ?_)
        ·replace h := h_t h hb34
         clear hb34
         refine r_bind ?_
         refine r_done ?_
         repeat refine r_done ?_
         repeat refine r_done ?_
         obtain rfl := h_out h
         exact ret_of (RV.tmp RV.nil) (Le.refl _) ⟨rfl,rfl⟩
        ·replace h := h_f h hb34
         clear hb34
         refine r_done ?_
         refine r_done ?_
         refine r_done ?_
         refine r_bind ?_
         refine r_done ?_
         repeat refine r_done ?_
         repeat refine r_done ?_
         obtain rfl := h_out h
         exact ret_of (RV.tmp RV.nil) (Le.refl _) ⟨rfl,rfl⟩
   ·replace h := h_f h hb21
    clear hb21
    refine r_bind ?_
    refine r_done ?_
    refine r_ite (fun hb35 => ?_) (fun hb35 => ?_)
    ·replace h := h_t h hb35
     clear hb35
     refine r_bind ?_
     refine r_done ?_
     refine r_ite (fun hb36 => ?_) (fun hb36 => ?_)
     ·replace h := h_t h hb36
      clear hb36
      refine r_bind ?_
      refine r_done ?_
      repeat refine r_done ?_
      repeat refine r_done ?_
      obtain rfl := h_out h
      exact ret_of (RV.tmp RV.nil) (Le.refl _) ⟨rfl,rfl⟩
     ·replace h := h_f h hb36
      clear hb36
      refine r_done ?_
      refine r_done ?_
      refine r_bind ?_
      refine r_done ?_
      repeat refine r_done ?_
      repeat refine r_done ?_
      obtain rfl := h_out h
      exact ret_of (RV.tmp RV.nil) (Le.refl _) ⟨rfl,rfl⟩
    ·replace h := h_f h hb35
     clear hb35
     refine r_bind ?_
     refine r_done ?_
     refine r_ite (fun hb37 => ?_) (fun hb37 => ?_)
     ·replace h := h_t h hb37
      clear hb37
      refine r_bind ?_
      refine r_done ?_
      refine r_ite (fun hb38 => ?_) (fun hb38 => ?_)
      ·replace h := h_t h hb38
       clear hb38
       refine r_bind ?_
       refine r_done ?_
       repeat refine r_done ?_
       repeat refine r_done ?_
       obtain rfl := h_out h
       exact ret_of (RV.tmp RV.nil) (Le.refl _) ⟨rfl,rfl⟩
      ·replace h := h_f h hb38
       clear hb38
       refine r_done ?_
       refine r_done ?_
       refine r_bind ?_
       refine r_done ?_
       repeat refine r_done ?_
       repeat refine r_done ?_
       obtain rfl := h_out h
       exact ret_of (RV.tmp RV.nil) (Le.refl _) ⟨rfl,rfl⟩
     ·replace h := h_f h hb37
      clear hb37
      refine r_bind ?_
      refine r_done ?_
      refine r_ite (fun hb39 => ?_) (fun hb39 => ?_)
      ·replace h := h_t h hb39
       clear hb39
       refine r_bind ?_
       refine r_done ?_
       refine r_ite (fun hb40 => ?_) (fun hb40 => ?_)
       ·replace h := h_t h hb40
        clear hb40
        refine r_bind ?_
        refine r_keep [(6,.int .i64 10)] (by kernel_rfl) fun fr => ?_
        refine r_done ?_
        repeat refine r_done ?_
        repeat refine r_done ?_
        obtain rfl := h_out h
        exact ret_of (RV.tmp RV.nil) (Le.refl _) ⟨rfl,rfl⟩
       ·replace h := h_f h hb40
        clear hb40
        refine r_done ?_
        refine r_done ?_
        refine r_bind ?_
        refine r_keep [(6,.int .i64 0)] (by kernel_rfl) fun fr => ?_
        refine r_done ?_
        repeat refine r_done ?_
        repeat refine r_done ?_
        obtain rfl := h_out h
        exact ret_of (RV.tmp RV.nil) (Le.refl _) ⟨rfl,rfl⟩
      ·replace h := h_f h hb39
       clear hb39
       refine r_done ?_
       refine r_done ?_
       refine r_bind ?_
       refine r_done ?_
       repeat refine r_done ?_
       repeat refine r_done ?_
       obtain rfl := h_out h
       exact ret_of (RV.tmp RV.nil) (Le.refl _) ⟨rfl,rfl⟩
end Go.Proofs.YtjhdppioeehahaaK
