/- The code of cellplaneref31_After computes what it is to. No condition. -/
import Derived.Test.YtjhdppioeehahaaE
import Derived.Test.YtjhdppioeehahaaC68
import Derived.Test.YtjhdppioeehahaaC69
set_option linter.unusedVariables false
set_option maxHeartbeats 4000000
namespace Go.Proofs.YtjhdppioeehahaaK
open Go Go.RowKit
theorem hc_30 {ρ : Addr → Option Value} {L : List Ent}   (phase0 : Int) (event1 : Int) (n2 : Int)  {r : Int} (h : cellplaneref31_After phase0 event1 n2 = some r) : HC Try.prog 30 #[.int .i64 phase0,.int .i64 event1,.int .i64 n2] ⟨ρ,L⟩ (fun v S' => v = .int .i64 r ∧ S' = ⟨ρ,L⟩) := by
 replace h := h_in h
 refine HC.intro (N := 60) (args := [_,_,_]) tt_ok Try.func30 rfl (by decide +kernel) rfl (Nat.le_of_ble_eq_true rfl) ?_
 refine r_bind ?_
 refine r_done ?_
 refine r_bind ?_
 refine r_bind ?_
 refine r_bind ?_
 refine r_done ?_
 refine r_ite (fun hb1 => ?_) (fun hb1 => ?_)
 ·replace h := h_t h hb1
  clear hb1
  refine r_bind ?_
  refine r_call (hc_68 (phase0 := phase0) (n1 := n2)) ?_
  rintro _ _ ⟨rfl,rfl⟩
  refine r_done ?_
  repeat refine r_done ?_
  repeat refine r_done ?_
  obtain rfl := h_out h
  exact ret_of (RV.tmp RV.nil) (Le.refl _) ⟨rfl,rfl⟩
 ·replace h := h_f h hb1
  clear hb1
  refine r_bind ?_
  refine r_meet (fun fr S => ∃ fr0,fr = updL [(0,.int .i64 phase0),(1,.int .i64 event1),(15,.bool ((decide (event1 = 3)) && ((decide (phase0 = 4)) && ((decide (0 ≤ n2)) && (decide (n2 ≤ 1073741824))))))] fr0 ∧ S = ⟨ρ,L⟩) ?_ ?_
  ·refine r_ite (fun (hb2 : (decide (event1 = 3)) = true) => ?_) (fun (hb2 : (decide (event1 = 3)) = false) => ?_)
   ·refine r_kp [(0,.int .i64 phase0),(1,.int .i64 event1),(2,.int .i64 n2),(18,.bool true),(19,.int .i64 phase0)] (by kernel_rfl) fun fr => ?_
    refine r_T rfl ?_
    refine r_ite (fun (hb3 : (decide (phase0 = 4)) = true) => ?_) (fun (hb3 : (decide (phase0 = 4)) = false) => ?_)
    ·refine r_T rfl ?_
     refine r_ite (fun (hb4 : (decide (0 ≤ n2)) = true) => ?_) (fun (hb4 : (decide (0 ≤ n2)) = false) => ?_)
     ·refine r_T rfl ?_
      refine r_kp [(0,.int .i64 phase0),(1,.int .i64 event1),(26,.bool true),(28,.bool (decide (n2 ≤ 1073741824)))] (by kernel_rfl) fun fr => ?_
      exact r_done ⟨_,fr_eq _ (by (try rw [hb4]); (try rw [hb3]); (try rw [hb2]); kernel_rfl),(by kernel_rfl)⟩
     ·refine r_F rfl ?_
      refine r_kp [(0,.int .i64 phase0),(1,.int .i64 event1),(26,.bool false),(28,undef)] (by kernel_rfl) fun fr => ?_
      refine r_F rfl ?_
      exact r_done ⟨_,fr_eq _ (by (try rw [hb4]); (try rw [hb3]); (try rw [hb2]); kernel_rfl),(by kernel_rfl)⟩
    ·refine r_F rfl ?_
     refine r_F rfl ?_
     refine r_F rfl ?_
     refine r_F rfl ?_
     refine r_kp [(0,.int .i64 phase0),(1,.int .i64 event1),(26,.bool false),(28,undef)] (by kernel_rfl) fun fr => ?_
     refine r_F rfl ?_
     exact r_done ⟨_,fr_eq _ (by (try rw [hb3]); (try rw [hb2]); kernel_rfl),(by kernel_rfl)⟩
   ·refine r_kp [(0,.int .i64 phase0),(1,.int .i64 event1),(2,.int .i64 n2),(18,.bool false),(19,undef)] (by kernel_rfl) fun fr => ?_
    refine r_F rfl ?_
    refine r_F rfl ?_
    refine r_F rfl ?_
    refine r_F rfl ?_
    refine r_F rfl ?_
    refine r_F rfl ?_
    refine r_F rfl ?_
    refine r_kp [(0,.int .i64 phase0),(1,.int .i64 event1),(26,.bool false),(28,undef)] (by kernel_rfl) fun fr => ?_
    refine r_F rfl ?_
    exact r_done ⟨_,fr_eq _ (by (try rw [hb2]); kernel_rfl),(by kernel_rfl)⟩
  rintro fr S ⟨fr,rfl,rfl⟩
  refine r_done ?_
  refine r_ite (fun hb5 => ?_) (fun hb5 => ?_)
  ·replace h := h_t h hb5
   clear hb5
   refine r_bind ?_
   refine r_done ?_
   repeat refine r_done ?_
   repeat refine r_done ?_
   obtain rfl := h_out h
   exact ret_of (RV.tmp RV.nil) (Le.refl _) ⟨rfl,rfl⟩
  ·replace h := h_f h hb5
   clear hb5
   refine r_bind ?_
   refine r_meet (fun fr S => ∃ fr0,fr = updL [(0,.int .i64 phase0),(1,.int .i64 event1),(30,.bool ((decide (event1 = 8)) && ((!decide (phase0 = 6)) && (!decide (phase0 = 10)))))] fr0 ∧ S = ⟨ρ,L⟩) ?_ ?_
   ·refine r_ite (fun (hb6 : (decide (event1 = 8)) = true) => ?_) (fun (hb6 : (decide (event1 = 8)) = false) => ?_)
    ·refine r_T rfl ?_
     refine r_kp [(0,.int .i64 phase0),(1,.int .i64 event1),(33,.bool true),(35,.bool (!decide (phase0 = 6)))] (by kernel_rfl) fun fr => ?_
     refine r_ite (fun (hb7 : (!decide (phase0 = 6)) = true) => ?_) (fun (hb7 : (!decide (phase0 = 6)) = false) => ?_)
     ·refine r_T rfl ?_
      exact r_done ⟨_,fr_eq _ (by (try rw [hb7]); (try rw [hb6]); kernel_rfl),(by kernel_rfl)⟩
     ·refine r_F rfl ?_
      refine r_F rfl ?_
      exact r_done ⟨_,fr_eq _ (by (try rw [hb7]); (try rw [hb6]); kernel_rfl),(by kernel_rfl)⟩
    ·refine r_F rfl ?_
     refine r_kp [(0,.int .i64 phase0),(1,.int .i64 event1),(33,.bool false),(35,undef)] (by kernel_rfl) fun fr => ?_
     refine r_F rfl ?_
     refine r_F rfl ?_
     refine r_F rfl ?_
     refine r_F rfl ?_
     exact r_done ⟨_,fr_eq _ (by (try rw [hb6]); kernel_rfl),(by kernel_rfl)⟩
   rintro fr S ⟨fr,rfl,rfl⟩
   refine r_done ?_
   refine r_ite (fun hb8 => ?_) (fun hb8 => ?_)
   ·replace h := h_t h hb8
    clear hb8
    refine r_bind ?_
    refine r_done ?_
    repeat refine r_done ?_
    repeat refine r_done ?_
    obtain rfl := h_out h
    exact ret_of (RV.tmp RV.nil) (Le.refl _) ⟨rfl,rfl⟩
   ·replace h := h_f h hb8
    clear hb8
    refine r_done ?_
    refine r_done ?_
    refine r_bind ?_
    refine r_bind ?_
    refine r_call (hc_69 ) ?_
    rintro _ _ ⟨A9,c10,rfl,rfl⟩
    refine r_done ?_
    refine r_bind ?_
    replace h := h_l h; obtain ⟨K33,n34,h,hK35⟩ := h
    refine r_loop (fun n fr S => ∃ (x26 : Int),∃ fr0,(runN (cellplaneref31_After.b1 phase0 event1) n x26).bind K33 = some r ∧ fr = updL [(0,.int .i64 phase0),(1,.int .i64 event1),(41,.slice A9 cellplaneref31_table.length c10),(42,.int .i64 (cellplaneref31_table.length : Int)),(43,.int .i64 x26)] fr0 ∧ S = ⟨ρ,.row A9 cellplaneref31_table.length c10 103 3 (fl ecellplaneref31_row.en cellplaneref31_table) :: L⟩) n34 ⟨0,_,h,fr_eq _ (by kernel_rfl),(by kernel_rfl)⟩ ?_
    clear h
    rintro n34 fr S ⟨x26,fr,h,rfl,rfl⟩
    replace h := h_r h; obtain ⟨m36,hm36,h⟩ := h
    refine r_bind ?_
    refine r_done ?_
    refine r_bind ?_
    refine r_ite (fun hb27 => ?_) (fun hb27 => ?_)
    ·replace h := h_t h hb27
     clear hb27
     refine r_done ?_
     refine r_bind ?_
     refine r_bind ?_
     refine r_bind ?_
     replace h := h_b h; obtain ⟨x28,hx29,h⟩ := h
     refine r_el hx29 (rd_row 0 rfl) ?_
     refine r_len (E := ecellplaneref31_row) tt_ok (en_cellplaneref31_row x28) (idx_get hx29) (rd_row 0 rfl) ta_103 rfl (pl0 _ _) (by kernel_rfl) (by kernel_rfl) ?_
     refine r_al tt_ok (en_cellplaneref31_row (⟨0,0,0⟩ : cellplaneref31_row)) ti_103 (by kernel_rfl) fun bq30 => ?_
     refine r_s 0 tt_ok (en_cellplaneref31_row x28) (fitn ta_103 (by kernel_rfl)) rfl (by kernel_rfl) (by kernel_rfl) ?_
     refine r_done ?_
     refine r_bind ?_
     refine r_meet (fun fr S => ∃ fr0,fr = updL [(0,.int .i64 phase0),(1,.int .i64 event1),(8,.pointer (some ⟨bq30,0,none⟩)),(41,.slice A9 cellplaneref31_table.length c10),(42,.int .i64 (cellplaneref31_table.length : Int)),(43,.int .i64 x26),(56,.bool ((decide (x28.phase = phase0)) && (decide (x28.event = event1))))] fr0 ∧ S = ⟨ρ,.obj bq30 (en_cellplaneref31_row x28) 103 :: .row A9 cellplaneref31_table.length c10 103 3 (fl ecellplaneref31_row.en cellplaneref31_table) :: L⟩) ?_ ?_
     ·refine r_ld 0 tt_ok (v := .int .i64 x28.phase) ts_3 rfl (by kernel_rfl) ?_
      refine r_kp [(0,.int .i64 phase0),(1,.int .i64 event1),(8,.pointer (some ⟨bq30,0,none⟩)),(41,.slice A9 cellplaneref31_table.length c10),(42,.int .i64 (cellplaneref31_table.length : Int)),(43,.int .i64 x26),(48,.int .i64 x28.phase)] (by kernel_rfl) fun fr => ?_
      refine r_ite (fun (hb31 : (decide (x28.phase = phase0)) = true) => ?_) (fun (hb31 : (decide (x28.phase = phase0)) = false) => ?_)
      ·refine r_T rfl ?_
       refine r_ld 0 tt_ok (v := .int .i64 x28.event) ts_3 rfl (by kernel_rfl) ?_
       refine r_T rfl ?_
       refine r_T rfl ?_
       exact r_done ⟨_,fr_eq _ (by (try rw [hb31]); kernel_rfl),(by kernel_rfl)⟩
      ·refine r_F rfl ?_
       refine r_F rfl ?_
       refine r_F rfl ?_
       refine r_F rfl ?_
       exact r_done ⟨_,fr_eq _ (by (try rw [hb31]); kernel_rfl),(by kernel_rfl)⟩
     rintro fr S ⟨fr,rfl,rfl⟩
     refine r_done ?_
     refine r_ite (fun hb32 => ?_) (fun hb32 => ?_)
     ·replace h := h_t h hb32
      clear hb32
      refine r_bind ?_
      refine r_ld 0 tt_ok (v := .int .i64 x28.next) ts_3 rfl (by kernel_rfl) ?_
      refine r_done ?_
      repeat refine r_done ?_
      replace h := h_m h
      subst hK35
      repeat refine r_done ?_
      obtain rfl := h_out h
      exact ret_of (RV.tmp RV.nil) (le_w [false,false]) ⟨rfl,rfl⟩
     ·replace h := h_f h hb32
      clear hb32
      refine r_done ?_
      refine r_done ?_
      refine r_num (e' := w64 (x26 + 1)) rfl ?_
      refine r_le (le_w [false,true]) ?_
      exact r_done ⟨m36,lt_s hm36,w64 (x26 + 1),_,h,fr_eq _ (by kernel_rfl),(by kernel_rfl)⟩
    ·replace h := h_f h hb27
     clear hb27
     refine r_done ?_
     refine r_done ?_
     replace h := h_m h
     subst hK35
     refine r_done ?_
     refine r_bind ?_
     refine r_done ?_
     repeat refine r_done ?_
     repeat refine r_done ?_
     obtain rfl := h_out h
     exact ret_of (RV.tmp RV.nil) (le_w [false]) ⟨rfl,rfl⟩
end Go.Proofs.YtjhdppioeehahaaK
