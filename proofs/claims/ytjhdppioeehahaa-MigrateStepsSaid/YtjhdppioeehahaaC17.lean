/- The code of cellplanelaw31_made computes what it is to. No condition. -/
import Derived.Test.YtjhdppioeehahaaE
import Derived.Test.YtjhdppioeehahaaC63
import Derived.Test.YtjhdppioeehahaaC64
import Derived.Test.YtjhdppioeehahaaC65
import Derived.Test.YtjhdppioeehahaaC66
set_option linter.unusedVariables false
set_option maxHeartbeats 4000000
namespace Go.Proofs.YtjhdppioeehahaaK
open Go Go.RowKit
theorem hc_17 {ρ : Addr → Option Value} {L : List Ent} {A_l0 : Option Addr} {c_l0 : Nat} {S_l0 : St} (hS_l0 : Le ⟨ρ,L⟩ S_l0) (l0 : (List Int)) (h_l0 : Sl S_l0 A_l0 l0.length c_l0 (fl eI64.en l0)) {r : (List cellplanelaw31_Event)} (h : cellplanelaw31_made l0 = some r) : HC Try.prog 17 #[.slice A_l0 l0.length c_l0] ⟨ρ,L⟩ (fun v S' => ∃ (Aq1_0 : Option Addr),∃ (cq1_0 : Nat),v = .slice Aq1_0 r.length cq1_0 ∧ S' = ⟨ρ,.row Aq1_0 r.length cq1_0 30 2 (fl ecellplanelaw31_Event.en r) :: L⟩) := by
 replace h := h_in h
 refine HC.intro (N := 40) (args := [_]) tt_ok Try.func17 rfl (by decide +kernel) rfl (Nat.le_of_ble_eq_true rfl) ?_
 refine r_bind ?_
 refine r_done ?_
 refine r_bind ?_
 refine r_call (hc_63 (A_l0 := A_l0) (c_l0 := c_l0) (l0 := l0) (hS_l0 := by exact (le_d 0).trans hS_l0) (h_l0 := by exact h_l0)) ?_
 rintro _ _ ⟨bq1,A2,c3,rfl,rfl,hs4⟩
 refine r_done ?_
 refine r_bind ?_
 refine r_done ?_
 refine r_bind ?_
 refine r_bind ?_
 replace h := h_l h; obtain ⟨K144,n145,h,hK146⟩ := h
 refine r_le (le_nil 30 2) ?_
 refine r_loop (fun n fr S => ∃ (xs97 : (List cellplanelaw31_Event)),∃ (at101 : Int),∃ (A98 : Option Addr),∃ (c99 : Nat),∃ fr0,(runN (cellplanelaw31_made.b1 l0) n (xs97,at101)).bind K144 = some r ∧ fr = updL [(3,.pointer (some ⟨bq1,0,none⟩)),(4,.slice A98 xs97.length c99)] fr0 ∧ S = ⟨ρ,.row A98 xs97.length c99 30 2 (fl ecellplanelaw31_Event.en xs97) :: .obj bq1 (en_cellplanemill_Tape ({ (cellplanemill_New l0) with At := at101 }) (⟨(A2,c3)⟩)) 149 :: L⟩) n145 ⟨[],(cellplanemill_New l0).At,none,0,_,h,fr_eq _ (by kernel_rfl),(by kernel_rfl)⟩ ?_
 clear h
 rintro n145 fr S ⟨xs97,at101,A98,c99,fr,h,rfl,rfl⟩
 replace h := h_r h; obtain ⟨m147,hm147,h⟩ := h
 refine r_bind ?_
 refine r_bind ?_
 replace h := h_j h; obtain ⟨K104,h,hK105⟩ := h
 refine r_meet (fun fr S => ∃ (x103 : Bool),∃ fr0,K104 x103 = some r ∧ fr = updL [(3,.pointer (some ⟨bq1,0,none⟩)),(4,.slice A98 xs97.length c99),(14,.bool x103)] fr0 ∧ S = ⟨ρ,.obj bq1 (en_cellplanemill_Tape ({ (cellplanemill_New l0) with At := at101 }) (⟨(A2,c3)⟩)) 149 :: .row A98 xs97.length c99 30 2 (fl ecellplanelaw31_Event.en xs97) :: L⟩) ?_ ?_
 ·refine r_le (le_mv 1) ?_
  refine r_call (hc_64 (bt0 := bq1) (g_t0 := ⟨(A2,c3)⟩) (t0 := { (cellplanemill_New l0) with At := at101 }) (hS_t0 := by exact (le_d 1).trans hS_l0) (h_t0 := by exact hs4)) ?_
  rintro _ _ ⟨rfl,rfl⟩
  refine r_kp [(3,.pointer (some ⟨bq1,0,none⟩)),(4,.slice A98 xs97.length c99),(9,.bool (cellplanemill_Tape_More ({ (cellplanemill_New l0) with At := at101 })))] (by kernel_rfl) fun fr => ?_
  refine r_ite (fun (hb102 : (cellplanemill_Tape_More ({ (cellplanemill_New l0) with At := at101 })) = true) => ?_) (fun (hb102 : (cellplanemill_Tape_More ({ (cellplanemill_New l0) with At := at101 })) = false) => ?_)
  ·replace h := h_t h hb102
   clear hb102
   refine r_T rfl ?_
   refine r_T rfl ?_
   exact r_done ⟨decide ((xs97.length : Int) < 60),_,h,fr_eq _ (by kernel_rfl),(by kernel_rfl)⟩
  ·replace h := h_f h hb102
   clear hb102
   refine r_F rfl ?_
   refine r_F rfl ?_
   refine r_F rfl ?_
   exact r_done ⟨false,_,h,fr_eq _ (by kernel_rfl),(by kernel_rfl)⟩
 clear h
 rintro fr S ⟨x103,fr,h,rfl,rfl⟩
 replace h := hK105 _ h
 refine r_done ?_
 refine r_ite (fun hb106 => ?_) (fun hb106 => ?_)
 ·replace h := h_t h hb106
  clear hb106
  refine r_done ?_
  refine r_bind ?_
  refine r_bind ?_
  replace h := h_b h; obtain ⟨⟨x108,x109⟩,hx107,h⟩ := h
  refine r_call (hc_65 (bt0 := bq1) (g_t0 := ⟨(A2,c3)⟩) (t0 := { (cellplanemill_New l0) with At := at101 }) (low1 := 1) (high2 := 8) (hS_t0 := by exact (le_d 1).trans hS_l0) (h_t0 := by exact hs4) (h := hx107)) ?_
  rintro _ _ ⟨rfl,rfl⟩
  replace h := h_b h; obtain ⟨⟨x111,x112⟩,hx110,h⟩ := h
  refine r_call (hc_66 (bt0 := bq1) (g_t0 := ⟨(A2,c3)⟩) (t0 := { (cellplanemill_New l0) with At := x109 }) (n1 := 12) (hS_t0 := by exact (le_d 1).trans hS_l0) (h_t0 := by exact hs4) (h := hx110)) ?_
  rintro _ _ ⟨rfl,rfl⟩
  refine r_bd tt_ok (en_cellplanelaw31_Event (⟨x108,x111⟩ : cellplanelaw31_Event)) ti_30 tp_30 (by kernel_rfl) ?_
  refine r_al tt_ok (en_cellplanelaw31_Event (⟨0,0⟩ : cellplanelaw31_Event)) ti_30 (by kernel_rfl) fun bq113 => ?_
  refine r_s 0 tt_ok (en_cellplanelaw31_Event (⟨x108,x111⟩ : cellplanelaw31_Event)) (fitn ta_30 (by kernel_rfl)) rfl (by kernel_rfl) (by kernel_rfl) ?_
  refine r_done ?_
  refine r_bind ?_
  replace h := h_j h; obtain ⟨K128,h,hK129⟩ := h
  refine r_meet (fun fr S => ∃ (at126 : Int),∃ (kin127 : Int),∃ fr0,K128 (at126,kin127) = some r ∧ fr = updL [(3,.pointer (some ⟨bq1,0,none⟩)),(4,.slice A98 xs97.length c99),(5,.pointer (some ⟨bq113,0,none⟩))] fr0 ∧ S = ⟨ρ,.obj bq1 (en_cellplanemill_Tape ({ (cellplanemill_New l0) with At := at126 }) (⟨(A2,c3)⟩)) 149 :: .obj bq113 (en_cellplanelaw31_Event (⟨kin127,x111⟩ : cellplanelaw31_Event)) 30 :: .row A98 xs97.length c99 30 2 (fl ecellplanelaw31_Event.en xs97) :: L⟩) ?_ ?_
  ·refine r_bind ?_
   replace h := h_j h; obtain ⟨K120,h,hK121⟩ := h
   refine r_meet (fun fr S => ∃ (x118 : Bool),∃ (at119 : Int),∃ fr0,K120 (x118,at119) = some r ∧ fr = updL [(3,.pointer (some ⟨bq1,0,none⟩)),(4,.slice A98 xs97.length c99),(5,.pointer (some ⟨bq113,0,none⟩)),(27,.bool x118)] fr0 ∧ S = ⟨ρ,.obj bq1 (en_cellplanemill_Tape ({ (cellplanemill_New l0) with At := at119 }) (⟨(A2,c3)⟩)) 149 :: .obj bq113 (en_cellplanelaw31_Event (⟨x108,x111⟩ : cellplanelaw31_Event)) 30 :: .row A98 xs97.length c99 30 2 (fl ecellplanelaw31_Event.en xs97) :: L⟩) ?_ ?_
   ·refine r_le (le_mv 1) ?_
    replace h := h_b h; obtain ⟨⟨x115,x116⟩,hx114,h⟩ := h
    refine r_call (hc_66 (bt0 := bq1) (g_t0 := ⟨(A2,c3)⟩) (t0 := { (cellplanemill_New l0) with At := x112 }) (n1 := 3) (hS_t0 := by exact (le_d 2).trans hS_l0) (h_t0 := by exact hs4) (h := hx114)) ?_
    rintro _ _ ⟨rfl,rfl⟩
    refine r_kp [(3,.pointer (some ⟨bq1,0,none⟩)),(4,.slice A98 xs97.length c99),(5,.pointer (some ⟨bq113,0,none⟩)),(21,.int .i64 x115)] (by kernel_rfl) fun fr => ?_
    refine r_ite (fun (hb117 : (decide (0 < x115)) = true) => ?_) (fun (hb117 : (decide (0 < x115)) = false) => ?_)
    ·replace h := h_t h hb117
     clear hb117
     refine r_T rfl ?_
     refine r_ld 1 tt_ok (v := .int .i64 x108) ts_3 rfl (by kernel_rfl) ?_
     refine r_T rfl ?_
     exact r_done ⟨decide (5 ≤ x108),x116,_,h,fr_eq _ (by kernel_rfl),(by kernel_rfl)⟩
    ·replace h := h_f h hb117
     clear hb117
     refine r_F rfl ?_
     refine r_F rfl ?_
     refine r_F rfl ?_
     exact r_done ⟨false,x116,_,h,fr_eq _ (by kernel_rfl),(by kernel_rfl)⟩
   clear h
   rintro fr S ⟨x118,at119,fr,h,rfl,rfl⟩
   replace h := hK121 _ h
   refine r_done ?_
   refine r_ite (fun hb122 => ?_) (fun hb122 => ?_)
   ·replace h := h_t h hb122
    clear hb122
    replace h := h_b h; obtain ⟨⟨x124,x125⟩,hx123,h⟩ := h
    refine r_call (hc_65 (bt0 := bq1) (g_t0 := ⟨(A2,c3)⟩) (t0 := { (cellplanemill_New l0) with At := at119 }) (low1 := 1) (high2 := 4) (hS_t0 := by exact (le_d 2).trans hS_l0) (h_t0 := by exact hs4) (h := hx123)) ?_
    rintro _ _ ⟨rfl,rfl⟩
    refine r_s 1 tt_ok (en_cellplanelaw31_Event (⟨x124,x111⟩ : cellplanelaw31_Event)) (fit1 ts_3 (by kernel_rfl)) rfl (by kernel_rfl) (by kernel_rfl) ?_
    exact r_done ⟨x125,x124,_,h,fr_eq _ (by kernel_rfl),(by kernel_rfl)⟩
   ·replace h := h_f h hb122
    clear hb122
    exact r_done ⟨at119,x108,_,h,fr_eq _ (by kernel_rfl),(by kernel_rfl)⟩
  clear h
  rintro fr S ⟨at126,kin127,fr,h,rfl,rfl⟩
  replace h := hK129 _ h
  refine r_done ?_
  refine r_bind ?_
  replace h := h_j h; obtain ⟨K136,h,hK137⟩ := h
  refine r_meet (fun fr S => ∃ (at134 : Int),∃ (n135 : Int),∃ fr0,K136 (at134,n135) = some r ∧ fr = updL [(3,.pointer (some ⟨bq1,0,none⟩)),(4,.slice A98 xs97.length c99),(5,.pointer (some ⟨bq113,0,none⟩))] fr0 ∧ S = ⟨ρ,.obj bq1 (en_cellplanemill_Tape ({ (cellplanemill_New l0) with At := at134 }) (⟨(A2,c3)⟩)) 149 :: .obj bq113 (en_cellplanelaw31_Event (⟨kin127,n135⟩ : cellplanelaw31_Event)) 30 :: .row A98 xs97.length c99 30 2 (fl ecellplanelaw31_Event.en xs97) :: L⟩) ?_ ?_
  ·refine r_bind ?_
   replace h := h_b h; obtain ⟨⟨x131,x132⟩,hx130,h⟩ := h
   refine r_call (hc_66 (bt0 := bq1) (g_t0 := ⟨(A2,c3)⟩) (t0 := { (cellplanemill_New l0) with At := at126 }) (n1 := 2) (hS_t0 := by exact (le_d 2).trans hS_l0) (h_t0 := by exact hs4) (h := hx130)) ?_
   rintro _ _ ⟨rfl,rfl⟩
   refine r_done ?_
   refine r_ite (fun hb133 => ?_) (fun hb133 => ?_)
   ·replace h := h_t h hb133
    clear hb133
    refine r_s 1 tt_ok (en_cellplanelaw31_Event (⟨kin127,0⟩ : cellplanelaw31_Event)) (fit1 ts_3 (by kernel_rfl)) rfl (by kernel_rfl) (by kernel_rfl) ?_
    exact r_done ⟨x132,0,_,h,fr_eq _ (by kernel_rfl),(by kernel_rfl)⟩
   ·replace h := h_f h hb133
    clear hb133
    exact r_done ⟨x132,x111,_,h,fr_eq _ (by kernel_rfl),(by kernel_rfl)⟩
  clear h
  rintro fr S ⟨at134,n135,fr,h,rfl,rfl⟩
  replace h := hK137 _ h
  refine r_done ?_
  refine r_ldn 1 tt_ok (en_cellplanelaw31_Event (⟨kin127,n135⟩ : cellplanelaw31_Event)) ta_30 rfl (by kernel_rfl) (by kernel_rfl) ?_
  refine r_bs tt_ok (fl ecellplanelaw31_Event.en [(⟨kin127,n135⟩ : cellplanelaw31_Event)]) te_23 ti_30 (by kernel_rfl) (by kernel_rfl) (by kernel_rfl) (by kernel_rfl) fun bq138 => ?_
  replace h := h_b h; obtain ⟨xs139,ha140,h⟩ := h
  refine r_app 3 (E := ecellplanelaw31_Event) (xs := xs97) (ys := [(⟨kin127,n135⟩ : cellplanelaw31_Event)]) tt_ok ha140 (rd_row 0 rfl) rfl te_23 ti_30 rfl (by kernel_rfl) rfl (fun A141 c142 => ?_)
  refine r_done ?_
  refine r_le ((le_mv 1).trans ((le_mv 3).trans (le_w [true,true,false,false]))) ?_
  exact r_done ⟨m147,lt_s hm147,xs139,at134,A141,c142,_,h,fr_eq _ (by kernel_rfl),(by kernel_rfl)⟩
 ·replace h := h_f h hb106
  clear hb106
  refine r_done ?_
  refine r_done ?_
  replace h := h_m h
  subst hK146
  refine r_done ?_
  refine r_bind ?_
  refine r_done ?_
  repeat refine r_done ?_
  repeat refine r_done ?_
  obtain rfl := h_out h
  exact ret_of (RV.tmp RV.nil) (le_w [false,true]) ⟨A98,c99,rfl,rfl⟩
end Go.Proofs.YtjhdppioeehahaaK
