/- The code of cellplaneref31_Migration_Step computes what it is to. No condition. -/
import Derived.Test.YtjhdppioeehahaaE
import Derived.Test.YtjhdppioeehahaaC30
set_option linter.unusedVariables false
set_option maxHeartbeats 4000000
namespace Go.Proofs.YtjhdppioeehahaaK
open Go Go.RowKit
theorem hc_23 {ρ : Addr → Option Value} {L : List Ent} {bm0 : Nat}  (m0 : cellplaneref31_Migration) (event1 : Int) (n2 : Int)  {r : (Bool × Int × Int × Bool)} (h : cellplaneref31_Migration_Step m0 event1 n2 = some r) : HC Try.prog 23 #[.pointer (some ⟨bm0,0,none⟩),.int .i64 event1,.int .i64 n2] ⟨ρ,.obj bm0 (en_cellplaneref31_Migration m0) 39 :: L⟩ (fun v S' => v = .bool r.1 ∧ S' = ⟨ρ,.obj bm0 (en_cellplaneref31_Migration ({ m0 with Phase := r.2.1,Earliest := r.2.2.1,Closed := r.2.2.2 })) 39 :: L⟩) := by
 replace h := h_in h
 refine HC.intro (N := 33) (args := [_,_,_]) tt_ok Try.func23 rfl (by decide +kernel) rfl (Nat.le_of_ble_eq_true rfl) ?_
 refine r_bind ?_
 refine r_done ?_
 refine r_bind ?_
 refine r_ld 0 tt_ok (v := .int .i64 m0.Phase) ts_3 rfl (by kernel_rfl) ?_
 replace h := h_b h; obtain ⟨x2,hx1,h⟩ := h
 refine r_call (hc_30 (phase0 := m0.Phase) (event1 := event1) (n2 := n2) (h := hx1)) ?_
 rintro _ _ ⟨rfl,rfl⟩
 refine r_keep [(0,.pointer (some ⟨bm0,0,none⟩)),(1,.int .i64 event1),(2,.int .i64 n2),(7,.int .i64 x2)] (by kernel_rfl) fun fr => ?_
 refine r_done ?_
 refine r_bind ?_
 refine r_bind ?_
 refine r_done ?_
 refine r_ite (fun hb3 => ?_) (fun hb3 => ?_)
 ·replace h := h_t h hb3
  clear hb3
  refine r_bind ?_
  refine r_done ?_
  repeat refine r_done ?_
  repeat refine r_done ?_
  obtain rfl := h_out h
  exact ret_of (RV.tmp RV.nil) (Le.refl _) ⟨rfl,rfl⟩
 ·replace h := h_f h hb3
  clear hb3
  refine r_done ?_
  refine r_bind ?_
  refine r_s 0 tt_ok (en_cellplaneref31_Migration ({ m0 with Phase := x2 })) (fit1 ts_3 (by kernel_rfl)) rfl (by kernel_rfl) (by kernel_rfl) ?_
  refine r_done ?_
  refine r_bind ?_
  replace h := h_j h; obtain ⟨K6,h,hK7⟩ := h
  refine r_meet (fun fr S => ∃ (clo5 : Bool),∃ fr0,K6 clo5 = some r ∧ fr = updL [(0,.pointer (some ⟨bm0,0,none⟩)),(1,.int .i64 event1),(2,.int .i64 n2)] fr0 ∧ S = ⟨ρ,.obj bm0 (en_cellplaneref31_Migration ({ m0 with Phase := x2,Closed := clo5 })) 39 :: L⟩) ?_ ?_
  ·refine r_bind ?_
   refine r_done ?_
   refine r_ite (fun hb4 => ?_) (fun hb4 => ?_)
   ·replace h := h_t h hb4
    clear hb4
    refine r_s 0 tt_ok (en_cellplaneref31_Migration ({ m0 with Phase := x2,Closed := true })) (fit1 ts_4 (by kernel_rfl)) rfl (by kernel_rfl) (by kernel_rfl) ?_
    exact r_done ⟨true,_,h,fr_eq _ (by kernel_rfl),(by kernel_rfl)⟩
   ·replace h := h_f h hb4
    clear hb4
    exact r_done ⟨m0.Closed,_,h,fr_eq _ (by kernel_rfl),(by kernel_rfl)⟩
  clear h
  rintro fr S ⟨clo5,fr,h,rfl,rfl⟩
  replace h := hK7 _ h
  refine r_done ?_
  refine r_bind ?_
  refine r_bind ?_
  refine r_done ?_
  refine r_ite (fun hb8 => ?_) (fun hb8 => ?_)
  ·replace h := h_t h hb8
   clear hb8
   refine r_num (e' := w64 (n2 + 1)) rfl ?_
   refine r_s 0 tt_ok (en_cellplaneref31_Migration ({ m0 with Phase := x2,Earliest := w64 (n2 + 1),Closed := clo5 })) (fit1 ts_3 (by kernel_rfl)) rfl (by kernel_rfl) (by kernel_rfl) ?_
   refine r_done ?_
   refine r_bind ?_
   refine r_keep [(6,.bool true)] (by kernel_rfl) fun fr => ?_
   refine r_done ?_
   repeat refine r_done ?_
   repeat refine r_done ?_
   obtain rfl := h_out h
   exact ret_of (RV.tmp RV.nil) (Le.refl _) ⟨rfl,rfl⟩
  ·replace h := h_f h hb8
   clear hb8
   refine r_done ?_
   refine r_bind ?_
   refine r_done ?_
   repeat refine r_done ?_
   repeat refine r_done ?_
   obtain rfl := h_out h
   exact ret_of (RV.tmp RV.nil) (Le.refl _) ⟨rfl,rfl⟩
end Go.Proofs.YtjhdppioeehahaaK
