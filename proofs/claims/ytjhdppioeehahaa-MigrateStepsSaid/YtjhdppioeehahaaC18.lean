/- The code of migrate_Migration_Step computes what it is to. No condition. -/
import Derived.Test.YtjhdppioeehahaaE
import Derived.Test.YtjhdppioeehahaaC67
set_option linter.unusedVariables false
set_option maxHeartbeats 4000000
namespace Go.Proofs.YtjhdppioeehahaaK
open Go Go.RowKit
theorem hc_18 {ρ : Addr → Option Value} {L : List Ent} {bm0 : Nat}  (m0 : migrate_Migration) (event1 : Int) (n2 : Int)  {r : (Bool × Int × Int × Bool)} (h : migrate_Migration_Step m0 event1 n2 = some r) : HC Try.prog 18 #[.pointer (some ⟨bm0,0,none⟩),.int .i64 event1,.int .i64 n2] ⟨ρ,.obj bm0 (en_migrate_Migration m0) 97 :: L⟩ (fun v S' => v = .bool r.1 ∧ S' = ⟨ρ,.obj bm0 (en_migrate_Migration ({ m0 with phase := r.2.1,earliest := r.2.2.1,closed := r.2.2.2 })) 97 :: L⟩) := by
 replace h := h_in h
 refine HC.intro (N := 31) (args := [_,_,_]) tt_ok Try.func18 rfl (by decide +kernel) rfl (Nat.le_of_ble_eq_true rfl) ?_
 refine r_bind ?_
 refine r_done ?_
 refine r_bind ?_
 replace h := h_b h; obtain ⟨x2,hx1,h⟩ := h
 refine r_call (hc_67 (bm0 := bm0) (m0 := m0) (event1 := event1) (n2 := n2) (h := hx1)) ?_
 rintro _ _ ⟨rfl,rfl⟩
 refine r_done ?_
 refine r_bind ?_
 refine r_bind ?_
 refine r_done ?_
 refine r_ite (fun hb3 => ?_) (fun hb3 => ?_)
 ·replace h := h_t h hb3
  clear hb3
  refine r_bind ?_
  refine r_keep [(6,.bool false)] (by kernel_rfl) fun fr => ?_
  refine r_done ?_
  repeat refine r_done ?_
  repeat refine r_done ?_
  obtain rfl := h_out h
  exact ret_of (RV.tmp RV.nil) (Le.refl _) ⟨rfl,rfl⟩
 ·replace h := h_f h hb3
  clear hb3
  refine r_done ?_
  refine r_bind ?_
  refine r_s 0 tt_ok (en_migrate_Migration ({ m0 with phase := x2 })) (fit1 ts_3 (by kernel_rfl)) rfl (by kernel_rfl) (by kernel_rfl) ?_
  refine r_keep [(0,.pointer (some ⟨bm0,0,none⟩)),(1,.int .i64 event1),(2,.int .i64 n2)] (by kernel_rfl) fun fr => ?_
  refine r_done ?_
  refine r_bind ?_
  refine r_bind ?_
  refine r_done ?_
  refine r_bind ?_
  refine r_bind ?_
  refine r_done ?_
  refine r_ite (fun hb4 => ?_) (fun hb4 => ?_)
  ·replace h := h_t h hb4
   clear hb4
   refine r_s 0 tt_ok (en_migrate_Migration ({ m0 with phase := x2,closed := true })) (fit1 ts_4 (by kernel_rfl)) rfl (by kernel_rfl) (by kernel_rfl) ?_
   refine r_done ?_
   refine r_done ?_
   refine r_bind ?_
   refine r_done ?_
   repeat refine r_done ?_
   repeat refine r_done ?_
   obtain rfl := h_out h
   exact ret_of (RV.tmp RV.nil) (Le.refl _) ⟨rfl,rfl⟩
  ·replace h := h_f h hb4
   clear hb4
   refine r_bind ?_
   refine r_done ?_
   refine r_ite (fun hb5 => ?_) (fun hb5 => ?_)
   ·replace h := h_t h hb5
    clear hb5
    refine r_num (e' := w64 (n2 + 1)) rfl ?_
    refine r_s 0 tt_ok (en_migrate_Migration ({ m0 with phase := x2,earliest := w64 (n2 + 1) })) (fit1 ts_3 (by kernel_rfl)) rfl (by kernel_rfl) (by kernel_rfl) ?_
    refine r_keep [] (by kernel_rfl) fun fr => ?_
    refine r_done ?_
    refine r_done ?_
    refine r_bind ?_
    refine r_done ?_
    repeat refine r_done ?_
    repeat refine r_done ?_
    obtain rfl := h_out h
    exact ret_of (RV.tmp RV.nil) (Le.refl _) ⟨rfl,rfl⟩
   ·replace h := h_f h hb5
    clear hb5
    refine r_done ?_
    refine r_done ?_
    refine r_bind ?_
    refine r_done ?_
    repeat refine r_done ?_
    repeat refine r_done ?_
    obtain rfl := h_out h
    exact ret_of (RV.tmp RV.nil) (Le.refl _) ⟨rfl,rfl⟩
end Go.Proofs.YtjhdppioeehahaaK
