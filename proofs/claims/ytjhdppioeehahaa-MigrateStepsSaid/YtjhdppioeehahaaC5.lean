/- The code of cellplanelaw31_MigrateSteps computes what it is to. No condition. -/
import Derived.Test.YtjhdppioeehahaaE
import Derived.Test.YtjhdppioeehahaaC14
import Derived.Test.YtjhdppioeehahaaC15
import Derived.Test.YtjhdppioeehahaaC16
import Derived.Test.YtjhdppioeehahaaC17
import Derived.Test.YtjhdppioeehahaaC18
import Derived.Test.YtjhdppioeehahaaC19
import Derived.Test.YtjhdppioeehahaaC20
import Derived.Test.YtjhdppioeehahaaC21
import Derived.Test.YtjhdppioeehahaaC22
import Derived.Test.YtjhdppioeehahaaC23
import Derived.Test.YtjhdppioeehahaaC24
import Derived.Test.YtjhdppioeehahaaC25
import Derived.Test.YtjhdppioeehahaaC26
import Derived.Test.YtjhdppioeehahaaC27
import Derived.Test.YtjhdppioeehahaaC28
set_option linter.unusedVariables false
set_option maxHeartbeats 4000000
namespace Go.Proofs.YtjhdppioeehahaaK
open Go Go.RowKit
theorem hc_5 {ρ : Addr → Option Value} {L : List Ent} {A_l1 : Option Addr} {c_l1 : Nat} {A_raw2 : Option Addr} {c_raw2 : Nat} {S_l1 : St} (hS_l1 : Le ⟨ρ,L⟩ S_l1) {S_raw2 : St} (hS_raw2 : Le ⟨ρ,L⟩ S_raw2) (who0 : Arr4_Int) (l1 : (List Int)) (raw2 : (List cellplanelaw31_Event)) (h_l1 : Sl S_l1 A_l1 l1.length c_l1 (fl eI64.en l1)) (h_raw2 : Sl S_raw2 A_raw2 raw2.length c_raw2 (fl ecellplanelaw31_Event.en raw2)) {r : Bool} (h : cellplanelaw31_MigrateSteps who0 l1 raw2 = some r) : HC Try.prog 5 #[.agg (en_Arr4_Int who0).toArray,.slice A_l1 l1.length c_l1,.slice A_raw2 raw2.length c_raw2] ⟨ρ,L⟩ (fun v S' => v = .bool r ∧ S' = ⟨ρ,L⟩) := by
 replace h := h_in h
 refine HC.intro (N := 121) (args := [_,_,_]) tt_ok Try.func5 rfl (by decide +kernel) rfl (Nat.le_of_ble_eq_true rfl) ?_
 refine r_bind ?_
 refine r_bx (en_Arr4_Int who0) (by kernel_rfl) fun bq1 => ?_
 refine r_done ?_
 refine r_bind ?_
 refine r_bind ?_
 replace h := h_b h; obtain ⟨x3,hx2,h⟩ := h
 refine r_call (hc_14  (h := hx2)) ?_
 rintro _ _ ⟨rfl,rfl⟩
 refine r_done ?_
 refine r_ite (fun hb4 => ?_) (fun hb4 => ?_)
 ·replace h := h_t h hb4
  clear hb4
  refine r_bind ?_
  refine r_done ?_
  repeat refine r_done ?_
  repeat refine r_done ?_
  obtain rfl := h_out h
  exact ret_of (RV.tmp RV.nil) (le_w [false]) ⟨rfl,rfl⟩
 ·replace h := h_f h hb4
  clear hb4
  refine r_done ?_
  refine r_bind ?_
  refine r_bind ?_
  refine r_meet (fun fr S => ∃ fr0,fr = updL [(1,.slice A_l1 l1.length c_l1),(2,.slice A_raw2 raw2.length c_raw2),(3,.pointer (some ⟨bq1,0,none⟩)),(20,.bool ((!(cellplanemill_Light l1)) || (decide (60 < (raw2.length : Int)))))] fr0 ∧ S = ⟨ρ,.obj bq1 (en_Arr4_Int who0) 35 :: L⟩) ?_ ?_
  ·refine r_call (hc_15 (A_l0 := A_l1) (c_l0 := c_l1) (l0 := l1) (hS_l0 := by exact (le_d 1).trans hS_l1) (h_l0 := by exact h_l1)) ?_
   rintro _ _ ⟨rfl,rfl⟩
   refine r_kp [(1,.slice A_l1 l1.length c_l1),(2,.slice A_raw2 raw2.length c_raw2),(3,.pointer (some ⟨bq1,0,none⟩)),(14,.bool (cellplanemill_Light l1))] (by kernel_rfl) fun fr => ?_
   refine r_ite (fun (hb5 : (!(cellplanemill_Light l1)) = true) => ?_) (fun (hb5 : (!(cellplanemill_Light l1)) = false) => ?_)
   ·refine r_T rfl ?_
    refine r_T rfl ?_
    refine r_T rfl ?_
    exact r_done ⟨_,fr_eq _ (by (try rw [hb5]); kernel_rfl),(by kernel_rfl)⟩
   ·refine r_F rfl ?_
    refine r_F rfl ?_
    exact r_done ⟨_,fr_eq _ (by (try rw [hb5]); kernel_rfl),(by kernel_rfl)⟩
  rintro fr S ⟨fr,rfl,rfl⟩
  refine r_done ?_
  refine r_ite (fun hb6 => ?_) (fun hb6 => ?_)
  ·replace h := h_t h hb6
   clear hb6
   refine r_bind ?_
   refine r_done ?_
   repeat refine r_done ?_
   repeat refine r_done ?_
   obtain rfl := h_out h
   exact ret_of (RV.tmp RV.nil) (le_w [false]) ⟨rfl,rfl⟩
  ·replace h := h_f h hb6
   clear hb6
   refine r_done ?_
   refine r_bind ?_
   refine r_mix tt_ok hm_ok _ _ [] (.vb 0 (.vb 1 (.vb 2 (.vb 3 (.vb 4 (.vb 5 (.vb 6 (.vb 7 (.vb 9 (.vb 10 (.vb 11 (.vb 12 (.vb 13 (.vb 14 (.vb 15 (.vb 16 (.eff 8 (.eff 17 (.pure 18 (.pure 19 .nil)))))))))))))))))))) (le_w [true]) (le_w [true]) ?_ ?_
   ·decide +kernel
   refine x_vb rfl ?_
   refine v_check (by decide) ?_
   refine v_done ?_
   refine x_vb rfl ?_
   refine v_ld 0 tt_ok (v := .int .i64 who0.a0) ts_3 rfl (by kernel_rfl) ?_
   refine v_done ?_
   refine x_vb rfl ?_
   refine v_check (by decide) ?_
   refine v_done ?_
   refine x_vb rfl ?_
   refine v_ld 0 tt_ok (v := .int .i64 who0.a1) ts_3 rfl (by kernel_rfl) ?_
   refine v_done ?_
   refine x_vb rfl ?_
   refine v_check (by decide) ?_
   refine v_done ?_
   refine x_vb rfl ?_
   refine v_ld 0 tt_ok (v := .int .i64 who0.a2) ts_3 rfl (by kernel_rfl) ?_
   refine v_done ?_
   refine x_vb rfl ?_
   refine v_check (by decide) ?_
   refine v_done ?_
   refine x_vb rfl ?_
   refine v_ld 0 tt_ok (v := .int .i64 who0.a3) ts_3 rfl (by kernel_rfl) ?_
   refine v_done ?_
   refine x_vb rfl ?_
   refine v_check (by decide) ?_
   refine v_done ?_
   refine x_kp [(1,.slice A_l1 l1.length c_l1),(2,.slice A_raw2 raw2.length c_raw2),(3,.pointer (some ⟨bq1,0,none⟩)),(22,.int .i64 who0.a0),(24,.int .i64 who0.a1),(26,.int .i64 who0.a2),(28,.int .i64 who0.a3),(30,.pointer (some ⟨bq1,0,none⟩))] (by kernel_rfl) fun fr => ?_
   refine x_vb rfl ?_
   refine v_ld 0 tt_ok (v := .int .i64 who0.a0) ts_3 rfl (by kernel_rfl) ?_
   refine v_done ?_
   refine x_vb rfl ?_
   refine v_check (by decide) ?_
   refine v_done ?_
   refine x_vb rfl ?_
   refine v_ld 0 tt_ok (v := .int .i64 who0.a1) ts_3 rfl (by kernel_rfl) ?_
   refine v_done ?_
   refine x_vb rfl ?_
   refine v_check (by decide) ?_
   refine v_done ?_
   refine x_vb rfl ?_
   refine v_ld 0 tt_ok (v := .int .i64 who0.a2) ts_3 rfl (by kernel_rfl) ?_
   refine v_done ?_
   refine x_vb rfl ?_
   refine v_check (by decide) ?_
   refine v_done ?_
   refine x_vb rfl ?_
   refine v_ld 0 tt_ok (v := .int .i64 who0.a3) ts_3 rfl (by kernel_rfl) ?_
   refine v_done ?_
   refine x_e rfl ?_
   refine r_call (hc_16 (tenant0 := who0.a0) (from1 := who0.a1) (to2 := who0.a2) (epoch3 := who0.a3)) ?_
   rintro _ _ ⟨bq7,rfl,rfl⟩
   refine r_done ⟨rfl,k_a (le_w [false,true]) (le_w [false,true]),?_⟩
   refine x_e rfl ?_
   refine r_call (hc_22 (tenant0 := who0.a0) (from1 := who0.a1) (to2 := who0.a2) (epoch3 := who0.a3)) ?_
   rintro _ _ ⟨bq8,rfl,rfl⟩
   refine r_done ⟨rfl,k_a (le_w [false,false,true]) (le_w [false,false,true]),?_⟩
   refine x_kp [(1,.slice A_l1 l1.length c_l1),(2,.slice A_raw2 raw2.length c_raw2),(3,.pointer (some ⟨bq1,0,none⟩)),(29,.pointer (some ⟨bq7,0,none⟩)),(38,.pointer (some ⟨bq8,0,none⟩))] (by kernel_rfl) fun fr => ?_
   refine x_p rfl ?_
   refine v_done ?_
   refine x_p rfl ?_
   refine v_done ?_
   refine x_k [(1,.slice A_l1 l1.length c_l1),(2,.slice A_raw2 raw2.length c_raw2),(3,.pointer (some ⟨bq1,0,none⟩)),(7,.pointer (some ⟨bq7,0,none⟩)),(8,.pointer (some ⟨bq8,0,none⟩))] (by kernel_rfl) fun fr => ?_
   refine r_done ?_
   refine r_bind ?_
   replace h := h_k h; obtain ⟨K192,h,hK193⟩ := h
   refine r_meet (fun fr S => ∃ (y191 : migrate_Migration),∃ fr0,(cellplanelaw31_MigrateSteps.j1 who0 y191).bind K192 = some r ∧ fr = updL [(3,.pointer (some ⟨bq1,0,none⟩)),(7,.pointer (some ⟨bq7,0,none⟩))] fr0 ∧ S = ⟨ρ,.obj bq7 (en_migrate_Migration y191) 97 :: .obj bq1 (en_Arr4_Int who0) 35 :: L⟩) ?_ ?_
   ·refine r_bind ?_
    refine r_bd tt_ok (en_cellplanelaw31_Event (⟨0,0⟩ : cellplanelaw31_Event)) ti_30 tp_30 (by kernel_rfl) ?_
    refine r_bs tt_ok (fl ecellplanelaw31_Event.en [(⟨0,0⟩ : cellplanelaw31_Event)]) te_23 ti_30 (by kernel_rfl) (by kernel_rfl) (by kernel_rfl) (by kernel_rfl) fun bq9 => ?_
    replace h := h_b h; obtain ⟨xs11,hx10,h⟩ := h
    refine r_call (hc_17 (A_l0 := A_l1) (c_l0 := c_l1) (l0 := l1) (hS_l0 := by exact (le_d 4).trans hS_l1) (h_l0 := by exact h_l1) (h := hx10)) ?_
    rintro _ _ ⟨A12,c13,rfl,rfl⟩
    replace h := h_b h; obtain ⟨xs15,ha16,h⟩ := h
    refine r_app 1 (E := ecellplanelaw31_Event) (xs := [(⟨0,0⟩ : cellplanelaw31_Event)]) (ys := xs11) tt_ok ha16 (rd_row 0 rfl) rfl te_23 ti_30 rfl (by kernel_rfl) rfl (fun A17 c18 => ?_)
    replace h := h_b h; obtain ⟨xs20,ha21,h⟩ := h
    refine r_app 1 (E := ecellplanelaw31_Event) (xs := xs15) (ys := raw2) tt_ok ha21 ((h_raw2).rd.mono ((le_d 5).trans hS_raw2)) rfl te_23 ti_30 rfl (by kernel_rfl) rfl (fun A22 c23 => ?_)
    refine r_keep [(3,.pointer (some ⟨bq1,0,none⟩)),(7,.pointer (some ⟨bq7,0,none⟩)),(8,.pointer (some ⟨bq8,0,none⟩)),(45,.slice A22 xs20.length c23),(46,.int .i64 (xs20.length : Int)),(47,.int .i64 0)] (by kernel_rfl) fun fr => ?_
    refine r_done ?_
    refine r_bind ?_
    replace h := h_l h; obtain ⟨K187,n188,h,hK189⟩ := h
    refine r_le (le_w [false,true,true,true,true]) ?_
    refine r_loop (fun n fr S => ∃ (x133 : Int),∃ (y134 : migrate_Migration),∃ (y135 : cellplaneref31_Migration),∃ fr0,(runN (cellplanelaw31_MigrateSteps.b2 who0 xs20) n (x133,y134,y135)).bind K187 = some r ∧ fr = updL [(3,.pointer (some ⟨bq1,0,none⟩)),(7,.pointer (some ⟨bq7,0,none⟩)),(8,.pointer (some ⟨bq8,0,none⟩)),(45,.slice A22 xs20.length c23),(46,.int .i64 (xs20.length : Int)),(47,.int .i64 x133)] fr0 ∧ S = ⟨ρ,.row A22 xs20.length c23 30 2 (fl ecellplanelaw31_Event.en xs20) :: .obj bq8 (en_cellplaneref31_Migration y135) 39 :: .obj bq7 (en_migrate_Migration y134) 97 :: .obj bq1 (en_Arr4_Int who0) 35 :: L⟩) n188 ⟨0,(migrate_New who0.a0 who0.a1 who0.a2 who0.a3),(cellplaneref31_New who0.a0 who0.a1 who0.a2 who0.a3),_,h,fr_eq _ (by kernel_rfl),(by kernel_rfl)⟩ ?_
    clear h
    rintro n188 fr S ⟨x133,y134,y135,fr,h,rfl,rfl⟩
    replace h := h_r h; obtain ⟨m190,hm190,h⟩ := h
    refine r_bind ?_
    refine r_done ?_
    refine r_bind ?_
    refine r_ite (fun hb136 => ?_) (fun hb136 => ?_)
    ·replace h := h_t h hb136
     clear hb136
     refine r_done ?_
     refine r_bind ?_
     refine r_bind ?_
     refine r_bind ?_
     replace h := h_b h; obtain ⟨x137,hx138,h⟩ := h
     refine r_el hx138 (rd_row 0 rfl) ?_
     refine r_len (E := ecellplanelaw31_Event) tt_ok (en_cellplanelaw31_Event x137) (idx_get hx138) (rd_row 0 rfl) ta_30 rfl (pl0 _ _) (by kernel_rfl) (by kernel_rfl) ?_
     refine r_al tt_ok (en_cellplanelaw31_Event (⟨0,0⟩ : cellplanelaw31_Event)) ti_30 (by kernel_rfl) fun bq139 => ?_
     refine r_s 0 tt_ok (en_cellplanelaw31_Event x137) (fitn ta_30 (by kernel_rfl)) rfl (by kernel_rfl) (by kernel_rfl) ?_
     refine r_done ?_
     refine r_bind ?_
     replace h := h_j h; obtain ⟨K184,h,hK185⟩ := h
     refine r_meet (fun fr S => ∃ (x181 : Bool),∃ (y182 : migrate_Migration),∃ (y183 : cellplaneref31_Migration),∃ fr0,K184 (x181,y182,y183) = some r ∧ fr = updL [(3,.pointer (some ⟨bq1,0,none⟩)),(7,.pointer (some ⟨bq7,0,none⟩)),(8,.pointer (some ⟨bq8,0,none⟩)),(45,.slice A22 xs20.length c23),(46,.int .i64 (xs20.length : Int)),(47,.int .i64 x133),(100,.bool x181)] fr0 ∧ S = ⟨ρ,.obj bq8 (en_cellplaneref31_Migration y183) 39 :: .obj bq7 (en_migrate_Migration y182) 97 :: .row A22 xs20.length c23 30 2 (fl ecellplanelaw31_Event.en xs20) :: .obj bq1 (en_Arr4_Int who0) 35 :: L⟩) ?_ ?_
     refine r_mix tt_ok hm_ok _ _ [] (.pure 0 (.pure 1 (.vb 2 (.pure 3 (.vb 4 (.pure 6 (.pure 7 (.vb 8 (.pure 9 (.vb 10 (.eff 5 (.eff 11 (.pure 12 (.pure 13 (.pure 14 (.pure 16 (.pure 17 (.pure 18 (.two 15 19 (.eff 19 (.pure 20 (.pure 21 (.pure 22 (.pure 23 (.pure 25 (.pure 26 (.pure 27 (.two 24 28 (.eff 28 (.eff 29 (.pure 30 (.pure 31 (.pure 32 (.pure 33 (.pure 35 (.pure 36 (.pure 37 (.two 34 38 (.eff 38 (.pure 39 (.pure 40 (.pure 41 (.pure 42 (.pure 44 (.pure 45 (.pure 46 (.two 43 47 (.eff 47 (.pure 48 (.pure 49 .nil))) (.eff 43 (.pure 48 (.pure 49 .nil)))))))))))) (.eff 34 (.pure 39 (.pure 40 (.pure 41 (.pure 42 (.pure 44 (.pure 45 (.pure 46 (.two 43 47 (.eff 47 (.pure 48 (.pure 49 .nil))) (.eff 43 (.pure 48 (.pure 49 .nil)))))))))))))))))))))) (.eff 24 (.eff 29 (.pure 30 (.pure 31 (.pure 32 (.pure 33 (.pure 35 (.pure 36 (.pure 37 (.two 34 38 (.eff 38 (.pure 39 (.pure 40 (.pure 41 (.pure 42 (.pure 44 (.pure 45 (.pure 46 (.two 43 47 (.eff 47 (.pure 48 (.pure 49 .nil))) (.eff 43 (.pure 48 (.pure 49 .nil)))))))))))) (.eff 34 (.pure 39 (.pure 40 (.pure 41 (.pure 42 (.pure 44 (.pure 45 (.pure 46 (.two 43 47 (.eff 47 (.pure 48 (.pure 49 .nil))) (.eff 43 (.pure 48 (.pure 49 .nil))))))))))))))))))))))))))))))) (.eff 15 (.pure 20 (.pure 21 (.pure 22 (.pure 23 (.pure 25 (.pure 26 (.pure 27 (.two 24 28 (.eff 28 (.eff 29 (.pure 30 (.pure 31 (.pure 32 (.pure 33 (.pure 35 (.pure 36 (.pure 37 (.two 34 38 (.eff 38 (.pure 39 (.pure 40 (.pure 41 (.pure 42 (.pure 44 (.pure 45 (.pure 46 (.two 43 47 (.eff 47 (.pure 48 (.pure 49 .nil))) (.eff 43 (.pure 48 (.pure 49 .nil)))))))))))) (.eff 34 (.pure 39 (.pure 40 (.pure 41 (.pure 42 (.pure 44 (.pure 45 (.pure 46 (.two 43 47 (.eff 47 (.pure 48 (.pure 49 .nil))) (.eff 43 (.pure 48 (.pure 49 .nil)))))))))))))))))))))) (.eff 24 (.eff 29 (.pure 30 (.pure 31 (.pure 32 (.pure 33 (.pure 35 (.pure 36 (.pure 37 (.two 34 38 (.eff 38 (.pure 39 (.pure 40 (.pure 41 (.pure 42 (.pure 44 (.pure 45 (.pure 46 (.two 43 47 (.eff 47 (.pure 48 (.pure 49 .nil))) (.eff 43 (.pure 48 (.pure 49 .nil)))))))))))) (.eff 34 (.pure 39 (.pure 40 (.pure 41 (.pure 42 (.pure 44 (.pure 45 (.pure 46 (.two 43 47 (.eff 47 (.pure 48 (.pure 49 .nil))) (.eff 43 (.pure 48 (.pure 49 .nil)))))))))))))))))))))))))))))))))))))))))))))))))) (le_w [true,true,false,false,true]) (le_w [true,true,false,false,true]) ?_ ?_
     ·decide +kernel
     refine x_p rfl ?_
     refine v_done ?_
     refine x_kp [(3,.pointer (some ⟨bq1,0,none⟩)),(7,.pointer (some ⟨bq7,0,none⟩)),(8,.pointer (some ⟨bq8,0,none⟩)),(10,.pointer (some ⟨bq139,0,none⟩)),(45,.slice A22 xs20.length c23),(46,.int .i64 (xs20.length : Int)),(47,.int .i64 x133),(51,.pointer (some ⟨bq7,0,none⟩))] (by kernel_rfl) fun fr => ?_
     refine x_p rfl ?_
     refine v_done ?_
     refine x_vb rfl ?_
     refine v_ld 0 tt_ok (v := .int .i64 x137.Kind) ts_3 rfl (by kernel_rfl) ?_
     refine v_done ?_
     refine x_p rfl ?_
     refine v_done ?_
     refine x_vb rfl ?_
     refine v_ld 0 tt_ok (v := .int .i64 x137.N) ts_3 rfl (by kernel_rfl) ?_
     refine v_done ?_
     refine x_p rfl ?_
     refine v_done ?_
     refine x_p rfl ?_
     refine v_done ?_
     refine x_vb rfl ?_
     refine v_ld 0 tt_ok (v := .int .i64 x137.Kind) ts_3 rfl (by kernel_rfl) ?_
     refine v_done ?_
     refine x_p rfl ?_
     refine v_done ?_
     refine x_vb rfl ?_
     refine v_ld 0 tt_ok (v := .int .i64 x137.N) ts_3 rfl (by kernel_rfl) ?_
     refine v_done ?_
     refine x_kp [(3,.pointer (some ⟨bq1,0,none⟩)),(7,.pointer (some ⟨bq7,0,none⟩)),(8,.pointer (some ⟨bq8,0,none⟩)),(45,.slice A22 xs20.length c23),(46,.int .i64 (xs20.length : Int)),(47,.int .i64 x133),(51,.pointer (some ⟨bq7,0,none⟩)),(53,.int .i64 x137.Kind),(55,.int .i64 x137.N),(57,.pointer (some ⟨bq8,0,none⟩)),(59,.int .i64 x137.Kind),(61,.int .i64 x137.N)] (by kernel_rfl) fun fr => ?_
     refine x_e rfl ?_
     refine r_le (le_mv 3) ?_
     replace h := h_b h; obtain ⟨⟨x141,x142,x143,x144⟩,hx140,h⟩ := h
     refine r_call (hc_18 (bm0 := bq7) (m0 := y134) (event1 := x137.Kind) (n2 := x137.N) (h := hx140)) ?_
     rintro _ _ ⟨rfl,rfl⟩
     refine r_done ⟨rfl,k_a (le_w [false,true,true,false,true]) (le_w [false,true,true,false,true]),?_⟩
     refine x_e rfl ?_
     refine r_le (le_mv 3) ?_
     replace h := h_b h; obtain ⟨⟨x146,x147,x148,x149⟩,hx145,h⟩ := h
     refine r_call (hc_23 (bm0 := bq8) (m0 := y135) (event1 := x137.Kind) (n2 := x137.N) (h := hx145)) ?_
     rintro _ _ ⟨rfl,rfl⟩
     refine r_done ⟨rfl,k_a (le_w [false,false,true,true,true]) (le_w [false,false,true,true,true]),?_⟩
     refine x_p rfl ?_
     refine v_op (fun w => ex_neb tt_ok rfl rfl rfl rfl w) ?_
     refine v_done ?_
     refine x_p rfl ?_
     refine v_done ?_
     refine x_p rfl ?_
     refine v_ite (fun (hb150 : (!(x141 == x146)) = true) => ?_) (fun (hb150 : (!(x141 == x146)) = false) => ?_)
     ·replace h := h_t h hb150
      clear hb150
      refine v_done ?_
      refine x_p rfl ?_
      refine v_T rfl ?_
      refine v_done ?_
      refine x_p rfl ?_
      refine v_T rfl ?_
      refine v_done ?_
      refine x_p rfl ?_
      refine v_T rfl ?_
      refine v_done ?_
      refine x_2 rfl rfl ?_ ?_
      ·refine r_T rfl ?_
       refine r_done ⟨rfl,k_a (le_w [false,false,true,true,true]) (le_w [false,false,true,true,true]),?_⟩
       refine x_kp [(3,.pointer (some ⟨bq1,0,none⟩)),(7,.pointer (some ⟨bq7,0,none⟩)),(8,.pointer (some ⟨bq8,0,none⟩)),(45,.slice A22 xs20.length c23),(46,.int .i64 (xs20.length : Int)),(47,.int .i64 x133),(64,.bool true),(65,undef),(66,undef),(67,undef),(68,undef),(69,undef)] (by kernel_rfl) fun fr => ?_
       refine x_e rfl ?_
       refine r_T rfl ?_
       refine r_done ⟨rfl,k_a (le_w [false,false,true,true,true]) (le_w [false,false,true,true,true]),?_⟩
       refine x_p rfl ?_
       refine v_T rfl ?_
       refine v_done ?_
       refine x_p rfl ?_
       refine v_T rfl ?_
       refine v_done ?_
       refine x_p rfl ?_
       refine v_done ?_
       refine x_p rfl ?_
       refine v_T rfl ?_
       refine v_done ?_
       refine x_p rfl ?_
       refine v_T rfl ?_
       refine v_done ?_
       refine x_p rfl ?_
       refine v_T rfl ?_
       refine v_done ?_
       refine x_p rfl ?_
       refine v_T rfl ?_
       refine v_done ?_
       refine x_2 rfl rfl ?_ ?_
       ·refine r_T rfl ?_
        refine r_done ⟨rfl,k_a (le_w [false,false,true,true,true]) (le_w [false,false,true,true,true]),?_⟩
        refine x_kp [(3,.pointer (some ⟨bq1,0,none⟩)),(7,.pointer (some ⟨bq7,0,none⟩)),(8,.pointer (some ⟨bq8,0,none⟩)),(45,.slice A22 xs20.length c23),(46,.int .i64 (xs20.length : Int)),(47,.int .i64 x133),(65,undef),(66,undef),(67,undef),(68,undef),(69,undef),(70,undef),(71,undef),(73,.bool true),(74,undef),(75,undef),(76,undef),(77,undef),(78,undef)] (by kernel_rfl) fun fr => ?_
        refine x_e rfl ?_
        refine r_T rfl ?_
        refine r_done ⟨rfl,k_a (le_w [false,false,true,true,true]) (le_w [false,false,true,true,true]),?_⟩
        refine x_e rfl ?_
        refine r_T rfl ?_
        refine r_done ⟨rfl,k_a (le_w [false,false,true,true,true]) (le_w [false,false,true,true,true]),?_⟩
        refine x_p rfl ?_
        refine v_T rfl ?_
        refine v_done ?_
        refine x_p rfl ?_
        refine v_T rfl ?_
        refine v_done ?_
        refine x_p rfl ?_
        refine v_done ?_
        refine x_p rfl ?_
        refine v_T rfl ?_
        refine v_done ?_
        refine x_p rfl ?_
        refine v_T rfl ?_
        refine v_done ?_
        refine x_p rfl ?_
        refine v_T rfl ?_
        refine v_done ?_
        refine x_p rfl ?_
        refine v_T rfl ?_
        refine v_done ?_
        refine x_kp [(3,.pointer (some ⟨bq1,0,none⟩)),(7,.pointer (some ⟨bq7,0,none⟩)),(8,.pointer (some ⟨bq8,0,none⟩)),(45,.slice A22 xs20.length c23),(46,.int .i64 (xs20.length : Int)),(47,.int .i64 x133),(65,undef),(66,undef),(67,undef),(68,undef),(69,undef),(70,undef),(71,undef),(74,undef),(75,undef),(76,undef),(77,undef),(78,undef),(79,undef),(80,undef),(81,undef),(83,.bool true),(84,undef),(86,undef),(87,undef),(88,undef)] (by kernel_rfl) fun fr => ?_
        refine x_2 rfl rfl ?_ ?_
        ·refine r_T rfl ?_
         refine r_done ⟨rfl,k_a (le_w [false,false,true,true,true]) (le_w [false,false,true,true,true]),?_⟩
         refine x_e rfl ?_
         refine r_T rfl ?_
         refine r_done ⟨rfl,k_a (le_w [false,false,true,true,true]) (le_w [false,false,true,true,true]),?_⟩
         refine x_p rfl ?_
         refine v_T rfl ?_
         refine v_done ?_
         refine x_p rfl ?_
         refine v_T rfl ?_
         refine v_done ?_
         refine x_p rfl ?_
         refine v_done ?_
         refine x_p rfl ?_
         refine v_T rfl ?_
         refine v_done ?_
         refine x_p rfl ?_
         refine v_T rfl ?_
         refine v_done ?_
         refine x_p rfl ?_
         refine v_T rfl ?_
         refine v_done ?_
         refine x_p rfl ?_
         refine v_T rfl ?_
         refine v_done ?_
         refine x_kp [(3,.pointer (some ⟨bq1,0,none⟩)),(7,.pointer (some ⟨bq7,0,none⟩)),(8,.pointer (some ⟨bq8,0,none⟩)),(45,.slice A22 xs20.length c23),(46,.int .i64 (xs20.length : Int)),(47,.int .i64 x133),(65,undef),(66,undef),(67,undef),(68,undef),(69,undef),(70,undef),(71,undef),(74,undef),(75,undef),(76,undef),(77,undef),(78,undef),(79,undef),(80,undef),(81,undef),(84,undef),(85,undef),(86,undef),(87,undef),(88,undef),(89,undef),(90,undef),(92,.bool true),(93,undef),(95,undef),(96,undef),(97,undef)] (by kernel_rfl) fun fr => ?_
         refine x_2 rfl rfl ?_ ?_
         ·refine r_T rfl ?_
          refine r_done ⟨rfl,k_a (le_w [false,false,true,true,true]) (le_w [false,false,true,true,true]),?_⟩
          refine x_e rfl ?_
          refine r_T rfl ?_
          refine r_done ⟨rfl,k_a (le_w [false,false,true,true,true]) (le_w [false,false,true,true,true]),?_⟩
          refine x_p rfl ?_
          refine v_T rfl ?_
          refine v_done ?_
          refine x_p rfl ?_
          refine v_T rfl ?_
          refine v_done ?_
          refine x_k [(3,.pointer (some ⟨bq1,0,none⟩)),(7,.pointer (some ⟨bq7,0,none⟩)),(8,.pointer (some ⟨bq8,0,none⟩)),(45,.slice A22 xs20.length c23),(46,.int .i64 (xs20.length : Int)),(47,.int .i64 x133),(100,.bool true)] (by kernel_rfl) fun fr => ?_
          refine r_le (le_w [true,true,false,true,true]) ?_
          exact r_done ⟨true,{ y134 with phase := x142,earliest := x143,closed := x144 },{ y135 with Phase := x147,Earliest := x148,Closed := x149 },_,h,fr_eq _ (by kernel_rfl),(by kernel_rfl)⟩
         ·refine r_T rfl ?_
          refine r_done ⟨rfl,k_a (le_w [false,false,true,true,true]) (le_w [false,false,true,true,true]),?_⟩
          refine x_e rfl ?_
          refine r_T rfl ?_
          refine r_done ⟨rfl,k_a (le_w [false,false,true,true,true]) (le_w [false,false,true,true,true]),?_⟩
          refine x_p rfl ?_
          refine v_T rfl ?_
          refine v_done ?_
          refine x_p rfl ?_
          refine v_T rfl ?_
          refine v_done ?_
          refine x_k [(3,.pointer (some ⟨bq1,0,none⟩)),(7,.pointer (some ⟨bq7,0,none⟩)),(8,.pointer (some ⟨bq8,0,none⟩)),(45,.slice A22 xs20.length c23),(46,.int .i64 (xs20.length : Int)),(47,.int .i64 x133),(100,.bool true)] (by kernel_rfl) fun fr => ?_
          refine r_le (le_w [true,true,false,true,true]) ?_
          exact r_done ⟨true,{ y134 with phase := x142,earliest := x143,closed := x144 },{ y135 with Phase := x147,Earliest := x148,Closed := x149 },_,h,fr_eq _ (by kernel_rfl),(by kernel_rfl)⟩
        ·refine r_T rfl ?_
         refine r_done ⟨rfl,k_a (le_w [false,false,true,true,true]) (le_w [false,false,true,true,true]),?_⟩
         refine x_e rfl ?_
         refine r_T rfl ?_
         refine r_done ⟨rfl,k_a (le_w [false,false,true,true,true]) (le_w [false,false,true,true,true]),?_⟩
         refine x_p rfl ?_
         refine v_T rfl ?_
         refine v_done ?_
         refine x_p rfl ?_
         refine v_T rfl ?_
         refine v_done ?_
         refine x_p rfl ?_
         refine v_done ?_
         refine x_p rfl ?_
         refine v_T rfl ?_
         refine v_done ?_
         refine x_p rfl ?_
         refine v_T rfl ?_
         refine v_done ?_
         refine x_p rfl ?_
         refine v_T rfl ?_
         refine v_done ?_
         refine x_p rfl ?_
         refine v_T rfl ?_
         refine v_done ?_
         refine x_2 rfl rfl ?_ ?_
         ·refine r_T rfl ?_
          refine r_done ⟨rfl,k_a (le_w [false,false,true,true,true]) (le_w [false,false,true,true,true]),?_⟩
          refine x_kp [(3,.pointer (some ⟨bq1,0,none⟩)),(7,.pointer (some ⟨bq7,0,none⟩)),(8,.pointer (some ⟨bq8,0,none⟩)),(45,.slice A22 xs20.length c23),(46,.int .i64 (xs20.length : Int)),(47,.int .i64 x133),(65,undef),(66,undef),(67,undef),(68,undef),(69,undef),(70,undef),(71,undef),(74,undef),(75,undef),(76,undef),(77,undef),(78,undef),(79,undef),(80,undef),(81,undef),(84,undef),(85,undef),(86,undef),(87,undef),(88,undef),(89,undef),(90,undef),(92,.bool true),(93,undef),(94,undef),(95,undef),(96,undef),(97,undef)] (by kernel_rfl) fun fr => ?_
          refine x_e rfl ?_
          refine r_T rfl ?_
          refine r_done ⟨rfl,k_a (le_w [false,false,true,true,true]) (le_w [false,false,true,true,true]),?_⟩
          refine x_p rfl ?_
          refine v_T rfl ?_
          refine v_done ?_
          refine x_p rfl ?_
          refine v_T rfl ?_
          refine v_done ?_
          refine x_k [(3,.pointer (some ⟨bq1,0,none⟩)),(7,.pointer (some ⟨bq7,0,none⟩)),(8,.pointer (some ⟨bq8,0,none⟩)),(45,.slice A22 xs20.length c23),(46,.int .i64 (xs20.length : Int)),(47,.int .i64 x133),(100,.bool true)] (by kernel_rfl) fun fr => ?_
          refine r_le (le_w [true,true,false,true,true]) ?_
          exact r_done ⟨true,{ y134 with phase := x142,earliest := x143,closed := x144 },{ y135 with Phase := x147,Earliest := x148,Closed := x149 },_,h,fr_eq _ (by kernel_rfl),(by kernel_rfl)⟩
         ·refine r_T rfl ?_
          refine r_done ⟨rfl,k_a (le_w [false,false,true,true,true]) (le_w [false,false,true,true,true]),?_⟩
          refine x_e rfl ?_
          refine r_T rfl ?_
          refine r_done ⟨rfl,k_a (le_w [false,false,true,true,true]) (le_w [false,false,true,true,true]),?_⟩
          refine x_p rfl ?_
          refine v_T rfl ?_
          refine v_done ?_
          refine x_p rfl ?_
          refine v_T rfl ?_
          refine v_done ?_
          refine x_k [(3,.pointer (some ⟨bq1,0,none⟩)),(7,.pointer (some ⟨bq7,0,none⟩)),(8,.pointer (some ⟨bq8,0,none⟩)),(45,.slice A22 xs20.length c23),(46,.int .i64 (xs20.length : Int)),(47,.int .i64 x133),(100,.bool true)] (by kernel_rfl) fun fr => ?_
          refine r_le (le_w [true,true,false,true,true]) ?_
          exact r_done ⟨true,{ y134 with phase := x142,earliest := x143,closed := x144 },{ y135 with Phase := x147,Earliest := x148,Closed := x149 },_,h,fr_eq _ (by kernel_rfl),(by kernel_rfl)⟩
       ·refine r_T rfl ?_
        refine r_done ⟨rfl,k_a (le_w [false,false,true,true,true]) (le_w [false,false,true,true,true]),?_⟩
        refine x_e rfl ?_
        refine r_T rfl ?_
        refine r_done ⟨rfl,k_a (le_w [false,false,true,true,true]) (le_w [false,false,true,true,true]),?_⟩
        refine x_e rfl ?_
        refine r_T rfl ?_
        refine r_done ⟨rfl,k_a (le_w [false,false,true,true,true]) (le_w [false,false,true,true,true]),?_⟩
        refine x_p rfl ?_
        refine v_T rfl ?_
        refine v_done ?_
        refine x_p rfl ?_
        refine v_T rfl ?_
        refine v_done ?_
        refine x_p rfl ?_
        refine v_done ?_
        refine x_p rfl ?_
        refine v_T rfl ?_
        refine v_done ?_
        refine x_p rfl ?_
        refine v_T rfl ?_
        refine v_done ?_
        refine x_p rfl ?_
        refine v_T rfl ?_
        refine v_done ?_
        refine x_p rfl ?_
        refine v_T rfl ?_
        refine v_done ?_
        refine x_kp [(3,.pointer (some ⟨bq1,0,none⟩)),(7,.pointer (some ⟨bq7,0,none⟩)),(8,.pointer (some ⟨bq8,0,none⟩)),(45,.slice A22 xs20.length c23),(46,.int .i64 (xs20.length : Int)),(47,.int .i64 x133),(65,undef),(66,undef),(67,undef),(68,undef),(69,undef),(70,undef),(71,undef),(74,undef),(75,undef),(76,undef),(77,undef),(78,undef),(79,undef),(80,undef),(81,undef),(83,.bool true),(84,undef),(86,undef),(87,undef),(88,undef)] (by kernel_rfl) fun fr => ?_
        refine x_2 rfl rfl ?_ ?_
        ·refine r_T rfl ?_
         refine r_done ⟨rfl,k_a (le_w [false,false,true,true,true]) (le_w [false,false,true,true,true]),?_⟩
         refine x_e rfl ?_
         refine r_T rfl ?_
         refine r_done ⟨rfl,k_a (le_w [false,false,true,true,true]) (le_w [false,false,true,true,true]),?_⟩
         refine x_p rfl ?_
         refine v_T rfl ?_
         refine v_done ?_
         refine x_p rfl ?_
         refine v_T rfl ?_
         refine v_done ?_
         refine x_p rfl ?_
         refine v_done ?_
         refine x_p rfl ?_
         refine v_T rfl ?_
         refine v_done ?_
         refine x_p rfl ?_
         refine v_T rfl ?_
         refine v_done ?_
         refine x_p rfl ?_
         refine v_T rfl ?_
         refine v_done ?_
         refine x_p rfl ?_
         refine v_T rfl ?_
         refine v_done ?_
         refine x_kp [(3,.pointer (some ⟨bq1,0,none⟩)),(7,.pointer (some ⟨bq7,0,none⟩)),(8,.pointer (some ⟨bq8,0,none⟩)),(45,.slice A22 xs20.length c23),(46,.int .i64 (xs20.length : Int)),(47,.int .i64 x133),(65,undef),(66,undef),(67,undef),(68,undef),(69,undef),(70,undef),(71,undef),(74,undef),(75,undef),(76,undef),(77,undef),(78,undef),(79,undef),(80,undef),(81,undef),(84,undef),(85,undef),(86,undef),(87,undef),(88,undef),(89,undef),(90,undef),(92,.bool true),(93,undef),(95,undef),(96,undef),(97,undef)] (by kernel_rfl) fun fr => ?_
         refine x_2 rfl rfl ?_ ?_
         ·refine r_T rfl ?_
          refine r_done ⟨rfl,k_a (le_w [false,false,true,true,true]) (le_w [false,false,true,true,true]),?_⟩
          refine x_e rfl ?_
          refine r_T rfl ?_
          refine r_done ⟨rfl,k_a (le_w [false,false,true,true,true]) (le_w [false,false,true,true,true]),?_⟩
          refine x_p rfl ?_
          refine v_T rfl ?_
          refine v_done ?_
          refine x_p rfl ?_
          refine v_T rfl ?_
          refine v_done ?_
          refine x_k [(3,.pointer (some ⟨bq1,0,none⟩)),(7,.pointer (some ⟨bq7,0,none⟩)),(8,.pointer (some ⟨bq8,0,none⟩)),(45,.slice A22 xs20.length c23),(46,.int .i64 (xs20.length : Int)),(47,.int .i64 x133),(100,.bool true)] (by kernel_rfl) fun fr => ?_
          refine r_le (le_w [true,true,false,true,true]) ?_
          exact r_done ⟨true,{ y134 with phase := x142,earliest := x143,closed := x144 },{ y135 with Phase := x147,Earliest := x148,Closed := x149 },_,h,fr_eq _ (by kernel_rfl),(by kernel_rfl)⟩
         ·refine r_T rfl ?_
          refine r_done ⟨rfl,k_a (le_w [false,false,true,true,true]) (le_w [false,false,true,true,true]),?_⟩
          refine x_e rfl ?_
          refine r_T rfl ?_
          refine r_done ⟨rfl,k_a (le_w [false,false,true,true,true]) (le_w [false,false,true,true,true]),?_⟩
          refine x_p rfl ?_
          refine v_T rfl ?_
          refine v_done ?_
          refine x_p rfl ?_
          refine v_T rfl ?_
          refine v_done ?_
          refine x_k [(3,.pointer (some ⟨bq1,0,none⟩)),(7,.pointer (some ⟨bq7,0,none⟩)),(8,.pointer (some ⟨bq8,0,none⟩)),(45,.slice A22 xs20.length c23),(46,.int .i64 (xs20.length : Int)),(47,.int .i64 x133),(100,.bool true)] (by kernel_rfl) fun fr => ?_
          refine r_le (le_w [true,true,false,true,true]) ?_
          exact r_done ⟨true,{ y134 with phase := x142,earliest := x143,closed := x144 },{ y135 with Phase := x147,Earliest := x148,Closed := x149 },_,h,fr_eq _ (by kernel_rfl),(by kernel_rfl)⟩
        ·refine r_T rfl ?_
         refine r_done ⟨rfl,k_a (le_w [false,false,true,true,true]) (le_w [false,false,true,true,true]),?_⟩
         refine x_e rfl ?_
         refine r_T rfl ?_
         refine r_done ⟨rfl,k_a (le_w [false,false,true,true,true]) (le_w [false,false,true,true,true]),?_⟩
         refine x_p rfl ?_
         refine v_T rfl ?_
         refine v_done ?_
         refine x_p rfl ?_
         refine v_T rfl ?_
         refine v_done ?_
         refine x_p rfl ?_
         refine v_done ?_
         refine x_p rfl ?_
         refine v_T rfl ?_
         refine v_done ?_
         refine x_p rfl ?_
         refine v_T rfl ?_
         refine v_done ?_
         refine x_p rfl ?_
         refine v_T rfl ?_
         refine v_done ?_
         refine x_p rfl ?_
         refine v_T rfl ?_
         refine v_done ?_
         refine x_2 rfl rfl ?_ ?_
         ·refine r_T rfl ?_
          refine r_done ⟨rfl,k_a (le_w [false,false,true,true,true]) (le_w [false,false,true,true,true]),?_⟩
          refine x_kp [(3,.pointer (some ⟨bq1,0,none⟩)),(7,.pointer (some ⟨bq7,0,none⟩)),(8,.pointer (some ⟨bq8,0,none⟩)),(45,.slice A22 xs20.length c23),(46,.int .i64 (xs20.length : Int)),(47,.int .i64 x133),(65,undef),(66,undef),(67,undef),(68,undef),(69,undef),(70,undef),(71,undef),(74,undef),(75,undef),(76,undef),(77,undef),(78,undef),(79,undef),(80,undef),(81,undef),(84,undef),(85,undef),(86,undef),(87,undef),(88,undef),(89,undef),(90,undef),(92,.bool true),(93,undef),(94,undef),(95,undef),(96,undef),(97,undef)] (by kernel_rfl) fun fr => ?_
          refine x_e rfl ?_
          refine r_T rfl ?_
          refine r_done ⟨rfl,k_a (le_w [false,false,true,true,true]) (le_w [false,false,true,true,true]),?_⟩
          refine x_p rfl ?_
          refine v_T rfl ?_
          refine v_done ?_
          refine x_p rfl ?_
          refine v_T rfl ?_
          refine v_done ?_
          refine x_k [(3,.pointer (some ⟨bq1,0,none⟩)),(7,.pointer (some ⟨bq7,0,none⟩)),(8,.pointer (some ⟨bq8,0,none⟩)),(45,.slice A22 xs20.length c23),(46,.int .i64 (xs20.length : Int)),(47,.int .i64 x133),(100,.bool true)] (by kernel_rfl) fun fr => ?_
          refine r_le (le_w [true,true,false,true,true]) ?_
          exact r_done ⟨true,{ y134 with phase := x142,earliest := x143,closed := x144 },{ y135 with Phase := x147,Earliest := x148,Closed := x149 },_,h,fr_eq _ (by kernel_rfl),(by kernel_rfl)⟩
         ·refine r_T rfl ?_
          refine r_done ⟨rfl,k_a (le_w [false,false,true,true,true]) (le_w [false,false,true,true,true]),?_⟩
          refine x_e rfl ?_
          refine r_T rfl ?_
          refine r_done ⟨rfl,k_a (le_w [false,false,true,true,true]) (le_w [false,false,true,true,true]),?_⟩
          refine x_p rfl ?_
          refine v_T rfl ?_
          refine v_done ?_
          refine x_p rfl ?_
          refine v_T rfl ?_
          refine v_done ?_
          refine x_k [(3,.pointer (some ⟨bq1,0,none⟩)),(7,.pointer (some ⟨bq7,0,none⟩)),(8,.pointer (some ⟨bq8,0,none⟩)),(45,.slice A22 xs20.length c23),(46,.int .i64 (xs20.length : Int)),(47,.int .i64 x133),(100,.bool true)] (by kernel_rfl) fun fr => ?_
          refine r_le (le_w [true,true,false,true,true]) ?_
          exact r_done ⟨true,{ y134 with phase := x142,earliest := x143,closed := x144 },{ y135 with Phase := x147,Earliest := x148,Closed := x149 },_,h,fr_eq _ (by kernel_rfl),(by kernel_rfl)⟩
      ·refine r_T rfl ?_
       refine r_done ⟨rfl,k_a (le_w [false,false,true,true,true]) (le_w [false,false,true,true,true]),?_⟩
       refine x_e rfl ?_
       refine r_T rfl ?_
       refine r_done ⟨rfl,k_a (le_w [false,false,true,true,true]) (le_w [false,false,true,true,true]),?_⟩
       refine x_p rfl ?_
       refine v_T rfl ?_
       refine v_done ?_
       refine x_p rfl ?_
       refine v_T rfl ?_
       refine v_done ?_
       refine x_p rfl ?_
       refine v_done ?_
       refine x_p rfl ?_
       refine v_T rfl ?_
       refine v_done ?_
       refine x_p rfl ?_
       refine v_T rfl ?_
       refine v_done ?_
       refine x_p rfl ?_
       refine v_T rfl ?_
       refine v_done ?_
       refine x_p rfl ?_
       refine v_T rfl ?_
       refine v_done ?_
       refine x_2 rfl rfl ?_ ?_
       ·refine r_T rfl ?_
        refine r_done ⟨rfl,k_a (le_w [false,false,true,true,true]) (le_w [false,false,true,true,true]),?_⟩
        refine x_kp [(3,.pointer (some ⟨bq1,0,none⟩)),(7,.pointer (some ⟨bq7,0,none⟩)),(8,.pointer (some ⟨bq8,0,none⟩)),(45,.slice A22 xs20.length c23),(46,.int .i64 (xs20.length : Int)),(47,.int .i64 x133),(65,undef),(66,undef),(67,undef),(68,undef),(69,undef),(70,undef),(71,undef),(73,.bool true),(74,undef),(75,undef),(76,undef),(77,undef),(78,undef)] (by kernel_rfl) fun fr => ?_
        refine x_e rfl ?_
        refine r_T rfl ?_
        refine r_done ⟨rfl,k_a (le_w [false,false,true,true,true]) (le_w [false,false,true,true,true]),?_⟩
        refine x_e rfl ?_
        refine r_T rfl ?_
        refine r_done ⟨rfl,k_a (le_w [false,false,true,true,true]) (le_w [false,false,true,true,true]),?_⟩
        refine x_p rfl ?_
        refine v_T rfl ?_
        refine v_done ?_
        refine x_p rfl ?_
        refine v_T rfl ?_
        refine v_done ?_
        refine x_p rfl ?_
        refine v_done ?_
        refine x_p rfl ?_
        refine v_T rfl ?_
        refine v_done ?_
        refine x_p rfl ?_
        refine v_T rfl ?_
        refine v_done ?_
        refine x_p rfl ?_
        refine v_T rfl ?_
        refine v_done ?_
        refine x_p rfl ?_
        refine v_T rfl ?_
        refine v_done ?_
        refine x_kp [(3,.pointer (some ⟨bq1,0,none⟩)),(7,.pointer (some ⟨bq7,0,none⟩)),(8,.pointer (some ⟨bq8,0,none⟩)),(45,.slice A22 xs20.length c23),(46,.int .i64 (xs20.length : Int)),(47,.int .i64 x133),(65,undef),(66,undef),(67,undef),(68,undef),(69,undef),(70,undef),(71,undef),(74,undef),(75,undef),(76,undef),(77,undef),(78,undef),(79,undef),(80,undef),(81,undef),(83,.bool true),(84,undef),(86,undef),(87,undef),(88,undef)] (by kernel_rfl) fun fr => ?_
        refine x_2 rfl rfl ?_ ?_
        ·refine r_T rfl ?_
         refine r_done ⟨rfl,k_a (le_w [false,false,true,true,true]) (le_w [false,false,true,true,true]),?_⟩
         refine x_e rfl ?_
         refine r_T rfl ?_
         refine r_done ⟨rfl,k_a (le_w [false,false,true,true,true]) (le_w [false,false,true,true,true]),?_⟩
         refine x_p rfl ?_
         refine v_T rfl ?_
         refine v_done ?_
         refine x_p rfl ?_
         refine v_T rfl ?_
         refine v_done ?_
         refine x_p rfl ?_
         refine v_done ?_
         refine x_p rfl ?_
         refine v_T rfl ?_
         refine v_done ?_
         refine x_p rfl ?_
         refine v_T rfl ?_
         refine v_done ?_
         refine x_p rfl ?_
         refine v_T rfl ?_
         refine v_done ?_
         refine x_p rfl ?_
         refine v_T rfl ?_
         refine v_done ?_
         refine x_kp [(3,.pointer (some ⟨bq1,0,none⟩)),(7,.pointer (some ⟨bq7,0,none⟩)),(8,.pointer (some ⟨bq8,0,none⟩)),(45,.slice A22 xs20.length c23),(46,.int .i64 (xs20.length : Int)),(47,.int .i64 x133),(65,undef),(66,undef),(67,undef),(68,undef),(69,undef),(70,undef),(71,undef),(74,undef),(75,undef),(76,undef),(77,undef),(78,undef),(79,undef),(80,undef),(81,undef),(84,undef),(85,undef),(86,undef),(87,undef),(88,undef),(89,undef),(90,undef),(92,.bool true),(93,undef),(95,undef),(96,undef),(97,undef)] (by kernel_rfl) fun fr => ?_
         refine x_2 rfl rfl ?_ ?_
         ·refine r_T rfl ?_
          refine r_done ⟨rfl,k_a (le_w [false,false,true,true,true]) (le_w [false,false,true,true,true]),?_⟩
          refine x_e rfl ?_
          refine r_T rfl ?_
          refine r_done ⟨rfl,k_a (le_w [false,false,true,true,true]) (le_w [false,false,true,true,true]),?_⟩
          refine x_p rfl ?_
          refine v_T rfl ?_
          refine v_done ?_
          refine x_p rfl ?_
          refine v_T rfl ?_
          refine v_done ?_
          refine x_k [(3,.pointer (some ⟨bq1,0,none⟩)),(7,.pointer (some ⟨bq7,0,none⟩)),(8,.pointer (some ⟨bq8,0,none⟩)),(45,.slice A22 xs20.length c23),(46,.int .i64 (xs20.length : Int)),(47,.int .i64 x133),(100,.bool true)] (by kernel_rfl) fun fr => ?_
          refine r_le (le_w [true,true,false,true,true]) ?_
          exact r_done ⟨true,{ y134 with phase := x142,earliest := x143,closed := x144 },{ y135 with Phase := x147,Earliest := x148,Closed := x149 },_,h,fr_eq _ (by kernel_rfl),(by kernel_rfl)⟩
         ·refine r_T rfl ?_
          refine r_done ⟨rfl,k_a (le_w [false,false,true,true,true]) (le_w [false,false,true,true,true]),?_⟩
          refine x_e rfl ?_
          refine r_T rfl ?_
          refine r_done ⟨rfl,k_a (le_w [false,false,true,true,true]) (le_w [false,false,true,true,true]),?_⟩
          refine x_p rfl ?_
          refine v_T rfl ?_
          refine v_done ?_
          refine x_p rfl ?_
          refine v_T rfl ?_
          refine v_done ?_
          refine x_k [(3,.pointer (some ⟨bq1,0,none⟩)),(7,.pointer (some ⟨bq7,0,none⟩)),(8,.pointer (some ⟨bq8,0,none⟩)),(45,.slice A22 xs20.length c23),(46,.int .i64 (xs20.length : Int)),(47,.int .i64 x133),(100,.bool true)] (by kernel_rfl) fun fr => ?_
          refine r_le (le_w [true,true,false,true,true]) ?_
          exact r_done ⟨true,{ y134 with phase := x142,earliest := x143,closed := x144 },{ y135 with Phase := x147,Earliest := x148,Closed := x149 },_,h,fr_eq _ (by kernel_rfl),(by kernel_rfl)⟩
        ·refine r_T rfl ?_
         refine r_done ⟨rfl,k_a (le_w [false,false,true,true,true]) (le_w [false,false,true,true,true]),?_⟩
         refine x_e rfl ?_
         refine r_T rfl ?_
         refine r_done ⟨rfl,k_a (le_w [false,false,true,true,true]) (le_w [false,false,true,true,true]),?_⟩
         refine x_p rfl ?_
         refine v_T rfl ?_
         refine v_done ?_
         refine x_p rfl ?_
         refine v_T rfl ?_
         refine v_done ?_
         refine x_p rfl ?_
         refine v_done ?_
         refine x_p rfl ?_
         refine v_T rfl ?_
         refine v_done ?_
         refine x_p rfl ?_
         refine v_T rfl ?_
         refine v_done ?_
         refine x_p rfl ?_
         refine v_T rfl ?_
         refine v_done ?_
         refine x_p rfl ?_
         refine v_T rfl ?_
         refine v_done ?_
         refine x_2 rfl rfl ?_ ?_
         ·refine r_T rfl ?_
          refine r_done ⟨rfl,k_a (le_w [false,false,true,true,true]) (le_w [false,false,true,true,true]),?_⟩
          refine x_kp [(3,.pointer (some ⟨bq1,0,none⟩)),(7,.pointer (some ⟨bq7,0,none⟩)),(8,.pointer (some ⟨bq8,0,none⟩)),(45,.slice A22 xs20.length c23),(46,.int .i64 (xs20.length : Int)),(47,.int .i64 x133),(65,undef),(66,undef),(67,undef),(68,undef),(69,undef),(70,undef),(71,undef),(74,undef),(75,undef),(76,undef),(77,undef),(78,undef),(79,undef),(80,undef),(81,undef),(84,undef),(85,undef),(86,undef),(87,undef),(88,undef),(89,undef),(90,undef),(92,.bool true),(93,undef),(94,undef),(95,undef),(96,undef),(97,undef)] (by kernel_rfl) fun fr => ?_
          refine x_e rfl ?_
          refine r_T rfl ?_
          refine r_done ⟨rfl,k_a (le_w [false,false,true,true,true]) (le_w [false,false,true,true,true]),?_⟩
          refine x_p rfl ?_
          refine v_T rfl ?_
          refine v_done ?_
          refine x_p rfl ?_
          refine v_T rfl ?_
          refine v_done ?_
          refine x_k [(3,.pointer (some ⟨bq1,0,none⟩)),(7,.pointer (some ⟨bq7,0,none⟩)),(8,.pointer (some ⟨bq8,0,none⟩)),(45,.slice A22 xs20.length c23),(46,.int .i64 (xs20.length : Int)),(47,.int .i64 x133),(100,.bool true)] (by kernel_rfl) fun fr => ?_
          refine r_le (le_w [true,true,false,true,true]) ?_
          exact r_done ⟨true,{ y134 with phase := x142,earliest := x143,closed := x144 },{ y135 with Phase := x147,Earliest := x148,Closed := x149 },_,h,fr_eq _ (by kernel_rfl),(by kernel_rfl)⟩
         ·refine r_T rfl ?_
          refine r_done ⟨rfl,k_a (le_w [false,false,true,true,true]) (le_w [false,false,true,true,true]),?_⟩
          refine x_e rfl ?_
          refine r_T rfl ?_
          refine r_done ⟨rfl,k_a (le_w [false,false,true,true,true]) (le_w [false,false,true,true,true]),?_⟩
          refine x_p rfl ?_
          refine v_T rfl ?_
          refine v_done ?_
          refine x_p rfl ?_
          refine v_T rfl ?_
          refine v_done ?_
          refine x_k [(3,.pointer (some ⟨bq1,0,none⟩)),(7,.pointer (some ⟨bq7,0,none⟩)),(8,.pointer (some ⟨bq8,0,none⟩)),(45,.slice A22 xs20.length c23),(46,.int .i64 (xs20.length : Int)),(47,.int .i64 x133),(100,.bool true)] (by kernel_rfl) fun fr => ?_
          refine r_le (le_w [true,true,false,true,true]) ?_
          exact r_done ⟨true,{ y134 with phase := x142,earliest := x143,closed := x144 },{ y135 with Phase := x147,Earliest := x148,Closed := x149 },_,h,fr_eq _ (by kernel_rfl),(by kernel_rfl)⟩
       ·refine r_T rfl ?_
        refine r_done ⟨rfl,k_a (le_w [false,false,true,true,true]) (le_w [false,false,true,true,true]),?_⟩
        refine x_e rfl ?_
        refine r_T rfl ?_
        refine r_done ⟨rfl,k_a (le_w [false,false,true,true,true]) (le_w [false,false,true,true,true]),?_⟩
        refine x_e rfl ?_
        refine r_T rfl ?_
        refine r_done ⟨rfl,k_a (le_w [false,false,true,true,true]) (le_w [false,false,true,true,true]),?_⟩
        refine x_p rfl ?_
        refine v_T rfl ?_
        refine v_done ?_
        refine x_p rfl ?_
        refine v_T rfl ?_
        refine v_done ?_
        refine x_p rfl ?_
        refine v_done ?_
        refine x_p rfl ?_
        refine v_T rfl ?_
        refine v_done ?_
        refine x_p rfl ?_
        refine v_T rfl ?_
        refine v_done ?_
        refine x_p rfl ?_
        refine v_T rfl ?_
        refine v_done ?_
        refine x_p rfl ?_
        refine v_T rfl ?_
        refine v_done ?_
        refine x_kp [(3,.pointer (some ⟨bq1,0,none⟩)),(7,.pointer (some ⟨bq7,0,none⟩)),(8,.pointer (some ⟨bq8,0,none⟩)),(45,.slice A22 xs20.length c23),(46,.int .i64 (xs20.length : Int)),(47,.int .i64 x133),(65,undef),(66,undef),(67,undef),(68,undef),(69,undef),(70,undef),(71,undef),(74,undef),(75,undef),(76,undef),(77,undef),(78,undef),(79,undef),(80,undef),(81,undef),(83,.bool true),(84,undef),(86,undef),(87,undef),(88,undef)] (by kernel_rfl) fun fr => ?_
        refine x_2 rfl rfl ?_ ?_
        ·refine r_T rfl ?_
         refine r_done ⟨rfl,k_a (le_w [false,false,true,true,true]) (le_w [false,false,true,true,true]),?_⟩
         refine x_e rfl ?_
         refine r_T rfl ?_
         refine r_done ⟨rfl,k_a (le_w [false,false,true,true,true]) (le_w [false,false,true,true,true]),?_⟩
         refine x_p rfl ?_
         refine v_T rfl ?_
         refine v_done ?_
         refine x_p rfl ?_
         refine v_T rfl ?_
         refine v_done ?_
         refine x_p rfl ?_
         refine v_done ?_
         refine x_p rfl ?_
         refine v_T rfl ?_
         refine v_done ?_
         refine x_p rfl ?_
         refine v_T rfl ?_
         refine v_done ?_
         refine x_p rfl ?_
         refine v_T rfl ?_
         refine v_done ?_
         refine x_p rfl ?_
         refine v_T rfl ?_
         refine v_done ?_
         refine x_kp [(3,.pointer (some ⟨bq1,0,none⟩)),(7,.pointer (some ⟨bq7,0,none⟩)),(8,.pointer (some ⟨bq8,0,none⟩)),(45,.slice A22 xs20.length c23),(46,.int .i64 (xs20.length : Int)),(47,.int .i64 x133),(65,undef),(66,undef),(67,undef),(68,undef),(69,undef),(70,undef),(71,undef),(74,undef),(75,undef),(76,undef),(77,undef),(78,undef),(79,undef),(80,undef),(81,undef),(84,undef),(85,undef),(86,undef),(87,undef),(88,undef),(89,undef),(90,undef),(92,.bool true),(93,undef),(95,undef),(96,undef),(97,undef)] (by kernel_rfl) fun fr => ?_
         refine x_2 rfl rfl ?_ ?_
         ·refine r_T rfl ?_
          refine r_done ⟨rfl,k_a (le_w [false,false,true,true,true]) (le_w [false,false,true,true,true]),?_⟩
          refine x_e rfl ?_
          refine r_T rfl ?_
          refine r_done ⟨rfl,k_a (le_w [false,false,true,true,true]) (le_w [false,false,true,true,true]),?_⟩
          refine x_p rfl ?_
          refine v_T rfl ?_
          refine v_done ?_
          refine x_p rfl ?_
          refine v_T rfl ?_
          refine v_done ?_
          refine x_k [(3,.pointer (some ⟨bq1,0,none⟩)),(7,.pointer (some ⟨bq7,0,none⟩)),(8,.pointer (some ⟨bq8,0,none⟩)),(45,.slice A22 xs20.length c23),(46,.int .i64 (xs20.length : Int)),(47,.int .i64 x133),(100,.bool true)] (by kernel_rfl) fun fr => ?_
          refine r_le (le_w [true,true,false,true,true]) ?_
          exact r_done ⟨true,{ y134 with phase := x142,earliest := x143,closed := x144 },{ y135 with Phase := x147,Earliest := x148,Closed := x149 },_,h,fr_eq _ (by kernel_rfl),(by kernel_rfl)⟩
         ·refine r_T rfl ?_
          refine r_done ⟨rfl,k_a (le_w [false,false,true,true,true]) (le_w [false,false,true,true,true]),?_⟩
          refine x_e rfl ?_
          refine r_T rfl ?_
          refine r_done ⟨rfl,k_a (le_w [false,false,true,true,true]) (le_w [false,false,true,true,true]),?_⟩
          refine x_p rfl ?_
          refine v_T rfl ?_
          refine v_done ?_
          refine x_p rfl ?_
          refine v_T rfl ?_
          refine v_done ?_
          refine x_k [(3,.pointer (some ⟨bq1,0,none⟩)),(7,.pointer (some ⟨bq7,0,none⟩)),(8,.pointer (some ⟨bq8,0,none⟩)),(45,.slice A22 xs20.length c23),(46,.int .i64 (xs20.length : Int)),(47,.int .i64 x133),(100,.bool true)] (by kernel_rfl) fun fr => ?_
          refine r_le (le_w [true,true,false,true,true]) ?_
          exact r_done ⟨true,{ y134 with phase := x142,earliest := x143,closed := x144 },{ y135 with Phase := x147,Earliest := x148,Closed := x149 },_,h,fr_eq _ (by kernel_rfl),(by kernel_rfl)⟩
        ·refine r_T rfl ?_
         refine r_done ⟨rfl,k_a (le_w [false,false,true,true,true]) (le_w [false,false,true,true,true]),?_⟩
         refine x_e rfl ?_
         refine r_T rfl ?_
         refine r_done ⟨rfl,k_a (le_w [false,false,true,true,true]) (le_w [false,false,true,true,true]),?_⟩
         refine x_p rfl ?_
         refine v_T rfl ?_
         refine v_done ?_
         refine x_p rfl ?_
         refine v_T rfl ?_
         refine v_done ?_
         refine x_p rfl ?_
         refine v_done ?_
         refine x_p rfl ?_
         refine v_T rfl ?_
         refine v_done ?_
         refine x_p rfl ?_
         refine v_T rfl ?_
         refine v_done ?_
         refine x_p rfl ?_
         refine v_T rfl ?_
         refine v_done ?_
         refine x_p rfl ?_
         refine v_T rfl ?_
         refine v_done ?_
         refine x_2 rfl rfl ?_ ?_
         ·refine r_T rfl ?_
          refine r_done ⟨rfl,k_a (le_w [false,false,true,true,true]) (le_w [false,false,true,true,true]),?_⟩
          refine x_kp [(3,.pointer (some ⟨bq1,0,none⟩)),(7,.pointer (some ⟨bq7,0,none⟩)),(8,.pointer (some ⟨bq8,0,none⟩)),(45,.slice A22 xs20.length c23),(46,.int .i64 (xs20.length : Int)),(47,.int .i64 x133),(65,undef),(66,undef),(67,undef),(68,undef),(69,undef),(70,undef),(71,undef),(74,undef),(75,undef),(76,undef),(77,undef),(78,undef),(79,undef),(80,undef),(81,undef),(84,undef),(85,undef),(86,undef),(87,undef),(88,undef),(89,undef),(90,undef),(92,.bool true),(93,undef),(94,undef),(95,undef),(96,undef),(97,undef)] (by kernel_rfl) fun fr => ?_
          refine x_e rfl ?_
          refine r_T rfl ?_
          refine r_done ⟨rfl,k_a (le_w [false,false,true,true,true]) (le_w [false,false,true,true,true]),?_⟩
          refine x_p rfl ?_
          refine v_T rfl ?_
          refine v_done ?_
          refine x_p rfl ?_
          refine v_T rfl ?_
          refine v_done ?_
          refine x_k [(3,.pointer (some ⟨bq1,0,none⟩)),(7,.pointer (some ⟨bq7,0,none⟩)),(8,.pointer (some ⟨bq8,0,none⟩)),(45,.slice A22 xs20.length c23),(46,.int .i64 (xs20.length : Int)),(47,.int .i64 x133),(100,.bool true)] (by kernel_rfl) fun fr => ?_
          refine r_le (le_w [true,true,false,true,true]) ?_
          exact r_done ⟨true,{ y134 with phase := x142,earliest := x143,closed := x144 },{ y135 with Phase := x147,Earliest := x148,Closed := x149 },_,h,fr_eq _ (by kernel_rfl),(by kernel_rfl)⟩
         ·refine r_T rfl ?_
          refine r_done ⟨rfl,k_a (le_w [false,false,true,true,true]) (le_w [false,false,true,true,true]),?_⟩
          refine x_e rfl ?_
          refine r_T rfl ?_
          refine r_done ⟨rfl,k_a (le_w [false,false,true,true,true]) (le_w [false,false,true,true,true]),?_⟩
          refine x_p rfl ?_
          refine v_T rfl ?_
          refine v_done ?_
          refine x_p rfl ?_
          refine v_T rfl ?_
          refine v_done ?_
          refine x_k [(3,.pointer (some ⟨bq1,0,none⟩)),(7,.pointer (some ⟨bq7,0,none⟩)),(8,.pointer (some ⟨bq8,0,none⟩)),(45,.slice A22 xs20.length c23),(46,.int .i64 (xs20.length : Int)),(47,.int .i64 x133),(100,.bool true)] (by kernel_rfl) fun fr => ?_
          refine r_le (le_w [true,true,false,true,true]) ?_
          exact r_done ⟨true,{ y134 with phase := x142,earliest := x143,closed := x144 },{ y135 with Phase := x147,Earliest := x148,Closed := x149 },_,h,fr_eq _ (by kernel_rfl),(by kernel_rfl)⟩
     ·replace h := h_f h hb150
      clear hb150
      refine v_done ?_
      refine x_p rfl ?_
      refine v_F rfl ?_
      refine v_done ?_
      refine x_p rfl ?_
      refine v_F rfl ?_
      refine v_done ?_
      refine x_p rfl ?_
      refine v_F rfl ?_
      refine v_done ?_
      refine x_2 rfl rfl ?_ ?_
      ·refine r_F rfl ?_
       refine r_le (le_mv 1) ?_
       refine r_call (hc_20 (bm0 := bq7) (m0 := { y134 with phase := x142,earliest := x143,closed := x144 })) ?_
       rintro _ _ ⟨rfl,rfl⟩
       refine r_done ⟨rfl,k_a (le_w [false,false,true,true,true]) (le_w [false,false,true,true,true]),?_⟩
       refine x_kp [(3,.pointer (some ⟨bq1,0,none⟩)),(7,.pointer (some ⟨bq7,0,none⟩)),(8,.pointer (some ⟨bq8,0,none⟩)),(45,.slice A22 xs20.length c23),(46,.int .i64 (xs20.length : Int)),(47,.int .i64 x133),(64,.bool false),(65,.pointer (some ⟨bq7,0,none⟩)),(66,.int .i64 (migrate_Migration_Phase ({ y134 with phase := x142,earliest := x143,closed := x144 }))),(67,.pointer (some ⟨bq8,0,none⟩)),(68,.pointer (some ⟨bq8,0,none⟩)),(69,.pointer (some ⟨bq8,4,none⟩))] (by kernel_rfl) fun fr => ?_
       refine x_e rfl ?_
       refine r_F rfl ?_
       refine r_ld 1 tt_ok (v := .int .i64 x147) ts_3 rfl (by kernel_rfl) ?_
       refine r_done ⟨rfl,k_a (le_w [false,false,true,true,true]) (le_w [false,false,true,true,true]),?_⟩
       refine x_p rfl ?_
       refine v_F rfl ?_
       refine v_done ?_
       refine x_p rfl ?_
       refine v_done ?_
       refine x_p rfl ?_
       refine v_done ?_
       refine x_p rfl ?_
       refine v_ite (fun (hb151 : (!decide ((migrate_Migration_Phase ({ y134 with phase := x142,earliest := x143,closed := x144 })) = x147)) = true) => ?_) (fun (hb151 : (!decide ((migrate_Migration_Phase ({ y134 with phase := x142,earliest := x143,closed := x144 })) = x147)) = false) => ?_)
       ·replace h := h_t h hb151
        clear hb151
        refine v_done ?_
        refine x_p rfl ?_
        refine v_T rfl ?_
        refine v_done ?_
        refine x_p rfl ?_
        refine v_T rfl ?_
        refine v_done ?_
        refine x_p rfl ?_
        refine v_T rfl ?_
        refine v_done ?_
        refine x_2 rfl rfl ?_ ?_
        ·refine r_T rfl ?_
         refine r_done ⟨rfl,k_a (le_w [false,false,true,true,true]) (le_w [false,false,true,true,true]),?_⟩
         refine x_kp [(3,.pointer (some ⟨bq1,0,none⟩)),(7,.pointer (some ⟨bq7,0,none⟩)),(8,.pointer (some ⟨bq8,0,none⟩)),(45,.slice A22 xs20.length c23),(46,.int .i64 (xs20.length : Int)),(47,.int .i64 x133),(65,.pointer (some ⟨bq7,0,none⟩)),(66,.int .i64 (migrate_Migration_Phase ({ y134 with phase := x142,earliest := x143,closed := x144 }))),(67,.pointer (some ⟨bq8,0,none⟩)),(68,.pointer (some ⟨bq8,0,none⟩)),(69,.pointer (some ⟨bq8,4,none⟩)),(70,.int .i64 x147),(71,.bool (!decide ((migrate_Migration_Phase ({ y134 with phase := x142,earliest := x143,closed := x144 })) = x147))),(73,.bool true),(74,undef),(75,undef),(76,undef),(77,undef),(78,undef)] (by kernel_rfl) fun fr => ?_
         refine x_e rfl ?_
         refine r_T rfl ?_
         refine r_done ⟨rfl,k_a (le_w [false,false,true,true,true]) (le_w [false,false,true,true,true]),?_⟩
         refine x_e rfl ?_
         refine r_T rfl ?_
         refine r_done ⟨rfl,k_a (le_w [false,false,true,true,true]) (le_w [false,false,true,true,true]),?_⟩
         refine x_p rfl ?_
         refine v_T rfl ?_
         refine v_done ?_
         refine x_p rfl ?_
         refine v_T rfl ?_
         refine v_done ?_
         refine x_p rfl ?_
         refine v_done ?_
         refine x_p rfl ?_
         refine v_T rfl ?_
         refine v_done ?_
         refine x_p rfl ?_
         refine v_T rfl ?_
         refine v_done ?_
         refine x_p rfl ?_
         refine v_T rfl ?_
         refine v_done ?_
         refine x_p rfl ?_
         refine v_T rfl ?_
         refine v_done ?_
         refine x_kp [(3,.pointer (some ⟨bq1,0,none⟩)),(7,.pointer (some ⟨bq7,0,none⟩)),(8,.pointer (some ⟨bq8,0,none⟩)),(45,.slice A22 xs20.length c23),(46,.int .i64 (xs20.length : Int)),(47,.int .i64 x133),(65,.pointer (some ⟨bq7,0,none⟩)),(66,.int .i64 (migrate_Migration_Phase ({ y134 with phase := x142,earliest := x143,closed := x144 }))),(67,.pointer (some ⟨bq8,0,none⟩)),(68,.pointer (some ⟨bq8,0,none⟩)),(69,.pointer (some ⟨bq8,4,none⟩)),(70,.int .i64 x147),(71,.bool (!decide ((migrate_Migration_Phase ({ y134 with phase := x142,earliest := x143,closed := x144 })) = x147))),(74,undef),(75,undef),(76,undef),(77,undef),(78,undef),(79,undef),(80,undef),(81,undef),(83,.bool true),(84,undef),(86,undef),(87,undef),(88,undef)] (by kernel_rfl) fun fr => ?_
         refine x_2 rfl rfl ?_ ?_
         ·refine r_T rfl ?_
          refine r_done ⟨rfl,k_a (le_w [false,false,true,true,true]) (le_w [false,false,true,true,true]),?_⟩
          refine x_e rfl ?_
          refine r_T rfl ?_
          refine r_done ⟨rfl,k_a (le_w [false,false,true,true,true]) (le_w [false,false,true,true,true]),?_⟩
          refine x_p rfl ?_
          refine v_T rfl ?_
          refine v_done ?_
          refine x_p rfl ?_
          refine v_T rfl ?_
          refine v_done ?_
          refine x_p rfl ?_
          refine v_done ?_
          refine x_p rfl ?_
          refine v_T rfl ?_
          refine v_done ?_
          refine x_p rfl ?_
          refine v_T rfl ?_
          refine v_done ?_
          refine x_p rfl ?_
          refine v_T rfl ?_
          refine v_done ?_
          refine x_p rfl ?_
          refine v_T rfl ?_
          refine v_done ?_
          refine x_kp [(3,.pointer (some ⟨bq1,0,none⟩)),(7,.pointer (some ⟨bq7,0,none⟩)),(8,.pointer (some ⟨bq8,0,none⟩)),(45,.slice A22 xs20.length c23),(46,.int .i64 (xs20.length : Int)),(47,.int .i64 x133),(65,.pointer (some ⟨bq7,0,none⟩)),(66,.int .i64 (migrate_Migration_Phase ({ y134 with phase := x142,earliest := x143,closed := x144 }))),(67,.pointer (some ⟨bq8,0,none⟩)),(68,.pointer (some ⟨bq8,0,none⟩)),(69,.pointer (some ⟨bq8,4,none⟩)),(70,.int .i64 x147),(71,.bool (!decide ((migrate_Migration_Phase ({ y134 with phase := x142,earliest := x143,closed := x144 })) = x147))),(74,undef),(75,undef),(76,undef),(77,undef),(78,undef),(79,undef),(80,undef),(81,undef),(84,undef),(85,undef),(86,undef),(87,undef),(88,undef),(89,undef),(90,undef),(92,.bool true),(93,undef),(95,undef),(96,undef),(97,undef)] (by kernel_rfl) fun fr => ?_
          refine x_2 rfl rfl ?_ ?_
          ·refine r_T rfl ?_
           refine r_done ⟨rfl,k_a (le_w [false,false,true,true,true]) (le_w [false,false,true,true,true]),?_⟩
           refine x_e rfl ?_
           refine r_T rfl ?_
           refine r_done ⟨rfl,k_a (le_w [false,false,true,true,true]) (le_w [false,false,true,true,true]),?_⟩
           refine x_p rfl ?_
           refine v_T rfl ?_
           refine v_done ?_
           refine x_p rfl ?_
           refine v_T rfl ?_
           refine v_done ?_
           refine x_k [(3,.pointer (some ⟨bq1,0,none⟩)),(7,.pointer (some ⟨bq7,0,none⟩)),(8,.pointer (some ⟨bq8,0,none⟩)),(45,.slice A22 xs20.length c23),(46,.int .i64 (xs20.length : Int)),(47,.int .i64 x133),(65,.pointer (some ⟨bq7,0,none⟩)),(66,.int .i64 (migrate_Migration_Phase ({ y134 with phase := x142,earliest := x143,closed := x144 }))),(67,.pointer (some ⟨bq8,0,none⟩)),(68,.pointer (some ⟨bq8,0,none⟩)),(69,.pointer (some ⟨bq8,4,none⟩)),(70,.int .i64 x147),(71,.bool (!decide ((migrate_Migration_Phase ({ y134 with phase := x142,earliest := x143,closed := x144 })) = x147))),(100,.bool true)] (by kernel_rfl) fun fr => ?_
           refine r_le ((le_mv 4).trans ((le_mv 4).trans ((le_mv 2).trans ((le_mv 3).trans (le_w [true,true,true,true,false]))))) ?_
           exact r_done ⟨true,{ y134 with phase := x142,earliest := x143,closed := x144 },{ y135 with Phase := x147,Earliest := x148,Closed := x149 },_,h,fr_eq _ (by kernel_rfl),(by kernel_rfl)⟩
          ·refine r_T rfl ?_
           refine r_done ⟨rfl,k_a (le_w [false,false,true,true,true]) (le_w [false,false,true,true,true]),?_⟩
           refine x_e rfl ?_
           refine r_T rfl ?_
           refine r_done ⟨rfl,k_a (le_w [false,false,true,true,true]) (le_w [false,false,true,true,true]),?_⟩
           refine x_p rfl ?_
           refine v_T rfl ?_
           refine v_done ?_
           refine x_p rfl ?_
           refine v_T rfl ?_
           refine v_done ?_
           refine x_k [(3,.pointer (some ⟨bq1,0,none⟩)),(7,.pointer (some ⟨bq7,0,none⟩)),(8,.pointer (some ⟨bq8,0,none⟩)),(45,.slice A22 xs20.length c23),(46,.int .i64 (xs20.length : Int)),(47,.int .i64 x133),(65,.pointer (some ⟨bq7,0,none⟩)),(66,.int .i64 (migrate_Migration_Phase ({ y134 with phase := x142,earliest := x143,closed := x144 }))),(67,.pointer (some ⟨bq8,0,none⟩)),(68,.pointer (some ⟨bq8,0,none⟩)),(69,.pointer (some ⟨bq8,4,none⟩)),(70,.int .i64 x147),(71,.bool (!decide ((migrate_Migration_Phase ({ y134 with phase := x142,earliest := x143,closed := x144 })) = x147))),(100,.bool true)] (by kernel_rfl) fun fr => ?_
           refine r_le ((le_mv 4).trans ((le_mv 4).trans ((le_mv 2).trans ((le_mv 3).trans (le_w [true,true,true,true,false]))))) ?_
           exact r_done ⟨true,{ y134 with phase := x142,earliest := x143,closed := x144 },{ y135 with Phase := x147,Earliest := x148,Closed := x149 },_,h,fr_eq _ (by kernel_rfl),(by kernel_rfl)⟩
         ·refine r_T rfl ?_
          refine r_done ⟨rfl,k_a (le_w [false,false,true,true,true]) (le_w [false,false,true,true,true]),?_⟩
          refine x_e rfl ?_
          refine r_T rfl ?_
          refine r_done ⟨rfl,k_a (le_w [false,false,true,true,true]) (le_w [false,false,true,true,true]),?_⟩
          refine x_p rfl ?_
          refine v_T rfl ?_
          refine v_done ?_
          refine x_p rfl ?_
          refine v_T rfl ?_
          refine v_done ?_
          refine x_p rfl ?_
          refine v_done ?_
          refine x_p rfl ?_
          refine v_T rfl ?_
          refine v_done ?_
          refine x_p rfl ?_
          refine v_T rfl ?_
          refine v_done ?_
          refine x_p rfl ?_
          refine v_T rfl ?_
          refine v_done ?_
          refine x_p rfl ?_
          refine v_T rfl ?_
          refine v_done ?_
          refine x_2 rfl rfl ?_ ?_
          ·refine r_T rfl ?_
           refine r_done ⟨rfl,k_a (le_w [false,false,true,true,true]) (le_w [false,false,true,true,true]),?_⟩
           refine x_kp [(3,.pointer (some ⟨bq1,0,none⟩)),(7,.pointer (some ⟨bq7,0,none⟩)),(8,.pointer (some ⟨bq8,0,none⟩)),(45,.slice A22 xs20.length c23),(46,.int .i64 (xs20.length : Int)),(47,.int .i64 x133),(65,.pointer (some ⟨bq7,0,none⟩)),(66,.int .i64 (migrate_Migration_Phase ({ y134 with phase := x142,earliest := x143,closed := x144 }))),(67,.pointer (some ⟨bq8,0,none⟩)),(68,.pointer (some ⟨bq8,0,none⟩)),(69,.pointer (some ⟨bq8,4,none⟩)),(70,.int .i64 x147),(71,.bool (!decide ((migrate_Migration_Phase ({ y134 with phase := x142,earliest := x143,closed := x144 })) = x147))),(74,undef),(75,undef),(76,undef),(77,undef),(78,undef),(79,undef),(80,undef),(81,undef),(84,undef),(85,undef),(86,undef),(87,undef),(88,undef),(89,undef),(90,undef),(92,.bool true),(93,undef),(94,undef),(95,undef),(96,undef),(97,undef)] (by kernel_rfl) fun fr => ?_
           refine x_e rfl ?_
           refine r_T rfl ?_
           refine r_done ⟨rfl,k_a (le_w [false,false,true,true,true]) (le_w [false,false,true,true,true]),?_⟩
           refine x_p rfl ?_
           refine v_T rfl ?_
           refine v_done ?_
           refine x_p rfl ?_
           refine v_T rfl ?_
           refine v_done ?_
           refine x_k [(3,.pointer (some ⟨bq1,0,none⟩)),(7,.pointer (some ⟨bq7,0,none⟩)),(8,.pointer (some ⟨bq8,0,none⟩)),(45,.slice A22 xs20.length c23),(46,.int .i64 (xs20.length : Int)),(47,.int .i64 x133),(65,.pointer (some ⟨bq7,0,none⟩)),(66,.int .i64 (migrate_Migration_Phase ({ y134 with phase := x142,earliest := x143,closed := x144 }))),(67,.pointer (some ⟨bq8,0,none⟩)),(68,.pointer (some ⟨bq8,0,none⟩)),(69,.pointer (some ⟨bq8,4,none⟩)),(70,.int .i64 x147),(71,.bool (!decide ((migrate_Migration_Phase ({ y134 with phase := x142,earliest := x143,closed := x144 })) = x147))),(100,.bool true)] (by kernel_rfl) fun fr => ?_
           refine r_le ((le_mv 4).trans ((le_mv 4).trans ((le_mv 2).trans ((le_mv 3).trans (le_w [true,true,true,true,false]))))) ?_
           exact r_done ⟨true,{ y134 with phase := x142,earliest := x143,closed := x144 },{ y135 with Phase := x147,Earliest := x148,Closed := x149 },_,h,fr_eq _ (by kernel_rfl),(by kernel_rfl)⟩
          ·refine r_T rfl ?_
           refine r_done ⟨rfl,k_a (le_w [false,false,true,true,true]) (le_w [false,false,true,true,true]),?_⟩
           refine x_e rfl ?_
           refine r_T rfl ?_
           refine r_done ⟨rfl,k_a (le_w [false,false,true,true,true]) (le_w [false,false,true,true,true]),?_⟩
           refine x_p rfl ?_
           refine v_T rfl ?_
           refine v_done ?_
           refine x_p rfl ?_
           refine v_T rfl ?_
           refine v_done ?_
           refine x_k [(3,.pointer (some ⟨bq1,0,none⟩)),(7,.pointer (some ⟨bq7,0,none⟩)),(8,.pointer (some ⟨bq8,0,none⟩)),(45,.slice A22 xs20.length c23),(46,.int .i64 (xs20.length : Int)),(47,.int .i64 x133),(65,.pointer (some ⟨bq7,0,none⟩)),(66,.int .i64 (migrate_Migration_Phase ({ y134 with phase := x142,earliest := x143,closed := x144 }))),(67,.pointer (some ⟨bq8,0,none⟩)),(68,.pointer (some ⟨bq8,0,none⟩)),(69,.pointer (some ⟨bq8,4,none⟩)),(70,.int .i64 x147),(71,.bool (!decide ((migrate_Migration_Phase ({ y134 with phase := x142,earliest := x143,closed := x144 })) = x147))),(100,.bool true)] (by kernel_rfl) fun fr => ?_
           refine r_le ((le_mv 4).trans ((le_mv 4).trans ((le_mv 2).trans ((le_mv 3).trans (le_w [true,true,true,true,false]))))) ?_
           exact r_done ⟨true,{ y134 with phase := x142,earliest := x143,closed := x144 },{ y135 with Phase := x147,Earliest := x148,Closed := x149 },_,h,fr_eq _ (by kernel_rfl),(by kernel_rfl)⟩
        ·refine r_T rfl ?_
         refine r_done ⟨rfl,k_a (le_w [false,false,true,true,true]) (le_w [false,false,true,true,true]),?_⟩
         refine x_e rfl ?_
         refine r_T rfl ?_
         refine r_done ⟨rfl,k_a (le_w [false,false,true,true,true]) (le_w [false,false,true,true,true]),?_⟩
         refine x_e rfl ?_
         refine r_T rfl ?_
         refine r_done ⟨rfl,k_a (le_w [false,false,true,true,true]) (le_w [false,false,true,true,true]),?_⟩
         refine x_p rfl ?_
         refine v_T rfl ?_
         refine v_done ?_
         refine x_p rfl ?_
         refine v_T rfl ?_
         refine v_done ?_
         refine x_p rfl ?_
         refine v_done ?_
         refine x_p rfl ?_
         refine v_T rfl ?_
         refine v_done ?_
         refine x_p rfl ?_
         refine v_T rfl ?_
         refine v_done ?_
         refine x_p rfl ?_
         refine v_T rfl ?_
         refine v_done ?_
         refine x_p rfl ?_
         refine v_T rfl ?_
         refine v_done ?_
         refine x_kp [(3,.pointer (some ⟨bq1,0,none⟩)),(7,.pointer (some ⟨bq7,0,none⟩)),(8,.pointer (some ⟨bq8,0,none⟩)),(45,.slice A22 xs20.length c23),(46,.int .i64 (xs20.length : Int)),(47,.int .i64 x133),(65,.pointer (some ⟨bq7,0,none⟩)),(66,.int .i64 (migrate_Migration_Phase ({ y134 with phase := x142,earliest := x143,closed := x144 }))),(67,.pointer (some ⟨bq8,0,none⟩)),(68,.pointer (some ⟨bq8,0,none⟩)),(69,.pointer (some ⟨bq8,4,none⟩)),(70,.int .i64 x147),(71,.bool (!decide ((migrate_Migration_Phase ({ y134 with phase := x142,earliest := x143,closed := x144 })) = x147))),(74,undef),(75,undef),(76,undef),(77,undef),(78,undef),(79,undef),(80,undef),(81,undef),(83,.bool true),(84,undef),(86,undef),(87,undef),(88,undef)] (by kernel_rfl) fun fr => ?_
         refine x_2 rfl rfl ?_ ?_
         ·refine r_T rfl ?_
          refine r_done ⟨rfl,k_a (le_w [false,false,true,true,true]) (le_w [false,false,true,true,true]),?_⟩
          refine x_e rfl ?_
          refine r_T rfl ?_
          refine r_done ⟨rfl,k_a (le_w [false,false,true,true,true]) (le_w [false,false,true,true,true]),?_⟩
          refine x_p rfl ?_
          refine v_T rfl ?_
          refine v_done ?_
          refine x_p rfl ?_
          refine v_T rfl ?_
          refine v_done ?_
          refine x_p rfl ?_
          refine v_done ?_
          refine x_p rfl ?_
          refine v_T rfl ?_
          refine v_done ?_
          refine x_p rfl ?_
          refine v_T rfl ?_
          refine v_done ?_
          refine x_p rfl ?_
          refine v_T rfl ?_
          refine v_done ?_
          refine x_p rfl ?_
          refine v_T rfl ?_
          refine v_done ?_
          refine x_kp [(3,.pointer (some ⟨bq1,0,none⟩)),(7,.pointer (some ⟨bq7,0,none⟩)),(8,.pointer (some ⟨bq8,0,none⟩)),(45,.slice A22 xs20.length c23),(46,.int .i64 (xs20.length : Int)),(47,.int .i64 x133),(65,.pointer (some ⟨bq7,0,none⟩)),(66,.int .i64 (migrate_Migration_Phase ({ y134 with phase := x142,earliest := x143,closed := x144 }))),(67,.pointer (some ⟨bq8,0,none⟩)),(68,.pointer (some ⟨bq8,0,none⟩)),(69,.pointer (some ⟨bq8,4,none⟩)),(70,.int .i64 x147),(71,.bool (!decide ((migrate_Migration_Phase ({ y134 with phase := x142,earliest := x143,closed := x144 })) = x147))),(74,undef),(75,undef),(76,undef),(77,undef),(78,undef),(79,undef),(80,undef),(81,undef),(84,undef),(85,undef),(86,undef),(87,undef),(88,undef),(89,undef),(90,undef),(92,.bool true),(93,undef),(95,undef),(96,undef),(97,undef)] (by kernel_rfl) fun fr => ?_
          refine x_2 rfl rfl ?_ ?_
          ·refine r_T rfl ?_
           refine r_done ⟨rfl,k_a (le_w [false,false,true,true,true]) (le_w [false,false,true,true,true]),?_⟩
           refine x_e rfl ?_
           refine r_T rfl ?_
           refine r_done ⟨rfl,k_a (le_w [false,false,true,true,true]) (le_w [false,false,true,true,true]),?_⟩
           refine x_p rfl ?_
           refine v_T rfl ?_
           refine v_done ?_
           refine x_p rfl ?_
           refine v_T rfl ?_
           refine v_done ?_
           refine x_k [(3,.pointer (some ⟨bq1,0,none⟩)),(7,.pointer (some ⟨bq7,0,none⟩)),(8,.pointer (some ⟨bq8,0,none⟩)),(45,.slice A22 xs20.length c23),(46,.int .i64 (xs20.length : Int)),(47,.int .i64 x133),(65,.pointer (some ⟨bq7,0,none⟩)),(66,.int .i64 (migrate_Migration_Phase ({ y134 with phase := x142,earliest := x143,closed := x144 }))),(67,.pointer (some ⟨bq8,0,none⟩)),(68,.pointer (some ⟨bq8,0,none⟩)),(69,.pointer (some ⟨bq8,4,none⟩)),(70,.int .i64 x147),(71,.bool (!decide ((migrate_Migration_Phase ({ y134 with phase := x142,earliest := x143,closed := x144 })) = x147))),(100,.bool true)] (by kernel_rfl) fun fr => ?_
           refine r_le ((le_mv 4).trans ((le_mv 4).trans ((le_mv 2).trans ((le_mv 3).trans (le_w [true,true,true,true,false]))))) ?_
           exact r_done ⟨true,{ y134 with phase := x142,earliest := x143,closed := x144 },{ y135 with Phase := x147,Earliest := x148,Closed := x149 },_,h,fr_eq _ (by kernel_rfl),(by kernel_rfl)⟩
          ·refine r_T rfl ?_
           refine r_done ⟨rfl,k_a (le_w [false,false,true,true,true]) (le_w [false,false,true,true,true]),?_⟩
           refine x_e rfl ?_
           refine r_T rfl ?_
           refine r_done ⟨rfl,k_a (le_w [false,false,true,true,true]) (le_w [false,false,true,true,true]),?_⟩
           refine x_p rfl ?_
           refine v_T rfl ?_
           refine v_done ?_
           refine x_p rfl ?_
           refine v_T rfl ?_
           refine v_done ?_
           refine x_k [(3,.pointer (some ⟨bq1,0,none⟩)),(7,.pointer (some ⟨bq7,0,none⟩)),(8,.pointer (some ⟨bq8,0,none⟩)),(45,.slice A22 xs20.length c23),(46,.int .i64 (xs20.length : Int)),(47,.int .i64 x133),(65,.pointer (some ⟨bq7,0,none⟩)),(66,.int .i64 (migrate_Migration_Phase ({ y134 with phase := x142,earliest := x143,closed := x144 }))),(67,.pointer (some ⟨bq8,0,none⟩)),(68,.pointer (some ⟨bq8,0,none⟩)),(69,.pointer (some ⟨bq8,4,none⟩)),(70,.int .i64 x147),(71,.bool (!decide ((migrate_Migration_Phase ({ y134 with phase := x142,earliest := x143,closed := x144 })) = x147))),(100,.bool true)] (by kernel_rfl) fun fr => ?_
           refine r_le ((le_mv 4).trans ((le_mv 4).trans ((le_mv 2).trans ((le_mv 3).trans (le_w [true,true,true,true,false]))))) ?_
           exact r_done ⟨true,{ y134 with phase := x142,earliest := x143,closed := x144 },{ y135 with Phase := x147,Earliest := x148,Closed := x149 },_,h,fr_eq _ (by kernel_rfl),(by kernel_rfl)⟩
         ·refine r_T rfl ?_
          refine r_done ⟨rfl,k_a (le_w [false,false,true,true,true]) (le_w [false,false,true,true,true]),?_⟩
          refine x_e rfl ?_
          refine r_T rfl ?_
          refine r_done ⟨rfl,k_a (le_w [false,false,true,true,true]) (le_w [false,false,true,true,true]),?_⟩
          refine x_p rfl ?_
          refine v_T rfl ?_
          refine v_done ?_
          refine x_p rfl ?_
          refine v_T rfl ?_
          refine v_done ?_
          refine x_p rfl ?_
          refine v_done ?_
          refine x_p rfl ?_
          refine v_T rfl ?_
          refine v_done ?_
          refine x_p rfl ?_
          refine v_T rfl ?_
          refine v_done ?_
          refine x_p rfl ?_
          refine v_T rfl ?_
          refine v_done ?_
          refine x_p rfl ?_
          refine v_T rfl ?_
          refine v_done ?_
          refine x_2 rfl rfl ?_ ?_
          ·refine r_T rfl ?_
           refine r_done ⟨rfl,k_a (le_w [false,false,true,true,true]) (le_w [false,false,true,true,true]),?_⟩
           refine x_kp [(3,.pointer (some ⟨bq1,0,none⟩)),(7,.pointer (some ⟨bq7,0,none⟩)),(8,.pointer (some ⟨bq8,0,none⟩)),(45,.slice A22 xs20.length c23),(46,.int .i64 (xs20.length : Int)),(47,.int .i64 x133),(65,.pointer (some ⟨bq7,0,none⟩)),(66,.int .i64 (migrate_Migration_Phase ({ y134 with phase := x142,earliest := x143,closed := x144 }))),(67,.pointer (some ⟨bq8,0,none⟩)),(68,.pointer (some ⟨bq8,0,none⟩)),(69,.pointer (some ⟨bq8,4,none⟩)),(70,.int .i64 x147),(71,.bool (!decide ((migrate_Migration_Phase ({ y134 with phase := x142,earliest := x143,closed := x144 })) = x147))),(74,undef),(75,undef),(76,undef),(77,undef),(78,undef),(79,undef),(80,undef),(81,undef),(84,undef),(85,undef),(86,undef),(87,undef),(88,undef),(89,undef),(90,undef),(92,.bool true),(93,undef),(94,undef),(95,undef),(96,undef),(97,undef)] (by kernel_rfl) fun fr => ?_
           refine x_e rfl ?_
           refine r_T rfl ?_
           refine r_done ⟨rfl,k_a (le_w [false,false,true,true,true]) (le_w [false,false,true,true,true]),?_⟩
           refine x_p rfl ?_
           refine v_T rfl ?_
           refine v_done ?_
           refine x_p rfl ?_
           refine v_T rfl ?_
           refine v_done ?_
           refine x_k [(3,.pointer (some ⟨bq1,0,none⟩)),(7,.pointer (some ⟨bq7,0,none⟩)),(8,.pointer (some ⟨bq8,0,none⟩)),(45,.slice A22 xs20.length c23),(46,.int .i64 (xs20.length : Int)),(47,.int .i64 x133),(65,.pointer (some ⟨bq7,0,none⟩)),(66,.int .i64 (migrate_Migration_Phase ({ y134 with phase := x142,earliest := x143,closed := x144 }))),(67,.pointer (some ⟨bq8,0,none⟩)),(68,.pointer (some ⟨bq8,0,none⟩)),(69,.pointer (some ⟨bq8,4,none⟩)),(70,.int .i64 x147),(71,.bool (!decide ((migrate_Migration_Phase ({ y134 with phase := x142,earliest := x143,closed := x144 })) = x147))),(100,.bool true)] (by kernel_rfl) fun fr => ?_
           refine r_le ((le_mv 4).trans ((le_mv 4).trans ((le_mv 2).trans ((le_mv 3).trans (le_w [true,true,true,true,false]))))) ?_
           exact r_done ⟨true,{ y134 with phase := x142,earliest := x143,closed := x144 },{ y135 with Phase := x147,Earliest := x148,Closed := x149 },_,h,fr_eq _ (by kernel_rfl),(by kernel_rfl)⟩
          ·refine r_T rfl ?_
           refine r_done ⟨rfl,k_a (le_w [false,false,true,true,true]) (le_w [false,false,true,true,true]),?_⟩
           refine x_e rfl ?_
           refine r_T rfl ?_
           refine r_done ⟨rfl,k_a (le_w [false,false,true,true,true]) (le_w [false,false,true,true,true]),?_⟩
           refine x_p rfl ?_
           refine v_T rfl ?_
           refine v_done ?_
           refine x_p rfl ?_
           refine v_T rfl ?_
           refine v_done ?_
           refine x_k [(3,.pointer (some ⟨bq1,0,none⟩)),(7,.pointer (some ⟨bq7,0,none⟩)),(8,.pointer (some ⟨bq8,0,none⟩)),(45,.slice A22 xs20.length c23),(46,.int .i64 (xs20.length : Int)),(47,.int .i64 x133),(65,.pointer (some ⟨bq7,0,none⟩)),(66,.int .i64 (migrate_Migration_Phase ({ y134 with phase := x142,earliest := x143,closed := x144 }))),(67,.pointer (some ⟨bq8,0,none⟩)),(68,.pointer (some ⟨bq8,0,none⟩)),(69,.pointer (some ⟨bq8,4,none⟩)),(70,.int .i64 x147),(71,.bool (!decide ((migrate_Migration_Phase ({ y134 with phase := x142,earliest := x143,closed := x144 })) = x147))),(100,.bool true)] (by kernel_rfl) fun fr => ?_
           refine r_le ((le_mv 4).trans ((le_mv 4).trans ((le_mv 2).trans ((le_mv 3).trans (le_w [true,true,true,true,false]))))) ?_
           exact r_done ⟨true,{ y134 with phase := x142,earliest := x143,closed := x144 },{ y135 with Phase := x147,Earliest := x148,Closed := x149 },_,h,fr_eq _ (by kernel_rfl),(by kernel_rfl)⟩
       ·replace h := h_f h hb151
        clear hb151
        refine v_done ?_
        refine x_p rfl ?_
        refine v_F rfl ?_
        refine v_done ?_
        refine x_p rfl ?_
        refine v_F rfl ?_
        refine v_done ?_
        refine x_p rfl ?_
        refine v_F rfl ?_
        refine v_done ?_
        refine x_2 rfl rfl ?_ ?_
        ·refine r_F rfl ?_
         replace h := h_b h; obtain ⟨x153,hx152,h⟩ := h
         refine r_call (hc_21 (bm0 := bq7) (m0 := { y134 with phase := x142,earliest := x143,closed := x144 }) (h := hx152)) ?_
         rintro _ _ ⟨rfl,rfl⟩
         refine r_done ⟨rfl,k_a (le_w [false,false,true,true,true]) (le_w [false,false,true,true,true]),?_⟩
         refine x_kp [(3,.pointer (some ⟨bq1,0,none⟩)),(7,.pointer (some ⟨bq7,0,none⟩)),(8,.pointer (some ⟨bq8,0,none⟩)),(45,.slice A22 xs20.length c23),(46,.int .i64 (xs20.length : Int)),(47,.int .i64 x133),(65,.pointer (some ⟨bq7,0,none⟩)),(66,.int .i64 (migrate_Migration_Phase ({ y134 with phase := x142,earliest := x143,closed := x144 }))),(67,.pointer (some ⟨bq8,0,none⟩)),(68,.pointer (some ⟨bq8,0,none⟩)),(69,.pointer (some ⟨bq8,4,none⟩)),(70,.int .i64 x147),(71,.bool (!decide ((migrate_Migration_Phase ({ y134 with phase := x142,earliest := x143,closed := x144 })) = x147))),(73,.bool false),(74,.pointer (some ⟨bq7,0,none⟩)),(75,.int .i64 x153),(76,.pointer (some ⟨bq8,0,none⟩)),(77,.pointer (some ⟨bq8,0,none⟩)),(78,.pointer (some ⟨bq8,4,none⟩))] (by kernel_rfl) fun fr => ?_
         refine x_e rfl ?_
         refine r_F rfl ?_
         refine r_ld 1 tt_ok (v := .int .i64 x147) ts_3 rfl (by kernel_rfl) ?_
         refine r_done ⟨rfl,k_a (le_w [false,false,true,true,true]) (le_w [false,false,true,true,true]),?_⟩
         refine x_e rfl ?_
         refine r_F rfl ?_
         replace h := h_b h; obtain ⟨x155,hx154,h⟩ := h
         refine r_call (hc_24 (phase0 := x147) (h := hx154)) ?_
         rintro _ _ ⟨rfl,rfl⟩
         refine r_done ⟨rfl,k_a (le_w [false,false,true,true,true]) (le_w [false,false,true,true,true]),?_⟩
         refine x_p rfl ?_
         refine v_F rfl ?_
         refine v_done ?_
         refine x_p rfl ?_
         refine v_done ?_
         refine x_p rfl ?_
         refine v_done ?_
         refine x_p rfl ?_
         refine v_ite (fun (hb156 : (!decide (x153 = x155)) = true) => ?_) (fun (hb156 : (!decide (x153 = x155)) = false) => ?_)
         ·replace h := h_t h hb156
          clear hb156
          refine v_done ?_
          refine x_p rfl ?_
          refine v_T rfl ?_
          refine v_done ?_
          refine x_p rfl ?_
          refine v_T rfl ?_
          refine v_done ?_
          refine x_p rfl ?_
          refine v_T rfl ?_
          refine v_done ?_
          refine x_kp [(3,.pointer (some ⟨bq1,0,none⟩)),(7,.pointer (some ⟨bq7,0,none⟩)),(8,.pointer (some ⟨bq8,0,none⟩)),(45,.slice A22 xs20.length c23),(46,.int .i64 (xs20.length : Int)),(47,.int .i64 x133),(65,.pointer (some ⟨bq7,0,none⟩)),(66,.int .i64 (migrate_Migration_Phase ({ y134 with phase := x142,earliest := x143,closed := x144 }))),(67,.pointer (some ⟨bq8,0,none⟩)),(68,.pointer (some ⟨bq8,0,none⟩)),(69,.pointer (some ⟨bq8,4,none⟩)),(70,.int .i64 x147),(71,.bool (!decide ((migrate_Migration_Phase ({ y134 with phase := x142,earliest := x143,closed := x144 })) = x147))),(74,.pointer (some ⟨bq7,0,none⟩)),(75,.int .i64 x153),(76,.pointer (some ⟨bq8,0,none⟩)),(77,.pointer (some ⟨bq8,0,none⟩)),(78,.pointer (some ⟨bq8,4,none⟩)),(79,.int .i64 x147),(80,.int .i64 x155),(81,.bool (!decide (x153 = x155))),(83,.bool true),(84,undef),(86,undef),(87,undef),(88,undef)] (by kernel_rfl) fun fr => ?_
          refine x_2 rfl rfl ?_ ?_
          ·refine r_T rfl ?_
           refine r_done ⟨rfl,k_a (le_w [false,false,true,true,true]) (le_w [false,false,true,true,true]),?_⟩
           refine x_e rfl ?_
           refine r_T rfl ?_
           refine r_done ⟨rfl,k_a (le_w [false,false,true,true,true]) (le_w [false,false,true,true,true]),?_⟩
           refine x_p rfl ?_
           refine v_T rfl ?_
           refine v_done ?_
           refine x_p rfl ?_
           refine v_T rfl ?_
           refine v_done ?_
           refine x_p rfl ?_
           refine v_done ?_
           refine x_p rfl ?_
           refine v_T rfl ?_
           refine v_done ?_
           refine x_p rfl ?_
           refine v_T rfl ?_
           refine v_done ?_
           refine x_p rfl ?_
           refine v_T rfl ?_
           refine v_done ?_
           refine x_p rfl ?_
           refine v_T rfl ?_
           refine v_done ?_
           refine x_kp [(3,.pointer (some ⟨bq1,0,none⟩)),(7,.pointer (some ⟨bq7,0,none⟩)),(8,.pointer (some ⟨bq8,0,none⟩)),(45,.slice A22 xs20.length c23),(46,.int .i64 (xs20.length : Int)),(47,.int .i64 x133),(65,.pointer (some ⟨bq7,0,none⟩)),(66,.int .i64 (migrate_Migration_Phase ({ y134 with phase := x142,earliest := x143,closed := x144 }))),(67,.pointer (some ⟨bq8,0,none⟩)),(68,.pointer (some ⟨bq8,0,none⟩)),(69,.pointer (some ⟨bq8,4,none⟩)),(70,.int .i64 x147),(71,.bool (!decide ((migrate_Migration_Phase ({ y134 with phase := x142,earliest := x143,closed := x144 })) = x147))),(74,.pointer (some ⟨bq7,0,none⟩)),(75,.int .i64 x153),(76,.pointer (some ⟨bq8,0,none⟩)),(77,.pointer (some ⟨bq8,0,none⟩)),(78,.pointer (some ⟨bq8,4,none⟩)),(79,.int .i64 x147),(80,.int .i64 x155),(81,.bool (!decide (x153 = x155))),(84,undef),(85,undef),(86,undef),(87,undef),(88,undef),(89,undef),(90,undef),(92,.bool true),(93,undef),(95,undef),(96,undef),(97,undef)] (by kernel_rfl) fun fr => ?_
           refine x_2 rfl rfl ?_ ?_
           ·refine r_T rfl ?_
            refine r_done ⟨rfl,k_a (le_w [false,false,true,true,true]) (le_w [false,false,true,true,true]),?_⟩
            refine x_e rfl ?_
            refine r_T rfl ?_
            refine r_done ⟨rfl,k_a (le_w [false,false,true,true,true]) (le_w [false,false,true,true,true]),?_⟩
            refine x_p rfl ?_
            refine v_T rfl ?_
            refine v_done ?_
            refine x_p rfl ?_
            refine v_T rfl ?_
            refine v_done ?_
            refine x_k [(3,.pointer (some ⟨bq1,0,none⟩)),(7,.pointer (some ⟨bq7,0,none⟩)),(8,.pointer (some ⟨bq8,0,none⟩)),(45,.slice A22 xs20.length c23),(46,.int .i64 (xs20.length : Int)),(47,.int .i64 x133),(65,.pointer (some ⟨bq7,0,none⟩)),(66,.int .i64 (migrate_Migration_Phase ({ y134 with phase := x142,earliest := x143,closed := x144 }))),(67,.pointer (some ⟨bq8,0,none⟩)),(68,.pointer (some ⟨bq8,0,none⟩)),(69,.pointer (some ⟨bq8,4,none⟩)),(70,.int .i64 x147),(71,.bool (!decide ((migrate_Migration_Phase ({ y134 with phase := x142,earliest := x143,closed := x144 })) = x147))),(74,.pointer (some ⟨bq7,0,none⟩)),(75,.int .i64 x153),(76,.pointer (some ⟨bq8,0,none⟩)),(77,.pointer (some ⟨bq8,0,none⟩)),(78,.pointer (some ⟨bq8,4,none⟩)),(79,.int .i64 x147),(80,.int .i64 x155),(81,.bool (!decide (x153 = x155))),(100,.bool true)] (by kernel_rfl) fun fr => ?_
            refine r_le ((le_mv 4).trans ((le_mv 4).trans ((le_mv 2).trans ((le_mv 3).trans (le_w [true,true,true,true,false]))))) ?_
            exact r_done ⟨true,{ y134 with phase := x142,earliest := x143,closed := x144 },{ y135 with Phase := x147,Earliest := x148,Closed := x149 },_,h,fr_eq _ (by kernel_rfl),(by kernel_rfl)⟩
           ·refine r_T rfl ?_
            refine r_done ⟨rfl,k_a (le_w [false,false,true,true,true]) (le_w [false,false,true,true,true]),?_⟩
            refine x_e rfl ?_
            refine r_T rfl ?_
            refine r_done ⟨rfl,k_a (le_w [false,false,true,true,true]) (le_w [false,false,true,true,true]),?_⟩
            refine x_p rfl ?_
            refine v_T rfl ?_
            refine v_done ?_
            refine x_p rfl ?_
            refine v_T rfl ?_
            refine v_done ?_
            refine x_k [(3,.pointer (some ⟨bq1,0,none⟩)),(7,.pointer (some ⟨bq7,0,none⟩)),(8,.pointer (some ⟨bq8,0,none⟩)),(45,.slice A22 xs20.length c23),(46,.int .i64 (xs20.length : Int)),(47,.int .i64 x133),(65,.pointer (some ⟨bq7,0,none⟩)),(66,.int .i64 (migrate_Migration_Phase ({ y134 with phase := x142,earliest := x143,closed := x144 }))),(67,.pointer (some ⟨bq8,0,none⟩)),(68,.pointer (some ⟨bq8,0,none⟩)),(69,.pointer (some ⟨bq8,4,none⟩)),(70,.int .i64 x147),(71,.bool (!decide ((migrate_Migration_Phase ({ y134 with phase := x142,earliest := x143,closed := x144 })) = x147))),(74,.pointer (some ⟨bq7,0,none⟩)),(75,.int .i64 x153),(76,.pointer (some ⟨bq8,0,none⟩)),(77,.pointer (some ⟨bq8,0,none⟩)),(78,.pointer (some ⟨bq8,4,none⟩)),(79,.int .i64 x147),(80,.int .i64 x155),(81,.bool (!decide (x153 = x155))),(100,.bool true)] (by kernel_rfl) fun fr => ?_
            refine r_le ((le_mv 4).trans ((le_mv 4).trans ((le_mv 2).trans ((le_mv 3).trans (le_w [true,true,true,true,false]))))) ?_
            exact r_done ⟨true,{ y134 with phase := x142,earliest := x143,closed := x144 },{ y135 with Phase := x147,Earliest := x148,Closed := x149 },_,h,fr_eq _ (by kernel_rfl),(by kernel_rfl)⟩
          ·refine r_T rfl ?_
           refine r_done ⟨rfl,k_a (le_w [false,false,true,true,true]) (le_w [false,false,true,true,true]),?_⟩
           refine x_e rfl ?_
           refine r_T rfl ?_
           refine r_done ⟨rfl,k_a (le_w [false,false,true,true,true]) (le_w [false,false,true,true,true]),?_⟩
           refine x_p rfl ?_
           refine v_T rfl ?_
           refine v_done ?_
           refine x_p rfl ?_
           refine v_T rfl ?_
           refine v_done ?_
           refine x_p rfl ?_
           refine v_done ?_
           refine x_p rfl ?_
           refine v_T rfl ?_
           refine v_done ?_
           refine x_p rfl ?_
           refine v_T rfl ?_
           refine v_done ?_
           refine x_p rfl ?_
           refine v_T rfl ?_
           refine v_done ?_
           refine x_p rfl ?_
           refine v_T rfl ?_
           refine v_done ?_
           refine x_2 rfl rfl ?_ ?_
           ·refine r_T rfl ?_
            refine r_done ⟨rfl,k_a (le_w [false,false,true,true,true]) (le_w [false,false,true,true,true]),?_⟩
            refine x_kp [(3,.pointer (some ⟨bq1,0,none⟩)),(7,.pointer (some ⟨bq7,0,none⟩)),(8,.pointer (some ⟨bq8,0,none⟩)),(45,.slice A22 xs20.length c23),(46,.int .i64 (xs20.length : Int)),(47,.int .i64 x133),(65,.pointer (some ⟨bq7,0,none⟩)),(66,.int .i64 (migrate_Migration_Phase ({ y134 with phase := x142,earliest := x143,closed := x144 }))),(67,.pointer (some ⟨bq8,0,none⟩)),(68,.pointer (some ⟨bq8,0,none⟩)),(69,.pointer (some ⟨bq8,4,none⟩)),(70,.int .i64 x147),(71,.bool (!decide ((migrate_Migration_Phase ({ y134 with phase := x142,earliest := x143,closed := x144 })) = x147))),(74,.pointer (some ⟨bq7,0,none⟩)),(75,.int .i64 x153),(76,.pointer (some ⟨bq8,0,none⟩)),(77,.pointer (some ⟨bq8,0,none⟩)),(78,.pointer (some ⟨bq8,4,none⟩)),(79,.int .i64 x147),(80,.int .i64 x155),(81,.bool (!decide (x153 = x155))),(84,undef),(85,undef),(86,undef),(87,undef),(88,undef),(89,undef),(90,undef),(92,.bool true),(93,undef),(94,undef),(95,undef),(96,undef),(97,undef)] (by kernel_rfl) fun fr => ?_
            refine x_e rfl ?_
            refine r_T rfl ?_
            refine r_done ⟨rfl,k_a (le_w [false,false,true,true,true]) (le_w [false,false,true,true,true]),?_⟩
            refine x_p rfl ?_
            refine v_T rfl ?_
            refine v_done ?_
            refine x_p rfl ?_
            refine v_T rfl ?_
            refine v_done ?_
            refine x_k [(3,.pointer (some ⟨bq1,0,none⟩)),(7,.pointer (some ⟨bq7,0,none⟩)),(8,.pointer (some ⟨bq8,0,none⟩)),(45,.slice A22 xs20.length c23),(46,.int .i64 (xs20.length : Int)),(47,.int .i64 x133),(65,.pointer (some ⟨bq7,0,none⟩)),(66,.int .i64 (migrate_Migration_Phase ({ y134 with phase := x142,earliest := x143,closed := x144 }))),(67,.pointer (some ⟨bq8,0,none⟩)),(68,.pointer (some ⟨bq8,0,none⟩)),(69,.pointer (some ⟨bq8,4,none⟩)),(70,.int .i64 x147),(71,.bool (!decide ((migrate_Migration_Phase ({ y134 with phase := x142,earliest := x143,closed := x144 })) = x147))),(74,.pointer (some ⟨bq7,0,none⟩)),(75,.int .i64 x153),(76,.pointer (some ⟨bq8,0,none⟩)),(77,.pointer (some ⟨bq8,0,none⟩)),(78,.pointer (some ⟨bq8,4,none⟩)),(79,.int .i64 x147),(80,.int .i64 x155),(81,.bool (!decide (x153 = x155))),(100,.bool true)] (by kernel_rfl) fun fr => ?_
            refine r_le ((le_mv 4).trans ((le_mv 4).trans ((le_mv 2).trans ((le_mv 3).trans (le_w [true,true,true,true,false]))))) ?_
            exact r_done ⟨true,{ y134 with phase := x142,earliest := x143,closed := x144 },{ y135 with Phase := x147,Earliest := x148,Closed := x149 },_,h,fr_eq _ (by kernel_rfl),(by kernel_rfl)⟩
           ·refine r_T rfl ?_
            refine r_done ⟨rfl,k_a (le_w [false,false,true,true,true]) (le_w [false,false,true,true,true]),?_⟩
            refine x_e rfl ?_
            refine r_T rfl ?_
            refine r_done ⟨rfl,k_a (le_w [false,false,true,true,true]) (le_w [false,false,true,true,true]),?_⟩
            refine x_p rfl ?_
            refine v_T rfl ?_
            refine v_done ?_
            refine x_p rfl ?_
            refine v_T rfl ?_
            refine v_done ?_
            refine x_k [(3,.pointer (some ⟨bq1,0,none⟩)),(7,.pointer (some ⟨bq7,0,none⟩)),(8,.pointer (some ⟨bq8,0,none⟩)),(45,.slice A22 xs20.length c23),(46,.int .i64 (xs20.length : Int)),(47,.int .i64 x133),(65,.pointer (some ⟨bq7,0,none⟩)),(66,.int .i64 (migrate_Migration_Phase ({ y134 with phase := x142,earliest := x143,closed := x144 }))),(67,.pointer (some ⟨bq8,0,none⟩)),(68,.pointer (some ⟨bq8,0,none⟩)),(69,.pointer (some ⟨bq8,4,none⟩)),(70,.int .i64 x147),(71,.bool (!decide ((migrate_Migration_Phase ({ y134 with phase := x142,earliest := x143,closed := x144 })) = x147))),(74,.pointer (some ⟨bq7,0,none⟩)),(75,.int .i64 x153),(76,.pointer (some ⟨bq8,0,none⟩)),(77,.pointer (some ⟨bq8,0,none⟩)),(78,.pointer (some ⟨bq8,4,none⟩)),(79,.int .i64 x147),(80,.int .i64 x155),(81,.bool (!decide (x153 = x155))),(100,.bool true)] (by kernel_rfl) fun fr => ?_
            refine r_le ((le_mv 4).trans ((le_mv 4).trans ((le_mv 2).trans ((le_mv 3).trans (le_w [true,true,true,true,false]))))) ?_
            exact r_done ⟨true,{ y134 with phase := x142,earliest := x143,closed := x144 },{ y135 with Phase := x147,Earliest := x148,Closed := x149 },_,h,fr_eq _ (by kernel_rfl),(by kernel_rfl)⟩
         ·replace h := h_f h hb156
          clear hb156
          refine v_done ?_
          refine x_p rfl ?_
          refine v_F rfl ?_
          refine v_done ?_
          refine x_p rfl ?_
          refine v_F rfl ?_
          refine v_done ?_
          refine x_p rfl ?_
          refine v_F rfl ?_
          refine v_done ?_
          refine x_kp [(3,.pointer (some ⟨bq1,0,none⟩)),(7,.pointer (some ⟨bq7,0,none⟩)),(8,.pointer (some ⟨bq8,0,none⟩)),(45,.slice A22 xs20.length c23),(46,.int .i64 (xs20.length : Int)),(47,.int .i64 x133),(65,.pointer (some ⟨bq7,0,none⟩)),(66,.int .i64 (migrate_Migration_Phase ({ y134 with phase := x142,earliest := x143,closed := x144 }))),(67,.pointer (some ⟨bq8,0,none⟩)),(68,.pointer (some ⟨bq8,0,none⟩)),(69,.pointer (some ⟨bq8,4,none⟩)),(70,.int .i64 x147),(71,.bool (!decide ((migrate_Migration_Phase ({ y134 with phase := x142,earliest := x143,closed := x144 })) = x147))),(74,.pointer (some ⟨bq7,0,none⟩)),(75,.int .i64 x153),(76,.pointer (some ⟨bq8,0,none⟩)),(77,.pointer (some ⟨bq8,0,none⟩)),(78,.pointer (some ⟨bq8,4,none⟩)),(79,.int .i64 x147),(80,.int .i64 x155),(81,.bool (!decide (x153 = x155))),(83,.bool false),(84,.pointer (some ⟨bq7,0,none⟩)),(86,.pointer (some ⟨bq8,0,none⟩)),(87,.pointer (some ⟨bq8,0,none⟩)),(88,.pointer (some ⟨bq8,6,none⟩))] (by kernel_rfl) fun fr => ?_
          refine x_2 rfl rfl ?_ ?_
          ·refine r_F rfl ?_
           refine r_call (hc_19 (bm0 := bq7) (m0 := { y134 with phase := x142,earliest := x143,closed := x144 })) ?_
           rintro _ _ ⟨rfl,rfl⟩
           refine r_done ⟨rfl,k_a (le_w [false,false,true,true,true]) (le_w [false,false,true,true,true]),?_⟩
           refine x_e rfl ?_
           refine r_F rfl ?_
           refine r_ld 1 tt_ok (v := .bool x149) ts_4 rfl (by kernel_rfl) ?_
           refine r_done ⟨rfl,k_a (le_w [false,false,true,true,true]) (le_w [false,false,true,true,true]),?_⟩
           refine x_p rfl ?_
           refine v_F rfl ?_
           refine v_op (fun w => ex_neb tt_ok rfl rfl rfl rfl w) ?_
           refine v_done ?_
           refine x_p rfl ?_
           refine v_done ?_
           refine x_p rfl ?_
           refine v_done ?_
           refine x_p rfl ?_
           refine v_ite (fun (hb157 : (!((migrate_Migration_Closed ({ y134 with phase := x142,earliest := x143,closed := x144 })) == x149)) = true) => ?_) (fun (hb157 : (!((migrate_Migration_Closed ({ y134 with phase := x142,earliest := x143,closed := x144 })) == x149)) = false) => ?_)
           ·replace h := h_t h hb157
            clear hb157
            refine v_done ?_
            refine x_p rfl ?_
            refine v_T rfl ?_
            refine v_done ?_
            refine x_p rfl ?_
            refine v_T rfl ?_
            refine v_done ?_
            refine x_p rfl ?_
            refine v_T rfl ?_
            refine v_done ?_
            refine x_kp [(3,.pointer (some ⟨bq1,0,none⟩)),(7,.pointer (some ⟨bq7,0,none⟩)),(8,.pointer (some ⟨bq8,0,none⟩)),(45,.slice A22 xs20.length c23),(46,.int .i64 (xs20.length : Int)),(47,.int .i64 x133),(65,.pointer (some ⟨bq7,0,none⟩)),(66,.int .i64 (migrate_Migration_Phase ({ y134 with phase := x142,earliest := x143,closed := x144 }))),(67,.pointer (some ⟨bq8,0,none⟩)),(68,.pointer (some ⟨bq8,0,none⟩)),(69,.pointer (some ⟨bq8,4,none⟩)),(70,.int .i64 x147),(71,.bool (!decide ((migrate_Migration_Phase ({ y134 with phase := x142,earliest := x143,closed := x144 })) = x147))),(74,.pointer (some ⟨bq7,0,none⟩)),(75,.int .i64 x153),(76,.pointer (some ⟨bq8,0,none⟩)),(77,.pointer (some ⟨bq8,0,none⟩)),(78,.pointer (some ⟨bq8,4,none⟩)),(79,.int .i64 x147),(80,.int .i64 x155),(81,.bool (!decide (x153 = x155))),(84,.pointer (some ⟨bq7,0,none⟩)),(85,.bool (migrate_Migration_Closed ({ y134 with phase := x142,earliest := x143,closed := x144 }))),(86,.pointer (some ⟨bq8,0,none⟩)),(87,.pointer (some ⟨bq8,0,none⟩)),(88,.pointer (some ⟨bq8,6,none⟩)),(89,.bool x149),(90,.bool (!((migrate_Migration_Closed ({ y134 with phase := x142,earliest := x143,closed := x144 })) == x149))),(92,.bool true),(93,undef),(95,undef),(96,undef),(97,undef)] (by kernel_rfl) fun fr => ?_
            refine x_2 rfl rfl ?_ ?_
            ·refine r_T rfl ?_
             refine r_done ⟨rfl,k_a (le_w [false,false,true,true,true]) (le_w [false,false,true,true,true]),?_⟩
             refine x_e rfl ?_
             refine r_T rfl ?_
             refine r_done ⟨rfl,k_a (le_w [false,false,true,true,true]) (le_w [false,false,true,true,true]),?_⟩
             refine x_p rfl ?_
             refine v_T rfl ?_
             refine v_done ?_
             refine x_p rfl ?_
             refine v_T rfl ?_
             refine v_done ?_
             refine x_k [(3,.pointer (some ⟨bq1,0,none⟩)),(7,.pointer (some ⟨bq7,0,none⟩)),(8,.pointer (some ⟨bq8,0,none⟩)),(45,.slice A22 xs20.length c23),(46,.int .i64 (xs20.length : Int)),(47,.int .i64 x133),(65,.pointer (some ⟨bq7,0,none⟩)),(66,.int .i64 (migrate_Migration_Phase ({ y134 with phase := x142,earliest := x143,closed := x144 }))),(67,.pointer (some ⟨bq8,0,none⟩)),(68,.pointer (some ⟨bq8,0,none⟩)),(69,.pointer (some ⟨bq8,4,none⟩)),(70,.int .i64 x147),(71,.bool (!decide ((migrate_Migration_Phase ({ y134 with phase := x142,earliest := x143,closed := x144 })) = x147))),(74,.pointer (some ⟨bq7,0,none⟩)),(75,.int .i64 x153),(76,.pointer (some ⟨bq8,0,none⟩)),(77,.pointer (some ⟨bq8,0,none⟩)),(78,.pointer (some ⟨bq8,4,none⟩)),(79,.int .i64 x147),(80,.int .i64 x155),(81,.bool (!decide (x153 = x155))),(84,.pointer (some ⟨bq7,0,none⟩)),(85,.bool (migrate_Migration_Closed ({ y134 with phase := x142,earliest := x143,closed := x144 }))),(86,.pointer (some ⟨bq8,0,none⟩)),(87,.pointer (some ⟨bq8,0,none⟩)),(88,.pointer (some ⟨bq8,6,none⟩)),(89,.bool x149),(90,.bool (!((migrate_Migration_Closed ({ y134 with phase := x142,earliest := x143,closed := x144 })) == x149))),(100,.bool true)] (by kernel_rfl) fun fr => ?_
             refine r_le ((le_mv 4).trans ((le_mv 4).trans ((le_mv 2).trans ((le_mv 3).trans (le_w [true,true,true,true,false]))))) ?_
             exact r_done ⟨true,{ y134 with phase := x142,earliest := x143,closed := x144 },{ y135 with Phase := x147,Earliest := x148,Closed := x149 },_,h,fr_eq _ (by kernel_rfl),(by kernel_rfl)⟩
            ·refine r_T rfl ?_
             refine r_done ⟨rfl,k_a (le_w [false,false,true,true,true]) (le_w [false,false,true,true,true]),?_⟩
             refine x_e rfl ?_
             refine r_T rfl ?_
             refine r_done ⟨rfl,k_a (le_w [false,false,true,true,true]) (le_w [false,false,true,true,true]),?_⟩
             refine x_p rfl ?_
             refine v_T rfl ?_
             refine v_done ?_
             refine x_p rfl ?_
             refine v_T rfl ?_
             refine v_done ?_
             refine x_k [(3,.pointer (some ⟨bq1,0,none⟩)),(7,.pointer (some ⟨bq7,0,none⟩)),(8,.pointer (some ⟨bq8,0,none⟩)),(45,.slice A22 xs20.length c23),(46,.int .i64 (xs20.length : Int)),(47,.int .i64 x133),(65,.pointer (some ⟨bq7,0,none⟩)),(66,.int .i64 (migrate_Migration_Phase ({ y134 with phase := x142,earliest := x143,closed := x144 }))),(67,.pointer (some ⟨bq8,0,none⟩)),(68,.pointer (some ⟨bq8,0,none⟩)),(69,.pointer (some ⟨bq8,4,none⟩)),(70,.int .i64 x147),(71,.bool (!decide ((migrate_Migration_Phase ({ y134 with phase := x142,earliest := x143,closed := x144 })) = x147))),(74,.pointer (some ⟨bq7,0,none⟩)),(75,.int .i64 x153),(76,.pointer (some ⟨bq8,0,none⟩)),(77,.pointer (some ⟨bq8,0,none⟩)),(78,.pointer (some ⟨bq8,4,none⟩)),(79,.int .i64 x147),(80,.int .i64 x155),(81,.bool (!decide (x153 = x155))),(84,.pointer (some ⟨bq7,0,none⟩)),(85,.bool (migrate_Migration_Closed ({ y134 with phase := x142,earliest := x143,closed := x144 }))),(86,.pointer (some ⟨bq8,0,none⟩)),(87,.pointer (some ⟨bq8,0,none⟩)),(88,.pointer (some ⟨bq8,6,none⟩)),(89,.bool x149),(90,.bool (!((migrate_Migration_Closed ({ y134 with phase := x142,earliest := x143,closed := x144 })) == x149))),(100,.bool true)] (by kernel_rfl) fun fr => ?_
             refine r_le ((le_mv 4).trans ((le_mv 4).trans ((le_mv 2).trans ((le_mv 3).trans (le_w [true,true,true,true,false]))))) ?_
             exact r_done ⟨true,{ y134 with phase := x142,earliest := x143,closed := x144 },{ y135 with Phase := x147,Earliest := x148,Closed := x149 },_,h,fr_eq _ (by kernel_rfl),(by kernel_rfl)⟩
           ·replace h := h_f h hb157
            clear hb157
            refine v_done ?_
            refine x_p rfl ?_
            refine v_F rfl ?_
            refine v_done ?_
            refine x_p rfl ?_
            refine v_F rfl ?_
            refine v_done ?_
            refine x_p rfl ?_
            refine v_F rfl ?_
            refine v_done ?_
            refine x_kp [(3,.pointer (some ⟨bq1,0,none⟩)),(7,.pointer (some ⟨bq7,0,none⟩)),(8,.pointer (some ⟨bq8,0,none⟩)),(45,.slice A22 xs20.length c23),(46,.int .i64 (xs20.length : Int)),(47,.int .i64 x133),(65,.pointer (some ⟨bq7,0,none⟩)),(66,.int .i64 (migrate_Migration_Phase ({ y134 with phase := x142,earliest := x143,closed := x144 }))),(67,.pointer (some ⟨bq8,0,none⟩)),(68,.pointer (some ⟨bq8,0,none⟩)),(69,.pointer (some ⟨bq8,4,none⟩)),(70,.int .i64 x147),(71,.bool (!decide ((migrate_Migration_Phase ({ y134 with phase := x142,earliest := x143,closed := x144 })) = x147))),(74,.pointer (some ⟨bq7,0,none⟩)),(75,.int .i64 x153),(76,.pointer (some ⟨bq8,0,none⟩)),(77,.pointer (some ⟨bq8,0,none⟩)),(78,.pointer (some ⟨bq8,4,none⟩)),(79,.int .i64 x147),(80,.int .i64 x155),(81,.bool (!decide (x153 = x155))),(84,.pointer (some ⟨bq7,0,none⟩)),(85,.bool (migrate_Migration_Closed ({ y134 with phase := x142,earliest := x143,closed := x144 }))),(86,.pointer (some ⟨bq8,0,none⟩)),(87,.pointer (some ⟨bq8,0,none⟩)),(88,.pointer (some ⟨bq8,6,none⟩)),(89,.bool x149),(90,.bool (!((migrate_Migration_Closed ({ y134 with phase := x142,earliest := x143,closed := x144 })) == x149))),(92,.bool false),(93,.pointer (some ⟨bq7,0,none⟩)),(95,.pointer (some ⟨bq8,0,none⟩)),(96,.pointer (some ⟨bq8,0,none⟩)),(97,.pointer (some ⟨bq8,5,none⟩))] (by kernel_rfl) fun fr => ?_
            refine x_2 rfl rfl ?_ ?_
            ·refine r_F rfl ?_
             refine r_call (hc_25 (bm0 := bq7) (m0 := { y134 with phase := x142,earliest := x143,closed := x144 })) ?_
             rintro _ _ ⟨rfl,rfl⟩
             refine r_done ⟨rfl,k_a (le_w [false,false,true,true,true]) (le_w [false,false,true,true,true]),?_⟩
             refine x_e rfl ?_
             refine r_F rfl ?_
             refine r_ld 1 tt_ok (v := .int .i64 x148) ts_3 rfl (by kernel_rfl) ?_
             refine r_done ⟨rfl,k_a (le_w [false,false,true,true,true]) (le_w [false,false,true,true,true]),?_⟩
             refine x_p rfl ?_
             refine v_F rfl ?_
             refine v_done ?_
             refine x_p rfl ?_
             refine v_done ?_
             refine x_k [(3,.pointer (some ⟨bq1,0,none⟩)),(7,.pointer (some ⟨bq7,0,none⟩)),(8,.pointer (some ⟨bq8,0,none⟩)),(45,.slice A22 xs20.length c23),(46,.int .i64 (xs20.length : Int)),(47,.int .i64 x133),(65,.pointer (some ⟨bq7,0,none⟩)),(66,.int .i64 (migrate_Migration_Phase ({ y134 with phase := x142,earliest := x143,closed := x144 }))),(67,.pointer (some ⟨bq8,0,none⟩)),(68,.pointer (some ⟨bq8,0,none⟩)),(69,.pointer (some ⟨bq8,4,none⟩)),(70,.int .i64 x147),(71,.bool (!decide ((migrate_Migration_Phase ({ y134 with phase := x142,earliest := x143,closed := x144 })) = x147))),(74,.pointer (some ⟨bq7,0,none⟩)),(75,.int .i64 x153),(76,.pointer (some ⟨bq8,0,none⟩)),(77,.pointer (some ⟨bq8,0,none⟩)),(78,.pointer (some ⟨bq8,4,none⟩)),(79,.int .i64 x147),(80,.int .i64 x155),(81,.bool (!decide (x153 = x155))),(84,.pointer (some ⟨bq7,0,none⟩)),(85,.bool (migrate_Migration_Closed ({ y134 with phase := x142,earliest := x143,closed := x144 }))),(86,.pointer (some ⟨bq8,0,none⟩)),(87,.pointer (some ⟨bq8,0,none⟩)),(88,.pointer (some ⟨bq8,6,none⟩)),(89,.bool x149),(90,.bool (!((migrate_Migration_Closed ({ y134 with phase := x142,earliest := x143,closed := x144 })) == x149))),(93,.pointer (some ⟨bq7,0,none⟩)),(94,.int .i64 (migrate_Migration_Earliest ({ y134 with phase := x142,earliest := x143,closed := x144 }))),(95,.pointer (some ⟨bq8,0,none⟩)),(96,.pointer (some ⟨bq8,0,none⟩)),(97,.pointer (some ⟨bq8,5,none⟩)),(98,.int .i64 x148),(99,.bool (!decide ((migrate_Migration_Earliest ({ y134 with phase := x142,earliest := x143,closed := x144 })) = x148))),(100,.bool (!decide ((migrate_Migration_Earliest ({ y134 with phase := x142,earliest := x143,closed := x144 })) = x148)))] (by kernel_rfl) fun fr => ?_
             refine r_le ((le_mv 4).trans ((le_mv 4).trans ((le_mv 2).trans ((le_mv 3).trans (le_w [true,true,true,true,false]))))) ?_
             exact r_done ⟨!decide ((migrate_Migration_Earliest ({ y134 with phase := x142,earliest := x143,closed := x144 })) = x148),{ y134 with phase := x142,earliest := x143,closed := x144 },{ y135 with Phase := x147,Earliest := x148,Closed := x149 },_,h,fr_eq _ (by kernel_rfl),(by kernel_rfl)⟩
            ·refine r_F rfl ?_
             refine r_ld 1 tt_ok (v := .int .i64 x148) ts_3 rfl (by kernel_rfl) ?_
             refine r_done ⟨rfl,k_a (le_w [false,false,true,true,true]) (le_w [false,false,true,true,true]),?_⟩
             refine x_e rfl ?_
             refine r_F rfl ?_
             refine r_call (hc_25 (bm0 := bq7) (m0 := { y134 with phase := x142,earliest := x143,closed := x144 })) ?_
             rintro _ _ ⟨rfl,rfl⟩
             refine r_done ⟨rfl,k_a (le_w [false,false,true,true,true]) (le_w [false,false,true,true,true]),?_⟩
             refine x_p rfl ?_
             refine v_F rfl ?_
             refine v_done ?_
             refine x_p rfl ?_
             refine v_done ?_
             refine x_k [(3,.pointer (some ⟨bq1,0,none⟩)),(7,.pointer (some ⟨bq7,0,none⟩)),(8,.pointer (some ⟨bq8,0,none⟩)),(45,.slice A22 xs20.length c23),(46,.int .i64 (xs20.length : Int)),(47,.int .i64 x133),(65,.pointer (some ⟨bq7,0,none⟩)),(66,.int .i64 (migrate_Migration_Phase ({ y134 with phase := x142,earliest := x143,closed := x144 }))),(67,.pointer (some ⟨bq8,0,none⟩)),(68,.pointer (some ⟨bq8,0,none⟩)),(69,.pointer (some ⟨bq8,4,none⟩)),(70,.int .i64 x147),(71,.bool (!decide ((migrate_Migration_Phase ({ y134 with phase := x142,earliest := x143,closed := x144 })) = x147))),(74,.pointer (some ⟨bq7,0,none⟩)),(75,.int .i64 x153),(76,.pointer (some ⟨bq8,0,none⟩)),(77,.pointer (some ⟨bq8,0,none⟩)),(78,.pointer (some ⟨bq8,4,none⟩)),(79,.int .i64 x147),(80,.int .i64 x155),(81,.bool (!decide (x153 = x155))),(84,.pointer (some ⟨bq7,0,none⟩)),(85,.bool (migrate_Migration_Closed ({ y134 with phase := x142,earliest := x143,closed := x144 }))),(86,.pointer (some ⟨bq8,0,none⟩)),(87,.pointer (some ⟨bq8,0,none⟩)),(88,.pointer (some ⟨bq8,6,none⟩)),(89,.bool x149),(90,.bool (!((migrate_Migration_Closed ({ y134 with phase := x142,earliest := x143,closed := x144 })) == x149))),(93,.pointer (some ⟨bq7,0,none⟩)),(94,.int .i64 (migrate_Migration_Earliest ({ y134 with phase := x142,earliest := x143,closed := x144 }))),(95,.pointer (some ⟨bq8,0,none⟩)),(96,.pointer (some ⟨bq8,0,none⟩)),(97,.pointer (some ⟨bq8,5,none⟩)),(98,.int .i64 x148),(99,.bool (!decide ((migrate_Migration_Earliest ({ y134 with phase := x142,earliest := x143,closed := x144 })) = x148))),(100,.bool (!decide ((migrate_Migration_Earliest ({ y134 with phase := x142,earliest := x143,closed := x144 })) = x148)))] (by kernel_rfl) fun fr => ?_
             refine r_le ((le_mv 4).trans ((le_mv 4).trans ((le_mv 2).trans ((le_mv 3).trans (le_w [true,true,true,true,false]))))) ?_
             exact r_done ⟨!decide ((migrate_Migration_Earliest ({ y134 with phase := x142,earliest := x143,closed := x144 })) = x148),{ y134 with phase := x142,earliest := x143,closed := x144 },{ y135 with Phase := x147,Earliest := x148,Closed := x149 },_,h,fr_eq _ (by kernel_rfl),(by kernel_rfl)⟩
          ·refine r_F rfl ?_
           refine r_ld 1 tt_ok (v := .bool x149) ts_4 rfl (by kernel_rfl) ?_
           refine r_done ⟨rfl,k_a (le_w [false,false,true,true,true]) (le_w [false,false,true,true,true]),?_⟩
           refine x_e rfl ?_
           refine r_F rfl ?_
           refine r_call (hc_19 (bm0 := bq7) (m0 := { y134 with phase := x142,earliest := x143,closed := x144 })) ?_
           rintro _ _ ⟨rfl,rfl⟩
           refine r_done ⟨rfl,k_a (le_w [false,false,true,true,true]) (le_w [false,false,true,true,true]),?_⟩
           refine x_p rfl ?_
           refine v_F rfl ?_
           refine v_op (fun w => ex_neb tt_ok rfl rfl rfl rfl w) ?_
           refine v_done ?_
           refine x_p rfl ?_
           refine v_done ?_
           refine x_kp [(3,.pointer (some ⟨bq1,0,none⟩)),(7,.pointer (some ⟨bq7,0,none⟩)),(8,.pointer (some ⟨bq8,0,none⟩)),(45,.slice A22 xs20.length c23),(46,.int .i64 (xs20.length : Int)),(47,.int .i64 x133),(65,.pointer (some ⟨bq7,0,none⟩)),(66,.int .i64 (migrate_Migration_Phase ({ y134 with phase := x142,earliest := x143,closed := x144 }))),(67,.pointer (some ⟨bq8,0,none⟩)),(68,.pointer (some ⟨bq8,0,none⟩)),(69,.pointer (some ⟨bq8,4,none⟩)),(70,.int .i64 x147),(71,.bool (!decide ((migrate_Migration_Phase ({ y134 with phase := x142,earliest := x143,closed := x144 })) = x147))),(74,.pointer (some ⟨bq7,0,none⟩)),(75,.int .i64 x153),(76,.pointer (some ⟨bq8,0,none⟩)),(77,.pointer (some ⟨bq8,0,none⟩)),(78,.pointer (some ⟨bq8,4,none⟩)),(79,.int .i64 x147),(80,.int .i64 x155),(81,.bool (!decide (x153 = x155))),(84,.pointer (some ⟨bq7,0,none⟩)),(85,.bool (migrate_Migration_Closed ({ y134 with phase := x142,earliest := x143,closed := x144 }))),(86,.pointer (some ⟨bq8,0,none⟩)),(87,.pointer (some ⟨bq8,0,none⟩)),(88,.pointer (some ⟨bq8,6,none⟩)),(89,.bool x149),(90,.bool (!((migrate_Migration_Closed ({ y134 with phase := x142,earliest := x143,closed := x144 })) == x149))),(91,.bool (!((migrate_Migration_Closed ({ y134 with phase := x142,earliest := x143,closed := x144 })) == x149)))] (by kernel_rfl) fun fr => ?_
           refine x_p rfl ?_
           refine v_done ?_
           refine x_p rfl ?_
           refine v_ite (fun (hb158 : (!((migrate_Migration_Closed ({ y134 with phase := x142,earliest := x143,closed := x144 })) == x149)) = true) => ?_) (fun (hb158 : (!((migrate_Migration_Closed ({ y134 with phase := x142,earliest := x143,closed := x144 })) == x149)) = false) => ?_)
           ·replace h := h_t h hb158
            clear hb158
            refine v_done ?_
            refine x_p rfl ?_
            refine v_T rfl ?_
            refine v_done ?_
            refine x_p rfl ?_
            refine v_T rfl ?_
            refine v_done ?_
            refine x_p rfl ?_
            refine v_T rfl ?_
            refine v_done ?_
            refine x_2 rfl rfl ?_ ?_
            ·refine r_T rfl ?_
             refine r_done ⟨rfl,k_a (le_w [false,false,true,true,true]) (le_w [false,false,true,true,true]),?_⟩
             refine x_e rfl ?_
             refine r_T rfl ?_
             refine r_done ⟨rfl,k_a (le_w [false,false,true,true,true]) (le_w [false,false,true,true,true]),?_⟩
             refine x_p rfl ?_
             refine v_T rfl ?_
             refine v_done ?_
             refine x_p rfl ?_
             refine v_T rfl ?_
             refine v_done ?_
             refine x_k [(3,.pointer (some ⟨bq1,0,none⟩)),(7,.pointer (some ⟨bq7,0,none⟩)),(8,.pointer (some ⟨bq8,0,none⟩)),(45,.slice A22 xs20.length c23),(46,.int .i64 (xs20.length : Int)),(47,.int .i64 x133),(65,.pointer (some ⟨bq7,0,none⟩)),(66,.int .i64 (migrate_Migration_Phase ({ y134 with phase := x142,earliest := x143,closed := x144 }))),(67,.pointer (some ⟨bq8,0,none⟩)),(68,.pointer (some ⟨bq8,0,none⟩)),(69,.pointer (some ⟨bq8,4,none⟩)),(70,.int .i64 x147),(71,.bool (!decide ((migrate_Migration_Phase ({ y134 with phase := x142,earliest := x143,closed := x144 })) = x147))),(74,.pointer (some ⟨bq7,0,none⟩)),(75,.int .i64 x153),(76,.pointer (some ⟨bq8,0,none⟩)),(77,.pointer (some ⟨bq8,0,none⟩)),(78,.pointer (some ⟨bq8,4,none⟩)),(79,.int .i64 x147),(80,.int .i64 x155),(81,.bool (!decide (x153 = x155))),(84,.pointer (some ⟨bq7,0,none⟩)),(85,.bool (migrate_Migration_Closed ({ y134 with phase := x142,earliest := x143,closed := x144 }))),(86,.pointer (some ⟨bq8,0,none⟩)),(87,.pointer (some ⟨bq8,0,none⟩)),(88,.pointer (some ⟨bq8,6,none⟩)),(89,.bool x149),(90,.bool (!((migrate_Migration_Closed ({ y134 with phase := x142,earliest := x143,closed := x144 })) == x149))),(100,.bool true)] (by kernel_rfl) fun fr => ?_
             refine r_le ((le_mv 4).trans ((le_mv 4).trans ((le_mv 2).trans ((le_mv 3).trans (le_w [true,true,true,true,false]))))) ?_
             exact r_done ⟨true,{ y134 with phase := x142,earliest := x143,closed := x144 },{ y135 with Phase := x147,Earliest := x148,Closed := x149 },_,h,fr_eq _ (by kernel_rfl),(by kernel_rfl)⟩
            ·refine r_T rfl ?_
             refine r_done ⟨rfl,k_a (le_w [false,false,true,true,true]) (le_w [false,false,true,true,true]),?_⟩
             refine x_e rfl ?_
             refine r_T rfl ?_
             refine r_done ⟨rfl,k_a (le_w [false,false,true,true,true]) (le_w [false,false,true,true,true]),?_⟩
             refine x_p rfl ?_
             refine v_T rfl ?_
             refine v_done ?_
             refine x_p rfl ?_
             refine v_T rfl ?_
             refine v_done ?_
             refine x_k [(3,.pointer (some ⟨bq1,0,none⟩)),(7,.pointer (some ⟨bq7,0,none⟩)),(8,.pointer (some ⟨bq8,0,none⟩)),(45,.slice A22 xs20.length c23),(46,.int .i64 (xs20.length : Int)),(47,.int .i64 x133),(65,.pointer (some ⟨bq7,0,none⟩)),(66,.int .i64 (migrate_Migration_Phase ({ y134 with phase := x142,earliest := x143,closed := x144 }))),(67,.pointer (some ⟨bq8,0,none⟩)),(68,.pointer (some ⟨bq8,0,none⟩)),(69,.pointer (some ⟨bq8,4,none⟩)),(70,.int .i64 x147),(71,.bool (!decide ((migrate_Migration_Phase ({ y134 with phase := x142,earliest := x143,closed := x144 })) = x147))),(74,.pointer (some ⟨bq7,0,none⟩)),(75,.int .i64 x153),(76,.pointer (some ⟨bq8,0,none⟩)),(77,.pointer (some ⟨bq8,0,none⟩)),(78,.pointer (some ⟨bq8,4,none⟩)),(79,.int .i64 x147),(80,.int .i64 x155),(81,.bool (!decide (x153 = x155))),(84,.pointer (some ⟨bq7,0,none⟩)),(85,.bool (migrate_Migration_Closed ({ y134 with phase := x142,earliest := x143,closed := x144 }))),(86,.pointer (some ⟨bq8,0,none⟩)),(87,.pointer (some ⟨bq8,0,none⟩)),(88,.pointer (some ⟨bq8,6,none⟩)),(89,.bool x149),(90,.bool (!((migrate_Migration_Closed ({ y134 with phase := x142,earliest := x143,closed := x144 })) == x149))),(100,.bool true)] (by kernel_rfl) fun fr => ?_
             refine r_le ((le_mv 4).trans ((le_mv 4).trans ((le_mv 2).trans ((le_mv 3).trans (le_w [true,true,true,true,false]))))) ?_
             exact r_done ⟨true,{ y134 with phase := x142,earliest := x143,closed := x144 },{ y135 with Phase := x147,Earliest := x148,Closed := x149 },_,h,fr_eq _ (by kernel_rfl),(by kernel_rfl)⟩
           ·replace h := h_f h hb158
            clear hb158
            refine v_done ?_
            refine x_p rfl ?_
            refine v_F rfl ?_
            refine v_done ?_
            refine x_p rfl ?_
            refine v_F rfl ?_
            refine v_done ?_
            refine x_p rfl ?_
            refine v_F rfl ?_
            refine v_done ?_
            refine x_2 rfl rfl ?_ ?_
            ·refine r_F rfl ?_
             refine r_call (hc_25 (bm0 := bq7) (m0 := { y134 with phase := x142,earliest := x143,closed := x144 })) ?_
             rintro _ _ ⟨rfl,rfl⟩
             refine r_done ⟨rfl,k_a (le_w [false,false,true,true,true]) (le_w [false,false,true,true,true]),?_⟩
             refine x_e rfl ?_
             refine r_F rfl ?_
             refine r_ld 1 tt_ok (v := .int .i64 x148) ts_3 rfl (by kernel_rfl) ?_
             refine r_done ⟨rfl,k_a (le_w [false,false,true,true,true]) (le_w [false,false,true,true,true]),?_⟩
             refine x_p rfl ?_
             refine v_F rfl ?_
             refine v_done ?_
             refine x_p rfl ?_
             refine v_done ?_
             refine x_k [(3,.pointer (some ⟨bq1,0,none⟩)),(7,.pointer (some ⟨bq7,0,none⟩)),(8,.pointer (some ⟨bq8,0,none⟩)),(45,.slice A22 xs20.length c23),(46,.int .i64 (xs20.length : Int)),(47,.int .i64 x133),(65,.pointer (some ⟨bq7,0,none⟩)),(66,.int .i64 (migrate_Migration_Phase ({ y134 with phase := x142,earliest := x143,closed := x144 }))),(67,.pointer (some ⟨bq8,0,none⟩)),(68,.pointer (some ⟨bq8,0,none⟩)),(69,.pointer (some ⟨bq8,4,none⟩)),(70,.int .i64 x147),(71,.bool (!decide ((migrate_Migration_Phase ({ y134 with phase := x142,earliest := x143,closed := x144 })) = x147))),(74,.pointer (some ⟨bq7,0,none⟩)),(75,.int .i64 x153),(76,.pointer (some ⟨bq8,0,none⟩)),(77,.pointer (some ⟨bq8,0,none⟩)),(78,.pointer (some ⟨bq8,4,none⟩)),(79,.int .i64 x147),(80,.int .i64 x155),(81,.bool (!decide (x153 = x155))),(84,.pointer (some ⟨bq7,0,none⟩)),(85,.bool (migrate_Migration_Closed ({ y134 with phase := x142,earliest := x143,closed := x144 }))),(86,.pointer (some ⟨bq8,0,none⟩)),(87,.pointer (some ⟨bq8,0,none⟩)),(88,.pointer (some ⟨bq8,6,none⟩)),(89,.bool x149),(90,.bool (!((migrate_Migration_Closed ({ y134 with phase := x142,earliest := x143,closed := x144 })) == x149))),(93,.pointer (some ⟨bq7,0,none⟩)),(94,.int .i64 (migrate_Migration_Earliest ({ y134 with phase := x142,earliest := x143,closed := x144 }))),(95,.pointer (some ⟨bq8,0,none⟩)),(96,.pointer (some ⟨bq8,0,none⟩)),(97,.pointer (some ⟨bq8,5,none⟩)),(98,.int .i64 x148),(99,.bool (!decide ((migrate_Migration_Earliest ({ y134 with phase := x142,earliest := x143,closed := x144 })) = x148))),(100,.bool (!decide ((migrate_Migration_Earliest ({ y134 with phase := x142,earliest := x143,closed := x144 })) = x148)))] (by kernel_rfl) fun fr => ?_
             refine r_le ((le_mv 4).trans ((le_mv 4).trans ((le_mv 2).trans ((le_mv 3).trans (le_w [true,true,true,true,false]))))) ?_
             exact r_done ⟨!decide ((migrate_Migration_Earliest ({ y134 with phase := x142,earliest := x143,closed := x144 })) = x148),{ y134 with phase := x142,earliest := x143,closed := x144 },{ y135 with Phase := x147,Earliest := x148,Closed := x149 },_,h,fr_eq _ (by kernel_rfl),(by kernel_rfl)⟩
            ·refine r_F rfl ?_
             refine r_ld 1 tt_ok (v := .int .i64 x148) ts_3 rfl (by kernel_rfl) ?_
             refine r_done ⟨rfl,k_a (le_w [false,false,true,true,true]) (le_w [false,false,true,true,true]),?_⟩
             refine x_e rfl ?_
             refine r_F rfl ?_
             refine r_call (hc_25 (bm0 := bq7) (m0 := { y134 with phase := x142,earliest := x143,closed := x144 })) ?_
             rintro _ _ ⟨rfl,rfl⟩
             refine r_done ⟨rfl,k_a (le_w [false,false,true,true,true]) (le_w [false,false,true,true,true]),?_⟩
             refine x_p rfl ?_
             refine v_F rfl ?_
             refine v_done ?_
             refine x_p rfl ?_
             refine v_done ?_
             refine x_k [(3,.pointer (some ⟨bq1,0,none⟩)),(7,.pointer (some ⟨bq7,0,none⟩)),(8,.pointer (some ⟨bq8,0,none⟩)),(45,.slice A22 xs20.length c23),(46,.int .i64 (xs20.length : Int)),(47,.int .i64 x133),(65,.pointer (some ⟨bq7,0,none⟩)),(66,.int .i64 (migrate_Migration_Phase ({ y134 with phase := x142,earliest := x143,closed := x144 }))),(67,.pointer (some ⟨bq8,0,none⟩)),(68,.pointer (some ⟨bq8,0,none⟩)),(69,.pointer (some ⟨bq8,4,none⟩)),(70,.int .i64 x147),(71,.bool (!decide ((migrate_Migration_Phase ({ y134 with phase := x142,earliest := x143,closed := x144 })) = x147))),(74,.pointer (some ⟨bq7,0,none⟩)),(75,.int .i64 x153),(76,.pointer (some ⟨bq8,0,none⟩)),(77,.pointer (some ⟨bq8,0,none⟩)),(78,.pointer (some ⟨bq8,4,none⟩)),(79,.int .i64 x147),(80,.int .i64 x155),(81,.bool (!decide (x153 = x155))),(84,.pointer (some ⟨bq7,0,none⟩)),(85,.bool (migrate_Migration_Closed ({ y134 with phase := x142,earliest := x143,closed := x144 }))),(86,.pointer (some ⟨bq8,0,none⟩)),(87,.pointer (some ⟨bq8,0,none⟩)),(88,.pointer (some ⟨bq8,6,none⟩)),(89,.bool x149),(90,.bool (!((migrate_Migration_Closed ({ y134 with phase := x142,earliest := x143,closed := x144 })) == x149))),(93,.pointer (some ⟨bq7,0,none⟩)),(94,.int .i64 (migrate_Migration_Earliest ({ y134 with phase := x142,earliest := x143,closed := x144 }))),(95,.pointer (some ⟨bq8,0,none⟩)),(96,.pointer (some ⟨bq8,0,none⟩)),(97,.pointer (some ⟨bq8,5,none⟩)),(98,.int .i64 x148),(99,.bool (!decide ((migrate_Migration_Earliest ({ y134 with phase := x142,earliest := x143,closed := x144 })) = x148))),(100,.bool (!decide ((migrate_Migration_Earliest ({ y134 with phase := x142,earliest := x143,closed := x144 })) = x148)))] (by kernel_rfl) fun fr => ?_
             refine r_le ((le_mv 4).trans ((le_mv 4).trans ((le_mv 2).trans ((le_mv 3).trans (le_w [true,true,true,true,false]))))) ?_
             exact r_done ⟨!decide ((migrate_Migration_Earliest ({ y134 with phase := x142,earliest := x143,closed := x144 })) = x148),{ y134 with phase := x142,earliest := x143,closed := x144 },{ y135 with Phase := x147,Earliest := x148,Closed := x149 },_,h,fr_eq _ (by kernel_rfl),(by kernel_rfl)⟩
        ·refine r_F rfl ?_
         refine r_ld 1 tt_ok (v := .int .i64 x147) ts_3 rfl (by kernel_rfl) ?_
         refine r_done ⟨rfl,k_a (le_w [false,false,true,true,true]) (le_w [false,false,true,true,true]),?_⟩
         refine x_e rfl ?_
         refine r_F rfl ?_
         replace h := h_b h; obtain ⟨x160,hx159,h⟩ := h
         refine r_call (hc_21 (bm0 := bq7) (m0 := { y134 with phase := x142,earliest := x143,closed := x144 }) (h := hx159)) ?_
         rintro _ _ ⟨rfl,rfl⟩
         refine r_done ⟨rfl,k_a (le_w [false,false,true,true,true]) (le_w [false,false,true,true,true]),?_⟩
         refine x_e rfl ?_
         refine r_F rfl ?_
         replace h := h_b h; obtain ⟨x162,hx161,h⟩ := h
         refine r_call (hc_24 (phase0 := x147) (h := hx161)) ?_
         rintro _ _ ⟨rfl,rfl⟩
         refine r_done ⟨rfl,k_a (le_w [false,false,true,true,true]) (le_w [false,false,true,true,true]),?_⟩
         refine x_p rfl ?_
         refine v_F rfl ?_
         refine v_done ?_
         refine x_kp [(3,.pointer (some ⟨bq1,0,none⟩)),(7,.pointer (some ⟨bq7,0,none⟩)),(8,.pointer (some ⟨bq8,0,none⟩)),(45,.slice A22 xs20.length c23),(46,.int .i64 (xs20.length : Int)),(47,.int .i64 x133),(65,.pointer (some ⟨bq7,0,none⟩)),(66,.int .i64 (migrate_Migration_Phase ({ y134 with phase := x142,earliest := x143,closed := x144 }))),(67,.pointer (some ⟨bq8,0,none⟩)),(68,.pointer (some ⟨bq8,0,none⟩)),(69,.pointer (some ⟨bq8,4,none⟩)),(70,.int .i64 x147),(71,.bool (!decide ((migrate_Migration_Phase ({ y134 with phase := x142,earliest := x143,closed := x144 })) = x147))),(73,.bool false),(74,.pointer (some ⟨bq7,0,none⟩)),(75,.int .i64 x160),(76,.pointer (some ⟨bq8,0,none⟩)),(77,.pointer (some ⟨bq8,0,none⟩)),(78,.pointer (some ⟨bq8,4,none⟩)),(79,.int .i64 x147),(80,.int .i64 x162),(81,.bool (!decide (x160 = x162)))] (by kernel_rfl) fun fr => ?_
         refine x_p rfl ?_
         refine v_done ?_
         refine x_p rfl ?_
         refine v_done ?_
         refine x_p rfl ?_
         refine v_ite (fun (hb163 : (!decide (x160 = x162)) = true) => ?_) (fun (hb163 : (!decide (x160 = x162)) = false) => ?_)
         ·replace h := h_t h hb163
          clear hb163
          refine v_done ?_
          refine x_p rfl ?_
          refine v_T rfl ?_
          refine v_done ?_
          refine x_p rfl ?_
          refine v_T rfl ?_
          refine v_done ?_
          refine x_p rfl ?_
          refine v_T rfl ?_
          refine v_done ?_
          refine x_2 rfl rfl ?_ ?_
          ·refine r_T rfl ?_
           refine r_done ⟨rfl,k_a (le_w [false,false,true,true,true]) (le_w [false,false,true,true,true]),?_⟩
           refine x_e rfl ?_
           refine r_T rfl ?_
           refine r_done ⟨rfl,k_a (le_w [false,false,true,true,true]) (le_w [false,false,true,true,true]),?_⟩
           refine x_p rfl ?_
           refine v_T rfl ?_
           refine v_done ?_
           refine x_kp [(3,.pointer (some ⟨bq1,0,none⟩)),(7,.pointer (some ⟨bq7,0,none⟩)),(8,.pointer (some ⟨bq8,0,none⟩)),(45,.slice A22 xs20.length c23),(46,.int .i64 (xs20.length : Int)),(47,.int .i64 x133),(65,.pointer (some ⟨bq7,0,none⟩)),(66,.int .i64 (migrate_Migration_Phase ({ y134 with phase := x142,earliest := x143,closed := x144 }))),(67,.pointer (some ⟨bq8,0,none⟩)),(68,.pointer (some ⟨bq8,0,none⟩)),(69,.pointer (some ⟨bq8,4,none⟩)),(70,.int .i64 x147),(71,.bool (!decide ((migrate_Migration_Phase ({ y134 with phase := x142,earliest := x143,closed := x144 })) = x147))),(74,.pointer (some ⟨bq7,0,none⟩)),(75,.int .i64 x160),(76,.pointer (some ⟨bq8,0,none⟩)),(77,.pointer (some ⟨bq8,0,none⟩)),(78,.pointer (some ⟨bq8,4,none⟩)),(79,.int .i64 x147),(80,.int .i64 x162),(81,.bool (!decide (x160 = x162))),(83,.bool true),(84,undef),(85,undef),(86,undef),(87,undef),(88,undef),(89,undef),(90,undef)] (by kernel_rfl) fun fr => ?_
           refine x_p rfl ?_
           refine v_T rfl ?_
           refine v_done ?_
           refine x_p rfl ?_
           refine v_done ?_
           refine x_p rfl ?_
           refine v_T rfl ?_
           refine v_done ?_
           refine x_p rfl ?_
           refine v_T rfl ?_
           refine v_done ?_
           refine x_p rfl ?_
           refine v_T rfl ?_
           refine v_done ?_
           refine x_p rfl ?_
           refine v_T rfl ?_
           refine v_done ?_
           refine x_2 rfl rfl ?_ ?_
           ·refine r_T rfl ?_
            refine r_done ⟨rfl,k_a (le_w [false,false,true,true,true]) (le_w [false,false,true,true,true]),?_⟩
            refine x_e rfl ?_
            refine r_T rfl ?_
            refine r_done ⟨rfl,k_a (le_w [false,false,true,true,true]) (le_w [false,false,true,true,true]),?_⟩
            refine x_p rfl ?_
            refine v_T rfl ?_
            refine v_done ?_
            refine x_kp [(3,.pointer (some ⟨bq1,0,none⟩)),(7,.pointer (some ⟨bq7,0,none⟩)),(8,.pointer (some ⟨bq8,0,none⟩)),(45,.slice A22 xs20.length c23),(46,.int .i64 (xs20.length : Int)),(47,.int .i64 x133),(65,.pointer (some ⟨bq7,0,none⟩)),(66,.int .i64 (migrate_Migration_Phase ({ y134 with phase := x142,earliest := x143,closed := x144 }))),(67,.pointer (some ⟨bq8,0,none⟩)),(68,.pointer (some ⟨bq8,0,none⟩)),(69,.pointer (some ⟨bq8,4,none⟩)),(70,.int .i64 x147),(71,.bool (!decide ((migrate_Migration_Phase ({ y134 with phase := x142,earliest := x143,closed := x144 })) = x147))),(74,.pointer (some ⟨bq7,0,none⟩)),(75,.int .i64 x160),(76,.pointer (some ⟨bq8,0,none⟩)),(77,.pointer (some ⟨bq8,0,none⟩)),(78,.pointer (some ⟨bq8,4,none⟩)),(79,.int .i64 x147),(80,.int .i64 x162),(81,.bool (!decide (x160 = x162))),(84,undef),(85,undef),(86,undef),(87,undef),(88,undef),(89,undef),(90,undef),(92,.bool true),(93,undef),(94,undef),(95,undef),(96,undef),(97,undef),(98,undef),(99,undef)] (by kernel_rfl) fun fr => ?_
            refine x_p rfl ?_
            refine v_T rfl ?_
            refine v_done ?_
            refine x_k [(3,.pointer (some ⟨bq1,0,none⟩)),(7,.pointer (some ⟨bq7,0,none⟩)),(8,.pointer (some ⟨bq8,0,none⟩)),(45,.slice A22 xs20.length c23),(46,.int .i64 (xs20.length : Int)),(47,.int .i64 x133),(65,.pointer (some ⟨bq7,0,none⟩)),(66,.int .i64 (migrate_Migration_Phase ({ y134 with phase := x142,earliest := x143,closed := x144 }))),(67,.pointer (some ⟨bq8,0,none⟩)),(68,.pointer (some ⟨bq8,0,none⟩)),(69,.pointer (some ⟨bq8,4,none⟩)),(70,.int .i64 x147),(71,.bool (!decide ((migrate_Migration_Phase ({ y134 with phase := x142,earliest := x143,closed := x144 })) = x147))),(74,.pointer (some ⟨bq7,0,none⟩)),(75,.int .i64 x160),(76,.pointer (some ⟨bq8,0,none⟩)),(77,.pointer (some ⟨bq8,0,none⟩)),(78,.pointer (some ⟨bq8,4,none⟩)),(79,.int .i64 x147),(80,.int .i64 x162),(81,.bool (!decide (x160 = x162))),(100,.bool true)] (by kernel_rfl) fun fr => ?_
            refine r_le ((le_mv 4).trans ((le_mv 4).trans ((le_mv 2).trans ((le_mv 3).trans (le_w [true,true,true,true,false]))))) ?_
            exact r_done ⟨true,{ y134 with phase := x142,earliest := x143,closed := x144 },{ y135 with Phase := x147,Earliest := x148,Closed := x149 },_,h,fr_eq _ (by kernel_rfl),(by kernel_rfl)⟩
           ·refine r_T rfl ?_
            refine r_done ⟨rfl,k_a (le_w [false,false,true,true,true]) (le_w [false,false,true,true,true]),?_⟩
            refine x_e rfl ?_
            refine r_T rfl ?_
            refine r_done ⟨rfl,k_a (le_w [false,false,true,true,true]) (le_w [false,false,true,true,true]),?_⟩
            refine x_p rfl ?_
            refine v_T rfl ?_
            refine v_done ?_
            refine x_p rfl ?_
            refine v_T rfl ?_
            refine v_done ?_
            refine x_k [(3,.pointer (some ⟨bq1,0,none⟩)),(7,.pointer (some ⟨bq7,0,none⟩)),(8,.pointer (some ⟨bq8,0,none⟩)),(45,.slice A22 xs20.length c23),(46,.int .i64 (xs20.length : Int)),(47,.int .i64 x133),(65,.pointer (some ⟨bq7,0,none⟩)),(66,.int .i64 (migrate_Migration_Phase ({ y134 with phase := x142,earliest := x143,closed := x144 }))),(67,.pointer (some ⟨bq8,0,none⟩)),(68,.pointer (some ⟨bq8,0,none⟩)),(69,.pointer (some ⟨bq8,4,none⟩)),(70,.int .i64 x147),(71,.bool (!decide ((migrate_Migration_Phase ({ y134 with phase := x142,earliest := x143,closed := x144 })) = x147))),(74,.pointer (some ⟨bq7,0,none⟩)),(75,.int .i64 x160),(76,.pointer (some ⟨bq8,0,none⟩)),(77,.pointer (some ⟨bq8,0,none⟩)),(78,.pointer (some ⟨bq8,4,none⟩)),(79,.int .i64 x147),(80,.int .i64 x162),(81,.bool (!decide (x160 = x162))),(100,.bool true)] (by kernel_rfl) fun fr => ?_
            refine r_le ((le_mv 4).trans ((le_mv 4).trans ((le_mv 2).trans ((le_mv 3).trans (le_w [true,true,true,true,false]))))) ?_
            exact r_done ⟨true,{ y134 with phase := x142,earliest := x143,closed := x144 },{ y135 with Phase := x147,Earliest := x148,Closed := x149 },_,h,fr_eq _ (by kernel_rfl),(by kernel_rfl)⟩
          ·refine r_T rfl ?_
           refine r_done ⟨rfl,k_a (le_w [false,false,true,true,true]) (le_w [false,false,true,true,true]),?_⟩
           refine x_e rfl ?_
           refine r_T rfl ?_
           refine r_done ⟨rfl,k_a (le_w [false,false,true,true,true]) (le_w [false,false,true,true,true]),?_⟩
           refine x_p rfl ?_
           refine v_T rfl ?_
           refine v_done ?_
           refine x_p rfl ?_
           refine v_T rfl ?_
           refine v_done ?_
           refine x_p rfl ?_
           refine v_done ?_
           refine x_p rfl ?_
           refine v_T rfl ?_
           refine v_done ?_
           refine x_p rfl ?_
           refine v_T rfl ?_
           refine v_done ?_
           refine x_p rfl ?_
           refine v_T rfl ?_
           refine v_done ?_
           refine x_p rfl ?_
           refine v_T rfl ?_
           refine v_done ?_
           refine x_2 rfl rfl ?_ ?_
           ·refine r_T rfl ?_
            refine r_done ⟨rfl,k_a (le_w [false,false,true,true,true]) (le_w [false,false,true,true,true]),?_⟩
            refine x_kp [(3,.pointer (some ⟨bq1,0,none⟩)),(7,.pointer (some ⟨bq7,0,none⟩)),(8,.pointer (some ⟨bq8,0,none⟩)),(45,.slice A22 xs20.length c23),(46,.int .i64 (xs20.length : Int)),(47,.int .i64 x133),(65,.pointer (some ⟨bq7,0,none⟩)),(66,.int .i64 (migrate_Migration_Phase ({ y134 with phase := x142,earliest := x143,closed := x144 }))),(67,.pointer (some ⟨bq8,0,none⟩)),(68,.pointer (some ⟨bq8,0,none⟩)),(69,.pointer (some ⟨bq8,4,none⟩)),(70,.int .i64 x147),(71,.bool (!decide ((migrate_Migration_Phase ({ y134 with phase := x142,earliest := x143,closed := x144 })) = x147))),(74,.pointer (some ⟨bq7,0,none⟩)),(75,.int .i64 x160),(76,.pointer (some ⟨bq8,0,none⟩)),(77,.pointer (some ⟨bq8,0,none⟩)),(78,.pointer (some ⟨bq8,4,none⟩)),(79,.int .i64 x147),(80,.int .i64 x162),(81,.bool (!decide (x160 = x162))),(84,undef),(85,undef),(86,undef),(87,undef),(88,undef),(89,undef),(90,undef),(92,.bool true),(93,undef),(94,undef),(95,undef),(96,undef),(97,undef)] (by kernel_rfl) fun fr => ?_
            refine x_e rfl ?_
            refine r_T rfl ?_
            refine r_done ⟨rfl,k_a (le_w [false,false,true,true,true]) (le_w [false,false,true,true,true]),?_⟩
            refine x_p rfl ?_
            refine v_T rfl ?_
            refine v_done ?_
            refine x_p rfl ?_
            refine v_T rfl ?_
            refine v_done ?_
            refine x_k [(3,.pointer (some ⟨bq1,0,none⟩)),(7,.pointer (some ⟨bq7,0,none⟩)),(8,.pointer (some ⟨bq8,0,none⟩)),(45,.slice A22 xs20.length c23),(46,.int .i64 (xs20.length : Int)),(47,.int .i64 x133),(65,.pointer (some ⟨bq7,0,none⟩)),(66,.int .i64 (migrate_Migration_Phase ({ y134 with phase := x142,earliest := x143,closed := x144 }))),(67,.pointer (some ⟨bq8,0,none⟩)),(68,.pointer (some ⟨bq8,0,none⟩)),(69,.pointer (some ⟨bq8,4,none⟩)),(70,.int .i64 x147),(71,.bool (!decide ((migrate_Migration_Phase ({ y134 with phase := x142,earliest := x143,closed := x144 })) = x147))),(74,.pointer (some ⟨bq7,0,none⟩)),(75,.int .i64 x160),(76,.pointer (some ⟨bq8,0,none⟩)),(77,.pointer (some ⟨bq8,0,none⟩)),(78,.pointer (some ⟨bq8,4,none⟩)),(79,.int .i64 x147),(80,.int .i64 x162),(81,.bool (!decide (x160 = x162))),(100,.bool true)] (by kernel_rfl) fun fr => ?_
            refine r_le ((le_mv 4).trans ((le_mv 4).trans ((le_mv 2).trans ((le_mv 3).trans (le_w [true,true,true,true,false]))))) ?_
            exact r_done ⟨true,{ y134 with phase := x142,earliest := x143,closed := x144 },{ y135 with Phase := x147,Earliest := x148,Closed := x149 },_,h,fr_eq _ (by kernel_rfl),(by kernel_rfl)⟩
           ·refine r_T rfl ?_
            refine r_done ⟨rfl,k_a (le_w [false,false,true,true,true]) (le_w [false,false,true,true,true]),?_⟩
            refine x_e rfl ?_
            refine r_T rfl ?_
            refine r_done ⟨rfl,k_a (le_w [false,false,true,true,true]) (le_w [false,false,true,true,true]),?_⟩
            refine x_p rfl ?_
            refine v_T rfl ?_
            refine v_done ?_
            refine x_p rfl ?_
            refine v_T rfl ?_
            refine v_done ?_
            refine x_k [(3,.pointer (some ⟨bq1,0,none⟩)),(7,.pointer (some ⟨bq7,0,none⟩)),(8,.pointer (some ⟨bq8,0,none⟩)),(45,.slice A22 xs20.length c23),(46,.int .i64 (xs20.length : Int)),(47,.int .i64 x133),(65,.pointer (some ⟨bq7,0,none⟩)),(66,.int .i64 (migrate_Migration_Phase ({ y134 with phase := x142,earliest := x143,closed := x144 }))),(67,.pointer (some ⟨bq8,0,none⟩)),(68,.pointer (some ⟨bq8,0,none⟩)),(69,.pointer (some ⟨bq8,4,none⟩)),(70,.int .i64 x147),(71,.bool (!decide ((migrate_Migration_Phase ({ y134 with phase := x142,earliest := x143,closed := x144 })) = x147))),(74,.pointer (some ⟨bq7,0,none⟩)),(75,.int .i64 x160),(76,.pointer (some ⟨bq8,0,none⟩)),(77,.pointer (some ⟨bq8,0,none⟩)),(78,.pointer (some ⟨bq8,4,none⟩)),(79,.int .i64 x147),(80,.int .i64 x162),(81,.bool (!decide (x160 = x162))),(100,.bool true)] (by kernel_rfl) fun fr => ?_
            refine r_le ((le_mv 4).trans ((le_mv 4).trans ((le_mv 2).trans ((le_mv 3).trans (le_w [true,true,true,true,false]))))) ?_
            exact r_done ⟨true,{ y134 with phase := x142,earliest := x143,closed := x144 },{ y135 with Phase := x147,Earliest := x148,Closed := x149 },_,h,fr_eq _ (by kernel_rfl),(by kernel_rfl)⟩
         ·replace h := h_f h hb163
          clear hb163
          refine v_done ?_
          refine x_p rfl ?_
          refine v_F rfl ?_
          refine v_done ?_
          refine x_p rfl ?_
          refine v_F rfl ?_
          refine v_done ?_
          refine x_p rfl ?_
          refine v_F rfl ?_
          refine v_done ?_
          refine x_2 rfl rfl ?_ ?_
          ·refine r_F rfl ?_
           refine r_call (hc_19 (bm0 := bq7) (m0 := { y134 with phase := x142,earliest := x143,closed := x144 })) ?_
           rintro _ _ ⟨rfl,rfl⟩
           refine r_done ⟨rfl,k_a (le_w [false,false,true,true,true]) (le_w [false,false,true,true,true]),?_⟩
           refine x_e rfl ?_
           refine r_F rfl ?_
           refine r_ld 1 tt_ok (v := .bool x149) ts_4 rfl (by kernel_rfl) ?_
           refine r_done ⟨rfl,k_a (le_w [false,false,true,true,true]) (le_w [false,false,true,true,true]),?_⟩
           refine x_p rfl ?_
           refine v_F rfl ?_
           refine v_op (fun w => ex_neb tt_ok rfl rfl rfl rfl w) ?_
           refine v_done ?_
           refine x_kp [(3,.pointer (some ⟨bq1,0,none⟩)),(7,.pointer (some ⟨bq7,0,none⟩)),(8,.pointer (some ⟨bq8,0,none⟩)),(45,.slice A22 xs20.length c23),(46,.int .i64 (xs20.length : Int)),(47,.int .i64 x133),(65,.pointer (some ⟨bq7,0,none⟩)),(66,.int .i64 (migrate_Migration_Phase ({ y134 with phase := x142,earliest := x143,closed := x144 }))),(67,.pointer (some ⟨bq8,0,none⟩)),(68,.pointer (some ⟨bq8,0,none⟩)),(69,.pointer (some ⟨bq8,4,none⟩)),(70,.int .i64 x147),(71,.bool (!decide ((migrate_Migration_Phase ({ y134 with phase := x142,earliest := x143,closed := x144 })) = x147))),(74,.pointer (some ⟨bq7,0,none⟩)),(75,.int .i64 x160),(76,.pointer (some ⟨bq8,0,none⟩)),(77,.pointer (some ⟨bq8,0,none⟩)),(78,.pointer (some ⟨bq8,4,none⟩)),(79,.int .i64 x147),(80,.int .i64 x162),(81,.bool (!decide (x160 = x162))),(83,.bool false),(84,.pointer (some ⟨bq7,0,none⟩)),(85,.bool (migrate_Migration_Closed ({ y134 with phase := x142,earliest := x143,closed := x144 }))),(86,.pointer (some ⟨bq8,0,none⟩)),(87,.pointer (some ⟨bq8,0,none⟩)),(88,.pointer (some ⟨bq8,6,none⟩)),(89,.bool x149),(90,.bool (!((migrate_Migration_Closed ({ y134 with phase := x142,earliest := x143,closed := x144 })) == x149)))] (by kernel_rfl) fun fr => ?_
           refine x_p rfl ?_
           refine v_done ?_
           refine x_p rfl ?_
           refine v_done ?_
           refine x_p rfl ?_
           refine v_ite (fun (hb164 : (!((migrate_Migration_Closed ({ y134 with phase := x142,earliest := x143,closed := x144 })) == x149)) = true) => ?_) (fun (hb164 : (!((migrate_Migration_Closed ({ y134 with phase := x142,earliest := x143,closed := x144 })) == x149)) = false) => ?_)
           ·replace h := h_t h hb164
            clear hb164
            refine v_done ?_
            refine x_p rfl ?_
            refine v_T rfl ?_
            refine v_done ?_
            refine x_p rfl ?_
            refine v_T rfl ?_
            refine v_done ?_
            refine x_p rfl ?_
            refine v_T rfl ?_
            refine v_done ?_
            refine x_2 rfl rfl ?_ ?_
            ·refine r_T rfl ?_
             refine r_done ⟨rfl,k_a (le_w [false,false,true,true,true]) (le_w [false,false,true,true,true]),?_⟩
             refine x_e rfl ?_
             refine r_T rfl ?_
             refine r_done ⟨rfl,k_a (le_w [false,false,true,true,true]) (le_w [false,false,true,true,true]),?_⟩
             refine x_p rfl ?_
             refine v_T rfl ?_
             refine v_done ?_
             refine x_kp [(3,.pointer (some ⟨bq1,0,none⟩)),(7,.pointer (some ⟨bq7,0,none⟩)),(8,.pointer (some ⟨bq8,0,none⟩)),(45,.slice A22 xs20.length c23),(46,.int .i64 (xs20.length : Int)),(47,.int .i64 x133),(65,.pointer (some ⟨bq7,0,none⟩)),(66,.int .i64 (migrate_Migration_Phase ({ y134 with phase := x142,earliest := x143,closed := x144 }))),(67,.pointer (some ⟨bq8,0,none⟩)),(68,.pointer (some ⟨bq8,0,none⟩)),(69,.pointer (some ⟨bq8,4,none⟩)),(70,.int .i64 x147),(71,.bool (!decide ((migrate_Migration_Phase ({ y134 with phase := x142,earliest := x143,closed := x144 })) = x147))),(74,.pointer (some ⟨bq7,0,none⟩)),(75,.int .i64 x160),(76,.pointer (some ⟨bq8,0,none⟩)),(77,.pointer (some ⟨bq8,0,none⟩)),(78,.pointer (some ⟨bq8,4,none⟩)),(79,.int .i64 x147),(80,.int .i64 x162),(81,.bool (!decide (x160 = x162))),(84,.pointer (some ⟨bq7,0,none⟩)),(85,.bool (migrate_Migration_Closed ({ y134 with phase := x142,earliest := x143,closed := x144 }))),(86,.pointer (some ⟨bq8,0,none⟩)),(87,.pointer (some ⟨bq8,0,none⟩)),(88,.pointer (some ⟨bq8,6,none⟩)),(89,.bool x149),(90,.bool (!((migrate_Migration_Closed ({ y134 with phase := x142,earliest := x143,closed := x144 })) == x149))),(92,.bool true),(93,undef),(94,undef),(95,undef),(96,undef),(97,undef),(98,undef),(99,undef)] (by kernel_rfl) fun fr => ?_
             refine x_p rfl ?_
             refine v_T rfl ?_
             refine v_done ?_
             refine x_k [(3,.pointer (some ⟨bq1,0,none⟩)),(7,.pointer (some ⟨bq7,0,none⟩)),(8,.pointer (some ⟨bq8,0,none⟩)),(45,.slice A22 xs20.length c23),(46,.int .i64 (xs20.length : Int)),(47,.int .i64 x133),(65,.pointer (some ⟨bq7,0,none⟩)),(66,.int .i64 (migrate_Migration_Phase ({ y134 with phase := x142,earliest := x143,closed := x144 }))),(67,.pointer (some ⟨bq8,0,none⟩)),(68,.pointer (some ⟨bq8,0,none⟩)),(69,.pointer (some ⟨bq8,4,none⟩)),(70,.int .i64 x147),(71,.bool (!decide ((migrate_Migration_Phase ({ y134 with phase := x142,earliest := x143,closed := x144 })) = x147))),(74,.pointer (some ⟨bq7,0,none⟩)),(75,.int .i64 x160),(76,.pointer (some ⟨bq8,0,none⟩)),(77,.pointer (some ⟨bq8,0,none⟩)),(78,.pointer (some ⟨bq8,4,none⟩)),(79,.int .i64 x147),(80,.int .i64 x162),(81,.bool (!decide (x160 = x162))),(84,.pointer (some ⟨bq7,0,none⟩)),(85,.bool (migrate_Migration_Closed ({ y134 with phase := x142,earliest := x143,closed := x144 }))),(86,.pointer (some ⟨bq8,0,none⟩)),(87,.pointer (some ⟨bq8,0,none⟩)),(88,.pointer (some ⟨bq8,6,none⟩)),(89,.bool x149),(90,.bool (!((migrate_Migration_Closed ({ y134 with phase := x142,earliest := x143,closed := x144 })) == x149))),(100,.bool true)] (by kernel_rfl) fun fr => ?_
             refine r_le ((le_mv 4).trans ((le_mv 4).trans ((le_mv 2).trans ((le_mv 3).trans (le_w [true,true,true,true,false]))))) ?_
             exact r_done ⟨true,{ y134 with phase := x142,earliest := x143,closed := x144 },{ y135 with Phase := x147,Earliest := x148,Closed := x149 },_,h,fr_eq _ (by kernel_rfl),(by kernel_rfl)⟩
            ·refine r_T rfl ?_
             refine r_done ⟨rfl,k_a (le_w [false,false,true,true,true]) (le_w [false,false,true,true,true]),?_⟩
             refine x_e rfl ?_
             refine r_T rfl ?_
             refine r_done ⟨rfl,k_a (le_w [false,false,true,true,true]) (le_w [false,false,true,true,true]),?_⟩
             refine x_p rfl ?_
             refine v_T rfl ?_
             refine v_done ?_
             refine x_p rfl ?_
             refine v_T rfl ?_
             refine v_done ?_
             refine x_k [(3,.pointer (some ⟨bq1,0,none⟩)),(7,.pointer (some ⟨bq7,0,none⟩)),(8,.pointer (some ⟨bq8,0,none⟩)),(45,.slice A22 xs20.length c23),(46,.int .i64 (xs20.length : Int)),(47,.int .i64 x133),(65,.pointer (some ⟨bq7,0,none⟩)),(66,.int .i64 (migrate_Migration_Phase ({ y134 with phase := x142,earliest := x143,closed := x144 }))),(67,.pointer (some ⟨bq8,0,none⟩)),(68,.pointer (some ⟨bq8,0,none⟩)),(69,.pointer (some ⟨bq8,4,none⟩)),(70,.int .i64 x147),(71,.bool (!decide ((migrate_Migration_Phase ({ y134 with phase := x142,earliest := x143,closed := x144 })) = x147))),(74,.pointer (some ⟨bq7,0,none⟩)),(75,.int .i64 x160),(76,.pointer (some ⟨bq8,0,none⟩)),(77,.pointer (some ⟨bq8,0,none⟩)),(78,.pointer (some ⟨bq8,4,none⟩)),(79,.int .i64 x147),(80,.int .i64 x162),(81,.bool (!decide (x160 = x162))),(84,.pointer (some ⟨bq7,0,none⟩)),(85,.bool (migrate_Migration_Closed ({ y134 with phase := x142,earliest := x143,closed := x144 }))),(86,.pointer (some ⟨bq8,0,none⟩)),(87,.pointer (some ⟨bq8,0,none⟩)),(88,.pointer (some ⟨bq8,6,none⟩)),(89,.bool x149),(90,.bool (!((migrate_Migration_Closed ({ y134 with phase := x142,earliest := x143,closed := x144 })) == x149))),(100,.bool true)] (by kernel_rfl) fun fr => ?_
             refine r_le ((le_mv 4).trans ((le_mv 4).trans ((le_mv 2).trans ((le_mv 3).trans (le_w [true,true,true,true,false]))))) ?_
             exact r_done ⟨true,{ y134 with phase := x142,earliest := x143,closed := x144 },{ y135 with Phase := x147,Earliest := x148,Closed := x149 },_,h,fr_eq _ (by kernel_rfl),(by kernel_rfl)⟩
           ·replace h := h_f h hb164
            clear hb164
            refine v_done ?_
            refine x_p rfl ?_
            refine v_F rfl ?_
            refine v_done ?_
            refine x_p rfl ?_
            refine v_F rfl ?_
            refine v_done ?_
            refine x_p rfl ?_
            refine v_F rfl ?_
            refine v_done ?_
            refine x_2 rfl rfl ?_ ?_
            ·refine r_F rfl ?_
             refine r_call (hc_25 (bm0 := bq7) (m0 := { y134 with phase := x142,earliest := x143,closed := x144 })) ?_
             rintro _ _ ⟨rfl,rfl⟩
             refine r_done ⟨rfl,k_a (le_w [false,false,true,true,true]) (le_w [false,false,true,true,true]),?_⟩
             refine x_e rfl ?_
             refine r_F rfl ?_
             refine r_ld 1 tt_ok (v := .int .i64 x148) ts_3 rfl (by kernel_rfl) ?_
             refine r_done ⟨rfl,k_a (le_w [false,false,true,true,true]) (le_w [false,false,true,true,true]),?_⟩
             refine x_p rfl ?_
             refine v_F rfl ?_
             refine v_done ?_
             refine x_kp [(3,.pointer (some ⟨bq1,0,none⟩)),(7,.pointer (some ⟨bq7,0,none⟩)),(8,.pointer (some ⟨bq8,0,none⟩)),(45,.slice A22 xs20.length c23),(46,.int .i64 (xs20.length : Int)),(47,.int .i64 x133),(65,.pointer (some ⟨bq7,0,none⟩)),(66,.int .i64 (migrate_Migration_Phase ({ y134 with phase := x142,earliest := x143,closed := x144 }))),(67,.pointer (some ⟨bq8,0,none⟩)),(68,.pointer (some ⟨bq8,0,none⟩)),(69,.pointer (some ⟨bq8,4,none⟩)),(70,.int .i64 x147),(71,.bool (!decide ((migrate_Migration_Phase ({ y134 with phase := x142,earliest := x143,closed := x144 })) = x147))),(74,.pointer (some ⟨bq7,0,none⟩)),(75,.int .i64 x160),(76,.pointer (some ⟨bq8,0,none⟩)),(77,.pointer (some ⟨bq8,0,none⟩)),(78,.pointer (some ⟨bq8,4,none⟩)),(79,.int .i64 x147),(80,.int .i64 x162),(81,.bool (!decide (x160 = x162))),(84,.pointer (some ⟨bq7,0,none⟩)),(85,.bool (migrate_Migration_Closed ({ y134 with phase := x142,earliest := x143,closed := x144 }))),(86,.pointer (some ⟨bq8,0,none⟩)),(87,.pointer (some ⟨bq8,0,none⟩)),(88,.pointer (some ⟨bq8,6,none⟩)),(89,.bool x149),(90,.bool (!((migrate_Migration_Closed ({ y134 with phase := x142,earliest := x143,closed := x144 })) == x149))),(92,.bool false),(93,.pointer (some ⟨bq7,0,none⟩)),(94,.int .i64 (migrate_Migration_Earliest ({ y134 with phase := x142,earliest := x143,closed := x144 }))),(95,.pointer (some ⟨bq8,0,none⟩)),(96,.pointer (some ⟨bq8,0,none⟩)),(97,.pointer (some ⟨bq8,5,none⟩)),(98,.int .i64 x148),(99,.bool (!decide ((migrate_Migration_Earliest ({ y134 with phase := x142,earliest := x143,closed := x144 })) = x148)))] (by kernel_rfl) fun fr => ?_
             refine x_p rfl ?_
             refine v_done ?_
             refine x_k [(3,.pointer (some ⟨bq1,0,none⟩)),(7,.pointer (some ⟨bq7,0,none⟩)),(8,.pointer (some ⟨bq8,0,none⟩)),(45,.slice A22 xs20.length c23),(46,.int .i64 (xs20.length : Int)),(47,.int .i64 x133),(65,.pointer (some ⟨bq7,0,none⟩)),(66,.int .i64 (migrate_Migration_Phase ({ y134 with phase := x142,earliest := x143,closed := x144 }))),(67,.pointer (some ⟨bq8,0,none⟩)),(68,.pointer (some ⟨bq8,0,none⟩)),(69,.pointer (some ⟨bq8,4,none⟩)),(70,.int .i64 x147),(71,.bool (!decide ((migrate_Migration_Phase ({ y134 with phase := x142,earliest := x143,closed := x144 })) = x147))),(74,.pointer (some ⟨bq7,0,none⟩)),(75,.int .i64 x160),(76,.pointer (some ⟨bq8,0,none⟩)),(77,.pointer (some ⟨bq8,0,none⟩)),(78,.pointer (some ⟨bq8,4,none⟩)),(79,.int .i64 x147),(80,.int .i64 x162),(81,.bool (!decide (x160 = x162))),(84,.pointer (some ⟨bq7,0,none⟩)),(85,.bool (migrate_Migration_Closed ({ y134 with phase := x142,earliest := x143,closed := x144 }))),(86,.pointer (some ⟨bq8,0,none⟩)),(87,.pointer (some ⟨bq8,0,none⟩)),(88,.pointer (some ⟨bq8,6,none⟩)),(89,.bool x149),(90,.bool (!((migrate_Migration_Closed ({ y134 with phase := x142,earliest := x143,closed := x144 })) == x149))),(93,.pointer (some ⟨bq7,0,none⟩)),(94,.int .i64 (migrate_Migration_Earliest ({ y134 with phase := x142,earliest := x143,closed := x144 }))),(95,.pointer (some ⟨bq8,0,none⟩)),(96,.pointer (some ⟨bq8,0,none⟩)),(97,.pointer (some ⟨bq8,5,none⟩)),(98,.int .i64 x148),(99,.bool (!decide ((migrate_Migration_Earliest ({ y134 with phase := x142,earliest := x143,closed := x144 })) = x148))),(100,.bool (!decide ((migrate_Migration_Earliest ({ y134 with phase := x142,earliest := x143,closed := x144 })) = x148)))] (by kernel_rfl) fun fr => ?_
             refine r_le ((le_mv 4).trans ((le_mv 4).trans ((le_mv 2).trans ((le_mv 3).trans (le_w [true,true,true,true,false]))))) ?_
             exact r_done ⟨!decide ((migrate_Migration_Earliest ({ y134 with phase := x142,earliest := x143,closed := x144 })) = x148),{ y134 with phase := x142,earliest := x143,closed := x144 },{ y135 with Phase := x147,Earliest := x148,Closed := x149 },_,h,fr_eq _ (by kernel_rfl),(by kernel_rfl)⟩
            ·refine r_F rfl ?_
             refine r_ld 1 tt_ok (v := .int .i64 x148) ts_3 rfl (by kernel_rfl) ?_
             refine r_done ⟨rfl,k_a (le_w [false,false,true,true,true]) (le_w [false,false,true,true,true]),?_⟩
             refine x_e rfl ?_
             refine r_F rfl ?_
             refine r_call (hc_25 (bm0 := bq7) (m0 := { y134 with phase := x142,earliest := x143,closed := x144 })) ?_
             rintro _ _ ⟨rfl,rfl⟩
             refine r_done ⟨rfl,k_a (le_w [false,false,true,true,true]) (le_w [false,false,true,true,true]),?_⟩
             refine x_p rfl ?_
             refine v_F rfl ?_
             refine v_done ?_
             refine x_p rfl ?_
             refine v_done ?_
             refine x_k [(3,.pointer (some ⟨bq1,0,none⟩)),(7,.pointer (some ⟨bq7,0,none⟩)),(8,.pointer (some ⟨bq8,0,none⟩)),(45,.slice A22 xs20.length c23),(46,.int .i64 (xs20.length : Int)),(47,.int .i64 x133),(65,.pointer (some ⟨bq7,0,none⟩)),(66,.int .i64 (migrate_Migration_Phase ({ y134 with phase := x142,earliest := x143,closed := x144 }))),(67,.pointer (some ⟨bq8,0,none⟩)),(68,.pointer (some ⟨bq8,0,none⟩)),(69,.pointer (some ⟨bq8,4,none⟩)),(70,.int .i64 x147),(71,.bool (!decide ((migrate_Migration_Phase ({ y134 with phase := x142,earliest := x143,closed := x144 })) = x147))),(74,.pointer (some ⟨bq7,0,none⟩)),(75,.int .i64 x160),(76,.pointer (some ⟨bq8,0,none⟩)),(77,.pointer (some ⟨bq8,0,none⟩)),(78,.pointer (some ⟨bq8,4,none⟩)),(79,.int .i64 x147),(80,.int .i64 x162),(81,.bool (!decide (x160 = x162))),(84,.pointer (some ⟨bq7,0,none⟩)),(85,.bool (migrate_Migration_Closed ({ y134 with phase := x142,earliest := x143,closed := x144 }))),(86,.pointer (some ⟨bq8,0,none⟩)),(87,.pointer (some ⟨bq8,0,none⟩)),(88,.pointer (some ⟨bq8,6,none⟩)),(89,.bool x149),(90,.bool (!((migrate_Migration_Closed ({ y134 with phase := x142,earliest := x143,closed := x144 })) == x149))),(93,.pointer (some ⟨bq7,0,none⟩)),(94,.int .i64 (migrate_Migration_Earliest ({ y134 with phase := x142,earliest := x143,closed := x144 }))),(95,.pointer (some ⟨bq8,0,none⟩)),(96,.pointer (some ⟨bq8,0,none⟩)),(97,.pointer (some ⟨bq8,5,none⟩)),(98,.int .i64 x148),(99,.bool (!decide ((migrate_Migration_Earliest ({ y134 with phase := x142,earliest := x143,closed := x144 })) = x148))),(100,.bool (!decide ((migrate_Migration_Earliest ({ y134 with phase := x142,earliest := x143,closed := x144 })) = x148)))] (by kernel_rfl) fun fr => ?_
             refine r_le ((le_mv 4).trans ((le_mv 4).trans ((le_mv 2).trans ((le_mv 3).trans (le_w [true,true,true,true,false]))))) ?_
             exact r_done ⟨!decide ((migrate_Migration_Earliest ({ y134 with phase := x142,earliest := x143,closed := x144 })) = x148),{ y134 with phase := x142,earliest := x143,closed := x144 },{ y135 with Phase := x147,Earliest := x148,Closed := x149 },_,h,fr_eq _ (by kernel_rfl),(by kernel_rfl)⟩
          ·refine r_F rfl ?_
           refine r_ld 1 tt_ok (v := .bool x149) ts_4 rfl (by kernel_rfl) ?_
           refine r_done ⟨rfl,k_a (le_w [false,false,true,true,true]) (le_w [false,false,true,true,true]),?_⟩
           refine x_e rfl ?_
           refine r_F rfl ?_
           refine r_call (hc_19 (bm0 := bq7) (m0 := { y134 with phase := x142,earliest := x143,closed := x144 })) ?_
           rintro _ _ ⟨rfl,rfl⟩
           refine r_done ⟨rfl,k_a (le_w [false,false,true,true,true]) (le_w [false,false,true,true,true]),?_⟩
           refine x_p rfl ?_
           refine v_F rfl ?_
           refine v_op (fun w => ex_neb tt_ok rfl rfl rfl rfl w) ?_
           refine v_done ?_
           refine x_p rfl ?_
           refine v_done ?_
           refine x_p rfl ?_
           refine v_done ?_
           refine x_p rfl ?_
           refine v_ite (fun (hb165 : (!((migrate_Migration_Closed ({ y134 with phase := x142,earliest := x143,closed := x144 })) == x149)) = true) => ?_) (fun (hb165 : (!((migrate_Migration_Closed ({ y134 with phase := x142,earliest := x143,closed := x144 })) == x149)) = false) => ?_)
           ·replace h := h_t h hb165
            clear hb165
            refine v_done ?_
            refine x_p rfl ?_
            refine v_T rfl ?_
            refine v_done ?_
            refine x_kp [(3,.pointer (some ⟨bq1,0,none⟩)),(7,.pointer (some ⟨bq7,0,none⟩)),(8,.pointer (some ⟨bq8,0,none⟩)),(45,.slice A22 xs20.length c23),(46,.int .i64 (xs20.length : Int)),(47,.int .i64 x133),(65,.pointer (some ⟨bq7,0,none⟩)),(66,.int .i64 (migrate_Migration_Phase ({ y134 with phase := x142,earliest := x143,closed := x144 }))),(67,.pointer (some ⟨bq8,0,none⟩)),(68,.pointer (some ⟨bq8,0,none⟩)),(69,.pointer (some ⟨bq8,4,none⟩)),(70,.int .i64 x147),(71,.bool (!decide ((migrate_Migration_Phase ({ y134 with phase := x142,earliest := x143,closed := x144 })) = x147))),(74,.pointer (some ⟨bq7,0,none⟩)),(75,.int .i64 x160),(76,.pointer (some ⟨bq8,0,none⟩)),(77,.pointer (some ⟨bq8,0,none⟩)),(78,.pointer (some ⟨bq8,4,none⟩)),(79,.int .i64 x147),(80,.int .i64 x162),(81,.bool (!decide (x160 = x162))),(84,.pointer (some ⟨bq7,0,none⟩)),(85,.bool (migrate_Migration_Closed ({ y134 with phase := x142,earliest := x143,closed := x144 }))),(86,.pointer (some ⟨bq8,0,none⟩)),(87,.pointer (some ⟨bq8,0,none⟩)),(88,.pointer (some ⟨bq8,6,none⟩)),(89,.bool x149),(90,.bool (!((migrate_Migration_Closed ({ y134 with phase := x142,earliest := x143,closed := x144 })) == x149))),(92,.bool true),(93,undef),(95,undef)] (by kernel_rfl) fun fr => ?_
            refine x_p rfl ?_
            refine v_T rfl ?_
            refine v_done ?_
            refine x_p rfl ?_
            refine v_T rfl ?_
            refine v_done ?_
            refine x_2 rfl rfl ?_ ?_
            ·refine r_T rfl ?_
             refine r_done ⟨rfl,k_a (le_w [false,false,true,true,true]) (le_w [false,false,true,true,true]),?_⟩
             refine x_e rfl ?_
             refine r_T rfl ?_
             refine r_done ⟨rfl,k_a (le_w [false,false,true,true,true]) (le_w [false,false,true,true,true]),?_⟩
             refine x_p rfl ?_
             refine v_T rfl ?_
             refine v_done ?_
             refine x_p rfl ?_
             refine v_T rfl ?_
             refine v_done ?_
             refine x_k [(3,.pointer (some ⟨bq1,0,none⟩)),(7,.pointer (some ⟨bq7,0,none⟩)),(8,.pointer (some ⟨bq8,0,none⟩)),(45,.slice A22 xs20.length c23),(46,.int .i64 (xs20.length : Int)),(47,.int .i64 x133),(65,.pointer (some ⟨bq7,0,none⟩)),(66,.int .i64 (migrate_Migration_Phase ({ y134 with phase := x142,earliest := x143,closed := x144 }))),(67,.pointer (some ⟨bq8,0,none⟩)),(68,.pointer (some ⟨bq8,0,none⟩)),(69,.pointer (some ⟨bq8,4,none⟩)),(70,.int .i64 x147),(71,.bool (!decide ((migrate_Migration_Phase ({ y134 with phase := x142,earliest := x143,closed := x144 })) = x147))),(74,.pointer (some ⟨bq7,0,none⟩)),(75,.int .i64 x160),(76,.pointer (some ⟨bq8,0,none⟩)),(77,.pointer (some ⟨bq8,0,none⟩)),(78,.pointer (some ⟨bq8,4,none⟩)),(79,.int .i64 x147),(80,.int .i64 x162),(81,.bool (!decide (x160 = x162))),(84,.pointer (some ⟨bq7,0,none⟩)),(85,.bool (migrate_Migration_Closed ({ y134 with phase := x142,earliest := x143,closed := x144 }))),(86,.pointer (some ⟨bq8,0,none⟩)),(87,.pointer (some ⟨bq8,0,none⟩)),(88,.pointer (some ⟨bq8,6,none⟩)),(89,.bool x149),(90,.bool (!((migrate_Migration_Closed ({ y134 with phase := x142,earliest := x143,closed := x144 })) == x149))),(100,.bool true)] (by kernel_rfl) fun fr => ?_
             refine r_le ((le_mv 4).trans ((le_mv 4).trans ((le_mv 2).trans ((le_mv 3).trans (le_w [true,true,true,true,false]))))) ?_
             exact r_done ⟨true,{ y134 with phase := x142,earliest := x143,closed := x144 },{ y135 with Phase := x147,Earliest := x148,Closed := x149 },_,h,fr_eq _ (by kernel_rfl),(by kernel_rfl)⟩
            ·refine r_T rfl ?_
             refine r_done ⟨rfl,k_a (le_w [false,false,true,true,true]) (le_w [false,false,true,true,true]),?_⟩
             refine x_e rfl ?_
             refine r_T rfl ?_
             refine r_done ⟨rfl,k_a (le_w [false,false,true,true,true]) (le_w [false,false,true,true,true]),?_⟩
             refine x_p rfl ?_
             refine v_T rfl ?_
             refine v_done ?_
             refine x_p rfl ?_
             refine v_T rfl ?_
             refine v_done ?_
             refine x_k [(3,.pointer (some ⟨bq1,0,none⟩)),(7,.pointer (some ⟨bq7,0,none⟩)),(8,.pointer (some ⟨bq8,0,none⟩)),(45,.slice A22 xs20.length c23),(46,.int .i64 (xs20.length : Int)),(47,.int .i64 x133),(65,.pointer (some ⟨bq7,0,none⟩)),(66,.int .i64 (migrate_Migration_Phase ({ y134 with phase := x142,earliest := x143,closed := x144 }))),(67,.pointer (some ⟨bq8,0,none⟩)),(68,.pointer (some ⟨bq8,0,none⟩)),(69,.pointer (some ⟨bq8,4,none⟩)),(70,.int .i64 x147),(71,.bool (!decide ((migrate_Migration_Phase ({ y134 with phase := x142,earliest := x143,closed := x144 })) = x147))),(74,.pointer (some ⟨bq7,0,none⟩)),(75,.int .i64 x160),(76,.pointer (some ⟨bq8,0,none⟩)),(77,.pointer (some ⟨bq8,0,none⟩)),(78,.pointer (some ⟨bq8,4,none⟩)),(79,.int .i64 x147),(80,.int .i64 x162),(81,.bool (!decide (x160 = x162))),(84,.pointer (some ⟨bq7,0,none⟩)),(85,.bool (migrate_Migration_Closed ({ y134 with phase := x142,earliest := x143,closed := x144 }))),(86,.pointer (some ⟨bq8,0,none⟩)),(87,.pointer (some ⟨bq8,0,none⟩)),(88,.pointer (some ⟨bq8,6,none⟩)),(89,.bool x149),(90,.bool (!((migrate_Migration_Closed ({ y134 with phase := x142,earliest := x143,closed := x144 })) == x149))),(100,.bool true)] (by kernel_rfl) fun fr => ?_
             refine r_le ((le_mv 4).trans ((le_mv 4).trans ((le_mv 2).trans ((le_mv 3).trans (le_w [true,true,true,true,false]))))) ?_
             exact r_done ⟨true,{ y134 with phase := x142,earliest := x143,closed := x144 },{ y135 with Phase := x147,Earliest := x148,Closed := x149 },_,h,fr_eq _ (by kernel_rfl),(by kernel_rfl)⟩
           ·replace h := h_f h hb165
            clear hb165
            refine v_done ?_
            refine x_p rfl ?_
            refine v_F rfl ?_
            refine v_done ?_
            refine x_kp [(3,.pointer (some ⟨bq1,0,none⟩)),(7,.pointer (some ⟨bq7,0,none⟩)),(8,.pointer (some ⟨bq8,0,none⟩)),(45,.slice A22 xs20.length c23),(46,.int .i64 (xs20.length : Int)),(47,.int .i64 x133),(65,.pointer (some ⟨bq7,0,none⟩)),(66,.int .i64 (migrate_Migration_Phase ({ y134 with phase := x142,earliest := x143,closed := x144 }))),(67,.pointer (some ⟨bq8,0,none⟩)),(68,.pointer (some ⟨bq8,0,none⟩)),(69,.pointer (some ⟨bq8,4,none⟩)),(70,.int .i64 x147),(71,.bool (!decide ((migrate_Migration_Phase ({ y134 with phase := x142,earliest := x143,closed := x144 })) = x147))),(74,.pointer (some ⟨bq7,0,none⟩)),(75,.int .i64 x160),(76,.pointer (some ⟨bq8,0,none⟩)),(77,.pointer (some ⟨bq8,0,none⟩)),(78,.pointer (some ⟨bq8,4,none⟩)),(79,.int .i64 x147),(80,.int .i64 x162),(81,.bool (!decide (x160 = x162))),(84,.pointer (some ⟨bq7,0,none⟩)),(85,.bool (migrate_Migration_Closed ({ y134 with phase := x142,earliest := x143,closed := x144 }))),(86,.pointer (some ⟨bq8,0,none⟩)),(87,.pointer (some ⟨bq8,0,none⟩)),(88,.pointer (some ⟨bq8,6,none⟩)),(89,.bool x149),(90,.bool (!((migrate_Migration_Closed ({ y134 with phase := x142,earliest := x143,closed := x144 })) == x149))),(92,.bool false),(93,.pointer (some ⟨bq7,0,none⟩)),(95,.pointer (some ⟨bq8,0,none⟩))] (by kernel_rfl) fun fr => ?_
            refine x_p rfl ?_
            refine v_F rfl ?_
            refine v_done ?_
            refine x_p rfl ?_
            refine v_F rfl ?_
            refine v_done ?_
            refine x_2 rfl rfl ?_ ?_
            ·refine r_F rfl ?_
             refine r_call (hc_25 (bm0 := bq7) (m0 := { y134 with phase := x142,earliest := x143,closed := x144 })) ?_
             rintro _ _ ⟨rfl,rfl⟩
             refine r_done ⟨rfl,k_a (le_w [false,false,true,true,true]) (le_w [false,false,true,true,true]),?_⟩
             refine x_e rfl ?_
             refine r_F rfl ?_
             refine r_ld 1 tt_ok (v := .int .i64 x148) ts_3 rfl (by kernel_rfl) ?_
             refine r_done ⟨rfl,k_a (le_w [false,false,true,true,true]) (le_w [false,false,true,true,true]),?_⟩
             refine x_p rfl ?_
             refine v_F rfl ?_
             refine v_done ?_
             refine x_p rfl ?_
             refine v_done ?_
             refine x_k [(3,.pointer (some ⟨bq1,0,none⟩)),(7,.pointer (some ⟨bq7,0,none⟩)),(8,.pointer (some ⟨bq8,0,none⟩)),(45,.slice A22 xs20.length c23),(46,.int .i64 (xs20.length : Int)),(47,.int .i64 x133),(65,.pointer (some ⟨bq7,0,none⟩)),(66,.int .i64 (migrate_Migration_Phase ({ y134 with phase := x142,earliest := x143,closed := x144 }))),(67,.pointer (some ⟨bq8,0,none⟩)),(68,.pointer (some ⟨bq8,0,none⟩)),(69,.pointer (some ⟨bq8,4,none⟩)),(70,.int .i64 x147),(71,.bool (!decide ((migrate_Migration_Phase ({ y134 with phase := x142,earliest := x143,closed := x144 })) = x147))),(74,.pointer (some ⟨bq7,0,none⟩)),(75,.int .i64 x160),(76,.pointer (some ⟨bq8,0,none⟩)),(77,.pointer (some ⟨bq8,0,none⟩)),(78,.pointer (some ⟨bq8,4,none⟩)),(79,.int .i64 x147),(80,.int .i64 x162),(81,.bool (!decide (x160 = x162))),(84,.pointer (some ⟨bq7,0,none⟩)),(85,.bool (migrate_Migration_Closed ({ y134 with phase := x142,earliest := x143,closed := x144 }))),(86,.pointer (some ⟨bq8,0,none⟩)),(87,.pointer (some ⟨bq8,0,none⟩)),(88,.pointer (some ⟨bq8,6,none⟩)),(89,.bool x149),(90,.bool (!((migrate_Migration_Closed ({ y134 with phase := x142,earliest := x143,closed := x144 })) == x149))),(93,.pointer (some ⟨bq7,0,none⟩)),(94,.int .i64 (migrate_Migration_Earliest ({ y134 with phase := x142,earliest := x143,closed := x144 }))),(95,.pointer (some ⟨bq8,0,none⟩)),(96,.pointer (some ⟨bq8,0,none⟩)),(97,.pointer (some ⟨bq8,5,none⟩)),(98,.int .i64 x148),(99,.bool (!decide ((migrate_Migration_Earliest ({ y134 with phase := x142,earliest := x143,closed := x144 })) = x148))),(100,.bool (!decide ((migrate_Migration_Earliest ({ y134 with phase := x142,earliest := x143,closed := x144 })) = x148)))] (by kernel_rfl) fun fr => ?_
             refine r_le ((le_mv 4).trans ((le_mv 4).trans ((le_mv 2).trans ((le_mv 3).trans (le_w [true,true,true,true,false]))))) ?_
             exact r_done ⟨!decide ((migrate_Migration_Earliest ({ y134 with phase := x142,earliest := x143,closed := x144 })) = x148),{ y134 with phase := x142,earliest := x143,closed := x144 },{ y135 with Phase := x147,Earliest := x148,Closed := x149 },_,h,fr_eq _ (by kernel_rfl),(by kernel_rfl)⟩
            ·refine r_F rfl ?_
             refine r_ld 1 tt_ok (v := .int .i64 x148) ts_3 rfl (by kernel_rfl) ?_
             refine r_done ⟨rfl,k_a (le_w [false,false,true,true,true]) (le_w [false,false,true,true,true]),?_⟩
             refine x_e rfl ?_
             refine r_F rfl ?_
             refine r_call (hc_25 (bm0 := bq7) (m0 := { y134 with phase := x142,earliest := x143,closed := x144 })) ?_
             rintro _ _ ⟨rfl,rfl⟩
             refine r_done ⟨rfl,k_a (le_w [false,false,true,true,true]) (le_w [false,false,true,true,true]),?_⟩
             refine x_p rfl ?_
             refine v_F rfl ?_
             refine v_done ?_
             refine x_p rfl ?_
             refine v_done ?_
             refine x_k [(3,.pointer (some ⟨bq1,0,none⟩)),(7,.pointer (some ⟨bq7,0,none⟩)),(8,.pointer (some ⟨bq8,0,none⟩)),(45,.slice A22 xs20.length c23),(46,.int .i64 (xs20.length : Int)),(47,.int .i64 x133),(65,.pointer (some ⟨bq7,0,none⟩)),(66,.int .i64 (migrate_Migration_Phase ({ y134 with phase := x142,earliest := x143,closed := x144 }))),(67,.pointer (some ⟨bq8,0,none⟩)),(68,.pointer (some ⟨bq8,0,none⟩)),(69,.pointer (some ⟨bq8,4,none⟩)),(70,.int .i64 x147),(71,.bool (!decide ((migrate_Migration_Phase ({ y134 with phase := x142,earliest := x143,closed := x144 })) = x147))),(74,.pointer (some ⟨bq7,0,none⟩)),(75,.int .i64 x160),(76,.pointer (some ⟨bq8,0,none⟩)),(77,.pointer (some ⟨bq8,0,none⟩)),(78,.pointer (some ⟨bq8,4,none⟩)),(79,.int .i64 x147),(80,.int .i64 x162),(81,.bool (!decide (x160 = x162))),(84,.pointer (some ⟨bq7,0,none⟩)),(85,.bool (migrate_Migration_Closed ({ y134 with phase := x142,earliest := x143,closed := x144 }))),(86,.pointer (some ⟨bq8,0,none⟩)),(87,.pointer (some ⟨bq8,0,none⟩)),(88,.pointer (some ⟨bq8,6,none⟩)),(89,.bool x149),(90,.bool (!((migrate_Migration_Closed ({ y134 with phase := x142,earliest := x143,closed := x144 })) == x149))),(93,.pointer (some ⟨bq7,0,none⟩)),(94,.int .i64 (migrate_Migration_Earliest ({ y134 with phase := x142,earliest := x143,closed := x144 }))),(95,.pointer (some ⟨bq8,0,none⟩)),(96,.pointer (some ⟨bq8,0,none⟩)),(97,.pointer (some ⟨bq8,5,none⟩)),(98,.int .i64 x148),(99,.bool (!decide ((migrate_Migration_Earliest ({ y134 with phase := x142,earliest := x143,closed := x144 })) = x148))),(100,.bool (!decide ((migrate_Migration_Earliest ({ y134 with phase := x142,earliest := x143,closed := x144 })) = x148)))] (by kernel_rfl) fun fr => ?_
             refine r_le ((le_mv 4).trans ((le_mv 4).trans ((le_mv 2).trans ((le_mv 3).trans (le_w [true,true,true,true,false]))))) ?_
             exact r_done ⟨!decide ((migrate_Migration_Earliest ({ y134 with phase := x142,earliest := x143,closed := x144 })) = x148),{ y134 with phase := x142,earliest := x143,closed := x144 },{ y135 with Phase := x147,Earliest := x148,Closed := x149 },_,h,fr_eq _ (by kernel_rfl),(by kernel_rfl)⟩
      ·refine r_F rfl ?_
       refine r_ld 0 tt_ok (v := .int .i64 x147) ts_3 rfl (by kernel_rfl) ?_
       refine r_done ⟨rfl,k_a (le_w [false,false,true,true,true]) (le_w [false,false,true,true,true]),?_⟩
       refine x_e rfl ?_
       refine r_F rfl ?_
       refine r_le (le_mv 1) ?_
       refine r_call (hc_20 (bm0 := bq7) (m0 := { y134 with phase := x142,earliest := x143,closed := x144 })) ?_
       rintro _ _ ⟨rfl,rfl⟩
       refine r_done ⟨rfl,k_a (le_w [false,false,true,true,true]) (le_w [false,false,true,true,true]),?_⟩
       refine x_p rfl ?_
       refine v_F rfl ?_
       refine v_done ?_
       refine x_p rfl ?_
       refine v_done ?_
       refine x_p rfl ?_
       refine v_done ?_
       refine x_kp [(3,.pointer (some ⟨bq1,0,none⟩)),(7,.pointer (some ⟨bq7,0,none⟩)),(8,.pointer (some ⟨bq8,0,none⟩)),(45,.slice A22 xs20.length c23),(46,.int .i64 (xs20.length : Int)),(47,.int .i64 x133),(65,.pointer (some ⟨bq7,0,none⟩)),(66,.int .i64 (migrate_Migration_Phase ({ y134 with phase := x142,earliest := x143,closed := x144 }))),(67,.pointer (some ⟨bq8,0,none⟩)),(68,.pointer (some ⟨bq8,0,none⟩)),(69,.pointer (some ⟨bq8,4,none⟩)),(70,.int .i64 x147),(71,.bool (!decide ((migrate_Migration_Phase ({ y134 with phase := x142,earliest := x143,closed := x144 })) = x147))),(73,.bool (!decide ((migrate_Migration_Phase ({ y134 with phase := x142,earliest := x143,closed := x144 })) = x147)))] (by kernel_rfl) fun fr => ?_
       refine x_p rfl ?_
       refine v_ite (fun (hb166 : (!decide ((migrate_Migration_Phase ({ y134 with phase := x142,earliest := x143,closed := x144 })) = x147)) = true) => ?_) (fun (hb166 : (!decide ((migrate_Migration_Phase ({ y134 with phase := x142,earliest := x143,closed := x144 })) = x147)) = false) => ?_)
       ·replace h := h_t h hb166
        clear hb166
        refine v_done ?_
        refine x_p rfl ?_
        refine v_T rfl ?_
        refine v_done ?_
        refine x_p rfl ?_
        refine v_T rfl ?_
        refine v_done ?_
        refine x_p rfl ?_
        refine v_T rfl ?_
        refine v_done ?_
        refine x_2 rfl rfl ?_ ?_
        ·refine r_T rfl ?_
         refine r_done ⟨rfl,k_a (le_w [false,false,true,true,true]) (le_w [false,false,true,true,true]),?_⟩
         refine x_e rfl ?_
         refine r_T rfl ?_
         refine r_done ⟨rfl,k_a (le_w [false,false,true,true,true]) (le_w [false,false,true,true,true]),?_⟩
         refine x_e rfl ?_
         refine r_T rfl ?_
         refine r_done ⟨rfl,k_a (le_w [false,false,true,true,true]) (le_w [false,false,true,true,true]),?_⟩
         refine x_p rfl ?_
         refine v_T rfl ?_
         refine v_done ?_
         refine x_p rfl ?_
         refine v_T rfl ?_
         refine v_done ?_
         refine x_kp [(3,.pointer (some ⟨bq1,0,none⟩)),(7,.pointer (some ⟨bq7,0,none⟩)),(8,.pointer (some ⟨bq8,0,none⟩)),(45,.slice A22 xs20.length c23),(46,.int .i64 (xs20.length : Int)),(47,.int .i64 x133),(65,.pointer (some ⟨bq7,0,none⟩)),(66,.int .i64 (migrate_Migration_Phase ({ y134 with phase := x142,earliest := x143,closed := x144 }))),(67,.pointer (some ⟨bq8,0,none⟩)),(68,.pointer (some ⟨bq8,0,none⟩)),(69,.pointer (some ⟨bq8,4,none⟩)),(70,.int .i64 x147),(71,.bool (!decide ((migrate_Migration_Phase ({ y134 with phase := x142,earliest := x143,closed := x144 })) = x147))),(74,undef),(75,undef),(76,undef),(77,undef),(78,undef),(79,undef),(80,undef),(81,undef),(82,.bool true)] (by kernel_rfl) fun fr => ?_
         refine x_p rfl ?_
         refine v_done ?_
         refine x_p rfl ?_
         refine v_T rfl ?_
         refine v_done ?_
         refine x_p rfl ?_
         refine v_T rfl ?_
         refine v_done ?_
         refine x_p rfl ?_
         refine v_T rfl ?_
         refine v_done ?_
         refine x_p rfl ?_
         refine v_T rfl ?_
         refine v_done ?_
         refine x_2 rfl rfl ?_ ?_
         ·refine r_T rfl ?_
          refine r_done ⟨rfl,k_a (le_w [false,false,true,true,true]) (le_w [false,false,true,true,true]),?_⟩
          refine x_e rfl ?_
          refine r_T rfl ?_
          refine r_done ⟨rfl,k_a (le_w [false,false,true,true,true]) (le_w [false,false,true,true,true]),?_⟩
          refine x_p rfl ?_
          refine v_T rfl ?_
          refine v_done ?_
          refine x_p rfl ?_
          refine v_T rfl ?_
          refine v_done ?_
          refine x_kp [(3,.pointer (some ⟨bq1,0,none⟩)),(7,.pointer (some ⟨bq7,0,none⟩)),(8,.pointer (some ⟨bq8,0,none⟩)),(45,.slice A22 xs20.length c23),(46,.int .i64 (xs20.length : Int)),(47,.int .i64 x133),(65,.pointer (some ⟨bq7,0,none⟩)),(66,.int .i64 (migrate_Migration_Phase ({ y134 with phase := x142,earliest := x143,closed := x144 }))),(67,.pointer (some ⟨bq8,0,none⟩)),(68,.pointer (some ⟨bq8,0,none⟩)),(69,.pointer (some ⟨bq8,4,none⟩)),(70,.int .i64 x147),(71,.bool (!decide ((migrate_Migration_Phase ({ y134 with phase := x142,earliest := x143,closed := x144 })) = x147))),(74,undef),(75,undef),(76,undef),(77,undef),(78,undef),(79,undef),(80,undef),(81,undef),(84,undef),(85,undef),(86,undef),(87,undef),(88,undef),(89,undef),(90,undef),(91,.bool true)] (by kernel_rfl) fun fr => ?_
          refine x_p rfl ?_
          refine v_done ?_
          refine x_p rfl ?_
          refine v_T rfl ?_
          refine v_done ?_
          refine x_p rfl ?_
          refine v_T rfl ?_
          refine v_done ?_
          refine x_p rfl ?_
          refine v_T rfl ?_
          refine v_done ?_
          refine x_p rfl ?_
          refine v_T rfl ?_
          refine v_done ?_
          refine x_2 rfl rfl ?_ ?_
          ·refine r_T rfl ?_
           refine r_done ⟨rfl,k_a (le_w [false,false,true,true,true]) (le_w [false,false,true,true,true]),?_⟩
           refine x_e rfl ?_
           refine r_T rfl ?_
           refine r_done ⟨rfl,k_a (le_w [false,false,true,true,true]) (le_w [false,false,true,true,true]),?_⟩
           refine x_p rfl ?_
           refine v_T rfl ?_
           refine v_done ?_
           refine x_p rfl ?_
           refine v_T rfl ?_
           refine v_done ?_
           refine x_k [(3,.pointer (some ⟨bq1,0,none⟩)),(7,.pointer (some ⟨bq7,0,none⟩)),(8,.pointer (some ⟨bq8,0,none⟩)),(45,.slice A22 xs20.length c23),(46,.int .i64 (xs20.length : Int)),(47,.int .i64 x133),(65,.pointer (some ⟨bq7,0,none⟩)),(66,.int .i64 (migrate_Migration_Phase ({ y134 with phase := x142,earliest := x143,closed := x144 }))),(67,.pointer (some ⟨bq8,0,none⟩)),(68,.pointer (some ⟨bq8,0,none⟩)),(69,.pointer (some ⟨bq8,4,none⟩)),(70,.int .i64 x147),(71,.bool (!decide ((migrate_Migration_Phase ({ y134 with phase := x142,earliest := x143,closed := x144 })) = x147))),(100,.bool true)] (by kernel_rfl) fun fr => ?_
           refine r_le ((le_mv 4).trans ((le_mv 4).trans ((le_mv 2).trans ((le_mv 3).trans (le_w [true,true,true,true,false]))))) ?_
           exact r_done ⟨true,{ y134 with phase := x142,earliest := x143,closed := x144 },{ y135 with Phase := x147,Earliest := x148,Closed := x149 },_,h,fr_eq _ (by kernel_rfl),(by kernel_rfl)⟩
          ·refine r_T rfl ?_
           refine r_done ⟨rfl,k_a (le_w [false,false,true,true,true]) (le_w [false,false,true,true,true]),?_⟩
           refine x_e rfl ?_
           refine r_T rfl ?_
           refine r_done ⟨rfl,k_a (le_w [false,false,true,true,true]) (le_w [false,false,true,true,true]),?_⟩
           refine x_p rfl ?_
           refine v_T rfl ?_
           refine v_done ?_
           refine x_p rfl ?_
           refine v_T rfl ?_
           refine v_done ?_
           refine x_k [(3,.pointer (some ⟨bq1,0,none⟩)),(7,.pointer (some ⟨bq7,0,none⟩)),(8,.pointer (some ⟨bq8,0,none⟩)),(45,.slice A22 xs20.length c23),(46,.int .i64 (xs20.length : Int)),(47,.int .i64 x133),(65,.pointer (some ⟨bq7,0,none⟩)),(66,.int .i64 (migrate_Migration_Phase ({ y134 with phase := x142,earliest := x143,closed := x144 }))),(67,.pointer (some ⟨bq8,0,none⟩)),(68,.pointer (some ⟨bq8,0,none⟩)),(69,.pointer (some ⟨bq8,4,none⟩)),(70,.int .i64 x147),(71,.bool (!decide ((migrate_Migration_Phase ({ y134 with phase := x142,earliest := x143,closed := x144 })) = x147))),(100,.bool true)] (by kernel_rfl) fun fr => ?_
           refine r_le ((le_mv 4).trans ((le_mv 4).trans ((le_mv 2).trans ((le_mv 3).trans (le_w [true,true,true,true,false]))))) ?_
           exact r_done ⟨true,{ y134 with phase := x142,earliest := x143,closed := x144 },{ y135 with Phase := x147,Earliest := x148,Closed := x149 },_,h,fr_eq _ (by kernel_rfl),(by kernel_rfl)⟩
         ·refine r_T rfl ?_
          refine r_done ⟨rfl,k_a (le_w [false,false,true,true,true]) (le_w [false,false,true,true,true]),?_⟩
          refine x_e rfl ?_
          refine r_T rfl ?_
          refine r_done ⟨rfl,k_a (le_w [false,false,true,true,true]) (le_w [false,false,true,true,true]),?_⟩
          refine x_p rfl ?_
          refine v_T rfl ?_
          refine v_done ?_
          refine x_p rfl ?_
          refine v_T rfl ?_
          refine v_done ?_
          refine x_p rfl ?_
          refine v_done ?_
          refine x_p rfl ?_
          refine v_T rfl ?_
          refine v_done ?_
          refine x_p rfl ?_
          refine v_T rfl ?_
          refine v_done ?_
          refine x_p rfl ?_
          refine v_T rfl ?_
          refine v_done ?_
          refine x_p rfl ?_
          refine v_T rfl ?_
          refine v_done ?_
          refine x_2 rfl rfl ?_ ?_
          ·refine r_T rfl ?_
           refine r_done ⟨rfl,k_a (le_w [false,false,true,true,true]) (le_w [false,false,true,true,true]),?_⟩
           refine x_kp [(3,.pointer (some ⟨bq1,0,none⟩)),(7,.pointer (some ⟨bq7,0,none⟩)),(8,.pointer (some ⟨bq8,0,none⟩)),(45,.slice A22 xs20.length c23),(46,.int .i64 (xs20.length : Int)),(47,.int .i64 x133),(65,.pointer (some ⟨bq7,0,none⟩)),(66,.int .i64 (migrate_Migration_Phase ({ y134 with phase := x142,earliest := x143,closed := x144 }))),(67,.pointer (some ⟨bq8,0,none⟩)),(68,.pointer (some ⟨bq8,0,none⟩)),(69,.pointer (some ⟨bq8,4,none⟩)),(70,.int .i64 x147),(71,.bool (!decide ((migrate_Migration_Phase ({ y134 with phase := x142,earliest := x143,closed := x144 })) = x147))),(74,undef),(75,undef),(76,undef),(77,undef),(78,undef),(79,undef),(80,undef),(81,undef),(84,undef),(85,undef),(86,undef),(87,undef),(88,undef),(89,undef),(90,undef),(92,.bool true),(93,undef),(94,undef),(95,undef),(96,undef),(97,undef)] (by kernel_rfl) fun fr => ?_
           refine x_e rfl ?_
           refine r_T rfl ?_
           refine r_done ⟨rfl,k_a (le_w [false,false,true,true,true]) (le_w [false,false,true,true,true]),?_⟩
           refine x_p rfl ?_
           refine v_T rfl ?_
           refine v_done ?_
           refine x_p rfl ?_
           refine v_T rfl ?_
           refine v_done ?_
           refine x_k [(3,.pointer (some ⟨bq1,0,none⟩)),(7,.pointer (some ⟨bq7,0,none⟩)),(8,.pointer (some ⟨bq8,0,none⟩)),(45,.slice A22 xs20.length c23),(46,.int .i64 (xs20.length : Int)),(47,.int .i64 x133),(65,.pointer (some ⟨bq7,0,none⟩)),(66,.int .i64 (migrate_Migration_Phase ({ y134 with phase := x142,earliest := x143,closed := x144 }))),(67,.pointer (some ⟨bq8,0,none⟩)),(68,.pointer (some ⟨bq8,0,none⟩)),(69,.pointer (some ⟨bq8,4,none⟩)),(70,.int .i64 x147),(71,.bool (!decide ((migrate_Migration_Phase ({ y134 with phase := x142,earliest := x143,closed := x144 })) = x147))),(100,.bool true)] (by kernel_rfl) fun fr => ?_
           refine r_le ((le_mv 4).trans ((le_mv 4).trans ((le_mv 2).trans ((le_mv 3).trans (le_w [true,true,true,true,false]))))) ?_
           exact r_done ⟨true,{ y134 with phase := x142,earliest := x143,closed := x144 },{ y135 with Phase := x147,Earliest := x148,Closed := x149 },_,h,fr_eq _ (by kernel_rfl),(by kernel_rfl)⟩
          ·refine r_T rfl ?_
           refine r_done ⟨rfl,k_a (le_w [false,false,true,true,true]) (le_w [false,false,true,true,true]),?_⟩
           refine x_e rfl ?_
           refine r_T rfl ?_
           refine r_done ⟨rfl,k_a (le_w [false,false,true,true,true]) (le_w [false,false,true,true,true]),?_⟩
           refine x_p rfl ?_
           refine v_T rfl ?_
           refine v_done ?_
           refine x_p rfl ?_
           refine v_T rfl ?_
           refine v_done ?_
           refine x_k [(3,.pointer (some ⟨bq1,0,none⟩)),(7,.pointer (some ⟨bq7,0,none⟩)),(8,.pointer (some ⟨bq8,0,none⟩)),(45,.slice A22 xs20.length c23),(46,.int .i64 (xs20.length : Int)),(47,.int .i64 x133),(65,.pointer (some ⟨bq7,0,none⟩)),(66,.int .i64 (migrate_Migration_Phase ({ y134 with phase := x142,earliest := x143,closed := x144 }))),(67,.pointer (some ⟨bq8,0,none⟩)),(68,.pointer (some ⟨bq8,0,none⟩)),(69,.pointer (some ⟨bq8,4,none⟩)),(70,.int .i64 x147),(71,.bool (!decide ((migrate_Migration_Phase ({ y134 with phase := x142,earliest := x143,closed := x144 })) = x147))),(100,.bool true)] (by kernel_rfl) fun fr => ?_
           refine r_le ((le_mv 4).trans ((le_mv 4).trans ((le_mv 2).trans ((le_mv 3).trans (le_w [true,true,true,true,false]))))) ?_
           exact r_done ⟨true,{ y134 with phase := x142,earliest := x143,closed := x144 },{ y135 with Phase := x147,Earliest := x148,Closed := x149 },_,h,fr_eq _ (by kernel_rfl),(by kernel_rfl)⟩
        ·refine r_T rfl ?_
         refine r_done ⟨rfl,k_a (le_w [false,false,true,true,true]) (le_w [false,false,true,true,true]),?_⟩
         refine x_e rfl ?_
         refine r_T rfl ?_
         refine r_done ⟨rfl,k_a (le_w [false,false,true,true,true]) (le_w [false,false,true,true,true]),?_⟩
         refine x_e rfl ?_
         refine r_T rfl ?_
         refine r_done ⟨rfl,k_a (le_w [false,false,true,true,true]) (le_w [false,false,true,true,true]),?_⟩
         refine x_p rfl ?_
         refine v_T rfl ?_
         refine v_done ?_
         refine x_p rfl ?_
         refine v_T rfl ?_
         refine v_done ?_
         refine x_p rfl ?_
         refine v_done ?_
         refine x_p rfl ?_
         refine v_T rfl ?_
         refine v_done ?_
         refine x_p rfl ?_
         refine v_T rfl ?_
         refine v_done ?_
         refine x_p rfl ?_
         refine v_T rfl ?_
         refine v_done ?_
         refine x_p rfl ?_
         refine v_T rfl ?_
         refine v_done ?_
         refine x_kp [(3,.pointer (some ⟨bq1,0,none⟩)),(7,.pointer (some ⟨bq7,0,none⟩)),(8,.pointer (some ⟨bq8,0,none⟩)),(45,.slice A22 xs20.length c23),(46,.int .i64 (xs20.length : Int)),(47,.int .i64 x133),(65,.pointer (some ⟨bq7,0,none⟩)),(66,.int .i64 (migrate_Migration_Phase ({ y134 with phase := x142,earliest := x143,closed := x144 }))),(67,.pointer (some ⟨bq8,0,none⟩)),(68,.pointer (some ⟨bq8,0,none⟩)),(69,.pointer (some ⟨bq8,4,none⟩)),(70,.int .i64 x147),(71,.bool (!decide ((migrate_Migration_Phase ({ y134 with phase := x142,earliest := x143,closed := x144 })) = x147))),(74,undef),(75,undef),(76,undef),(77,undef),(78,undef),(79,undef),(80,undef),(81,undef),(83,.bool true),(84,undef),(86,undef),(87,undef),(88,undef)] (by kernel_rfl) fun fr => ?_
         refine x_2 rfl rfl ?_ ?_
         ·refine r_T rfl ?_
          refine r_done ⟨rfl,k_a (le_w [false,false,true,true,true]) (le_w [false,false,true,true,true]),?_⟩
          refine x_e rfl ?_
          refine r_T rfl ?_
          refine r_done ⟨rfl,k_a (le_w [false,false,true,true,true]) (le_w [false,false,true,true,true]),?_⟩
          refine x_p rfl ?_
          refine v_T rfl ?_
          refine v_done ?_
          refine x_p rfl ?_
          refine v_T rfl ?_
          refine v_done ?_
          refine x_p rfl ?_
          refine v_done ?_
          refine x_p rfl ?_
          refine v_T rfl ?_
          refine v_done ?_
          refine x_p rfl ?_
          refine v_T rfl ?_
          refine v_done ?_
          refine x_p rfl ?_
          refine v_T rfl ?_
          refine v_done ?_
          refine x_p rfl ?_
          refine v_T rfl ?_
          refine v_done ?_
          refine x_kp [(3,.pointer (some ⟨bq1,0,none⟩)),(7,.pointer (some ⟨bq7,0,none⟩)),(8,.pointer (some ⟨bq8,0,none⟩)),(45,.slice A22 xs20.length c23),(46,.int .i64 (xs20.length : Int)),(47,.int .i64 x133),(65,.pointer (some ⟨bq7,0,none⟩)),(66,.int .i64 (migrate_Migration_Phase ({ y134 with phase := x142,earliest := x143,closed := x144 }))),(67,.pointer (some ⟨bq8,0,none⟩)),(68,.pointer (some ⟨bq8,0,none⟩)),(69,.pointer (some ⟨bq8,4,none⟩)),(70,.int .i64 x147),(71,.bool (!decide ((migrate_Migration_Phase ({ y134 with phase := x142,earliest := x143,closed := x144 })) = x147))),(74,undef),(75,undef),(76,undef),(77,undef),(78,undef),(79,undef),(80,undef),(81,undef),(84,undef),(85,undef),(86,undef),(87,undef),(88,undef),(89,undef),(90,undef),(92,.bool true),(93,undef),(95,undef),(96,undef),(97,undef)] (by kernel_rfl) fun fr => ?_
          refine x_2 rfl rfl ?_ ?_
          ·refine r_T rfl ?_
           refine r_done ⟨rfl,k_a (le_w [false,false,true,true,true]) (le_w [false,false,true,true,true]),?_⟩
           refine x_e rfl ?_
           refine r_T rfl ?_
           refine r_done ⟨rfl,k_a (le_w [false,false,true,true,true]) (le_w [false,false,true,true,true]),?_⟩
           refine x_p rfl ?_
           refine v_T rfl ?_
           refine v_done ?_
           refine x_p rfl ?_
           refine v_T rfl ?_
           refine v_done ?_
           refine x_k [(3,.pointer (some ⟨bq1,0,none⟩)),(7,.pointer (some ⟨bq7,0,none⟩)),(8,.pointer (some ⟨bq8,0,none⟩)),(45,.slice A22 xs20.length c23),(46,.int .i64 (xs20.length : Int)),(47,.int .i64 x133),(65,.pointer (some ⟨bq7,0,none⟩)),(66,.int .i64 (migrate_Migration_Phase ({ y134 with phase := x142,earliest := x143,closed := x144 }))),(67,.pointer (some ⟨bq8,0,none⟩)),(68,.pointer (some ⟨bq8,0,none⟩)),(69,.pointer (some ⟨bq8,4,none⟩)),(70,.int .i64 x147),(71,.bool (!decide ((migrate_Migration_Phase ({ y134 with phase := x142,earliest := x143,closed := x144 })) = x147))),(100,.bool true)] (by kernel_rfl) fun fr => ?_
           refine r_le ((le_mv 4).trans ((le_mv 4).trans ((le_mv 2).trans ((le_mv 3).trans (le_w [true,true,true,true,false]))))) ?_
           exact r_done ⟨true,{ y134 with phase := x142,earliest := x143,closed := x144 },{ y135 with Phase := x147,Earliest := x148,Closed := x149 },_,h,fr_eq _ (by kernel_rfl),(by kernel_rfl)⟩
          ·refine r_T rfl ?_
           refine r_done ⟨rfl,k_a (le_w [false,false,true,true,true]) (le_w [false,false,true,true,true]),?_⟩
           refine x_e rfl ?_
           refine r_T rfl ?_
           refine r_done ⟨rfl,k_a (le_w [false,false,true,true,true]) (le_w [false,false,true,true,true]),?_⟩
           refine x_p rfl ?_
           refine v_T rfl ?_
           refine v_done ?_
           refine x_p rfl ?_
           refine v_T rfl ?_
           refine v_done ?_
           refine x_k [(3,.pointer (some ⟨bq1,0,none⟩)),(7,.pointer (some ⟨bq7,0,none⟩)),(8,.pointer (some ⟨bq8,0,none⟩)),(45,.slice A22 xs20.length c23),(46,.int .i64 (xs20.length : Int)),(47,.int .i64 x133),(65,.pointer (some ⟨bq7,0,none⟩)),(66,.int .i64 (migrate_Migration_Phase ({ y134 with phase := x142,earliest := x143,closed := x144 }))),(67,.pointer (some ⟨bq8,0,none⟩)),(68,.pointer (some ⟨bq8,0,none⟩)),(69,.pointer (some ⟨bq8,4,none⟩)),(70,.int .i64 x147),(71,.bool (!decide ((migrate_Migration_Phase ({ y134 with phase := x142,earliest := x143,closed := x144 })) = x147))),(100,.bool true)] (by kernel_rfl) fun fr => ?_
           refine r_le ((le_mv 4).trans ((le_mv 4).trans ((le_mv 2).trans ((le_mv 3).trans (le_w [true,true,true,true,false]))))) ?_
           exact r_done ⟨true,{ y134 with phase := x142,earliest := x143,closed := x144 },{ y135 with Phase := x147,Earliest := x148,Closed := x149 },_,h,fr_eq _ (by kernel_rfl),(by kernel_rfl)⟩
         ·refine r_T rfl ?_
          refine r_done ⟨rfl,k_a (le_w [false,false,true,true,true]) (le_w [false,false,true,true,true]),?_⟩
          refine x_e rfl ?_
          refine r_T rfl ?_
          refine r_done ⟨rfl,k_a (le_w [false,false,true,true,true]) (le_w [false,false,true,true,true]),?_⟩
          refine x_p rfl ?_
          refine v_T rfl ?_
          refine v_done ?_
          refine x_p rfl ?_
          refine v_T rfl ?_
          refine v_done ?_
          refine x_p rfl ?_
          refine v_done ?_
          refine x_p rfl ?_
          refine v_T rfl ?_
          refine v_done ?_
          refine x_p rfl ?_
          refine v_T rfl ?_
          refine v_done ?_
          refine x_p rfl ?_
          refine v_T rfl ?_
          refine v_done ?_
          refine x_p rfl ?_
          refine v_T rfl ?_
          refine v_done ?_
          refine x_2 rfl rfl ?_ ?_
          ·refine r_T rfl ?_
           refine r_done ⟨rfl,k_a (le_w [false,false,true,true,true]) (le_w [false,false,true,true,true]),?_⟩
           refine x_kp [(3,.pointer (some ⟨bq1,0,none⟩)),(7,.pointer (some ⟨bq7,0,none⟩)),(8,.pointer (some ⟨bq8,0,none⟩)),(45,.slice A22 xs20.length c23),(46,.int .i64 (xs20.length : Int)),(47,.int .i64 x133),(65,.pointer (some ⟨bq7,0,none⟩)),(66,.int .i64 (migrate_Migration_Phase ({ y134 with phase := x142,earliest := x143,closed := x144 }))),(67,.pointer (some ⟨bq8,0,none⟩)),(68,.pointer (some ⟨bq8,0,none⟩)),(69,.pointer (some ⟨bq8,4,none⟩)),(70,.int .i64 x147),(71,.bool (!decide ((migrate_Migration_Phase ({ y134 with phase := x142,earliest := x143,closed := x144 })) = x147))),(74,undef),(75,undef),(76,undef),(77,undef),(78,undef),(79,undef),(80,undef),(81,undef),(84,undef),(85,undef),(86,undef),(87,undef),(88,undef),(89,undef),(90,undef),(92,.bool true),(93,undef),(94,undef),(95,undef),(96,undef),(97,undef)] (by kernel_rfl) fun fr => ?_
           refine x_e rfl ?_
           refine r_T rfl ?_
           refine r_done ⟨rfl,k_a (le_w [false,false,true,true,true]) (le_w [false,false,true,true,true]),?_⟩
           refine x_p rfl ?_
           refine v_T rfl ?_
           refine v_done ?_
           refine x_p rfl ?_
           refine v_T rfl ?_
           refine v_done ?_
           refine x_k [(3,.pointer (some ⟨bq1,0,none⟩)),(7,.pointer (some ⟨bq7,0,none⟩)),(8,.pointer (some ⟨bq8,0,none⟩)),(45,.slice A22 xs20.length c23),(46,.int .i64 (xs20.length : Int)),(47,.int .i64 x133),(65,.pointer (some ⟨bq7,0,none⟩)),(66,.int .i64 (migrate_Migration_Phase ({ y134 with phase := x142,earliest := x143,closed := x144 }))),(67,.pointer (some ⟨bq8,0,none⟩)),(68,.pointer (some ⟨bq8,0,none⟩)),(69,.pointer (some ⟨bq8,4,none⟩)),(70,.int .i64 x147),(71,.bool (!decide ((migrate_Migration_Phase ({ y134 with phase := x142,earliest := x143,closed := x144 })) = x147))),(100,.bool true)] (by kernel_rfl) fun fr => ?_
           refine r_le ((le_mv 4).trans ((le_mv 4).trans ((le_mv 2).trans ((le_mv 3).trans (le_w [true,true,true,true,false]))))) ?_
           exact r_done ⟨true,{ y134 with phase := x142,earliest := x143,closed := x144 },{ y135 with Phase := x147,Earliest := x148,Closed := x149 },_,h,fr_eq _ (by kernel_rfl),(by kernel_rfl)⟩
          ·refine r_T rfl ?_
           refine r_done ⟨rfl,k_a (le_w [false,false,true,true,true]) (le_w [false,false,true,true,true]),?_⟩
           refine x_e rfl ?_
           refine r_T rfl ?_
           refine r_done ⟨rfl,k_a (le_w [false,false,true,true,true]) (le_w [false,false,true,true,true]),?_⟩
           refine x_p rfl ?_
           refine v_T rfl ?_
           refine v_done ?_
           refine x_p rfl ?_
           refine v_T rfl ?_
           refine v_done ?_
           refine x_k [(3,.pointer (some ⟨bq1,0,none⟩)),(7,.pointer (some ⟨bq7,0,none⟩)),(8,.pointer (some ⟨bq8,0,none⟩)),(45,.slice A22 xs20.length c23),(46,.int .i64 (xs20.length : Int)),(47,.int .i64 x133),(65,.pointer (some ⟨bq7,0,none⟩)),(66,.int .i64 (migrate_Migration_Phase ({ y134 with phase := x142,earliest := x143,closed := x144 }))),(67,.pointer (some ⟨bq8,0,none⟩)),(68,.pointer (some ⟨bq8,0,none⟩)),(69,.pointer (some ⟨bq8,4,none⟩)),(70,.int .i64 x147),(71,.bool (!decide ((migrate_Migration_Phase ({ y134 with phase := x142,earliest := x143,closed := x144 })) = x147))),(100,.bool true)] (by kernel_rfl) fun fr => ?_
           refine r_le ((le_mv 4).trans ((le_mv 4).trans ((le_mv 2).trans ((le_mv 3).trans (le_w [true,true,true,true,false]))))) ?_
           exact r_done ⟨true,{ y134 with phase := x142,earliest := x143,closed := x144 },{ y135 with Phase := x147,Earliest := x148,Closed := x149 },_,h,fr_eq _ (by kernel_rfl),(by kernel_rfl)⟩
       ·replace h := h_f h hb166
        clear hb166
        refine v_done ?_
        refine x_p rfl ?_
        refine v_F rfl ?_
        refine v_done ?_
        refine x_p rfl ?_
        refine v_F rfl ?_
        refine v_done ?_
        refine x_p rfl ?_
        refine v_F rfl ?_
        refine v_done ?_
        refine x_2 rfl rfl ?_ ?_
        ·refine r_F rfl ?_
         replace h := h_b h; obtain ⟨x168,hx167,h⟩ := h
         refine r_call (hc_21 (bm0 := bq7) (m0 := { y134 with phase := x142,earliest := x143,closed := x144 }) (h := hx167)) ?_
         rintro _ _ ⟨rfl,rfl⟩
         refine r_done ⟨rfl,k_a (le_w [false,false,true,true,true]) (le_w [false,false,true,true,true]),?_⟩
         refine x_e rfl ?_
         refine r_F rfl ?_
         refine r_ld 1 tt_ok (v := .int .i64 x147) ts_3 rfl (by kernel_rfl) ?_
         refine r_done ⟨rfl,k_a (le_w [false,false,true,true,true]) (le_w [false,false,true,true,true]),?_⟩
         refine x_e rfl ?_
         refine r_F rfl ?_
         replace h := h_b h; obtain ⟨x170,hx169,h⟩ := h
         refine r_call (hc_24 (phase0 := x147) (h := hx169)) ?_
         rintro _ _ ⟨rfl,rfl⟩
         refine r_done ⟨rfl,k_a (le_w [false,false,true,true,true]) (le_w [false,false,true,true,true]),?_⟩
         refine x_p rfl ?_
         refine v_F rfl ?_
         refine v_done ?_
         refine x_p rfl ?_
         refine v_done ?_
         refine x_kp [(3,.pointer (some ⟨bq1,0,none⟩)),(7,.pointer (some ⟨bq7,0,none⟩)),(8,.pointer (some ⟨bq8,0,none⟩)),(45,.slice A22 xs20.length c23),(46,.int .i64 (xs20.length : Int)),(47,.int .i64 x133),(65,.pointer (some ⟨bq7,0,none⟩)),(66,.int .i64 (migrate_Migration_Phase ({ y134 with phase := x142,earliest := x143,closed := x144 }))),(67,.pointer (some ⟨bq8,0,none⟩)),(68,.pointer (some ⟨bq8,0,none⟩)),(69,.pointer (some ⟨bq8,4,none⟩)),(70,.int .i64 x147),(71,.bool (!decide ((migrate_Migration_Phase ({ y134 with phase := x142,earliest := x143,closed := x144 })) = x147))),(74,.pointer (some ⟨bq7,0,none⟩)),(75,.int .i64 x168),(76,.pointer (some ⟨bq8,0,none⟩)),(77,.pointer (some ⟨bq8,0,none⟩)),(78,.pointer (some ⟨bq8,4,none⟩)),(79,.int .i64 x147),(80,.int .i64 x170),(81,.bool (!decide (x168 = x170))),(82,.bool (!decide (x168 = x170)))] (by kernel_rfl) fun fr => ?_
         refine x_p rfl ?_
         refine v_done ?_
         refine x_p rfl ?_
         refine v_ite (fun (hb171 : (!decide (x168 = x170)) = true) => ?_) (fun (hb171 : (!decide (x168 = x170)) = false) => ?_)
         ·replace h := h_t h hb171
          clear hb171
          refine v_done ?_
          refine x_p rfl ?_
          refine v_T rfl ?_
          refine v_done ?_
          refine x_p rfl ?_
          refine v_T rfl ?_
          refine v_done ?_
          refine x_p rfl ?_
          refine v_T rfl ?_
          refine v_done ?_
          refine x_2 rfl rfl ?_ ?_
          ·refine r_T rfl ?_
           refine r_done ⟨rfl,k_a (le_w [false,false,true,true,true]) (le_w [false,false,true,true,true]),?_⟩
           refine x_e rfl ?_
           refine r_T rfl ?_
           refine r_done ⟨rfl,k_a (le_w [false,false,true,true,true]) (le_w [false,false,true,true,true]),?_⟩
           refine x_p rfl ?_
           refine v_T rfl ?_
           refine v_done ?_
           refine x_p rfl ?_
           refine v_T rfl ?_
           refine v_done ?_
           refine x_kp [(3,.pointer (some ⟨bq1,0,none⟩)),(7,.pointer (some ⟨bq7,0,none⟩)),(8,.pointer (some ⟨bq8,0,none⟩)),(45,.slice A22 xs20.length c23),(46,.int .i64 (xs20.length : Int)),(47,.int .i64 x133),(65,.pointer (some ⟨bq7,0,none⟩)),(66,.int .i64 (migrate_Migration_Phase ({ y134 with phase := x142,earliest := x143,closed := x144 }))),(67,.pointer (some ⟨bq8,0,none⟩)),(68,.pointer (some ⟨bq8,0,none⟩)),(69,.pointer (some ⟨bq8,4,none⟩)),(70,.int .i64 x147),(71,.bool (!decide ((migrate_Migration_Phase ({ y134 with phase := x142,earliest := x143,closed := x144 })) = x147))),(74,.pointer (some ⟨bq7,0,none⟩)),(75,.int .i64 x168),(76,.pointer (some ⟨bq8,0,none⟩)),(77,.pointer (some ⟨bq8,0,none⟩)),(78,.pointer (some ⟨bq8,4,none⟩)),(79,.int .i64 x147),(80,.int .i64 x170),(81,.bool (!decide (x168 = x170))),(84,undef),(85,undef),(86,undef),(87,undef),(88,undef),(89,undef),(90,undef),(91,.bool true)] (by kernel_rfl) fun fr => ?_
           refine x_p rfl ?_
           refine v_done ?_
           refine x_p rfl ?_
           refine v_T rfl ?_
           refine v_done ?_
           refine x_p rfl ?_
           refine v_T rfl ?_
           refine v_done ?_
           refine x_p rfl ?_
           refine v_T rfl ?_
           refine v_done ?_
           refine x_p rfl ?_
           refine v_T rfl ?_
           refine v_done ?_
           refine x_2 rfl rfl ?_ ?_
           ·refine r_T rfl ?_
            refine r_done ⟨rfl,k_a (le_w [false,false,true,true,true]) (le_w [false,false,true,true,true]),?_⟩
            refine x_e rfl ?_
            refine r_T rfl ?_
            refine r_done ⟨rfl,k_a (le_w [false,false,true,true,true]) (le_w [false,false,true,true,true]),?_⟩
            refine x_p rfl ?_
            refine v_T rfl ?_
            refine v_done ?_
            refine x_p rfl ?_
            refine v_T rfl ?_
            refine v_done ?_
            refine x_k [(3,.pointer (some ⟨bq1,0,none⟩)),(7,.pointer (some ⟨bq7,0,none⟩)),(8,.pointer (some ⟨bq8,0,none⟩)),(45,.slice A22 xs20.length c23),(46,.int .i64 (xs20.length : Int)),(47,.int .i64 x133),(65,.pointer (some ⟨bq7,0,none⟩)),(66,.int .i64 (migrate_Migration_Phase ({ y134 with phase := x142,earliest := x143,closed := x144 }))),(67,.pointer (some ⟨bq8,0,none⟩)),(68,.pointer (some ⟨bq8,0,none⟩)),(69,.pointer (some ⟨bq8,4,none⟩)),(70,.int .i64 x147),(71,.bool (!decide ((migrate_Migration_Phase ({ y134 with phase := x142,earliest := x143,closed := x144 })) = x147))),(74,.pointer (some ⟨bq7,0,none⟩)),(75,.int .i64 x168),(76,.pointer (some ⟨bq8,0,none⟩)),(77,.pointer (some ⟨bq8,0,none⟩)),(78,.pointer (some ⟨bq8,4,none⟩)),(79,.int .i64 x147),(80,.int .i64 x170),(81,.bool (!decide (x168 = x170))),(100,.bool true)] (by kernel_rfl) fun fr => ?_
            refine r_le ((le_mv 4).trans ((le_mv 4).trans ((le_mv 2).trans ((le_mv 3).trans (le_w [true,true,true,true,false]))))) ?_
            exact r_done ⟨true,{ y134 with phase := x142,earliest := x143,closed := x144 },{ y135 with Phase := x147,Earliest := x148,Closed := x149 },_,h,fr_eq _ (by kernel_rfl),(by kernel_rfl)⟩
           ·refine r_T rfl ?_
            refine r_done ⟨rfl,k_a (le_w [false,false,true,true,true]) (le_w [false,false,true,true,true]),?_⟩
            refine x_e rfl ?_
            refine r_T rfl ?_
            refine r_done ⟨rfl,k_a (le_w [false,false,true,true,true]) (le_w [false,false,true,true,true]),?_⟩
            refine x_p rfl ?_
            refine v_T rfl ?_
            refine v_done ?_
            refine x_p rfl ?_
            refine v_T rfl ?_
            refine v_done ?_
            refine x_k [(3,.pointer (some ⟨bq1,0,none⟩)),(7,.pointer (some ⟨bq7,0,none⟩)),(8,.pointer (some ⟨bq8,0,none⟩)),(45,.slice A22 xs20.length c23),(46,.int .i64 (xs20.length : Int)),(47,.int .i64 x133),(65,.pointer (some ⟨bq7,0,none⟩)),(66,.int .i64 (migrate_Migration_Phase ({ y134 with phase := x142,earliest := x143,closed := x144 }))),(67,.pointer (some ⟨bq8,0,none⟩)),(68,.pointer (some ⟨bq8,0,none⟩)),(69,.pointer (some ⟨bq8,4,none⟩)),(70,.int .i64 x147),(71,.bool (!decide ((migrate_Migration_Phase ({ y134 with phase := x142,earliest := x143,closed := x144 })) = x147))),(74,.pointer (some ⟨bq7,0,none⟩)),(75,.int .i64 x168),(76,.pointer (some ⟨bq8,0,none⟩)),(77,.pointer (some ⟨bq8,0,none⟩)),(78,.pointer (some ⟨bq8,4,none⟩)),(79,.int .i64 x147),(80,.int .i64 x170),(81,.bool (!decide (x168 = x170))),(100,.bool true)] (by kernel_rfl) fun fr => ?_
            refine r_le ((le_mv 4).trans ((le_mv 4).trans ((le_mv 2).trans ((le_mv 3).trans (le_w [true,true,true,true,false]))))) ?_
            exact r_done ⟨true,{ y134 with phase := x142,earliest := x143,closed := x144 },{ y135 with Phase := x147,Earliest := x148,Closed := x149 },_,h,fr_eq _ (by kernel_rfl),(by kernel_rfl)⟩
          ·refine r_T rfl ?_
           refine r_done ⟨rfl,k_a (le_w [false,false,true,true,true]) (le_w [false,false,true,true,true]),?_⟩
           refine x_e rfl ?_
           refine r_T rfl ?_
           refine r_done ⟨rfl,k_a (le_w [false,false,true,true,true]) (le_w [false,false,true,true,true]),?_⟩
           refine x_p rfl ?_
           refine v_T rfl ?_
           refine v_done ?_
           refine x_p rfl ?_
           refine v_T rfl ?_
           refine v_done ?_
           refine x_p rfl ?_
           refine v_done ?_
           refine x_p rfl ?_
           refine v_T rfl ?_
           refine v_done ?_
           refine x_p rfl ?_
           refine v_T rfl ?_
           refine v_done ?_
           refine x_p rfl ?_
           refine v_T rfl ?_
           refine v_done ?_
           refine x_p rfl ?_
           refine v_T rfl ?_
           refine v_done ?_
           refine x_2 rfl rfl ?_ ?_
           ·refine r_T rfl ?_
            refine r_done ⟨rfl,k_a (le_w [false,false,true,true,true]) (le_w [false,false,true,true,true]),?_⟩
            refine x_kp [(3,.pointer (some ⟨bq1,0,none⟩)),(7,.pointer (some ⟨bq7,0,none⟩)),(8,.pointer (some ⟨bq8,0,none⟩)),(45,.slice A22 xs20.length c23),(46,.int .i64 (xs20.length : Int)),(47,.int .i64 x133),(65,.pointer (some ⟨bq7,0,none⟩)),(66,.int .i64 (migrate_Migration_Phase ({ y134 with phase := x142,earliest := x143,closed := x144 }))),(67,.pointer (some ⟨bq8,0,none⟩)),(68,.pointer (some ⟨bq8,0,none⟩)),(69,.pointer (some ⟨bq8,4,none⟩)),(70,.int .i64 x147),(71,.bool (!decide ((migrate_Migration_Phase ({ y134 with phase := x142,earliest := x143,closed := x144 })) = x147))),(74,.pointer (some ⟨bq7,0,none⟩)),(75,.int .i64 x168),(76,.pointer (some ⟨bq8,0,none⟩)),(77,.pointer (some ⟨bq8,0,none⟩)),(78,.pointer (some ⟨bq8,4,none⟩)),(79,.int .i64 x147),(80,.int .i64 x170),(81,.bool (!decide (x168 = x170))),(84,undef),(85,undef),(86,undef),(87,undef),(88,undef),(89,undef),(90,undef),(92,.bool true),(93,undef),(94,undef),(95,undef),(96,undef),(97,undef)] (by kernel_rfl) fun fr => ?_
            refine x_e rfl ?_
            refine r_T rfl ?_
            refine r_done ⟨rfl,k_a (le_w [false,false,true,true,true]) (le_w [false,false,true,true,true]),?_⟩
            refine x_p rfl ?_
            refine v_T rfl ?_
            refine v_done ?_
            refine x_p rfl ?_
            refine v_T rfl ?_
            refine v_done ?_
            refine x_k [(3,.pointer (some ⟨bq1,0,none⟩)),(7,.pointer (some ⟨bq7,0,none⟩)),(8,.pointer (some ⟨bq8,0,none⟩)),(45,.slice A22 xs20.length c23),(46,.int .i64 (xs20.length : Int)),(47,.int .i64 x133),(65,.pointer (some ⟨bq7,0,none⟩)),(66,.int .i64 (migrate_Migration_Phase ({ y134 with phase := x142,earliest := x143,closed := x144 }))),(67,.pointer (some ⟨bq8,0,none⟩)),(68,.pointer (some ⟨bq8,0,none⟩)),(69,.pointer (some ⟨bq8,4,none⟩)),(70,.int .i64 x147),(71,.bool (!decide ((migrate_Migration_Phase ({ y134 with phase := x142,earliest := x143,closed := x144 })) = x147))),(74,.pointer (some ⟨bq7,0,none⟩)),(75,.int .i64 x168),(76,.pointer (some ⟨bq8,0,none⟩)),(77,.pointer (some ⟨bq8,0,none⟩)),(78,.pointer (some ⟨bq8,4,none⟩)),(79,.int .i64 x147),(80,.int .i64 x170),(81,.bool (!decide (x168 = x170))),(100,.bool true)] (by kernel_rfl) fun fr => ?_
            refine r_le ((le_mv 4).trans ((le_mv 4).trans ((le_mv 2).trans ((le_mv 3).trans (le_w [true,true,true,true,false]))))) ?_
            exact r_done ⟨true,{ y134 with phase := x142,earliest := x143,closed := x144 },{ y135 with Phase := x147,Earliest := x148,Closed := x149 },_,h,fr_eq _ (by kernel_rfl),(by kernel_rfl)⟩
           ·refine r_T rfl ?_
            refine r_done ⟨rfl,k_a (le_w [false,false,true,true,true]) (le_w [false,false,true,true,true]),?_⟩
            refine x_e rfl ?_
            refine r_T rfl ?_
            refine r_done ⟨rfl,k_a (le_w [false,false,true,true,true]) (le_w [false,false,true,true,true]),?_⟩
            refine x_p rfl ?_
            refine v_T rfl ?_
            refine v_done ?_
            refine x_p rfl ?_
            refine v_T rfl ?_
            refine v_done ?_
            refine x_k [(3,.pointer (some ⟨bq1,0,none⟩)),(7,.pointer (some ⟨bq7,0,none⟩)),(8,.pointer (some ⟨bq8,0,none⟩)),(45,.slice A22 xs20.length c23),(46,.int .i64 (xs20.length : Int)),(47,.int .i64 x133),(65,.pointer (some ⟨bq7,0,none⟩)),(66,.int .i64 (migrate_Migration_Phase ({ y134 with phase := x142,earliest := x143,closed := x144 }))),(67,.pointer (some ⟨bq8,0,none⟩)),(68,.pointer (some ⟨bq8,0,none⟩)),(69,.pointer (some ⟨bq8,4,none⟩)),(70,.int .i64 x147),(71,.bool (!decide ((migrate_Migration_Phase ({ y134 with phase := x142,earliest := x143,closed := x144 })) = x147))),(74,.pointer (some ⟨bq7,0,none⟩)),(75,.int .i64 x168),(76,.pointer (some ⟨bq8,0,none⟩)),(77,.pointer (some ⟨bq8,0,none⟩)),(78,.pointer (some ⟨bq8,4,none⟩)),(79,.int .i64 x147),(80,.int .i64 x170),(81,.bool (!decide (x168 = x170))),(100,.bool true)] (by kernel_rfl) fun fr => ?_
            refine r_le ((le_mv 4).trans ((le_mv 4).trans ((le_mv 2).trans ((le_mv 3).trans (le_w [true,true,true,true,false]))))) ?_
            exact r_done ⟨true,{ y134 with phase := x142,earliest := x143,closed := x144 },{ y135 with Phase := x147,Earliest := x148,Closed := x149 },_,h,fr_eq _ (by kernel_rfl),(by kernel_rfl)⟩
         ·replace h := h_f h hb171
          clear hb171
          refine v_done ?_
          refine x_p rfl ?_
          refine v_F rfl ?_
          refine v_done ?_
          refine x_p rfl ?_
          refine v_F rfl ?_
          refine v_done ?_
          refine x_p rfl ?_
          refine v_F rfl ?_
          refine v_done ?_
          refine x_2 rfl rfl ?_ ?_
          ·refine r_F rfl ?_
           refine r_call (hc_19 (bm0 := bq7) (m0 := { y134 with phase := x142,earliest := x143,closed := x144 })) ?_
           rintro _ _ ⟨rfl,rfl⟩
           refine r_done ⟨rfl,k_a (le_w [false,false,true,true,true]) (le_w [false,false,true,true,true]),?_⟩
           refine x_e rfl ?_
           refine r_F rfl ?_
           refine r_ld 1 tt_ok (v := .bool x149) ts_4 rfl (by kernel_rfl) ?_
           refine r_done ⟨rfl,k_a (le_w [false,false,true,true,true]) (le_w [false,false,true,true,true]),?_⟩
           refine x_p rfl ?_
           refine v_F rfl ?_
           refine v_op (fun w => ex_neb tt_ok rfl rfl rfl rfl w) ?_
           refine v_done ?_
           refine x_p rfl ?_
           refine v_done ?_
           refine x_kp [(3,.pointer (some ⟨bq1,0,none⟩)),(7,.pointer (some ⟨bq7,0,none⟩)),(8,.pointer (some ⟨bq8,0,none⟩)),(45,.slice A22 xs20.length c23),(46,.int .i64 (xs20.length : Int)),(47,.int .i64 x133),(65,.pointer (some ⟨bq7,0,none⟩)),(66,.int .i64 (migrate_Migration_Phase ({ y134 with phase := x142,earliest := x143,closed := x144 }))),(67,.pointer (some ⟨bq8,0,none⟩)),(68,.pointer (some ⟨bq8,0,none⟩)),(69,.pointer (some ⟨bq8,4,none⟩)),(70,.int .i64 x147),(71,.bool (!decide ((migrate_Migration_Phase ({ y134 with phase := x142,earliest := x143,closed := x144 })) = x147))),(74,.pointer (some ⟨bq7,0,none⟩)),(75,.int .i64 x168),(76,.pointer (some ⟨bq8,0,none⟩)),(77,.pointer (some ⟨bq8,0,none⟩)),(78,.pointer (some ⟨bq8,4,none⟩)),(79,.int .i64 x147),(80,.int .i64 x170),(81,.bool (!decide (x168 = x170))),(84,.pointer (some ⟨bq7,0,none⟩)),(85,.bool (migrate_Migration_Closed ({ y134 with phase := x142,earliest := x143,closed := x144 }))),(86,.pointer (some ⟨bq8,0,none⟩)),(87,.pointer (some ⟨bq8,0,none⟩)),(88,.pointer (some ⟨bq8,6,none⟩)),(89,.bool x149),(90,.bool (!((migrate_Migration_Closed ({ y134 with phase := x142,earliest := x143,closed := x144 })) == x149))),(91,.bool (!((migrate_Migration_Closed ({ y134 with phase := x142,earliest := x143,closed := x144 })) == x149)))] (by kernel_rfl) fun fr => ?_
           refine x_p rfl ?_
           refine v_done ?_
           refine x_p rfl ?_
           refine v_ite (fun (hb172 : (!((migrate_Migration_Closed ({ y134 with phase := x142,earliest := x143,closed := x144 })) == x149)) = true) => ?_) (fun (hb172 : (!((migrate_Migration_Closed ({ y134 with phase := x142,earliest := x143,closed := x144 })) == x149)) = false) => ?_)
           ·replace h := h_t h hb172
            clear hb172
            refine v_done ?_
            refine x_p rfl ?_
            refine v_T rfl ?_
            refine v_done ?_
            refine x_p rfl ?_
            refine v_T rfl ?_
            refine v_done ?_
            refine x_p rfl ?_
            refine v_T rfl ?_
            refine v_done ?_
            refine x_2 rfl rfl ?_ ?_
            ·refine r_T rfl ?_
             refine r_done ⟨rfl,k_a (le_w [false,false,true,true,true]) (le_w [false,false,true,true,true]),?_⟩
             refine x_e rfl ?_
             refine r_T rfl ?_
             refine r_done ⟨rfl,k_a (le_w [false,false,true,true,true]) (le_w [false,false,true,true,true]),?_⟩
             refine x_p rfl ?_
             refine v_T rfl ?_
             refine v_done ?_
             refine x_p rfl ?_
             refine v_T rfl ?_
             refine v_done ?_
             refine x_k [(3,.pointer (some ⟨bq1,0,none⟩)),(7,.pointer (some ⟨bq7,0,none⟩)),(8,.pointer (some ⟨bq8,0,none⟩)),(45,.slice A22 xs20.length c23),(46,.int .i64 (xs20.length : Int)),(47,.int .i64 x133),(65,.pointer (some ⟨bq7,0,none⟩)),(66,.int .i64 (migrate_Migration_Phase ({ y134 with phase := x142,earliest := x143,closed := x144 }))),(67,.pointer (some ⟨bq8,0,none⟩)),(68,.pointer (some ⟨bq8,0,none⟩)),(69,.pointer (some ⟨bq8,4,none⟩)),(70,.int .i64 x147),(71,.bool (!decide ((migrate_Migration_Phase ({ y134 with phase := x142,earliest := x143,closed := x144 })) = x147))),(74,.pointer (some ⟨bq7,0,none⟩)),(75,.int .i64 x168),(76,.pointer (some ⟨bq8,0,none⟩)),(77,.pointer (some ⟨bq8,0,none⟩)),(78,.pointer (some ⟨bq8,4,none⟩)),(79,.int .i64 x147),(80,.int .i64 x170),(81,.bool (!decide (x168 = x170))),(84,.pointer (some ⟨bq7,0,none⟩)),(85,.bool (migrate_Migration_Closed ({ y134 with phase := x142,earliest := x143,closed := x144 }))),(86,.pointer (some ⟨bq8,0,none⟩)),(87,.pointer (some ⟨bq8,0,none⟩)),(88,.pointer (some ⟨bq8,6,none⟩)),(89,.bool x149),(90,.bool (!((migrate_Migration_Closed ({ y134 with phase := x142,earliest := x143,closed := x144 })) == x149))),(100,.bool true)] (by kernel_rfl) fun fr => ?_
             refine r_le ((le_mv 4).trans ((le_mv 4).trans ((le_mv 2).trans ((le_mv 3).trans (le_w [true,true,true,true,false]))))) ?_
             exact r_done ⟨true,{ y134 with phase := x142,earliest := x143,closed := x144 },{ y135 with Phase := x147,Earliest := x148,Closed := x149 },_,h,fr_eq _ (by kernel_rfl),(by kernel_rfl)⟩
            ·refine r_T rfl ?_
             refine r_done ⟨rfl,k_a (le_w [false,false,true,true,true]) (le_w [false,false,true,true,true]),?_⟩
             refine x_e rfl ?_
             refine r_T rfl ?_
             refine r_done ⟨rfl,k_a (le_w [false,false,true,true,true]) (le_w [false,false,true,true,true]),?_⟩
             refine x_p rfl ?_
             refine v_T rfl ?_
             refine v_done ?_
             refine x_p rfl ?_
             refine v_T rfl ?_
             refine v_done ?_
             refine x_k [(3,.pointer (some ⟨bq1,0,none⟩)),(7,.pointer (some ⟨bq7,0,none⟩)),(8,.pointer (some ⟨bq8,0,none⟩)),(45,.slice A22 xs20.length c23),(46,.int .i64 (xs20.length : Int)),(47,.int .i64 x133),(65,.pointer (some ⟨bq7,0,none⟩)),(66,.int .i64 (migrate_Migration_Phase ({ y134 with phase := x142,earliest := x143,closed := x144 }))),(67,.pointer (some ⟨bq8,0,none⟩)),(68,.pointer (some ⟨bq8,0,none⟩)),(69,.pointer (some ⟨bq8,4,none⟩)),(70,.int .i64 x147),(71,.bool (!decide ((migrate_Migration_Phase ({ y134 with phase := x142,earliest := x143,closed := x144 })) = x147))),(74,.pointer (some ⟨bq7,0,none⟩)),(75,.int .i64 x168),(76,.pointer (some ⟨bq8,0,none⟩)),(77,.pointer (some ⟨bq8,0,none⟩)),(78,.pointer (some ⟨bq8,4,none⟩)),(79,.int .i64 x147),(80,.int .i64 x170),(81,.bool (!decide (x168 = x170))),(84,.pointer (some ⟨bq7,0,none⟩)),(85,.bool (migrate_Migration_Closed ({ y134 with phase := x142,earliest := x143,closed := x144 }))),(86,.pointer (some ⟨bq8,0,none⟩)),(87,.pointer (some ⟨bq8,0,none⟩)),(88,.pointer (some ⟨bq8,6,none⟩)),(89,.bool x149),(90,.bool (!((migrate_Migration_Closed ({ y134 with phase := x142,earliest := x143,closed := x144 })) == x149))),(100,.bool true)] (by kernel_rfl) fun fr => ?_
             refine r_le ((le_mv 4).trans ((le_mv 4).trans ((le_mv 2).trans ((le_mv 3).trans (le_w [true,true,true,true,false]))))) ?_
             exact r_done ⟨true,{ y134 with phase := x142,earliest := x143,closed := x144 },{ y135 with Phase := x147,Earliest := x148,Closed := x149 },_,h,fr_eq _ (by kernel_rfl),(by kernel_rfl)⟩
           ·replace h := h_f h hb172
            clear hb172
            refine v_done ?_
            refine x_p rfl ?_
            refine v_F rfl ?_
            refine v_done ?_
            refine x_p rfl ?_
            refine v_F rfl ?_
            refine v_done ?_
            refine x_p rfl ?_
            refine v_F rfl ?_
            refine v_done ?_
            refine x_2 rfl rfl ?_ ?_
            ·refine r_F rfl ?_
             refine r_call (hc_25 (bm0 := bq7) (m0 := { y134 with phase := x142,earliest := x143,closed := x144 })) ?_
             rintro _ _ ⟨rfl,rfl⟩
             refine r_done ⟨rfl,k_a (le_w [false,false,true,true,true]) (le_w [false,false,true,true,true]),?_⟩
             refine x_e rfl ?_
             refine r_F rfl ?_
             refine r_ld 1 tt_ok (v := .int .i64 x148) ts_3 rfl (by kernel_rfl) ?_
             refine r_done ⟨rfl,k_a (le_w [false,false,true,true,true]) (le_w [false,false,true,true,true]),?_⟩
             refine x_p rfl ?_
             refine v_F rfl ?_
             refine v_done ?_
             refine x_p rfl ?_
             refine v_done ?_
             refine x_k [(3,.pointer (some ⟨bq1,0,none⟩)),(7,.pointer (some ⟨bq7,0,none⟩)),(8,.pointer (some ⟨bq8,0,none⟩)),(45,.slice A22 xs20.length c23),(46,.int .i64 (xs20.length : Int)),(47,.int .i64 x133),(65,.pointer (some ⟨bq7,0,none⟩)),(66,.int .i64 (migrate_Migration_Phase ({ y134 with phase := x142,earliest := x143,closed := x144 }))),(67,.pointer (some ⟨bq8,0,none⟩)),(68,.pointer (some ⟨bq8,0,none⟩)),(69,.pointer (some ⟨bq8,4,none⟩)),(70,.int .i64 x147),(71,.bool (!decide ((migrate_Migration_Phase ({ y134 with phase := x142,earliest := x143,closed := x144 })) = x147))),(74,.pointer (some ⟨bq7,0,none⟩)),(75,.int .i64 x168),(76,.pointer (some ⟨bq8,0,none⟩)),(77,.pointer (some ⟨bq8,0,none⟩)),(78,.pointer (some ⟨bq8,4,none⟩)),(79,.int .i64 x147),(80,.int .i64 x170),(81,.bool (!decide (x168 = x170))),(84,.pointer (some ⟨bq7,0,none⟩)),(85,.bool (migrate_Migration_Closed ({ y134 with phase := x142,earliest := x143,closed := x144 }))),(86,.pointer (some ⟨bq8,0,none⟩)),(87,.pointer (some ⟨bq8,0,none⟩)),(88,.pointer (some ⟨bq8,6,none⟩)),(89,.bool x149),(90,.bool (!((migrate_Migration_Closed ({ y134 with phase := x142,earliest := x143,closed := x144 })) == x149))),(93,.pointer (some ⟨bq7,0,none⟩)),(94,.int .i64 (migrate_Migration_Earliest ({ y134 with phase := x142,earliest := x143,closed := x144 }))),(95,.pointer (some ⟨bq8,0,none⟩)),(96,.pointer (some ⟨bq8,0,none⟩)),(97,.pointer (some ⟨bq8,5,none⟩)),(98,.int .i64 x148),(99,.bool (!decide ((migrate_Migration_Earliest ({ y134 with phase := x142,earliest := x143,closed := x144 })) = x148))),(100,.bool (!decide ((migrate_Migration_Earliest ({ y134 with phase := x142,earliest := x143,closed := x144 })) = x148)))] (by kernel_rfl) fun fr => ?_
             refine r_le ((le_mv 4).trans ((le_mv 4).trans ((le_mv 2).trans ((le_mv 3).trans (le_w [true,true,true,true,false]))))) ?_
             exact r_done ⟨!decide ((migrate_Migration_Earliest ({ y134 with phase := x142,earliest := x143,closed := x144 })) = x148),{ y134 with phase := x142,earliest := x143,closed := x144 },{ y135 with Phase := x147,Earliest := x148,Closed := x149 },_,h,fr_eq _ (by kernel_rfl),(by kernel_rfl)⟩
            ·refine r_F rfl ?_
             refine r_ld 1 tt_ok (v := .int .i64 x148) ts_3 rfl (by kernel_rfl) ?_
             refine r_done ⟨rfl,k_a (le_w [false,false,true,true,true]) (le_w [false,false,true,true,true]),?_⟩
             refine x_e rfl ?_
             refine r_F rfl ?_
             refine r_call (hc_25 (bm0 := bq7) (m0 := { y134 with phase := x142,earliest := x143,closed := x144 })) ?_
             rintro _ _ ⟨rfl,rfl⟩
             refine r_done ⟨rfl,k_a (le_w [false,false,true,true,true]) (le_w [false,false,true,true,true]),?_⟩
             refine x_p rfl ?_
             refine v_F rfl ?_
             refine v_done ?_
             refine x_p rfl ?_
             refine v_done ?_
             refine x_k [(3,.pointer (some ⟨bq1,0,none⟩)),(7,.pointer (some ⟨bq7,0,none⟩)),(8,.pointer (some ⟨bq8,0,none⟩)),(45,.slice A22 xs20.length c23),(46,.int .i64 (xs20.length : Int)),(47,.int .i64 x133),(65,.pointer (some ⟨bq7,0,none⟩)),(66,.int .i64 (migrate_Migration_Phase ({ y134 with phase := x142,earliest := x143,closed := x144 }))),(67,.pointer (some ⟨bq8,0,none⟩)),(68,.pointer (some ⟨bq8,0,none⟩)),(69,.pointer (some ⟨bq8,4,none⟩)),(70,.int .i64 x147),(71,.bool (!decide ((migrate_Migration_Phase ({ y134 with phase := x142,earliest := x143,closed := x144 })) = x147))),(74,.pointer (some ⟨bq7,0,none⟩)),(75,.int .i64 x168),(76,.pointer (some ⟨bq8,0,none⟩)),(77,.pointer (some ⟨bq8,0,none⟩)),(78,.pointer (some ⟨bq8,4,none⟩)),(79,.int .i64 x147),(80,.int .i64 x170),(81,.bool (!decide (x168 = x170))),(84,.pointer (some ⟨bq7,0,none⟩)),(85,.bool (migrate_Migration_Closed ({ y134 with phase := x142,earliest := x143,closed := x144 }))),(86,.pointer (some ⟨bq8,0,none⟩)),(87,.pointer (some ⟨bq8,0,none⟩)),(88,.pointer (some ⟨bq8,6,none⟩)),(89,.bool x149),(90,.bool (!((migrate_Migration_Closed ({ y134 with phase := x142,earliest := x143,closed := x144 })) == x149))),(93,.pointer (some ⟨bq7,0,none⟩)),(94,.int .i64 (migrate_Migration_Earliest ({ y134 with phase := x142,earliest := x143,closed := x144 }))),(95,.pointer (some ⟨bq8,0,none⟩)),(96,.pointer (some ⟨bq8,0,none⟩)),(97,.pointer (some ⟨bq8,5,none⟩)),(98,.int .i64 x148),(99,.bool (!decide ((migrate_Migration_Earliest ({ y134 with phase := x142,earliest := x143,closed := x144 })) = x148))),(100,.bool (!decide ((migrate_Migration_Earliest ({ y134 with phase := x142,earliest := x143,closed := x144 })) = x148)))] (by kernel_rfl) fun fr => ?_
             refine r_le ((le_mv 4).trans ((le_mv 4).trans ((le_mv 2).trans ((le_mv 3).trans (le_w [true,true,true,true,false]))))) ?_
             exact r_done ⟨!decide ((migrate_Migration_Earliest ({ y134 with phase := x142,earliest := x143,closed := x144 })) = x148),{ y134 with phase := x142,earliest := x143,closed := x144 },{ y135 with Phase := x147,Earliest := x148,Closed := x149 },_,h,fr_eq _ (by kernel_rfl),(by kernel_rfl)⟩
          ·refine r_F rfl ?_
           refine r_ld 1 tt_ok (v := .bool x149) ts_4 rfl (by kernel_rfl) ?_
           refine r_done ⟨rfl,k_a (le_w [false,false,true,true,true]) (le_w [false,false,true,true,true]),?_⟩
           refine x_e rfl ?_
           refine r_F rfl ?_
           refine r_call (hc_19 (bm0 := bq7) (m0 := { y134 with phase := x142,earliest := x143,closed := x144 })) ?_
           rintro _ _ ⟨rfl,rfl⟩
           refine r_done ⟨rfl,k_a (le_w [false,false,true,true,true]) (le_w [false,false,true,true,true]),?_⟩
           refine x_p rfl ?_
           refine v_F rfl ?_
           refine v_op (fun w => ex_neb tt_ok rfl rfl rfl rfl w) ?_
           refine v_done ?_
           refine x_p rfl ?_
           refine v_done ?_
           refine x_p rfl ?_
           refine v_done ?_
           refine x_p rfl ?_
           refine v_ite (fun (hb173 : (!((migrate_Migration_Closed ({ y134 with phase := x142,earliest := x143,closed := x144 })) == x149)) = true) => ?_) (fun (hb173 : (!((migrate_Migration_Closed ({ y134 with phase := x142,earliest := x143,closed := x144 })) == x149)) = false) => ?_)
           ·replace h := h_t h hb173
            clear hb173
            refine v_done ?_
            refine x_p rfl ?_
            refine v_T rfl ?_
            refine v_done ?_
            refine x_p rfl ?_
            refine v_T rfl ?_
            refine v_done ?_
            refine x_kp [(3,.pointer (some ⟨bq1,0,none⟩)),(7,.pointer (some ⟨bq7,0,none⟩)),(8,.pointer (some ⟨bq8,0,none⟩)),(45,.slice A22 xs20.length c23),(46,.int .i64 (xs20.length : Int)),(47,.int .i64 x133),(65,.pointer (some ⟨bq7,0,none⟩)),(66,.int .i64 (migrate_Migration_Phase ({ y134 with phase := x142,earliest := x143,closed := x144 }))),(67,.pointer (some ⟨bq8,0,none⟩)),(68,.pointer (some ⟨bq8,0,none⟩)),(69,.pointer (some ⟨bq8,4,none⟩)),(70,.int .i64 x147),(71,.bool (!decide ((migrate_Migration_Phase ({ y134 with phase := x142,earliest := x143,closed := x144 })) = x147))),(74,.pointer (some ⟨bq7,0,none⟩)),(75,.int .i64 x168),(76,.pointer (some ⟨bq8,0,none⟩)),(77,.pointer (some ⟨bq8,0,none⟩)),(78,.pointer (some ⟨bq8,4,none⟩)),(79,.int .i64 x147),(80,.int .i64 x170),(81,.bool (!decide (x168 = x170))),(84,.pointer (some ⟨bq7,0,none⟩)),(85,.bool (migrate_Migration_Closed ({ y134 with phase := x142,earliest := x143,closed := x144 }))),(86,.pointer (some ⟨bq8,0,none⟩)),(87,.pointer (some ⟨bq8,0,none⟩)),(88,.pointer (some ⟨bq8,6,none⟩)),(89,.bool x149),(90,.bool (!((migrate_Migration_Closed ({ y134 with phase := x142,earliest := x143,closed := x144 })) == x149))),(92,.bool true),(93,undef),(95,undef),(96,undef)] (by kernel_rfl) fun fr => ?_
            refine x_p rfl ?_
            refine v_T rfl ?_
            refine v_done ?_
            refine x_2 rfl rfl ?_ ?_
            ·refine r_T rfl ?_
             refine r_done ⟨rfl,k_a (le_w [false,false,true,true,true]) (le_w [false,false,true,true,true]),?_⟩
             refine x_e rfl ?_
             refine r_T rfl ?_
             refine r_done ⟨rfl,k_a (le_w [false,false,true,true,true]) (le_w [false,false,true,true,true]),?_⟩
             refine x_p rfl ?_
             refine v_T rfl ?_
             refine v_done ?_
             refine x_p rfl ?_
             refine v_T rfl ?_
             refine v_done ?_
             refine x_k [(3,.pointer (some ⟨bq1,0,none⟩)),(7,.pointer (some ⟨bq7,0,none⟩)),(8,.pointer (some ⟨bq8,0,none⟩)),(45,.slice A22 xs20.length c23),(46,.int .i64 (xs20.length : Int)),(47,.int .i64 x133),(65,.pointer (some ⟨bq7,0,none⟩)),(66,.int .i64 (migrate_Migration_Phase ({ y134 with phase := x142,earliest := x143,closed := x144 }))),(67,.pointer (some ⟨bq8,0,none⟩)),(68,.pointer (some ⟨bq8,0,none⟩)),(69,.pointer (some ⟨bq8,4,none⟩)),(70,.int .i64 x147),(71,.bool (!decide ((migrate_Migration_Phase ({ y134 with phase := x142,earliest := x143,closed := x144 })) = x147))),(74,.pointer (some ⟨bq7,0,none⟩)),(75,.int .i64 x168),(76,.pointer (some ⟨bq8,0,none⟩)),(77,.pointer (some ⟨bq8,0,none⟩)),(78,.pointer (some ⟨bq8,4,none⟩)),(79,.int .i64 x147),(80,.int .i64 x170),(81,.bool (!decide (x168 = x170))),(84,.pointer (some ⟨bq7,0,none⟩)),(85,.bool (migrate_Migration_Closed ({ y134 with phase := x142,earliest := x143,closed := x144 }))),(86,.pointer (some ⟨bq8,0,none⟩)),(87,.pointer (some ⟨bq8,0,none⟩)),(88,.pointer (some ⟨bq8,6,none⟩)),(89,.bool x149),(90,.bool (!((migrate_Migration_Closed ({ y134 with phase := x142,earliest := x143,closed := x144 })) == x149))),(100,.bool true)] (by kernel_rfl) fun fr => ?_
             refine r_le ((le_mv 4).trans ((le_mv 4).trans ((le_mv 2).trans ((le_mv 3).trans (le_w [true,true,true,true,false]))))) ?_
             exact r_done ⟨true,{ y134 with phase := x142,earliest := x143,closed := x144 },{ y135 with Phase := x147,Earliest := x148,Closed := x149 },_,h,fr_eq _ (by kernel_rfl),(by kernel_rfl)⟩
            ·refine r_T rfl ?_
             refine r_done ⟨rfl,k_a (le_w [false,false,true,true,true]) (le_w [false,false,true,true,true]),?_⟩
             refine x_e rfl ?_
             refine r_T rfl ?_
             refine r_done ⟨rfl,k_a (le_w [false,false,true,true,true]) (le_w [false,false,true,true,true]),?_⟩
             refine x_p rfl ?_
             refine v_T rfl ?_
             refine v_done ?_
             refine x_p rfl ?_
             refine v_T rfl ?_
             refine v_done ?_
             refine x_k [(3,.pointer (some ⟨bq1,0,none⟩)),(7,.pointer (some ⟨bq7,0,none⟩)),(8,.pointer (some ⟨bq8,0,none⟩)),(45,.slice A22 xs20.length c23),(46,.int .i64 (xs20.length : Int)),(47,.int .i64 x133),(65,.pointer (some ⟨bq7,0,none⟩)),(66,.int .i64 (migrate_Migration_Phase ({ y134 with phase := x142,earliest := x143,closed := x144 }))),(67,.pointer (some ⟨bq8,0,none⟩)),(68,.pointer (some ⟨bq8,0,none⟩)),(69,.pointer (some ⟨bq8,4,none⟩)),(70,.int .i64 x147),(71,.bool (!decide ((migrate_Migration_Phase ({ y134 with phase := x142,earliest := x143,closed := x144 })) = x147))),(74,.pointer (some ⟨bq7,0,none⟩)),(75,.int .i64 x168),(76,.pointer (some ⟨bq8,0,none⟩)),(77,.pointer (some ⟨bq8,0,none⟩)),(78,.pointer (some ⟨bq8,4,none⟩)),(79,.int .i64 x147),(80,.int .i64 x170),(81,.bool (!decide (x168 = x170))),(84,.pointer (some ⟨bq7,0,none⟩)),(85,.bool (migrate_Migration_Closed ({ y134 with phase := x142,earliest := x143,closed := x144 }))),(86,.pointer (some ⟨bq8,0,none⟩)),(87,.pointer (some ⟨bq8,0,none⟩)),(88,.pointer (some ⟨bq8,6,none⟩)),(89,.bool x149),(90,.bool (!((migrate_Migration_Closed ({ y134 with phase := x142,earliest := x143,closed := x144 })) == x149))),(100,.bool true)] (by kernel_rfl) fun fr => ?_
             refine r_le ((le_mv 4).trans ((le_mv 4).trans ((le_mv 2).trans ((le_mv 3).trans (le_w [true,true,true,true,false]))))) ?_
             exact r_done ⟨true,{ y134 with phase := x142,earliest := x143,closed := x144 },{ y135 with Phase := x147,Earliest := x148,Closed := x149 },_,h,fr_eq _ (by kernel_rfl),(by kernel_rfl)⟩
           ·replace h := h_f h hb173
            clear hb173
            refine v_done ?_
            refine x_p rfl ?_
            refine v_F rfl ?_
            refine v_done ?_
            refine x_p rfl ?_
            refine v_F rfl ?_
            refine v_done ?_
            refine x_kp [(3,.pointer (some ⟨bq1,0,none⟩)),(7,.pointer (some ⟨bq7,0,none⟩)),(8,.pointer (some ⟨bq8,0,none⟩)),(45,.slice A22 xs20.length c23),(46,.int .i64 (xs20.length : Int)),(47,.int .i64 x133),(65,.pointer (some ⟨bq7,0,none⟩)),(66,.int .i64 (migrate_Migration_Phase ({ y134 with phase := x142,earliest := x143,closed := x144 }))),(67,.pointer (some ⟨bq8,0,none⟩)),(68,.pointer (some ⟨bq8,0,none⟩)),(69,.pointer (some ⟨bq8,4,none⟩)),(70,.int .i64 x147),(71,.bool (!decide ((migrate_Migration_Phase ({ y134 with phase := x142,earliest := x143,closed := x144 })) = x147))),(74,.pointer (some ⟨bq7,0,none⟩)),(75,.int .i64 x168),(76,.pointer (some ⟨bq8,0,none⟩)),(77,.pointer (some ⟨bq8,0,none⟩)),(78,.pointer (some ⟨bq8,4,none⟩)),(79,.int .i64 x147),(80,.int .i64 x170),(81,.bool (!decide (x168 = x170))),(84,.pointer (some ⟨bq7,0,none⟩)),(85,.bool (migrate_Migration_Closed ({ y134 with phase := x142,earliest := x143,closed := x144 }))),(86,.pointer (some ⟨bq8,0,none⟩)),(87,.pointer (some ⟨bq8,0,none⟩)),(88,.pointer (some ⟨bq8,6,none⟩)),(89,.bool x149),(90,.bool (!((migrate_Migration_Closed ({ y134 with phase := x142,earliest := x143,closed := x144 })) == x149))),(92,.bool false),(93,.pointer (some ⟨bq7,0,none⟩)),(95,.pointer (some ⟨bq8,0,none⟩)),(96,.pointer (some ⟨bq8,0,none⟩))] (by kernel_rfl) fun fr => ?_
            refine x_p rfl ?_
            refine v_F rfl ?_
            refine v_done ?_
            refine x_2 rfl rfl ?_ ?_
            ·refine r_F rfl ?_
             refine r_call (hc_25 (bm0 := bq7) (m0 := { y134 with phase := x142,earliest := x143,closed := x144 })) ?_
             rintro _ _ ⟨rfl,rfl⟩
             refine r_done ⟨rfl,k_a (le_w [false,false,true,true,true]) (le_w [false,false,true,true,true]),?_⟩
             refine x_e rfl ?_
             refine r_F rfl ?_
             refine r_ld 1 tt_ok (v := .int .i64 x148) ts_3 rfl (by kernel_rfl) ?_
             refine r_done ⟨rfl,k_a (le_w [false,false,true,true,true]) (le_w [false,false,true,true,true]),?_⟩
             refine x_p rfl ?_
             refine v_F rfl ?_
             refine v_done ?_
             refine x_p rfl ?_
             refine v_done ?_
             refine x_k [(3,.pointer (some ⟨bq1,0,none⟩)),(7,.pointer (some ⟨bq7,0,none⟩)),(8,.pointer (some ⟨bq8,0,none⟩)),(45,.slice A22 xs20.length c23),(46,.int .i64 (xs20.length : Int)),(47,.int .i64 x133),(65,.pointer (some ⟨bq7,0,none⟩)),(66,.int .i64 (migrate_Migration_Phase ({ y134 with phase := x142,earliest := x143,closed := x144 }))),(67,.pointer (some ⟨bq8,0,none⟩)),(68,.pointer (some ⟨bq8,0,none⟩)),(69,.pointer (some ⟨bq8,4,none⟩)),(70,.int .i64 x147),(71,.bool (!decide ((migrate_Migration_Phase ({ y134 with phase := x142,earliest := x143,closed := x144 })) = x147))),(74,.pointer (some ⟨bq7,0,none⟩)),(75,.int .i64 x168),(76,.pointer (some ⟨bq8,0,none⟩)),(77,.pointer (some ⟨bq8,0,none⟩)),(78,.pointer (some ⟨bq8,4,none⟩)),(79,.int .i64 x147),(80,.int .i64 x170),(81,.bool (!decide (x168 = x170))),(84,.pointer (some ⟨bq7,0,none⟩)),(85,.bool (migrate_Migration_Closed ({ y134 with phase := x142,earliest := x143,closed := x144 }))),(86,.pointer (some ⟨bq8,0,none⟩)),(87,.pointer (some ⟨bq8,0,none⟩)),(88,.pointer (some ⟨bq8,6,none⟩)),(89,.bool x149),(90,.bool (!((migrate_Migration_Closed ({ y134 with phase := x142,earliest := x143,closed := x144 })) == x149))),(93,.pointer (some ⟨bq7,0,none⟩)),(94,.int .i64 (migrate_Migration_Earliest ({ y134 with phase := x142,earliest := x143,closed := x144 }))),(95,.pointer (some ⟨bq8,0,none⟩)),(96,.pointer (some ⟨bq8,0,none⟩)),(97,.pointer (some ⟨bq8,5,none⟩)),(98,.int .i64 x148),(99,.bool (!decide ((migrate_Migration_Earliest ({ y134 with phase := x142,earliest := x143,closed := x144 })) = x148))),(100,.bool (!decide ((migrate_Migration_Earliest ({ y134 with phase := x142,earliest := x143,closed := x144 })) = x148)))] (by kernel_rfl) fun fr => ?_
             refine r_le ((le_mv 4).trans ((le_mv 4).trans ((le_mv 2).trans ((le_mv 3).trans (le_w [true,true,true,true,false]))))) ?_
             exact r_done ⟨!decide ((migrate_Migration_Earliest ({ y134 with phase := x142,earliest := x143,closed := x144 })) = x148),{ y134 with phase := x142,earliest := x143,closed := x144 },{ y135 with Phase := x147,Earliest := x148,Closed := x149 },_,h,fr_eq _ (by kernel_rfl),(by kernel_rfl)⟩
            ·refine r_F rfl ?_
             refine r_ld 1 tt_ok (v := .int .i64 x148) ts_3 rfl (by kernel_rfl) ?_
             refine r_done ⟨rfl,k_a (le_w [false,false,true,true,true]) (le_w [false,false,true,true,true]),?_⟩
             refine x_e rfl ?_
             refine r_F rfl ?_
             refine r_call (hc_25 (bm0 := bq7) (m0 := { y134 with phase := x142,earliest := x143,closed := x144 })) ?_
             rintro _ _ ⟨rfl,rfl⟩
             refine r_done ⟨rfl,k_a (le_w [false,false,true,true,true]) (le_w [false,false,true,true,true]),?_⟩
             refine x_p rfl ?_
             refine v_F rfl ?_
             refine v_done ?_
             refine x_p rfl ?_
             refine v_done ?_
             refine x_k [(3,.pointer (some ⟨bq1,0,none⟩)),(7,.pointer (some ⟨bq7,0,none⟩)),(8,.pointer (some ⟨bq8,0,none⟩)),(45,.slice A22 xs20.length c23),(46,.int .i64 (xs20.length : Int)),(47,.int .i64 x133),(65,.pointer (some ⟨bq7,0,none⟩)),(66,.int .i64 (migrate_Migration_Phase ({ y134 with phase := x142,earliest := x143,closed := x144 }))),(67,.pointer (some ⟨bq8,0,none⟩)),(68,.pointer (some ⟨bq8,0,none⟩)),(69,.pointer (some ⟨bq8,4,none⟩)),(70,.int .i64 x147),(71,.bool (!decide ((migrate_Migration_Phase ({ y134 with phase := x142,earliest := x143,closed := x144 })) = x147))),(74,.pointer (some ⟨bq7,0,none⟩)),(75,.int .i64 x168),(76,.pointer (some ⟨bq8,0,none⟩)),(77,.pointer (some ⟨bq8,0,none⟩)),(78,.pointer (some ⟨bq8,4,none⟩)),(79,.int .i64 x147),(80,.int .i64 x170),(81,.bool (!decide (x168 = x170))),(84,.pointer (some ⟨bq7,0,none⟩)),(85,.bool (migrate_Migration_Closed ({ y134 with phase := x142,earliest := x143,closed := x144 }))),(86,.pointer (some ⟨bq8,0,none⟩)),(87,.pointer (some ⟨bq8,0,none⟩)),(88,.pointer (some ⟨bq8,6,none⟩)),(89,.bool x149),(90,.bool (!((migrate_Migration_Closed ({ y134 with phase := x142,earliest := x143,closed := x144 })) == x149))),(93,.pointer (some ⟨bq7,0,none⟩)),(94,.int .i64 (migrate_Migration_Earliest ({ y134 with phase := x142,earliest := x143,closed := x144 }))),(95,.pointer (some ⟨bq8,0,none⟩)),(96,.pointer (some ⟨bq8,0,none⟩)),(97,.pointer (some ⟨bq8,5,none⟩)),(98,.int .i64 x148),(99,.bool (!decide ((migrate_Migration_Earliest ({ y134 with phase := x142,earliest := x143,closed := x144 })) = x148))),(100,.bool (!decide ((migrate_Migration_Earliest ({ y134 with phase := x142,earliest := x143,closed := x144 })) = x148)))] (by kernel_rfl) fun fr => ?_
             refine r_le ((le_mv 4).trans ((le_mv 4).trans ((le_mv 2).trans ((le_mv 3).trans (le_w [true,true,true,true,false]))))) ?_
             exact r_done ⟨!decide ((migrate_Migration_Earliest ({ y134 with phase := x142,earliest := x143,closed := x144 })) = x148),{ y134 with phase := x142,earliest := x143,closed := x144 },{ y135 with Phase := x147,Earliest := x148,Closed := x149 },_,h,fr_eq _ (by kernel_rfl),(by kernel_rfl)⟩
        ·refine r_F rfl ?_
         refine r_ld 1 tt_ok (v := .int .i64 x147) ts_3 rfl (by kernel_rfl) ?_
         refine r_done ⟨rfl,k_a (le_w [false,false,true,true,true]) (le_w [false,false,true,true,true]),?_⟩
         refine x_e rfl ?_
         refine r_F rfl ?_
         replace h := h_b h; obtain ⟨x175,hx174,h⟩ := h
         refine r_call (hc_21 (bm0 := bq7) (m0 := { y134 with phase := x142,earliest := x143,closed := x144 }) (h := hx174)) ?_
         rintro _ _ ⟨rfl,rfl⟩
         refine r_done ⟨rfl,k_a (le_w [false,false,true,true,true]) (le_w [false,false,true,true,true]),?_⟩
         refine x_e rfl ?_
         refine r_F rfl ?_
         replace h := h_b h; obtain ⟨x177,hx176,h⟩ := h
         refine r_call (hc_24 (phase0 := x147) (h := hx176)) ?_
         rintro _ _ ⟨rfl,rfl⟩
         refine r_done ⟨rfl,k_a (le_w [false,false,true,true,true]) (le_w [false,false,true,true,true]),?_⟩
         refine x_p rfl ?_
         refine v_F rfl ?_
         refine v_done ?_
         refine x_p rfl ?_
         refine v_done ?_
         refine x_p rfl ?_
         refine v_done ?_
         refine x_p rfl ?_
         refine v_ite (fun (hb178 : (!decide (x175 = x177)) = true) => ?_) (fun (hb178 : (!decide (x175 = x177)) = false) => ?_)
         ·replace h := h_t h hb178
          clear hb178
          refine v_done ?_
          refine x_p rfl ?_
          refine v_T rfl ?_
          refine v_done ?_
          refine x_kp [(3,.pointer (some ⟨bq1,0,none⟩)),(7,.pointer (some ⟨bq7,0,none⟩)),(8,.pointer (some ⟨bq8,0,none⟩)),(45,.slice A22 xs20.length c23),(46,.int .i64 (xs20.length : Int)),(47,.int .i64 x133),(65,.pointer (some ⟨bq7,0,none⟩)),(66,.int .i64 (migrate_Migration_Phase ({ y134 with phase := x142,earliest := x143,closed := x144 }))),(67,.pointer (some ⟨bq8,0,none⟩)),(68,.pointer (some ⟨bq8,0,none⟩)),(69,.pointer (some ⟨bq8,4,none⟩)),(70,.int .i64 x147),(71,.bool (!decide ((migrate_Migration_Phase ({ y134 with phase := x142,earliest := x143,closed := x144 })) = x147))),(74,.pointer (some ⟨bq7,0,none⟩)),(75,.int .i64 x175),(76,.pointer (some ⟨bq8,0,none⟩)),(77,.pointer (some ⟨bq8,0,none⟩)),(78,.pointer (some ⟨bq8,4,none⟩)),(79,.int .i64 x147),(80,.int .i64 x177),(81,.bool (!decide (x175 = x177))),(83,.bool true),(84,undef),(86,undef)] (by kernel_rfl) fun fr => ?_
          refine x_p rfl ?_
          refine v_T rfl ?_
          refine v_done ?_
          refine x_p rfl ?_
          refine v_T rfl ?_
          refine v_done ?_
          refine x_2 rfl rfl ?_ ?_
          ·refine r_T rfl ?_
           refine r_done ⟨rfl,k_a (le_w [false,false,true,true,true]) (le_w [false,false,true,true,true]),?_⟩
           refine x_e rfl ?_
           refine r_T rfl ?_
           refine r_done ⟨rfl,k_a (le_w [false,false,true,true,true]) (le_w [false,false,true,true,true]),?_⟩
           refine x_p rfl ?_
           refine v_T rfl ?_
           refine v_done ?_
           refine x_p rfl ?_
           refine v_T rfl ?_
           refine v_done ?_
           refine x_p rfl ?_
           refine v_done ?_
           refine x_p rfl ?_
           refine v_T rfl ?_
           refine v_done ?_
           refine x_p rfl ?_
           refine v_T rfl ?_
           refine v_done ?_
           refine x_kp [(3,.pointer (some ⟨bq1,0,none⟩)),(7,.pointer (some ⟨bq7,0,none⟩)),(8,.pointer (some ⟨bq8,0,none⟩)),(45,.slice A22 xs20.length c23),(46,.int .i64 (xs20.length : Int)),(47,.int .i64 x133),(65,.pointer (some ⟨bq7,0,none⟩)),(66,.int .i64 (migrate_Migration_Phase ({ y134 with phase := x142,earliest := x143,closed := x144 }))),(67,.pointer (some ⟨bq8,0,none⟩)),(68,.pointer (some ⟨bq8,0,none⟩)),(69,.pointer (some ⟨bq8,4,none⟩)),(70,.int .i64 x147),(71,.bool (!decide ((migrate_Migration_Phase ({ y134 with phase := x142,earliest := x143,closed := x144 })) = x147))),(74,.pointer (some ⟨bq7,0,none⟩)),(75,.int .i64 x175),(76,.pointer (some ⟨bq8,0,none⟩)),(77,.pointer (some ⟨bq8,0,none⟩)),(78,.pointer (some ⟨bq8,4,none⟩)),(79,.int .i64 x147),(80,.int .i64 x177),(81,.bool (!decide (x175 = x177))),(84,undef),(85,undef),(86,undef),(87,undef),(88,undef),(89,undef),(90,undef),(92,.bool true),(93,undef),(95,undef)] (by kernel_rfl) fun fr => ?_
           refine x_p rfl ?_
           refine v_T rfl ?_
           refine v_done ?_
           refine x_p rfl ?_
           refine v_T rfl ?_
           refine v_done ?_
           refine x_2 rfl rfl ?_ ?_
           ·refine r_T rfl ?_
            refine r_done ⟨rfl,k_a (le_w [false,false,true,true,true]) (le_w [false,false,true,true,true]),?_⟩
            refine x_e rfl ?_
            refine r_T rfl ?_
            refine r_done ⟨rfl,k_a (le_w [false,false,true,true,true]) (le_w [false,false,true,true,true]),?_⟩
            refine x_p rfl ?_
            refine v_T rfl ?_
            refine v_done ?_
            refine x_p rfl ?_
            refine v_T rfl ?_
            refine v_done ?_
            refine x_k [(3,.pointer (some ⟨bq1,0,none⟩)),(7,.pointer (some ⟨bq7,0,none⟩)),(8,.pointer (some ⟨bq8,0,none⟩)),(45,.slice A22 xs20.length c23),(46,.int .i64 (xs20.length : Int)),(47,.int .i64 x133),(65,.pointer (some ⟨bq7,0,none⟩)),(66,.int .i64 (migrate_Migration_Phase ({ y134 with phase := x142,earliest := x143,closed := x144 }))),(67,.pointer (some ⟨bq8,0,none⟩)),(68,.pointer (some ⟨bq8,0,none⟩)),(69,.pointer (some ⟨bq8,4,none⟩)),(70,.int .i64 x147),(71,.bool (!decide ((migrate_Migration_Phase ({ y134 with phase := x142,earliest := x143,closed := x144 })) = x147))),(74,.pointer (some ⟨bq7,0,none⟩)),(75,.int .i64 x175),(76,.pointer (some ⟨bq8,0,none⟩)),(77,.pointer (some ⟨bq8,0,none⟩)),(78,.pointer (some ⟨bq8,4,none⟩)),(79,.int .i64 x147),(80,.int .i64 x177),(81,.bool (!decide (x175 = x177))),(100,.bool true)] (by kernel_rfl) fun fr => ?_
            refine r_le ((le_mv 4).trans ((le_mv 4).trans ((le_mv 2).trans ((le_mv 3).trans (le_w [true,true,true,true,false]))))) ?_
            exact r_done ⟨true,{ y134 with phase := x142,earliest := x143,closed := x144 },{ y135 with Phase := x147,Earliest := x148,Closed := x149 },_,h,fr_eq _ (by kernel_rfl),(by kernel_rfl)⟩
           ·refine r_T rfl ?_
            refine r_done ⟨rfl,k_a (le_w [false,false,true,true,true]) (le_w [false,false,true,true,true]),?_⟩
            refine x_e rfl ?_
            refine r_T rfl ?_
            refine r_done ⟨rfl,k_a (le_w [false,false,true,true,true]) (le_w [false,false,true,true,true]),?_⟩
            refine x_p rfl ?_
            refine v_T rfl ?_
            refine v_done ?_
            refine x_p rfl ?_
            refine v_T rfl ?_
            refine v_done ?_
            refine x_k [(3,.pointer (some ⟨bq1,0,none⟩)),(7,.pointer (some ⟨bq7,0,none⟩)),(8,.pointer (some ⟨bq8,0,none⟩)),(45,.slice A22 xs20.length c23),(46,.int .i64 (xs20.length : Int)),(47,.int .i64 x133),(65,.pointer (some ⟨bq7,0,none⟩)),(66,.int .i64 (migrate_Migration_Phase ({ y134 with phase := x142,earliest := x143,closed := x144 }))),(67,.pointer (some ⟨bq8,0,none⟩)),(68,.pointer (some ⟨bq8,0,none⟩)),(69,.pointer (some ⟨bq8,4,none⟩)),(70,.int .i64 x147),(71,.bool (!decide ((migrate_Migration_Phase ({ y134 with phase := x142,earliest := x143,closed := x144 })) = x147))),(74,.pointer (some ⟨bq7,0,none⟩)),(75,.int .i64 x175),(76,.pointer (some ⟨bq8,0,none⟩)),(77,.pointer (some ⟨bq8,0,none⟩)),(78,.pointer (some ⟨bq8,4,none⟩)),(79,.int .i64 x147),(80,.int .i64 x177),(81,.bool (!decide (x175 = x177))),(100,.bool true)] (by kernel_rfl) fun fr => ?_
            refine r_le ((le_mv 4).trans ((le_mv 4).trans ((le_mv 2).trans ((le_mv 3).trans (le_w [true,true,true,true,false]))))) ?_
            exact r_done ⟨true,{ y134 with phase := x142,earliest := x143,closed := x144 },{ y135 with Phase := x147,Earliest := x148,Closed := x149 },_,h,fr_eq _ (by kernel_rfl),(by kernel_rfl)⟩
          ·refine r_T rfl ?_
           refine r_done ⟨rfl,k_a (le_w [false,false,true,true,true]) (le_w [false,false,true,true,true]),?_⟩
           refine x_e rfl ?_
           refine r_T rfl ?_
           refine r_done ⟨rfl,k_a (le_w [false,false,true,true,true]) (le_w [false,false,true,true,true]),?_⟩
           refine x_p rfl ?_
           refine v_T rfl ?_
           refine v_done ?_
           refine x_p rfl ?_
           refine v_T rfl ?_
           refine v_done ?_
           refine x_p rfl ?_
           refine v_done ?_
           refine x_p rfl ?_
           refine v_T rfl ?_
           refine v_done ?_
           refine x_p rfl ?_
           refine v_T rfl ?_
           refine v_done ?_
           refine x_p rfl ?_
           refine v_T rfl ?_
           refine v_done ?_
           refine x_p rfl ?_
           refine v_T rfl ?_
           refine v_done ?_
           refine x_2 rfl rfl ?_ ?_
           ·refine r_T rfl ?_
            refine r_done ⟨rfl,k_a (le_w [false,false,true,true,true]) (le_w [false,false,true,true,true]),?_⟩
            refine x_kp [(3,.pointer (some ⟨bq1,0,none⟩)),(7,.pointer (some ⟨bq7,0,none⟩)),(8,.pointer (some ⟨bq8,0,none⟩)),(45,.slice A22 xs20.length c23),(46,.int .i64 (xs20.length : Int)),(47,.int .i64 x133),(65,.pointer (some ⟨bq7,0,none⟩)),(66,.int .i64 (migrate_Migration_Phase ({ y134 with phase := x142,earliest := x143,closed := x144 }))),(67,.pointer (some ⟨bq8,0,none⟩)),(68,.pointer (some ⟨bq8,0,none⟩)),(69,.pointer (some ⟨bq8,4,none⟩)),(70,.int .i64 x147),(71,.bool (!decide ((migrate_Migration_Phase ({ y134 with phase := x142,earliest := x143,closed := x144 })) = x147))),(74,.pointer (some ⟨bq7,0,none⟩)),(75,.int .i64 x175),(76,.pointer (some ⟨bq8,0,none⟩)),(77,.pointer (some ⟨bq8,0,none⟩)),(78,.pointer (some ⟨bq8,4,none⟩)),(79,.int .i64 x147),(80,.int .i64 x177),(81,.bool (!decide (x175 = x177))),(84,undef),(85,undef),(86,undef),(87,undef),(88,undef),(89,undef),(90,undef),(92,.bool true),(93,undef),(94,undef),(95,undef),(96,undef),(97,undef)] (by kernel_rfl) fun fr => ?_
            refine x_e rfl ?_
            refine r_T rfl ?_
            refine r_done ⟨rfl,k_a (le_w [false,false,true,true,true]) (le_w [false,false,true,true,true]),?_⟩
            refine x_p rfl ?_
            refine v_T rfl ?_
            refine v_done ?_
            refine x_p rfl ?_
            refine v_T rfl ?_
            refine v_done ?_
            refine x_k [(3,.pointer (some ⟨bq1,0,none⟩)),(7,.pointer (some ⟨bq7,0,none⟩)),(8,.pointer (some ⟨bq8,0,none⟩)),(45,.slice A22 xs20.length c23),(46,.int .i64 (xs20.length : Int)),(47,.int .i64 x133),(65,.pointer (some ⟨bq7,0,none⟩)),(66,.int .i64 (migrate_Migration_Phase ({ y134 with phase := x142,earliest := x143,closed := x144 }))),(67,.pointer (some ⟨bq8,0,none⟩)),(68,.pointer (some ⟨bq8,0,none⟩)),(69,.pointer (some ⟨bq8,4,none⟩)),(70,.int .i64 x147),(71,.bool (!decide ((migrate_Migration_Phase ({ y134 with phase := x142,earliest := x143,closed := x144 })) = x147))),(74,.pointer (some ⟨bq7,0,none⟩)),(75,.int .i64 x175),(76,.pointer (some ⟨bq8,0,none⟩)),(77,.pointer (some ⟨bq8,0,none⟩)),(78,.pointer (some ⟨bq8,4,none⟩)),(79,.int .i64 x147),(80,.int .i64 x177),(81,.bool (!decide (x175 = x177))),(100,.bool true)] (by kernel_rfl) fun fr => ?_
            refine r_le ((le_mv 4).trans ((le_mv 4).trans ((le_mv 2).trans ((le_mv 3).trans (le_w [true,true,true,true,false]))))) ?_
            exact r_done ⟨true,{ y134 with phase := x142,earliest := x143,closed := x144 },{ y135 with Phase := x147,Earliest := x148,Closed := x149 },_,h,fr_eq _ (by kernel_rfl),(by kernel_rfl)⟩
           ·refine r_T rfl ?_
            refine r_done ⟨rfl,k_a (le_w [false,false,true,true,true]) (le_w [false,false,true,true,true]),?_⟩
            refine x_e rfl ?_
            refine r_T rfl ?_
            refine r_done ⟨rfl,k_a (le_w [false,false,true,true,true]) (le_w [false,false,true,true,true]),?_⟩
            refine x_p rfl ?_
            refine v_T rfl ?_
            refine v_done ?_
            refine x_p rfl ?_
            refine v_T rfl ?_
            refine v_done ?_
            refine x_k [(3,.pointer (some ⟨bq1,0,none⟩)),(7,.pointer (some ⟨bq7,0,none⟩)),(8,.pointer (some ⟨bq8,0,none⟩)),(45,.slice A22 xs20.length c23),(46,.int .i64 (xs20.length : Int)),(47,.int .i64 x133),(65,.pointer (some ⟨bq7,0,none⟩)),(66,.int .i64 (migrate_Migration_Phase ({ y134 with phase := x142,earliest := x143,closed := x144 }))),(67,.pointer (some ⟨bq8,0,none⟩)),(68,.pointer (some ⟨bq8,0,none⟩)),(69,.pointer (some ⟨bq8,4,none⟩)),(70,.int .i64 x147),(71,.bool (!decide ((migrate_Migration_Phase ({ y134 with phase := x142,earliest := x143,closed := x144 })) = x147))),(74,.pointer (some ⟨bq7,0,none⟩)),(75,.int .i64 x175),(76,.pointer (some ⟨bq8,0,none⟩)),(77,.pointer (some ⟨bq8,0,none⟩)),(78,.pointer (some ⟨bq8,4,none⟩)),(79,.int .i64 x147),(80,.int .i64 x177),(81,.bool (!decide (x175 = x177))),(100,.bool true)] (by kernel_rfl) fun fr => ?_
            refine r_le ((le_mv 4).trans ((le_mv 4).trans ((le_mv 2).trans ((le_mv 3).trans (le_w [true,true,true,true,false]))))) ?_
            exact r_done ⟨true,{ y134 with phase := x142,earliest := x143,closed := x144 },{ y135 with Phase := x147,Earliest := x148,Closed := x149 },_,h,fr_eq _ (by kernel_rfl),(by kernel_rfl)⟩
         ·replace h := h_f h hb178
          clear hb178
          refine v_done ?_
          refine x_p rfl ?_
          refine v_F rfl ?_
          refine v_done ?_
          refine x_kp [(3,.pointer (some ⟨bq1,0,none⟩)),(7,.pointer (some ⟨bq7,0,none⟩)),(8,.pointer (some ⟨bq8,0,none⟩)),(45,.slice A22 xs20.length c23),(46,.int .i64 (xs20.length : Int)),(47,.int .i64 x133),(65,.pointer (some ⟨bq7,0,none⟩)),(66,.int .i64 (migrate_Migration_Phase ({ y134 with phase := x142,earliest := x143,closed := x144 }))),(67,.pointer (some ⟨bq8,0,none⟩)),(68,.pointer (some ⟨bq8,0,none⟩)),(69,.pointer (some ⟨bq8,4,none⟩)),(70,.int .i64 x147),(71,.bool (!decide ((migrate_Migration_Phase ({ y134 with phase := x142,earliest := x143,closed := x144 })) = x147))),(74,.pointer (some ⟨bq7,0,none⟩)),(75,.int .i64 x175),(76,.pointer (some ⟨bq8,0,none⟩)),(77,.pointer (some ⟨bq8,0,none⟩)),(78,.pointer (some ⟨bq8,4,none⟩)),(79,.int .i64 x147),(80,.int .i64 x177),(81,.bool (!decide (x175 = x177))),(83,.bool false),(84,.pointer (some ⟨bq7,0,none⟩)),(86,.pointer (some ⟨bq8,0,none⟩))] (by kernel_rfl) fun fr => ?_
          refine x_p rfl ?_
          refine v_F rfl ?_
          refine v_done ?_
          refine x_p rfl ?_
          refine v_F rfl ?_
          refine v_done ?_
          refine x_2 rfl rfl ?_ ?_
          ·refine r_F rfl ?_
           refine r_call (hc_19 (bm0 := bq7) (m0 := { y134 with phase := x142,earliest := x143,closed := x144 })) ?_
           rintro _ _ ⟨rfl,rfl⟩
           refine r_done ⟨rfl,k_a (le_w [false,false,true,true,true]) (le_w [false,false,true,true,true]),?_⟩
           refine x_e rfl ?_
           refine r_F rfl ?_
           refine r_ld 1 tt_ok (v := .bool x149) ts_4 rfl (by kernel_rfl) ?_
           refine r_done ⟨rfl,k_a (le_w [false,false,true,true,true]) (le_w [false,false,true,true,true]),?_⟩
           refine x_p rfl ?_
           refine v_F rfl ?_
           refine v_op (fun w => ex_neb tt_ok rfl rfl rfl rfl w) ?_
           refine v_done ?_
           refine x_p rfl ?_
           refine v_done ?_
           refine x_p rfl ?_
           refine v_done ?_
           refine x_p rfl ?_
           refine v_ite (fun (hb179 : (!((migrate_Migration_Closed ({ y134 with phase := x142,earliest := x143,closed := x144 })) == x149)) = true) => ?_) (fun (hb179 : (!((migrate_Migration_Closed ({ y134 with phase := x142,earliest := x143,closed := x144 })) == x149)) = false) => ?_)
           ·replace h := h_t h hb179
            clear hb179
            refine v_done ?_
            refine x_p rfl ?_
            refine v_T rfl ?_
            refine v_done ?_
            refine x_kp [(3,.pointer (some ⟨bq1,0,none⟩)),(7,.pointer (some ⟨bq7,0,none⟩)),(8,.pointer (some ⟨bq8,0,none⟩)),(45,.slice A22 xs20.length c23),(46,.int .i64 (xs20.length : Int)),(47,.int .i64 x133),(65,.pointer (some ⟨bq7,0,none⟩)),(66,.int .i64 (migrate_Migration_Phase ({ y134 with phase := x142,earliest := x143,closed := x144 }))),(67,.pointer (some ⟨bq8,0,none⟩)),(68,.pointer (some ⟨bq8,0,none⟩)),(69,.pointer (some ⟨bq8,4,none⟩)),(70,.int .i64 x147),(71,.bool (!decide ((migrate_Migration_Phase ({ y134 with phase := x142,earliest := x143,closed := x144 })) = x147))),(74,.pointer (some ⟨bq7,0,none⟩)),(75,.int .i64 x175),(76,.pointer (some ⟨bq8,0,none⟩)),(77,.pointer (some ⟨bq8,0,none⟩)),(78,.pointer (some ⟨bq8,4,none⟩)),(79,.int .i64 x147),(80,.int .i64 x177),(81,.bool (!decide (x175 = x177))),(84,.pointer (some ⟨bq7,0,none⟩)),(85,.bool (migrate_Migration_Closed ({ y134 with phase := x142,earliest := x143,closed := x144 }))),(86,.pointer (some ⟨bq8,0,none⟩)),(87,.pointer (some ⟨bq8,0,none⟩)),(88,.pointer (some ⟨bq8,6,none⟩)),(89,.bool x149),(90,.bool (!((migrate_Migration_Closed ({ y134 with phase := x142,earliest := x143,closed := x144 })) == x149))),(92,.bool true),(93,undef),(95,undef)] (by kernel_rfl) fun fr => ?_
            refine x_p rfl ?_
            refine v_T rfl ?_
            refine v_done ?_
            refine x_p rfl ?_
            refine v_T rfl ?_
            refine v_done ?_
            refine x_2 rfl rfl ?_ ?_
            ·refine r_T rfl ?_
             refine r_done ⟨rfl,k_a (le_w [false,false,true,true,true]) (le_w [false,false,true,true,true]),?_⟩
             refine x_e rfl ?_
             refine r_T rfl ?_
             refine r_done ⟨rfl,k_a (le_w [false,false,true,true,true]) (le_w [false,false,true,true,true]),?_⟩
             refine x_p rfl ?_
             refine v_T rfl ?_
             refine v_done ?_
             refine x_p rfl ?_
             refine v_T rfl ?_
             refine v_done ?_
             refine x_k [(3,.pointer (some ⟨bq1,0,none⟩)),(7,.pointer (some ⟨bq7,0,none⟩)),(8,.pointer (some ⟨bq8,0,none⟩)),(45,.slice A22 xs20.length c23),(46,.int .i64 (xs20.length : Int)),(47,.int .i64 x133),(65,.pointer (some ⟨bq7,0,none⟩)),(66,.int .i64 (migrate_Migration_Phase ({ y134 with phase := x142,earliest := x143,closed := x144 }))),(67,.pointer (some ⟨bq8,0,none⟩)),(68,.pointer (some ⟨bq8,0,none⟩)),(69,.pointer (some ⟨bq8,4,none⟩)),(70,.int .i64 x147),(71,.bool (!decide ((migrate_Migration_Phase ({ y134 with phase := x142,earliest := x143,closed := x144 })) = x147))),(74,.pointer (some ⟨bq7,0,none⟩)),(75,.int .i64 x175),(76,.pointer (some ⟨bq8,0,none⟩)),(77,.pointer (some ⟨bq8,0,none⟩)),(78,.pointer (some ⟨bq8,4,none⟩)),(79,.int .i64 x147),(80,.int .i64 x177),(81,.bool (!decide (x175 = x177))),(84,.pointer (some ⟨bq7,0,none⟩)),(85,.bool (migrate_Migration_Closed ({ y134 with phase := x142,earliest := x143,closed := x144 }))),(86,.pointer (some ⟨bq8,0,none⟩)),(87,.pointer (some ⟨bq8,0,none⟩)),(88,.pointer (some ⟨bq8,6,none⟩)),(89,.bool x149),(90,.bool (!((migrate_Migration_Closed ({ y134 with phase := x142,earliest := x143,closed := x144 })) == x149))),(100,.bool true)] (by kernel_rfl) fun fr => ?_
             refine r_le ((le_mv 4).trans ((le_mv 4).trans ((le_mv 2).trans ((le_mv 3).trans (le_w [true,true,true,true,false]))))) ?_
             exact r_done ⟨true,{ y134 with phase := x142,earliest := x143,closed := x144 },{ y135 with Phase := x147,Earliest := x148,Closed := x149 },_,h,fr_eq _ (by kernel_rfl),(by kernel_rfl)⟩
            ·refine r_T rfl ?_
             refine r_done ⟨rfl,k_a (le_w [false,false,true,true,true]) (le_w [false,false,true,true,true]),?_⟩
             refine x_e rfl ?_
             refine r_T rfl ?_
             refine r_done ⟨rfl,k_a (le_w [false,false,true,true,true]) (le_w [false,false,true,true,true]),?_⟩
             refine x_p rfl ?_
             refine v_T rfl ?_
             refine v_done ?_
             refine x_p rfl ?_
             refine v_T rfl ?_
             refine v_done ?_
             refine x_k [(3,.pointer (some ⟨bq1,0,none⟩)),(7,.pointer (some ⟨bq7,0,none⟩)),(8,.pointer (some ⟨bq8,0,none⟩)),(45,.slice A22 xs20.length c23),(46,.int .i64 (xs20.length : Int)),(47,.int .i64 x133),(65,.pointer (some ⟨bq7,0,none⟩)),(66,.int .i64 (migrate_Migration_Phase ({ y134 with phase := x142,earliest := x143,closed := x144 }))),(67,.pointer (some ⟨bq8,0,none⟩)),(68,.pointer (some ⟨bq8,0,none⟩)),(69,.pointer (some ⟨bq8,4,none⟩)),(70,.int .i64 x147),(71,.bool (!decide ((migrate_Migration_Phase ({ y134 with phase := x142,earliest := x143,closed := x144 })) = x147))),(74,.pointer (some ⟨bq7,0,none⟩)),(75,.int .i64 x175),(76,.pointer (some ⟨bq8,0,none⟩)),(77,.pointer (some ⟨bq8,0,none⟩)),(78,.pointer (some ⟨bq8,4,none⟩)),(79,.int .i64 x147),(80,.int .i64 x177),(81,.bool (!decide (x175 = x177))),(84,.pointer (some ⟨bq7,0,none⟩)),(85,.bool (migrate_Migration_Closed ({ y134 with phase := x142,earliest := x143,closed := x144 }))),(86,.pointer (some ⟨bq8,0,none⟩)),(87,.pointer (some ⟨bq8,0,none⟩)),(88,.pointer (some ⟨bq8,6,none⟩)),(89,.bool x149),(90,.bool (!((migrate_Migration_Closed ({ y134 with phase := x142,earliest := x143,closed := x144 })) == x149))),(100,.bool true)] (by kernel_rfl) fun fr => ?_
             refine r_le ((le_mv 4).trans ((le_mv 4).trans ((le_mv 2).trans ((le_mv 3).trans (le_w [true,true,true,true,false]))))) ?_
             exact r_done ⟨true,{ y134 with phase := x142,earliest := x143,closed := x144 },{ y135 with Phase := x147,Earliest := x148,Closed := x149 },_,h,fr_eq _ (by kernel_rfl),(by kernel_rfl)⟩
           ·replace h := h_f h hb179
            clear hb179
            refine v_done ?_
            refine x_p rfl ?_
            refine v_F rfl ?_
            refine v_done ?_
            refine x_kp [(3,.pointer (some ⟨bq1,0,none⟩)),(7,.pointer (some ⟨bq7,0,none⟩)),(8,.pointer (some ⟨bq8,0,none⟩)),(45,.slice A22 xs20.length c23),(46,.int .i64 (xs20.length : Int)),(47,.int .i64 x133),(65,.pointer (some ⟨bq7,0,none⟩)),(66,.int .i64 (migrate_Migration_Phase ({ y134 with phase := x142,earliest := x143,closed := x144 }))),(67,.pointer (some ⟨bq8,0,none⟩)),(68,.pointer (some ⟨bq8,0,none⟩)),(69,.pointer (some ⟨bq8,4,none⟩)),(70,.int .i64 x147),(71,.bool (!decide ((migrate_Migration_Phase ({ y134 with phase := x142,earliest := x143,closed := x144 })) = x147))),(74,.pointer (some ⟨bq7,0,none⟩)),(75,.int .i64 x175),(76,.pointer (some ⟨bq8,0,none⟩)),(77,.pointer (some ⟨bq8,0,none⟩)),(78,.pointer (some ⟨bq8,4,none⟩)),(79,.int .i64 x147),(80,.int .i64 x177),(81,.bool (!decide (x175 = x177))),(84,.pointer (some ⟨bq7,0,none⟩)),(85,.bool (migrate_Migration_Closed ({ y134 with phase := x142,earliest := x143,closed := x144 }))),(86,.pointer (some ⟨bq8,0,none⟩)),(87,.pointer (some ⟨bq8,0,none⟩)),(88,.pointer (some ⟨bq8,6,none⟩)),(89,.bool x149),(90,.bool (!((migrate_Migration_Closed ({ y134 with phase := x142,earliest := x143,closed := x144 })) == x149))),(92,.bool false),(93,.pointer (some ⟨bq7,0,none⟩)),(95,.pointer (some ⟨bq8,0,none⟩))] (by kernel_rfl) fun fr => ?_
            refine x_p rfl ?_
            refine v_F rfl ?_
            refine v_done ?_
            refine x_p rfl ?_
            refine v_F rfl ?_
            refine v_done ?_
            refine x_2 rfl rfl ?_ ?_
            ·refine r_F rfl ?_
             refine r_call (hc_25 (bm0 := bq7) (m0 := { y134 with phase := x142,earliest := x143,closed := x144 })) ?_
             rintro _ _ ⟨rfl,rfl⟩
             refine r_done ⟨rfl,k_a (le_w [false,false,true,true,true]) (le_w [false,false,true,true,true]),?_⟩
             refine x_e rfl ?_
             refine r_F rfl ?_
             refine r_ld 1 tt_ok (v := .int .i64 x148) ts_3 rfl (by kernel_rfl) ?_
             refine r_done ⟨rfl,k_a (le_w [false,false,true,true,true]) (le_w [false,false,true,true,true]),?_⟩
             refine x_p rfl ?_
             refine v_F rfl ?_
             refine v_done ?_
             refine x_p rfl ?_
             refine v_done ?_
             refine x_k [(3,.pointer (some ⟨bq1,0,none⟩)),(7,.pointer (some ⟨bq7,0,none⟩)),(8,.pointer (some ⟨bq8,0,none⟩)),(45,.slice A22 xs20.length c23),(46,.int .i64 (xs20.length : Int)),(47,.int .i64 x133),(65,.pointer (some ⟨bq7,0,none⟩)),(66,.int .i64 (migrate_Migration_Phase ({ y134 with phase := x142,earliest := x143,closed := x144 }))),(67,.pointer (some ⟨bq8,0,none⟩)),(68,.pointer (some ⟨bq8,0,none⟩)),(69,.pointer (some ⟨bq8,4,none⟩)),(70,.int .i64 x147),(71,.bool (!decide ((migrate_Migration_Phase ({ y134 with phase := x142,earliest := x143,closed := x144 })) = x147))),(74,.pointer (some ⟨bq7,0,none⟩)),(75,.int .i64 x175),(76,.pointer (some ⟨bq8,0,none⟩)),(77,.pointer (some ⟨bq8,0,none⟩)),(78,.pointer (some ⟨bq8,4,none⟩)),(79,.int .i64 x147),(80,.int .i64 x177),(81,.bool (!decide (x175 = x177))),(84,.pointer (some ⟨bq7,0,none⟩)),(85,.bool (migrate_Migration_Closed ({ y134 with phase := x142,earliest := x143,closed := x144 }))),(86,.pointer (some ⟨bq8,0,none⟩)),(87,.pointer (some ⟨bq8,0,none⟩)),(88,.pointer (some ⟨bq8,6,none⟩)),(89,.bool x149),(90,.bool (!((migrate_Migration_Closed ({ y134 with phase := x142,earliest := x143,closed := x144 })) == x149))),(93,.pointer (some ⟨bq7,0,none⟩)),(94,.int .i64 (migrate_Migration_Earliest ({ y134 with phase := x142,earliest := x143,closed := x144 }))),(95,.pointer (some ⟨bq8,0,none⟩)),(96,.pointer (some ⟨bq8,0,none⟩)),(97,.pointer (some ⟨bq8,5,none⟩)),(98,.int .i64 x148),(99,.bool (!decide ((migrate_Migration_Earliest ({ y134 with phase := x142,earliest := x143,closed := x144 })) = x148))),(100,.bool (!decide ((migrate_Migration_Earliest ({ y134 with phase := x142,earliest := x143,closed := x144 })) = x148)))] (by kernel_rfl) fun fr => ?_
             refine r_le ((le_mv 4).trans ((le_mv 4).trans ((le_mv 2).trans ((le_mv 3).trans (le_w [true,true,true,true,false]))))) ?_
             exact r_done ⟨!decide ((migrate_Migration_Earliest ({ y134 with phase := x142,earliest := x143,closed := x144 })) = x148),{ y134 with phase := x142,earliest := x143,closed := x144 },{ y135 with Phase := x147,Earliest := x148,Closed := x149 },_,h,fr_eq _ (by kernel_rfl),(by kernel_rfl)⟩
            ·refine r_F rfl ?_
             refine r_ld 1 tt_ok (v := .int .i64 x148) ts_3 rfl (by kernel_rfl) ?_
             refine r_done ⟨rfl,k_a (le_w [false,false,true,true,true]) (le_w [false,false,true,true,true]),?_⟩
             refine x_e rfl ?_
             refine r_F rfl ?_
             refine r_call (hc_25 (bm0 := bq7) (m0 := { y134 with phase := x142,earliest := x143,closed := x144 })) ?_
             rintro _ _ ⟨rfl,rfl⟩
             refine r_done ⟨rfl,k_a (le_w [false,false,true,true,true]) (le_w [false,false,true,true,true]),?_⟩
             refine x_p rfl ?_
             refine v_F rfl ?_
             refine v_done ?_
             refine x_p rfl ?_
             refine v_done ?_
             refine x_k [(3,.pointer (some ⟨bq1,0,none⟩)),(7,.pointer (some ⟨bq7,0,none⟩)),(8,.pointer (some ⟨bq8,0,none⟩)),(45,.slice A22 xs20.length c23),(46,.int .i64 (xs20.length : Int)),(47,.int .i64 x133),(65,.pointer (some ⟨bq7,0,none⟩)),(66,.int .i64 (migrate_Migration_Phase ({ y134 with phase := x142,earliest := x143,closed := x144 }))),(67,.pointer (some ⟨bq8,0,none⟩)),(68,.pointer (some ⟨bq8,0,none⟩)),(69,.pointer (some ⟨bq8,4,none⟩)),(70,.int .i64 x147),(71,.bool (!decide ((migrate_Migration_Phase ({ y134 with phase := x142,earliest := x143,closed := x144 })) = x147))),(74,.pointer (some ⟨bq7,0,none⟩)),(75,.int .i64 x175),(76,.pointer (some ⟨bq8,0,none⟩)),(77,.pointer (some ⟨bq8,0,none⟩)),(78,.pointer (some ⟨bq8,4,none⟩)),(79,.int .i64 x147),(80,.int .i64 x177),(81,.bool (!decide (x175 = x177))),(84,.pointer (some ⟨bq7,0,none⟩)),(85,.bool (migrate_Migration_Closed ({ y134 with phase := x142,earliest := x143,closed := x144 }))),(86,.pointer (some ⟨bq8,0,none⟩)),(87,.pointer (some ⟨bq8,0,none⟩)),(88,.pointer (some ⟨bq8,6,none⟩)),(89,.bool x149),(90,.bool (!((migrate_Migration_Closed ({ y134 with phase := x142,earliest := x143,closed := x144 })) == x149))),(93,.pointer (some ⟨bq7,0,none⟩)),(94,.int .i64 (migrate_Migration_Earliest ({ y134 with phase := x142,earliest := x143,closed := x144 }))),(95,.pointer (some ⟨bq8,0,none⟩)),(96,.pointer (some ⟨bq8,0,none⟩)),(97,.pointer (some ⟨bq8,5,none⟩)),(98,.int .i64 x148),(99,.bool (!decide ((migrate_Migration_Earliest ({ y134 with phase := x142,earliest := x143,closed := x144 })) = x148))),(100,.bool (!decide ((migrate_Migration_Earliest ({ y134 with phase := x142,earliest := x143,closed := x144 })) = x148)))] (by kernel_rfl) fun fr => ?_
             refine r_le ((le_mv 4).trans ((le_mv 4).trans ((le_mv 2).trans ((le_mv 3).trans (le_w [true,true,true,true,false]))))) ?_
             exact r_done ⟨!decide ((migrate_Migration_Earliest ({ y134 with phase := x142,earliest := x143,closed := x144 })) = x148),{ y134 with phase := x142,earliest := x143,closed := x144 },{ y135 with Phase := x147,Earliest := x148,Closed := x149 },_,h,fr_eq _ (by kernel_rfl),(by kernel_rfl)⟩
          ·refine r_F rfl ?_
           refine r_ld 1 tt_ok (v := .bool x149) ts_4 rfl (by kernel_rfl) ?_
           refine r_done ⟨rfl,k_a (le_w [false,false,true,true,true]) (le_w [false,false,true,true,true]),?_⟩
           refine x_e rfl ?_
           refine r_F rfl ?_
           refine r_call (hc_19 (bm0 := bq7) (m0 := { y134 with phase := x142,earliest := x143,closed := x144 })) ?_
           rintro _ _ ⟨rfl,rfl⟩
           refine r_done ⟨rfl,k_a (le_w [false,false,true,true,true]) (le_w [false,false,true,true,true]),?_⟩
           refine x_kp [(3,.pointer (some ⟨bq1,0,none⟩)),(7,.pointer (some ⟨bq7,0,none⟩)),(8,.pointer (some ⟨bq8,0,none⟩)),(45,.slice A22 xs20.length c23),(46,.int .i64 (xs20.length : Int)),(47,.int .i64 x133),(65,.pointer (some ⟨bq7,0,none⟩)),(66,.int .i64 (migrate_Migration_Phase ({ y134 with phase := x142,earliest := x143,closed := x144 }))),(67,.pointer (some ⟨bq8,0,none⟩)),(68,.pointer (some ⟨bq8,0,none⟩)),(69,.pointer (some ⟨bq8,4,none⟩)),(70,.int .i64 x147),(71,.bool (!decide ((migrate_Migration_Phase ({ y134 with phase := x142,earliest := x143,closed := x144 })) = x147))),(74,.pointer (some ⟨bq7,0,none⟩)),(75,.int .i64 x175),(76,.pointer (some ⟨bq8,0,none⟩)),(77,.pointer (some ⟨bq8,0,none⟩)),(78,.pointer (some ⟨bq8,4,none⟩)),(79,.int .i64 x147),(80,.int .i64 x177),(81,.bool (!decide (x175 = x177))),(83,.bool false),(84,.pointer (some ⟨bq7,0,none⟩)),(85,.bool (migrate_Migration_Closed ({ y134 with phase := x142,earliest := x143,closed := x144 }))),(86,.pointer (some ⟨bq8,0,none⟩)),(87,.pointer (some ⟨bq8,0,none⟩)),(88,.pointer (some ⟨bq8,6,none⟩)),(89,.bool x149)] (by kernel_rfl) fun fr => ?_
           refine x_p rfl ?_
           refine v_F rfl ?_
           refine v_op (fun w => ex_neb tt_ok rfl rfl rfl rfl w) ?_
           refine v_done ?_
           refine x_p rfl ?_
           refine v_done ?_
           refine x_p rfl ?_
           refine v_done ?_
           refine x_p rfl ?_
           refine v_ite (fun (hb180 : (!((migrate_Migration_Closed ({ y134 with phase := x142,earliest := x143,closed := x144 })) == x149)) = true) => ?_) (fun (hb180 : (!((migrate_Migration_Closed ({ y134 with phase := x142,earliest := x143,closed := x144 })) == x149)) = false) => ?_)
           ·replace h := h_t h hb180
            clear hb180
            refine v_done ?_
            refine x_p rfl ?_
            refine v_T rfl ?_
            refine v_done ?_
            refine x_p rfl ?_
            refine v_T rfl ?_
            refine v_done ?_
            refine x_p rfl ?_
            refine v_T rfl ?_
            refine v_done ?_
            refine x_2 rfl rfl ?_ ?_
            ·refine r_T rfl ?_
             refine r_done ⟨rfl,k_a (le_w [false,false,true,true,true]) (le_w [false,false,true,true,true]),?_⟩
             refine x_e rfl ?_
             refine r_T rfl ?_
             refine r_done ⟨rfl,k_a (le_w [false,false,true,true,true]) (le_w [false,false,true,true,true]),?_⟩
             refine x_kp [(3,.pointer (some ⟨bq1,0,none⟩)),(7,.pointer (some ⟨bq7,0,none⟩)),(8,.pointer (some ⟨bq8,0,none⟩)),(45,.slice A22 xs20.length c23),(46,.int .i64 (xs20.length : Int)),(47,.int .i64 x133),(65,.pointer (some ⟨bq7,0,none⟩)),(66,.int .i64 (migrate_Migration_Phase ({ y134 with phase := x142,earliest := x143,closed := x144 }))),(67,.pointer (some ⟨bq8,0,none⟩)),(68,.pointer (some ⟨bq8,0,none⟩)),(69,.pointer (some ⟨bq8,4,none⟩)),(70,.int .i64 x147),(71,.bool (!decide ((migrate_Migration_Phase ({ y134 with phase := x142,earliest := x143,closed := x144 })) = x147))),(74,.pointer (some ⟨bq7,0,none⟩)),(75,.int .i64 x175),(76,.pointer (some ⟨bq8,0,none⟩)),(77,.pointer (some ⟨bq8,0,none⟩)),(78,.pointer (some ⟨bq8,4,none⟩)),(79,.int .i64 x147),(80,.int .i64 x177),(81,.bool (!decide (x175 = x177))),(84,.pointer (some ⟨bq7,0,none⟩)),(85,.bool (migrate_Migration_Closed ({ y134 with phase := x142,earliest := x143,closed := x144 }))),(86,.pointer (some ⟨bq8,0,none⟩)),(87,.pointer (some ⟨bq8,0,none⟩)),(88,.pointer (some ⟨bq8,6,none⟩)),(89,.bool x149),(90,.bool (!((migrate_Migration_Closed ({ y134 with phase := x142,earliest := x143,closed := x144 })) == x149))),(92,.bool true),(93,undef),(94,undef),(95,undef),(96,undef),(97,undef),(98,undef)] (by kernel_rfl) fun fr => ?_
             refine x_p rfl ?_
             refine v_T rfl ?_
             refine v_done ?_
             refine x_p rfl ?_
             refine v_T rfl ?_
             refine v_done ?_
             refine x_k [(3,.pointer (some ⟨bq1,0,none⟩)),(7,.pointer (some ⟨bq7,0,none⟩)),(8,.pointer (some ⟨bq8,0,none⟩)),(45,.slice A22 xs20.length c23),(46,.int .i64 (xs20.length : Int)),(47,.int .i64 x133),(65,.pointer (some ⟨bq7,0,none⟩)),(66,.int .i64 (migrate_Migration_Phase ({ y134 with phase := x142,earliest := x143,closed := x144 }))),(67,.pointer (some ⟨bq8,0,none⟩)),(68,.pointer (some ⟨bq8,0,none⟩)),(69,.pointer (some ⟨bq8,4,none⟩)),(70,.int .i64 x147),(71,.bool (!decide ((migrate_Migration_Phase ({ y134 with phase := x142,earliest := x143,closed := x144 })) = x147))),(74,.pointer (some ⟨bq7,0,none⟩)),(75,.int .i64 x175),(76,.pointer (some ⟨bq8,0,none⟩)),(77,.pointer (some ⟨bq8,0,none⟩)),(78,.pointer (some ⟨bq8,4,none⟩)),(79,.int .i64 x147),(80,.int .i64 x177),(81,.bool (!decide (x175 = x177))),(84,.pointer (some ⟨bq7,0,none⟩)),(85,.bool (migrate_Migration_Closed ({ y134 with phase := x142,earliest := x143,closed := x144 }))),(86,.pointer (some ⟨bq8,0,none⟩)),(87,.pointer (some ⟨bq8,0,none⟩)),(88,.pointer (some ⟨bq8,6,none⟩)),(89,.bool x149),(90,.bool (!((migrate_Migration_Closed ({ y134 with phase := x142,earliest := x143,closed := x144 })) == x149))),(100,.bool true)] (by kernel_rfl) fun fr => ?_
             refine r_le ((le_mv 4).trans ((le_mv 4).trans ((le_mv 2).trans ((le_mv 3).trans (le_w [true,true,true,true,false]))))) ?_
             exact r_done ⟨true,{ y134 with phase := x142,earliest := x143,closed := x144 },{ y135 with Phase := x147,Earliest := x148,Closed := x149 },_,h,fr_eq _ (by kernel_rfl),(by kernel_rfl)⟩
            ·refine r_T rfl ?_
             refine r_done ⟨rfl,k_a (le_w [false,false,true,true,true]) (le_w [false,false,true,true,true]),?_⟩
             refine x_e rfl ?_
             refine r_T rfl ?_
             refine r_done ⟨rfl,k_a (le_w [false,false,true,true,true]) (le_w [false,false,true,true,true]),?_⟩
             refine x_p rfl ?_
             refine v_T rfl ?_
             refine v_done ?_
             refine x_p rfl ?_
             refine v_T rfl ?_
             refine v_done ?_
             refine x_k [(3,.pointer (some ⟨bq1,0,none⟩)),(7,.pointer (some ⟨bq7,0,none⟩)),(8,.pointer (some ⟨bq8,0,none⟩)),(45,.slice A22 xs20.length c23),(46,.int .i64 (xs20.length : Int)),(47,.int .i64 x133),(65,.pointer (some ⟨bq7,0,none⟩)),(66,.int .i64 (migrate_Migration_Phase ({ y134 with phase := x142,earliest := x143,closed := x144 }))),(67,.pointer (some ⟨bq8,0,none⟩)),(68,.pointer (some ⟨bq8,0,none⟩)),(69,.pointer (some ⟨bq8,4,none⟩)),(70,.int .i64 x147),(71,.bool (!decide ((migrate_Migration_Phase ({ y134 with phase := x142,earliest := x143,closed := x144 })) = x147))),(74,.pointer (some ⟨bq7,0,none⟩)),(75,.int .i64 x175),(76,.pointer (some ⟨bq8,0,none⟩)),(77,.pointer (some ⟨bq8,0,none⟩)),(78,.pointer (some ⟨bq8,4,none⟩)),(79,.int .i64 x147),(80,.int .i64 x177),(81,.bool (!decide (x175 = x177))),(84,.pointer (some ⟨bq7,0,none⟩)),(85,.bool (migrate_Migration_Closed ({ y134 with phase := x142,earliest := x143,closed := x144 }))),(86,.pointer (some ⟨bq8,0,none⟩)),(87,.pointer (some ⟨bq8,0,none⟩)),(88,.pointer (some ⟨bq8,6,none⟩)),(89,.bool x149),(90,.bool (!((migrate_Migration_Closed ({ y134 with phase := x142,earliest := x143,closed := x144 })) == x149))),(100,.bool true)] (by kernel_rfl) fun fr => ?_
             refine r_le ((le_mv 4).trans ((le_mv 4).trans ((le_mv 2).trans ((le_mv 3).trans (le_w [true,true,true,true,false]))))) ?_
             exact r_done ⟨true,{ y134 with phase := x142,earliest := x143,closed := x144 },{ y135 with Phase := x147,Earliest := x148,Closed := x149 },_,h,fr_eq _ (by kernel_rfl),(by kernel_rfl)⟩
           ·replace h := h_f h hb180
            clear hb180
            refine v_done ?_
            refine x_p rfl ?_
            refine v_F rfl ?_
            refine v_done ?_
            refine x_p rfl ?_
            refine v_F rfl ?_
            refine v_done ?_
            refine x_p rfl ?_
            refine v_F rfl ?_
            refine v_done ?_
            refine x_2 rfl rfl ?_ ?_
            ·refine r_F rfl ?_
             refine r_call (hc_25 (bm0 := bq7) (m0 := { y134 with phase := x142,earliest := x143,closed := x144 })) ?_
             rintro _ _ ⟨rfl,rfl⟩
             refine r_done ⟨rfl,k_a (le_w [false,false,true,true,true]) (le_w [false,false,true,true,true]),?_⟩
             refine x_e rfl ?_
             refine r_F rfl ?_
             refine r_ld 1 tt_ok (v := .int .i64 x148) ts_3 rfl (by kernel_rfl) ?_
             refine r_done ⟨rfl,k_a (le_w [false,false,true,true,true]) (le_w [false,false,true,true,true]),?_⟩
             refine x_kp [(3,.pointer (some ⟨bq1,0,none⟩)),(7,.pointer (some ⟨bq7,0,none⟩)),(8,.pointer (some ⟨bq8,0,none⟩)),(45,.slice A22 xs20.length c23),(46,.int .i64 (xs20.length : Int)),(47,.int .i64 x133),(65,.pointer (some ⟨bq7,0,none⟩)),(66,.int .i64 (migrate_Migration_Phase ({ y134 with phase := x142,earliest := x143,closed := x144 }))),(67,.pointer (some ⟨bq8,0,none⟩)),(68,.pointer (some ⟨bq8,0,none⟩)),(69,.pointer (some ⟨bq8,4,none⟩)),(70,.int .i64 x147),(71,.bool (!decide ((migrate_Migration_Phase ({ y134 with phase := x142,earliest := x143,closed := x144 })) = x147))),(74,.pointer (some ⟨bq7,0,none⟩)),(75,.int .i64 x175),(76,.pointer (some ⟨bq8,0,none⟩)),(77,.pointer (some ⟨bq8,0,none⟩)),(78,.pointer (some ⟨bq8,4,none⟩)),(79,.int .i64 x147),(80,.int .i64 x177),(81,.bool (!decide (x175 = x177))),(84,.pointer (some ⟨bq7,0,none⟩)),(85,.bool (migrate_Migration_Closed ({ y134 with phase := x142,earliest := x143,closed := x144 }))),(86,.pointer (some ⟨bq8,0,none⟩)),(87,.pointer (some ⟨bq8,0,none⟩)),(88,.pointer (some ⟨bq8,6,none⟩)),(89,.bool x149),(90,.bool (!((migrate_Migration_Closed ({ y134 with phase := x142,earliest := x143,closed := x144 })) == x149))),(92,.bool false),(93,.pointer (some ⟨bq7,0,none⟩)),(94,.int .i64 (migrate_Migration_Earliest ({ y134 with phase := x142,earliest := x143,closed := x144 }))),(95,.pointer (some ⟨bq8,0,none⟩)),(96,.pointer (some ⟨bq8,0,none⟩)),(97,.pointer (some ⟨bq8,5,none⟩)),(98,.int .i64 x148)] (by kernel_rfl) fun fr => ?_
             refine x_p rfl ?_
             refine v_F rfl ?_
             refine v_done ?_
             refine x_p rfl ?_
             refine v_done ?_
             refine x_k [(3,.pointer (some ⟨bq1,0,none⟩)),(7,.pointer (some ⟨bq7,0,none⟩)),(8,.pointer (some ⟨bq8,0,none⟩)),(45,.slice A22 xs20.length c23),(46,.int .i64 (xs20.length : Int)),(47,.int .i64 x133),(65,.pointer (some ⟨bq7,0,none⟩)),(66,.int .i64 (migrate_Migration_Phase ({ y134 with phase := x142,earliest := x143,closed := x144 }))),(67,.pointer (some ⟨bq8,0,none⟩)),(68,.pointer (some ⟨bq8,0,none⟩)),(69,.pointer (some ⟨bq8,4,none⟩)),(70,.int .i64 x147),(71,.bool (!decide ((migrate_Migration_Phase ({ y134 with phase := x142,earliest := x143,closed := x144 })) = x147))),(74,.pointer (some ⟨bq7,0,none⟩)),(75,.int .i64 x175),(76,.pointer (some ⟨bq8,0,none⟩)),(77,.pointer (some ⟨bq8,0,none⟩)),(78,.pointer (some ⟨bq8,4,none⟩)),(79,.int .i64 x147),(80,.int .i64 x177),(81,.bool (!decide (x175 = x177))),(84,.pointer (some ⟨bq7,0,none⟩)),(85,.bool (migrate_Migration_Closed ({ y134 with phase := x142,earliest := x143,closed := x144 }))),(86,.pointer (some ⟨bq8,0,none⟩)),(87,.pointer (some ⟨bq8,0,none⟩)),(88,.pointer (some ⟨bq8,6,none⟩)),(89,.bool x149),(90,.bool (!((migrate_Migration_Closed ({ y134 with phase := x142,earliest := x143,closed := x144 })) == x149))),(93,.pointer (some ⟨bq7,0,none⟩)),(94,.int .i64 (migrate_Migration_Earliest ({ y134 with phase := x142,earliest := x143,closed := x144 }))),(95,.pointer (some ⟨bq8,0,none⟩)),(96,.pointer (some ⟨bq8,0,none⟩)),(97,.pointer (some ⟨bq8,5,none⟩)),(98,.int .i64 x148),(99,.bool (!decide ((migrate_Migration_Earliest ({ y134 with phase := x142,earliest := x143,closed := x144 })) = x148))),(100,.bool (!decide ((migrate_Migration_Earliest ({ y134 with phase := x142,earliest := x143,closed := x144 })) = x148)))] (by kernel_rfl) fun fr => ?_
             refine r_le ((le_mv 4).trans ((le_mv 4).trans ((le_mv 2).trans ((le_mv 3).trans (le_w [true,true,true,true,false]))))) ?_
             exact r_done ⟨!decide ((migrate_Migration_Earliest ({ y134 with phase := x142,earliest := x143,closed := x144 })) = x148),{ y134 with phase := x142,earliest := x143,closed := x144 },{ y135 with Phase := x147,Earliest := x148,Closed := x149 },_,h,fr_eq _ (by kernel_rfl),(by kernel_rfl)⟩
            ·refine r_F rfl ?_
             refine r_ld 1 tt_ok (v := .int .i64 x148) ts_3 rfl (by kernel_rfl) ?_
             refine r_done ⟨rfl,k_a (le_w [false,false,true,true,true]) (le_w [false,false,true,true,true]),?_⟩
             refine x_e rfl ?_
             refine r_F rfl ?_
             refine r_call (hc_25 (bm0 := bq7) (m0 := { y134 with phase := x142,earliest := x143,closed := x144 })) ?_
             rintro _ _ ⟨rfl,rfl⟩
             refine r_done ⟨rfl,k_a (le_w [false,false,true,true,true]) (le_w [false,false,true,true,true]),?_⟩
             refine x_p rfl ?_
             refine v_F rfl ?_
             refine v_done ?_
             refine x_p rfl ?_
             refine v_done ?_
             refine x_k [(3,.pointer (some ⟨bq1,0,none⟩)),(7,.pointer (some ⟨bq7,0,none⟩)),(8,.pointer (some ⟨bq8,0,none⟩)),(45,.slice A22 xs20.length c23),(46,.int .i64 (xs20.length : Int)),(47,.int .i64 x133),(65,.pointer (some ⟨bq7,0,none⟩)),(66,.int .i64 (migrate_Migration_Phase ({ y134 with phase := x142,earliest := x143,closed := x144 }))),(67,.pointer (some ⟨bq8,0,none⟩)),(68,.pointer (some ⟨bq8,0,none⟩)),(69,.pointer (some ⟨bq8,4,none⟩)),(70,.int .i64 x147),(71,.bool (!decide ((migrate_Migration_Phase ({ y134 with phase := x142,earliest := x143,closed := x144 })) = x147))),(74,.pointer (some ⟨bq7,0,none⟩)),(75,.int .i64 x175),(76,.pointer (some ⟨bq8,0,none⟩)),(77,.pointer (some ⟨bq8,0,none⟩)),(78,.pointer (some ⟨bq8,4,none⟩)),(79,.int .i64 x147),(80,.int .i64 x177),(81,.bool (!decide (x175 = x177))),(84,.pointer (some ⟨bq7,0,none⟩)),(85,.bool (migrate_Migration_Closed ({ y134 with phase := x142,earliest := x143,closed := x144 }))),(86,.pointer (some ⟨bq8,0,none⟩)),(87,.pointer (some ⟨bq8,0,none⟩)),(88,.pointer (some ⟨bq8,6,none⟩)),(89,.bool x149),(90,.bool (!((migrate_Migration_Closed ({ y134 with phase := x142,earliest := x143,closed := x144 })) == x149))),(93,.pointer (some ⟨bq7,0,none⟩)),(94,.int .i64 (migrate_Migration_Earliest ({ y134 with phase := x142,earliest := x143,closed := x144 }))),(95,.pointer (some ⟨bq8,0,none⟩)),(96,.pointer (some ⟨bq8,0,none⟩)),(97,.pointer (some ⟨bq8,5,none⟩)),(98,.int .i64 x148),(99,.bool (!decide ((migrate_Migration_Earliest ({ y134 with phase := x142,earliest := x143,closed := x144 })) = x148))),(100,.bool (!decide ((migrate_Migration_Earliest ({ y134 with phase := x142,earliest := x143,closed := x144 })) = x148)))] (by kernel_rfl) fun fr => ?_
             refine r_le ((le_mv 4).trans ((le_mv 4).trans ((le_mv 2).trans ((le_mv 3).trans (le_w [true,true,true,true,false]))))) ?_
             exact r_done ⟨!decide ((migrate_Migration_Earliest ({ y134 with phase := x142,earliest := x143,closed := x144 })) = x148),{ y134 with phase := x142,earliest := x143,closed := x144 },{ y135 with Phase := x147,Earliest := x148,Closed := x149 },_,h,fr_eq _ (by kernel_rfl),(by kernel_rfl)⟩
     clear h
     rintro fr S ⟨x181,y182,y183,fr,h,rfl,rfl⟩
     replace h := hK185 _ h
     refine r_done ?_
     refine r_ite (fun hb186 => ?_) (fun hb186 => ?_)
     ·replace h := h_t h hb186
      clear hb186
      refine r_bind ?_
      refine r_done ?_
      repeat refine r_done ?_
      replace h := h_m h
      subst hK189
      subst hK193
      repeat refine r_done ?_
      obtain rfl := h_out h
      exact ret_of (RV.tmp RV.nil) (le_w [false,false,false,false]) ⟨rfl,rfl⟩
     ·replace h := h_f h hb186
      clear hb186
      refine r_done ?_
      refine r_done ?_
      refine r_num (e' := w64 (x133 + 1)) rfl ?_
      refine r_le ((le_mv 3).trans ((le_mv 2).trans ((le_mv 2).trans (le_mv 3)))) ?_
      exact r_done ⟨m190,lt_s hm190,w64 (x133 + 1),y182,y183,_,h,fr_eq _ (by kernel_rfl),(by kernel_rfl)⟩
    ·replace h := h_f h hb136
     clear hb136
     refine r_done ?_
     refine r_done ?_
     replace h := h_m h
     subst hK189
     refine r_le (le_w [false,false,true,true]) ?_
     exact r_done ⟨y134,_,h,fr_eq _ (by kernel_rfl),(by kernel_rfl)⟩
   clear h
   rintro fr S ⟨y191,fr,h,rfl,rfl⟩
   subst hK193
   refine r_done ?_
   refine r_bind ?_
   refine r_meet (fun fr S => ∃ fr0,fr = updL [(6,.bool ((decide ((migrate_Migration_Tenant y191) = who0.a0)) && ((decide ((migrate_Migration_From y191) = who0.a1)) && (decide ((migrate_Migration_To y191) = who0.a2)))))] fr0 ∧ S = ⟨ρ,.obj bq7 (en_migrate_Migration y191) 97 :: .obj bq1 (en_Arr4_Int who0) 35 :: L⟩) ?_ ?_
   refine r_mix tt_ok hm_ok _ _ [] (.pure 0 (.vb 2 (.vb 3 (.eff 1 (.pure 4 (.pure 5 (.pure 6 (.vb 8 (.vb 9 (.eff 7 (.pure 10 (.pure 11 (.pure 12 (.pure 13 (.vb 15 (.vb 16 (.eff 14 (.pure 17 (.pure 18 (.pure 19 .nil)))))))))))))))))))) (le_w [true,true]) (le_w [true,true]) ?_ ?_
   ·decide +kernel
   refine x_p rfl ?_
   refine v_done ?_
   refine x_vb rfl ?_
   refine v_check (by decide) ?_
   refine v_done ?_
   refine x_kp [(3,.pointer (some ⟨bq1,0,none⟩)),(7,.pointer (some ⟨bq7,0,none⟩)),(102,.pointer (some ⟨bq7,0,none⟩)),(104,.pointer (some ⟨bq1,0,none⟩))] (by kernel_rfl) fun fr => ?_
   refine x_vb rfl ?_
   refine v_ld 1 tt_ok (v := .int .i64 who0.a0) ts_3 rfl (by kernel_rfl) ?_
   refine v_done ?_
   refine x_e rfl ?_
   refine r_call (hc_26 (bm0 := bq7) (m0 := y191)) ?_
   rintro _ _ ⟨rfl,rfl⟩
   refine r_done ⟨rfl,k_a (le_w [true,true]) (le_w [true,true]),?_⟩
   refine x_p rfl ?_
   refine v_done ?_
   refine x_p rfl ?_
   refine v_done ?_
   refine x_p rfl ?_
   refine v_ite (fun (hb194 : (decide ((migrate_Migration_Tenant y191) = who0.a0)) = true) => ?_) (fun (hb194 : (decide ((migrate_Migration_Tenant y191) = who0.a0)) = false) => ?_)
   ·refine v_done ?_
    refine x_vb rfl ?_
    refine v_T rfl ?_
    refine v_check (by decide) ?_
    refine v_done ?_
    refine x_vb rfl ?_
    refine v_T rfl ?_
    refine v_ld 1 tt_ok (v := .int .i64 who0.a1) ts_3 rfl (by kernel_rfl) ?_
    refine v_done ?_
    refine x_e rfl ?_
    refine r_T rfl ?_
    refine r_call (hc_27 (bm0 := bq7) (m0 := y191)) ?_
    rintro _ _ ⟨rfl,rfl⟩
    refine r_done ⟨rfl,k_a (le_w [true,true]) (le_w [true,true]),?_⟩
    refine x_p rfl ?_
    refine v_T rfl ?_
    refine v_done ?_
    refine x_kp [(3,.pointer (some ⟨bq1,0,none⟩)),(7,.pointer (some ⟨bq7,0,none⟩)),(107,.bool true),(112,.bool (decide ((migrate_Migration_From y191) = who0.a1)))] (by kernel_rfl) fun fr => ?_
    refine x_p rfl ?_
    refine v_done ?_
    refine x_p rfl ?_
    refine v_done ?_
    refine x_p rfl ?_
    refine v_ite (fun (hb195 : (decide ((migrate_Migration_From y191) = who0.a1)) = true) => ?_) (fun (hb195 : (decide ((migrate_Migration_From y191) = who0.a1)) = false) => ?_)
    ·refine v_done ?_
     refine x_vb rfl ?_
     refine v_T rfl ?_
     refine v_check (by decide) ?_
     refine v_done ?_
     refine x_vb rfl ?_
     refine v_T rfl ?_
     refine v_ld 1 tt_ok (v := .int .i64 who0.a2) ts_3 rfl (by kernel_rfl) ?_
     refine v_done ?_
     refine x_e rfl ?_
     refine r_T rfl ?_
     refine r_call (hc_28 (bm0 := bq7) (m0 := y191)) ?_
     rintro _ _ ⟨rfl,rfl⟩
     refine r_done ⟨rfl,k_a (le_w [true,true]) (le_w [true,true]),?_⟩
     refine x_p rfl ?_
     refine v_T rfl ?_
     refine v_done ?_
     refine x_p rfl ?_
     refine v_done ?_
     refine x_p rfl ?_
     refine v_done ?_
     refine x_k [(6,.bool (decide ((migrate_Migration_To y191) = who0.a2)))] (by kernel_rfl) fun fr => ?_
     exact r_done ⟨_,fr_eq _ (by (try rw [hb195]); (try rw [hb194]); kernel_rfl),(by kernel_rfl)⟩
    ·refine v_done ?_
     refine x_vb rfl ?_
     refine v_F rfl ?_
     refine v_done ?_
     refine x_vb rfl ?_
     refine v_F rfl ?_
     refine v_done ?_
     refine x_e rfl ?_
     refine r_F rfl ?_
     refine r_done ⟨rfl,k_a (le_w [true,true]) (le_w [true,true]),?_⟩
     refine x_p rfl ?_
     refine v_F rfl ?_
     refine v_done ?_
     refine x_p rfl ?_
     refine v_F rfl ?_
     refine v_done ?_
     refine x_p rfl ?_
     refine v_done ?_
     refine x_k [(6,.bool false)] (by kernel_rfl) fun fr => ?_
     exact r_done ⟨_,fr_eq _ (by (try rw [hb195]); (try rw [hb194]); kernel_rfl),(by kernel_rfl)⟩
   ·refine v_done ?_
    refine x_vb rfl ?_
    refine v_F rfl ?_
    refine v_done ?_
    refine x_vb rfl ?_
    refine v_F rfl ?_
    refine v_done ?_
    refine x_e rfl ?_
    refine r_F rfl ?_
    refine r_done ⟨rfl,k_a (le_w [true,true]) (le_w [true,true]),?_⟩
    refine x_p rfl ?_
    refine v_F rfl ?_
    refine v_done ?_
    refine x_kp [(3,.pointer (some ⟨bq1,0,none⟩)),(7,.pointer (some ⟨bq7,0,none⟩)),(107,.bool false),(112,undef)] (by kernel_rfl) fun fr => ?_
    refine x_p rfl ?_
    refine v_F rfl ?_
    refine v_done ?_
    refine x_p rfl ?_
    refine v_done ?_
    refine x_p rfl ?_
    refine v_F rfl ?_
    refine v_done ?_
    refine x_vb rfl ?_
    refine v_F rfl ?_
    refine v_done ?_
    refine x_vb rfl ?_
    refine v_F rfl ?_
    refine v_done ?_
    refine x_e rfl ?_
    refine r_F rfl ?_
    refine r_done ⟨rfl,k_a (le_w [true,true]) (le_w [true,true]),?_⟩
    refine x_p rfl ?_
    refine v_F rfl ?_
    refine v_done ?_
    refine x_p rfl ?_
    refine v_F rfl ?_
    refine v_done ?_
    refine x_p rfl ?_
    refine v_done ?_
    refine x_k [(6,.bool false)] (by kernel_rfl) fun fr => ?_
    exact r_done ⟨_,fr_eq _ (by (try rw [hb194]); kernel_rfl),(by kernel_rfl)⟩
   rintro fr S ⟨fr,rfl,rfl⟩
   refine r_done ?_
   repeat refine r_done ?_
   repeat refine r_done ?_
   obtain rfl := h_out h
   exact ret_of (RV.tmp RV.nil) (le_w [false,false]) ⟨rfl,rfl⟩
end Go.Proofs.YtjhdppioeehahaaK
