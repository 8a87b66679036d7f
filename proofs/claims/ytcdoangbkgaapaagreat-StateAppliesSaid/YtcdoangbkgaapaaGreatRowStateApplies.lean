/- The claim's row of StateApplies. No condition. -/
import Derived.Test.YtcdoangbkgaapaaGreatRows
import Derived.Test.YtcdoangbkgaapaaGreatRK
import Derived.Test.YtcdoangbkgaapaaGreatG4
import Derived.Test.YtcdoangbkgaapaaGreatR9
import Derived.Test.YtcdoangbkgaapaaGreatPAp
import Derived.WalkKit
import Derived.ProofKit
import Derived.OpenShut
import Derived.ShutString
import Derived.ChangeOld
import Derived.Below
import Derived.SizedLaws
namespace Go.Proofs.YtcdoangbkgaapaaGreat.stateApplies
open Go Go.ChangeShapes Go.WideShapes Go.ChangeAt Go.RowKit Go.Proofs.YtcdoangbkgaapaaGreatK
theorem own : ownKnob Tryz.prog.godebug = none := by kernel_rfl
theorem laidOut : laidOutB Tryz.prog = true := by kernel_rfl
set_option maxRecDepth 100000 in
theorem lifted (os : Os) (started : os.Started) (H : Type) (enc : TypeId × Value → H) :
    ReturnsInHanded {} Tryz.checked os 5 .any (Rows.stateAppliesSpec.pre6 enc Tryz.prog Tryz.f5 Rows.stateAppliesRow.domain false) (Rows.stateAppliesSpec.post enc Tryz.prog Tryz.f5 false true false false) := by
  refine returnsInHanded_of_change_sized (C := Tryz.checked) own started (by kernel_rfl) Tryz.func5
    (ChangeSpec.witness6 (enc := enc) (C := Tryz.checked) false ⟨#[],#[.slice none 0 0,.slice none 0 0,.agg #[.int .i64 0,.int .i64 0,.int .i64 0,.int .i64 0,.int .i64 0,.int .i64 0,.int .i64 0,.int .i64 0,.int .i64 0],.int .i64 0,.int .i64 0],[]⟩ 8 (by kernel_rfl) (by kernel_rfl) (by kernel_rfl) (by kernel_rfl)) ?_
  intro W base args ds gs before hval0 hW _ _ _
  have hval : ∀ (j : Nat) t v,Tryz.f5.params[j]? = some t → args[j]? = some v → Value.okWide Tryz.prog W .any base t v := hval0
  have hW' := hW
  obtain ⟨p,q,hA0,hV,rfl,hfz,hnd⟩ := hW
  have hA : DataW.TrodAll enc Tryz.prog W 0 (fun _ => true) true Tryz.f5.params.toList args.toList ds p := hA0
  rw [Tryz.params5] at hA hval
  obtain ⟨v0,vs0,d0,ds0,p0,q0,hargs,rfl,rfl,h0,r0⟩ := trodAll_cons hA
  obtain ⟨v1,vs1,d1,ds1,p1,q1,rfl,rfl,rfl,h1,r1⟩ := trodAll_cons r0
  obtain ⟨v2,vs2,d2,ds2,p2,q2,rfl,rfl,rfl,h2,r2⟩ := trodAll_cons r1
  obtain ⟨v3,vs3,d3,ds3,p3,q3,rfl,rfl,rfl,h3,r3⟩ := trodAll_cons r2
  obtain ⟨v4,vs4,d4,ds4,p4,q4,rfl,rfl,rfl,h4,r4⟩ := trodAll_cons r3
  obtain ⟨rfl,rfl,rfl⟩ := trodAll_nil r4
  obtain rfl : args = #[v0,v1,v2,v3,v4] := by cases args; simp_all
  obtain ⟨rfl,rfl⟩ := trodVars_none hV
  obtain ⟨a0,len0,cap0,rfl⟩ := okWide_slice Tryz.underlying22 (hval 0 22 v0 rfl rfl)
  have lt0 : ∀ x ∈ p0,x.block < W.heap.size := by
    obtain ⟨m,hm⟩ := h0
    exact DataW.trod_lt m _ _ _ hm
  obtain ⟨l0,rfl,hr0⟩ := rk_ints Tryz.underlying22 Tryz.underlying3 (by kernel_rfl) h0
  obtain ⟨a1,len1,cap1,rfl⟩ := okWide_slice Tryz.underlying22 (hval 1 22 v1 rfl rfl)
  have lt1 : ∀ x ∈ p1,x.block < W.heap.size := by
    obtain ⟨m,hm⟩ := h1
    exact DataW.trod_lt m _ _ _ hm
  obtain ⟨l1,rfl,hr1⟩ := rk_ints Tryz.underlying22 Tryz.underlying3 (by kernel_rfl) h1
  have lt2 : ∀ x ∈ p2,x.block < W.heap.size := by
    obtain ⟨m,hm⟩ := h2
    exact DataW.trod_lt m _ _ _ hm
  obtain ⟨x2,y2,z2,w2,xa2,xb2,xc2,xd2,xe2,rfl⟩ := arg_nine Tryz.underlying45 (by kernel_rfl) Tryz.underlying3 (by kernel_rfl) (okWide_nine Tryz.underlying45 (by kernel_rfl) (hval 2 45 v2 rfl rfl)) h2
  obtain ⟨a3,rfl,rfl,rfl,w3⟩ := open_int Tryz.underlying3 (hval 3 3 v3 rfl rfl) h3
  obtain ⟨a4,rfl,rfl,rfl,w4⟩ := open_int Tryz.underlying3 (hval 4 3 v4 rfl rfl) h4
  refine (HC.calls (W := W) (hc_5 (ρ := W.cell?) (L := []) (le0 W) (le0 W) l0 l1 ⟨x2,y2,z2,w2,xa2,xb2,xc2,xd2,xe2⟩ a3 a4 hr0 hr1 (law_StateApplies _ _ _ _ _))).mono fun e W' ⟨he,bel⟩ => ?_
  subst he
  exact ⟨_,rfl,_,_,_,[],_,[],hW',trodAll_mk1 (shut_bool Tryz.underlying4 _),(trodAll_cons_mk (Below.trod laidOut (by kernel_rfl) (of_decide_eq_true (by kernel_rfl)) h0 bel lt0) (trodAll_cons_mk (Below.trod laidOut (by kernel_rfl) (of_decide_eq_true (by kernel_rfl)) h1 bel lt1) (trodAll_cons_mk (Below.trod laidOut (by kernel_rfl) (of_decide_eq_true (by kernel_rfl)) h2 bel lt2) (trodAll_cons_mk (shut_int Tryz.underlying3 w3) (trodAll_cons_mk (shut_int Tryz.underlying3 w4) trodAll_mk0))))),rfl,bel.frame _,fun h => by cases h⟩
theorem over : Rows.stateAppliesRow.holds Tryz.pinned (OpenSpec.ofChange Rows.stateAppliesSpec) :=
  OpenClaim.holds_of_wide 5 Tryz.f5 rfl rfl rfl rfl rfl rfl rfl ⟨rfl,rfl,rfl,rfl,rfl⟩ rfl rfl rfl rfl rfl (by kernel_rfl) Tryz.func5 (by kernel_rfl)
    (of_decide_eq_true (by kernel_rfl)) (by unfold Func.isWrapper; first | (rw [if_pos (by decide +kernel)]; kernel_rfl) | (rw [if_neg (by decide +kernel)]; exact ⟨rfl,rfl⟩))
    (fun os started H enc _ => lifted os started H enc)
theorem proved : Rows.StateAppliesSaid := over
#print axioms proved
end Go.Proofs.YtcdoangbkgaapaaGreat.stateApplies
namespace Go.Proofs.YtcdoangbkgaapaaGreat
theorem stateApplies_holds : Rows.StateAppliesSaid := stateApplies.proved
end Go.Proofs.YtcdoangbkgaapaaGreat
