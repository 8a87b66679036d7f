/- The claim's row of StateSame. No condition. -/
import Derived.Test.YtcdoangbkgaapaaGreatRows
import Derived.Test.YtcdoangbkgaapaaGreatRK
import Derived.Test.YtcdoangbkgaapaaGreatG4
import Derived.Test.YtcdoangbkgaapaaGreatPSa
import Derived.WalkKit
import Derived.ProofKit
import Derived.OpenShut
import Derived.ShutString
import Derived.ChangeOld
import Derived.Below
import Derived.SizedLaws
namespace Go.Proofs.YtcdoangbkgaapaaGreat.stateSame
open Go Go.ChangeShapes Go.WideShapes Go.ChangeAt Go.RowKit Go.Proofs.YtcdoangbkgaapaaGreatK
theorem own : ownKnob Tryz.prog.godebug = none := by kernel_rfl
theorem laidOut : laidOutB Tryz.prog = true := by kernel_rfl
set_option maxRecDepth 100000 in
theorem lifted (os : Os) (started : os.Started) (H : Type) (enc : TypeId × Value → H) :
    ReturnsInHanded {} Tryz.checked os 8 .any (Rows.stateSameSpec.pre6 enc Tryz.prog Tryz.f8 Rows.stateSameRow.domain false) (Rows.stateSameSpec.post enc Tryz.prog Tryz.f8 false true false false) := by
  refine returnsInHanded_of_change_sized (C := Tryz.checked) own started (by kernel_rfl) Tryz.func8
    (ChangeSpec.witness6 (enc := enc) (C := Tryz.checked) false ⟨#[],#[.slice none 0 0,.int .i64 0,.int .i64 0],[]⟩ 8 (by kernel_rfl) (by kernel_rfl) (by kernel_rfl) (by kernel_rfl)) ?_
  intro W base args ds gs before hval0 hW _ _ _
  have hval : ∀ (j : Nat) t v,Tryz.f8.params[j]? = some t → args[j]? = some v → Value.okWide Tryz.prog W .any base t v := hval0
  have hW' := hW
  obtain ⟨p,q,hA0,hV,rfl,hfz,hnd⟩ := hW
  have hA : DataW.TrodAll enc Tryz.prog W 0 (fun _ => true) true Tryz.f8.params.toList args.toList ds p := hA0
  rw [Tryz.params8] at hA hval
  obtain ⟨v0,vs0,d0,ds0,p0,q0,hargs,rfl,rfl,h0,r0⟩ := trodAll_cons hA
  obtain ⟨v1,vs1,d1,ds1,p1,q1,rfl,rfl,rfl,h1,r1⟩ := trodAll_cons r0
  obtain ⟨v2,vs2,d2,ds2,p2,q2,rfl,rfl,rfl,h2,r2⟩ := trodAll_cons r1
  obtain ⟨rfl,rfl,rfl⟩ := trodAll_nil r2
  obtain rfl : args = #[v0,v1,v2] := by cases args; simp_all
  obtain ⟨rfl,rfl⟩ := trodVars_none hV
  obtain ⟨a0,len0,cap0,rfl⟩ := okWide_slice Tryz.underlying22 (hval 0 22 v0 rfl rfl)
  have lt0 : ∀ x ∈ p0,x.block < W.heap.size := by
    obtain ⟨m,hm⟩ := h0
    exact DataW.trod_lt m _ _ _ hm
  obtain ⟨l0,rfl,hr0⟩ := rk_ints Tryz.underlying22 Tryz.underlying3 (by kernel_rfl) h0
  obtain ⟨a1,rfl,rfl,rfl,w1⟩ := open_int Tryz.underlying3 (hval 1 3 v1 rfl rfl) h1
  obtain ⟨a2,rfl,rfl,rfl,w2⟩ := open_int Tryz.underlying3 (hval 2 3 v2 rfl rfl) h2
  refine (HC.calls (W := W) (hc_8 (ρ := W.cell?) (L := []) (le0 W) l0 a1 a2 hr0 (law_StateSame _ _ _))).mono fun e W' ⟨he,bel⟩ => ?_
  subst he
  exact ⟨_,rfl,_,_,_,[],_,[],hW',trodAll_mk1 (shut_bool Tryz.underlying4 _),(trodAll_cons_mk (Below.trod laidOut (by kernel_rfl) (of_decide_eq_true (by kernel_rfl)) h0 bel lt0) (trodAll_cons_mk (shut_int Tryz.underlying3 w1) (trodAll_cons_mk (shut_int Tryz.underlying3 w2) trodAll_mk0))),rfl,bel.frame _,fun h => by cases h⟩
theorem over : Rows.stateSameRow.holds Tryz.pinned (OpenSpec.ofChange Rows.stateSameSpec) :=
  OpenClaim.holds_of_wide 8 Tryz.f8 rfl rfl rfl rfl rfl rfl rfl ⟨rfl,rfl,rfl,rfl,rfl⟩ rfl rfl rfl rfl rfl (by kernel_rfl) Tryz.func8 (by kernel_rfl)
    (of_decide_eq_true (by kernel_rfl)) (by unfold Func.isWrapper; first | (rw [if_pos (by decide +kernel)]; kernel_rfl) | (rw [if_neg (by decide +kernel)]; exact ⟨rfl,rfl⟩))
    (fun os started H enc _ => lifted os started H enc)
theorem proved : Rows.StateSameSaid := over
#print axioms proved
end Go.Proofs.YtcdoangbkgaapaaGreat.stateSame
namespace Go.Proofs.YtcdoangbkgaapaaGreat
theorem stateSame_holds : Rows.StateSameSaid := stateSame.proved
end Go.Proofs.YtcdoangbkgaapaaGreat
