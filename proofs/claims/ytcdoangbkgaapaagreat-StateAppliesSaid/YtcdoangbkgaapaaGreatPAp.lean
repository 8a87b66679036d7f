/- The law StateApplies. No condition. -/
import Derived.Test.YtcdoangbkgaapaaGreatPSta
import Derived.Test.YtcdoangbkgaapaaGreatPFr
set_option linter.unusedVariables false
set_option linter.unusedSectionVars false
set_option linter.unusedSimpArgs false
set_option maxHeartbeats 4000000
namespace Go.Proofs.YtcdoangbkgaapaaGreatK
open Go
attribute [local irreducible] loop runN
theorem spoilt_tot (e : Entry) (w b : Int) : Tot (cellplanemake_Spoilt e w b) fun _ => True := by
  unfold cellplanemake_Spoilt
  refine Tot.bind (mod_tot w 9 (by decide)) fun n _ => ?_
  repeat' (first | exact Tot.pure trivial | refine Tot.dec (fun _ => ?_) (fun _ => ?_))
theorem law_StateApplies (l more : List Int) (raw : Entry) (w b : Int) : cellplanelaw12_StateApplies l more raw w b = some true := by
  have : Tot (cellplanelaw12_StateApplies l more raw w b) fun b => b = true := by
    unfold cellplanelaw12_StateApplies
    refine light_frame fun hl hm => Tot.bind (config_tot l hl) fun c hc => Tot.bind (state_tot hc more hm 40 (by decide)) ?_
    rintro s ⟨hw,_⟩
    refine Tot.bind (tot_app (xs := ([] : List Int)) (ys := more) (by simp only [List.length_nil]; omega)) fun zs hz => ?_
    have hzl : zs.length ≤ 200 := by rw [hz]; simpa using hm
    refine Tot.bind (tot_app (xs := zs) (ys := l) (by omega)) fun tp htp => ?_
    have hlen : tp.length ≤ 400 := by rw [htp,List.length_append]; omega
    have h3 := hc.tn
    have h4 := hc.cn
    refine Tot.loop (fun x : Int × Int × Int × List TenantState × List CellState × Int × Int × Int × Int × Int => (0 ≤ x.1 ∧ x.1 ≤ 8) ∧ Tp 0 tp x.2.2.2.2.2.2.2.2.2 (50 * x.1) ∧ WX c ⟨x.2.1,x.2.2.1,x.2.2.2.1,x.2.2.2.2.1,x.2.2.2.2.2.1,x.2.2.2.2.2.2.1,x.2.2.2.2.2.2.2.1,x.2.2.2.2.2.2.2.2.1⟩) (fun x => (8 - x.1).toNat) ⟨by simp,⟨by omega,by simp,by simp,by simp⟩,hw⟩ ?_
    rintro ⟨n,ti,co,ts,cs,pr,ev,lo,hi,a⟩ ⟨hn,ha,hw⟩
    simp only at hn ha hw
    unfold cellplanelaw12_StateApplies.b2
    refine Tot.dec (fun h8 => Tot.bind (entry_tot hc hw.wf (m := 50 * n) ha (by omega)) ?_) fun _ => ?_
    · rintro ⟨e0,a'⟩ A
      dsimp only
      simp only at A
      have A0 : Tp 0 tp a' (50 * (n + 1)) := A.w0 (by omega)
      refine Tot.bind (P := fun _ => True) (Tot.dec (fun _ => Tot.bind (spoilt_tot _ _ _) fun _ _ => Tot.pure trivial) fun _ => Tot.pure trivial) fun e1 _ => Tot.bind (P := fun _ => True) (Tot.dec (fun _ => Tot.bind (between_tot _ (by decide)) fun _ _ => Tot.bind (spoilt_tot _ _ _) fun _ _ => Tot.pure trivial) fun _ => Tot.pure trivial) fun e2 _ => Tot.bind (P := fun _ => True) (Tot.dec (fun _ => Tot.pure trivial) fun _ => Tot.pure trivial) fun e _ => ?_
      obtain ⟨⟨y,err⟩,hy,q1,q2⟩ := apply_res hc hw e
      simp only at q1 q2
      have hyl : y.Tenants.length ≤ 1000000 ∧ y.Cells.length ≤ 1000000 := by
        by_cases he : err = 0
        · have := (wx_step hc hw (q1 he)).wf
          have t1 := this.tn
          have t2 := this.cn
          omega
        · rw [q2 he]; simp [zS]
      unfold state_Check
      rw [apply_eq hc hw,hy]
      simp only [Option.bind_some]
      rw [r_same_eq hyl.1 hyl.2]
      simp only [decide_true,Bool.not_true,Bool.false_eq_true,if_false,Option.bind_some]
      have hw1 : w64 (n + 1) = n + 1 := w64_s (by omega)
      refine Tot.ite (fun h => ?_) fun _ => Tot.pure ⟨⟨by simp only; omega,by simp only; rw [hw1]; exact A0,hw⟩,by simp only; omega⟩
      simp only [Bool.and_eq_true,decide_eq_true_eq] at h
      exact Tot.pure ⟨⟨by simp only; omega,by simp only; rw [hw1]; exact A0,wx_step hc hw (q1 h.1)⟩,by simp only; omega⟩
    · unfold cellplanelaw12_StateApplies.j1
      rw [aw12]
      exact Tot.map (Tot.pure rfl)
  obtain ⟨x,hx,rfl⟩ := this
  exact hx
end Go.Proofs.YtcdoangbkgaapaaGreatK
