/- The law StateOwn. No condition. -/
import Derived.Test.YtcdoangbkgaapaaGreatPSta
import Derived.Test.YtcdoangbkgaapaaGreatPFr
set_option linter.unusedVariables false
set_option linter.unusedSectionVars false
set_option linter.unusedSimpArgs false
set_option maxHeartbeats 4000000
namespace Go.Proofs.YtcdoangbkgaapaaGreatK
open Go
attribute [local irreducible] loop runN
theorem own_b3 (cs : List CellState) (h : cs.length ≤ 100000) : Tot (loop cellplanelaw12_StateOwn.b3 (0,cs)) fun _ => True := by
  refine Tot.loop (fun x : Int × List CellState => (0 ≤ x.1 ∧ x.1 ≤ x.2.length) ∧ x.2.length = cs.length) (fun x => (x.2.length - x.1).toNat) ⟨by simp,rfl⟩ ?_
  rintro ⟨i,xs⟩ ⟨hi,hx⟩
  simp only at hi hx
  unfold cellplanelaw12_StateOwn.b3
  refine Tot.dec (fun h => Tot.bind (tot_idx hi.1 h) fun x _ => Tot.pure ⟨⟨?_,?_⟩,?_⟩) fun _ => Tot.map (Tot.pure trivial)
  · simp only [List.length_set]; rw [w64_s (by omega)]; omega
  · simp only [List.length_set]; exact hx
  · simp only [List.length_set]; rw [w64_s (by omega)]; omega
theorem own_b5 (cs : List TenantState) (h : cs.length ≤ 100000) : Tot (loop cellplanelaw12_StateOwn.b5 (0,cs)) fun _ => True := by
  refine Tot.loop (fun x : Int × List TenantState => (0 ≤ x.1 ∧ x.1 ≤ x.2.length) ∧ x.2.length = cs.length) (fun x => (x.2.length - x.1).toNat) ⟨by simp,rfl⟩ ?_
  rintro ⟨i,xs⟩ ⟨hi,hx⟩
  simp only at hi hx
  unfold cellplanelaw12_StateOwn.b5
  refine Tot.dec (fun h => Tot.bind (tot_idx hi.1 h) fun x _ => Tot.pure ⟨⟨?_,?_⟩,?_⟩) fun _ => Tot.map (Tot.pure trivial)
  · simp only [List.length_set]; rw [w64_s (by omega)]; omega
  · simp only [List.length_set]; exact hx
  · simp only [List.length_set]; rw [w64_s (by omega)]; omega
theorem law_StateOwn (l more : List Int) : cellplanelaw12_StateOwn l more = some true := by
  have : Tot (cellplanelaw12_StateOwn l more) fun b => b = true := by
    unfold cellplanelaw12_StateOwn
    refine light_frame fun hl hm => Tot.bind (config_tot l hl) fun c hc => Tot.bind (state_tot hc more hm 20 (by decide)) ?_
    rintro s ⟨hw,_⟩
    have h1 := hw.wf.tn
    have h2 := hw.wf.cn
    have h3 := hc.tn
    have h4 := hc.cn
    rw [r_copied_eq (by omega) (by omega),Option.bind_some]
    refine Tot.bind (P := fun _ => True) (Tot.bind (entry_tot hc hw.wf (lb := 0) (l := l) (a := 0) (m := 0) ⟨hl,by decide,by decide,by decide⟩ (by decide)) ?_) fun e _ => ?_
    · rintro ⟨e,a⟩ _
      exact Tot.pure trivial
    obtain ⟨⟨y,err⟩,hy,q1,q2⟩ := apply_res hc hw e
    rw [apply_eq hc hw,hy]
    simp only [Option.bind_some]
    simp only at q1 q2
    have hlen : y.Tenants.length ≤ 100000 ∧ y.Cells.length ≤ 100000 := by
      by_cases he : err = 0
      · have := (wx_step hc hw (q1 he)).wf
        have t1 := this.tn
        have t2 := this.cn
        omega
      · rw [q2 he]; simp [zS]
    rw [r_same_eq (by omega) (by omega),r_same_eq (by omega) (by omega)]
    simp only [Option.bind_some,decide_true,Bool.not_true,Bool.false_eq_true,if_false]
    refine Tot.bind (own_b3 _ hlen.2) fun _ _ => Tot.bind (own_b5 _ hlen.1) fun _ _ => ?_
    rw [aw12]
    simp only [Option.bind_some,if_true]
    exact Tot.pure rfl
  obtain ⟨x,hx,rfl⟩ := this
  exact hx
end Go.Proofs.YtcdoangbkgaapaaGreatK
