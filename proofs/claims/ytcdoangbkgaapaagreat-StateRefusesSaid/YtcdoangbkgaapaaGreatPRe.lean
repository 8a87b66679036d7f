/- The law StateRefuses. No condition. -/
import Derived.Test.YtcdoangbkgaapaaGreatPNe
import Derived.Test.YtcdoangbkgaapaaGreatPFr
set_option linter.unusedVariables false
set_option linter.unusedSectionVars false
set_option linter.unusedSimpArgs false
set_option maxHeartbeats 4000000
namespace Go.Proofs.YtcdoangbkgaapaaGreatK
open Go
attribute [local irreducible] loop runN
theorem spoilt_tot (e : Entry) (w b : Int) : Tot (cellplanemake_Spoilt e w b) fun _ => True := by
  unfold cellplanemake_Spoilt
  refine Tot.bind (mod_tot w 9 (by decide)) fun n _ => ?_
  repeat' (first | exact Tot.pure trivial | refine Tot.dec (fun _ => ?_) (fun _ => ?_))
theorem law_StateRefuses (l more : List Int) (w b : Int) : cellplanelaw12_StateRefuses l more w b = some true := by
  have : Tot (cellplanelaw12_StateRefuses l more w b) fun b => b = true := by
    unfold cellplanelaw12_StateRefuses
    refine light_frame fun hl hm => Tot.bind (config_tot l hl) fun c hc => Tot.bind (state_tot hc more hm 20 (by decide)) ?_
    rintro s ⟨hw,hcount⟩
    have h1 := hw.wf.tn
    have h2 := hw.wf.cn
    have h3 := hc.tn
    have h4 := hc.cn
    refine Tot.bind (P := fun _ => True) (Tot.bind (entry_tot hc hw.wf (lb := 0) (l := l) (a := 0) (m := 0) ⟨hl,by decide,by decide,by decide⟩ (by decide)) ?_) fun e _ => ?_
    · rintro ⟨e,a⟩ _
      exact Tot.bind (spoilt_tot e w b) fun _ _ => Tot.pure trivial
    rw [r_copied_eq (by omega) (by omega),Option.bind_some]
    obtain ⟨x,f,v,hx,hv,z1,c1,c2⟩ := apply_codes hc hw e
    have hw2 : WX c { s with Count := 4096 } := ⟨⟨hw.wf.tn,hw.wf.cn,hw.wf.tick,by simp,hw.wf.low,hw.wf.te,hw.wf.ce⟩,hw.pr,hw.ev,hw.sh,hw.cap⟩
    obtain ⟨y,g,v',hy,hv',z2,d1,d2⟩ := apply_codes hc hw2 e
    rw [hv] at hv'
    injection hv' with hv'
    subst hv'
    unfold state_Check
    rw [valid_eq hc,hx,hy,hv,aw12]
    simp only [Option.bind_some,if_true]
    cases v with
    | false =>
      have q1 := c1 rfl
      have q2 := d1 rfl
      subst q1 q2
      rw [z1 (by decide),r_same_eq (by simp [zS]) (by simp [zS])]
      exact Tot.pure (by rfl)
    | true =>
      obtain ⟨q1,_,q3⟩ := c2 rfl
      obtain ⟨_,q2,_⟩ := d2 rfl
      have q2 := q2 (by simp)
      subst q2
      have q3 := q3 (by omega)
      have e3 : decide (f = 3) = decide (e.Tick < s.Tick) := by rw [Bool.eq_iff_iff]; simp [q3]
      by_cases hf : f = 0
      · subst hf
        simp only [decide_true,if_true,e3.symm]
        simp [e3.symm]
        exact Tot.pure rfl
      · rw [z1 hf,r_same_eq (by simp [zS]) (by simp [zS])]
        simp [hf,q1,e3,zS]
        exact Tot.pure rfl
  obtain ⟨x,hx,rfl⟩ := this
  exact hx
end Go.Proofs.YtcdoangbkgaapaaGreatK
