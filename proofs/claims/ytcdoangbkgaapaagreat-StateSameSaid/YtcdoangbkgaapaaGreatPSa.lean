/- The law StateSame. No condition. -/
import Derived.Test.YtcdoangbkgaapaaGreatPEq
import Derived.Test.YtcdoangbkgaapaaGreatPFr
set_option linter.unusedVariables false
set_option linter.unusedSectionVars false
set_option linter.unusedSimpArgs false
set_option maxHeartbeats 4000000
namespace Go.Proofs.YtcdoangbkgaapaaGreatK
open Go
attribute [local irreducible] loop runN
def Len (p : Int × Int × List TenantState × List CellState × Int × Int × Int × Int) : Prop := p.2.2.1.length ≤ 1000000 ∧ p.2.2.2.1.length ≤ 1000000
theorem law_StateSame (l : List Int) (w b : Int) : cellplanelaw12_StateSame l w b = some true := by
  have : Tot (cellplanelaw12_StateSame l w b) fun b => b = true := by
    unfold cellplanelaw12_StateSame
    rw [aw12]
    unfold cellplanemake_Light
    refine Tot.ndec (fun _ => Tot.pure rfl) fun h => ?_
    refine Tot.bind (config_tot l (by omega)) fun c hc => Tot.bind (state_tot hc l (by omega) 30 (by decide)) ?_
    rintro s ⟨hw,_⟩
    have h1 := hw.wf.tn
    have h2 := hw.wf.cn
    have h3 := hc.tn
    have h4 := hc.cn
    rw [r_copied_eq (by omega) (by omega),Option.bind_some]
    refine Tot.bind (mod_tot b _ (by omega)) fun k hk => ?_
    have B : ∀ {ti co pr ev lo hi : Int} {ts : List TenantState} {cs : List CellState},ts.length ≤ 1000000 → cs.length ≤ 1000000 → Tot (some (ti,co,ts,cs,pr,ev,lo,hi)) Len := fun h5 h6 => Tot.pure ⟨h5,h6⟩
    have t1 : s.Tenants.length ≤ 1000000 := by omega
    have t2 : s.Cells.length ≤ 1000000 := by omega
    refine Tot.bind (P := Len) (Tot.bind (mod_tot w 12 (by decide)) fun n _ => ?_) ?_
    · refine Tot.dec (fun _ => B t1 t2) fun _ => Tot.dec (fun _ => B t1 t2) fun _ => Tot.dec (fun _ => B t1 t2) fun _ => Tot.dec (fun _ => B t1 t2) fun _ => Tot.dec (fun _ => B t1 t2) fun _ => Tot.dec (fun _ => B t1 t2) fun _ => Tot.dec (fun _ => Tot.bind (tot_idx hk.1 hk.2) fun _ _ => B t1 (by simpa using t2)) fun _ => Tot.dec (fun _ => Tot.bind (tot_idx hk.1 hk.2) fun _ _ => B t1 (by simpa using t2)) fun _ => Tot.dec (fun _ => Tot.bind (tot_idx hk.1 hk.2) fun _ _ => B t1 (by simpa using t2)) fun _ => Tot.dec (fun _ => Tot.bind (tot_cut (by omega)) ?_) fun _ => ?_
      · rintro _ rfl
        exact B t1 (by simp; omega)
      · refine Tot.loop (fun x : Int × List TenantState => (0 ≤ x.1 ∧ x.1 ≤ x.2.length) ∧ x.2.length ≤ 1000000) (fun x => (x.2.length - x.1).toNat) ⟨by simp,t1⟩ ?_
        rintro ⟨i,xs⟩ ⟨hi,hx⟩
        simp only at hi hx
        unfold cellplanelaw12_StateSame.b2
        refine Tot.ite (fun h => ?_) fun _ => Tot.map (Tot.pure ⟨hx,t2⟩)
        simp only [Bool.and_eq_true,decide_eq_true_eq] at h
        refine Tot.bind (tot_idx hi.1 h.1) fun x _ => Tot.pure ⟨⟨?_,?_⟩,?_⟩
        · simp only [List.length_set]; rw [w64_s (by omega)]; omega
        · simp only [List.length_set]; exact hx
        · simp only [List.length_set]; rw [w64_s (by omega)]; omega
    · rintro ⟨ti,co,ts,cs,pr,ev,lo,hi⟩ ⟨l1,l2⟩
      dsimp only
      simp only at l1 l2
      simp only [Option.bind_some,if_true]
      rw [p_same_eq t1 t2,r_same_eq t1 t2,p_same_eq (a := ⟨ti,co,ts,cs,pr,ev,lo,hi⟩) l1 l2]
      simp only [Option.bind_some]
      by_cases hq : s = ⟨ti,co,ts,cs,pr,ev,lo,hi⟩
      · rw [← hq]; simp; exact Tot.pure rfl
      · have hq2 : ¬ (⟨ti,co,ts,cs,pr,ev,lo,hi⟩ : State) = s := fun h => hq h.symm
        simp [hq,hq2]; exact Tot.pure rfl
  obtain ⟨x,hx,rfl⟩ := this
  exact hx
end Go.Proofs.YtcdoangbkgaapaaGreatK
