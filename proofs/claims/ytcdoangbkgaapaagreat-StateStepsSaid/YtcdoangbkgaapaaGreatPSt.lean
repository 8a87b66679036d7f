/- The law StateSteps. No condition. -/
import Derived.Test.YtcdoangbkgaapaaGreatPFo
import Derived.Test.YtcdoangbkgaapaaGreatPFr
set_option linter.unusedVariables false
set_option linter.unusedSectionVars false
set_option linter.unusedSimpArgs false
set_option maxHeartbeats 4000000
namespace Go.Proofs.YtcdoangbkgaapaaGreatK
open Go
attribute [local irreducible] loop runN
theorem law_StateSteps (l more : List Int) (k : Int) : cellplanelaw12_StateSteps l more k = some true := by
  have : Tot (cellplanelaw12_StateSteps l more k) fun b => b = true := by
    unfold cellplanelaw12_StateSteps
    refine light_frame fun hl hm => Tot.bind (config_tot l hl) fun c hc => Tot.bind (log_tot hc more hm 40 (by decide)) ?_
    rintro xs ⟨hx, y, hr⟩
    rw [w64_s (n := (xs.length : Int) + 1) (by omega)]
    refine Tot.bind (mod_tot k _ (by omega)) fun j hj => ?_
    obtain ⟨m, r1, r2⟩ := hr.split j.toNat
    have hw0 := wx_new hc
    have hwm := (r1.wx hc hw0).1
    have hwy := hr.wx hc hw0
    refine Tot.bind (P := fun p : Int × Int × List TenantState × List CellState × Int × Int × Int × Int × Int × Int => p = (m.Tick, m.Count, m.Tenants, m.Cells, m.Proven, m.Evacuating, m.Low, m.High, j, 0)) (Tot.bind (tot_cut (by omega)) ?_) ?_
    · rintro _ rfl
      rw [show (0 : Int).toNat = 0 from rfl, List.drop_zero]
      refine Tot.bind (fold_tot hc _ (by simp; omega)) ?_
      rintro _ rfl
      rw [foldP_run r1]
      refine Tot.pure ?_
      have : (0 : Int) + ((xs.take j.toNat).length : Int) = j := by simp only [List.length_take]; omega
      simp only [this]
    · rintro _ rfl
      dsimp only
      rw [if_neg (by simp)]
      refine Tot.loop (fun x : Int × Int × Int × List TenantState × List CellState × Int × Int × Int × Int => (0 ≤ x.1 ∧ x.1 ≤ xs.length) ∧ WX c ⟨x.2.1, x.2.2.1, x.2.2.2.1, x.2.2.2.2.1, x.2.2.2.2.2.1, x.2.2.2.2.2.2.1, x.2.2.2.2.2.2.2.1, x.2.2.2.2.2.2.2.2⟩ ∧ Run c ⟨x.2.1, x.2.2.1, x.2.2.2.1, x.2.2.2.2.1, x.2.2.2.2.2.1, x.2.2.2.2.2.2.1, x.2.2.2.2.2.2.2.1, x.2.2.2.2.2.2.2.2⟩ (xs.drop x.1.toNat) y) (fun x => (xs.length - x.1).toNat) ⟨by simp only; omega, hwm, r2⟩ ?_
      rintro ⟨i, ti, co, ts, cs, pr, ev, lo, hi⟩ ⟨hi', hw, hrun⟩
      simp only at hi' hw hrun
      unfold cellplanelaw12_StateSteps.b3
      have hn : (i + 1).toNat = i.toNat + 1 := by omega
      refine Tot.dec (fun h => ?_) fun h => ?_
      · obtain ⟨e, he', he⟩ := tot_idx (xs := xs) hi'.1 h
        rw [drop_cons he] at hrun
        obtain ⟨x, hx', hrun⟩ := hrun
        have h1 := ((apply_res hc hw e).eq hx').1 rfl
        rw [he', Option.bind_some, hx']
        simp only [Option.bind_some]
        refine Tot.ndec (fun h3 => absurd (by simp) h3) fun _ => Tot.pure ⟨⟨?_, wx_step hc hw h1, ?_⟩, ?_⟩
        · simp only; rw [w64_s (by omega)]; omega
        · simp only; rw [w64_s (by omega), hn]; exact hrun
        · simp only; rw [w64_s (by omega)]; omega
      · have hi2 : i = xs.length := by omega
        rw [hi2] at hrun
        simp only [Int.toNat_natCast, List.drop_length] at hrun
        have hy : y = ⟨ti, co, ts, cs, pr, ev, lo, hi⟩ := hrun
        unfold cellplanelaw12_StateSteps.j2
        refine Tot.map (Tot.bind (fold_tot hc xs (by omega)) ?_)
        rintro _ rfl
        rw [foldP_run hr, aw12]
        simp only [Option.bind_some, if_true]
        have h1 := hwy.1.wf.tn
        have h2 := hwy.1.wf.cn
        have h3 := hc.tn
        have h4 := hc.cn
        have hct : co = xs.length := by
          have := hwy.2
          rw [hy] at this
          simpa [newS] using this
        rw [hy] at h1 h2 ⊢
        simp only at h1 h2
        rw [r_same_eq (by simp only; omega) (by simp only; omega)]
        simp [hct]
        exact Tot.pure rfl
  obtain ⟨x, hx, rfl⟩ := this
  exact hx
end Go.Proofs.YtcdoangbkgaapaaGreatK
