/- The states that are made were reached. No condition. -/
import Derived.Test.YtcdoangbkgaapaaGreatPFo
set_option linter.unusedVariables false
set_option maxHeartbeats 4000000
namespace Go.Proofs.YtcdoangbkgaapaaGreatK
open Go
attribute [local irreducible] loop runN
theorem r_fold_from {c : Config} (hc : Good c) (xs : List Entry) (hl : xs.length ≤ 100000) (R : State × Int × Int) (i0 : Int) (s0 : State) (h0 : 0 ≤ i0 ∧ i0 ≤ xs.length) (hw0 : WX c s0) (hR : foldP c s0 (xs.drop i0.toNat) i0 = R) :
    Tot (loop (cellplaneref12_Fold.b2 xs c) (i0,s0.Tick,s0.Count,s0.Tenants,s0.Cells,s0.Proven,s0.Evacuating,s0.Low,s0.High)) fun r => r = R := by
  refine Tot.loop (fun x : Int × Int × Int × List TenantState × List CellState × Int × Int × Int × Int => (0 ≤ x.1 ∧ x.1 ≤ xs.length) ∧ WX c ⟨x.2.1,x.2.2.1,x.2.2.2.1,x.2.2.2.2.1,x.2.2.2.2.2.1,x.2.2.2.2.2.2.1,x.2.2.2.2.2.2.2.1,x.2.2.2.2.2.2.2.2⟩ ∧ foldP c ⟨x.2.1,x.2.2.1,x.2.2.2.1,x.2.2.2.2.1,x.2.2.2.2.2.1,x.2.2.2.2.2.2.1,x.2.2.2.2.2.2.2.1,x.2.2.2.2.2.2.2.2⟩ (xs.drop x.1.toNat) x.1 = R) (fun x => (xs.length - x.1).toNat) ⟨h0,hw0,hR⟩ ?_
  rintro ⟨i,ti,co,ts,cs,pr,ev,lo,hi⟩ ⟨hi',hw,hr⟩
  simp only at hi' hw hr
  unfold cellplaneref12_Fold.b2
  have hn : (i + 1).toNat = i.toNat + 1 := by omega
  refine Tot.dec (fun h => ?_) fun h => ?_
  · obtain ⟨e,he',he⟩ := tot_idx (xs := xs) hi'.1 h
    obtain ⟨⟨y,err⟩,hy,h1,h2⟩ := apply_res hc hw e
    rw [he',Option.bind_some,apply_eq hc hw,hy]
    simp only [Option.bind_some]
    simp only at h1
    rw [drop_cons he,foldP_step hy] at hr
    refine Tot.ndec (fun h3 => Tot.map (Tot.pure ?_)) fun h3 => Tot.pure ⟨⟨?_,wx_step hc hw (h1 h3),?_⟩,?_⟩
    · rw [if_neg h3] at hr; exact hr
    · simp only; rw [w64_s (by omega)]; omega
    · rw [if_pos h3] at hr; simp only; rw [w64_s (by omega),hn]; exact hr
    · simp only; rw [w64_s (by omega)]; omega
  · unfold cellplaneref12_Fold.j1
    have hi2 : i = xs.length := by omega
    rw [hi2] at hr
    simp only [Int.toNat_natCast,List.drop_length] at hr
    exact Tot.map (Tot.pure hr)
theorem r_fold_tot {c : Config} (hc : Good c) (xs : List Entry) (hl : xs.length ≤ 100000) : Tot (cellplaneref12_Fold c xs) fun r => r = foldP c (newS c) xs 0 := by
  unfold cellplaneref12_Fold
  rw [new_eq]
  refine Tot.bind (new_tot hc) ?_
  rintro _ rfl
  exact r_fold_from hc xs hl _ 0 (newS c) (by omega) (wx_new hc) rfl
theorem state_tot {c : Config} (hc : Good c) (l : List Int) (hl : l.length ≤ 200) (n : Int) (hn : 0 ≤ n ∧ n ≤ 100) : Tot (cellplanemake_State l c n) fun s => WX c s ∧ s.Count ≤ n := by
  unfold cellplanemake_State
  refine Tot.bind (P := fun p : Int × Int × List TenantState × List CellState × Int × Int × Int × Int => WX c ⟨p.1,p.2.1,p.2.2.1,p.2.2.2.1,p.2.2.2.2.1,p.2.2.2.2.2.1,p.2.2.2.2.2.2.1,p.2.2.2.2.2.2.2⟩ ∧ p.2.1 ≤ n) (Tot.bind (log_tot hc l hl n hn) ?_) ?_
  · rintro xs ⟨hx,y,hr⟩
    refine Tot.bind (r_fold_tot hc xs (by omega)) ?_
    rintro _ rfl
    rw [foldP_run hr]
    have := hr.wx hc (wx_new hc)
    refine Tot.pure ⟨this.1,?_⟩
    simp only
    rw [this.2]
    simp only [newS]
    omega
  · rintro ⟨ti,co,ts,cs,pr,ev,lo,hi⟩ ⟨h1,h2⟩
    exact Tot.pure ⟨h1,h2⟩
end Go.Proofs.YtcdoangbkgaapaaGreatK
