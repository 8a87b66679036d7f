/- The state without entries: what the program's New and the reference's New compute; a state is the same as itself; the law StateNew. No condition. -/
import Derived.Test.YtcdoangbkgaapaaGreatPB
import Derived.Test.YtcdoangbkgaapaaGreatPaw
set_option linter.unusedVariables false
set_option maxHeartbeats 4000000
namespace Go.Proofs.YtcdoangbkgaapaaGreatK
open Go
def tz : TenantState := ⟨false,false,-1,-1,-1,-1,0,⟨-1,0,0,0,0⟩⟩
def cz : CellState := ⟨1,0,0,0⟩
def newS (c : Config) : State := ⟨0,0,List.replicate c.Tenants.length tz,List.replicate c.Cells.length cz,1,0,0,0⟩
theorem rep_app {α : Type} (n : Nat) (x : α) : List.replicate n x ++ [x] = List.replicate (n + 1) x := by
  rw [List.replicate_succ']
theorem new_tot {c : Config} (h : Good c) : Tot (state_New c) fun s => s = newS c := by
  unfold state_New
  have h1 := h.tn
  have h2 := h.cn
  refine Tot.bind (P := fun xs => xs = List.replicate c.Tenants.length tz) (Tot.loop (fun x : Int × List TenantState => (0 ≤ x.1 ∧ x.1 ≤ c.Tenants.length) ∧ x.2 = List.replicate x.1.toNat tz) (fun x => (c.Tenants.length - x.1).toNat) ⟨by simp,by simp⟩ ?_) ?_
  · rintro ⟨i,xs⟩ ⟨hi,hx⟩
    simp only at hi hx
    subst hx
    unfold state_New.b2
    refine Tot.dec (fun h => ?_) fun h => Tot.map (Tot.pure ?_)
    · refine Tot.bind (tot_app1 (by simp only [List.length_replicate]; omega)) ?_
      rintro _ rfl
      refine Tot.pure ⟨⟨?_,?_⟩,?_⟩
      · simp only; rw [w64_s (by omega)]; omega
      · simp only; rw [w64_s (by omega)]; exact (rep_app _ _).trans (by congr 1; omega)
      · simp only; rw [w64_s (by omega)]; omega
    · show List.replicate i.toNat tz = _
      congr 1; omega
  rintro _ rfl
  refine Tot.loop (fun x : Int × List CellState => (0 ≤ x.1 ∧ x.1 ≤ c.Cells.length) ∧ x.2 = List.replicate x.1.toNat cz) (fun x => (c.Cells.length - x.1).toNat) ⟨by simp,by simp⟩ ?_
  rintro ⟨i,xs⟩ ⟨hi,hx⟩
  simp only at hi hx
  subst hx
  unfold state_New.b3
  refine Tot.dec (fun h => ?_) fun h => Tot.map (Tot.pure ?_)
  · refine Tot.bind (tot_app1 (by simp only [List.length_replicate]; omega)) ?_
    rintro _ rfl
    refine Tot.pure ⟨⟨?_,?_⟩,?_⟩
    · simp only; rw [w64_s (by omega)]; omega
    · simp only; rw [w64_s (by omega)]; exact (rep_app _ _).trans (by congr 1; omega)
    · simp only; rw [w64_s (by omega)]; omega
  · show (⟨0,0,_,List.replicate i.toNat cz,1,0,0,0⟩ : State) = newS c
    unfold newS
    congr 2; omega
theorem new_eq (c : Config) : cellplaneref12_New c = state_New c := rfl
theorem same_refl {a : State} (h1 : a.Tenants.length ≤ 1000000) (h2 : a.Cells.length ≤ 1000000) : Tot (cellplaneref12_Same a a) fun b => b = true := by
  unfold cellplaneref12_Same
  refine Tot.ite (fun h => by simp at h) fun _ => ?_
  refine Tot.loop (fun x : Int => 0 ≤ x ∧ x ≤ a.Tenants.length) (fun x => (a.Tenants.length - x).toNat) ⟨by omega,by omega⟩ ?_
  intro i hi
  unfold cellplaneref12_Same.b2
  refine Tot.dec (fun h => Tot.bind (tot_idx hi.1 h) fun x hx => Tot.bind (tot_idx hi.1 h) fun y hy => ?_) fun h => Tot.map ?_
  · rw [hx] at hy
    injection hy with hy
    subst hy
    refine Tot.ndec (fun h => absurd rfl h) fun _ => Tot.pure ⟨by rw [w64_s (by omega)]; omega,by simp only; rw [w64_s (by omega)]; omega⟩
  · unfold cellplaneref12_Same.j1
    refine Tot.loop (fun x : Int => 0 ≤ x ∧ x ≤ a.Cells.length) (fun x => (a.Cells.length - x).toNat) ⟨by omega,by omega⟩ ?_
    intro i hi
    unfold cellplaneref12_Same.b3
    refine Tot.dec (fun h => Tot.bind (tot_idx hi.1 h) fun x hx => Tot.bind (tot_idx hi.1 h) fun y hy => ?_) fun h => Tot.map (Tot.pure rfl)
    rw [hx] at hy
    injection hy with hy
    subst hy
    refine Tot.ndec (fun h => absurd rfl h) fun _ => Tot.pure ⟨by rw [w64_s (by omega)]; omega,by simp only; rw [w64_s (by omega)]; omega⟩
end Go.Proofs.YtcdoangbkgaapaaGreatK
