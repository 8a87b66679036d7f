/- The program's and the reference's valid entries are the same. No condition. -/
import Derived.Test.YtcdoangbkgaapaaGreatPW
set_option linter.unusedVariables false
set_option linter.unusedSectionVars false
set_option maxHeartbeats 4000000
namespace Go.Proofs.YtcdoangbkgaapaaGreatK
open Go
/-- What a kind uses. -/
def hasB (k ch : Int) : Bool :=
  if ch = 116 then decide (1 ≤ k ∧ k ≤ 8) else if ch = 99 then decide (k = 1 ∨ k = 2 ∨ k = 5 ∨ k = 6 ∨ k = 9 ∨ k = 10 ∨ k = 11) else if ch = 67 then decide (k = 4) else if ch = 111 then decide (k = 1) else if ch = 114 then decide (k = 13)
  else if ch = 101 then decide (k = 2 ∨ k = 3) else if ch = 119 then decide (k = 2) else if ch = 118 then decide (k = 2 ∨ k = 10 ∨ k = 11 ∨ k = 12) else if ch = 98 then decide (k = 8 ∨ k = 13) else if ch = 109 then decide (k = 9) else decide (k = 16)
theorem has_eq (k ch : Int) (hk : 1 ≤ k ∧ k ≤ 16) (hc : ch = 116 ∨ ch = 99 ∨ ch = 67 ∨ ch = 111 ∨ ch = 114 ∨ ch = 101 ∨ ch = 119 ∨ ch = 118 ∨ ch = 98 ∨ ch = 109 ∨ ch = 110) : cellplaneref06_has k ch = some (hasB k ch) := by
  have h : k = 1 ∨ k = 2 ∨ k = 3 ∨ k = 4 ∨ k = 5 ∨ k = 6 ∨ k = 7 ∨ k = 8 ∨ k = 9 ∨ k = 10 ∨ k = 11 ∨ k = 12 ∨ k = 13 ∨ k = 14 ∨ k = 15 ∨ k = 16 := by omega
  rcases h with rfl | rfl | rfl | rfl | rfl | rfl | rfl | rfl | rfl | rfl | rfl | rfl | rfl | rfl | rfl | rfl <;> rcases hc with rfl | rfl | rfl | rfl | rfl | rfl | rfl | rfl | rfl | rfl | rfl <;> exact (show _ = _ by kernel_rfl)
theorem in_iff (n a b : Int) : cellplaneref06_in n a b = true ↔ a ≤ n ∧ n ≤ b := by simp [cellplaneref06_in]
theorem some_bind_iff {α : Type} {m : Option Bool} {f : Bool → Option α} {r : α} : m.bind f = some r ↔ (m = some true ∧ f true = some r) ∨ (m = some false ∧ f false = some r) := by
  cases m with
  | none => simp
  | some b => cases b <;> simp
/-- What an entry of a kind must be. -/
def FitP (e : Entry) (T C R V : Int) : Prop := (1 ≤ e.Kind ∧ e.Kind ≤ 16) ∧ (0 ≤ e.Tick ∧ e.Tick ≤ 1073741824) ∧
  (e.Kind ≤ 8 ∧ 0 ≤ e.Tenant ∧ e.Tenant < T ∨ 8 < e.Kind ∧ e.Tenant = -1) ∧
  ((e.Kind = 1 ∨ e.Kind = 2 ∨ e.Kind = 5 ∨ e.Kind = 6 ∨ e.Kind = 9 ∨ e.Kind = 10 ∨ e.Kind = 11) ∧ 0 ≤ e.Cell ∧ e.Cell < C ∨ e.Kind = 4 ∧ -1 ≤ e.Cell ∧ e.Cell < C ∨ (e.Kind = 3 ∨ e.Kind = 7 ∨ e.Kind = 8 ∨ 12 ≤ e.Kind) ∧ e.Cell = -1) ∧
  (e.Kind = 1 ∧ (-1 ≤ e.Other ∧ e.Other < C) ∧ e.Other ≠ e.Cell ∨ e.Kind = 13 ∧ 0 ≤ e.Other ∧ e.Other < R ∨ e.Kind ≠ 1 ∧ e.Kind ≠ 13 ∧ e.Other = -1) ∧
  ((e.Kind = 2 ∨ e.Kind = 3) ∧ 1 ≤ e.Epoch ∧ e.Epoch ≤ 1048576 ∨ e.Kind ≠ 2 ∧ e.Kind ≠ 3 ∧ e.Epoch = 0) ∧
  (e.Kind = 2 ∧ (0 ≤ e.From ∧ e.From ≤ 1073741824) ∧ 0 ≤ e.Until ∧ e.Until ≤ 1073741824 ∨ e.Kind ≠ 2 ∧ e.From = 0 ∧ e.Until = 0) ∧
  ((e.Kind = 2 ∨ e.Kind = 10 ∨ e.Kind = 11 ∨ e.Kind = 12) ∧ 0 ≤ e.N ∧ e.N < V ∨ (e.Kind = 8 ∨ e.Kind = 13) ∧ 0 ≤ e.N ∧ e.N ≤ 1 ∨ e.Kind = 9 ∧ 1 ≤ e.N ∧ e.N ≤ 3 ∨ e.Kind = 16 ∧ 0 ≤ e.N ∧ e.N ≤ 1073741824 ∨ (e.Kind = 1 ∨ 3 ≤ e.Kind ∧ e.Kind ≤ 7 ∨ e.Kind = 14 ∨ e.Kind = 15) ∧ e.N = 0)
theorem bind_ite {α β : Type} {p : Prop} [Decidable p] (X Y : Option α) (f : α → Option β) : (if p then X else Y).bind f = if p then X.bind f else Y.bind f := by split <;> rfl
theorem Tot.pite {α : Type} {p : Prop} [Decidable p] {X Y : Option α} {P : α → Prop} (hx : p → Tot X P) (hy : ¬ p → Tot Y P) : Tot (if p then X else Y) P := by
  by_cases h : p
  · rw [if_pos h]; exact hx h
  · rw [if_neg h]; exact hy h
theorem right_iff (e : Entry) (T C R V : Int) (hT : 0 ≤ T ∧ T ≤ 1000) (hC : 0 ≤ C ∧ C ≤ 1000) (hR : 0 ≤ R ∧ R ≤ 1000) (hV : 0 ≤ V ∧ V ≤ 1000) : Tot (cellplaneref06_right e T C R V) fun b => b = true ↔ FitP e T C R V := by
  have w1 : w64 (T - 1) = T - 1 := w64_s (by omega)
  have w2 : w64 (C - 1) = C - 1 := w64_s (by omega)
  have w3 : w64 (R - 1) = R - 1 := w64_s (by omega)
  have w4 : w64 (V - 1) = V - 1 := w64_s (by omega)
  unfold cellplaneref06_right
  by_cases hk : 1 ≤ e.Kind ∧ e.Kind ≤ 16
  · have H := fun ch hc => has_eq e.Kind ch hk hc
    have hks : cellplaneref06_in e.Kind 1 16 = true := (in_iff _ _ _).2 hk
    rw [if_pos hks]
    unfold cellplaneref06_places cellplaneref06_numbers
    rw [H 116 (by simp),H 99 (by simp),H 67 (by simp),H 111 (by simp),H 114 (by simp),H 101 (by simp),H 119 (by simp),H 118 (by simp),H 98 (by simp),H 109 (by simp),H 110 (by simp)]
    simp only [Option.bind_some,w1,w2,w3,w4]
    obtain ⟨k,ti,te,ce,ot,ep,fr,un,n⟩ := e
    simp only at hk ⊢
    have h : k = 1 ∨ k = 2 ∨ k = 3 ∨ k = 4 ∨ k = 5 ∨ k = 6 ∨ k = 7 ∨ k = 8 ∨ k = 9 ∨ k = 10 ∨ k = 11 ∨ k = 12 ∨ k = 13 ∨ k = 14 ∨ k = 15 ∨ k = 16 := by omega
    rcases h with rfl | rfl | rfl | rfl | rfl | rfl | rfl | rfl | rfl | rfl | rfl | rfl | rfl | rfl | rfl | rfl
    all_goals
      simp only [hasB,FitP,cellplaneref06_in]
      simp [bind_ite]
      (repeat' refine Tot.pite (fun _ => ?_) (fun _ => ?_)) <;> refine Tot.pure ?_ <;> first | omega | (simp_all; done) | (simp_all; omega)
  · rw [if_neg (by rw [in_iff]; exact hk)]
    exact Tot.pure ⟨fun h => (by cases h),fun h => absurd h.1 hk⟩
theorem fits_iff (e : Entry) (T C R V : Int) (hT : 0 ≤ T ∧ T ≤ 1000) (hC : 0 ≤ C ∧ C ≤ 1000) (hR : 0 ≤ R ∧ R ≤ 1000) (hV : 0 ≤ V ∧ V ≤ 1000) : Tot (entry_fits e ⟨T,C,R,V⟩) fun b => b = true ↔ FitP e T C R V := by
  have w4 : w64 (V - 1) = V - 1 := w64_s (by omega)
  unfold entry_fits entry_fits.j1 entry_between entry_index
  simp only [w4]
  by_cases hk : 1 ≤ e.Kind ∧ e.Kind ≤ 16
  · obtain ⟨k,ti,te,ce,ot,ep,fr,un,n⟩ := e
    simp only at hk ⊢
    have h : k = 1 ∨ k = 2 ∨ k = 3 ∨ k = 4 ∨ k = 5 ∨ k = 6 ∨ k = 7 ∨ k = 8 ∨ k = 9 ∨ k = 10 ∨ k = 11 ∨ k = 12 ∨ k = 13 ∨ k = 14 ∨ k = 15 ∨ k = 16 := by omega
    rcases h with rfl | rfl | rfl | rfl | rfl | rfl | rfl | rfl | rfl | rfl | rfl | rfl | rfl | rfl | rfl | rfl
    all_goals
      simp only [FitP]
      simp [bind_ite]
      (repeat' refine Tot.pite (fun _ => ?_) (fun _ => ?_)) <;> refine Tot.pure ?_ <;> first | omega | (simp_all; done) | (simp_all; omega)
  · obtain ⟨k,ti,te,ce,ot,ep,fr,un,n⟩ := e
    simp only at hk ⊢
    have h : ¬ k = 1 ∧ ¬ k = 2 ∧ ¬ k = 3 ∧ ¬ k = 4 ∧ ¬ k = 5 ∧ ¬ k = 6 ∧ ¬ k = 7 ∧ ¬ k = 8 ∧ ¬ k = 9 ∧ ¬ k = 10 ∧ ¬ k = 11 ∧ ¬ k = 12 ∧ ¬ k = 13 ∧ ¬ k = 14 ∧ ¬ k = 15 ∧ ¬ k = 16 := by omega
    simp [h]
    exact Tot.pure ⟨fun h => (by cases h),fun h => absurd h.1 hk⟩
theorem valid_eq {c : Config} (hc : Good c) (e : Entry) : cellplaneref06_Valid c e = entry_Valid c e := by
  have h1 := hc.tn
  have h2 := hc.cn
  have h3 := hc.reg
  have h4 := hc.vn
  have m1 : mn (c.Tenants.length : Int) 32 = c.Tenants.length := by unfold mn; rw [if_neg (by omega)]
  have m2 : mn (c.Cells.length : Int) 16 = c.Cells.length := by unfold mn; rw [if_neg (by omega)]
  have m3 : mn c.Regions 4 = c.Regions := by unfold mn; rw [if_neg (by omega)]
  have m4 : mn (c.Versions.length : Int) 30 = c.Versions.length := by unfold mn; rw [if_neg (by omega)]
  unfold cellplaneref06_Valid entry_Valid entry_Shape
  rw [m1,m2,m3,m4]
  obtain ⟨a,ha,ia⟩ := right_iff e (c.Tenants.length : Int) (c.Cells.length : Int) c.Regions (c.Versions.length : Int) (by omega) (by omega) (by omega) (by omega)
  obtain ⟨b,hb,ib⟩ := fits_iff e 32 16 4 30 (by omega) (by omega) (by omega) (by omega)
  obtain ⟨d,hd,id⟩ := fits_iff e (c.Tenants.length : Int) (c.Cells.length : Int) c.Regions (c.Versions.length : Int) (by omega) (by omega) (by omega) (by omega)
  rw [ha,hb,hd]
  have hs : FitP e (c.Tenants.length : Int) (c.Cells.length : Int) c.Regions (c.Versions.length : Int) → FitP e 32 16 4 30 := fun h => by
    unfold FitP at h ⊢
    omega
  have had : a = d := by
    rw [Bool.eq_iff_iff,ia,id]
  subst had
  cases a with
  | true =>
    have : b = true := ib.2 (hs (ia.1 rfl))
    subst this
    rfl
  | false => cases b <;> rfl
end Go.Proofs.YtcdoangbkgaapaaGreatK
