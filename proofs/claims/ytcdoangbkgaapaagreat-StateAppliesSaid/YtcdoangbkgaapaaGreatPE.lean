/- Which entries are valid; that the program's small functions end. No condition. -/
import Derived.Test.YtcdoangbkgaapaaGreatPNew
set_option linter.unusedVariables false
set_option maxHeartbeats 4000000
namespace Go.Proofs.YtcdoangbkgaapaaGreatK
open Go
theorem Tot.self {α : Type} {m : Option α} {P : α → Prop} (h : Tot m P) : Tot m fun x => m = some x ∧ P x := by
  obtain ⟨x,hx,hp⟩ := h
  exact ⟨x,hx,hx,hp⟩
theorem tot_true {α : Type} {m : Option α} {x : α} (h : m = some x) : Tot m fun y => y = x := ⟨x,h,rfl⟩
/-- What is known of an entry that fits. -/
structure EF (T C R V : Int) (e : Entry) : Prop where
  tick : 0 ≤ e.Tick ∧ e.Tick ≤ 1073741824
  kind : 1 ≤ e.Kind ∧ e.Kind ≤ 16
  ten : e.Tenant = -1 ∨ 0 ≤ e.Tenant ∧ e.Tenant < T
  cel : e.Cell = -1 ∨ 0 ≤ e.Cell ∧ e.Cell < C
  k8 : 1 ≤ e.Kind ∧ e.Kind ≤ 8 → 0 ≤ e.Tenant ∧ e.Tenant < T
  k1 : e.Kind = 1 → (0 ≤ e.Cell ∧ e.Cell < C) ∧ (e.Other = -1 ∨ 0 ≤ e.Other ∧ e.Other < C) ∧ e.Other ≠ e.Cell
  k2 : e.Kind = 2 → (0 ≤ e.Cell ∧ e.Cell < C) ∧ (1 ≤ e.Epoch ∧ e.Epoch ≤ 1048576) ∧ (0 ≤ e.N ∧ e.N < V) ∧ (0 ≤ e.From ∧ e.From ≤ 1073741824) ∧ 0 ≤ e.Until ∧ e.Until ≤ 1073741824
  k5 : e.Kind = 5 ∨ e.Kind = 6 → 0 ≤ e.Cell ∧ e.Cell < C
  kb : e.Kind = 8 → 0 ≤ e.N ∧ e.N ≤ 1
  k9 : e.Kind = 9 → (0 ≤ e.Cell ∧ e.Cell < C) ∧ 1 ≤ e.N ∧ e.N ≤ 3
  k10 : e.Kind = 10 ∨ e.Kind = 11 → (0 ≤ e.Cell ∧ e.Cell < C) ∧ 0 ≤ e.N ∧ e.N < V
  k12 : e.Kind = 12 → 0 ≤ e.N ∧ e.N < V
  k13 : e.Kind = 13 → (0 ≤ e.Other ∧ e.Other < R) ∧ 0 ≤ e.N ∧ e.N ≤ 1
theorem Tot.orb {c : Prop} [Decidable c] {X : Option Bool} {P : Bool → Prop} (h1 : c → P true) (h2 : ¬ c → Tot X P) : Tot (if decide c = true then some true else X) P := Tot.dec (fun h => Tot.pure (h1 h)) h2
theorem fits_tot (e : Entry) (T C R V : Int) (hV : 0 ≤ V ∧ V ≤ 1000) : Tot (entry_fits e ⟨T,C,R,V⟩) fun b => b = true → EF T C R V e := by
  have j1 : ∀ (y : Entry) (b : Bool),Tot (entry_fits.j1 e y b) fun r => r = true → b = true ∧ e = y := fun y b => by
    unfold entry_fits.j1
    refine Tot.pure fun h => ?_
    simp only [Bool.and_eq_true,decide_eq_true_eq] at h
    exact h
  have a2 : ∀ (b d : Bool),Tot (if b = true then some d else some false) fun r => r = true → b = true ∧ d = true := fun b d => Tot.ite (fun h => Tot.pure fun k => ⟨h,k⟩) fun h => Tot.pure fun k => by cases k
  have bt : ∀ n lo hi,entry_between n lo hi = true → lo ≤ n ∧ n ≤ hi := fun n lo hi h => by simpa [entry_between] using h
  have ix : ∀ n z,entry_index n z = true → 0 ≤ n ∧ n < z := fun n z h => by simpa [entry_index] using h
  have hw : w64 (V - 1) = V - 1 := w64_s (by omega)
  unfold entry_fits
  simp only [hw]
  refine Tot.ite (fun _ => Tot.pure fun h => by cases h) fun h0 => ?_
  have h0 := bt _ _ _ (by simpa using h0)
  refine Tot.dec (fun k => Tot.bind (a2 _ _) fun y hy => Tot.bind (P := fun r => r = true → y = true ∧ e.Other ≠ e.Cell ∧ (e.Other = -1 ∨ 0 ≤ e.Other ∧ e.Other < C)) (Tot.ite (fun h1 => Tot.ndec (fun h2 => Tot.dec (fun h3 => Tot.pure fun _ => ⟨h1,h2,.inl h3⟩) fun h3 => Tot.pure fun h4 => ⟨h1,h2,.inr (ix _ _ h4)⟩) fun _ => Tot.pure fun h => by cases h) fun _ => Tot.pure fun h => by cases h) fun z hz => (j1 _ _).mono fun r hr h => ?_) fun n1 => ?_
  · obtain ⟨h1,h2⟩ := hr h
    obtain ⟨h3,h4,h5⟩ := hz h1
    obtain ⟨h6,h7⟩ := hy h3
    have h6 := ix _ _ h6
    have h7 := ix _ _ h7
    constructor <;> omega
  refine Tot.dec (fun k => Tot.bind (a2 _ _) fun y hy => Tot.bind (a2 _ _) fun y1 hy1 => Tot.bind (a2 _ _) fun y2 hy2 => Tot.bind (P := fun r => r = true → y2 = true ∧ (0 ≤ e.From ∧ e.From ≤ 1073741824) ∧ 0 ≤ e.Until ∧ e.Until ≤ 1073741824) (Tot.ite (fun h1 => (a2 _ _).mono fun r hr h => ⟨h1,bt _ _ _ (hr h).1,bt _ _ _ (hr h).2⟩) fun _ => Tot.pure fun h => by cases h) fun z hz => (j1 _ _).mono fun r hr h => ?_) fun n2 => ?_
  · obtain ⟨h1,h2⟩ := hr h
    obtain ⟨h3,h4,h5⟩ := hz h1
    obtain ⟨h6,h7⟩ := hy2 h3
    obtain ⟨h8,h9⟩ := hy1 h6
    obtain ⟨h10,h11⟩ := hy h8
    have h7 := bt _ _ _ h7
    have h9 := bt _ _ _ h9
    have h10 := ix _ _ h10
    have h11 := ix _ _ h11
    have ho : e.Other = -1 := by rw [h2]
    constructor <;> omega
  refine Tot.dec (fun k => Tot.bind (a2 _ _) fun y hy => (j1 _ _).mono fun r hr h => ?_) fun n3 => ?_
  · obtain ⟨h1,h2⟩ := hr h
    obtain ⟨h3,h4⟩ := hy h1
    have h3 := ix _ _ h3
    have ho : e.Cell = -1 := by rw [h2]
    constructor <;> omega
  refine Tot.dec (fun k => Tot.bind (P := fun r => r = true → (0 ≤ e.Tenant ∧ e.Tenant < T) ∧ (e.Cell = -1 ∨ 0 ≤ e.Cell ∧ e.Cell < C)) (Tot.ite (fun h1 => Tot.dec (fun h2 => Tot.pure fun _ => ⟨ix _ _ h1,.inl h2⟩) fun _ => Tot.pure fun h => ⟨ix _ _ h1,.inr (ix _ _ h)⟩) fun _ => Tot.pure fun h => by cases h) fun z hz => (j1 _ _).mono fun r hr h => ?_) fun n4 => ?_
  · obtain ⟨h1,h2⟩ := hr h
    obtain ⟨h3,h4⟩ := hz h1
    constructor <;> omega
  refine Tot.bind (P := fun r => (r = true ↔ e.Kind = 5 ∨ e.Kind = 6)) (Tot.dec (fun h => Tot.pure (by simp [h])) fun h => Tot.pure (by simp [h])) fun x hx => ?_
  refine Tot.ite (fun hx1 => Tot.bind (a2 _ _) fun y hy => (j1 _ _).mono fun r hr h => ?_) fun hx1 => ?_
  · have k := hx.1 hx1
    obtain ⟨h1,h2⟩ := hr h
    obtain ⟨h3,h4⟩ := hy h1
    have h3 := ix _ _ h3
    have h4 := ix _ _ h4
    constructor <;> omega
  have n56 : ¬ (e.Kind = 5 ∨ e.Kind = 6) := fun h => by rw [hx.2 h] at hx1; cases hx1
  refine Tot.dec (fun k => (j1 _ _).mono fun r hr h => ?_) fun n7 => ?_
  · obtain ⟨h1,h2⟩ := hr h
    have h3 := ix _ _ h1
    have ho : e.Cell = -1 := by rw [h2]
    constructor <;> omega
  refine Tot.dec (fun k => Tot.bind (a2 _ _) fun y hy => (j1 _ _).mono fun r hr h => ?_) fun n8 => ?_
  · obtain ⟨h1,h2⟩ := hr h
    obtain ⟨h3,h4⟩ := hy h1
    have h3 := ix _ _ h3
    have h4 := bt _ _ _ h4
    have ho : e.Cell = -1 := by rw [h2]
    constructor <;> omega
  refine Tot.dec (fun k => Tot.bind (a2 _ _) fun y hy => (j1 _ _).mono fun r hr h => ?_) fun n9 => ?_
  · obtain ⟨h1,h2⟩ := hr h
    obtain ⟨h3,h4⟩ := hy h1
    have h3 := ix _ _ h3
    have h4 := bt _ _ _ h4
    have ho : e.Tenant = -1 := by rw [h2]
    constructor <;> omega
  refine Tot.bind (P := fun r => (r = true ↔ e.Kind = 10 ∨ e.Kind = 11)) (Tot.dec (fun h => Tot.pure (by simp [h])) fun h => Tot.pure (by simp [h])) fun x hx => ?_
  refine Tot.ite (fun hx1 => Tot.bind (a2 _ _) fun y hy => (j1 _ _).mono fun r hr h => ?_) fun hx1 => ?_
  · have k := hx.1 hx1
    obtain ⟨h1,h2⟩ := hr h
    obtain ⟨h3,h4⟩ := hy h1
    have h3 := ix _ _ h3
    have h4 := bt _ _ _ h4
    have ho : e.Tenant = -1 := by rw [h2]
    constructor <;> omega
  have n1011 : ¬ (e.Kind = 10 ∨ e.Kind = 11) := fun h => by rw [hx.2 h] at hx1; cases hx1
  refine Tot.dec (fun k => (j1 _ _).mono fun r hr h => ?_) fun n12 => ?_
  · obtain ⟨h1,h2⟩ := hr h
    have h3 := bt _ _ _ h1
    have ho : e.Cell = -1 := by rw [h2]
    have ho : e.Tenant = -1 := by rw [h2]
    constructor <;> omega
  refine Tot.dec (fun k => Tot.bind (a2 _ _) fun y hy => (j1 _ _).mono fun r hr h => ?_) fun n13 => ?_
  · obtain ⟨h1,h2⟩ := hr h
    obtain ⟨h3,h4⟩ := hy h1
    have h3 := ix _ _ h3
    have h4 := bt _ _ _ h4
    have ho : e.Cell = -1 := by rw [h2]
    have ho : e.Tenant = -1 := by rw [h2]
    constructor <;> omega
  refine Tot.bind (P := fun r => (r = true ↔ e.Kind = 14 ∨ e.Kind = 15)) (Tot.dec (fun h => Tot.pure (by simp [h])) fun h => Tot.pure (by simp [h])) fun x hx => ?_
  refine Tot.ite (fun hx1 => (j1 _ _).mono fun r hr h => ?_) fun hx1 => ?_
  · have k := hx.1 hx1
    obtain ⟨h1,h2⟩ := hr h
    have ho : e.Cell = -1 := by rw [h2]
    have ho : e.Tenant = -1 := by rw [h2]
    constructor <;> omega
  have n1415 : ¬ (e.Kind = 14 ∨ e.Kind = 15) := fun h => by rw [hx.2 h] at hx1; cases hx1
  refine Tot.dec (fun k => (j1 _ _).mono fun r hr h => ?_) fun n16 => Tot.pure fun h => by cases h
  obtain ⟨h1,h2⟩ := hr h
  have ho : e.Cell = -1 := by rw [h2]
  have ho : e.Tenant = -1 := by rw [h2]
  constructor <;> omega
/-- An entry that is valid for a configuration. -/
def EV (c : Config) (e : Entry) : Prop := EF (c.Tenants.length : Int) (c.Cells.length : Int) c.Regions (c.Versions.length : Int) e
theorem valid_tot {c : Config} (hc : Good c) (e : Entry) : Tot (entry_Valid c e) fun b => b = true → EV c e := by
  unfold entry_Valid
  refine Tot.bind (P := fun b => b = true → EV c e) ?_ fun x hx => Tot.pure hx
  unfold entry_Shape
  refine Tot.bind (Tot.bind (fits_tot e _ _ _ _ (by decide)) fun x hx => Tot.pure (P := fun _ => True) trivial) fun x _ => ?_
  have := hc.vn
  refine Tot.ite (fun _ => Tot.bind (fits_tot e _ _ _ _ (by omega)) fun x hx => Tot.pure hx) fun _ => Tot.pure fun h => by cases h
end Go.Proofs.YtcdoangbkgaapaaGreatK
