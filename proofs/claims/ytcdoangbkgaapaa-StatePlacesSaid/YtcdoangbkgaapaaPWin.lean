/- Windows belong to homes: the law StateWindows. No condition. -/
import Derived.Test.YtcdoangbkgaapaaPEach
set_option linter.unusedVariables false
set_option linter.unusedSectionVars false
set_option maxHeartbeats 4000000
namespace Go.Proofs.YtcdoangbkgaapaaK
open Go
attribute [local irreducible] loop runN
/-- A tenant's cells are distinct. -/
structure DT (t : TenantState) : Prop where
  pl : t.Placed = true → t.Standby ≠ t.Home ∧ t.Next ≠ t.Home ∧ t.Target ≠ t.Home ∧ (t.Target = -1 ∨ t.Standby ≠ t.Target ∧ t.Next ≠ t.Target)
  un : t.Placed = false → t.Next = -1 ∧ t.Target = -1
theorem tst_dt {c : Config} {s : State} {e : Entry} {t t' : TenantState} (he : EV c e) (ht : TW c t) (hd : DT t) (h : TSt c s e t t') : DT t' := by
  have h1 := ht.pl
  have h2 := hd.pl
  have h3 := hd.un
  cases h with
  | place hk hp hm hm2 hf =>
    obtain ⟨k1, k2, k3⟩ := he.k1 hk
    obtain ⟨a1, a2⟩ := h3 hp
    exact ⟨fun _ => ⟨k3, by simp only; omega, by simp only; omega, .inl a2⟩, fun h => by cases h⟩
  | grant x hk hp hs hcc hep hx hn hr hfr hw hf =>
    obtain ⟨k1, k2, k3, k4, k5⟩ := he.k2 hk
    have h2 := h2 hp
    unfold grantT
    split
    · exact ⟨fun _ => h2, fun h => by simp only at h; rw [hp] at h; cases h⟩
    · split
      · exact ⟨fun _ => ⟨by simp only; omega, by simp only; omega, by simp only; omega, .inl rfl⟩, fun h => by simp only at h; rw [hp] at h; cases h⟩
      · exact ⟨fun _ => ⟨by simp only; omega, by simp only; omega, by simp only; omega, .inl rfl⟩, fun h => by simp only at h; rw [hp] at h; cases h⟩
  | cut hk hp hep => exact ⟨h2, h3⟩
  | unstand hk hp hcc => have h2 := h2 hp; have h1 := h1 hp; exact ⟨fun _ => ⟨h2.1, by simp only; omega, h2.2.2.1, by simp only; omega⟩, fun h => by simp only at h; rw [hp] at h; cases h⟩
  | stand hk hp hcc hn hm hf => have h2 := h2 hp; have h1 := h1 hp; exact ⟨fun _ => ⟨h2.1, hn.1, h2.2.2.1, by simp only; omega⟩, fun h => by simp only at h; rw [hp] at h; cases h⟩
  | ready hk hp hcc => have h2 := h2 hp; have h1 := h1 hp; exact ⟨fun _ => ⟨by simp only; omega, by simp only; omega, h2.2.2.1, by simp only; omega⟩, fun h => by simp only at h; rw [hp] at h; cases h⟩
  | migrate hk hp hs htt hn hm hf => have h2 := h2 hp; have h1 := h1 hp; exact ⟨fun _ => ⟨h2.1, h2.2.1, by simp only; omega, by simp only; omega⟩, fun h => by simp only at h; rw [hp] at h; cases h⟩
  | abandon hk hp htt => have h2 := h2 hp; have h1 := h1 hp; exact ⟨fun _ => ⟨h2.1, h2.2.1, by simp only; omega, .inl rfl⟩, fun h => by simp only at h; rw [hp] at h; cases h⟩
  | shed hk hp hs hw => have h2 := h2 hp; have h1 := h1 hp; exact ⟨fun _ => ⟨h2.1, h2.2.1, by simp only; omega, .inl rfl⟩, fun h => by simp only at h; rw [hp] at h; cases h⟩
  | unshed hk hs hf => exact ⟨h2, h3⟩
/-- A window that is not over belongs to the home of an active tenant, under the present epoch, and to the version that its cell runs. -/
def Win (cs : List CellState) (tick : Int) (t : TenantState) : Prop := tick < t.Window.Until → t.Placed = true ∧ t.Shed = false ∧ t.Window.Cell = t.Home ∧ t.Window.Epoch = t.Epoch ∧ ∃ x, cs[t.Home.toNat]? = some x ∧ t.Window.Version = x.Running
theorem tst_win {c : Config} {s : State} {e : Entry} {t t' : TenantState} (he : EV c e) (ht : TW c t) (hd : DT t) (hw : Win s.Cells e.Tick t) (h : TSt c s e t t') : Win s.Cells e.Tick t' := by
  have h2 := hd.pl
  cases h with
  | place hk hp hm hm2 hf => intro hu; have := hw hu; rw [hp] at this; cases this.1
  | grant x hk hp hs hcc hep hx hn hr hfr hww hf =>
    obtain ⟨k1, k2, k3, k4, k5⟩ := he.k2 hk
    have h2 := h2 hp
    unfold grantT
    split
    · rename_i hh
      intro _
      refine ⟨hp, ?_, hh, rfl, x, ?_, hn⟩
      · cases hsh : t.Shed with
        | false => rfl
        | true => have := hs hsh; omega
      · simp only; rw [← hh]; exact hx
    · split
      · intro _
        exact ⟨hp, rfl, rfl, rfl, x, hx, hn⟩
      · rename_i h4 h5
        intro _
        refine ⟨hp, ?_, rfl, rfl, x, hx, hn⟩
        cases hsh : t.Shed with
        | false => rfl
        | true => exact absurd (hs hsh) h5
  | cut hk hp hep =>
    intro hu
    have a1 := mn_le t.Window.Until (e.Tick + 1)
    simp only at hu
    exact hw (by omega)
  | unstand hk hp hcc => exact hw
  | stand hk hp hcc hn hm hf => exact hw
  | ready hk hp hcc => exact hw
  | migrate hk hp hs htt hn hm hf => exact hw
  | abandon hk hp htt => exact hw
  | shed hk hp hs hww => intro hu; simp only at hu; omega
  | unshed hk hs hf => intro hu; have := hw hu; rw [hs] at this; cases this.2.1
/-- What holds between the steps. -/
def RWin (c : Config) (s : State) : Prop := ∀ t ∈ s.Tenants, DT t ∧ Win s.Cells s.Tick t
theorem win_new {c : Config} (hc : Good c) : RWin c (newS c) := fun t ht => by
  have := List.eq_of_mem_replicate ht
  subst this
  exact ⟨⟨fun h => (by cases h), fun _ => ⟨rfl, rfl⟩⟩, fun h => absurd h (by simp [newS, tz])⟩
theorem Win.later {cs : List CellState} {a b : Int} {t : TenantState} (h : Win cs a t) (hab : a ≤ b) : Win cs b t := fun hu => h (by omega)
theorem win_step {c : Config} {s y : State} {e : Entry} (hc : Good c) (hw : WF c s) (hr : RWin c s) (h : Stp c s e y) : RWin c y := by
  have he := h.ev
  have htk := h.tick
  obtain ⟨x, hm, rfl⟩ := h.m
  cases hm with
  | ten t t' ht hs =>
    intro u hu
    rcases mem_set_or hu with hu | rfl
    · exact ⟨(hr u hu).1, (hr u hu).2.later htk⟩
    · have h1 := hr t (mem_of ht)
      have h2 := hw.te t (mem_of ht)
      exact ⟨tst_dt he h2 h1.1 hs, tst_win (s := s) he h2 h1.1 (h1.2.later htk) hs⟩
  | cel x x' hx hs =>
    intro u hu
    have h1 := hr u hu
    refine ⟨h1.1, fun hlt => ?_⟩
    obtain ⟨a1, a2, a3, a4, z, hz, a5⟩ := h1.2.later htk hlt
    refine ⟨a1, a2, a3, a4, ?_⟩
    simp only
    by_cases hh : e.Cell.toNat = u.Home.toNat
    · rw [← hh] at hz ⊢
      rw [List.getElem?_set_self (List.getElem?_eq_some_iff.1 hx).1]
      rw [hx] at hz
      injection hz with hz
      subst hz
      have hhm := (hw.te u hu).pl a1
      cases hs with
      | mode hk => exact ⟨_, rfl, a5⟩
      | want v hk hv hl hh hb => exact ⟨_, rfl, a5⟩
      | runs hk hn hne hww =>
        have hcl := (he.k10 (.inr hk)).1.1
        have := hww u hu (by omega)
        simp only at hlt
        omega
    · rw [List.getElem?_set_ne hh]
      exact ⟨z, hz, a5⟩
  | prove hk hn => exact fun u hu => ⟨(hr u hu).1, (hr u hu).2.later htk⟩
  | evac hk hn => exact fun u hu => ⟨(hr u hu).1, (hr u hu).2.later htk⟩
  | expand hk hh h30 ha => exact fun u hu => ⟨(hr u hu).1, (hr u hu).2.later htk⟩
  | contract hk hh => exact fun u hu => ⟨(hr u hu).1, (hr u hu).2.later htk⟩
  | note hk => exact fun u hu => ⟨(hr u hu).1, (hr u hu).2.later htk⟩
theorem windows_tot {c : Config} {s : State} (hc : Good c) (hw : WF c s) (hr : RWin c s) : Tot (cellplanelaw12_windows s) fun b => b = true := by
  have e6 := hw.tn
  have e7 := hc.tn
  unfold cellplanelaw12_windows
  refine Tot.loop (fun i => 0 ≤ i ∧ i ≤ s.Tenants.length) (fun i => (s.Tenants.length - i).toNat) (by omega) ?_
  intro i hi
  unfold cellplanelaw12_windows.b1
  have hN : i < s.Tenants.length → Tot (some (Sum.inl (w64 (i + 1))) : Option (Int ⊕ Bool)) (Rd' (fun i => 0 ≤ i ∧ i ≤ s.Tenants.length) (fun i => (s.Tenants.length - i).toNat) i fun b => b = true) := fun h => Tot.pure ⟨by rw [w64_s (by omega)]; omega, by simp only; rw [w64_s (by omega)]; omega⟩
  refine Tot.dec (fun h1 => Tot.bind (tot_idx hi.1 h1) fun t ht => Tot.dec (fun _ => hN h1) fun hu => ?_) fun _ => Tot.map (Tot.pure rfl)
  obtain ⟨a1, a2, a3, a4, z, hz, a5⟩ := (hr t (mem_of ht)).2 (by omega)
  have hh := (hw.te t (mem_of ht)).pl a1
  refine Tot.bind (P := fun b => b = false) (Tot.ite (fun h => ?_) fun _ => Tot.ite (fun h => ?_) fun _ => Tot.ndec (fun h => absurd a3 h) fun _ => Tot.ndec (fun h => absurd a4 h) fun _ => Tot.bind (tot_idxk hz hh) ?_) ?_
  · rw [a1] at h; cases h
  · rw [a2] at h; cases h
  · rintro _ rfl
    exact Tot.pure (by simp [a5])
  · rintro _ rfl
    rw [if_neg (by decide)]
    exact hN h1
theorem law_StateWindows (l more : List Int) : cellplanelaw12_StateWindows l more = some true := by
  unfold cellplanelaw12_StateWindows
  refine law_frame fun hl hm => each_tot 4 RWin (fun _ h => win_new h) (fun c s e y hc hw hw' hr h => ⟨win_step hc hw hr h, obeys_tot 4 hw' ?_⟩) l more hl hm
  rw [if_neg (by decide), if_neg (by decide), if_neg (by decide), if_neg (by decide)]
  exact Tot.bind (windows_tot hc hw' (win_step hc hw hr h)) fun b hb => Tot.pure hb
end Go.Proofs.YtcdoangbkgaapaaK
