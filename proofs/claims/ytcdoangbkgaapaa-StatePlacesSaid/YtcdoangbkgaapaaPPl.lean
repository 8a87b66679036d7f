/- Homes, standbys and targets lie where they may: the law StatePlaces. No condition. -/
import Derived.Test.YtcdoangbkgaapaaPWin
set_option linter.unusedVariables false
set_option linter.unusedSectionVars false
set_option maxHeartbeats 4000000
namespace Go.Proofs.YtcdoangbkgaapaaK
open Go
attribute [local irreducible] loop runN
/-! ### The program's and the reference's regions -/
theorem reg_eq {c : Config} (hc : Good c) (k : Int) : topo_RegionOf c k = cellplaneref04_RegionOf c k := by
  have h1 := hc.cn
  have h2 := hc.zn
  unfold topo_RegionOf cellplaneref04_RegionOf topo_ZoneOf cellplaneref04_ZoneOf topo_region topo_between
  rw [w64_s (n := (c.Cells.length : Int) - 1) (by omega), w64_s (n := (c.Zones.length : Int) - 1) (by omega)]
  by_cases hk : 0 ≤ k ∧ k < (c.Cells.length : Int)
  · obtain ⟨x, hx⟩ := idx_lt hk.1 hk.2
    have hz := (hc.ce x (mem_of (idx_out hx).2)).1
    obtain ⟨z, hz'⟩ := idx_lt hz.1 hz.2
    have a1 : decide (0 ≤ k) = true := decide_eq_true hk.1
    have a2 : decide (k ≤ (c.Cells.length : Int) - 1) = true := decide_eq_true (by omega)
    have a3 : decide (k < 0) = false := decide_eq_false (by omega)
    have a4 : decide ((c.Cells.length : Int) ≤ k) = false := decide_eq_false (by omega)
    have a5 : decide (0 ≤ x.Zone) = true := decide_eq_true hz.1
    have a6 : decide (x.Zone ≤ (c.Zones.length : Int) - 1) = true := decide_eq_true (by omega)
    have a7 : decide (x.Zone < 0) = false := decide_eq_false (by omega)
    simp only [a1, a2, a3, a4, Bool.and_self, Bool.not_true, Bool.or_self, Bool.false_eq_true, if_false, hx, Option.bind_some, a5, a6, a7, hz']
  · have a1 : (!(decide (0 ≤ k) && decide (k ≤ (c.Cells.length : Int) - 1))) = true := by
      simp only [Bool.not_eq_true', Bool.and_eq_false_iff, decide_eq_false_iff_not]
      omega
    have a2 : (decide (k < 0) || decide ((c.Cells.length : Int) ≤ k)) = true := by
      simp only [Bool.or_eq_true, decide_eq_true_eq]
      omega
    rw [if_pos a1, if_pos a2]
    simp only [Option.bind_some]
    rw [if_pos (by simp), if_pos (by simp)]
    rfl
theorem apart_eq {c : Config} (hc : Good c) (a b : Int) : tenant_Apart c a b = cellplaneref05_Apart c a b := by
  unfold tenant_Apart cellplaneref05_Apart
  rw [reg_eq hc, reg_eq hc]
/-- A tenant may live at a cell. -/
def Mp (c : Config) (i k : Int) : Prop := cellplaneref05_May c i k = some true
/-- Two cells lie apart. -/
def Ap (c : Config) (a b : Int) : Prop := cellplaneref05_Apart c a b = some true
theorem bit_eq (A r : Int) (hA : 1 ≤ A ∧ A ≤ 7) (hr : 0 ≤ r ∧ r ≤ 2) : decide (bAnd .i64 (shr .i64 A r) 1 = 1) = cellplaneref04_Has A r := by
  have h1 : A = 1 ∨ A = 2 ∨ A = 3 ∨ A = 4 ∨ A = 5 ∨ A = 6 ∨ A = 7 := by omega
  have h2 : r = 0 ∨ r = 1 ∨ r = 2 := by omega
  rcases h1 with rfl | rfl | rfl | rfl | rfl | rfl | rfl <;> rcases h2 with rfl | rfl | rfl <;> decide +kernel
theorem may_eq {c : Config} (hc : Good c) (t k : Int) : tenant_May c t k = cellplaneref05_May c t k := by
  have h1 := hc.tn
  have h2 := hc.reg
  unfold tenant_May cellplaneref05_May tenant_between
  rw [w64_s (n := (c.Tenants.length : Int) - 1) (by omega), reg_eq hc]
  obtain ⟨r, hr, hr'⟩ := r_reg hc k
  rw [hr]
  simp only [Option.bind_some]
  by_cases ht : 0 ≤ t ∧ t < (c.Tenants.length : Int)
  · obtain ⟨x, hx⟩ := idx_lt ht.1 ht.2
    have hA := (hc.te x (mem_of (idx_out hx).2)).2.2.2.2.1
    have a1 : decide (0 ≤ t) = true := decide_eq_true ht.1
    have a2 : decide (t ≤ (c.Tenants.length : Int) - 1) = true := decide_eq_true (by omega)
    have a3 : decide (t < (c.Tenants.length : Int)) = true := decide_eq_true ht.2
    simp only [a1, a2, a3, Bool.and_self, if_true, hx, Option.bind_some]
    rcases hr' with rfl | hr'
    · simp [cellplaneref04_Has]
    · have a4 : decide (0 ≤ r) = true := decide_eq_true hr'.1
      have a5 : decide (r ≤ 3) = true := decide_eq_true (by omega)
      rw [← bit_eq _ _ hA (by omega)]
      simp [hr'.1, a5]
  · by_cases h0 : 0 ≤ t
    · have a1 : decide (t ≤ (c.Tenants.length : Int) - 1) = false := decide_eq_false (by omega)
      have a2 : decide (t < (c.Tenants.length : Int)) = false := decide_eq_false (by omega)
      simp [a1, a2]
    · simp [h0]
theorem Ap.symm {c : Config} (hc : Good c) {a b : Int} (h : Ap c a b) : Ap c b a := by
  unfold Ap cellplaneref05_Apart at h ⊢
  obtain ⟨x, hx, _⟩ := r_reg hc a
  obtain ⟨y, hy, _⟩ := r_reg hc b
  rw [hx, hy] at h ⊢
  simp only [Option.bind_some, Option.some.injEq, Bool.and_eq_true, decide_eq_true_eq, Bool.not_eq_true', decide_eq_false_iff_not] at h ⊢
  exact ⟨h.2.1, h.1, fun hh => h.2.2 hh.symm⟩
theorem FMay.mp {c : Config} (hc : Good c) {e : Entry} {k : Int} {os : List Int} (h : FMay c e k os) : Mp c e.Tenant k := (may_eq hc _ _).symm.trans h.1
theorem FMay.ap {c : Config} (hc : Good c) {e : Entry} {k o : Int} {os : List Int} (h : FMay c e k os) (ho : o ∈ os) (h0 : 0 ≤ o) : Ap c k o := (apart_eq hc _ _).symm.trans (h.2 o ho (by omega))
/-- Where a tenant lives. -/
structure PL (c : Config) (i : Int) (t : TenantState) : Prop where
  home : t.Placed = true → Mp c i t.Home
  stand : t.Placed = true → 0 ≤ t.Standby → Mp c i t.Standby ∧ Ap c t.Standby t.Home
  next : t.Placed = true → 0 ≤ t.Next → Mp c i t.Next ∧ Ap c t.Next t.Home
  target : t.Placed = true → 0 ≤ t.Target → Mp c i t.Target
  ts : t.Placed = true → 0 ≤ t.Target → 0 ≤ t.Standby → Ap c t.Standby t.Target
  tx : t.Placed = true → 0 ≤ t.Target → 0 ≤ t.Next → Ap c t.Next t.Target
theorem tst_pl {c : Config} {s : State} {e : Entry} {t t' : TenantState} (hc : Good c) (he : EV c e) (ht : TW c t) (hd : DT t) (hp : PL c e.Tenant t) (h : TSt c s e t t') : PL c e.Tenant t' := by
  have h3 := hd.un
  have neg : ∀ {p : Prop} {x : Int}, x = -1 → 0 ≤ x → p := fun h1 h2 => absurd h2 (by omega)
  cases h with
  | place hk hpl hm hm2 hf =>
    obtain ⟨k1, k2, k3⟩ := he.k1 hk
    obtain ⟨a1, a2⟩ := h3 hpl
    exact ⟨fun _ => hm.mp hc, fun _ h0 => by simp only at h0; have h4 := hm2 (by omega); exact ⟨h4.mp hc, h4.ap hc (List.mem_singleton.2 rfl) k1.1⟩, fun _ h0 => neg a1 h0, fun _ h0 => neg a2 h0, fun _ h0 => neg a2 h0, fun _ h0 => neg a2 h0⟩
  | grant x hk hpl hs hcc hep hx hn hr hfr hww hf =>
    obtain ⟨k1, k2, k3, k4, k5⟩ := he.k2 hk
    unfold grantT
    split
    · exact ⟨hp.home, hp.stand, hp.next, hp.target, hp.ts, hp.tx⟩
    · split
      · rename_i h4 h5
        refine ⟨fun _ => ?_, fun _ h0 => neg rfl h0, fun _ h0 => neg rfl h0, fun _ h0 => neg rfl h0, fun _ h0 => neg rfl h0, fun _ h0 => neg rfl h0⟩
        show Mp c e.Tenant e.Cell
        rw [h5]
        exact (hp.stand hpl (by omega)).1
      · rename_i h4 h5
        have h6 : e.Cell = t.Target := by omega
        refine ⟨fun _ => ?_, fun _ h0 => ⟨(hp.stand hpl h0).1, ?_⟩, fun _ h0 => ⟨(hp.next hpl h0).1, ?_⟩, fun _ h0 => neg rfl h0, fun _ h0 => neg rfl h0, fun _ h0 => neg rfl h0⟩
        · show Mp c e.Tenant e.Cell
          rw [h6]
          exact hp.target hpl (by omega)
        · show Ap c t.Standby e.Cell
          rw [h6]
          exact hp.ts hpl (by omega) h0
        · show Ap c t.Next e.Cell
          rw [h6]
          exact hp.tx hpl (by omega) h0
  | cut hk hpl hep => exact ⟨hp.home, hp.stand, hp.next, hp.target, hp.ts, hp.tx⟩
  | unstand hk hpl hcc => exact ⟨hp.home, hp.stand, fun _ h0 => neg rfl h0, hp.target, hp.ts, fun _ _ h0 => neg rfl h0⟩
  | stand hk hpl hcc hn hm hf => exact ⟨hp.home, hp.stand, fun _ h0 => ⟨hm.mp hc, hm.ap hc (by simp) (ht.pl hpl)⟩, hp.target, hp.ts, fun _ h0 _ => hm.ap hc (by simp) h0⟩
  | ready hk hpl hcc =>
    refine ⟨hp.home, fun _ h0 => ?_, fun _ h0 => neg rfl h0, hp.target, fun _ h0 h1 => ?_, fun _ _ h0 => neg rfl h0⟩
    · simp only at h0 ⊢
      rw [hcc] at h0 ⊢
      exact hp.next hpl h0
    · simp only at h1 ⊢
      rw [hcc] at h1 ⊢
      exact hp.tx hpl h0 h1
  | migrate hk hpl hs htt hn hm hf => exact ⟨hp.home, hp.stand, hp.next, fun _ _ => hm.mp hc, fun _ _ h0 => (hm.ap hc (by simp) h0).symm hc, fun _ _ h0 => (hm.ap hc (by simp) h0).symm hc⟩
  | abandon hk hpl htt => exact ⟨hp.home, hp.stand, hp.next, fun _ h0 => neg rfl h0, fun _ h0 => neg rfl h0, fun _ h0 => neg rfl h0⟩
  | shed hk hpl hs hww => exact ⟨hp.home, hp.stand, hp.next, fun _ h0 => neg rfl h0, fun _ h0 => neg rfl h0, fun _ h0 => neg rfl h0⟩
  | unshed hk hs hf => exact ⟨hp.home, hp.stand, hp.next, hp.target, hp.ts, hp.tx⟩
/-- What holds between the steps. -/
def RPl (c : Config) (s : State) : Prop := ∀ (i : Nat) t, s.Tenants[i]? = some t → DT t ∧ PL c i t
theorem pl_new {c : Config} (hc : Good c) : RPl c (newS c) := fun i t ht => by
  have := List.eq_of_mem_replicate (mem_of ht)
  subst this
  exact ⟨⟨fun h => (by cases h), fun _ => ⟨rfl, rfl⟩⟩, ⟨fun h => (by cases h), fun h => (by cases h), fun h => (by cases h), fun h => (by cases h), fun h => (by cases h), fun h => (by cases h)⟩⟩
theorem pl_step {c : Config} {s y : State} {e : Entry} (hc : Good c) (hw : WF c s) (hr : RPl c s) (h : Stp c s e y) : RPl c y := by
  have he := h.ev
  obtain ⟨x, hm, rfl⟩ := h.m
  cases hm with
  | ten t t' ht hs =>
    intro i u hu
    simp only [setT] at hu
    by_cases hi : e.Tenant.toNat = i
    · subst hi
      rw [List.getElem?_set_self (List.getElem?_eq_some_iff.1 ht).1] at hu
      injection hu with hu
      subst hu
      have h1 := hr _ t ht
      have h2 := hw.te t (mem_of ht)
      refine ⟨tst_dt he h2 h1.1 hs, ?_⟩
      have hk : 0 ≤ e.Tenant := by
        have hkk : 1 ≤ e.Kind ∧ e.Kind ≤ 8 := by cases hs <;> omega
        exact (he.k8 hkk).1
      have hcast : ((e.Tenant.toNat : Nat) : Int) = e.Tenant := by omega
      rw [hcast] at h1 ⊢
      exact tst_pl hc he h2 h1.1 h1.2 hs
    · rw [List.getElem?_set_ne hi] at hu
      exact hr i u hu
  | cel x x' hx hs => exact hr
  | prove hk hn => exact hr
  | evac hk hn => exact hr
  | expand hk hh h30 ha => exact hr
  | contract hk hh => exact hr
  | note hk => exact hr
theorem places_tot {c : Config} {s : State} (hc : Good c) (hw : WF c s) (hr : RPl c s) : Tot (cellplanelaw12_places c s) fun b => b = true := by
  have e6 := hw.tn
  have e7 := hc.tn
  unfold cellplanelaw12_places
  refine Tot.loop (fun i => 0 ≤ i ∧ i ≤ s.Tenants.length) (fun i => (s.Tenants.length - i).toNat) (by omega) ?_
  intro i hi
  unfold cellplanelaw12_places.b1
  have hN : i < s.Tenants.length → Tot (some (Sum.inl (w64 (i + 1))) : Option (Int ⊕ Bool)) (Rd' (fun i => 0 ≤ i ∧ i ≤ s.Tenants.length) (fun i => (s.Tenants.length - i).toNat) i fun b => b = true) := fun h => Tot.pure ⟨by rw [w64_s (by omega)]; omega, by simp only; rw [w64_s (by omega)]; omega⟩
  refine Tot.dec (fun h1 => Tot.bind (tot_idx hi.1 h1) fun t ht => Tot.ite (fun _ => hN h1) fun hp => ?_) fun _ => Tot.map (Tot.pure rfl)
  have hp : t.Placed = true := by simpa using hp
  obtain ⟨hd, hpl⟩ := hr _ t ht
  have hcast : ((i.toNat : Nat) : Int) = i := by omega
  rw [hcast] at hpl
  have hh := (hw.te t (mem_of ht)).pl hp
  have hdp := hd.pl hp
  refine Tot.loop (fun k => 0 ≤ k ∧ k ≤ 4) (fun k => (4 - k).toNat) (by omega) ?_
  intro k hk
  unfold cellplanelaw12_places.b3
  refine Tot.dec (fun h2 => Tot.bind (P := fun b => b = false) (Tot.bind (tot_idx hk.1 (by simp; omega)) fun x hx => Tot.dec (fun h0 => ?_) fun _ => Tot.pure rfl) ?_) fun _ => ?_
  · have hm := mem_of hx
    simp only [List.mem_cons, List.not_mem_nil, or_false] at hm
    have hmp : cellplaneref05_May c i x = some true := by
      rcases hm with rfl | rfl | rfl | rfl
      · exact hpl.home hp
      · exact (hpl.stand hp h0).1
      · exact (hpl.next hp h0).1
      · exact hpl.target hp h0
    rw [hmp]
    exact Tot.pure rfl
  · rintro _ rfl
    rw [if_neg (by decide)]
    exact Tot.pure ⟨by rw [w64_s (by omega)]; omega, by simp only; rw [w64_s (by omega)]; omega⟩
  refine Tot.map ?_
  unfold cellplanelaw12_places.j2
  refine Tot.loop (fun k => 1 ≤ k ∧ k ≤ 3) (fun k => (3 - k).toNat) (by omega) ?_
  intro k hk
  unfold cellplanelaw12_places.b6
  refine Tot.dec (fun h2 => Tot.bind (P := fun b => b = false) (Tot.bind (tot_idx (by omega) (by simp; omega)) fun x hx => Tot.dec (fun h0 => ?_) fun _ => Tot.pure rfl) ?_) fun _ => ?_
  · have hm : x = t.Standby ∨ x = t.Next := by
      have : k = 1 ∨ k = 2 := by omega
      rcases this with rfl | rfl
      · left; simpa using hx.symm
      · right; simpa using hx.symm
    have a1 : cellplaneref05_Apart c x t.Home = some true := by
      rcases hm with rfl | rfl
      · exact (hpl.stand hp h0).2
      · exact (hpl.next hp h0).2
    rw [a1]
    refine Tot.bind (P := fun b => b = true) (Tot.pure rfl) ?_
    rintro _ rfl
    rw [if_neg (by decide)]
    refine Tot.dec (fun h5 => ?_) fun _ => Tot.pure rfl
    have a2 : cellplaneref05_Apart c x t.Target = some true := by
      rcases hm with rfl | rfl
      · exact hpl.ts hp h5 h0
      · exact hpl.tx hp h5 h0
    rw [a2]
    exact Tot.pure rfl
  · rintro _ rfl
    rw [if_neg (by decide)]
    exact Tot.pure ⟨by rw [w64_s (by omega)]; omega, by simp only; rw [w64_s (by omega)]; omega⟩
  refine Tot.map ?_
  unfold cellplanelaw12_places.j5
  refine Tot.ite (fun h => ?_) fun _ => hN h1
  simp only [Bool.or_eq_true, decide_eq_true_eq] at h
  omega
theorem law_StatePlaces (l more : List Int) : cellplanelaw12_StatePlaces l more = some true := by
  unfold cellplanelaw12_StatePlaces
  refine law_frame fun hl hm => each_tot 2 RPl (fun _ h => pl_new h) (fun c s e y hc hw hw' hr h => ⟨pl_step hc hw hr h, obeys_tot 2 hw' ?_⟩) l more hl hm
  rw [if_neg (by decide), if_neg (by decide), if_pos (by decide)]
  exact Tot.bind (places_tot hc hw' (pl_step hc hw hr h)) fun b hb => Tot.pure hb
end Go.Proofs.YtcdoangbkgaapaaK
