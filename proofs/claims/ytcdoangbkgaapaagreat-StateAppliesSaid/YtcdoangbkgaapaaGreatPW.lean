/- A step keeps a state well-formed; the entries that are made end. No condition. -/
import Derived.Test.YtcdoangbkgaapaaGreatPA
set_option linter.unusedVariables false
set_option linter.unusedSectionVars false
set_option maxHeartbeats 4000000
namespace Go.Proofs.YtcdoangbkgaapaaGreatK
open Go
attribute [local irreducible] loop runN
theorem mem_set_or {α : Type} {xs : List α} {i : Nat} {y z : α} (h : z ∈ xs.set i y) : z ∈ xs ∨ z = y := List.mem_or_eq_of_mem_set h
theorem mn_le (a b : Int) : mn a b ≤ a ∧ mn a b ≤ b ∧ (mn a b = a ∨ mn a b = b) := by unfold mn; split <;> omega
theorem tst_wf {c : Config} {s : State} {e : Entry} {t t' : TenantState} (hc : Good c) (he : EV c e) (ht : TW c t) (h : TSt c s e t t') : TW c t' := by
  have hcn := hc.cn
  have h1 := ht.home
  have h2 := ht.stand
  have h3 := ht.next
  have h4 := ht.target
  have h5 := ht.ep
  have h6 := ht.pl
  have h7 := ht.un
  have h8 := ht.fr
  have htk := he.tick
  have hcl := he.cel
  cases h with
  | place hk hp hm hm2 hf => obtain ⟨k1,k2,k3⟩ := he.k1 hk; exact ⟨by simp only; omega,by simp only; omega,h3,h4,h5,fun _ => k1.1,h7,h8⟩
  | grant x hk hp hs hcc hep hx hn hr hfr hw hf =>
    obtain ⟨k1,k2,k3,k4,k5⟩ := he.k2 hk
    unfold grantT
    split
    · exact ⟨h1,h2,h3,h4,by simp only; omega,h6,by simp only; omega,by simp only; omega⟩
    · split
      · exact ⟨by simp only; omega,by simp only; omega,by simp only; omega,by simp only; omega,by simp only; omega,fun _ => k1.1,by simp only; omega,by simp only; omega⟩
      · exact ⟨by simp only; omega,h2,h3,by simp only; omega,by simp only; omega,fun _ => k1.1,by simp only; omega,by simp only; omega⟩
  | cut hk hp hep =>
    have a1 := mn_le t.Window.Until (e.Tick + 1)
    have a2 := mn_le t.Window.From (mn t.Window.Until (e.Tick + 1))
    exact ⟨h1,h2,h3,h4,h5,h6,by simp only; omega,by simp only; omega⟩
  | unstand hk hp hcc => exact ⟨h1,h2,by simp only; omega,h4,h5,h6,h7,h8⟩
  | stand hk hp hcc hn hm hf => exact ⟨h1,h2,by simp only; omega,h4,h5,h6,h7,h8⟩
  | ready hk hp hcc => exact ⟨h1,by simp only; omega,by simp only; omega,h4,h5,h6,h7,h8⟩
  | migrate hk hp hs htt hn hm hf => exact ⟨h1,h2,h3,by simp only; omega,h5,h6,h7,h8⟩
  | abandon hk hp htt => exact ⟨h1,h2,h3,by simp only; omega,h5,h6,h7,h8⟩
  | shed hk hp hs hw => exact ⟨h1,h2,h3,by simp only; omega,h5,h6,h7,h8⟩
  | unshed hk hs hf => exact ⟨h1,h2,h3,h4,h5,h6,h7,h8⟩
theorem step_wf {c : Config} {s y : State} {e : Entry} (hc : Good c) (hw : WF c s) (h : Stp c s e y) : WF c y := by
  have h2 := hw.low
  have h3 := hw.cnt
  have h4 := h.cnt
  have h5 := h.ev.tick
  obtain ⟨x,hm,rfl⟩ := h.m
  have he := h.ev
  cases hm with
  | ten t t' ht hs =>
    refine ⟨by simp only [setT,List.length_set]; exact hw.tn,hw.cn,h5,by simp only; omega,h2,fun u hu => ?_,hw.ce⟩
    rcases mem_set_or hu with hu | rfl
    · exact hw.te u hu
    · exact tst_wf hc he (hw.te t (mem_of ht)) hs
  | cel x x' hx hs =>
    refine ⟨hw.tn,by simp only [List.length_set]; exact hw.cn,h5,by simp only; omega,h2,hw.te,fun u hu => ?_⟩
    rcases mem_set_or hu with hu | rfl
    · exact hw.ce u hu
    · have hx' := hw.ce x (mem_of hx)
      cases hs with
      | mode hk => exact ⟨hx'.run,hx'.want,h5⟩
      | want v hk hv hl hh hb => exact ⟨hx'.run,(he.k10 (.inl hk)).2,hx'.since⟩
      | runs hk hn hne hww => exact ⟨(he.k10 (.inr hk)).2,hx'.want,h5⟩
  | prove hk hn => exact ⟨hw.tn,hw.cn,h5,by simp only; omega,h2,hw.te,hw.ce⟩
  | evac hk hn => exact ⟨hw.tn,hw.cn,h5,by simp only; omega,h2,hw.te,hw.ce⟩
  | expand hk hh h30 ha => exact ⟨hw.tn,hw.cn,h5,by simp only; omega,by simp only; omega,hw.te,hw.ce⟩
  | contract hk hh => exact ⟨hw.tn,hw.cn,h5,by simp only; omega,by simp only; omega,hw.te,hw.ce⟩
  | note hk => exact ⟨hw.tn,hw.cn,h5,by simp only; omega,h2,hw.te,hw.ce⟩
theorem new_wf {c : Config} (hc : Good c) : WF c (newS c) := by
  have h1 := hc.cn
  have h2 := hc.vn
  refine ⟨by simp [newS],by simp [newS],by simp [newS],by simp [newS],by simp [newS],fun t ht => ?_,fun x hx => ?_⟩
  · have := List.eq_of_mem_replicate ht
    subst this
    constructor <;> simp [tz] <;> omega
  · have := List.eq_of_mem_replicate hx
    subst this
    constructor <;> simp [cz] <;> omega
/-! ### The entries -/
section
variable {c : Config} (hc : Good c)
include hc
theorem r_zone (k : Int) : Tot (cellplaneref04_ZoneOf c k) fun z => z = -1 ∨ 0 ≤ z ∧ z < (c.Zones.length : Int) := by
  unfold cellplaneref04_ZoneOf
  refine Tot.ite (fun _ => Tot.pure (.inl rfl)) fun h => ?_
  simp only [Bool.or_eq_false_iff,decide_eq_false_iff_not] at h
  exact Tot.bind (tot_idx (by omega) (by omega)) fun x hx => Tot.pure (.inr (hc.ce x (mem_of hx)).1)
theorem r_reg (k : Int) : Tot (cellplaneref04_RegionOf c k) fun r => r = -1 ∨ 0 ≤ r ∧ r < c.Regions := by
  unfold cellplaneref04_RegionOf
  exact Tot.bind (r_zone hc k) fun z hz => Tot.dec (fun _ => Tot.pure (.inl rfl)) fun h => Tot.bind (tot_idx (by omega) (by omega)) fun x hx => Tot.pure (.inr (hc.ze x (mem_of hx)))
theorem r_may (t k : Int) : Tot (cellplaneref05_May c t k) fun _ => True := by
  unfold cellplaneref05_May
  exact Tot.bind (P := fun _ => True) (Tot.dec (fun h1 => Tot.dec (fun h2 => Tot.bind (tot_idx h1 h2) fun _ _ => Tot.bind (r_reg hc k) fun _ _ => Tot.pure trivial) fun _ => Tot.pure trivial) fun _ => Tot.pure trivial) fun _ _ => Tot.pure trivial
theorem r_apart (a b : Int) : Tot (cellplaneref05_Apart c a b) fun _ => True := by
  unfold cellplaneref05_Apart
  exact Tot.bind (r_reg hc a) fun _ _ => Tot.bind (r_reg hc b) fun _ _ => Tot.pure trivial
theorem homes_tot (t : Int) : Tot (cellplaneref05_Homes c t) fun xs => xs.length ≤ 8 := by
  have hcn := hc.cn
  unfold cellplaneref05_Homes
  refine Tot.loop (fun x : List Int × Int => (0 ≤ x.2 ∧ x.2 ≤ c.Cells.length) ∧ (x.1.length : Int) ≤ x.2) (fun x => (c.Cells.length - x.2).toNat) ⟨by simp,by simp⟩ ?_
  rintro ⟨xs,i⟩ ⟨hi,hx⟩
  simp only at hi hx
  unfold cellplaneref05_Homes.b1
  refine Tot.dec (fun h => Tot.bind (r_may hc _ _) fun b _ => Tot.ite (fun _ => Tot.bind (tot_app1 (by omega)) ?_) fun _ => Tot.pure ⟨⟨?_,?_⟩,?_⟩) fun h => Tot.map (Tot.pure (by show xs.length ≤ 8; omega))
  · rintro _ rfl
    refine Tot.pure ⟨⟨?_,?_⟩,?_⟩
    · simp only; rw [w64_s (by omega)]; omega
    · simp only [len_app1]; rw [w64_s (by omega)]; omega
    · simp only; rw [w64_s (by omega)]; omega
  · simp only; rw [w64_s (by omega)]; omega
  · simp only; rw [w64_s (by omega)]; omega
  · simp only; rw [w64_s (by omega)]; omega
theorem standbys_tot (t h : Int) : Tot (cellplaneref05_Standbys c t h) fun xs => xs.length ≤ 8 := by
  have hcn := hc.cn
  unfold cellplaneref05_Standbys
  refine Tot.loop (fun x : List Int × Int => (0 ≤ x.2 ∧ x.2 ≤ c.Cells.length) ∧ (x.1.length : Int) ≤ x.2) (fun x => (c.Cells.length - x.2).toNat) ⟨by simp,by simp⟩ ?_
  rintro ⟨xs,i⟩ ⟨hi,hx⟩
  simp only at hi hx
  unfold cellplaneref05_Standbys.b1
  refine Tot.dec (fun h => Tot.bind (P := fun _ => True) (Tot.bind (r_may hc _ _) fun b _ => Tot.ite (fun _ => Tot.bind (r_apart hc _ _) fun _ _ => Tot.pure trivial) fun _ => Tot.pure trivial) fun b _ => Tot.ite (fun _ => Tot.bind (tot_app1 (by omega)) ?_) fun _ => Tot.pure ⟨⟨?_,?_⟩,?_⟩) fun h => Tot.map (Tot.pure (by show xs.length ≤ 8; omega))
  · rintro _ rfl
    refine Tot.pure ⟨⟨?_,?_⟩,?_⟩
    · simp only; rw [w64_s (by omega)]; omega
    · simp only [len_app1]; rw [w64_s (by omega)]; omega
    · simp only; rw [w64_s (by omega)]; omega
  · simp only; rw [w64_s (by omega)]; omega
  · simp only; rw [w64_s (by omega)]; omega
  · simp only; rw [w64_s (by omega)]; omega
omit hc in
theorem pick_tot {lb : Int} {l : List Int} {a m : Int} {xs : List Int} (h : Tp lb l a m) (hm : m ≤ 900000) (hx : xs.length ≤ 8) : Tot (cellplanemake_pick ⟨l,a⟩ xs) fun p => Tp lb l p.2 (m + 1) := by
  unfold cellplanemake_pick
  refine Tot.dec (fun _ => Tot.pure (h.w (by omega))) fun h0 => Tot.bind (next_tot h hm (by omega)) ?_
  rintro ⟨v,a'⟩ ⟨hv,ha⟩
  dsimp only
  exact Tot.bind (tot_idx hv.1 hv.2) fun _ _ => Tot.pure ha
variable {s : State} (hw : WF c s)
include hw
theorem plat_tot {lb : Int} {l : List Int} {a m : Int} (tick : Int) (h : Tp lb l a m) (hm : m ≤ 800000) : Tot (cellplanemake_platform ⟨l,a⟩ c s tick) fun p => Tp lb l p.2 (m + 10) := by
  have h1 := hc.cn
  have h2 := hc.vn
  have h3 := hc.le
  have h4 := hc.ba
  have h5 := hc.reg
  have h6 := hw.cn
  unfold cellplanemake_platform
  dsimp only
  refine Tot.bind (next_tot h (by omega) (by omega)) ?_
  rintro ⟨k,a1⟩ ⟨hk,A1⟩
  dsimp only
  simp only at hk A1
  refine Tot.bind (tot_idx hk.1 (by omega)) fun x hx => Tot.bind (next_tot A1 (by omega) (by decide)) ?_
  rintro ⟨n,a2⟩ ⟨hn,A2⟩
  dsimp only
  simp only at hn A2
  have W : ∀ {b : Int},Tp lb l b (m + 1 + 1) → Tp lb l b (m + 10) := fun h => h.w (by omega)
  have W1 : ∀ {b : Int},Tp lb l b (m + 1 + 1 + 1) → Tp lb l b (m + 10) := fun h => h.w (by omega)
  have B : ∀ {n : Int} {p q r : Int},Tot (if decide (n = p) = true then some true else if decide (n = q) = true then some true else some (decide (n = r))) fun _ => True := fun {n p q r} => Tot.dec (fun _ => Tot.pure trivial) fun _ => Tot.dec (fun _ => Tot.pure trivial) fun _ => Tot.pure trivial
  refine Tot.dec (fun _ => Tot.bind (range_tot A2 (by omega) (by decide)) ?_) fun _ => Tot.dec (fun _ => Tot.pure (W A2)) fun _ => Tot.bind B fun b _ => Tot.ite (fun _ => Tot.bind (next_tot A2 (by omega) (by omega)) ?_) fun _ => Tot.bind B fun b _ => Tot.ite (fun _ => Tot.bind (next_tot A2 (by omega) (by omega)) ?_) fun _ => Tot.dec (fun _ => Tot.bind (next_tot A2 (by omega) (by rw [w64_s (by omega)]; omega)) ?_) fun _ => Tot.dec (fun _ => Tot.bind (next_tot A2 (by omega) (by omega)) ?_) fun _ => ?_
  · rintro ⟨v,a3⟩ ⟨_,A3⟩
    exact Tot.pure (W1 A3)
  · rintro ⟨v,a3⟩ ⟨_,A3⟩
    exact Tot.pure (W1 A3)
  · rintro ⟨v,a3⟩ ⟨_,A3⟩
    exact Tot.pure (W1 A3)
  · rintro ⟨v,a3⟩ ⟨_,A3⟩
    exact Tot.pure (W1 A3)
  · rintro ⟨v,a3⟩ ⟨_,A3⟩
    dsimp only
    exact Tot.ite (fun _ => Tot.pure (W1 A3)) fun _ => Tot.pure (W1 A3)
  · refine Tot.dec (fun _ => Tot.dec (fun _ => Tot.pure (W A2)) fun _ => Tot.pure (W A2)) fun _ => Tot.bind (next_tot A2 (by omega) (by decide)) ?_
    rintro ⟨v,a3⟩ ⟨_,A3⟩
    exact Tot.pure (W1 A3)
theorem grant_tot {lb : Int} {l : List Int} {a m : Int} (e : Entry) (h : Tp lb l a m) (hm : m ≤ 800000) (ht : 0 ≤ e.Tenant ∧ e.Tenant < (s.Tenants.length : Int)) (hp : ∀ t,s.Tenants[e.Tenant.toNat]? = some t → t.Placed = true) : Tot (cellplanemake_grant ⟨l,a⟩ c s e) fun p => Tp lb l p.2 (m + 20) := by
  have h3 := hc.le
  have h6 := hw.cn
  unfold cellplanemake_grant
  dsimp only
  refine Tot.bind (tot_idx ht.1 ht.2) fun t hx => ?_
  have hP := hp t hx
  have hT := hw.te t (mem_of hx)
  have g1 := hT.home
  have g2 := hT.stand
  have g3 := hT.target
  have g4 := hT.pl hP
  refine Tot.bind (P := fun p : Int × Int => Tp lb l p.1 (m + 3) ∧ 0 ≤ p.2 ∧ p.2 < (c.Cells.length : Int)) (Tot.bind (P := fun p : Bool × Int => (p.1 = true → 0 ≤ t.Target) ∧ Tp lb l p.2 (m + 1)) (Tot.dec (fun h0 => Tot.bind (yes_tot h (by omega) (by decide)) ?_) fun _ => Tot.pure ⟨fun h => (by cases h),h.w (by omega)⟩) ?_) ?_
  · rintro ⟨b,a1⟩ A1
    exact Tot.pure ⟨fun _ => h0,A1⟩
  · rintro ⟨b,a1⟩ ⟨hb,A1⟩
    dsimp only
    simp only at hb A1
    refine Tot.ite (fun h1 => Tot.pure ⟨A1.w (by omega),hb h1,g3.2⟩) fun _ => Tot.bind (P := fun p : Bool × Int => (p.1 = true → 0 ≤ t.Standby) ∧ Tp lb l p.2 (m + 2)) (Tot.dec (fun h0 => Tot.bind (yes_tot A1 (by omega) (by decide)) ?_) fun _ => Tot.pure ⟨fun h => (by cases h),A1.w (by omega)⟩) ?_
    · rintro ⟨b2,a2⟩ A2
      dsimp only
      simp only at A2
      exact Tot.ite (fun _ => Tot.pure ⟨fun _ => h0,A2.w (by omega)⟩) fun _ => Tot.pure ⟨fun _ => h0,A2.w (by omega)⟩
    · rintro ⟨b2,a2⟩ ⟨hb2,A2⟩
      dsimp only
      simp only at hb2 A2
      exact Tot.ite (fun h1 => Tot.pure ⟨A2.w (by omega),hb2 h1,g2.2⟩) fun _ => Tot.pure ⟨A2.w (by omega),g4,g1.2⟩
  rintro ⟨a3,k⟩ ⟨A3,hk⟩
  dsimp only
  simp only at A3 hk
  refine Tot.bind (P := fun p : Int × Int => Tp lb l p.1 (m + 4)) (Tot.bind (P := fun p : Bool × Int => Tp lb l p.2 (m + 4)) (Tot.ndec (fun _ => Tot.pure (A3.w (by omega))) fun _ => Tot.dec (fun _ => Tot.pure (A3.w (by omega))) fun _ => Tot.bind (yes_tot A3 (by omega) (by decide)) ?_) ?_) ?_
  · rintro ⟨b,a4⟩ A4
    exact Tot.pure (A4.w (by omega))
  · rintro ⟨b,a4⟩ A4
    dsimp only
    exact Tot.ite (fun _ => Tot.pure A4) fun _ => Tot.pure A4
  rintro ⟨a4,ep⟩ A4
  dsimp only
  simp only at A4
  refine Tot.bind (P := fun p : Int × Int => Tp lb l p.1 (m + 5)) (Tot.bind (P := fun p : Bool × Int => Tp lb l p.2 (m + 5)) (Tot.ndec (fun _ => Tot.bind (next_tot A4 (by omega) (by decide)) ?_) fun _ => Tot.pure (A4.w (by omega))) ?_) ?_
  · rintro ⟨b,a5⟩ ⟨_,A5⟩
    exact Tot.pure (A5.w (by omega))
  · rintro ⟨b,a5⟩ A5
    dsimp only
    exact Tot.ite (fun _ => Tot.pure A5) fun _ => Tot.pure A5
  rintro ⟨a5,ti⟩ A5
  dsimp only
  simp only at A5
  refine Tot.bind (P := fun p : Int × Int => Tp lb l p.1 (m + 7)) (Tot.bind (yes_tot A5 (by omega) (by decide)) ?_) ?_
  · rintro ⟨b,a6⟩ A6
    dsimp only
    simp only at A6
    refine Tot.ite (fun _ => Tot.bind (next_tot A6 (by omega) (by decide)) ?_) fun _ => Tot.pure (A6.w (by omega))
    rintro ⟨v,a7⟩ ⟨_,A7⟩
    exact Tot.pure (A7.w (by omega))
  rintro ⟨a7,fr⟩ A7
  dsimp only
  simp only at A7
  refine Tot.bind (range_tot A7 (by omega) (by omega)) ?_
  rintro ⟨v,a8⟩ ⟨_,A8⟩
  dsimp only
  simp only at A8
  refine Tot.bind (tot_idx hk.1 (by omega)) fun x _ => Tot.bind (yes_tot A8 (by omega) (by decide)) ?_
  rintro ⟨b,a9⟩ A9
  dsimp only
  simp only at A9
  refine Tot.ite (fun _ => Tot.bind (next_tot A9 (by omega) (by decide)) ?_) fun _ => Tot.pure (A9.w (by omega))
  rintro ⟨v,a10⟩ ⟨_,A10⟩
  exact Tot.pure (A10.w (by omega))
theorem entry_tot {lb : Int} {l : List Int} {a m : Int} (h : Tp lb l a m) (hm : m ≤ 700000) : Tot (cellplanemake_Entry ⟨l,a⟩ c s) fun p => Tp (if l.length = 0 then lb else lb + 1) l p.2 (m + 50) := by
  have h1 := hc.tn
  have h6 := hw.tn
  unfold cellplanemake_Entry
  dsimp only
  refine Tot.bind (next_tot' h (by omega) (by decide)) ?_
  generalize (if l.length = 0 then lb else lb + 1) = lb
  rintro ⟨v,a1⟩ ⟨_,A1⟩
  dsimp only
  simp only at A1
  refine Tot.bind (P := fun p : Int × Int => Tp lb l p.2 (m + 2)) (Tot.bind (yes_tot A1 (by omega) (by decide)) ?_) ?_
  · rintro ⟨b,a2⟩ A2
    dsimp only
    simp only at A2
    exact Tot.ite (fun _ => Tot.pure (A2.w (by omega))) fun _ => Tot.pure (A2.w (by omega))
  rintro ⟨ti,a2⟩ A2
  dsimp only
  simp only at A2
  refine Tot.bind (P := fun p : Bool × Int => (p.1 = false → c.Tenants.length ≠ 0) ∧ Tp lb l p.2 (m + 3)) (Tot.dec (fun _ => Tot.pure ⟨fun h => (by cases h),A2.w (by omega)⟩) fun h0 => Tot.bind (yes_tot A2 (by omega) (by decide)) ?_) ?_
  · rintro ⟨b,a3⟩ A3
    exact Tot.pure ⟨fun _ => by omega,A3.w (by omega)⟩
  rintro ⟨b,a3⟩ ⟨hb,A3⟩
  dsimp only
  simp only at hb A3
  refine Tot.ite (fun _ => Tot.bind (plat_tot hc hw ti A3 (by omega)) ?_) fun hbf => ?_
  · rintro ⟨e,a4⟩ A4
    exact Tot.pure (A4.w (by omega))
  have h0 := hb hbf
  refine Tot.bind (next_tot A3 (by omega) (by omega)) ?_
  rintro ⟨i,a4⟩ ⟨hi,A4⟩
  dsimp only
  simp only at hi A4
  refine Tot.bind (tot_idx hi.1 (by omega)) fun t ht => Tot.ite (fun _ => ?_) fun hp => ?_
  · refine Tot.bind (homes_tot hc i) fun xs hxs => Tot.bind (pick_tot A4 (by omega) hxs) ?_
    rintro ⟨k,a5⟩ A5
    dsimp only
    simp only at A5
    refine Tot.bind (standbys_tot hc i _) fun ys hys => Tot.bind (pick_tot A5 (by omega) hys) ?_
    rintro ⟨k2,a6⟩ A6
    exact Tot.pure (A6.w (by omega))
  · refine Tot.bind (next_tot A4 (by omega) (by decide)) ?_
    rintro ⟨n,a5⟩ ⟨hn,A5⟩
    dsimp only
    simp only at A5
    have W : Tp lb l a5 (m + 50) := A5.w (by omega)
    refine Tot.dec (fun _ => Tot.pure W) fun _ => Tot.dec (fun _ => Tot.bind (standbys_tot hc i _) fun ys hys => Tot.bind (pick_tot A5 (by omega) hys) ?_) fun _ => Tot.dec (fun _ => Tot.pure W) fun _ => Tot.dec (fun _ => Tot.bind (homes_tot hc i) fun ys hys => Tot.bind (pick_tot A5 (by omega) hys) ?_) fun _ => Tot.dec (fun _ => Tot.pure W) fun _ => Tot.dec (fun _ => Tot.ite (fun _ => Tot.pure W) fun _ => Tot.pure W) fun _ => Tot.bind (grant_tot hc hw _ A5 (by omega) ⟨hi.1,by simp only; omega⟩ fun t' ht' => ?_) ?_
    · rintro ⟨k2,a6⟩ A6
      exact Tot.pure (A6.w (by omega))
    · rintro ⟨k2,a6⟩ A6
      exact Tot.pure (A6.w (by omega))
    · have : some t = some t' := ht.symm.trans ht'
      injection this with this
      subst this
      simpa using hp
    · rintro ⟨k2,a6⟩ A6
      exact Tot.pure (A6.w (by omega))
end
end Go.Proofs.YtcdoangbkgaapaaGreatK
