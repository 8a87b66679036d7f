/- Basics of the pure side: a computation ends and its result has a property; the tape that configurations are made of. No condition. -/
import Derived.Test.YtcdoangbkgaapaaGreatF
set_option linter.unusedVariables false
set_option maxHeartbeats 4000000
namespace Go.Proofs.YtcdoangbkgaapaaGreatK
open Go
/-- m ends,and its result is P. -/
def Tot {α : Type} (m : Option α) (P : α → Prop) : Prop := ∃ x,m = some x ∧ P x
section
variable {α β γ : Type}
theorem Tot.pure {x : α} {P : α → Prop} (h : P x) : Tot (some x) P := ⟨x,rfl,h⟩
theorem Tot.bind {m : Option α} {f : α → Option β} {P : α → Prop} {Q : β → Prop} (h : Tot m P) (k : ∀ x,P x → Tot (f x) Q) : Tot (m.bind f) Q := by
  obtain ⟨x,hx,hp⟩ := h
  rw [hx]
  exact k x hp
theorem Tot.mono {m : Option α} {P Q : α → Prop} (h : Tot m P) (k : ∀ x,P x → Q x) : Tot m Q := by
  obtain ⟨x,hx,hp⟩ := h
  exact ⟨x,hx,k x hp⟩
theorem Tot.and {m : Option α} {P Q : α → Prop} (h : Tot m P) (k : Tot m Q) : Tot m fun x => P x ∧ Q x := by
  obtain ⟨x,hx,hp⟩ := h
  obtain ⟨y,hy,hq⟩ := k
  rw [hx] at hy
  injection hy with hy
  subst hy
  exact ⟨x,hx,hp,hq⟩
theorem Tot.map {m : Option α} {f : α → β} {P : β → Prop} (h : Tot m fun x => P (f x)) : Tot (m.map f) P := by
  obtain ⟨x,hx,hp⟩ := h
  rw [hx]
  exact ⟨_,rfl,hp⟩
theorem Tot.ite {b : Bool} {X Y : Option α} {P : α → Prop} (hx : b = true → Tot X P) (hy : b = false → Tot Y P) : Tot (if b = true then X else Y) P := by
  cases b with
  | true => rw [if_pos rfl]; exact hx rfl
  | false => rw [if_neg (by decide)]; exact hy rfl
theorem Tot.dec {p : Prop} [Decidable p] {X Y : Option α} {P : α → Prop} (hx : p → Tot X P) (hy : ¬ p → Tot Y P) : Tot (if decide p = true then X else Y) P := by
  by_cases h : p
  · rw [if_pos (decide_eq_true h)]; exact hx h
  · rw [if_neg (by simpa using h)]; exact hy h
theorem Tot.ndec {p : Prop} [Decidable p] {X Y : Option α} {P : α → Prop} (hx : ¬ p → Tot X P) (hy : p → Tot Y P) : Tot (if (!decide p) = true then X else Y) P := by
  by_cases h : p
  · rw [if_neg (by simpa using h)]; exact hy h
  · rw [if_pos (by simpa using h)]; exact hx h
theorem Tot.prop {c : Prop} [Decidable c] {X : Option α} {P : α → Prop} (hc : c) (hx : Tot X P) : Tot (if c then X else none) P := by rw [if_pos hc]; exact hx
/-- A round's end. -/
def Rd' {X R : Type} (I : X → Prop) (m : X → Nat) (x : X) (Post : R → Prop) : X ⊕ R → Prop
  | .inl y => I y ∧ m y < m x
  | .inr r => Post r
theorem Tot.loop {X R : Type} {b : X → Option (X ⊕ R)} {x : X} {Post : R → Prop} (I : X → Prop) (m : X → Nat) (h0 : I x) (h : ∀ x,I x → Tot (b x) (Rd' I m x Post)) : Tot (loop b x) Post := by
  refine loop_ind I m (fun x hx => ?_) x h0
  obtain ⟨s,hs,hp⟩ := h x hx
  rw [hs]
  cases s with
  | inl y => exact hp
  | inr r => exact hp
theorem tot_idx {xs : List α} {i : Int} (h0 : 0 ≤ i) (h1 : i < (xs.length : Int)) : Tot (idx xs i) fun x => xs[i.toNat]? = some x := by
  obtain ⟨x,hx⟩ := idx_lt h0 h1
  exact ⟨x,hx,(idx_out hx).2⟩
theorem tot_app {xs ys : List α} (h : xs.length + ys.length ≤ 1099511627776) : Tot (app xs ys) fun zs => zs = xs ++ ys := ⟨_,if_pos h,rfl⟩
theorem tot_app1 {xs : List α} {y : α} (h : xs.length < 1099511627776) : Tot (app xs [y]) fun zs => zs = xs ++ [y] := tot_app (by simp only [List.length_cons,List.length_nil]; omega)
theorem tot_mk {z : α} {n : Int} (h : 0 ≤ n ∧ n ≤ 65536) : Tot (mk z n) fun zs => zs = List.replicate n.toNat z := ⟨_,if_pos h,rfl⟩
theorem Tot.eq {m : Option α} {P : α → Prop} {x : α} (h : Tot m P) (hx : m = some x) : P x := by
  obtain ⟨y,hy,hp⟩ := h
  rw [hx] at hy
  injection hy with hy
  subst hy
  exact hp
end
theorem w64_s {n : Int} (h : -1000000000000 ≤ n ∧ n ≤ 1000000000000) : w64 n = n := w64_in (by omega)
/-! ### The tape -/
theorem mod_tot (v n : Int) (hn : 1 ≤ n ∧ n ≤ 1100000000) : Tot (cellplanemake_Mod v n) fun y => 0 ≤ y ∧ y < n := by
  unfold cellplanemake_Mod
  refine Tot.prop (by omega) (Tot.prop (by omega) (Tot.pure ?_))
  have h1 := Int.tmod_lt_of_pos v (b := n) (by omega)
  have h2 := Int.lt_tmod_of_pos v (b := n) (by omega)
  rw [w64_s (by omega)]
  exact ⟨Int.tmod_nonneg _ (by omega),Int.tmod_lt_of_pos _ (by omega)⟩
/-- A tape that can be read on. -/
def Tp (lb : Int) (l : List Int) (a n : Int) : Prop := l.length ≤ 1000 ∧ (0 ≤ lb ∧ lb ≤ a) ∧ a ≤ n ∧ n ≤ 1000000
theorem Tp.w {lb : Int} {l : List Int} {a n m : Int} (h : Tp lb l a n) (hm : n ≤ m ∧ m ≤ 1000000) : Tp lb l a m := ⟨h.1,h.2.1,by have := h.2.2.1; omega,hm.2⟩
theorem Tp.w0 {lb : Int} {l : List Int} {a n m : Int} (h : Tp lb l a n) (hm : n ≤ m ∧ m ≤ 1000000) : Tp 0 l a m := ⟨h.1,⟨by decide,by have := h.2.1; omega⟩,by have := h.2.2.1; omega,hm.2⟩
theorem next_tot' {lb : Int} {l : List Int} {a n m : Int} (h : Tp lb l a m) (hm : m ≤ 900000) (hn : 1 ≤ n ∧ n ≤ 1000000) : Tot (cellplanemake_Tape_Next ⟨l,a⟩ n) fun p => (0 ≤ p.1 ∧ p.1 < n) ∧ Tp (if l.length = 0 then lb else lb + 1) l p.2 (m + 1) := by
  obtain ⟨hl,h0,h1,h2⟩ := h
  unfold cellplanemake_Tape_Next
  simp only
  refine Tot.dec (fun h => Tot.pure ⟨by simp only; omega,hl,?_,by simp only; omega,by omega⟩) fun h => ?_
  · rw [if_pos (by omega)]; exact h0
  refine Tot.prop h (Tot.bind (tot_idx (Int.tmod_nonneg _ (by omega)) (Int.tmod_lt_of_pos _ (by omega))) fun x _ => Tot.prop h (Tot.bind (mod_tot _ _ (by decide)) fun y hy => Tot.bind (mod_tot _ _ (by omega)) fun z hz => Tot.pure ⟨hz,hl,?_⟩))
  simp only
  rw [w64_s (by omega),if_neg (by omega)]
  omega
theorem next_tot {lb : Int} {l : List Int} {a n m : Int} (h : Tp lb l a m) (hm : m ≤ 900000) (hn : 1 ≤ n ∧ n ≤ 1000000) : Tot (cellplanemake_Tape_Next ⟨l,a⟩ n) fun p => (0 ≤ p.1 ∧ p.1 < n) ∧ Tp lb l p.2 (m + 1) := (next_tot' h hm hn).mono fun p hp => ⟨hp.1,hp.2.1,by
  have h1 := hp.2.2.1
  have h2 := h.2.1
  split at h1 <;> omega,hp.2.2.2⟩
theorem range_tot {lb : Int} {l : List Int} {a lo hi m : Int} (h : Tp lb l a m) (hm : m ≤ 900000) (hn : lo ≤ hi ∧ -1000 ≤ lo ∧ hi ≤ 100000) : Tot (cellplanemake_Tape_Range ⟨l,a⟩ lo hi) fun p => (lo ≤ p.1 ∧ p.1 ≤ hi) ∧ Tp lb l p.2 (m + 1) := by
  unfold cellplanemake_Tape_Range
  have e : w64 (w64 (hi - lo) + 1) = hi - lo + 1 := by rw [w64_s (n := hi - lo) (by omega),w64_s (by omega)]
  rw [e]
  refine Tot.bind (next_tot h hm (by omega)) ?_
  rintro ⟨v,a'⟩ ⟨hv,ha⟩
  refine Tot.pure ⟨?_,ha⟩
  simp only at hv ⊢
  rw [w64_s (by omega)]
  omega
theorem yes_tot {lb : Int} {l : List Int} {a n m : Int} (h : Tp lb l a m) (hm : m ≤ 900000) (hn : 1 ≤ n ∧ n ≤ 1000000) : Tot (cellplanemake_Tape_Yes ⟨l,a⟩ n) fun p => Tp lb l p.2 (m + 1) := by
  unfold cellplanemake_Tape_Yes
  refine Tot.bind (next_tot h hm hn) ?_
  rintro ⟨v,a'⟩ ⟨_,ha⟩
  exact Tot.pure ha
theorem between_tot (v : Int) {lo hi : Int} (hn : lo ≤ hi ∧ -1000 ≤ lo ∧ hi ≤ 100000) : Tot (cellplanemake_Between v lo hi) fun y => lo ≤ y ∧ y ≤ hi := by
  unfold cellplanemake_Between
  have e : w64 (w64 (hi - lo) + 1) = hi - lo + 1 := by rw [w64_s (n := hi - lo) (by omega),w64_s (by omega)]
  rw [e]
  refine Tot.bind (mod_tot _ _ (by omega)) fun y hy => Tot.pure ?_
  rw [w64_s (by omega)]
  omega
theorem tpe (l : List Int) (a : Int) : ({ (cellplanemake_New l) with At := a } : cellplanemake_Tape) = ⟨l,a⟩ := rfl
/-! ### The configuration -/
/-- A configuration as it is made. -/
structure Good (c : Config) : Prop where
  reg : 1 ≤ c.Regions ∧ c.Regions ≤ 3
  zn : 1 ≤ c.Zones.length ∧ c.Zones.length ≤ 8
  ze : ∀ z ∈ c.Zones,0 ≤ z.Region ∧ z.Region < c.Regions
  cn : 1 ≤ c.Cells.length ∧ c.Cells.length ≤ 8
  ce : ∀ x ∈ c.Cells,(0 ≤ x.Zone ∧ x.Zone < (c.Zones.length : Int)) ∧ 10 ≤ x.Capacity ∧ x.Capacity ≤ 40
  tn : c.Tenants.length ≤ 5
  te : ∀ x ∈ c.Tenants,(1 ≤ x.Load ∧ x.Load ≤ 12) ∧ (0 ≤ x.Shadow ∧ x.Shadow ≤ x.Load) ∧ (0 ≤ x.Priority ∧ x.Priority ≤ 3) ∧ (-1 ≤ x.Lag ∧ x.Lag ≤ 3) ∧ (1 ≤ x.Allowed ∧ x.Allowed ≤ 7) ∧ 0 ≤ x.Group ∧ x.Group ≤ 2
  vn : 1 ≤ c.Versions.length ∧ c.Versions.length ≤ 3
  ve : ∀ x ∈ c.Versions,0 ≤ x.Low ∧ x.Low ≤ 1 ∧ x.Low ≤ x.High ∧ x.High ≤ x.Low + 2
  v0 : ∃ v,c.Versions[0]? = some v ∧ v.Low = 0
  bl : 1 ≤ c.Blast ∧ c.Blast ≤ 3
  le : 2 ≤ c.Lease ∧ c.Lease ≤ 12
  ba : 0 ≤ c.Bake ∧ c.Bake ≤ 8
theorem all_app {α : Type} {P : α → Prop} {xs : List α} {y : α} (h : ∀ x ∈ xs,P x) (hy : P y) : ∀ x ∈ xs ++ [y],P x := fun x hx => by
  rcases List.mem_append.1 hx with hx | hx
  · exact h x hx
  · rw [List.mem_singleton.1 hx]; exact hy
theorem len_app1 {α : Type} (xs : List α) (y : α) : (xs ++ [y]).length = xs.length + 1 := by simp
/-- The places that a round leaves over. -/
theorem bits_tot (r : Int) (h : 1 ≤ r ∧ r ≤ 3) : 1 ≤ w64 (shl .i64 1 (IntKind.u64.wrap r) - 1) ∧ w64 (shl .i64 1 (IntKind.u64.wrap r) - 1) ≤ 7 := by
  have : r = 1 ∨ r = 2 ∨ r = 3 := by omega
  rcases this with rfl | rfl | rfl <;> decide +kernel
theorem config_tot (l : List Int) (hl : l.length ≤ 200) : Tot (cellplanemake_Config l) Good := by
  unfold cellplanemake_Config
  refine Tot.bind (next_tot (lb := 0) (l := l) (a := 0) (m := 0) ⟨by omega,by decide,by decide,by decide⟩ (by decide) (by decide)) ?_
  rintro ⟨v0,a0⟩ ⟨_,A0⟩; dsimp only
  refine Tot.bind (between_tot _ (by decide)) fun reg hreg => ?_
  simp only [tpe]
  refine Tot.bind (range_tot A0 (by decide) (by decide)) ?_
  rintro ⟨bl,a1⟩ ⟨hbl,A1⟩; dsimp only
  refine Tot.bind (range_tot A1 (by decide) (by decide)) ?_
  rintro ⟨le,a2⟩ ⟨hle,A2⟩; dsimp only
  refine Tot.bind (next_tot A2 (by decide) (by decide)) ?_
  rintro ⟨ba,a3⟩ ⟨hba,A3⟩; dsimp only
  simp only at hbl hle hba A3
  refine Tot.bind (P := fun p : Int × List Zone => Tp 0 l p.1 20 ∧ (1 ≤ p.2.length ∧ p.2.length ≤ 8) ∧ ∀ z ∈ p.2,0 ≤ z.Region ∧ z.Region < reg) (Tot.loop (fun x : Int × Int × List Zone => (0 ≤ x.1 ∧ x.1 ≤ 7 ∧ (x.2.2.length : Int) = x.1) ∧ Tp 0 l x.2.1 (5 + x.1) ∧ ∀ z ∈ x.2.2,0 ≤ z.Region ∧ z.Region < reg) (fun x => (8 - x.1).toNat) ⟨by simp,A3.w (by simp),by simp⟩ ?_) ?_
  · rintro ⟨i,a,zs⟩ ⟨hi,ha,hz⟩
    simp only at hi ha hz
    unfold cellplanemake_Config.b2
    simp only [tpe]
    refine Tot.bind (P := fun p : Bool × Int => (p.1 = true → i ≤ 6) ∧ (p.1 = false → reg ≤ i) ∧ Tp 0 l p.2 (6 + i)) (Tot.dec (fun h => Tot.pure ⟨fun _ => by omega,fun h => (by cases h),ha.w (by omega)⟩) fun h => Tot.bind (yes_tot ha (by omega) (by decide)) ?_) ?_
    · rintro ⟨b,a'⟩ ha'; dsimp only
      simp only at ha'
      refine Tot.ite (fun _ => Tot.pure ⟨fun h => by have := of_decide_eq_true h; omega,fun _ => by omega,ha'.w (by omega)⟩) fun _ => Tot.pure ⟨fun h => (by cases h),fun _ => by omega,ha'.w (by omega)⟩
    · rintro ⟨b,a'⟩ ⟨h1,h2,h3⟩; dsimp only
      simp only at h1 h2 h3
      refine Tot.ite (fun hb => ?_) fun hb => ?_
      · have := h1 hb
        refine Tot.prop (by omega) (Tot.bind (tot_app1 (by omega)) ?_)
        rintro _ rfl
        refine Tot.pure ⟨⟨?_,?_,?_⟩,?_⟩
        · simp only [len_app1]; rw [w64_s (by omega)]; omega
        · simp only; rw [w64_s (by omega)]; exact h3.w (by omega)
        · exact all_app hz ⟨Int.tmod_nonneg _ (by omega),Int.tmod_lt_of_pos _ (by omega)⟩
        · simp only; rw [w64_s (by omega)]; omega
      · have := h2 hb
        exact Tot.map (Tot.pure ⟨h3.w (by omega),by simp only; omega,hz⟩)
  rintro ⟨a4,zs⟩ ⟨A4,hzn,hz⟩; dsimp only
  simp only at A4 hzn hz
  refine Tot.bind (P := fun p : Int × List Cell => Tp 0 l p.1 60 ∧ (1 ≤ p.2.length ∧ p.2.length ≤ 8) ∧ ∀ x ∈ p.2,(0 ≤ x.Zone ∧ x.Zone < (zs.length : Int)) ∧ 10 ≤ x.Capacity ∧ x.Capacity ≤ 40) (Tot.loop (fun x : Int × Int × List Cell => (0 ≤ x.1 ∧ x.1 ≤ 8 ∧ (x.2.2.length : Int) = x.1) ∧ Tp 0 l x.2.1 (20 + 2 * x.1) ∧ ∀ y ∈ x.2.2,(0 ≤ y.Zone ∧ y.Zone < (zs.length : Int)) ∧ 10 ≤ y.Capacity ∧ y.Capacity ≤ 40) (fun x => (9 - x.1).toNat) ⟨by simp,A4.w (by simp),by simp⟩ ?_) ?_
  · rintro ⟨i,a,cs⟩ ⟨hi,ha,hc⟩
    simp only at hi ha hc
    unfold cellplanemake_Config.b5
    simp only [tpe]
    refine Tot.bind (P := fun p : Bool × Int => (p.1 = true → i ≤ 7) ∧ (p.1 = false → (zs.length : Int) ≤ i) ∧ Tp 0 l p.2 (21 + 2 * i)) (Tot.dec (fun h => Tot.pure ⟨fun _ => by omega,fun h => (by cases h),ha.w (by omega)⟩) fun h => Tot.bind (yes_tot ha (by omega) (by decide)) ?_) ?_
    · rintro ⟨b,a'⟩ ha'; dsimp only
      simp only at ha'
      refine Tot.ite (fun _ => Tot.pure ⟨fun h => by have := of_decide_eq_true h; omega,fun _ => by omega,ha'.w (by omega)⟩) fun _ => Tot.pure ⟨fun h => (by cases h),fun _ => by omega,ha'.w (by omega)⟩
    · rintro ⟨b,a'⟩ ⟨h1,h2,h3⟩; dsimp only
      simp only at h1 h2 h3
      refine Tot.ite (fun hb => ?_) fun hb => ?_
      · have := h1 hb
        refine Tot.prop (by omega) (Tot.bind (range_tot h3 (by omega) (by decide)) ?_)
        rintro ⟨y,a''⟩ ⟨hy,h4⟩; dsimp only
        simp only at hy h4
        refine Tot.bind (tot_app1 (by omega)) ?_
        rintro _ rfl
        refine Tot.pure ⟨⟨?_,?_,?_⟩,?_⟩
        · simp only [len_app1]; rw [w64_s (by omega)]; omega
        · simp only; rw [w64_s (by omega)]; exact h4.w (by omega)
        · refine all_app hc ⟨⟨Int.tmod_nonneg _ (by omega),Int.tmod_lt_of_pos _ (by omega)⟩,?_⟩
          simp only; rw [w64_s (by omega)]; omega
        · simp only; rw [w64_s (by omega)]; omega
      · have := h2 hb
        exact Tot.map (Tot.pure ⟨h3.w (by omega),by simp only; omega,hc⟩)
  rintro ⟨a5,cs⟩ ⟨A5,hcn,hc⟩; dsimp only
  simp only at A5 hcn hc
  refine Tot.bind (P := fun p : Int × List Tenant => Tp 0 l p.1 200 ∧ p.2.length ≤ 5 ∧ ∀ x ∈ p.2,(1 ≤ x.Load ∧ x.Load ≤ 12) ∧ (0 ≤ x.Shadow ∧ x.Shadow ≤ x.Load) ∧ (0 ≤ x.Priority ∧ x.Priority ≤ 3) ∧ (-1 ≤ x.Lag ∧ x.Lag ≤ 3) ∧ (1 ≤ x.Allowed ∧ x.Allowed ≤ 7) ∧ 0 ≤ x.Group ∧ x.Group ≤ 2) (Tot.bind (next_tot A5 (by decide) (by decide)) ?_) ?_
  · rintro ⟨k,a6⟩ ⟨hk,A6⟩; dsimp only
    simp only at hk A6
    refine Tot.loop (fun x : Int × Int × List Tenant => (0 ≤ x.1 ∧ x.1 + x.2.2.length ≤ 5) ∧ Tp 0 l x.2.1 (61 + 10 * x.2.2.length) ∧ ∀ y ∈ x.2.2,(1 ≤ y.Load ∧ y.Load ≤ 12) ∧ (0 ≤ y.Shadow ∧ y.Shadow ≤ y.Load) ∧ (0 ≤ y.Priority ∧ y.Priority ≤ 3) ∧ (-1 ≤ y.Lag ∧ y.Lag ≤ 3) ∧ (1 ≤ y.Allowed ∧ y.Allowed ≤ 7) ∧ 0 ≤ y.Group ∧ y.Group ≤ 2) (fun x => x.1.toNat) ⟨by simp only [List.length_nil]; omega,A6.w (by simp),by simp⟩ ?_
    rintro ⟨i,a,ts⟩ ⟨hi,ha,ht⟩
    simp only at hi ha ht
    unfold cellplanemake_Config.b8
    simp only [tpe]
    refine Tot.dec (fun h => ?_) fun h => Tot.map (Tot.pure ⟨ha.w (by omega),by simp only; omega,ht⟩)
    refine Tot.bind (range_tot ha (by omega) (by decide)) ?_
    rintro ⟨n,b1⟩ ⟨hn,B1⟩; dsimp only
    simp only at hn B1
    refine Tot.bind (P := fun p : Tenant × Int => ((1 ≤ p.1.Load ∧ p.1.Load ≤ 12) ∧ (0 ≤ p.1.Shadow ∧ p.1.Shadow ≤ p.1.Load) ∧ (0 ≤ p.1.Priority ∧ p.1.Priority ≤ 3) ∧ (-1 ≤ p.1.Lag ∧ p.1.Lag ≤ 3) ∧ (1 ≤ p.1.Allowed ∧ p.1.Allowed ≤ 7) ∧ 0 ≤ p.1.Group ∧ p.1.Group ≤ 2) ∧ Tp 0 l p.2 (67 + 10 * ts.length)) ?_ ?_
    · rw [w64_s (n := n + 1) (by omega)]
      refine Tot.bind (next_tot B1 (by omega) (by omega)) ?_
      rintro ⟨n2,b2⟩ ⟨hn2,B2⟩; dsimp only
      refine Tot.bind (next_tot B2 (by omega) (by decide)) ?_
      rintro ⟨n3,b3⟩ ⟨hn3,B3⟩; dsimp only
      refine Tot.bind (range_tot B3 (by omega) (by decide)) ?_
      rintro ⟨n4,b4⟩ ⟨hn4,B4⟩; dsimp only
      refine Tot.bind (next_tot B4 (by omega) (by decide)) ?_
      rintro ⟨n5,b5⟩ ⟨hn5,B5⟩; dsimp only
      refine Tot.bind (yes_tot B5 (by omega) (by decide)) ?_
      rintro ⟨n6,b6⟩ B6; dsimp only
      simp only at hn2 hn3 hn4 hn5 B6
      exact Tot.pure ⟨⟨hn,by simp only; omega,by simp only; omega,by simp only; omega,bits_tot reg hreg,by simp only; omega⟩,B6.w (by omega)⟩
    · rintro ⟨y,b7⟩ ⟨hy,B7⟩; dsimp only
      simp only at hy B7
      refine Tot.bind (P := fun p : Int × Int => (1 ≤ p.2 ∧ p.2 ≤ 7) ∧ Tp 0 l p.1 (69 + 10 * ts.length)) (Tot.bind (yes_tot B7 (by omega) (by decide)) ?_) ?_
      · rintro ⟨n8,b8⟩ B8; dsimp only
        simp only at B8
        refine Tot.ite (fun _ => ?_) fun _ => Tot.pure ⟨hy.2.2.2.2.1,B8.w (by omega)⟩
        have hr := bits_tot reg hreg
        refine Tot.bind (range_tot B8 (by omega) (by omega)) ?_
        rintro ⟨n9,b9⟩ ⟨hn9,B9⟩; dsimp only
        simp only at hn9 B9
        exact Tot.pure ⟨by simp only; omega,B9.w (by omega)⟩
      · rintro ⟨b10,al⟩ ⟨hal,B10⟩; dsimp only
        simp only at hal B10
        refine Tot.bind (tot_app1 (by omega)) ?_
        rintro _ rfl
        refine Tot.pure ⟨⟨?_,?_,?_⟩,?_⟩
        · simp only [len_app1]; rw [w64_s (by omega)]; omega
        · simp only [len_app1]; exact B10.w (by omega)
        · exact all_app ht ⟨hy.1,hy.2.1,hy.2.2.1,hy.2.2.2.1,hal,hy.2.2.2.2.2⟩
        · simp only; rw [w64_s (by omega)]; omega
  rintro ⟨a7,ts⟩ ⟨A7,htn,ht⟩; dsimp only
  simp only at A7 htn ht
  refine Tot.bind (next_tot A7 (by decide) (by decide)) ?_
  rintro ⟨v8,a8⟩ ⟨hv8,A8⟩; dsimp only
  simp only at hv8 A8
  refine Tot.bind (P := fun p : Int × List Version => Tp 0 l p.1 220 ∧ (1 ≤ p.2.length ∧ p.2.length ≤ 3) ∧ (∀ x ∈ p.2,0 ≤ x.Low ∧ x.Low ≤ 1 ∧ x.Low ≤ x.High ∧ x.High ≤ x.Low + 2) ∧ ∃ v,p.2[0]? = some v ∧ v.Low = 0) (Tot.bind (next_tot A8 (by decide) (by decide)) ?_) ?_
  · rintro ⟨k,a9⟩ ⟨hk,A9⟩; dsimp only
    simp only at hk A9
    refine Tot.loop (fun x : Int × Int × List Version => (0 ≤ x.1 ∧ x.1 + x.2.2.length ≤ 3 ∧ 1 ≤ x.2.2.length) ∧ Tp 0 l x.2.1 (202 + 2 * x.2.2.length) ∧ (∀ y ∈ x.2.2,0 ≤ y.Low ∧ y.Low ≤ 1 ∧ y.Low ≤ y.High ∧ y.High ≤ y.Low + 2) ∧ ∃ v,x.2.2[0]? = some v ∧ v.Low = 0) (fun x => x.1.toNat) ⟨by simp only [List.length_cons,List.length_nil]; omega,A9.w (by simp),by intro x hx; rw [List.mem_singleton.1 hx]; simp only; omega,_,rfl,rfl⟩ ?_
    rintro ⟨i,a,vs⟩ ⟨hi,ha,hv,v0,hv0,hv00⟩
    simp only at hi ha hv hv0
    unfold cellplanemake_Config.b12
    simp only [tpe]
    refine Tot.dec (fun h => ?_) fun h => Tot.map (Tot.pure ⟨ha.w (by omega),by simp only; omega,hv,v0,hv0,hv00⟩)
    refine Tot.bind (next_tot ha (by omega) (by decide)) ?_
    rintro ⟨n,b1⟩ ⟨hn,B1⟩; dsimp only
    refine Tot.bind (next_tot B1 (by omega) (by decide)) ?_
    rintro ⟨n2,b2⟩ ⟨hn2,B2⟩; dsimp only
    simp only at hn hn2 B2
    refine Tot.bind (tot_app1 (by omega)) ?_
    rintro _ rfl
    refine Tot.pure ⟨⟨?_,?_,?_,v0,?_,hv00⟩,?_⟩
    · simp only [len_app1]; rw [w64_s (by omega)]; omega
    · simp only [len_app1]; exact B2.w (by omega)
    · refine all_app hv ?_
      simp only; rw [w64_s (by omega)]; omega
    · simp only; rw [List.getElem?_append_left (by omega)]; exact hv0
    · simp only; rw [w64_s (by omega)]; omega
  rintro ⟨a10,vs⟩ ⟨A10,hvn,hv,hv0⟩; dsimp only
  simp only at A10 hvn hv hv0
  refine Tot.bind (P := fun p : Int × List Int => Tp 0 l p.1 240) (Tot.bind (next_tot A10 (by decide) (by decide)) ?_) ?_
  · rintro ⟨k,a11⟩ ⟨hk,A11⟩; dsimp only
    simp only at hk A11
    refine Tot.loop (fun x : Int × Int × List Int => (0 ≤ x.1 ∧ x.1 + x.2.2.length ≤ 3) ∧ Tp 0 l x.2.1 (221 + x.2.2.length)) (fun x => x.1.toNat) ⟨by simp only [List.length_nil]; rw [w64_s (n := 2 * k) (by omega),w64_s (by omega)]; omega,A11.w (by simp)⟩ ?_
    rintro ⟨i,a,xs⟩ ⟨hi,ha⟩
    simp only at hi ha
    unfold cellplanemake_Config.b14
    simp only [tpe]
    refine Tot.dec (fun h => ?_) fun h => Tot.map (Tot.pure (ha.w (by omega)))
    refine Tot.bind (next_tot ha (by omega) (by omega)) ?_
    rintro ⟨n,b1⟩ ⟨hn,B1⟩; dsimp only
    simp only at hn B1
    refine Tot.bind (tot_app1 (by omega)) ?_
    rintro _ rfl
    refine Tot.pure ⟨⟨?_,?_⟩,?_⟩
    · simp only [len_app1]; rw [w64_s (by omega)]; omega
    · simp only [len_app1]; exact B1.w (by omega)
    · simp only; rw [w64_s (by omega)]; omega
  rintro ⟨a12,rs⟩ A12; dsimp only
  simp only at A12
  refine Tot.bind (range_tot A12 (by decide) (by decide)) ?_
  rintro ⟨k,a13⟩ ⟨hk,A13⟩; dsimp only
  simp only at hk A13
  refine Tot.loop (fun x : Int × Int × List Int => (0 ≤ x.1 ∧ x.1 + x.2.2.length ≤ 4) ∧ Tp 0 l x.2.1 (241 + x.2.2.length)) (fun x => x.1.toNat) ⟨by simp only [List.length_nil]; omega,A13.w (by simp)⟩ ?_
  rintro ⟨i,a,xs⟩ ⟨hi,ha⟩
  simp only at hi ha
  unfold cellplanemake_Config.b15
  simp only [tpe]
  refine Tot.dec (fun h => ?_) fun h => Tot.map (Tot.pure ⟨hreg,hzn,hz,hcn,hc,htn,ht,hvn,hv,hv0,hbl,hle,by simp only; omega⟩)
  refine Tot.bind (next_tot ha (by omega) (by omega)) ?_
  rintro ⟨n,b1⟩ ⟨hn,B1⟩; dsimp only
  simp only at hn B1
  refine Tot.bind (tot_app1 (by omega)) ?_
  rintro _ rfl
  refine Tot.pure ⟨⟨?_,?_⟩,?_⟩
  · simp only [len_app1]; rw [w64_s (by omega)]; omega
  · simp only [len_app1]; exact B1.w (by omega)
  · simp only; rw [w64_s (by omega)]; omega
end Go.Proofs.YtcdoangbkgaapaaGreatK
