/- The pure side of the machine K: rounds,rows,steps. No condition. -/
import Derived.WalkKit
namespace Go.Proofs.YtcdoangbkgaapaaGreatK
open Go

/-! ### Rounds -/
def runN {X R : Type} (b : X → Option (X ⊕ R)) : Nat → X → Option R
  | 0,_ => none
  | n + 1,x => (b x).bind fun s => match s with
    | .inl y => runN b n y
    | .inr r => some r
open Classical in
/-- What the rounds come to. The kernel computes it where there are few. -/
noncomputable def loop {X R : Type} (b : X → Option (X ⊕ R)) (x : X) : Option R := match runN b 1000000 x with
  | some r => some r
  | none => if h : ∃ n r,runN b n x = some r then some h.choose_spec.choose else none
theorem runN_det {X R : Type} {b : X → Option (X ⊕ R)} : ∀ {n m : Nat} {x : X} {r r' : R},runN b n x = some r → runN b m x = some r' → r = r'
  | 0,_,_,_,_,h,_ => by cases h
  | _ + 1,0,_,_,_,_,h => by cases h
  | n + 1,m + 1,x,r,r',h,h' => by
    unfold runN at h h'
    cases hb : b x with
    | none => rw [hb] at h; cases h
    | some s =>
      rw [hb] at h h'
      cases s with
      | inl y => exact runN_det (n := n) (m := m) h h'
      | inr v => simp only [Option.bind_some,Option.some.injEq] at h h'; exact h.symm.trans h'
theorem loop_of {X R : Type} {b : X → Option (X ⊕ R)} {n : Nat} {x : X} {r : R} (h : runN b n x = some r) : loop b x = some r := by
  have hex : ∃ n r,runN b n x = some r := ⟨n,r,h⟩
  unfold loop
  split
  · rename_i r' h'; rw [runN_det h h']
  · rw [dif_pos hex]
    exact congrArg some (runN_det hex.choose_spec.choose_spec h)
theorem loop_out {X R : Type} {b : X → Option (X ⊕ R)} {x : X} {r : R} (h : loop b x = some r) : ∃ n,runN b n x = some r := by
  unfold loop at h
  split at h
  · rename_i r' h'; injection h with h; subst h; exact ⟨_,h'⟩
  · split at h
    · rename_i hex
      injection h with h
      exact ⟨hex.choose,by rw [← h]; exact hex.choose_spec.choose_spec⟩
    · cases h
theorem loop_eq {X R : Type} (b : X → Option (X ⊕ R)) (x : X) : loop b x = (b x).bind fun s => match s with
    | .inl y => loop b y
    | .inr r => some r := by
  cases hb : b x with
  | none =>
    simp only [Option.bind_none]
    cases hl : loop b x with
    | none => rfl
    | some r =>
      obtain ⟨n,hn⟩ := loop_out hl
      cases n with
      | zero => cases hn
      | succ n => unfold runN at hn; rw [hb] at hn; cases hn
  | some s =>
    simp only [Option.bind_some]
    cases s with
    | inr r => exact loop_of (n := 1) (by unfold runN; rw [hb]; rfl)
    | inl y =>
      simp only
      cases hl : loop b y with
      | some r => obtain ⟨n,hn⟩ := loop_out hl; exact loop_of (n := n + 1) (by unfold runN; rw [hb]; exact hn)
      | none =>
        cases hx : loop b x with
        | none => rfl
        | some r =>
          obtain ⟨n,hn⟩ := loop_out hx
          cases n with
          | zero => cases hn
          | succ n => unfold runN at hn; rw [hb] at hn; rw [loop_of hn] at hl; cases hl
/-- A loop ends,if something falls. -/
theorem loop_ind {X R : Type} {b : X → Option (X ⊕ R)} {Post : R → Prop} (I : X → Prop) (m : X → Nat) (hI : ∀ x,I x → match b x with
    | none => False
    | some (.inl y) => I y ∧ m y < m x
    | some (.inr r) => Post r) (x : X) (hx : I x) : ∃ r,loop b x = some r ∧ Post r := by
  generalize hn : m x = n
  induction n using Nat.strongRecOn generalizing x with
  | ind n ih =>
    have := hI x hx
    rw [loop_eq]
    cases hb : b x with
    | none => rw [hb] at this; exact this.elim
    | some s =>
      rw [hb] at this
      cases s with
      | inl y => exact ih (m y) (by have := this.2; omega) y this.1 rfl
      | inr r => exact ⟨r,rfl,this⟩

/-! ### The pure side's steps -/
section
variable {α β γ R : Type} {r : R}
theorem h_in {m : Option R} (h : m = some r) : m.bind some = some r := by rw [h]; rfl
theorem h_out {v : R} (h : (some v).bind some = some r) : v = r := Option.some.inj h
theorem h_t {b : Bool} {X Y : Option α} {K : α → Option R} (h : (if b = true then X else Y).bind K = some r) (hb : b = true) : X.bind K = some r := by rw [if_pos hb] at h; exact h
theorem h_f {b : Bool} {X Y : Option α} {K : α → Option R} (h : (if b = true then X else Y).bind K = some r) (hb : b = false) : Y.bind K = some r := by rw [if_neg (by rw [hb]; decide)] at h; exact h
theorem h_p {c : Prop} [Decidable c] {X : Option α} {K : α → Option R} (h : (if c then X else none).bind K = some r) : c ∧ X.bind K = some r := by
  by_cases hc : c
  · rw [if_pos hc] at h; exact ⟨hc,h⟩
  · rw [if_neg hc] at h; cases h
theorem h_b {m : Option β} {g : β → Option α} {K : α → Option R} (h : (m.bind g).bind K = some r) : ∃ x,m = some x ∧ (g x).bind K = some r := by
  cases m with
  | none => cases h
  | some x => exact ⟨x,rfl,h⟩
theorem h_j {m : Option β} {g : β → Option α} {K : α → Option R} (h : (m.bind g).bind K = some r) : ∃ K' : β → Option R,m.bind K' = some r ∧ ∀ x,K' x = some r → (g x).bind K = some r := by
  refine ⟨fun x => (g x).bind K,?_,fun x h => h⟩
  cases m with
  | none => cases h
  | some x => exact h
/-- What follows a round. -/
def kont {X : Type} (g : X → Option α) (K : α → Option R) : X ⊕ α → Option R
  | .inl y => (g y).bind K
  | .inr v => K v
theorem h_m {X : Type} {m : Option α} {g : X → Option α} {K : α → Option R} (h : (m.map Sum.inr).bind (kont g K) = some r) : m.bind K = some r := by
  cases m with
  | none => cases h
  | some x => exact h
theorem h_k {m : Option β} {K : β → Option R} (h : m.bind K = some r) : ∃ K',m.bind K' = some r ∧ K' = K := ⟨K,h,rfl⟩
theorem t_t {b : Bool} {X Y v : α} (h : (if b = true then X else Y) = v) (hb : b = true) : X = v := by rw [if_pos hb] at h; exact h
theorem t_f {b : Bool} {X Y v : α} (h : (if b = true then X else Y) = v) (hb : b = false) : Y = v := by rw [if_neg (by rw [hb]; decide)] at h; exact h
theorem h_l {X : Type} {b : X → Option (X ⊕ α)} {x : X} {K : α → Option R} (h : (loop b x).bind K = some r) : ∃ K' n,(runN b n x).bind K' = some r ∧ K' = K := by
  cases hl : loop b x with
  | none => rw [hl] at h; cases h
  | some v => obtain ⟨n,hn⟩ := loop_out hl; exact ⟨K,n,by rw [hn]; rw [hl] at h; exact h,rfl⟩
theorem h_r {X : Type} {b : X → Option (X ⊕ α)} {n : Nat} {x : X} {K : α → Option R} (h : (runN b n x).bind K = some r) : ∃ m,n = m + 1 ∧ (b x).bind (kont (runN b m) K) = some r := by
  cases n with
  | zero => cases h
  | succ m =>
    refine ⟨m,rfl,?_⟩
    unfold runN at h
    cases hb : b x with
    | none => rw [hb] at h; cases h
    | some s => rw [hb] at h; cases s <;> exact h
end
/-! ### Rows of the pure side -/
/-- The element number i. -/
def idx {α : Type} (xs : List α) (i : Int) : Option α := if 0 ≤ i then xs[i.toNat]? else none
theorem idx_out {α : Type} {xs : List α} {i : Int} {x : α} (h : idx xs i = some x) : (0 ≤ i ∧ i < (xs.length : Int)) ∧ xs[i.toNat]? = some x := by
  unfold idx at h
  split at h
  · rename_i h0
    have := (List.getElem?_eq_some_iff.1 h).1
    exact ⟨⟨h0,by omega⟩,h⟩
  · cases h
theorem idx_nat {α : Type} {xs : List α} {i : Nat} {x : α} (h : xs[i]? = some x) : idx xs (i : Int) = some x := by unfold idx; rw [if_pos (by omega)]; exact h
theorem idx_lt {α : Type} {xs : List α} {i : Int} (h0 : 0 ≤ i) (h : i < (xs.length : Int)) : ∃ x,idx xs i = some x := by
  unfold idx
  rw [if_pos h0,List.getElem?_eq_getElem (by omega)]
  exact ⟨_,rfl⟩
/-- A row with some more elements; not if it were too long for any machine. -/
def app {α : Type} (xs ys : List α) : Option (List α) := if xs.length + ys.length ≤ 1099511627776 then some (xs ++ ys) else none
theorem app_out {α : Type} {xs ys zs : List α} (h : app xs ys = some zs) : zs = xs ++ ys ∧ xs.length + ys.length ≤ 1099511627776 := by
  unfold app at h
  split at h
  · rename_i hl; injection h with h; exact ⟨h.symm,hl⟩
  · cases h
/-- The element number i is another one. -/
def put {α : Type} (xs : List α) (i : Int) (x : α) : Option (List α) := if 0 ≤ i ∧ i < (xs.length : Int) then some (xs.set i.toNat x) else none
theorem put_out {α : Type} {xs ys : List α} {i : Int} {x : α} (h : put xs i x = some ys) : (0 ≤ i ∧ i < (xs.length : Int)) ∧ ys = xs.set i.toNat x := by
  unfold put at h
  split at h
  · rename_i hl; injection h with h; exact ⟨hl,h.symm⟩
  · cases h
def cut {α : Type} (xs : List α) (i j : Int) : Option (List α) := if 0 ≤ i ∧ i ≤ j ∧ j ≤ (xs.length : Int) then some ((xs.take j.toNat).drop i.toNat) else none
/-- The byte number i of a string. -/
def bidx (s : ByteArray) (i : Int) : Option Int := if 0 ≤ i then (s[i.toNat]?).map fun b => (b.toNat : Int) else none
/-- A row of n elements z. -/
def mk {α : Type} (z : α) (n : Int) : Option (List α) := if 0 ≤ n ∧ n ≤ 65536 then some (List.replicate n.toNat z) else none

/-! ### Numbers -/
def w64 (n : Int) : Int := IntKind.i64.wrap n
def mn (a b : Int) : Int := if b < a then b else a
def mx (a b : Int) : Int := if a < b then b else a
def bAnd (kd : IntKind) (a b : Int) : Int := kd.wrap ((BitVec.ofInt kd.bits a &&& BitVec.ofInt kd.bits b).toNat)
def bOr (kd : IntKind) (a b : Int) : Int := kd.wrap ((BitVec.ofInt kd.bits a ||| BitVec.ofInt kd.bits b).toNat)
def bXor (kd : IntKind) (a b : Int) : Int := kd.wrap ((BitVec.ofInt kd.bits a ^^^ BitVec.ofInt kd.bits b).toNat)
def bAndNot (kd : IntKind) (a b : Int) : Int := kd.wrap ((BitVec.ofInt kd.bits a &&& ~~~ BitVec.ofInt kd.bits b).toNat)
def shl (kd : IntKind) (a b : Int) : Int := kd.wrap (a * 2 ^ min b.toNat kd.bits)
def shr (kd : IntKind) (a b : Int) : Int := a.fdiv (2 ^ min b.toNat kd.bits)
theorem u_nonneg {kd : IntKind} (h : kd.signed = false) (n : Int) : 0 ≤ kd.wrap n := by
  unfold IntKind.wrap
  simp only [h,Bool.false_and,Bool.false_eq_true,if_false]
  exact Int.emod_nonneg _ (by cases kd <;> decide)
theorem w64_in {n : Int} (h : -9223372036854775808 ≤ n ∧ n ≤ 9223372036854775807) : w64 n = n := IntWalk.i64_in n h
theorem lt_s {n m : Nat} (h : n = m + 1) : m < n := by omega
end Go.Proofs.YtcdoangbkgaapaaGreatK
