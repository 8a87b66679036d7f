/- Proven versions,and how many cells are unproven. No condition. -/
import Derived.Test.YtcdoangbkgaapaaGreatPW
set_option linter.unusedVariables false
set_option linter.unusedSectionVars false
set_option maxHeartbeats 4000000
namespace Go.Proofs.YtcdoangbkgaapaaGreatK
open Go
attribute [local irreducible] loop runN
/-- How many numbers below n have a property. -/
def cntN (p : Nat → Bool) : Nat → Nat
  | 0 => 0
  | n + 1 => cntN p n + if p n = true then 1 else 0
theorem cntN_le {p q : Nat → Bool} : ∀ {n : Nat},(∀ i,i < n → p i = true → q i = true) → cntN p n ≤ cntN q n
  | 0,_ => Nat.le_refl 0
  | n + 1,h => by
    have h1 := cntN_le (p := p) (q := q) (n := n) fun i hi => h i (by omega)
    have h2 := h n (by omega)
    unfold cntN
    cases hp : p n with
    | false => simp; omega
    | true => rw [h2 hp]; simp; omega
theorem cntN_but {p : Nat → Bool} (k : Nat) : ∀ {n : Nat},cntN p n ≤ cntN (fun i => p i && !decide (i = k)) n + (if k < n then 1 else 0)
  | 0 => by simp [cntN]
  | n + 1 => by
    have h1 := cntN_but (p := p) k (n := n)
    unfold cntN
    by_cases hk : n = k
    · subst hk
      rw [if_neg (by omega)] at h1
      rw [if_pos (show n < n + 1 by omega)]
      split <;> simp <;> omega
    · simp only [hk,decide_false,Bool.not_false,Bool.and_true]
      by_cases hlt : k < n
      · rw [if_pos hlt] at h1; rw [if_pos (show k < n + 1 by omega)]; cases p n <;> simp <;> omega
      · rw [if_neg hlt] at h1; rw [if_neg (show ¬ k < n + 1 by omega)]; cases p n <;> simp <;> omega
/-! ### The bits -/
theorem p_bit (P i : Int) (hP : 0 ≤ P ∧ P ≤ 7) (hi : 0 ≤ i ∧ i ≤ 2) : decide (bAnd .i64 (shr .i64 P i) 1 = 1) = cellplaneref04_Has P i := by
  have h1 : P = 0 ∨ P = 1 ∨ P = 2 ∨ P = 3 ∨ P = 4 ∨ P = 5 ∨ P = 6 ∨ P = 7 := by omega
  have h2 : i = 0 ∨ i = 1 ∨ i = 2 := by omega
  rcases h1 with rfl | rfl | rfl | rfl | rfl | rfl | rfl | rfl <;> rcases h2 with rfl | rfl | rfl <;> decide +kernel
theorem p_or (P n : Int) (hP : 0 ≤ P ∧ P ≤ 7) (hn : 0 ≤ n ∧ n ≤ 2) : (0 ≤ bOr .i64 P (shl .i64 1 n) ∧ bOr .i64 P (shl .i64 1 n) ≤ 7) ∧ ∀ i,0 ≤ i ∧ i ≤ 2 → cellplaneref04_Has P i = true → cellplaneref04_Has (bOr .i64 P (shl .i64 1 n)) i = true := by
  have h1 : P = 0 ∨ P = 1 ∨ P = 2 ∨ P = 3 ∨ P = 4 ∨ P = 5 ∨ P = 6 ∨ P = 7 := by omega
  have h2 : n = 0 ∨ n = 1 ∨ n = 2 := by omega
  refine ⟨?_,fun i hi => ?_⟩
  · rcases h1 with rfl | rfl | rfl | rfl | rfl | rfl | rfl | rfl <;> rcases h2 with rfl | rfl | rfl <;> decide +kernel
  · have h3 : i = 0 ∨ i = 1 ∨ i = 2 := by omega
    rcases h1 with rfl | rfl | rfl | rfl | rfl | rfl | rfl | rfl <;> rcases h2 with rfl | rfl | rfl <;> rcases h3 with rfl | rfl | rfl <;> decide +kernel
/-- A cell is unproven. -/
def opn (P : Int) (x : CellState) : Bool := (!cellplaneref04_Has P x.Running) || !cellplaneref04_Has P x.Wanted
def opnI (s : State) (i : Nat) : Bool := match s.Cells[i]? with
  | some x => opn s.Proven x
  | none => false
theorem proven_has {s : State} {v : Int} (hP : 0 ≤ s.Proven ∧ s.Proven ≤ 7) (hv : 0 ≤ v ∧ v ≤ 2) : state_proven s v = some (cellplaneref04_Has s.Proven v) := by
  unfold state_proven
  rw [if_pos (decide_eq_true hv.1),if_pos (by exact decide_eq_true (by omega)),if_pos hv.1,p_bit _ _ hP hv]
  rfl
theorem unproven_opn {c : Config} {s : State} (hc : Good c) (hw : WF c s) (hP : 0 ≤ s.Proven ∧ s.Proven ≤ 7) {i : Nat} (hi : i < s.Cells.length) : state_unproven s (i : Int) = some (opnI s i) := by
  have hv := hc.vn
  obtain ⟨x,hx⟩ : ∃ x,s.Cells[i]? = some x := ⟨_,List.getElem?_eq_getElem hi⟩
  have hx' := hw.ce x (mem_of hx)
  have h1 := hx'.run
  have h2 := hx'.want
  unfold state_unproven opnI
  rw [idx_nat hx,hx]
  simp only [Option.bind_some]
  rw [proven_has hP (by omega),proven_has hP (by omega)]
  unfold opn
  simp only [Option.bind_some]
  cases cellplaneref04_Has s.Proven x.Running <;> simp
theorem others_cnt {c : Config} {s : State} (hc : Good c) (hw : WF c s) (hP : 0 ≤ s.Proven ∧ s.Proven ≤ 7) (k : Nat) : ∀ n,n ≤ s.Cells.length → ((openL s n).filter fun x => !decide (x = (k : Int))).length = cntN (fun i => opnI s i && !decide (i = k)) n
  | 0,_ => rfl
  | n + 1,h => by
    have ih := others_cnt hc hw hP k n (by omega)
    unfold openL cntN
    rw [unproven_opn hc hw hP (by omega)]
    cases ho : opnI s n with
    | false => simp [ih]
    | true =>
      rw [if_pos rfl,List.filter_append,List.length_append,ih]
      by_cases hk : n = k
      · subst hk; simp
      · have : ¬ (n : Int) = (k : Int) := by omega
        simp [hk,this]
end Go.Proofs.YtcdoangbkgaapaaGreatK
