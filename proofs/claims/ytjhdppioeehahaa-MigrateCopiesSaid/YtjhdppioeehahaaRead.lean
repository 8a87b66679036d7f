/- Arguments that came in, as rows that may be read; and the way from a contract to the call. No condition. -/
import Derived.Test.YtjhdppioeehahaaLaw31
import Derived.ChangeSame
import Derived.Deep.Slices
import Derived.WalkKit
import Derived.ChangeSlices
import Derived.Below
namespace Go.Proofs.YtjhdppioeehahaaM
open Go Go.RowKit Go.ChangeShapes Go.WideShapes

/-- What is known where a law begins: the memory that came in. -/
def S0 (W : World) : St := { ro := W.cell?, H := fun _ => none }
theorem sh0 (W : World) : SH W (S0 W) W := ⟨Below.refl _ _, fun a v h => ⟨h, rfl⟩, fun b o h => by cases h⟩
section
variable {P : Program} {H : Type} {enc : TypeId × Value → H} {W : World}
theorem row_ints {t e : TypeId} {k : IntKind} {a : Option Addr} {len cap : Nat} {x : DataW H} {p : List MemPlace} (ht : P.underlying t = some (.slice e)) (he : P.underlying e = some (.int k)) (hc : P.cellsOf e = 1)
    (h : DataW.Trod enc P W 0 (fun _ => true) true t (.slice a len cap) x p) : ∃ l : List Int, l.length = len ∧ RInts W.cell? k a l := by
  obtain ⟨fuel, hf⟩ := h
  rcases open_ints ht he hc hf with ⟨hcs, _⟩ | ⟨y, l, c, zs, hcs, _, hl, hm, hz, _, hcell, hwz⟩
  · simp [Value.cells] at hcs
    obtain ⟨rfl, rfl, rfl⟩ := hcs
    exact ⟨[], rfl, fun i x hx => by simp at hx⟩
  · simp [Value.cells] at hcs
    obtain ⟨rfl, rfl, rfl⟩ := hcs
    have hz' : zs.length = cap := by simpa using hz
    refine ⟨zs.take len, by rw [List.length_take]; omega, fun i x hx => ⟨y, rfl, ?_⟩⟩
    rw [List.getElem?_take] at hx
    split at hx
    · rename_i hi
      rw [hcell i (by omega)]
      simp [List.getD_eq_getElem?_getD, hx]
    · cases hx
theorem row_pairs {t e : TypeId} {f0 f1 : Field} {a : Option Addr} {len cap : Nat} {x : DataW H} {p : List MemPlace} (ht : P.underlying t = some (.slice e)) (he : P.underlying e = some (.struct #[f0, f1])) (hc : P.cellsOf e = 2)
    (h0 : P.underlying f0.type = some (.int .i64)) (h1 : P.underlying f1.type = some (.int .i64)) (hc0 : P.cellsOf f0.type = 1) (hc1 : P.cellsOf f1.type = 1) (ho0 : f0.offset = 0) (ho1 : f1.offset = 1)
    (h : DataW.Trod enc P W 0 (fun _ => true) true t (.slice a len cap) x p) : ∃ l : List (Int × Int), l.length = len ∧ REv W.cell? a l := by
  obtain ⟨fuel, h⟩ := h
  rcases Deep.open_slice ht h with ⟨hcs, _⟩ | ⟨y, l, c, m, n, D, Pl, hcs, hb, hl, hm, hmm, _, hi⟩
  · simp [Value.cells] at hcs
    obtain ⟨rfl, rfl, rfl⟩ := hcs
    exact ⟨[], rfl, .inl ⟨rfl, rfl⟩⟩
  · simp [Value.cells] at hcs
    obtain ⟨rfl, rfl, rfl⟩ := hcs
    have hm2 : m = cap := by simpa using hmm
    have hex : ∀ i, i < len → ∃ v : Int × Int, W.cell? (y.add (i * 2)) = some (.int .i64 v.1) ∧ W.cell? (y.add (i * 2 + 1)) = some (.int .i64 v.2) := by
      intro i hil
      obtain ⟨cs', h2, h3⟩ := hi i (by omega)
      rw [hc] at h2
      obtain ⟨_, hcl, hat⟩ := World.cells?_some h2
      obtain ⟨y0, y1, n', _, _, hd0, hd1⟩ := trod_struct2 he h3
      obtain ⟨u0, hu0, _⟩ := DataW.trod_int h0 hd0
      obtain ⟨u1, hu1, _⟩ := DataW.trod_int h1 hd1
      rw [ho0, hc0] at hu0
      rw [ho1, hc1] at hu1
      match cs', hcl, hu0, hu1 with
      | [c0, c1], _, hu0, hu1 =>
        simp at hu0 hu1
        subst hu0
        subst hu1
        have a0 := hat 0 (by omega)
        have a1 := hat 1 (by omega)
        rw [Deep.add_add] at a0 a1
        exact ⟨(u0, u1), by simpa using a0, by simpa using a1⟩
    obtain ⟨f, hf⟩ := Deep.choose_lt hex
    refine ⟨(List.range len).map f, by simp, .inr ⟨y, rfl, fun j u hu => ?_⟩⟩
    have hj : j < len * 2 := by
      have := (List.getElem?_eq_some_iff.1 hu).1
      rw [evC_len] at this
      simpa using this
    have hlen : ((List.range len).map f).length = len := by simp
    have hq := evC_at ((List.range len).map f) (j / 2) (by rw [hlen]; omega)
    simp only [List.getElem_map, List.getElem_range] at hq
    obtain ⟨e0, e1⟩ := hf (j / 2) (by omega)
    have hr : (((evC ((List.range len).map f)).drop (j / 2 * 2)).take 2)[j % 2]? = some u := by
      rw [List.getElem?_take, if_pos (by omega), List.getElem?_drop, show j / 2 * 2 + j % 2 = j by omega]
      exact hu
    rw [hq] at hr
    rcases Nat.mod_two_eq_zero_or_one j with hmod | hmod
    · rw [hmod] at hr
      simp at hr
      rw [← hr, show j = j / 2 * 2 by omega]
      rw [show j / 2 * 2 / 2 = j / 2 by omega]
      exact e0
    · rw [hmod] at hr
      simp at hr
      rw [← hr, show j = j / 2 * 2 + 1 by omega]
      rw [show (j / 2 * 2 + 1) / 2 = j / 2 by omega]
      exact e1
theorem arg_pair {t : TypeId} {f0 f1 : Field} {v : Value} {x : DataW H} {p : List MemPlace} {r : Reach} {base : Nat} (he : P.underlying t = some (.struct #[f0, f1])) (hc : P.cellsOf t = 2)
    (h0 : P.underlying f0.type = some (.int .i64)) (h1 : P.underlying f1.type = some (.int .i64)) (hc0 : P.cellsOf f0.type = 1) (hc1 : P.cellsOf f1.type = 1) (ho0 : f0.offset = 0) (ho1 : f1.offset = 1)
    (hv : Value.okWide P W r base t v) (h : DataW.Trod enc P W 0 (fun _ => true) true t v x p) : ∃ a b : Int, v = .agg #[.int .i64 a, .int .i64 b] := by
  obtain ⟨cs, rfl, hs⟩ := okWide_struct he hv
  obtain ⟨fuel, h⟩ := h
  obtain ⟨y0, y1, n', _, _, hd0, hd1⟩ := trod_struct2 he h
  obtain ⟨u0, hu0, _⟩ := DataW.trod_int h0 hd0
  obtain ⟨u1, hu1, _⟩ := DataW.trod_int h1 hd1
  rw [ho0, hc0] at hu0
  rw [ho1, hc1] at hu1
  refine ⟨u0, u1, ?_⟩
  rw [hc] at hs
  match cs, hs, hu0, hu1 with
  | ⟨[c0, c1]⟩, _, hu0, hu1 =>
    simp [Value.cells] at hu0 hu1
    subst hu0
    subst hu1
    rfl
/-- From a contract to the call. -/
theorem HC.calls {f : FuncId} {args : Array Value} {S' : St} (h : HC P f args (S0 W) fun r S1 => r = .bool true ∧ S1 = S') : Calls P f args W fun e w' => e = .returned (.bool true) ∧ Below W.heap.size W w' := by
  have h := h
  unfold HC at h
  refine (h.2 W W (sh0 W)).mono ?_
  rintro e w' ⟨v, S1, rfl, hw, rfl, _⟩
  exact ⟨rfl, hw.below⟩
end
end Go.Proofs.YtjhdppioeehahaaM
