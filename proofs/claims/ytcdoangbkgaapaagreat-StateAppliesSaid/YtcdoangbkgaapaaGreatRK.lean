/- Arguments that came in,as rows that may be read by the machine K; and the way from a contract to the call. No condition. -/
import Derived.Test.YtcdoangbkgaapaaGreatE
import Derived.ChangeSame
import Derived.Deep.Slices
import Derived.WalkKit
import Derived.ChangeSlices
import Derived.Below
import Derived.Laws.IdiomArrays
set_option linter.unusedVariables false
namespace Go.Proofs.YtcdoangbkgaapaaGreatK
open Go Go.RowKit Go.ChangeShapes Go.WideShapes
def S0 (W : World) : St := ⟨W.cell?,[]⟩
theorem sh0 (W : World) : SH W (S0 W) W := ⟨Below.refl _ _,fun a v h => ⟨h,(by simp [S0,blocksL])⟩,fun e he => (by cases he),(by simp [S0,blocksL])⟩
theorem le0 (W : World) : Le ⟨W.cell?,[]⟩ (S0 W) := Le.refl _
section
variable {P : Program} {H : Type} {enc : TypeId × Value → H} {W : World} {α : Type} {E : Enc α}
theorem fl_out {en : α → List Value} {sz : Nat} (h : ∀ x,(en x).length = sz) (hs : 0 < sz) : ∀ {xs : List α} {j : Nat} {v : Value},(fl en xs)[j]? = some v → ∃ x,xs[j / sz]? = some x ∧ (en x)[j % sz]? = some v
  | [],j,v,hv => by simp [fl] at hv
  | x :: xs,j,v,hv => by
    have e : fl en (x :: xs) = en x ++ fl en xs := rfl
    rw [e] at hv
    by_cases hj : j < sz
    · rw [List.getElem?_append_left (by rw [h]; exact hj)] at hv
      exact ⟨x,by rw [Nat.div_eq_of_lt hj]; rfl,by rw [Nat.mod_eq_of_lt hj]; exact hv⟩
    · rw [List.getElem?_append_right (by rw [h]; omega),h] at hv
      obtain ⟨y,h1,h2⟩ := fl_out h hs hv
      refine ⟨y,?_,by rw [Nat.mod_eq_sub_mod (by omega)]; exact h2⟩
      rw [Nat.div_eq_sub_div hs (by omega)]
      exact h1
theorem sl_of {y : Addr} {len cap : Nat} (hlc : len ≤ cap) (hex : ∀ i,i < len → ∃ x : α,∀ j v,(E.en x)[j]? = some v → W.cell? ((y.add (i * E.sz)).add j) = some v) :
    ∃ l : List α,l.length = len ∧ Sl (S0 W) (some y) len cap (fl E.en l) := by
  by_cases h0 : len = 0
  · subst h0
    refine ⟨[],rfl,?_⟩
    unfold Sl Rd
    exact ⟨fun _ _ _ => ⟨fun h => (by cases h),fun j v h => by simp [fl] at h⟩,fun _ _ _ => hlc⟩
  haveI : Inhabited α := ⟨(hex 0 (by omega)).choose⟩
  obtain ⟨f,hf⟩ := Deep.choose_lt hex
  refine ⟨(List.range len).map f,by simp,?_⟩
  have hs : 0 < E.sz := by simpa using E.pos
  unfold Sl
  refine ⟨?_,fun _ _ _ => hlc⟩
  unfold Rd
  intro w0 w hw
  refine ⟨fun h => (by cases h),fun j v hv => ?_⟩
  obtain ⟨x,h1,h2⟩ := fl_out E.len hs hv
  have hj : j / E.sz < len := by
    have := (List.getElem?_eq_some_iff.1 h1).1
    simpa using this
  have hx : x = f (j / E.sz) := by
    rw [List.getElem?_map,List.getElem?_range hj] at h1
    simpa using h1.symm
  subst hx
  have := hf _ hj _ _ h2
  rw [Deep.add_add,Nat.div_add_mod'] at this
  exact (hw.ro _ _ this).1
theorem sl_none : Sl (S0 W) none 0 0 (fl E.en []) := by
  unfold Sl Rd
  exact ⟨fun _ _ _ => ⟨fun _ => rfl,fun j v h => by simp [fl] at h⟩,fun _ _ _ => Nat.le_refl 0⟩
theorem rk_ints {t e : TypeId} {a : Option Addr} {len cap : Nat} {x : DataW H} {p : List MemPlace} (ht : P.underlying t = some (.slice e)) (he : P.underlying e = some (.int .i64)) (hc : P.cellsOf e = 1)
    (h : DataW.Trod enc P W 0 (fun _ => true) true t (.slice a len cap) x p) : ∃ l : List Int,l.length = len ∧ Sl (S0 W) a len cap (fl eI64.en l) := by
  obtain ⟨fuel,hf⟩ := h
  rcases open_ints ht he hc hf with ⟨hcs,_⟩ | ⟨y,l,c,zs,hcs,_,hl,hm,hz,_,hcell,hwz⟩
  · simp [Value.cells] at hcs
    obtain ⟨rfl,rfl,rfl⟩ := hcs
    exact ⟨[],rfl,sl_none⟩
  · simp [Value.cells] at hcs
    obtain ⟨rfl,rfl,rfl⟩ := hcs
    refine sl_of (E := eI64) hl fun i hi => ⟨zs.getD i 0,fun j v hv => ?_⟩
    have hz' : zs.length = cap := by simpa using hz
    match j,hv with
    | 0,hv =>
      simp [eI64] at hv
      subst hv
      have := hcell i (by omega)
      simpa [eI64,Deep.add_add] using this
    | j + 1,hv => simp [eI64] at hv
theorem HC.calls {f : FuncId} {args : Array Value} {S' : St} (h : HC P f args ⟨W.cell?,[]⟩ fun r S1 => r = .bool true ∧ S1 = S') : Calls P f args W fun e w' => e = .returned (.bool true) ∧ Below W.heap.size W w' := by
  have h := h
  unfold HC at h
  refine (h.2 W W (sh0 W)).mono ?_
  rintro e w' ⟨v,S1,rfl,hw,rfl,_⟩
  exact ⟨rfl,hw.below⟩
end
end Go.Proofs.YtcdoangbkgaapaaGreatK
