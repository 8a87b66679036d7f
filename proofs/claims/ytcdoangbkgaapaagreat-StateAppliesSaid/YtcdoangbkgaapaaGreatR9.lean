/- An argument that is a struct of nine numbers. No condition. -/
import Derived.Test.YtcdoangbkgaapaaGreatRK
import Derived.ChangeSame
import Derived.WideShapes
set_option linter.unusedVariables false
namespace Go.Proofs.YtcdoangbkgaapaaGreatK
open Go Go.RowKit Go.ChangeShapes Go.WideShapes
section
variable {P : Program} {H : Type} {enc : TypeId × Value → H} {W : World}
theorem okWide_nine {t : TypeId} {fs : Array Field} {v : Value} {r : Reach} {base : Nat} (ht : P.underlying t = some (.struct fs)) (hc : P.cellsOf t = 9) (h : Value.okWide P W r base t v) : ∃ xs : Array Value,v = .agg xs ∧ xs.size = 9 := by
  obtain ⟨cs,h1,h2⟩ := okWide_struct ht h
  exact ⟨cs,h1,by rw [h2,hc]⟩
theorem arg_nine {t e : TypeId} {f0 f1 f2 f3 f4 f5 f6 f7 f8 : Field} {v : Value} {x : DataW H} {p : List MemPlace} (ht : P.underlying t = some (.struct #[f0,f1,f2,f3,f4,f5,f6,f7,f8])) (hc : P.cellsOf e = 1) (he : P.underlying e = some (.int .i64))
    (hf : [f0,f1,f2,f3,f4,f5,f6,f7,f8].map (fun f => (f.type,f.offset)) = [(e,0),(e,1),(e,2),(e,3),(e,4),(e,5),(e,6),(e,7),(e,8)])
    (hv : ∃ xs : Array Value,v = .agg xs ∧ xs.size = 9) (h : DataW.Trod enc P W 0 (fun _ => true) true t v x p) : ∃ a b c d a4 a5 a6 a7 a8 : Int,v = .agg #[.int .i64 a,.int .i64 b,.int .i64 c,.int .i64 d,.int .i64 a4,.int .i64 a5,.int .i64 a6,.int .i64 a7,.int .i64 a8] := by
  simp only [List.map_cons,List.map_nil,List.cons.injEq,Prod.mk.injEq,and_true] at hf
  obtain ⟨⟨t0,o0⟩,⟨t1,o1⟩,⟨t2,o2⟩,⟨t3,o3⟩,⟨t4,o4⟩,⟨t5,o5⟩,⟨t6,o6⟩,⟨t7,o7⟩,⟨t8,o8⟩⟩ := hf
  obtain ⟨cs,rfl,hs⟩ := hv
  obtain ⟨fuel,h⟩ := h
  match cs,hs,h with
  | ⟨[c0,c1,c2,c3,c4,c5,c6,c7,c8]⟩,_,h =>
    obtain ⟨xs,n,_,_,_,hlen,hf⟩ := DataW.trod_struct ht h
    match xs,hlen with
    | [y0,y1,y2,y3,y4,y5,y6,y7,y8],_ =>
      have h0 := hf 0 f0 rfl
      have h1 := hf 1 f1 rfl
      have h2 := hf 2 f2 rfl
      have h3 := hf 3 f3 rfl
      have h4 := hf 4 f4 rfl
      have h5 := hf 5 f5 rfl
      have h6 := hf 6 f6 rfl
      have h7 := hf 7 f7 rfl
      have h8 := hf 8 f8 rfl
      rw [t0,o0,hc] at h0
      rw [t1,o1,hc] at h1
      rw [t2,o2,hc] at h2
      rw [t3,o3,hc] at h3
      rw [t4,o4,hc] at h4
      rw [t5,o5,hc] at h5
      rw [t6,o6,hc] at h6
      rw [t7,o7,hc] at h7
      rw [t8,o8,hc] at h8
      obtain ⟨u0,hu0,_⟩ := DataW.trod_int he h0
      obtain ⟨u1,hu1,_⟩ := DataW.trod_int he h1
      obtain ⟨u2,hu2,_⟩ := DataW.trod_int he h2
      obtain ⟨u3,hu3,_⟩ := DataW.trod_int he h3
      obtain ⟨u4,hu4,_⟩ := DataW.trod_int he h4
      obtain ⟨u5,hu5,_⟩ := DataW.trod_int he h5
      obtain ⟨u6,hu6,_⟩ := DataW.trod_int he h6
      obtain ⟨u7,hu7,_⟩ := DataW.trod_int he h7
      obtain ⟨u8,hu8,_⟩ := DataW.trod_int he h8
      simp [Value.cells] at hu0 hu1 hu2 hu3 hu4 hu5 hu6 hu7 hu8
      subst hu0 hu1 hu2 hu3 hu4 hu5 hu6 hu7 hu8
      exact ⟨_,_,_,_,_,_,_,_,_,rfl⟩
end
end Go.Proofs.YtcdoangbkgaapaaGreatK
