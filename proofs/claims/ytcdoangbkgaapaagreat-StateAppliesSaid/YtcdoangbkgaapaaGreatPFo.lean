/- What logs fold to; when states are the same. No condition. -/
import Derived.Test.YtcdoangbkgaapaaGreatPR
set_option linter.unusedVariables false
set_option linter.unusedSectionVars false
set_option linter.unusedSimpArgs false
set_option maxHeartbeats 4000000
namespace Go.Proofs.YtcdoangbkgaapaaGreatK
open Go
attribute [local irreducible] loop runN
/-- What entries fold to. -/
noncomputable def foldP (c : Config) : State → List Entry → Int → State × Int × Int
  | s,[],i => (s,i,0)
  | s,e :: es,i => match state_Apply c s e with
    | some (x,err) => if err = 0 then foldP c x es (i + 1) else (s,i,err)
    | none => (s,i,0)
theorem foldP_wx {c : Config} (hc : Good c) : ∀ (es : List Entry) (s : State) (i : Int),WX c s → WX c (foldP c s es i).1
  | [],s,i,hw => hw
  | e :: es,s,i,hw => by
    obtain ⟨⟨x,err⟩,hx,h1,h2⟩ := apply_res hc hw e
    unfold foldP
    rw [hx]
    simp only at h1 ⊢
    split
    · rename_i h; exact foldP_wx hc es x (i + 1) (wx_step hc hw (h1 h))
    · exact hw
theorem drop_cons {α : Type} {xs : List α} {i : Nat} {x : α} (h : xs[i]? = some x) : xs.drop i = x :: xs.drop (i + 1) := by
  obtain ⟨hlt,rfl⟩ := List.getElem?_eq_some_iff.1 h
  exact (List.getElem_cons_drop hlt).symm
theorem foldP_step {c : Config} {s x : State} {e : Entry} {es : List Entry} {i err : Int} (h : state_Apply c s e = some (x,err)) : foldP c s (e :: es) i = if err = 0 then foldP c x es (i + 1) else (s,i,err) := by
  conv => lhs; unfold foldP
  rw [h]
theorem fold_from {c : Config} (hc : Good c) (xs : List Entry) (hl : xs.length ≤ 100000) (R : State × Int × Int) (i0 : Int) (s0 : State) (h0 : 0 ≤ i0 ∧ i0 ≤ xs.length) (hw0 : WX c s0) (hR : foldP c s0 (xs.drop i0.toNat) i0 = R) :
    Tot (loop (state_Fold.b2 xs c) (i0,s0.Tick,s0.Count,s0.Tenants,s0.Cells,s0.Proven,s0.Evacuating,s0.Low,s0.High)) fun r => r = R := by
  refine Tot.loop (fun x : Int × Int × Int × List TenantState × List CellState × Int × Int × Int × Int => (0 ≤ x.1 ∧ x.1 ≤ xs.length) ∧ WX c ⟨x.2.1,x.2.2.1,x.2.2.2.1,x.2.2.2.2.1,x.2.2.2.2.2.1,x.2.2.2.2.2.2.1,x.2.2.2.2.2.2.2.1,x.2.2.2.2.2.2.2.2⟩ ∧ foldP c ⟨x.2.1,x.2.2.1,x.2.2.2.1,x.2.2.2.2.1,x.2.2.2.2.2.1,x.2.2.2.2.2.2.1,x.2.2.2.2.2.2.2.1,x.2.2.2.2.2.2.2.2⟩ (xs.drop x.1.toNat) x.1 = R) (fun x => (xs.length - x.1).toNat) ⟨h0,hw0,hR⟩ ?_
  rintro ⟨i,ti,co,ts,cs,pr,ev,lo,hi⟩ ⟨hi',hw,hr⟩
  simp only at hi' hw hr
  unfold state_Fold.b2
  have hn : (i + 1).toNat = i.toNat + 1 := by omega
  refine Tot.dec (fun h => Tot.bind (tot_idx hi'.1 h) fun e he => Tot.bind (Tot.self (apply_res hc hw e)) ?_) fun h => ?_
  · rintro ⟨y,err⟩ ⟨hy,h1,h2⟩
    dsimp only
    simp only at h1
    rw [drop_cons he,foldP_step hy] at hr
    refine Tot.ndec (fun h3 => Tot.map (Tot.pure ?_)) fun h3 => Tot.pure ⟨⟨?_,wx_step hc hw (h1 h3),?_⟩,?_⟩
    · rw [if_neg h3] at hr; exact hr
    · simp only; rw [w64_s (by omega)]; omega
    · rw [if_pos h3] at hr; simp only; rw [w64_s (by omega),hn]; exact hr
    · simp only; rw [w64_s (by omega)]; omega
  · unfold state_Fold.j1
    have hi2 : i = xs.length := by omega
    rw [hi2] at hr
    simp only [Int.toNat_natCast,List.drop_length] at hr
    exact Tot.map (Tot.pure hr)
theorem fold_tot {c : Config} (hc : Good c) (xs : List Entry) (hl : xs.length ≤ 100000) : Tot (state_Fold c xs) fun r => r = foldP c (newS c) xs 0 := by
  unfold state_Fold
  refine Tot.bind (new_tot hc) ?_
  rintro _ rfl
  exact fold_from hc xs hl _ 0 (newS c) (by omega) (wx_new hc) rfl
theorem foldP_run {c : Config} : ∀ {es : List Entry} {s y : State} {i : Int},Run c s es y → foldP c s es i = (y,i + es.length,0)
  | [],s,y,i,h => by subst h; simp [foldP]
  | e :: es,s,y,i,⟨x,hx,h⟩ => by
    rw [foldP_step hx,if_pos rfl,foldP_run h]
    simp only [List.length_cons]
    congr 2
    omega
/-! ### Equal states -/
/-- A loop that compares two lists. -/
theorem same_loop {α R : Type} [DecidableEq α] {xs ys : List α} {b : Int → Option (Int ⊕ R)} {r1 r2 : R} (hl : xs.length ≤ 1000000) (hlen : xs.length = ys.length) (hb : ∀ (i : Int) x y,0 ≤ i → i < (xs.length : Int) → xs[i.toNat]? = some x → ys[i.toNat]? = some y → b i = if x = y then some (.inl (w64 (i + 1))) else some (.inr r1)) (he : ∀ i : Int,(xs.length : Int) ≤ i → b i = some (.inr r2)) : loop b 0 = some (if xs = ys then r2 else r1) := by
  have : Tot (loop b 0) fun r => r = if xs = ys then r2 else r1 := by
    refine Tot.loop (fun i => (0 ≤ i ∧ i ≤ xs.length) ∧ xs.take i.toNat = ys.take i.toNat) (fun i => (xs.length - i).toNat) ⟨by omega,by simp⟩ ?_
    rintro i ⟨hi,ha⟩
    by_cases h : i < (xs.length : Int)
    · obtain ⟨x,_,hx⟩ := tot_idx hi.1 h
      obtain ⟨y,_,hy⟩ := tot_idx (xs := ys) hi.1 (by omega)
      rw [hb i x y hi.1 h hx hy]
      by_cases hxy : x = y
      · rw [if_pos hxy]
        refine Tot.pure ⟨⟨?_,?_⟩,?_⟩
        · rw [w64_s (by omega)]; omega
        · rw [w64_s (by omega),show (i + 1).toNat = i.toNat + 1 by omega,List.take_add_one,List.take_add_one,ha,hx,hy,hxy]
        · simp only; rw [w64_s (by omega)]; omega
      · rw [if_neg hxy]
        refine Tot.pure ?_
        show r1 = _
        rw [if_neg]
        rintro rfl
        rw [hx] at hy
        injection hy with hy
        exact hxy hy
    · rw [he i (by omega)]
      refine Tot.pure ?_
      show r2 = _
      rw [List.take_of_length_le (by omega),List.take_of_length_le (by omega)] at ha
      rw [if_pos ha]
  obtain ⟨x,hx,rfl⟩ := this
  exact hx
theorem r_same_eq {a b : State} (h1 : a.Tenants.length ≤ 1000000) (h2 : a.Cells.length ≤ 1000000) : cellplaneref12_Same a b = some (decide (a = b)) := by
  obtain ⟨ti,co,ts,cs,pr,ev,lo,hi⟩ := a
  obtain ⟨ti',co',ts',cs',pr',ev',lo',hi'⟩ := b
  simp only at h1 h2
  unfold cellplaneref12_Same
  simp only
  by_cases hc : ti = ti' ∧ co = co' ∧ pr = pr' ∧ ev = ev' ∧ lo = lo' ∧ hi = hi' ∧ ts.length = ts'.length ∧ cs.length = cs'.length
  · obtain ⟨rfl,rfl,rfl,rfl,rfl,rfl,e1,e2⟩ := hc
    rw [if_neg (by simp [e1,e2])]
    have L2 := same_loop (xs := cs) (ys := cs') (b := cellplaneref12_Same.b3 ⟨ti,co,ts,cs,pr,ev,lo,hi⟩ ⟨ti,co,ts',cs',pr,ev,lo,hi⟩) (r1 := false) (r2 := true) h2 e2 (fun i x y h0 h3 hx hy => by
      unfold cellplaneref12_Same.b3
      dsimp only
      rw [if_pos (decide_eq_true h3),(tot_idxk hx h0).choose_spec.1,← (tot_idxk hx h0).choose_spec.2,Option.bind_some,(tot_idxk hy h0).choose_spec.1,← (tot_idxk hy h0).choose_spec.2,Option.bind_some]
      by_cases hxy : x = y <;> simp [hxy]) (fun i h => by
      unfold cellplaneref12_Same.b3
      dsimp only
      rw [if_neg (by simpa using h)]
      rfl)
    have L1 := same_loop (xs := ts) (ys := ts') (b := cellplaneref12_Same.b2 ⟨ti,co,ts,cs,pr,ev,lo,hi⟩ ⟨ti,co,ts',cs',pr,ev,lo,hi⟩) (r1 := false) (r2 := decide (cs = cs')) h1 e1 (fun i x y h0 h3 hx hy => by
      unfold cellplaneref12_Same.b2
      dsimp only
      rw [if_pos (decide_eq_true h3),(tot_idxk hx h0).choose_spec.1,← (tot_idxk hx h0).choose_spec.2,Option.bind_some,(tot_idxk hy h0).choose_spec.1,← (tot_idxk hy h0).choose_spec.2,Option.bind_some]
      by_cases hxy : x = y <;> simp [hxy]) (fun i h => by
      unfold cellplaneref12_Same.b2 cellplaneref12_Same.j1
      dsimp only
      rw [if_neg (by simpa using h),L2]
      by_cases hcs : cs = cs' <;> simp [hcs])
    rw [L1]
    by_cases q1 : ts = ts' <;> by_cases q2 : cs = cs' <;> simp [q1,q2]
  · rw [if_pos]
    · congr 1
      refine (decide_eq_false fun h => hc ?_).symm
      injection h with a1 a2 a3 a4 a5 a6 a7 a8
      subst a1 a2 a3 a4 a5 a6 a7 a8
      simp
    · simp only [Bool.or_eq_true,Bool.not_eq_true',decide_eq_false_iff_not]
      omega
end Go.Proofs.YtcdoangbkgaapaaGreatK
