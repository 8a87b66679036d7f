/- Logs and what they fold to; when states are the same. No condition. -/
import Derived.Test.YtcdoangbkgaapaaGreatPXd
set_option linter.unusedVariables false
set_option linter.unusedSectionVars false
set_option linter.unusedSimpArgs false
set_option maxHeartbeats 4000000
namespace Go.Proofs.YtcdoangbkgaapaaGreatK
open Go
attribute [local irreducible] loop runN
/-- What Apply returns. -/
theorem apply_res {c : Config} {s : State} (hc : Good c) (hw : WX c s) (e : Entry) : Tot (state_Apply c s e) fun p => (p.2 = 0 → Stp c s e p.1) ∧ (p.2 ≠ 0 → p.1 = zS) := by
  refine Tot.and (apply_tot hc hw.wf e) ?_
  have h3 := hw.wf.tn
  have h4 := hw.wf.cn
  obtain ⟨b,hb,ib⟩ := valid_tot hc e
  cases b with
  | false =>
    unfold state_Apply
    rw [hb]
    exact Tot.pure fun _ => rfl
  | true =>
    have he := ib rfl
    by_cases hcnt : s.Count < 4096
    · by_cases htick : s.Tick ≤ e.Tick
      · rw [p_kinds hc hw he hcnt htick hb]
        refine Tot.map ((a_apply hc hw.wf he).mono fun p _ h => ?_)
        unfold fin at h ⊢
        split at h
        · exact absurd rfl h
        · rename_i hp; rw [if_neg hp]
      · unfold state_Apply
        rw [hb,h3,h4]
        have t1 : decide (4096 ≤ s.Count) = false := decide_eq_false (by omega)
        have t2 : decide (e.Tick < s.Tick) = true := decide_eq_true (by omega)
        simp only [Option.bind_some,Bool.not_true,Bool.false_eq_true,if_false,decide_true,t1,t2,if_true]
        exact Tot.pure fun _ => rfl
    · unfold state_Apply
      rw [hb,h3,h4]
      have t1 : decide (4096 ≤ s.Count) = true := decide_eq_true (by omega)
      simp only [Option.bind_some,Bool.not_true,Bool.false_eq_true,if_false,decide_true,t1,if_true]
      exact Tot.pure fun _ => rfl
/-- Entries that are accepted one after the other. -/
def Run (c : Config) : State → List Entry → State → Prop
  | s,[],y => y = s
  | s,e :: es,y => ∃ x,state_Apply c s e = some (x,0) ∧ Run c x es y
theorem Run.snoc {c : Config} : ∀ {es : List Entry} {s x y : State} {e : Entry},Run c s es x → state_Apply c x e = some (y,0) → Run c s (es ++ [e]) y
  | [],s,x,y,e,h,h2 => by subst h; exact ⟨y,h2,rfl⟩
  | a :: es,s,x,y,e,⟨z,hz,h⟩,h2 => ⟨z,hz,Run.snoc h h2⟩
theorem Run.wx {c : Config} (hc : Good c) : ∀ {es : List Entry} {s y : State},WX c s → Run c s es y → WX c y ∧ y.Count = s.Count + es.length
  | [],s,y,hw,h => by subst h; exact ⟨hw,by simp⟩
  | a :: es,s,y,hw,⟨z,hz,h⟩ => by
    have h1 := (apply_res hc hw a).eq hz
    have h2 := h1.1 rfl
    have h3 := Run.wx hc (wx_step hc hw h2) h
    obtain ⟨m,hm,hq⟩ := h2.m
    refine ⟨h3.1,?_⟩
    rw [h3.2]
    simp only at hq
    subst hq
    simp only [List.length_cons]
    omega
theorem Run.split {c : Config} : ∀ {es : List Entry} {s y : State} (k : Nat),Run c s es y → ∃ m,Run c s (es.take k) m ∧ Run c m (es.drop k) y
  | es,s,y,0,h => ⟨s,by simp [Run],by simpa using h⟩
  | [],s,y,k + 1,h => ⟨s,by simp [Run],by simpa using h⟩
  | a :: es,s,y,k + 1,⟨z,hz,h⟩ => by
    obtain ⟨m,h1,h2⟩ := Run.split k h
    exact ⟨m,⟨z,hz,h1⟩,h2⟩
theorem log_tot {c : Config} (hc : Good c) (l : List Int) (hl : l.length ≤ 200) (n : Int) (hn : 0 ≤ n ∧ n ≤ 100) : Tot (cellplanemake_Log l c n) fun xs => (xs.length : Int) ≤ n ∧ ∃ y,Run c (newS c) xs y := by
  unfold cellplanemake_Log
  rw [new_eq]
  refine Tot.bind (new_tot hc) ?_
  rintro _ rfl
  refine Tot.loop (fun x : List Entry × Int × Int × Int × List TenantState × List CellState × Int × Int × Int × Int => ((x.1.length : Int) ≤ n) ∧ (0 ≤ x.2.1 ∧ x.2.1 ≤ 260) ∧ Run c (newS c) x.1 ⟨x.2.2.1,x.2.2.2.1,x.2.2.2.2.1,x.2.2.2.2.2.1,x.2.2.2.2.2.2.1,x.2.2.2.2.2.2.2.1,x.2.2.2.2.2.2.2.2.1,x.2.2.2.2.2.2.2.2.2⟩ ∧ WX c ⟨x.2.2.1,x.2.2.2.1,x.2.2.2.2.1,x.2.2.2.2.2.1,x.2.2.2.2.2.2.1,x.2.2.2.2.2.2.2.1,x.2.2.2.2.2.2.2.2.1,x.2.2.2.2.2.2.2.2.2⟩) (fun x => (300 - x.2.1).toNat) ⟨by simp; omega,by simp [cellplanemake_New],rfl,wx_new hc⟩ ?_
  rintro ⟨xs,a,ti,co,ts,cs,pr,ev,lo,hi⟩ ⟨hx,ha,hr,hw⟩
  simp only at hx ha hr hw
  unfold cellplanemake_Log.b1 cellplanemake_Tape_More
  simp only [tpe]
  refine Tot.bind (P := fun b => b = true → (xs.length : Int) < n ∧ a < (l.length : Int)) (Tot.dec (fun h => Tot.pure fun h2 => ⟨h,of_decide_eq_true h2⟩) fun _ => Tot.pure fun h => by cases h) fun b hb => Tot.ite (fun hb1 => ?_) fun _ => Tot.map (Tot.pure ⟨hx,_,hr⟩)
  obtain ⟨hlen,hal⟩ := hb hb1
  have hpos : 0 < l.length := by omega
  refine Tot.bind (entry_tot hc hw.wf (lb := a) (l := l) (a := a) (m := a) ⟨by omega,⟨ha.1,Int.le_refl _⟩,Int.le_refl _,by omega⟩ (by omega)) ?_
  rintro ⟨e,a'⟩ A
  dsimp only
  simp only at A
  rw [if_neg (by omega)] at A
  have hgt := A.2.1.2
  have hup := A.2.2.1
  rw [apply_eq hc hw]
  refine Tot.bind (Tot.self (apply_res hc hw e)) ?_
  rintro ⟨y,err⟩ ⟨hy,h1,h2⟩
  dsimp only
  simp only at h1
  refine Tot.dec (fun h => ?_) fun h => Tot.pure ⟨⟨hx,⟨by simp only; omega,by simp only; omega⟩,hr,hw⟩,by simp only; omega⟩
  subst h
  refine Tot.bind (tot_app1 (by omega)) ?_
  rintro _ rfl
  exact Tot.pure ⟨⟨by simp only [len_app1]; omega,⟨by simp only; omega,by simp only; omega⟩,hr.snoc hy,wx_step hc hw (h1 rfl)⟩,by simp only; omega⟩
end Go.Proofs.YtcdoangbkgaapaaGreatK
