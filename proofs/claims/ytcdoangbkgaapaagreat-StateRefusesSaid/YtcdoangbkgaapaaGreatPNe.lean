/- Which errors Apply has. No condition. -/
import Derived.Test.YtcdoangbkgaapaaGreatPSta
set_option linter.unusedVariables false
set_option linter.unusedSectionVars false
set_option linter.unusedSimpArgs false
set_option maxHeartbeats 4000000
namespace Go.Proofs.YtcdoangbkgaapaaGreatK
open Go
attribute [local irreducible] loop runN
/-- Neither ErrArg nor ErrTick. -/
def okE (p : Int × State) : Prop := p.1 ≠ 1 ∧ p.1 ≠ 3
def NE (m : Option (Int × State)) : Prop := ∀ p,m = some p → okE p
def NL {X : Type} (m : Option (X ⊕ (Int × State))) : Prop := ∀ p,m = some (.inr p) → okE p
section
variable {α β X : Type}
theorem NE.bind {m : Option α} {f : α → Option (Int × State)} (h : ∀ x,NE (f x)) : NE (m.bind f) := fun p hp => by
  cases m with
  | none => cases hp
  | some x => exact h x p hp
theorem NE.ite {c : Prop} [Decidable c] {Y Z : Option (Int × State)} (h1 : NE Y) (h2 : NE Z) : NE (if c then Y else Z) := by split <;> assumption
theorem NE.some {n : Int} {x : State} (h : n ≠ 1 ∧ n ≠ 3) : NE (Option.some (n,x)) := fun p hp => by injection hp with hp; subst hp; exact h
theorem NE.none : NE Option.none := fun p hp => by cases hp
theorem NE.full {f : state_fold} {s : State} : NE ((state_fold_full f).bind fun x => Option.some (x,s)) := fun p hp => by
  unfold state_fold_full at hp
  cases h : load_Over f.c f.s with
  | none => rw [h] at hp; cases hp
  | some xs =>
    rw [h] at hp
    simp only [Option.bind_some] at hp
    split at hp
    · simp only [Option.bind_some,Option.some.injEq] at hp; subst hp; exact ⟨by simp,by simp⟩
    · simp only [Option.bind_some,Option.some.injEq] at hp; subst hp; exact ⟨by simp,by simp⟩
theorem NE.loop {b : X → Option (X ⊕ (Int × State))} {x : X} (h : ∀ x,NL (b x)) : NE (loop b x) := fun p hp => by
  obtain ⟨n,hn⟩ := loop_out hp
  clear hp
  induction n generalizing x with
  | zero => unfold runN at hn; cases hn
  | succ n ih =>
    unfold runN at hn
    cases hb : b x with
    | none => rw [hb] at hn; cases hn
    | some s =>
      rw [hb] at hn
      cases s with
      | inl y => exact ih hn
      | inr r =>
        simp only [Option.bind_some,Option.some.injEq] at hn
        subst hn
        exact h x _ hb
theorem NL.bind {m : Option α} {f : α → Option (X ⊕ (Int × State))} (h : ∀ x,NL (f x)) : NL (m.bind f) := fun p hp => by
  cases m with
  | none => cases hp
  | some x => exact h x p hp
theorem NL.ite {c : Prop} [Decidable c] {Y Z : Option (X ⊕ (Int × State))} (h1 : NL Y) (h2 : NL Z) : NL (if c then Y else Z) := by split <;> assumption
theorem NL.inl {y : X} : NL (some (.inl y)) := fun p hp => by cases hp
theorem NL.map {m : Option (Int × State)} (h : NE m) : NL (m.map (Sum.inr : Int × State → X ⊕ (Int × State))) := fun p hp => by
  cases m with
  | none => cases hp
  | some x => simp only [Option.map_some,Option.some.injEq,Sum.inr.injEq] at hp; subst hp; exact h _ rfl
end
theorem NE.pair {m : Option (Int × State)} (h : NE m) : NE (m.bind fun p => match p with | (a,b) => Option.some (a,b)) := fun p hp => by
  cases m with
  | none => cases hp
  | some x => exact h p hp
theorem ne_place (f : state_fold) : NE (state_fold_place f) := by
  unfold state_fold_place
  repeat' (first | exact NE.some ⟨by decide,by decide⟩ | exact NE.none | exact NE.full | refine NE.ite ?_ ?_ | refine NE.bind fun _ => ?_)
theorem ne_grant (f : state_fold) : NE (state_fold_grant f) := by
  unfold state_fold_grant
  repeat' (first | exact NE.some ⟨by decide,by decide⟩ | exact NE.none | exact NE.full | refine NE.ite ?_ ?_ | refine NE.bind fun _ => ?_)
theorem ne_cut (f : state_fold) : NE (state_fold_cut f) := by
  unfold state_fold_cut
  repeat' (first | exact NE.some ⟨by decide,by decide⟩ | exact NE.none | exact NE.full | refine NE.ite ?_ ?_ | refine NE.bind fun _ => ?_)
theorem ne_standby (f : state_fold) : NE (state_fold_standby f) := by
  unfold state_fold_standby
  repeat' (first | exact NE.some ⟨by decide,by decide⟩ | exact NE.none | exact NE.full | refine NE.ite ?_ ?_ | refine NE.bind fun _ => ?_)
theorem ne_ready (f : state_fold) : NE (state_fold_ready f) := by
  unfold state_fold_ready
  repeat' (first | exact NE.some ⟨by decide,by decide⟩ | exact NE.none | exact NE.full | refine NE.ite ?_ ?_ | refine NE.bind fun _ => ?_)
theorem ne_migrate (f : state_fold) : NE (state_fold_migrate f) := by
  unfold state_fold_migrate
  repeat' (first | exact NE.some ⟨by decide,by decide⟩ | exact NE.none | exact NE.full | refine NE.ite ?_ ?_ | refine NE.bind fun _ => ?_)
theorem ne_abandon (f : state_fold) : NE (state_fold_abandon f) := by
  unfold state_fold_abandon
  repeat' (first | exact NE.some ⟨by decide,by decide⟩ | exact NE.none | exact NE.full | refine NE.ite ?_ ?_ | refine NE.bind fun _ => ?_)
theorem ne_shed (f : state_fold) : NE (state_fold_shed f) := by
  unfold state_fold_shed
  repeat' (first | exact NE.some ⟨by decide,by decide⟩ | exact NE.none | exact NE.full | refine NE.ite ?_ ?_ | refine NE.bind fun _ => ?_)
theorem ne_mode (f : state_fold) : NE (state_fold_mode f) := by
  unfold state_fold_mode
  repeat' (first | exact NE.some ⟨by decide,by decide⟩ | exact NE.none | exact NE.full | refine NE.ite ?_ ?_ | refine NE.bind fun _ => ?_)
theorem ne_want (f : state_fold) : NE (state_fold_want f) := by
  unfold state_fold_want state_fold_want.j1
  repeat' (first | exact NE.some ⟨by decide,by decide⟩ | exact NE.none | exact NE.full | refine NE.ite ?_ ?_ | refine NE.bind fun _ => ?_)
theorem ne_runs (f : state_fold) : NE (state_fold_runs f) := by
  unfold state_fold_runs
  repeat' (first | exact NE.some ⟨by decide,by decide⟩ | exact NE.none | exact NE.full | refine NE.ite ?_ ?_ | refine NE.bind fun _ => ?_ | refine NE.loop fun _ => ?_)
  unfold state_fold_runs.b3 state_fold_runs.j2
  repeat' (first | exact NE.some ⟨by decide,by decide⟩ | exact NL.inl | refine NL.ite ?_ ?_ | refine NL.map ?_ | refine NL.bind fun _ => ?_ | refine NE.bind fun _ => ?_)
theorem ne_prove (f : state_fold) : NE (state_fold_prove f) := by
  unfold state_fold_prove
  repeat' (first | exact NE.some ⟨by decide,by decide⟩ | exact NE.none | exact NE.full | refine NE.ite ?_ ?_ | refine NE.bind fun _ => ?_)
theorem ne_evacuate (f : state_fold) : NE (state_fold_evacuate f) := by
  unfold state_fold_evacuate
  repeat' (first | exact NE.some ⟨by decide,by decide⟩ | exact NE.none | exact NE.full | refine NE.ite ?_ ?_ | refine NE.bind fun _ => ?_)
theorem ne_expand (f : state_fold) : NE (state_fold_expand f) := by
  unfold state_fold_expand
  repeat' (first | exact NE.some ⟨by decide,by decide⟩ | exact NE.none | exact NE.full | refine NE.ite ?_ ?_ | refine NE.bind fun _ => ?_ | refine NE.loop fun _ => ?_)
  unfold state_fold_expand.b2 state_fold_expand.j1
  repeat' (first | exact NE.some ⟨by decide,by decide⟩ | exact NL.inl | refine NL.ite ?_ ?_ | refine NL.map ?_ | refine NL.bind fun _ => ?_ | refine NE.bind fun _ => ?_)
theorem ne_contract (f : state_fold) : NE (some ((state_fold_contract f).1,(state_fold_contract f).2)) := by
  unfold state_fold_contract
  split
  · exact NE.some (n := 4) ⟨by decide,by decide⟩
  · exact NE.some (n := 0) ⟨by decide,by decide⟩
theorem ne_apply (f : state_fold) : NE (state_fold_apply f) := by
  unfold state_fold_apply
  refine NE.ite (NE.pair (ne_place f)) (NE.ite (NE.pair (ne_grant f)) (NE.ite (NE.pair (ne_cut f)) (NE.ite (NE.pair (ne_standby f)) (NE.ite (NE.pair (ne_ready f)) (NE.ite (NE.pair (ne_migrate f)) (NE.ite (NE.pair (ne_abandon f)) (NE.ite (NE.pair (ne_shed f)) (NE.ite (NE.pair (ne_mode f)) (NE.ite (NE.pair (ne_want f)) (NE.ite (NE.pair (ne_runs f)) (NE.ite (NE.pair (ne_prove f)) (NE.ite (NE.pair (ne_evacuate f)) (NE.ite (NE.pair (ne_expand f)) (NE.ite (ne_contract f) (NE.some ⟨by decide,by decide⟩)))))))))))))))
/-- Which error an entry has. -/
theorem apply_codes {c : Config} {s : State} (hc : Good c) (hw : WX c s) (e : Entry) : ∃ x err v,state_Apply c s e = some (x,err) ∧ entry_Valid c e = some v ∧ (err ≠ 0 → x = zS) ∧ (v = false → err = 1) ∧ (v = true → err ≠ 1 ∧ (4096 ≤ s.Count → err = 2) ∧ (s.Count < 4096 → (err = 3 ↔ e.Tick < s.Tick))) := by
  obtain ⟨⟨x,err⟩,hx,_,h2⟩ := apply_res hc hw e
  obtain ⟨v,hv,iv⟩ := valid_tot hc e
  have h3 := hw.wf.tn
  have h4 := hw.wf.cn
  refine ⟨x,err,v,hx,hv,h2,fun hf => ?_,fun ht => ?_⟩
  · subst hf
    unfold state_Apply at hx
    rw [hv] at hx
    simp only [Option.bind_some,Bool.not_false,if_true,Option.some.injEq,Prod.mk.injEq] at hx
    exact hx.2.symm
  · subst ht
    have he := iv rfl
    by_cases hcnt : s.Count < 4096
    · by_cases htick : s.Tick ≤ e.Tick
      · rw [p_kinds hc hw he hcnt htick hv] at hx
        cases hm : state_fold_apply ⟨c,s,e⟩ with
        | none => rw [hm] at hx; cases hx
        | some p =>
          have hne := ne_apply _ p hm
          rw [hm,Option.map_some] at hx
          unfold fin at hx
          split at hx
          · simp only [Option.some.injEq,Prod.mk.injEq] at hx
            obtain ⟨_,rfl⟩ := hx
            exact ⟨by decide,fun h => by omega,fun _ => ⟨fun h => absurd h (by decide),fun h => by omega⟩⟩
          · simp only [Option.some.injEq,Prod.mk.injEq] at hx
            obtain ⟨_,rfl⟩ := hx
            exact ⟨hne.1,fun h => by omega,fun _ => ⟨fun h => absurd h hne.2,fun h => by omega⟩⟩
      · unfold state_Apply at hx
        rw [hv,h3,h4] at hx
        have t1 : decide (4096 ≤ s.Count) = false := decide_eq_false (by omega)
        have t2 : decide (e.Tick < s.Tick) = true := decide_eq_true (by omega)
        simp only [Option.bind_some,Bool.not_true,Bool.false_eq_true,if_false,decide_true,t1,t2,if_true,Option.some.injEq,Prod.mk.injEq] at hx
        obtain ⟨_,rfl⟩ := hx
        exact ⟨by decide,fun h => by omega,fun _ => ⟨fun _ => by omega,fun _ => rfl⟩⟩
    · unfold state_Apply at hx
      rw [hv,h3,h4] at hx
      have t1 : decide (4096 ≤ s.Count) = true := decide_eq_true (by omega)
      simp only [Option.bind_some,Bool.not_true,Bool.false_eq_true,if_false,decide_true,t1,if_true,Option.some.injEq,Prod.mk.injEq] at hx
      obtain ⟨_,rfl⟩ := hx
      exact ⟨by decide,fun _ => rfl,fun h => by omega⟩
end Go.Proofs.YtcdoangbkgaapaaGreatK
