/- The law StateFolds. No condition. -/
import Derived.Test.YtcdoangbkgaapaaGreatPSta
import Derived.Test.YtcdoangbkgaapaaGreatPFr
import Derived.Test.YtcdoangbkgaapaaGreatPEq
set_option linter.unusedVariables false
set_option linter.unusedSectionVars false
set_option linter.unusedSimpArgs false
set_option maxHeartbeats 4000000
namespace Go.Proofs.YtcdoangbkgaapaaGreatK
open Go
attribute [local irreducible] loop runN
theorem entries_tot {c : Config} (hc : Good c) (l : List Int) (hl : l.length ≤ 200) (n : Int) (hn : 0 ≤ n ∧ n ≤ 100) : Tot (cellplanemake_Entries l c n) fun xs => (xs.length : Int) ≤ n := by
  unfold cellplanemake_Entries
  rw [new_eq]
  refine Tot.bind (new_tot hc) ?_
  rintro _ rfl
  have J : ∀ (xs : List Entry) (e : Entry) (a a' : Int) (s y : State),(xs.length : Int) < n → (0 ≤ a ∧ a < a' ∧ a' ≤ 260) → WX c y → Tot (cellplanemake_Entries.j3 xs e a' y.Tick y.Count y.Tenants y.Cells y.Proven y.Evacuating y.Low y.High) (Rd' (fun x : List Entry × Int × Int × Int × List TenantState × List CellState × Int × Int × Int × Int => ((x.1.length : Int) ≤ n) ∧ (0 ≤ x.2.1 ∧ x.2.1 ≤ 260) ∧ WX c ⟨x.2.2.1,x.2.2.2.1,x.2.2.2.2.1,x.2.2.2.2.2.1,x.2.2.2.2.2.2.1,x.2.2.2.2.2.2.2.1,x.2.2.2.2.2.2.2.2.1,x.2.2.2.2.2.2.2.2.2⟩) (fun x => (300 - x.2.1).toNat) (xs,a,s.Tick,s.Count,s.Tenants,s.Cells,s.Proven,s.Evacuating,s.Low,s.High) fun xs => (xs.length : Int) ≤ n) := fun xs e a a' s y h1 h2 hw => by
    unfold cellplanemake_Entries.j3
    refine Tot.bind (tot_app1 (by omega)) ?_
    rintro _ rfl
    exact Tot.pure ⟨⟨by simp only [len_app1]; omega,⟨by simp only; omega,by simp only; omega⟩,hw⟩,by simp only; omega⟩
  refine Tot.loop (fun x : List Entry × Int × Int × Int × List TenantState × List CellState × Int × Int × Int × Int => ((x.1.length : Int) ≤ n) ∧ (0 ≤ x.2.1 ∧ x.2.1 ≤ 260) ∧ WX c ⟨x.2.2.1,x.2.2.2.1,x.2.2.2.2.1,x.2.2.2.2.2.1,x.2.2.2.2.2.2.1,x.2.2.2.2.2.2.2.1,x.2.2.2.2.2.2.2.2.1,x.2.2.2.2.2.2.2.2.2⟩) (fun x => (300 - x.2.1).toNat) ⟨by simp; omega,by simp [cellplanemake_New],wx_new hc⟩ ?_
  rintro ⟨xs,a,ti,co,ts,cs,pr,ev,lo,hi⟩ ⟨hx,ha,hw⟩
  simp only at hx ha hw
  unfold cellplanemake_Entries.b1 cellplanemake_Tape_More
  simp only [tpe]
  refine Tot.bind (P := fun b => b = true → (xs.length : Int) < n ∧ a < (l.length : Int)) (Tot.dec (fun h => Tot.pure fun h2 => ⟨h,of_decide_eq_true h2⟩) fun _ => Tot.pure fun h => by cases h) fun b hb => Tot.ite (fun hb1 => ?_) fun _ => Tot.map (Tot.pure hx)
  obtain ⟨hlen,hal⟩ := hb hb1
  refine Tot.bind (entry_tot hc hw.wf (lb := a) (l := l) (a := a) (m := a) ⟨hl,⟨ha.1,Int.le_refl _⟩,Int.le_refl _,by omega⟩ (by omega)) ?_
  rintro ⟨e,a'⟩ A
  dsimp only
  simp only at A
  rw [if_neg (by omega)] at A
  have hgt := A.2.1.2
  have hup := A.2.2.1
  rw [apply_eq hc hw]
  refine Tot.bind (apply_res hc hw e) ?_
  rintro ⟨y,err⟩ ⟨h1,h2⟩
  dsimp only
  simp only at h1
  refine Tot.dec (fun h => J xs e a a' ⟨ti,co,ts,cs,pr,ev,lo,hi⟩ y hlen ⟨ha.1,by omega,by omega⟩ (wx_step hc hw (h1 h))) fun h => Tot.bind (next_tot A (by omega) (by decide)) ?_
  rintro ⟨q,a''⟩ ⟨_,A2⟩
  dsimp only
  simp only at A2
  have hgt2 := A2.2.1.2
  have hup2 := A2.2.2.1
  refine Tot.dec (fun h => Tot.pure ⟨⟨hx,⟨by simp only; omega,by simp only; omega⟩,hw⟩,by simp only; omega⟩) fun h => J xs e a a'' ⟨ti,co,ts,cs,pr,ev,lo,hi⟩ ⟨ti,co,ts,cs,pr,ev,lo,hi⟩ hlen ⟨ha.1,by omega,by omega⟩ hw
theorem r_unproven {c : Config} {s : State} (hc : Good c) (hw : WX c s) : Tot (cellplaneref12_Unproven s) fun xs => xs = openL s s.Cells.length := by
  have hcn := hc.cn
  have hscn := hw.wf.cn
  unfold cellplaneref12_Unproven
  refine Tot.loop (fun x : List Int × Int => (0 ≤ x.2 ∧ x.2 ≤ s.Cells.length) ∧ x.1 = openL s x.2.toNat) (fun x => (s.Cells.length - x.2).toNat) ⟨by simp,rfl⟩ ?_
  rintro ⟨xs,i⟩ ⟨hi,hx⟩
  simp only at hi hx
  subst hx
  have hl := openL_len s i.toNat
  have hn : (i + 1).toNat = i.toNat + 1 := by omega
  have hcast : ((i.toNat : Nat) : Int) = i := by omega
  unfold cellplaneref12_Unproven.b1
  refine Tot.dec (fun h => ?_) fun h => Tot.map (Tot.pure ?_)
  · have ho : cellplaneref12_open s i = some (opnI s i.toNat) := by
      obtain ⟨x,hx⟩ : ∃ x,s.Cells[i.toNat]? = some x := ⟨_,List.getElem?_eq_getElem (by omega)⟩
      unfold cellplaneref12_open cellplaneref12_proven opnI opn
      rw [← hcast,idx_nat hx,Int.toNat_natCast,hx]
      simp only [Option.bind_some]
      cases cellplaneref04_Has s.Proven x.Running <;> simp
    have hu := unproven_opn hc hw.wf hw.pr (i := i.toNat) (by omega)
    rw [hcast] at hu
    rw [ho]
    refine Tot.bind (Tot.pure (P := fun b => opnI s i.toNat = b) rfl) ?_
    intro b hb
    refine Tot.ite (fun hb1 => Tot.bind (tot_app1 (by omega)) ?_) fun hb1 => Tot.pure ⟨⟨?_,?_⟩,?_⟩
    · rintro _ rfl
      refine Tot.pure ⟨⟨?_,?_⟩,?_⟩
      · simp only; rw [w64_s (by omega)]; omega
      · simp only
        rw [w64_s (by omega),hn]
        conv => rhs; unfold openL
        rw [hcast,hu,hb,hb1,if_pos rfl]
      · simp only; rw [w64_s (by omega)]; omega
    · simp only; rw [w64_s (by omega)]; omega
    · simp only
      rw [w64_s (by omega),hn]
      conv => rhs; unfold openL
      rw [hcast,hu,hb,hb1,if_neg (by simp)]
    · simp only; rw [w64_s (by omega)]; omega
  · show openL s i.toNat = _
    congr 1; omega
theorem ints_refl (xs : List Int) (h : xs.length ≤ 1000000) : Tot (cellplaneref01_SameInts xs xs) fun b => b = true := by
  unfold cellplaneref01_SameInts
  refine Tot.ndec (fun h => absurd rfl h) fun _ => ?_
  refine Tot.loop (fun x : Int => 0 ≤ x ∧ x ≤ xs.length) (fun x => (xs.length - x).toNat) ⟨by omega,by omega⟩ ?_
  intro i hi
  unfold cellplaneref01_SameInts.b1
  refine Tot.dec (fun h => Tot.bind (tot_idx hi.1 h) fun x hx => Tot.bind (tot_idxk hx hi.1) ?_) fun h => Tot.map (Tot.pure rfl)
  rintro _ rfl
  exact Tot.ndec (fun h => absurd rfl h) fun _ => Tot.pure ⟨by rw [w64_s (by omega)]; omega,by simp only; rw [w64_s (by omega)]; omega⟩
theorem law_StateFolds (l more : List Int) (n : Int) : cellplanelaw12_StateFolds l more n = some true := by
  have : Tot (cellplanelaw12_StateFolds l more n) fun b => b = true := by
    unfold cellplanelaw12_StateFolds
    refine light_frame fun hl hm => Tot.bind (config_tot l hl) fun c hc => Tot.bind (entries_tot hc more hm 40 (by decide)) fun xs hxs => ?_
    have hw := foldP_wx hc xs (newS c) 0 (wx_new hc)
    obtain ⟨R1,e1,rfl⟩ := fold_tot hc xs (by omega)
    obtain ⟨R2,e2,rfl⟩ := r_fold_tot hc xs (by omega)
    rw [e1,Option.bind_some,e2]
    generalize foldP c (newS c) xs 0 = R at hw
    obtain ⟨t,i,err⟩ := R
    simp only [Option.bind_some]
    simp only at hw
    have h1 := hw.wf.tn
    have h2 := hw.wf.cn
    have h3 := hc.tn
    have h4 := hc.cn
    refine Tot.bind (P := fun p : Int × Int × List TenantState × List CellState × Int × Int × Int × Int => WX c ⟨p.1,p.2.1,p.2.2.1,p.2.2.2.1,p.2.2.2.2.1,p.2.2.2.2.2.1,p.2.2.2.2.2.2.1,p.2.2.2.2.2.2.2⟩) (Tot.bind (mod_tot n 40 (by decide)) fun j hj => Tot.bind (state_tot hc more hm j (by omega)) fun y hy => Tot.pure hy.1) ?_
    rintro ⟨ti,co,ts,cs,pr,ev,lo,hi⟩ hy
    dsimp only
    obtain ⟨U1,u1,rfl⟩ := tot_Unproven (s := t) (by omega)
    obtain ⟨U2,u2,rfl⟩ := r_unproven hc hw
    obtain ⟨b,hb,rfl⟩ := ints_refl (openL t t.Cells.length) (by have := openL_len t t.Cells.length; omega)
    rw [aw12,u1,u2]
    simp only [Option.bind_some,if_true]
    rw [hb,r_same_eq (by omega) (by omega),r_same_eq (by omega) (by omega),p_same_eq (by omega) (by omega),p_same_eq (by omega) (by omega)]
    simp
    exact Tot.pure rfl
  obtain ⟨x,hx,rfl⟩ := this
  exact hx
end Go.Proofs.YtcdoangbkgaapaaGreatK
