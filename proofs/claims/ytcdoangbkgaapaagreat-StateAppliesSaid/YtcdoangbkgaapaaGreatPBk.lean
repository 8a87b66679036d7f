/- What is booked at the cells; no step books a cell beyond its capacity. No condition. -/
import Derived.Test.YtcdoangbkgaapaaGreatPW
set_option linter.unusedVariables false
set_option linter.unusedSectionVars false
set_option maxHeartbeats 4000000
namespace Go.Proofs.YtcdoangbkgaapaaGreatK
open Go
attribute [local irreducible] loop runN
/-- What a tenant books at a cell. -/
def wt (u : Tenant) (t : TenantState) (j : Int) : Int :=
  (if (t.Placed && !t.Shed) = true then (if t.Home = j then u.Load else 0) + (if t.Target = j then u.Load else 0) else 0) + (if t.Placed = true then (if t.Standby = j then u.Shadow else 0) + (if t.Next = j then u.Shadow else 0) else 0)
def wtI (us : List Tenant) (ts : List TenantState) (j : Int) (i : Nat) : Int := match us[i]?,ts[i]? with
  | some u,some t => wt u t j
  | _,_ => 0
def sumW (us : List Tenant) (ts : List TenantState) (j : Int) : Nat → Int
  | 0 => 0
  | i + 1 => sumW us ts j i + wtI us ts j i
/-- A list of values. -/
structure Val (n : Nat) (l : List Int) (f : Int → Int) : Prop where
  len : l.length = n
  val : ∀ j : Nat,j < n → l[j]? = some (f j)
theorem tot_addv {n : Nat} {l : List Int} {f : Int → Int} (hv : Val n l f) (hb : ∀ j,0 ≤ f j ∧ f j ≤ 1000000) (k : Int) {v : Int} (h : 0 ≤ v ∧ v ≤ 100) : Tot (load_sums_add l k v) fun l' => Val n l' fun j => f j + if k = j then v else 0 := by
  have hl := hv.len
  unfold load_sums_add
  refine Tot.ite (fun h1 => ?_) fun h1 => Tot.pure ⟨hl,fun j hj => ?_⟩
  · simp only [Bool.and_eq_true,decide_eq_true_eq] at h1
    refine Tot.bind (tot_idx h1.1 h1.2) fun x hx => Tot.pure ⟨by simp [hl],fun j hj => ?_⟩
    rw [hv.val _ (by omega)] at hx
    injection hx with hx
    have hk : ((k.toNat : Nat) : Int) = k := by omega
    rw [hk] at hx
    by_cases hj' : k.toNat = j
    · subst hj'
      rw [List.getElem?_set_self (by omega),hk,if_pos rfl,← hx,w64_s (by have := hb k; omega)]
    · rw [List.getElem?_set_ne hj',hv.val j hj,if_neg (by omega),Int.add_zero]
  · simp only [Bool.and_eq_false_iff,decide_eq_false_iff_not] at h1
    rw [hv.val j hj,if_neg (by omega),Int.add_zero]
theorem wt_bd {u : Tenant} (h1 : 1 ≤ u.Load ∧ u.Load ≤ 12) (h2 : 0 ≤ u.Shadow ∧ u.Shadow ≤ u.Load) (t : TenantState) (j : Int) : 0 ≤ wt u t j ∧ wt u t j ≤ 48 := by
  unfold wt
  cases t.Placed <;> cases t.Shed <;> simp <;> (repeat' split) <;> omega
theorem sum_bd {c : Config} (hc : Good c) (ts : List TenantState) (j : Int) : ∀ i : Nat,0 ≤ sumW c.Tenants ts j i ∧ sumW c.Tenants ts j i ≤ 48 * i
  | 0 => by simp [sumW]
  | i + 1 => by
    have ih := sum_bd hc ts j i
    unfold sumW wtI
    split
    · rename_i u t hu _
      have hu' := hc.te u (mem_of hu)
      have := wt_bd hu'.1 hu'.2.1 t j
      omega
    · omega
theorem booked_val {c : Config} {s : State} (hc : Good c) (hs : s.Tenants.length = c.Tenants.length) : Tot (load_Booked c s) fun bs => Val c.Cells.length bs fun j => sumW c.Tenants s.Tenants j s.Tenants.length := by
  have h1 := hc.cn
  have h2 := hc.tn
  unfold load_Booked
  refine Tot.bind (tot_mk (by omega)) ?_
  rintro _ rfl
  have hm : mn (s.Tenants.length : Int) (c.Tenants.length : Int) = s.Tenants.length := by unfold mn; rw [if_neg (by omega)]
  rw [hm]
  refine Tot.bind (tot_cut (by omega)) ?_
  rintro _ rfl
  have hl : ((s.Tenants.take (s.Tenants.length : Int).toNat).drop (0 : Int).toNat) = s.Tenants := by simp
  rw [hl]
  refine Tot.loop (fun x : Int × List Int => (0 ≤ x.1 ∧ x.1 ≤ s.Tenants.length) ∧ Val c.Cells.length x.2 fun j => sumW c.Tenants s.Tenants j x.1.toNat) (fun x => (s.Tenants.length - x.1).toNat) ⟨by omega,by simp,fun j hj => by simp [sumW,hj]⟩ ?_
  rintro ⟨i,xs⟩ ⟨hi,hx⟩
  simp only at hi hx
  unfold load_Booked.b1
  refine Tot.dec (fun h => Tot.bind (tot_idx hi.1 h) fun t ht => Tot.bind (tot_idx hi.1 (by omega)) fun u hu => ?_) fun h => Tot.map (Tot.pure ?_)
  · have hu' := hc.te u (mem_of hu)
    have hb : ∀ j,0 ≤ sumW c.Tenants s.Tenants j i.toNat ∧ sumW c.Tenants s.Tenants j i.toNat ≤ 1000 := fun j => by
      have := sum_bd hc s.Tenants j i.toNat
      omega
    have hL : 0 ≤ u.Load ∧ u.Load ≤ 100 := by omega
    have hS : 0 ≤ u.Shadow ∧ u.Shadow ≤ 100 := by omega
    refine Tot.bind (P := fun l => Val c.Cells.length l fun j => sumW c.Tenants s.Tenants j i.toNat + wt u t j) (Tot.bind (P := fun l => Val c.Cells.length l fun j => sumW c.Tenants s.Tenants j i.toNat + if (t.Placed && !t.Shed) = true then (if t.Home = j then u.Load else 0) + (if t.Target = j then u.Load else 0) else 0) (Tot.ite (fun ha => ?_) fun ha => Tot.pure ⟨hx.len,fun j hj => ?_⟩) fun l hl => Tot.ite (fun hp => ?_) fun hp => Tot.pure ⟨hl.len,fun j hj => ?_⟩) fun l hl => Tot.pure ⟨⟨?_,hl.len,fun j hj => ?_⟩,?_⟩
    · have ha' : (t.Placed && !t.Shed) = true := ha
      refine Tot.bind (tot_addv hx (fun j => by have := hb j; omega) t.Home hL) fun l1 hl1 => Tot.bind (tot_addv hl1 (fun j => by have := hb j; split <;> omega) t.Target hL) fun l2 hl2 => Tot.pure ⟨hl2.len,fun j hj => ?_⟩
      rw [hl2.val j hj,if_pos ha',Int.add_assoc]
    · have ha' : (t.Placed && !t.Shed) = false := ha
      rw [hx.val j hj,if_neg (by rw [ha']; decide),Int.add_zero]
    · have hb2 : ∀ j : Int,0 ≤ (sumW c.Tenants s.Tenants j i.toNat + if (t.Placed && !t.Shed) = true then (if t.Home = j then u.Load else 0) + (if t.Target = j then u.Load else 0) else 0) ∧ (sumW c.Tenants s.Tenants j i.toNat + if (t.Placed && !t.Shed) = true then (if t.Home = j then u.Load else 0) + (if t.Target = j then u.Load else 0) else 0) ≤ 2000 := fun j => by
        have := hb j
        (repeat' split) <;> omega
      refine Tot.bind (tot_addv hl (fun j => by have := hb2 j; omega) t.Standby hS) fun l1 hl1 => Tot.bind (tot_addv hl1 (fun j => by have := hb2 j; by_cases hq : t.Standby = j <;> simp only [hq,if_true,if_false] at this ⊢ <;> omega) t.Next hS) fun l2 hl2 => Tot.pure ⟨hl2.len,fun j hj => ?_⟩
      rw [hl2.val j hj]
      unfold wt
      rw [if_pos hp,Int.add_assoc,Int.add_assoc]
    · rw [hl.val j hj]
      unfold wt
      simp [hp]
    · simp only; rw [w64_s (by omega)]; omega
    · simp only
      rw [hl.val j hj,w64_s (by omega),show (i + 1).toNat = i.toNat + 1 by omega]
      conv => rhs; unfold sumW wtI
      rw [hu,ht]
    · simp only; rw [w64_s (by omega)]; omega
  · have : i.toNat = s.Tenants.length := by omega
    rw [this] at hx
    exact hx
/-- No cell is booked beyond its capacity,by sums. -/
def NoOv (c : Config) (ts : List TenantState) : Prop := ∀ (i : Nat) x,c.Cells[i]? = some x → sumW c.Tenants ts i ts.length ≤ x.Capacity
theorem no_ov {c : Config} {s : State} (hc : Good c) (hs : s.Tenants.length = c.Tenants.length) : NoOver c s ↔ NoOv c s.Tenants := by
  obtain ⟨bs,hb,hv⟩ := booked_val hc hs
  constructor
  · rintro ⟨bs',hb',hl,h⟩ i x hx
    rw [hb] at hb'
    injection hb' with hb'
    subst hb'
    exact h i _ x (hv.val i (List.getElem?_eq_some_iff.1 hx).1) hx
  · intro h
    refine ⟨bs,hb,hv.len,fun i b x hi hx => ?_⟩
    rw [hv.val i (List.getElem?_eq_some_iff.1 hx).1] at hi
    injection hi with hi
    rw [← hi]
    exact h i x hx
theorem sum_le {us : List Tenant} {ts ts' : List TenantState} {j : Int} : ∀ {n : Nat},(∀ i,i < n → wtI us ts' j i ≤ wtI us ts j i) → sumW us ts' j n ≤ sumW us ts j n
  | 0,_ => Int.le_refl 0
  | n + 1,h => by
    have h1 := sum_le (us := us) (ts := ts) (ts' := ts') (j := j) (n := n) fun i hi => h i (by omega)
    have h2 := h n (by omega)
    unfold sumW
    omega
theorem ov_set {c : Config} {ts : List TenantState} {k : Nat} {t t' : TenantState} (hc : Good c) (h : NoOv c ts) (ht : ts[k]? = some t) (hw : ∀ u : Tenant,0 ≤ u.Load → 0 ≤ u.Shadow → ∀ j : Nat,wt u t' j ≤ wt u t j) : NoOv c (ts.set k t') := by
  intro i x hx
  rw [List.length_set]
  refine Int.le_trans (sum_le fun m hm => ?_) (h i x hx)
  unfold wtI
  by_cases hmk : k = m
  · subst hmk
    rw [List.getElem?_set_self (List.getElem?_eq_some_iff.1 ht).1,ht]
    cases hu : c.Tenants[k]? with
    | none => exact Int.le_refl 0
    | some u =>
      have hu' := hc.te u (mem_of hu)
      exact hw u (by omega) (by omega) i
  · rw [List.getElem?_set_ne hmk]
    exact Int.le_refl _
theorem tst_ov {c : Config} {s : State} {e : Entry} {t t' : TenantState} (hc : Good c) (hw : WF c s) (h : NoOv c s.Tenants) (ht : s.Tenants[e.Tenant.toNat]? = some t) (hs : TSt c s e t t') : NoOv c (s.Tenants.set e.Tenant.toNat t') := by
  have F : ∀ t',NoOver c (setT s e t') → NoOv c (s.Tenants.set e.Tenant.toNat t') := fun t' h => (no_ov (s := setT s e t') hc (by simp [setT]; exact hw.tn)).1 h
  cases hs with
  | place hk hp hm hm2 hf => exact F _ hf
  | grant x hk hp hs hcc hep hx hn hr hfr hww hf => exact F _ hf
  | stand hk hp hcc hn hm hf => exact F _ hf
  | migrate hk hp hs htt hn hm hf => exact F _ hf
  | unshed hk hs hf => exact F _ hf
  | cut hk hp hep => exact ov_set hc h ht fun u h1 h2 j => Int.le_refl _
  | unstand hk hp hcc =>
    refine ov_set hc h ht fun u h1 h2 j => ?_
    unfold wt
    simp only [hp,if_true]
    rw [if_neg (show ¬ (-1 : Int) = (j : Int) by omega)]
    (repeat' split) <;> omega
  | ready hk hp hcc =>
    refine ov_set hc h ht fun u h1 h2 j => ?_
    unfold wt
    simp only [hp,if_true,hcc]
    rw [if_neg (show ¬ (-1 : Int) = (j : Int) by omega)]
    (repeat' split) <;> omega
  | abandon hk hp htt =>
    refine ov_set hc h ht fun u h1 h2 j => ?_
    unfold wt
    simp only
    rw [if_neg (show ¬ (-1 : Int) = (j : Int) by omega)]
    (repeat' split) <;> omega
  | shed hk hp hs hww =>
    refine ov_set hc h ht fun u h1 h2 j => ?_
    unfold wt
    simp only [hp,hs,Bool.not_true,Bool.and_false,Bool.false_eq_true,if_false,Bool.not_false,Bool.and_self,if_true]
    (repeat' split) <;> omega
/-- What holds between the steps. -/
def RCap (c : Config) (s : State) : Prop := NoOv c s.Tenants
theorem cap_new {c : Config} (hc : Good c) : RCap c (newS c) := by
  intro i x hx
  have hz : ∀ n,sumW c.Tenants (newS c).Tenants i n = 0 := fun n => by
    induction n with
    | zero => rfl
    | succ n ih =>
      unfold sumW wtI
      rw [ih]
      split
      · rename_i u t hu ht
        have := List.eq_of_mem_replicate (mem_of ht)
        subst this
        rfl
      · rfl
  rw [hz]
  have := hc.ce x (mem_of hx)
  omega
theorem cap_step {c : Config} {s y : State} {e : Entry} (hc : Good c) (hw : WF c s) (hr : RCap c s) (h : Stp c s e y) : RCap c y := by
  obtain ⟨x,hm,rfl⟩ := h.m
  cases hm with
  | ten t t' ht hs => exact tst_ov hc hw hr ht hs
  | cel x x' hx hs => exact hr
  | prove hk hn => exact hr
  | evac hk hn => exact hr
  | expand hk hh h30 ha => exact hr
  | contract hk hh => exact hr
  | note hk => exact hr
end Go.Proofs.YtcdoangbkgaapaaGreatK
