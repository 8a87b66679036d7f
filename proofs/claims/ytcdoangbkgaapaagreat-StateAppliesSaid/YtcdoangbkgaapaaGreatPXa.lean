/- The program's and the reference's small functions are the same. No condition. -/
import Derived.Test.YtcdoangbkgaapaaGreatPV
import Derived.Test.YtcdoangbkgaapaaGreatPOp
import Derived.Test.YtcdoangbkgaapaaGreatPBk
set_option linter.unusedVariables false
set_option linter.unusedSectionVars false
set_option maxHeartbeats 4000000
namespace Go.Proofs.YtcdoangbkgaapaaGreatK
open Go
attribute [local irreducible] loop runN
/-- What is known of a state that was reached. -/
structure WX (c : Config) (s : State) : Prop where
  wf : WF c s
  pr : 0 ≤ s.Proven ∧ s.Proven ≤ 7
  ev : 0 ≤ s.Evacuating ∧ s.Evacuating ≤ 7
  sh : ∀ t ∈ s.Tenants,t.Shed = true → t.Placed = true
  cap : NoOv c s.Tenants
theorem p_xor (P n : Int) (hP : 0 ≤ P ∧ P ≤ 7) (hn : 0 ≤ n ∧ n ≤ 2) : 0 ≤ bXor .i64 P (shl .i64 1 n) ∧ bXor .i64 P (shl .i64 1 n) ≤ 7 := by
  have h1 : P = 0 ∨ P = 1 ∨ P = 2 ∨ P = 3 ∨ P = 4 ∨ P = 5 ∨ P = 6 ∨ P = 7 := by omega
  have h2 : n = 0 ∨ n = 1 ∨ n = 2 := by omega
  rcases h1 with rfl | rfl | rfl | rfl | rfl | rfl | rfl | rfl <;> rcases h2 with rfl | rfl | rfl <;> decide +kernel
theorem u_small (n : Int) (hn : 0 ≤ n ∧ n ≤ 2) : IntKind.u64.wrap n = n := by
  have h2 : n = 0 ∨ n = 1 ∨ n = 2 := by omega
  rcases h2 with rfl | rfl | rfl <;> decide +kernel
theorem tst_sh {c : Config} {s : State} {e : Entry} {t t' : TenantState} (h0 : t.Shed = true → t.Placed = true) (h : TSt c s e t t') : t'.Shed = true → t'.Placed = true := by
  cases h with
  | place hk hp hm hm2 hf => exact fun _ => rfl
  | grant x hk hp hs hcc hep hx hn hr hfr hw hf => unfold grantT; split; exact fun _ => hp; split <;> exact fun _ => hp
  | cut hk hp hep => exact h0
  | unstand hk hp hcc => exact h0
  | stand hk hp hcc hn hm hf => exact h0
  | ready hk hp hcc => exact h0
  | migrate hk hp hs htt hn hm hf => exact h0
  | abandon hk hp htt => exact h0
  | shed hk hp hs hw => exact fun _ => hp
  | unshed hk hs hf => exact fun h => by cases h
theorem wx_step {c : Config} {s y : State} {e : Entry} (hc : Good c) (hw : WX c s) (h : Stp c s e y) : WX c y := by
  have he := h.ev
  have h3 := hc.reg
  have h4 := hc.vn
  refine ⟨step_wf hc hw.wf h,?_,?_,?_,cap_step hc hw.wf hw.cap h⟩
  · obtain ⟨x,hm,rfl⟩ := h.m
    cases hm with
    | prove hk hn => have := he.k12 hk; exact (p_or _ _ hw.pr (by omega)).1
    | _ => exact hw.pr
  · obtain ⟨x,hm,rfl⟩ := h.m
    cases hm with
    | evac hk hn => have := (he.k13 hk).1; exact p_xor _ _ hw.ev (by omega)
    | _ => exact hw.ev
  · obtain ⟨x,hm,rfl⟩ := h.m
    cases hm with
    | ten t t' ht hs =>
      intro u hu
      rcases mem_set_or hu with hu | rfl
      · exact hw.sh u hu
      · exact tst_sh (hw.sh t (mem_of ht)) hs
    | _ => exact hw.sh
theorem wx_new {c : Config} (hc : Good c) : WX c (newS c) := by
  refine ⟨new_wf hc,by simp [newS],by simp [newS],fun t ht => ?_,cap_new hc⟩
  have := List.eq_of_mem_replicate ht
  subst this
  exact fun h => by cases h
/-! ### Places -/
theorem reg_eq {c : Config} (hc : Good c) (k : Int) : topo_RegionOf c k = cellplaneref04_RegionOf c k := by
  have h1 := hc.cn
  have h2 := hc.zn
  unfold topo_RegionOf cellplaneref04_RegionOf topo_ZoneOf cellplaneref04_ZoneOf topo_region topo_between
  rw [w64_s (n := (c.Cells.length : Int) - 1) (by omega),w64_s (n := (c.Zones.length : Int) - 1) (by omega)]
  by_cases hk : 0 ≤ k ∧ k < (c.Cells.length : Int)
  · obtain ⟨x,hx⟩ := idx_lt hk.1 hk.2
    have hz := (hc.ce x (mem_of (idx_out hx).2)).1
    obtain ⟨z,hz'⟩ := idx_lt hz.1 hz.2
    have a1 : decide (0 ≤ k) = true := decide_eq_true hk.1
    have a2 : decide (k ≤ (c.Cells.length : Int) - 1) = true := decide_eq_true (by omega)
    have a3 : decide (k < 0) = false := decide_eq_false (by omega)
    have a4 : decide ((c.Cells.length : Int) ≤ k) = false := decide_eq_false (by omega)
    have a5 : decide (0 ≤ x.Zone) = true := decide_eq_true hz.1
    have a6 : decide (x.Zone ≤ (c.Zones.length : Int) - 1) = true := decide_eq_true (by omega)
    have a7 : decide (x.Zone < 0) = false := decide_eq_false (by omega)
    simp only [a1,a2,a3,a4,Bool.and_self,Bool.not_true,Bool.or_self,Bool.false_eq_true,if_false,hx,Option.bind_some,a5,a6,a7,hz']
  · have a1 : (!(decide (0 ≤ k) && decide (k ≤ (c.Cells.length : Int) - 1))) = true := by
      simp only [Bool.not_eq_true',Bool.and_eq_false_iff,decide_eq_false_iff_not]
      omega
    have a2 : (decide (k < 0) || decide ((c.Cells.length : Int) ≤ k)) = true := by
      simp only [Bool.or_eq_true,decide_eq_true_eq]
      omega
    rw [if_pos a1,if_pos a2]
    simp only [Option.bind_some]
    rw [if_pos (by simp),if_pos (by simp)]
    rfl
noncomputable def aB (c : Config) (a b : Int) : Bool := (cellplaneref05_Apart c a b).getD false
noncomputable def mB (c : Config) (i k : Int) : Bool := (cellplaneref05_May c i k).getD false
theorem tot_getD {m : Option Bool} {P : Bool → Prop} (h : Tot m P) : m = some (m.getD false) := by
  obtain ⟨x,hx,_⟩ := h
  rw [hx]; rfl
section
variable {c : Config} (hc : Good c)
include hc
theorem r_apart_eq (a b : Int) : cellplaneref05_Apart c a b = some (aB c a b) := tot_getD (r_apart hc a b)
theorem r_may_eq (i k : Int) : cellplaneref05_May c i k = some (mB c i k) := tot_getD (r_may hc i k)
theorem p_apart_eq (a b : Int) : tenant_Apart c a b = some (aB c a b) := by
  rw [← r_apart_eq hc]
  unfold tenant_Apart cellplaneref05_Apart
  rw [reg_eq hc,reg_eq hc]
theorem aB_symm (a b : Int) : aB c a b = aB c b a := by
  obtain ⟨x,hx,_⟩ := r_reg hc a
  obtain ⟨y,hy,_⟩ := r_reg hc b
  unfold aB cellplaneref05_Apart
  rw [hx,hy]
  simp only [Option.bind_some,Option.getD_some]
  rw [Bool.eq_iff_iff]
  simp only [Bool.and_eq_true,decide_eq_true_eq,Bool.not_eq_true',decide_eq_false_iff_not]
  omega
omit hc in
theorem bit_eq (A r : Int) (hA : 1 ≤ A ∧ A ≤ 7) (hr : 0 ≤ r ∧ r ≤ 2) : decide (bAnd .i64 (shr .i64 A r) 1 = 1) = cellplaneref04_Has A r := p_bit A r (by omega) hr
theorem p_may_eq (t k : Int) : tenant_May c t k = some (mB c t k) := by
  rw [← r_may_eq hc]
  have h1 := hc.tn
  have h2 := hc.reg
  unfold tenant_May cellplaneref05_May tenant_between
  rw [w64_s (n := (c.Tenants.length : Int) - 1) (by omega),reg_eq hc]
  obtain ⟨r,hr,hr'⟩ := r_reg hc k
  rw [hr]
  simp only [Option.bind_some]
  by_cases ht : 0 ≤ t ∧ t < (c.Tenants.length : Int)
  · obtain ⟨x,hx⟩ := idx_lt ht.1 ht.2
    have hA := (hc.te x (mem_of (idx_out hx).2)).2.2.2.2.1
    have a1 : decide (0 ≤ t) = true := decide_eq_true ht.1
    have a2 : decide (t ≤ (c.Tenants.length : Int) - 1) = true := decide_eq_true (by omega)
    have a3 : decide (t < (c.Tenants.length : Int)) = true := decide_eq_true ht.2
    simp only [a1,a2,a3,Bool.and_self,if_true,hx,Option.bind_some]
    rcases hr' with rfl | hr'
    · simp [cellplaneref04_Has]
    · have a5 : decide (r ≤ 3) = true := decide_eq_true (by omega)
      rw [← bit_eq _ _ hA (by omega)]
      simp [hr'.1,a5]
  · by_cases h0 : 0 ≤ t
    · have a1 : decide (t ≤ (c.Tenants.length : Int) - 1) = false := decide_eq_false (by omega)
      have a2 : decide (t < (c.Tenants.length : Int)) = false := decide_eq_false (by omega)
      simp [a1,a2]
    · simp [h0]
theorem together_eq (a b : Int) : cellplaneref12_together c a b = some (decide (0 ≤ a) && (decide (0 ≤ b) && !aB c a b)) := by
  unfold cellplaneref12_together
  rw [r_apart_eq hc]
  by_cases h1 : 0 ≤ a <;> by_cases h2 : 0 ≤ b <;> simp [h1,h2]
/-- Whether a cell is permitted,and apart from others. -/
noncomputable def fmB (c : Config) (e : Entry) (k : Int) (os : List Int) : Bool := (os.all fun o => decide (o = -1) || aB c k o) && mB c e.Tenant k
theorem fmay_eq (s : State) (e : Entry) (k : Int) (os : List Int) (ho : os.length ≤ 1000) : state_fold_may ⟨c,s,e⟩ k os = some (fmB c e k os) := by
  have : Tot (state_fold_may ⟨c,s,e⟩ k os) fun b => b = fmB c e k os := by
    unfold state_fold_may
    refine Tot.loop (fun i => (0 ≤ i ∧ i ≤ os.length) ∧ ∀ o ∈ os.take i.toNat,(decide (o = -1) || aB c k o) = true) (fun i => (os.length - i).toNat) ⟨by omega,by simp⟩ ?_
    rintro i ⟨hi,ha⟩
    unfold state_fold_may.b2
    refine Tot.dec (fun h => Tot.bind (tot_idx hi.1 h) fun o hx => ?_) fun h => ?_
    · refine Tot.bind (P := fun b => b = !(decide (o = -1) || aB c k o)) ?_ fun b hb => ?_
      · rw [p_apart_eq hc]
        refine Tot.ndec (fun h1 => Tot.pure (by simp [h1])) fun h1 => Tot.pure (by simp [h1])
      · subst hb
        refine Tot.ite (fun hb => Tot.map (Tot.pure ?_)) fun hb => Tot.pure ⟨⟨?_,?_⟩,?_⟩
        · unfold fmB
          have : (os.all fun o => decide (o = -1) || aB c k o) = false := by
            rw [List.all_eq_false]
            exact ⟨o,mem_of hx,by simpa using hb⟩
          rw [this]; rfl
        · rw [w64_s (by omega)]; omega
        · rw [w64_s (by omega),show (i + 1).toNat = i.toNat + 1 by omega]
          intro o' ho'
          rcases mem_take_succ hx ho' with h1 | rfl
          · exact ha o' h1
          · cases hh : (decide (o' = -1) || aB c k o') with
            | true => rfl
            | false => rw [hh] at hb; cases hb
        · simp only; rw [w64_s (by omega)]; omega
    · unfold state_fold_may.j1
      rw [p_may_eq hc]
      refine Tot.map (Tot.pure ?_)
      unfold fmB
      have : (os.all fun o => decide (o = -1) || aB c k o) = true := by
        rw [List.all_eq_true]
        intro o h1
        refine ha o ?_
        rw [List.take_of_length_le (by omega)]
        exact h1
      rw [this]; rfl
  obtain ⟨x,hx,rfl⟩ := this
  exact hx
end
/-! ### Regions that evacuate -/
noncomputable def fB (c : Config) (s : State) (k : Int) : Bool := (cellplaneref12_frozen c s k).getD false
theorem frozen_eq {c : Config} (hc : Good c) (s : State) (k : Int) : cellplaneref12_frozen c s k = some (fB c s k) := by
  refine tot_getD (P := fun _ => True) ?_
  unfold cellplaneref12_frozen
  exact Tot.bind (r_reg hc k) fun _ _ => Tot.pure trivial
theorem fB_cong {c : Config} {s y : State} (h : y.Evacuating = s.Evacuating) (k : Int) : fB c y k = fB c s k := by
  unfold fB cellplaneref12_frozen
  rw [h]
theorem evac_eq {c : Config} (hc : Good c) {s : State} (e : Entry) (k : Int) (hv : 0 ≤ s.Evacuating ∧ s.Evacuating ≤ 7) : state_fold_evacuating ⟨c,s,e⟩ k = some (fB c s k) := by
  rw [← frozen_eq hc]
  have h2 := hc.reg
  unfold state_fold_evacuating cellplaneref12_frozen
  dsimp only
  rw [reg_eq hc]
  obtain ⟨r,hr,hr'⟩ := r_reg hc k
  rw [hr]
  simp only [Option.bind_some]
  rcases hr' with rfl | hr'
  · simp [cellplaneref04_Has]
  · have a5 : decide (r < 4) = true := decide_eq_true (by omega)
    rw [← p_bit _ _ hv (by omega)]
    simp [hr'.1,a5]
/-! ### What is booked -/
theorem r_tot_addv {n : Nat} {l : List Int} {f : Int → Int} (hv : Val n l f) (hb : ∀ j,0 ≤ f j ∧ f j ≤ 1000000) (k : Int) {v : Int} (h : 0 ≤ v ∧ v ≤ 100) : Tot (cellplaneref11_add l k v) fun l' => Val n l' fun j => f j + if k = j then v else 0 := tot_addv hv hb k h
theorem r_booked_val {c : Config} {s : State} (hc : Good c) (hs : s.Tenants.length = c.Tenants.length) : Tot (cellplaneref11_Booked c s) fun bs => Val c.Cells.length bs fun j => sumW c.Tenants s.Tenants j s.Tenants.length := by
  have h1 := hc.cn
  have h2 := hc.tn
  unfold cellplaneref11_Booked
  refine Tot.bind (tot_mk (by omega)) ?_
  rintro _ rfl
  refine Tot.loop (fun x : List Int × Int => (0 ≤ x.2 ∧ x.2 ≤ s.Tenants.length) ∧ Val c.Cells.length x.1 fun j => sumW c.Tenants s.Tenants j x.2.toNat) (fun x => (s.Tenants.length - x.2).toNat) ⟨by omega,by simp,fun j hj => by simp [sumW,hj]⟩ ?_
  rintro ⟨xs,i⟩ ⟨hi,hx⟩
  simp only at hi hx
  unfold cellplaneref11_Booked.b1
  refine Tot.dec (fun h => Tot.bind (P := fun p : TenantState × Tenant => s.Tenants[i.toNat]? = some p.1 ∧ c.Tenants[i.toNat]? = some p.2) (Tot.bind (tot_idx hi.1 h) fun t ht => Tot.bind (tot_idx hi.1 (by omega)) fun u hu => Tot.pure ⟨ht,hu⟩) ?_) fun h => Tot.map (Tot.pure ?_)
  · rintro ⟨t,u⟩ ⟨ht,hu⟩
    dsimp only
    simp only at ht hu
    have hu' := hc.te u (mem_of hu)
    have hb : ∀ j,0 ≤ sumW c.Tenants s.Tenants j i.toNat ∧ sumW c.Tenants s.Tenants j i.toNat ≤ 1000 := fun j => by
      have := sum_bd hc s.Tenants j i.toNat
      omega
    have hL : 0 ≤ u.Load ∧ u.Load ≤ 100 := by omega
    have hS : 0 ≤ u.Shadow ∧ u.Shadow ≤ 100 := by omega
    have fin : ∀ l,(Val c.Cells.length l fun j => sumW c.Tenants s.Tenants j i.toNat + wt u t j) → Tot (some (.inl (l,w64 (i + 1))) : Option ((List Int × Int) ⊕ List Int)) (Rd' (fun x : List Int × Int => (0 ≤ x.2 ∧ x.2 ≤ s.Tenants.length) ∧ Val c.Cells.length x.1 fun j => sumW c.Tenants s.Tenants j x.2.toNat) (fun x => (s.Tenants.length - x.2).toNat) (xs,i) fun bs => Val c.Cells.length bs fun j => sumW c.Tenants s.Tenants j s.Tenants.length) := fun l hl => by
      refine Tot.pure ⟨⟨?_,hl.len,fun j hj => ?_⟩,?_⟩
      · simp only; rw [w64_s (by omega)]; omega
      · simp only
        rw [hl.val j hj,w64_s (by omega),show (i + 1).toNat = i.toNat + 1 by omega]
        conv => rhs; unfold sumW wtI
        rw [hu,ht]
      · simp only; rw [w64_s (by omega)]; omega
    refine Tot.ite (fun hp => fin xs ⟨hx.len,fun j hj => ?_⟩) fun hp => ?_
    · have hp' : t.Placed = false := by simpa using hp
      rw [hx.val j hj]
      unfold wt
      simp [hp']
    have hp' : t.Placed = true := by simpa using hp
    refine Tot.bind (P := fun l => Val c.Cells.length l fun j => sumW c.Tenants s.Tenants j i.toNat + if (t.Placed && !t.Shed) = true then (if t.Home = j then u.Load else 0) + (if t.Target = j then u.Load else 0) else 0) (Tot.ite (fun ha => ?_) fun ha => Tot.pure ⟨hx.len,fun j hj => ?_⟩) fun l hl => ?_
    · have ha' : (t.Placed && !t.Shed) = true := by rw [hp']; simpa using ha
      refine Tot.bind (r_tot_addv hx (fun j => by have := hb j; omega) t.Home hL) fun l1 hl1 => Tot.bind (r_tot_addv hl1 (fun j => by have := hb j; split <;> omega) t.Target hL) fun l2 hl2 => Tot.pure ⟨hl2.len,fun j hj => ?_⟩
      rw [hl2.val j hj,if_pos ha',Int.add_assoc]
    · have ha' : (t.Placed && !t.Shed) = false := by rw [hp']; simpa using ha
      rw [hx.val j hj,if_neg (by rw [ha']; decide),Int.add_zero]
    · have hb2 : ∀ j : Int,0 ≤ (sumW c.Tenants s.Tenants j i.toNat + if (t.Placed && !t.Shed) = true then (if t.Home = j then u.Load else 0) + (if t.Target = j then u.Load else 0) else 0) ∧ (sumW c.Tenants s.Tenants j i.toNat + if (t.Placed && !t.Shed) = true then (if t.Home = j then u.Load else 0) + (if t.Target = j then u.Load else 0) else 0) ≤ 2000 := fun j => by
        have := hb j
        (repeat' split) <;> omega
      refine Tot.bind (r_tot_addv hl (fun j => by have := hb2 j; omega) t.Standby hS) fun l1 hl1 => Tot.bind (r_tot_addv hl1 (fun j => by have := hb2 j; by_cases hq : t.Standby = j <;> simp only [hq,if_true,if_false] at this ⊢ <;> omega) t.Next hS) fun l2 hl2 => fin l2 ⟨hl2.len,fun j hj => ?_⟩
      rw [hl2.val j hj]
      unfold wt
      rw [if_pos hp',Int.add_assoc,Int.add_assoc]
  · have : i.toNat = s.Tenants.length := by omega
    rw [this] at hx
    exact hx
theorem Val.eq {n : Nat} {l l' : List Int} {f : Int → Int} (h : Val n l f) (h' : Val n l' f) : l = l' := by
  apply List.ext_getElem?
  intro i
  by_cases hi : i < n
  · rw [h.val i hi,h'.val i hi]
  · rw [List.getElem?_eq_none (by rw [h.len]; omega),List.getElem?_eq_none (by rw [h'.len]; omega)]
theorem booked_eq {c : Config} {s : State} (hc : Good c) (hs : s.Tenants.length = c.Tenants.length) : cellplaneref11_Booked c s = load_Booked c s := by
  obtain ⟨a,ha,va⟩ := r_booked_val hc hs
  obtain ⟨b,hb,vb⟩ := booked_val hc hs
  rw [ha,hb,va.eq vb]
theorem over_eq {c : Config} {s : State} (hc : Good c) (hs : s.Tenants.length = c.Tenants.length) : cellplaneref11_Over c s = load_Over c s := by
  unfold cellplaneref11_Over load_Over
  rw [booked_eq hc hs]
  rfl
/-- Whether a cell is booked beyond its capacity. -/
noncomputable def ovB (c : Config) (ts : List TenantState) : Bool := match load_Over c ⟨0,0,ts,[],0,0,0,0⟩ with
  | some xs => decide (0 < (xs.length : Int))
  | none => false
def zS : State := ⟨0,0,[],[],0,0,0,0⟩
theorem over_cong (c : Config) (s : State) : load_Over c s = load_Over c ⟨0,0,s.Tenants,[],0,0,0,0⟩ := by
  unfold load_Over load_Booked
  rfl
theorem full_eq {c : Config} {s : State} {e : Entry} (hc : Good c) (hs : s.Tenants.length = c.Tenants.length) : state_fold_full ⟨c,s,e⟩ = some (if ovB c s.Tenants = true then 10 else 0) := by
  obtain ⟨xs,hx,_⟩ := tot_over hc hs
  unfold state_fold_full ovB
  dsimp only
  rw [← over_cong c s,hx]
  simp only [Option.bind_some]
  split <;> rfl
theorem fit_eq {c : Config} {s : State} (hc : Good c) (hs : s.Tenants.length = c.Tenants.length) : cellplaneref12_fit c s = some (if ovB c s.Tenants = true then (zS,10) else (s,0)) := by
  obtain ⟨xs,hx,_⟩ := tot_over hc hs
  unfold cellplaneref12_fit ovB
  rw [over_eq hc hs,← over_cong c s,hx]
  simp only [Option.bind_some]
  split <;> rfl
theorem ovB_no {c : Config} {ts : List TenantState} (hc : Good c) (hs : ts.length = c.Tenants.length) (h : NoOv c ts) : ovB c ts = false := by
  have hn : NoOver c ⟨0,0,ts,[],0,0,0,0⟩ := (no_ov (s := ⟨0,0,ts,[],0,0,0,0⟩) hc hs).2 h
  obtain ⟨bs,hb,hl,hv⟩ := hn
  have h1 := hc.cn
  have : Tot (load_Over c ⟨0,0,ts,[],0,0,0,0⟩) fun xs => xs = [] := by
    unfold load_Over
    rw [hb]
    refine Tot.bind (Tot.pure (P := fun xs => bs = xs) rfl) ?_
    rintro _ rfl
    refine Tot.loop (fun x : List Int × Int => (0 ≤ x.2 ∧ x.2 ≤ bs.length) ∧ x.1 = []) (fun x => (bs.length - x.2).toNat) ⟨by omega,rfl⟩ ?_
    rintro ⟨xs,i⟩ ⟨hi,hx⟩
    simp only at hi hx
    unfold load_Over.b1
    refine Tot.dec (fun h => Tot.bind (tot_idx hi.1 h) fun b hb => Tot.bind (tot_idx hi.1 (by omega)) fun x hx' => Tot.dec (fun h2 => ?_) fun _ => Tot.pure ⟨⟨by simp only; rw [w64_s (by omega)]; omega,hx⟩,by simp only; rw [w64_s (by omega)]; omega⟩) fun _ => Tot.map (Tot.pure hx)
    have := hv i.toNat b x hb hx'
    omega
  obtain ⟨xs,hx,rfl⟩ := this
  unfold ovB
  rw [hx]
  rfl
end Go.Proofs.YtcdoangbkgaapaaGreatK
