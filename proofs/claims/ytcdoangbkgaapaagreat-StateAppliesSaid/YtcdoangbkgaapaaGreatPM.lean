/- Apply's methods end,and do what the relations say. No condition. -/
import Derived.Test.YtcdoangbkgaapaaGreatPG
set_option linter.unusedVariables false
set_option linter.unusedSectionVars false
set_option maxHeartbeats 4000000
namespace Go.Proofs.YtcdoangbkgaapaaGreatK
open Go
attribute [local irreducible] loop runN state_fold_full state_fold_may tenant_May tenant_Apart state_fold_evacuating state_fold_up
theorem tot_idxk {α : Type} {xs : List α} {i : Int} {x : α} (hx : xs[i.toNat]? = some x) (h0 : 0 ≤ i) : Tot (idx xs i) fun y => x = y := ⟨x,by unfold idx; rw [if_pos h0]; exact hx,rfl⟩
theorem er {c : Config} {s : State} {e : Entry} {n : Int} {x : State} (hn : n ≠ 0) : ((n,x) : Int × State).1 = 0 → Mth c s e ((n,x) : Int × State).2 := fun h => absurd h hn
theorem erp {c : Config} {s : State} {e : Entry} {n : Int} {x : State} (hn : n ≠ 0) : Tot (some ((n,x) : Int × State)) fun p => p.1 = 0 → Mth c s e p.2 := Tot.pure (er hn)
section
variable {c : Config} {s : State} {e : Entry} (hc : Good c) (hw : WF c s) (he : EV c e)
include hc hw he
theorem ten_in (hk : 1 ≤ e.Kind ∧ e.Kind ≤ 8) : 0 ≤ e.Tenant ∧ e.Tenant < (s.Tenants.length : Int) := by
  have := he.k8 hk
  rw [hw.tn]; exact this
theorem tot_up {k : Int} (hk : 0 ≤ k ∧ k < (c.Cells.length : Int)) : Tot (state_fold_up ⟨c,s,e⟩ k) fun _ => True := by
  unfold state_fold_up
  exact Tot.bind (tot_idx hk.1 (by simp only [hw.cn]; exact hk.2)) fun _ _ => Tot.pure trivial
theorem set_len (t : TenantState) : (setT s e t).Tenants.length = c.Tenants.length := by
  unfold setT
  simp only [List.length_set]
  exact hw.tn
theorem m_place (hk : e.Kind = 1) : Tot (state_fold_place ⟨c,s,e⟩) fun p => p.1 = 0 → Mth c s e p.2 := by
  have ht := ten_in hc hw he (by omega)
  obtain ⟨k1,k2,k3⟩ := he.k1 hk
  unfold state_fold_place
  dsimp only
  refine Tot.bind (tot_idx ht.1 ht.2) fun t hx => Tot.ite (fun _ => erp (by decide)) fun hp => ?_
  refine Tot.bind (P := fun _ => True) (Tot.bind (tot_up hc hw he k1) fun _ _ => Tot.ite (fun _ => Tot.pure trivial) fun _ => Tot.ndec (fun h => Tot.bind (tot_up hc hw he (by omega)) fun _ _ => Tot.pure trivial) fun _ => Tot.pure trivial) fun _ _ => Tot.ite (fun _ => erp (by decide)) fun _ => ?_
  refine Tot.bind (P := fun _ => True) (Tot.bind (tot_evac hc s e _) fun _ _ => Tot.ite (fun _ => Tot.pure trivial) fun _ => Tot.ndec (fun h => Tot.bind (tot_evac hc s e _) fun _ _ => Tot.pure trivial) fun _ => Tot.pure trivial) fun _ _ => Tot.ite (fun _ => erp (by decide)) fun _ => ?_
  refine Tot.bind (P := fun b => b = false → FMay c e e.Cell [] ∧ (e.Other ≠ -1 → FMay c e e.Other [e.Cell])) (Tot.bind (tot_fmay hc s e e.Cell [] (by simp)) fun b hb => Tot.ite (fun h => Tot.pure fun h => by cases h) fun h => Tot.ndec (fun h1 => Tot.bind (tot_fmay hc s e e.Other [e.Cell] (by simp)) fun b2 hb2 => Tot.pure fun h2 => ⟨hb (by simpa using h),fun _ => hb2 (by simpa using h2)⟩) fun h1 => Tot.pure fun _ => ⟨hb (by simpa using h),fun h2 => absurd h1 h2⟩) fun b hb => Tot.ite (fun _ => erp (by decide)) fun hb1 => ?_
  obtain ⟨m1,m2⟩ := hb hb1
  refine Tot.bind (tot_idxk hx ht.1) ?_
  rintro _ rfl
  simp only [List.set_set]
  refine Tot.bind (tot_full hc (s := setT s e { t with Placed := true,Home := e.Cell,Standby := e.Other }) (set_len hc hw he _)) fun n hn => Tot.pure fun h => ?_
  exact Mth.ten t _ hx (TSt.place hk hp m1 m2 (hn h))
theorem m_cut (hk : e.Kind = 3) : Tot (state_fold_cut ⟨c,s,e⟩) fun p => p.1 = 0 → Mth c s e p.2 := by
  have ht := ten_in hc hw he (by omega)
  have hti := he.tick
  unfold state_fold_cut
  dsimp only
  refine Tot.bind (tot_idx ht.1 ht.2) fun t hx => Tot.ite (fun _ => erp (by decide)) fun hp => Tot.ndec (fun _ => erp (by decide)) fun h1 => Tot.pure fun _ => ?_
  simp only [List.set_set]
  rw [w64_s (by omega)]
  exact Mth.ten t _ hx (TSt.cut hk (by simpa using hp) h1)
theorem m_standby (hk : e.Kind = 4) : Tot (state_fold_standby ⟨c,s,e⟩) fun p => p.1 = 0 → Mth c s e p.2 := by
  have ht := ten_in hc hw he (by omega)
  have hcl := he.cel
  unfold state_fold_standby
  dsimp only
  refine Tot.bind (tot_idx ht.1 ht.2) fun t hx => Tot.ite (fun _ => erp (by decide)) fun hp => Tot.dec (fun h1 => Tot.pure fun _ => Mth.ten t _ hx (TSt.unstand hk (by simpa using hp) h1)) fun h1 => Tot.ite (fun _ => erp (by decide)) fun h2 => ?_
  simp only [Bool.or_eq_false_iff,decide_eq_false_iff_not] at h2
  refine Tot.bind (tot_up hc hw he (by omega)) fun _ _ => Tot.ite (fun _ => erp (by decide)) fun _ => Tot.bind (tot_evac hc s e _) fun _ _ => Tot.ite (fun _ => erp (by decide)) fun _ => Tot.bind (tot_fmay hc s e _ _ (by simp : [t.Home,t.Target].length ≤ 1000)) fun b hb => Tot.ite (fun _ => erp (by decide)) fun hb1 => ?_
  refine Tot.bind (tot_full hc (s := setT s e { t with Next := e.Cell }) (set_len hc hw he _)) fun n hn => Tot.pure fun h => ?_
  exact Mth.ten t _ hx (TSt.stand hk (by simpa using hp) h1 h2 (hb (by simpa using hb1)) (hn h))
theorem m_ready (hk : e.Kind = 5) : Tot (state_fold_ready ⟨c,s,e⟩) fun p => p.1 = 0 → Mth c s e p.2 := by
  have ht := ten_in hc hw he (by omega)
  have hcl := he.k5 (.inl hk)
  unfold state_fold_ready
  dsimp only
  refine Tot.bind (tot_idx ht.1 ht.2) fun t hx => Tot.ite (fun _ => erp (by decide)) fun hp => Tot.ndec (fun _ => erp (by decide)) fun h1 => Tot.bind (tot_idx hcl.1 (by rw [hw.cn]; exact hcl.2)) fun y hy => Tot.dec (fun _ => erp (by decide)) fun h2 => Tot.pure fun _ => ?_
  simp only [List.set_set]
  exact Mth.ten t _ hx (TSt.ready hk (by simpa using hp) h1)
theorem m_migrate (hk : e.Kind = 6) : Tot (state_fold_migrate ⟨c,s,e⟩) fun p => p.1 = 0 → Mth c s e p.2 := by
  have ht := ten_in hc hw he (by omega)
  have hcl := he.k5 (.inr hk)
  unfold state_fold_migrate
  dsimp only
  obtain ⟨t,hx⟩ : ∃ t,s.Tenants[e.Tenant.toNat]? = some t := by
    obtain ⟨t,_,hx⟩ := tot_idx ht.1 ht.2
    exact ⟨t,hx⟩
  refine Tot.bind (P := fun b => b = false → t.Placed = true ∧ t.Shed = false ∧ t.Target = -1) (Tot.bind (tot_idxk hx ht.1) ?_) fun b hb => Tot.ite (fun _ => erp (by decide)) fun hb1 => ?_
  · rintro _ rfl
    exact Tot.ite (fun _ => Tot.pure fun h => by cases h) fun h1 => Tot.ite (fun _ => Tot.pure fun h => by cases h) fun h2 => Tot.pure fun h3 => ⟨by simpa using h1,h2,by simpa using h3⟩
  obtain ⟨a1,a2,a3⟩ := hb hb1
  refine Tot.bind (P := fun b => b = false → e.Cell ≠ t.Home ∧ e.Cell ≠ t.Standby ∧ e.Cell ≠ t.Next) (Tot.bind (tot_idxk hx ht.1) ?_) fun b hb => Tot.ite (fun _ => erp (by decide)) fun hb1 => ?_
  · rintro _ rfl
    exact Tot.dec (fun _ => Tot.pure fun h => by cases h) fun h1 => Tot.dec (fun _ => Tot.pure fun h => by cases h) fun h2 => Tot.pure fun h3 => ⟨h1,h2,by simpa using h3⟩
  have a4 := hb hb1
  refine Tot.bind (tot_up hc hw he hcl) fun _ _ => Tot.ite (fun _ => erp (by decide)) fun _ => Tot.bind (tot_evac hc s e _) fun _ _ => Tot.ite (fun _ => erp (by decide)) fun _ => Tot.bind (tot_idxk hx ht.1) ?_
  rintro _ rfl
  refine Tot.bind (tot_fmay hc s e _ _ (by simp : [t.Standby,t.Next].length ≤ 1000)) fun b hb => Tot.ite (fun _ => erp (by decide)) fun hb1 => ?_
  refine Tot.bind (tot_full hc (s := setT s e { t with Target := e.Cell }) (set_len hc hw he _)) fun n hn => Tot.pure fun h => ?_
  exact Mth.ten t _ hx (TSt.migrate hk a1 a2 a3 a4 (hb (by simpa using hb1)) (hn h))
theorem m_abandon (hk : e.Kind = 7) : Tot (state_fold_abandon ⟨c,s,e⟩) fun p => p.1 = 0 → Mth c s e p.2 := by
  have ht := ten_in hc hw he (by omega)
  unfold state_fold_abandon
  dsimp only
  obtain ⟨t,hx⟩ : ∃ t,s.Tenants[e.Tenant.toNat]? = some t := by
    obtain ⟨t,_,hx⟩ := tot_idx ht.1 ht.2
    exact ⟨t,hx⟩
  refine Tot.bind (P := fun b => b = false → t.Placed = true ∧ t.Target ≠ -1) (Tot.bind (tot_idxk hx ht.1) ?_) fun b hb => Tot.ite (fun _ => erp (by decide)) fun hb1 => ?_
  · rintro _ rfl
    exact Tot.ite (fun _ => Tot.pure fun h => by cases h) fun h1 => Tot.pure fun h3 => ⟨by simpa using h1,by simpa using h3⟩
  obtain ⟨a1,a2⟩ := hb hb1
  refine Tot.bind (tot_idxk hx ht.1) ?_
  rintro _ rfl
  exact Tot.pure fun _ => Mth.ten t _ hx (TSt.abandon hk a1 a2)
theorem m_shed (hk : e.Kind = 8) : Tot (state_fold_shed ⟨c,s,e⟩) fun p => p.1 = 0 → Mth c s e p.2 := by
  have ht := ten_in hc hw he (by omega)
  unfold state_fold_shed
  dsimp only
  obtain ⟨t,hx⟩ : ∃ t,s.Tenants[e.Tenant.toNat]? = some t := by
    obtain ⟨t,_,hx⟩ := tot_idx ht.1 ht.2
    exact ⟨t,hx⟩
  refine Tot.dec (fun _ => ?_) fun _ => ?_
  · refine Tot.bind (P := fun b => b = false → t.Placed = true ∧ t.Shed = false) (Tot.bind (tot_idxk hx ht.1) ?_) fun b hb => Tot.ite (fun _ => erp (by decide)) fun hb1 => ?_
    · rintro _ rfl
      exact Tot.ite (fun _ => Tot.pure fun h => by cases h) fun h1 => Tot.pure fun h3 => ⟨by simpa using h1,h3⟩
    obtain ⟨a1,a2⟩ := hb hb1
    refine Tot.bind (tot_idxk hx ht.1) ?_
    rintro _ rfl
    refine Tot.dec (fun _ => erp (by decide)) fun h1 => Tot.pure fun _ => ?_
    simp only [List.set_set]
    exact Mth.ten t _ hx (TSt.shed hk a1 a2 (by omega))
  · refine Tot.bind (tot_idxk hx ht.1) ?_
    rintro _ rfl
    refine Tot.ite (fun _ => erp (by decide)) fun h1 => Tot.bind (P := fun _ => True) ?_ fun _ _ => Tot.ite (fun _ => erp (by decide)) fun _ => ?_
    · unfold state_fold_down
      exact Tot.bind (P := fun _ => True) (Tot.dec (fun h1 => Tot.dec (fun h2 => Tot.bind (tot_idx h1 h2) fun _ _ => Tot.pure trivial) fun _ => Tot.pure trivial) fun _ => Tot.pure trivial) fun _ _ => Tot.pure trivial
    · refine Tot.bind (tot_full hc (s := setT s e { t with Shed := false }) (set_len hc hw he _)) fun n hn => Tot.pure fun h => ?_
      exact Mth.ten t _ hx (TSt.unshed hk (by simpa using h1) (hn h))
theorem m_grant (hk : e.Kind = 2) : Tot (state_fold_grant ⟨c,s,e⟩) fun p => p.1 = 0 → Mth c s e p.2 := by
  have ht := ten_in hc hw he (by omega)
  obtain ⟨k1,k2,k3,k4,k5⟩ := he.k2 hk
  have hti := he.tick
  have hle := hc.le
  unfold state_fold_grant
  dsimp only
  refine Tot.bind (tot_idx ht.1 ht.2) fun t hx => Tot.ite (fun _ => erp (by decide)) fun h1 => Tot.ite (fun _ => erp (by decide)) fun h2 => ?_
  simp only [Bool.or_eq_false_iff,Bool.and_eq_false_iff,Bool.not_eq_false',decide_eq_true_eq] at h1 h2
  have hep := (hw.te t (mem_of hx)).ep
  obtain ⟨x,hy⟩ : ∃ x,s.Cells[e.Cell.toNat]? = some x := by
    obtain ⟨x,_,hx⟩ := tot_idx (xs := s.Cells) k1.1 (by rw [hw.cn]; exact k1.2)
    exact ⟨x,hx⟩
  refine Tot.bind (P := fun _ => True) (Tot.bind (tot_idxk hy k1.1) fun _ _ => Tot.dec (fun _ => Tot.pure trivial) fun _ => Tot.dec (fun _ => Tot.pure trivial) fun _ => Tot.pure trivial) fun _ _ => Tot.ite (fun _ => erp (by decide)) fun _ => ?_
  refine Tot.bind (P := fun b => b = false → e.Epoch = t.Epoch + 1 ∨ e.Cell = t.Home ∧ e.Epoch = t.Epoch) (Tot.bind (tot_idxk hx ht.1) ?_) fun b hb => Tot.ite (fun _ => erp (by decide)) fun hb1 => ?_
  · rintro _ rfl
    rw [w64_s (by omega)]
    exact Tot.ndec (fun _ => Tot.dec (fun h => Tot.pure fun h1 => .inr ⟨h,by simpa using h1⟩) fun _ => Tot.pure fun h => by cases h) fun h => Tot.pure fun _ => .inl h
  have a1 := hb hb1
  refine Tot.bind (P := fun b => b = false → e.N = x.Running ∧ x.Running = x.Wanted) (Tot.bind (tot_idxk hy k1.1) ?_) fun b hb => Tot.ite (fun _ => erp (by decide)) fun hb1 => ?_
  · rintro _ rfl
    exact Tot.ndec (fun _ => Tot.pure fun h => by cases h) fun h => Tot.pure fun h1 => ⟨h,by simpa using h1⟩
  obtain ⟨a2,a3⟩ := hb hb1
  refine Tot.bind (P := fun b => b = false → (e.Tick ≤ e.From ∧ e.From ≤ e.Tick + c.Lease ∧ e.From < e.Until ∧ e.Until - e.From ≤ c.Lease ∧ t.Window.Until ≤ e.From) ∧ (e.Cell = t.Home ∨ t.Window.Until ≤ e.Tick)) ?_ fun b hb => Tot.ite (fun _ => erp (by decide)) fun hb1 => ?_
  · refine Tot.bind (P := fun b => b = true → e.Tick ≤ e.From ∧ e.From ≤ e.Tick + c.Lease ∧ e.From < e.Until ∧ e.Until - e.From ≤ c.Lease ∧ t.Window.Until ≤ e.From) ?_ fun b hb => Tot.ite (fun _ => Tot.pure fun h => by cases h) fun h => Tot.ndec (fun h1 => Tot.bind (tot_idxk hx ht.1) ?_) fun h1 => Tot.pure fun _ => ⟨hb (by simpa using h),.inl h1⟩
    · unfold state_fold_fits
      dsimp only
      refine Tot.bind (P := fun b => b = true → e.Tick ≤ e.From ∧ e.From ≤ e.Tick + c.Lease ∧ e.From < e.Until ∧ e.Until - e.From ≤ c.Lease ∧ t.Window.Until ≤ e.From) ?_ fun _ h => Tot.pure h
      rw [w64_s (n := e.Tick + c.Lease) (by omega),w64_s (n := e.Until - e.From) (by omega)]
      refine Tot.dec (fun f1 => Tot.dec (fun f2 => Tot.dec (fun f3 => Tot.dec (fun f4 => Tot.bind (tot_idxk hx ht.1) ?_) fun _ => Tot.pure fun h => by cases h) fun _ => Tot.pure fun h => by cases h) fun _ => Tot.pure fun h => by cases h) fun _ => Tot.pure fun h => by cases h
      rintro _ rfl
      exact Tot.pure fun h => ⟨f1,f2,f3,f4,by simpa using h⟩
    · rintro _ rfl
      exact Tot.pure fun h2 => ⟨hb (by simpa using h),.inr (by simpa using h2)⟩
  obtain ⟨a4,a5⟩ := hb hb1
  refine Tot.bind (tot_idxk hx ht.1) ?_
  rintro _ rfl
  simp only [List.set_set]
  have hP : t.Placed = true := h1.1
  have hS : t.Shed = true → e.Cell = t.Standby := fun h => by
    rcases h1.2 with h3 | h3
    · rw [h] at h3; cases h3
    · exact h3
  have hC : e.Cell = t.Home ∨ e.Cell = t.Standby ∨ e.Cell = t.Target := h2
  have hn : e.Tenant.toNat < s.Tenants.length := by omega
  refine Tot.bind (P := fun xs => ∃ t1,xs = s.Tenants.set e.Tenant.toNat t1 ∧ (e.Cell = t.Home → t1 = grantT e t) ∧ (e.Cell ≠ t.Home → { t1 with Home := e.Cell,Target := -1 } = grantT e t)) ?_ ?_
  · refine Tot.dec (fun h => Tot.pure ⟨_,rfl,fun _ => ?_,fun h3 => absurd h h3⟩) fun h => Tot.dec (fun h3 => Tot.pure ⟨_,rfl,fun h4 => absurd h4 h,fun _ => ?_⟩) fun h3 => Tot.pure ⟨_,rfl,fun h4 => absurd h4 h,fun _ => ?_⟩
    · unfold grantT; rw [if_pos h]
    · unfold grantT; rw [if_neg h,if_pos h3]
    · unfold grantT; rw [if_neg h,if_neg h3]
  rintro _ ⟨t1,rfl,g1,g2⟩
  refine Tot.bind (P := fun xs => xs = s.Tenants.set e.Tenant.toNat (grantT e t)) ?_ ?_
  · refine Tot.ndec (fun h => Tot.bind (tot_idxk (x := t1) (by rw [List.getElem?_set_self hn]) ht.1) ?_) fun h => Tot.pure (by rw [g1 h])
    rintro _ rfl
    refine Tot.pure ?_
    rw [List.set_set,← g2 h]
  rintro _ rfl
  refine Tot.bind (tot_full hc (s := setT s e (grantT e t)) (set_len hc hw he _)) fun n hn => Tot.pure fun h => ?_
  exact Mth.ten t _ hx (TSt.grant x hk hP hS hC a1 hy a2 a3 a4 a5 (hn h))
end
end Go.Proofs.YtcdoangbkgaapaaGreatK
