/- Each kind of entry: the reference does what the program does. No condition. -/
import Derived.Test.YtcdoangbkgaapaaGreatPXa
set_option linter.unusedVariables false
set_option linter.unusedSectionVars false
set_option linter.unusedSimpArgs false
set_option maxHeartbeats 4000000
namespace Go.Proofs.YtcdoangbkgaapaaGreatK
open Go
attribute [local irreducible] loop runN
/-- What Apply makes of a method's result. -/
def fin (s : State) (e : Entry) (p : Int × State) : State × Int := if p.1 = 0 then ({ p.2 with Tick := e.Tick,Count := s.Count + 1 },0) else (zS,p.1)
/-- The state under the entry's tick. -/
def tk (s : State) (e : Entry) : State := { s with Tick := e.Tick,Count := s.Count + 1 }
theorem no_eq (n : Int) : ((cellplaneref12_no n).1,(cellplaneref12_no n).2) = (zS,n) := rfl
theorem fin_no {s x : State} {e : Entry} {n : Int} (h : n ≠ 0) : fin s e (n,x) = (zS,n) := if_neg h
theorem fin_ok {s x : State} {e : Entry} : fin s e (0,x) = ({ x with Tick := e.Tick,Count := s.Count + 1 },0) := if_pos rfl
theorem fin_full {s x : State} {e : Entry} (b : Bool) : fin s e ((if b = true then 10 else 0),x) = if b = true then (zS,10) else ({ x with Tick := e.Tick,Count := s.Count + 1 },0) := by cases b <;> rfl
theorem pair_eta (p : State × Int) : (match p with | (a,b) => some (a,b)) = some p := rfl
theorem idx_setP {α : Type} {xs : List α} {i : Int} {x : α} (h : idx xs i = some x) (y : α) : idx (xs.set i.toNat y) i = some y := by
  have h1 := idx_out h
  unfold idx
  rw [if_pos h1.1.1,List.getElem?_set_self (by omega)]
section
variable {c : Config} {s : State} {e : Entry} (hc : Good c) (hw : WX c s) (he : EV c e)
include hc hw he
theorem ten_get (hk : 1 ≤ e.Kind ∧ e.Kind ≤ 8) : ∃ t,idx s.Tenants e.Tenant = some t ∧ TW c t := by
  have ht := ten_in hc hw.wf he hk
  obtain ⟨t,h,hx⟩ := tot_idx ht.1 ht.2
  exact ⟨t,h,hw.wf.te t (mem_of hx)⟩
theorem cel_get {k : Int} (hk : 0 ≤ k ∧ k < (c.Cells.length : Int)) : ∃ x,idx s.Cells k = some x ∧ CW c x := by
  obtain ⟨x,h,hx⟩ := tot_idx (xs := s.Cells) hk.1 (by rw [hw.wf.cn]; exact hk.2)
  exact ⟨x,h,hw.wf.ce x (mem_of hx)⟩
theorem full_s (t : TenantState) : state_fold_full ⟨c,{ s with Tenants := s.Tenants.set e.Tenant.toNat t },e⟩ = some (if ovB c (s.Tenants.set e.Tenant.toNat t) = true then 10 else 0) := full_eq hc (by simp [hw.wf.tn])
theorem fit_s (t : TenantState) : cellplaneref12_fit c { s with Tick := e.Tick,Count := s.Count + 1,Tenants := s.Tenants.set e.Tenant.toNat t } = some (if ovB c (s.Tenants.set e.Tenant.toNat t) = true then (zS,10) else ({ s with Tick := e.Tick,Count := s.Count + 1,Tenants := s.Tenants.set e.Tenant.toNat t },0)) := fit_eq hc (by simp [hw.wf.tn])
theorem fB_s (k : Int) : fB c { s with Tick := e.Tick,Count := s.Count + 1 } k = fB c s k := fB_cong rfl k
theorem x_place (hk : e.Kind = 1) : cellplaneref12_place c (tk s e) e = (state_fold_place ⟨c,s,e⟩).map (fin s e) := by
  obtain ⟨t,ht,_⟩ := ten_get hc hw he (by omega)
  obtain ⟨k1,k2,k3⟩ := he.k1 hk
  obtain ⟨x,hx,_⟩ := cel_get hc hw he k1
  unfold cellplaneref12_place state_fold_place state_fold_up tk
  dsimp only
  simp only [ht,hx,Option.bind_some,frozen_eq hc,evac_eq hc e _ hw.ev,fB_s hc hw he,r_may_eq hc,together_eq hc,fmay_eq hc s e _ [] (by simp),fmay_eq hc s e _ [e.Cell] (by simp),List.set_set,full_s hc hw he,fit_s hc hw he,no_eq]
  have c0 : ¬ e.Cell = -1 := by omega
  by_cases ho : e.Other = -1
  · have h0 : ¬ 0 ≤ e.Other := by omega
    simp only [ho,fmB,List.all_nil,Bool.true_and]
    generalize t.Placed = b1
    generalize fB c s e.Cell = b2
    generalize mB c e.Tenant e.Cell = b3
    by_cases hm : x.Mode = 1 <;> cases b1 <;> cases b2 <;> cases b3 <;> simp [hm,fin_no,fin_full]
  · have h0 : 0 ≤ e.Other := by omega
    obtain ⟨y,hy,_⟩ := cel_get hc hw he (k := e.Other) (by omega)
    have h1 : 0 ≤ e.Cell := k1.1
    simp only [hy,Option.bind_some,fmB,List.all_cons,List.all_nil,Bool.true_and,Bool.and_true,aB_symm hc e.Other e.Cell]
    generalize t.Placed = b1
    generalize fB c s e.Cell = b2
    generalize mB c e.Tenant e.Cell = b3
    generalize fB c s e.Other = b4
    generalize mB c e.Tenant e.Other = b5
    generalize aB c e.Cell e.Other = b6
    by_cases hm : x.Mode = 1 <;> by_cases hm2 : y.Mode = 1 <;> cases b1 <;> cases b2 <;> cases b3 <;> cases b4 <;> cases b5 <;> cases b6 <;> simp [hm,hm2,ho,h0,h1,c0,fin_no,fin_full]
omit hc hw he in
theorem fmB_two (c : Config) (e : Entry) (k a b : Int) : fmB c e k [a,b] = ((decide (a = -1) || aB c k a) && (decide (b = -1) || aB c k b) && mB c e.Tenant k) := by simp [fmB]
theorem x_cut (hk : e.Kind = 3) : cellplaneref12_cut (tk s e) e = (state_fold_cut ⟨c,s,e⟩).map (fin s e) := by
  obtain ⟨t,ht,_⟩ := ten_get hc hw he (by omega)
  have hti := he.tick
  unfold cellplaneref12_cut state_fold_cut tk cellplaneref12_Cut
  dsimp only
  rw [w64_s (n := e.Tick + 1) (by omega)]
  simp only [ht,Option.bind_some,List.set_set,no_eq]
  generalize t.Placed = b1
  by_cases h : e.Epoch = t.Epoch <;> cases b1 <;> simp [h,fin_no,fin_ok]
theorem x_standby (hk : e.Kind = 4) : cellplaneref12_standby c (tk s e) e = (state_fold_standby ⟨c,s,e⟩).map (fin s e) := by
  obtain ⟨t,ht,htw⟩ := ten_get hc hw he (by omega)
  have hcl := he.cel
  have g1 := htw.home
  have g2 := htw.target
  have ht' := (idx_out ht).2
  unfold cellplaneref12_standby cellplaneref12_standby.j1 state_fold_standby state_fold_up tk
  dsimp only
  simp only [ht,Option.bind_some,frozen_eq hc,evac_eq hc e _ hw.ev,fB_s hc hw he,r_may_eq hc,together_eq hc,fmay_eq hc s e _ [t.Home,t.Target] (by simp),full_s hc hw he,fit_s hc hw he,no_eq,fmB_two]
  by_cases h1 : e.Cell = -1
  · have hlt : e.Cell < 0 := by omega
    have hov : t.Placed = true → ovB c (s.Tenants.set e.Tenant.toNat { t with Next := -1 }) = false := fun hp => ovB_no hc (by simp [hw.wf.tn]) (tst_ov hc hw.wf hw.cap ht' (TSt.unstand hk hp h1))
    cases hp : t.Placed with
    | false => simp [fin_no]
    | true =>
      have hov := hov hp
      rw [hp] at hov
      simp [h1,hov,fin_ok]
  · have hlt : ¬ e.Cell < 0 := by omega
    obtain ⟨x,hx,_⟩ := cel_get hc hw he (k := e.Cell) (by omega)
    simp only [hx,Option.bind_some]
    have h0 : 0 ≤ e.Cell := by omega
    by_cases c5 : ((decide (e.Cell = t.Home)) || ((decide (e.Cell = t.Standby)) || (decide (e.Cell = t.Target)))) = true
    · cases t.Placed <;> simp [h1,hlt,c5,fin_no]
    · have c5 : ((decide (e.Cell = t.Home)) || ((decide (e.Cell = t.Standby)) || (decide (e.Cell = t.Target)))) = false := by simpa using c5
      have q1 : decide (0 ≤ t.Home) = !decide (t.Home = -1) := by rw [Bool.eq_iff_iff]; simp; omega
      have q2 : decide (0 ≤ t.Target) = !decide (t.Target = -1) := by rw [Bool.eq_iff_iff]; simp; omega
      simp only [c5,q1,q2]
      generalize t.Placed = b1
      generalize fB c s e.Cell = b2
      generalize mB c e.Tenant e.Cell = b3
      generalize aB c e.Cell t.Home = b4
      generalize aB c e.Cell t.Target = b5
      generalize decide (t.Home = -1) = b6
      generalize decide (t.Target = -1) = b7
      by_cases hm : x.Mode = 1 <;> cases b1 <;> cases b2 <;> cases b3 <;> cases b4 <;> cases b5 <;> cases b6 <;> cases b7 <;> simp [hm,hlt,h1,h0,fin_no,fin_full]
theorem x_ready (hk : e.Kind = 5) : cellplaneref12_ready (tk s e) e = (state_fold_ready ⟨c,s,e⟩).map (fin s e) := by
  obtain ⟨t,ht,_⟩ := ten_get hc hw he (by omega)
  obtain ⟨x,hx,_⟩ := cel_get hc hw he (he.k5 (.inl hk))
  unfold cellplaneref12_ready state_fold_ready tk
  dsimp only
  simp only [ht,hx,Option.bind_some,List.set_set,no_eq]
  generalize t.Placed = b1
  by_cases h : e.Cell = t.Next <;> by_cases hm : x.Mode = 3 <;> cases b1 <;> simp [h,hm,fin_no,fin_ok]
theorem x_migrate (hk : e.Kind = 6) : cellplaneref12_migrate c (tk s e) e = (state_fold_migrate ⟨c,s,e⟩).map (fin s e) := by
  obtain ⟨t,ht,htw⟩ := ten_get hc hw he (by omega)
  have k1 := he.k5 (.inr hk)
  obtain ⟨x,hx,_⟩ := cel_get hc hw he k1
  have g1 := htw.stand
  have g2 := htw.next
  have g3 := htw.target
  unfold cellplaneref12_migrate state_fold_migrate state_fold_up tk
  dsimp only
  simp only [ht,hx,Option.bind_some,frozen_eq hc,evac_eq hc e _ hw.ev,fB_s hc hw he,r_may_eq hc,together_eq hc,fmay_eq hc s e _ [t.Standby,t.Next] (by simp),full_s hc hw he,fit_s hc hw he,no_eq,fmB_two]
  have h0 : 0 ≤ e.Cell := k1.1
  have q1 : decide (0 ≤ t.Standby) = !decide (t.Standby = -1) := by rw [Bool.eq_iff_iff]; simp; omega
  have q2 : decide (0 ≤ t.Next) = !decide (t.Next = -1) := by rw [Bool.eq_iff_iff]; simp; omega
  have q3 : decide (0 ≤ t.Target) = !decide (t.Target = -1) := by rw [Bool.eq_iff_iff]; simp; omega
  simp only [q1,q2,q3]
  have e4 : (if (!t.Placed) = true then some true else if t.Shed = true then some true else some (!decide (t.Target = -1))) = some (!t.Placed || (t.Shed || !decide (t.Target = -1))) := by cases t.Placed <;> cases t.Shed <;> rfl
  have e5 : (if decide (e.Cell = t.Home) = true then some true else if decide (e.Cell = t.Standby) = true then some true else some (decide (e.Cell = t.Next))) = some (decide (e.Cell = t.Home) || (decide (e.Cell = t.Standby) || decide (e.Cell = t.Next))) := by cases decide (e.Cell = t.Home) <;> cases decide (e.Cell = t.Standby) <;> rfl
  simp only [e4,e5,Option.bind_some]
  generalize (!t.Placed || (t.Shed || !decide (t.Target = -1))) = b0
  generalize (decide (e.Cell = t.Home) || (decide (e.Cell = t.Standby) || decide (e.Cell = t.Next))) = b1
  generalize fB c s e.Cell = b2
  generalize mB c e.Tenant e.Cell = b3
  generalize aB c e.Cell t.Standby = b4
  generalize aB c e.Cell t.Next = b5
  generalize decide (t.Standby = -1) = b6
  generalize decide (t.Next = -1) = b7
  cases b0
  · cases b1
    · by_cases hm : x.Mode = 1 <;> cases b2 <;> cases b3 <;> cases b4 <;> cases b5 <;> cases b6 <;> cases b7 <;> simp [hm,h0,fin_no,fin_full]
    · simp [fin_no]
  · simp [fin_no]
theorem x_abandon (hk : e.Kind = 7) : cellplaneref12_abandon (tk s e) e = (state_fold_abandon ⟨c,s,e⟩).map (fin s e) := by
  obtain ⟨t,ht,htw⟩ := ten_get hc hw he (by omega)
  have g3 := htw.target
  unfold cellplaneref12_abandon state_fold_abandon tk
  dsimp only
  have q3 : decide (t.Target < 0) = decide (t.Target = -1) := by rw [Bool.eq_iff_iff]; simp; omega
  simp only [ht,Option.bind_some,List.set_set,no_eq,q3]
  generalize decide (t.Target = -1) = b0
  generalize t.Placed = b1
  cases b0 <;> cases b1 <;> simp [fin_no,fin_ok]
theorem x_shed (hk : e.Kind = 8) : cellplaneref12_shed c (tk s e) e = (state_fold_shed ⟨c,s,e⟩).map (fin s e) := by
  obtain ⟨t,ht,htw⟩ := ten_get hc hw he (by omega)
  have g1 := htw.home
  have ht' := (idx_out ht).2
  have hsp := hw.sh t (mem_of ht')
  have hpl := htw.pl
  unfold cellplaneref12_shed state_fold_shed state_fold_down tk
  dsimp only
  simp only [ht,Option.bind_some,List.set_set,full_s hc hw he,fit_s hc hw he,no_eq]
  by_cases hN : e.N = 1
  · generalize t.Placed = b1
    generalize t.Shed = b2
    by_cases hu : e.Tick < t.Window.Until <;> cases b1 <;> cases b2 <;> simp [hN,hu,fin_no,fin_ok]
  · cases hs : t.Shed with
    | false => simp [hN,fin_no]
    | true =>
      have h0 := hpl (hsp hs)
      obtain ⟨y,hy,_⟩ := cel_get hc hw he (k := t.Home) ⟨h0,g1.2⟩
      have hlt : t.Home < (s.Cells.length : Int) := by rw [hw.wf.cn]; exact g1.2
      simp only [hy,Option.bind_some]
      by_cases hm : y.Mode = 3 <;> simp [hN,hm,h0,hlt,fin_no,fin_full]
theorem x_grant (hk : e.Kind = 2) : cellplaneref12_grant c (tk s e) e = (state_fold_grant ⟨c,s,e⟩).map (fin s e) := by
  obtain ⟨t,ht,htw⟩ := ten_get hc hw he (by omega)
  obtain ⟨k1,k2,k3,k4,k5⟩ := he.k2 hk
  obtain ⟨x,hx,_⟩ := cel_get hc hw he k1
  have hti := he.tick
  have hle := hc.le
  have hep := htw.ep
  have hset : ∀ u,idx (s.Tenants.set e.Tenant.toNat u) e.Tenant = some u := fun u => idx_setP ht u
  have W1 : w64 (t.Epoch + 1) = t.Epoch + 1 := w64_s (by omega)
  have W2 : w64 (e.Tick + c.Lease) = e.Tick + c.Lease := w64_s (by omega)
  have W3 : w64 (e.Until - e.From) = e.Until - e.From := w64_s (by omega)
  unfold cellplaneref12_grant cellplaneref12_granted state_fold_grant state_fold_fits tk
  dsimp only
  simp only [ht,hx,Option.bind_some,W1,W2,W3,no_eq]
  by_cases c4 : (!t.Placed || t.Shed && !decide (e.Cell = t.Standby)) = true
  · rw [if_pos c4,if_pos c4]; simp only [Option.map_some,fin_no (show (4 : Int) ≠ 0 by decide)]
  rw [if_neg c4,if_neg c4]
  by_cases c5 : (!decide (e.Cell = t.Home) && (!decide (e.Cell = t.Standby) && !decide (e.Cell = t.Target))) = true
  · rw [if_pos c5,if_pos c5]; simp only [Option.map_some,fin_no (show (5 : Int) ≠ 0 by decide)]
  rw [if_neg c5,if_neg c5]
  have e6 : (if decide (x.Mode = 3) = true then some true else if decide (x.Mode = 2) = true then some (!(decide (e.Cell = t.Home))) else some false) = some (decide (x.Mode = 3) || (decide (x.Mode = 2) && !(decide (e.Cell = t.Home)))) := by cases decide (x.Mode = 3) <;> cases decide (x.Mode = 2) <;> rfl
  have e7 : (if (!decide (e.Epoch = t.Epoch + 1)) = true then if decide (e.Cell = t.Home) = true then some (!(decide (e.Epoch = t.Epoch))) else some true else some false) = some (bif decide (e.Cell = t.Home) then (bif !decide (e.Epoch = t.Epoch) then (!decide (e.Epoch = t.Epoch + 1) || (!(decide (e.Cell = t.Home)) && !decide (e.Epoch = t.Epoch + 1))) else (!(decide (e.Cell = t.Home)) && !decide (e.Epoch = t.Epoch + 1))) else (!(decide (e.Cell = t.Home)) && !decide (e.Epoch = t.Epoch + 1))) := by cases decide (e.Epoch = t.Epoch + 1) <;> cases decide (e.Cell = t.Home) <;> cases decide (e.Epoch = t.Epoch) <;> rfl
  have e8 : (if (!decide (e.N = x.Running)) = true then some true else some (!decide (x.Running = x.Wanted))) = some (!decide (e.N = x.Running) || !decide (x.Running = x.Wanted)) := by cases decide (e.N = x.Running) <;> rfl
  have f1 : decide (e.From < e.Tick) = !decide (e.Tick ≤ e.From) := by rw [Bool.eq_iff_iff]; simp
  have f2 : decide (e.Tick + c.Lease < e.From) = !decide (e.From ≤ e.Tick + c.Lease) := by rw [Bool.eq_iff_iff]; simp
  have f3 : decide (e.Until ≤ e.From) = !decide (e.From < e.Until) := by rw [Bool.eq_iff_iff]; simp
  have f4 : decide (c.Lease < e.Until - e.From) = !decide (e.Until - e.From ≤ c.Lease) := by rw [Bool.eq_iff_iff]; simp
  have f5 : decide (e.From < t.Window.Until) = !decide (t.Window.Until ≤ e.From) := by rw [Bool.eq_iff_iff]; simp
  have e9 : (if decide (e.Tick ≤ e.From) = true then if decide (e.From ≤ e.Tick + c.Lease) = true then if decide (e.From < e.Until) = true then if decide (e.Until - e.From ≤ c.Lease) = true then some (decide (t.Window.Until ≤ e.From)) else some false else some false else some false else some false) = some (!(!decide (e.Tick ≤ e.From) || (!decide (e.From ≤ e.Tick + c.Lease) || (!decide (e.From < e.Until) || (!decide (e.Until - e.From ≤ c.Lease) || !decide (t.Window.Until ≤ e.From)))))) := by cases decide (e.Tick ≤ e.From) <;> cases decide (e.From ≤ e.Tick + c.Lease) <;> cases decide (e.From < e.Until) <;> cases decide (e.Until - e.From ≤ c.Lease) <;> cases decide (t.Window.Until ≤ e.From) <;> rfl
  simp only [e6,e7,e8,e9,f1,f2,f3,f4,f5,Option.bind_some,Bool.not_not]
  generalize (decide (x.Mode = 3) || (decide (x.Mode = 2) && !(decide (e.Cell = t.Home)))) = c6
  generalize (bif decide (e.Cell = t.Home) then (bif !decide (e.Epoch = t.Epoch) then (!decide (e.Epoch = t.Epoch + 1) || (!(decide (e.Cell = t.Home)) && !decide (e.Epoch = t.Epoch + 1))) else (!(decide (e.Cell = t.Home)) && !decide (e.Epoch = t.Epoch + 1))) else (!(decide (e.Cell = t.Home)) && !decide (e.Epoch = t.Epoch + 1))) = c7
  generalize (!decide (e.N = x.Running) || !decide (x.Running = x.Wanted)) = c8
  generalize (!decide (e.Tick ≤ e.From) || (!decide (e.From ≤ e.Tick + c.Lease) || (!decide (e.From < e.Until) || (!decide (e.Until - e.From ≤ c.Lease) || !decide (t.Window.Until ≤ e.From))))) = c9
  cases c6
  · cases c7
    · cases c8
      · cases c9
        · by_cases hH : e.Cell = t.Home
          · simp [hH,full_s hc hw he,fit_s hc hw he,fin_full]
          · by_cases hu : e.Tick < t.Window.Until
            · simp [hH,hu,fin_no]
            · by_cases hS : e.Cell = t.Standby
              · have hSH : ¬ t.Standby = t.Home := fun h => hH (hS.trans h)
                simp [hSH,hu,hS,hset,full_s hc hw he,fit_s hc hw he,fin_full]
              · simp [hH,hu,hS,hset,full_s hc hw he,fit_s hc hw he,fin_full]
        · simp [fin_no]
      · simp [fin_no]
    · simp [fin_no]
  · simp [fin_no]
end
end Go.Proofs.YtcdoangbkgaapaaGreatK
