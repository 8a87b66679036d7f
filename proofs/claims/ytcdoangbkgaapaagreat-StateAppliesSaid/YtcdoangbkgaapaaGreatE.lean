/- How values lie in memory. No condition. -/
import Derived.Test.YtcdoangbkgaapaaGreatTK
import Derived.Test.YtcdoangbkgaapaaGreatF
set_option linter.unusedVariables false
set_option maxHeartbeats 4000000
namespace Go.Proofs.YtcdoangbkgaapaaGreatK
open Go
theorem ti_3 : tt.inf 3 = some ((.int .i64 0),1,8) := by kernel_rfl
theorem ti_4 : tt.inf 4 = some ((.bool false),1,1) := by kernel_rfl
theorem ti_9 : tt.inf 9 = some ((.string ⟨#[]⟩),1,16) := by kernel_rfl
theorem ti_30 : tt.inf 30 = some ((.agg #[(.int .i64 0),(.slice none 0 0),(.slice none 0 0),(.slice none 0 0),(.slice none 0 0),(.slice none 0 0),(.slice none 0 0),(.int .i64 0),(.int .i64 0),(.int .i64 0)]),10,176) := by kernel_rfl
theorem ti_38 : tt.inf 38 = some ((.agg #[(.int .i64 0),(.int .i64 0),(.slice none 0 0),(.slice none 0 0),(.int .i64 0),(.int .i64 0),(.int .i64 0),(.int .i64 0)]),8,96) := by kernel_rfl
theorem ti_45 : tt.inf 45 = some ((.agg #[(.int .i64 0),(.int .i64 0),(.int .i64 0),(.int .i64 0),(.int .i64 0),(.int .i64 0),(.int .i64 0),(.int .i64 0),(.int .i64 0)]),9,72) := by kernel_rfl
theorem ti_54 : tt.inf 54 = some ((.agg #[(.int .i64 0),(.int .i64 0),(.int .i64 0),(.int .i64 0)]),4,32) := by kernel_rfl
theorem ti_56 : tt.inf 56 = some ((.agg #[(.int .i64 0),(.int .i64 0),(.int .i64 0),(.int .i64 0),(.int .i64 0)]),5,40) := by kernel_rfl
theorem ti_58 : tt.inf 58 = some ((.agg #[(.bool false),(.bool false),(.int .i64 0),(.int .i64 0),(.int .i64 0),(.int .i64 0),(.int .i64 0),(.int .i64 0),(.int .i64 0),(.int .i64 0),(.int .i64 0),(.int .i64 0)]),12,88) := by kernel_rfl
theorem ti_72 : tt.inf 72 = some ((.agg #[(.int .i64 0)]),1,8) := by kernel_rfl
theorem ti_74 : tt.inf 74 = some ((.agg #[(.int .i64 0),(.int .i64 0)]),2,16) := by kernel_rfl
theorem ti_77 : tt.inf 77 = some ((.agg #[(.int .i64 0),(.int .i64 0),(.int .i64 0),(.int .i64 0),(.int .i64 0),(.int .i64 0),(.bool false)]),7,56) := by kernel_rfl
theorem ti_79 : tt.inf 79 = some ((.agg #[(.int .i64 0),(.int .i64 0)]),2,16) := by kernel_rfl
theorem ti_85 : tt.inf 85 = some ((.agg #[(.int .i64 0),(.slice none 0 0),(.slice none 0 0),(.slice none 0 0),(.slice none 0 0),(.slice none 0 0),(.slice none 0 0),(.int .i64 0),(.int .i64 0),(.int .i64 0),(.int .i64 0),(.int .i64 0),(.slice none 0 0),(.slice none 0 0),(.int .i64 0),(.int .i64 0),(.int .i64 0),(.int .i64 0),(.int .i64 0),(.int .i64 0),(.int .i64 0),(.int .i64 0),(.int .i64 0),(.int .i64 0),(.int .i64 0),(.int .i64 0),(.int .i64 0),(.pointer none),(.pointer none)]),29,360) := by kernel_rfl
theorem ti_94 : tt.inf 94 = some ((.agg #[(.slice none 0 0),(.int .i64 0)]),2,32) := by kernel_rfl
theorem ti_106 : tt.inf 106 = some ((.agg #[(.int .i64 0),(.int .i64 0),(.int .i64 0),(.int .i64 0)]),4,32) := by kernel_rfl
theorem ti_129 : tt.inf 129 = some ((.slice none 0 0),1,24) := by kernel_rfl
theorem tp_30 : tt.pl 30 = some [(0,1),(1,1),(2,1),(3,1),(4,1),(5,1),(6,1),(7,1),(8,1),(9,1)] := by kernel_rfl
theorem tp_38 : tt.pl 38 = some [(0,1),(1,1),(2,1),(3,1),(4,1),(5,1),(6,1),(7,1)] := by kernel_rfl
theorem tp_45 : tt.pl 45 = some [(0,1),(1,1),(2,1),(3,1),(4,1),(5,1),(6,1),(7,1),(8,1)] := by kernel_rfl
theorem tp_54 : tt.pl 54 = some [(0,1),(1,1),(2,1),(3,1)] := by kernel_rfl
theorem tp_56 : tt.pl 56 = some [(0,1),(1,1),(2,1),(3,1),(4,1)] := by kernel_rfl
theorem tp_58 : tt.pl 58 = some [(0,1),(1,1),(2,1),(3,1),(4,1),(5,1),(6,1),(7,5)] := by kernel_rfl
theorem tp_72 : tt.pl 72 = some [(0,1)] := by kernel_rfl
theorem tp_74 : tt.pl 74 = some [(0,1),(1,1)] := by kernel_rfl
theorem tp_77 : tt.pl 77 = some [(0,1),(1,1),(2,1),(3,1),(4,1),(5,1),(6,1)] := by kernel_rfl
theorem tp_79 : tt.pl 79 = some [(0,1),(1,1)] := by kernel_rfl
theorem tp_85 : tt.pl 85 = some [(0,10),(10,8),(18,9),(27,1),(28,1)] := by kernel_rfl
theorem tp_94 : tt.pl 94 = some [(0,1),(1,1)] := by kernel_rfl
theorem tp_106 : tt.pl 106 = some [(0,1),(1,1),(2,1),(3,1)] := by kernel_rfl
theorem ta_30 : tt.ag 30 = some 10 := by kernel_rfl
theorem ta_38 : tt.ag 38 = some 8 := by kernel_rfl
theorem ta_45 : tt.ag 45 = some 9 := by kernel_rfl
theorem ta_54 : tt.ag 54 = some 4 := by kernel_rfl
theorem ta_56 : tt.ag 56 = some 5 := by kernel_rfl
theorem ta_58 : tt.ag 58 = some 12 := by kernel_rfl
theorem ta_77 : tt.ag 77 = some 7 := by kernel_rfl
theorem ta_79 : tt.ag 79 = some 2 := by kernel_rfl
theorem ts_3 : tt.sc 3 = true := by kernel_rfl
theorem ts_4 : tt.sc 4 = true := by kernel_rfl
theorem ts_9 : tt.sc 9 = true := by kernel_rfl
theorem ts_22 : tt.sc 22 = true := by kernel_rfl
theorem ts_25 : tt.sc 25 = true := by kernel_rfl
theorem ts_26 : tt.sc 26 = true := by kernel_rfl
theorem ts_27 : tt.sc 27 = true := by kernel_rfl
theorem ts_28 : tt.sc 28 = true := by kernel_rfl
theorem ts_35 : tt.sc 35 = true := by kernel_rfl
theorem ts_36 : tt.sc 36 = true := by kernel_rfl
theorem ts_81 : tt.sc 81 = true := by kernel_rfl
theorem ts_82 : tt.sc 82 = true := by kernel_rfl
theorem ts_83 : tt.sc 83 = true := by kernel_rfl
theorem ts_129 : tt.sc 129 = true := by kernel_rfl
theorem te_22 : tt.el 22 = some (3,1) := by kernel_rfl
theorem te_25 : tt.el 25 = some (72,1) := by kernel_rfl
theorem te_26 : tt.el 26 = some (74,2) := by kernel_rfl
theorem te_27 : tt.el 27 = some (77,7) := by kernel_rfl
theorem te_28 : tt.el 28 = some (79,2) := by kernel_rfl
theorem te_32 : tt.el 32 = some (45,9) := by kernel_rfl
theorem te_35 : tt.el 35 = some (58,12) := by kernel_rfl
theorem te_36 : tt.el 36 = some (54,4) := by kernel_rfl
theorem te_128 : tt.el 128 = some (9,1) := by kernel_rfl
theorem te_129 : tt.el 129 = some (3,1) := by kernel_rfl
def eI64 : Enc Int := ⟨fun x => [.int .i64 x],1,fun _ => rfl,fun _ => rfl,rfl⟩
def eU64 : Enc Int := ⟨fun x => [.int .u64 x],1,fun _ => rfl,fun _ => rfl,rfl⟩
def eU8 : Enc Int := ⟨fun x => [.int .u8 x],1,fun _ => rfl,fun _ => rfl,rfl⟩
def eBool : Enc Bool := ⟨fun x => [.bool x],1,fun _ => rfl,fun _ => rfl,rfl⟩
def eStr : Enc ByteArray := ⟨fun x => [.string x],1,fun _ => rfl,fun _ => rfl,rfl⟩
def en_Entry (x : Entry) : List Value := [.int .i64 x.Kind,.int .i64 x.Tick,.int .i64 x.Tenant,.int .i64 x.Cell,.int .i64 x.Other,.int .i64 x.Epoch,.int .i64 x.From,.int .i64 x.Until,.int .i64 x.N]
def eEntry : Enc Entry := ⟨en_Entry,9,fun _ => rfl,fun _ => rfl,rfl⟩
def en_Zone (x : Zone) : List Value := [.int .i64 x.Region]
def eZone : Enc Zone := ⟨en_Zone,1,fun _ => rfl,fun _ => rfl,rfl⟩
def en_Cell (x : Cell) : List Value := [.int .i64 x.Zone,.int .i64 x.Capacity]
def eCell : Enc Cell := ⟨en_Cell,2,fun _ => rfl,fun _ => rfl,rfl⟩
def en_Tenant (x : Tenant) : List Value := [.int .i64 x.Load,.int .i64 x.Shadow,.int .i64 x.Priority,.int .i64 x.Lag,.int .i64 x.Allowed,.int .i64 x.Group,.bool x.Noisy]
def eTenant : Enc Tenant := ⟨en_Tenant,7,fun _ => rfl,fun _ => rfl,rfl⟩
def en_Version (x : Version) : List Value := [.int .i64 x.Low,.int .i64 x.High]
def eVersion : Enc Version := ⟨en_Version,2,fun _ => rfl,fun _ => rfl,rfl⟩
structure gConfig where
  Zones : Option Addr × Nat
  Cells : Option Addr × Nat
  Tenants : Option Addr × Nat
  Versions : Option Addr × Nat
  Replicas : Option Addr × Nat
  Observers : Option Addr × Nat
def en_Config (x : Config) (g : gConfig) : List Value := [.int .i64 x.Regions,.slice g.Zones.1 x.Zones.length g.Zones.2,.slice g.Cells.1 x.Cells.length g.Cells.2,.slice g.Tenants.1 x.Tenants.length g.Tenants.2,.slice g.Versions.1 x.Versions.length g.Versions.2,.slice g.Replicas.1 x.Replicas.length g.Replicas.2,.slice g.Observers.1 x.Observers.length g.Observers.2,.int .i64 x.Blast,.int .i64 x.Lease,.int .i64 x.Bake]
def Sl_Config (S : St) (x : Config) (g : gConfig) : Prop := Sl S g.Zones.1 x.Zones.length g.Zones.2 (fl eZone.en x.Zones) ∧ Sl S g.Cells.1 x.Cells.length g.Cells.2 (fl eCell.en x.Cells) ∧ Sl S g.Tenants.1 x.Tenants.length g.Tenants.2 (fl eTenant.en x.Tenants) ∧ Sl S g.Versions.1 x.Versions.length g.Versions.2 (fl eVersion.en x.Versions) ∧ Sl S g.Replicas.1 x.Replicas.length g.Replicas.2 (fl eI64.en x.Replicas) ∧ Sl S g.Observers.1 x.Observers.length g.Observers.2 (fl eI64.en x.Observers)
theorem Sl_Config.mono {S S1 : St} {x : Config} {g : gConfig} (h : Sl_Config S x g) (hl : Le S1 S) : Sl_Config S1 x g := ⟨Sl.mono h.1 hl,Sl.mono h.2.1 hl,Sl.mono h.2.2.1 hl,Sl.mono h.2.2.2.1 hl,Sl.mono h.2.2.2.2.1 hl,Sl.mono h.2.2.2.2.2 hl⟩
def en_Window (x : Window) : List Value := [.int .i64 x.Cell,.int .i64 x.Epoch,.int .i64 x.Version,.int .i64 x.From,.int .i64 x.Until]
def eWindow : Enc Window := ⟨en_Window,5,fun _ => rfl,fun _ => rfl,rfl⟩
def en_TenantState (x : TenantState) : List Value := [.bool x.Placed,.bool x.Shed,.int .i64 x.Home,.int .i64 x.Standby,.int .i64 x.Next,.int .i64 x.Target,.int .i64 x.Epoch,.int .i64 x.Window.Cell,.int .i64 x.Window.Epoch,.int .i64 x.Window.Version,.int .i64 x.Window.From,.int .i64 x.Window.Until]
def eTenantState : Enc TenantState := ⟨en_TenantState,12,fun _ => rfl,fun _ => rfl,rfl⟩
def en_CellState (x : CellState) : List Value := [.int .i64 x.Mode,.int .i64 x.Running,.int .i64 x.Wanted,.int .i64 x.Since]
def eCellState : Enc CellState := ⟨en_CellState,4,fun _ => rfl,fun _ => rfl,rfl⟩
structure gState where
  Tenants : Option Addr × Nat
  Cells : Option Addr × Nat
def en_State (x : State) (g : gState) : List Value := [.int .i64 x.Tick,.int .i64 x.Count,.slice g.Tenants.1 x.Tenants.length g.Tenants.2,.slice g.Cells.1 x.Cells.length g.Cells.2,.int .i64 x.Proven,.int .i64 x.Evacuating,.int .i64 x.Low,.int .i64 x.High]
def Sl_State (S : St) (x : State) (g : gState) : Prop := Sl S g.Tenants.1 x.Tenants.length g.Tenants.2 (fl eTenantState.en x.Tenants) ∧ Sl S g.Cells.1 x.Cells.length g.Cells.2 (fl eCellState.en x.Cells)
theorem Sl_State.mono {S S1 : St} {x : State} {g : gState} (h : Sl_State S x g) (hl : Le S1 S) : Sl_State S1 x g := ⟨Sl.mono h.1 hl,Sl.mono h.2 hl⟩
def en_entry_sizes (x : entry_sizes) : List Value := [.int .i64 x.tenants,.int .i64 x.cells,.int .i64 x.regions,.int .i64 x.versions]
def eentry_sizes : Enc entry_sizes := ⟨en_entry_sizes,4,fun _ => rfl,fun _ => rfl,rfl⟩
structure gstate_fold where
  c_Zones : Option Addr × Nat
  c_Cells : Option Addr × Nat
  c_Tenants : Option Addr × Nat
  c_Versions : Option Addr × Nat
  c_Replicas : Option Addr × Nat
  c_Observers : Option Addr × Nat
  s_Tenants : Option Addr × Nat
  s_Cells : Option Addr × Nat
  t : Value
  cell : Value
def en_state_fold (x : state_fold) (g : gstate_fold) : List Value := [.int .i64 x.c.Regions,.slice g.c_Zones.1 x.c.Zones.length g.c_Zones.2,.slice g.c_Cells.1 x.c.Cells.length g.c_Cells.2,.slice g.c_Tenants.1 x.c.Tenants.length g.c_Tenants.2,.slice g.c_Versions.1 x.c.Versions.length g.c_Versions.2,.slice g.c_Replicas.1 x.c.Replicas.length g.c_Replicas.2,.slice g.c_Observers.1 x.c.Observers.length g.c_Observers.2,.int .i64 x.c.Blast,.int .i64 x.c.Lease,.int .i64 x.c.Bake,.int .i64 x.s.Tick,.int .i64 x.s.Count,.slice g.s_Tenants.1 x.s.Tenants.length g.s_Tenants.2,.slice g.s_Cells.1 x.s.Cells.length g.s_Cells.2,.int .i64 x.s.Proven,.int .i64 x.s.Evacuating,.int .i64 x.s.Low,.int .i64 x.s.High,.int .i64 x.e.Kind,.int .i64 x.e.Tick,.int .i64 x.e.Tenant,.int .i64 x.e.Cell,.int .i64 x.e.Other,.int .i64 x.e.Epoch,.int .i64 x.e.From,.int .i64 x.e.Until,.int .i64 x.e.N,g.t,g.cell]
def Sl_state_fold (S : St) (x : state_fold) (g : gstate_fold) : Prop := Sl S g.c_Zones.1 x.c.Zones.length g.c_Zones.2 (fl eZone.en x.c.Zones) ∧ Sl S g.c_Cells.1 x.c.Cells.length g.c_Cells.2 (fl eCell.en x.c.Cells) ∧ Sl S g.c_Tenants.1 x.c.Tenants.length g.c_Tenants.2 (fl eTenant.en x.c.Tenants) ∧ Sl S g.c_Versions.1 x.c.Versions.length g.c_Versions.2 (fl eVersion.en x.c.Versions) ∧ Sl S g.c_Replicas.1 x.c.Replicas.length g.c_Replicas.2 (fl eI64.en x.c.Replicas) ∧ Sl S g.c_Observers.1 x.c.Observers.length g.c_Observers.2 (fl eI64.en x.c.Observers)
theorem Sl_state_fold.mono {S S1 : St} {x : state_fold} {g : gstate_fold} (h : Sl_state_fold S x g) (hl : Le S1 S) : Sl_state_fold S1 x g := ⟨Sl.mono h.1 hl,Sl.mono h.2.1 hl,Sl.mono h.2.2.1 hl,Sl.mono h.2.2.2.1 hl,Sl.mono h.2.2.2.2.1 hl,Sl.mono h.2.2.2.2.2 hl⟩
structure gcellplanemake_Tape where
  L : Option Addr × Nat
def en_cellplanemake_Tape (x : cellplanemake_Tape) (g : gcellplanemake_Tape) : List Value := [.slice g.L.1 x.L.length g.L.2,.int .i64 x.At]
def Sl_cellplanemake_Tape (S : St) (x : cellplanemake_Tape) (g : gcellplanemake_Tape) : Prop := Sl S g.L.1 x.L.length g.L.2 (fl eI64.en x.L)
theorem Sl_cellplanemake_Tape.mono {S S1 : St} {x : cellplanemake_Tape} {g : gcellplanemake_Tape} (h : Sl_cellplanemake_Tape S x g) (hl : Le S1 S) : Sl_cellplanemake_Tape S1 x g := Sl.mono h hl
theorem eqd_Entry {d : Nat} (x y : Entry) (w : World) : (Op.equalIn (d + 2) 45 (.agg (en_Entry x).toArray) (.agg (en_Entry y).toArray)).run Tryz.prog w = .ok (decide (x = y)) w := by
  rw [run_equalIn_agg w (d + 1) _ _ _ (by kernel_rfl) (by kernel_rfl)]
  have e : (Tryz.prog.fieldsOf 45).toList = [⟨"Kind",3,0,false,"","",0⟩,⟨"Tick",3,1,false,"","",8⟩,⟨"Tenant",3,2,false,"","",16⟩,⟨"Cell",3,3,false,"","",24⟩,⟨"Other",3,4,false,"","",32⟩,⟨"Epoch",3,5,false,"","",40⟩,⟨"From",3,6,false,"","",48⟩,⟨"Until",3,7,false,"","",56⟩,⟨"N",3,8,false,"","",64⟩] := by kernel_rfl
  rw [e]
  have h := (eqF (d := d + 1) (P := Tryz.prog) (w := w) (xs := (en_Entry x).toArray) (ys := (en_Entry y).toArray) (f := ⟨"Kind",3,0,false,"","",0⟩) (u := (.int .i64 x.Kind)) (v := (.int .i64 y.Kind)) (by decide) (by kernel_rfl) (by kernel_rfl) (run_equalIn_int w _ 3 .i64 .i64 _ _ (by kernel_rfl)) (eqF (d := d + 1) (P := Tryz.prog) (w := w) (xs := (en_Entry x).toArray) (ys := (en_Entry y).toArray) (f := ⟨"Tick",3,1,false,"","",8⟩) (u := (.int .i64 x.Tick)) (v := (.int .i64 y.Tick)) (by decide) (by kernel_rfl) (by kernel_rfl) (run_equalIn_int w _ 3 .i64 .i64 _ _ (by kernel_rfl)) (eqF (d := d + 1) (P := Tryz.prog) (w := w) (xs := (en_Entry x).toArray) (ys := (en_Entry y).toArray) (f := ⟨"Tenant",3,2,false,"","",16⟩) (u := (.int .i64 x.Tenant)) (v := (.int .i64 y.Tenant)) (by decide) (by kernel_rfl) (by kernel_rfl) (run_equalIn_int w _ 3 .i64 .i64 _ _ (by kernel_rfl)) (eqF (d := d + 1) (P := Tryz.prog) (w := w) (xs := (en_Entry x).toArray) (ys := (en_Entry y).toArray) (f := ⟨"Cell",3,3,false,"","",24⟩) (u := (.int .i64 x.Cell)) (v := (.int .i64 y.Cell)) (by decide) (by kernel_rfl) (by kernel_rfl) (run_equalIn_int w _ 3 .i64 .i64 _ _ (by kernel_rfl)) (eqF (d := d + 1) (P := Tryz.prog) (w := w) (xs := (en_Entry x).toArray) (ys := (en_Entry y).toArray) (f := ⟨"Other",3,4,false,"","",32⟩) (u := (.int .i64 x.Other)) (v := (.int .i64 y.Other)) (by decide) (by kernel_rfl) (by kernel_rfl) (run_equalIn_int w _ 3 .i64 .i64 _ _ (by kernel_rfl)) (eqF (d := d + 1) (P := Tryz.prog) (w := w) (xs := (en_Entry x).toArray) (ys := (en_Entry y).toArray) (f := ⟨"Epoch",3,5,false,"","",40⟩) (u := (.int .i64 x.Epoch)) (v := (.int .i64 y.Epoch)) (by decide) (by kernel_rfl) (by kernel_rfl) (run_equalIn_int w _ 3 .i64 .i64 _ _ (by kernel_rfl)) (eqF (d := d + 1) (P := Tryz.prog) (w := w) (xs := (en_Entry x).toArray) (ys := (en_Entry y).toArray) (f := ⟨"From",3,6,false,"","",48⟩) (u := (.int .i64 x.From)) (v := (.int .i64 y.From)) (by decide) (by kernel_rfl) (by kernel_rfl) (run_equalIn_int w _ 3 .i64 .i64 _ _ (by kernel_rfl)) (eqF (d := d + 1) (P := Tryz.prog) (w := w) (xs := (en_Entry x).toArray) (ys := (en_Entry y).toArray) (f := ⟨"Until",3,7,false,"","",56⟩) (u := (.int .i64 x.Until)) (v := (.int .i64 y.Until)) (by decide) (by kernel_rfl) (by kernel_rfl) (run_equalIn_int w _ 3 .i64 .i64 _ _ (by kernel_rfl)) (eqF (fs := []) (c := true) (d := d + 1) (P := Tryz.prog) (w := w) (xs := (en_Entry x).toArray) (ys := (en_Entry y).toArray) (f := ⟨"N",3,8,false,"","",64⟩) (u := (.int .i64 x.N)) (v := (.int .i64 y.N)) (by decide) (by kernel_rfl) (by kernel_rfl) (run_equalIn_int w _ 3 .i64 .i64 _ _ (by kernel_rfl)) (by kernel_rfl))))))))))
  have hb : ((x.Kind == y.Kind) && ((x.Tick == y.Tick) && ((x.Tenant == y.Tenant) && ((x.Cell == y.Cell) && ((x.Other == y.Other) && ((x.Epoch == y.Epoch) && ((x.From == y.From) && ((x.Until == y.Until) && ((x.N == y.N) && true))))))))) = decide (x = y) := by
    cases x; cases y
    rw [Bool.eq_iff_iff]; simp
  rw [hb] at h
  exact h
theorem eq_Entry (x y : Entry) (w : World) : (Op.equalIn 10000 45 (.agg (en_Entry x).toArray) (.agg (en_Entry y).toArray)).run Tryz.prog w = .ok (decide (x = y)) w := eqd_Entry (d := 9998) x y w
theorem eqd_CellState {d : Nat} (x y : CellState) (w : World) : (Op.equalIn (d + 2) 54 (.agg (en_CellState x).toArray) (.agg (en_CellState y).toArray)).run Tryz.prog w = .ok (decide (x = y)) w := by
  rw [run_equalIn_agg w (d + 1) _ _ _ (by kernel_rfl) (by kernel_rfl)]
  have e : (Tryz.prog.fieldsOf 54).toList = [⟨"Mode",3,0,false,"","",0⟩,⟨"Running",3,1,false,"","",8⟩,⟨"Wanted",3,2,false,"","",16⟩,⟨"Since",3,3,false,"","",24⟩] := by kernel_rfl
  rw [e]
  have h := (eqF (d := d + 1) (P := Tryz.prog) (w := w) (xs := (en_CellState x).toArray) (ys := (en_CellState y).toArray) (f := ⟨"Mode",3,0,false,"","",0⟩) (u := (.int .i64 x.Mode)) (v := (.int .i64 y.Mode)) (by decide) (by kernel_rfl) (by kernel_rfl) (run_equalIn_int w _ 3 .i64 .i64 _ _ (by kernel_rfl)) (eqF (d := d + 1) (P := Tryz.prog) (w := w) (xs := (en_CellState x).toArray) (ys := (en_CellState y).toArray) (f := ⟨"Running",3,1,false,"","",8⟩) (u := (.int .i64 x.Running)) (v := (.int .i64 y.Running)) (by decide) (by kernel_rfl) (by kernel_rfl) (run_equalIn_int w _ 3 .i64 .i64 _ _ (by kernel_rfl)) (eqF (d := d + 1) (P := Tryz.prog) (w := w) (xs := (en_CellState x).toArray) (ys := (en_CellState y).toArray) (f := ⟨"Wanted",3,2,false,"","",16⟩) (u := (.int .i64 x.Wanted)) (v := (.int .i64 y.Wanted)) (by decide) (by kernel_rfl) (by kernel_rfl) (run_equalIn_int w _ 3 .i64 .i64 _ _ (by kernel_rfl)) (eqF (fs := []) (c := true) (d := d + 1) (P := Tryz.prog) (w := w) (xs := (en_CellState x).toArray) (ys := (en_CellState y).toArray) (f := ⟨"Since",3,3,false,"","",24⟩) (u := (.int .i64 x.Since)) (v := (.int .i64 y.Since)) (by decide) (by kernel_rfl) (by kernel_rfl) (run_equalIn_int w _ 3 .i64 .i64 _ _ (by kernel_rfl)) (by kernel_rfl)))))
  have hb : ((x.Mode == y.Mode) && ((x.Running == y.Running) && ((x.Wanted == y.Wanted) && ((x.Since == y.Since) && true)))) = decide (x = y) := by
    cases x; cases y
    rw [Bool.eq_iff_iff]; simp
  rw [hb] at h
  exact h
theorem eq_CellState (x y : CellState) (w : World) : (Op.equalIn 10000 54 (.agg (en_CellState x).toArray) (.agg (en_CellState y).toArray)).run Tryz.prog w = .ok (decide (x = y)) w := eqd_CellState (d := 9998) x y w
theorem eqd_Window {d : Nat} (x y : Window) (w : World) : (Op.equalIn (d + 2) 56 (.agg (en_Window x).toArray) (.agg (en_Window y).toArray)).run Tryz.prog w = .ok (decide (x = y)) w := by
  rw [run_equalIn_agg w (d + 1) _ _ _ (by kernel_rfl) (by kernel_rfl)]
  have e : (Tryz.prog.fieldsOf 56).toList = [⟨"Cell",3,0,false,"","",0⟩,⟨"Epoch",3,1,false,"","",8⟩,⟨"Version",3,2,false,"","",16⟩,⟨"From",3,3,false,"","",24⟩,⟨"Until",3,4,false,"","",32⟩] := by kernel_rfl
  rw [e]
  have h := (eqF (d := d + 1) (P := Tryz.prog) (w := w) (xs := (en_Window x).toArray) (ys := (en_Window y).toArray) (f := ⟨"Cell",3,0,false,"","",0⟩) (u := (.int .i64 x.Cell)) (v := (.int .i64 y.Cell)) (by decide) (by kernel_rfl) (by kernel_rfl) (run_equalIn_int w _ 3 .i64 .i64 _ _ (by kernel_rfl)) (eqF (d := d + 1) (P := Tryz.prog) (w := w) (xs := (en_Window x).toArray) (ys := (en_Window y).toArray) (f := ⟨"Epoch",3,1,false,"","",8⟩) (u := (.int .i64 x.Epoch)) (v := (.int .i64 y.Epoch)) (by decide) (by kernel_rfl) (by kernel_rfl) (run_equalIn_int w _ 3 .i64 .i64 _ _ (by kernel_rfl)) (eqF (d := d + 1) (P := Tryz.prog) (w := w) (xs := (en_Window x).toArray) (ys := (en_Window y).toArray) (f := ⟨"Version",3,2,false,"","",16⟩) (u := (.int .i64 x.Version)) (v := (.int .i64 y.Version)) (by decide) (by kernel_rfl) (by kernel_rfl) (run_equalIn_int w _ 3 .i64 .i64 _ _ (by kernel_rfl)) (eqF (d := d + 1) (P := Tryz.prog) (w := w) (xs := (en_Window x).toArray) (ys := (en_Window y).toArray) (f := ⟨"From",3,3,false,"","",24⟩) (u := (.int .i64 x.From)) (v := (.int .i64 y.From)) (by decide) (by kernel_rfl) (by kernel_rfl) (run_equalIn_int w _ 3 .i64 .i64 _ _ (by kernel_rfl)) (eqF (fs := []) (c := true) (d := d + 1) (P := Tryz.prog) (w := w) (xs := (en_Window x).toArray) (ys := (en_Window y).toArray) (f := ⟨"Until",3,4,false,"","",32⟩) (u := (.int .i64 x.Until)) (v := (.int .i64 y.Until)) (by decide) (by kernel_rfl) (by kernel_rfl) (run_equalIn_int w _ 3 .i64 .i64 _ _ (by kernel_rfl)) (by kernel_rfl))))))
  have hb : ((x.Cell == y.Cell) && ((x.Epoch == y.Epoch) && ((x.Version == y.Version) && ((x.From == y.From) && ((x.Until == y.Until) && true))))) = decide (x = y) := by
    cases x; cases y
    rw [Bool.eq_iff_iff]; simp
  rw [hb] at h
  exact h
theorem eq_Window (x y : Window) (w : World) : (Op.equalIn 10000 56 (.agg (en_Window x).toArray) (.agg (en_Window y).toArray)).run Tryz.prog w = .ok (decide (x = y)) w := eqd_Window (d := 9998) x y w
theorem eqd_TenantState {d : Nat} (x y : TenantState) (w : World) : (Op.equalIn (d + 3) 58 (.agg (en_TenantState x).toArray) (.agg (en_TenantState y).toArray)).run Tryz.prog w = .ok (decide (x = y)) w := by
  rw [run_equalIn_agg w (d + 2) _ _ _ (by kernel_rfl) (by kernel_rfl)]
  have e : (Tryz.prog.fieldsOf 58).toList = [⟨"Placed",4,0,false,"","",0⟩,⟨"Shed",4,1,false,"","",1⟩,⟨"Home",3,2,false,"","",8⟩,⟨"Standby",3,3,false,"","",16⟩,⟨"Next",3,4,false,"","",24⟩,⟨"Target",3,5,false,"","",32⟩,⟨"Epoch",3,6,false,"","",40⟩,⟨"Window",56,7,false,"","",48⟩] := by kernel_rfl
  rw [e]
  have h := (eqF (d := d + 2) (P := Tryz.prog) (w := w) (xs := (en_TenantState x).toArray) (ys := (en_TenantState y).toArray) (f := ⟨"Placed",4,0,false,"","",0⟩) (u := (.bool x.Placed)) (v := (.bool y.Placed)) (by decide) (by kernel_rfl) (by kernel_rfl) (run_equalIn_bool' w _ 4 _ _ (by kernel_rfl)) (eqF (d := d + 2) (P := Tryz.prog) (w := w) (xs := (en_TenantState x).toArray) (ys := (en_TenantState y).toArray) (f := ⟨"Shed",4,1,false,"","",1⟩) (u := (.bool x.Shed)) (v := (.bool y.Shed)) (by decide) (by kernel_rfl) (by kernel_rfl) (run_equalIn_bool' w _ 4 _ _ (by kernel_rfl)) (eqF (d := d + 2) (P := Tryz.prog) (w := w) (xs := (en_TenantState x).toArray) (ys := (en_TenantState y).toArray) (f := ⟨"Home",3,2,false,"","",8⟩) (u := (.int .i64 x.Home)) (v := (.int .i64 y.Home)) (by decide) (by kernel_rfl) (by kernel_rfl) (run_equalIn_int w _ 3 .i64 .i64 _ _ (by kernel_rfl)) (eqF (d := d + 2) (P := Tryz.prog) (w := w) (xs := (en_TenantState x).toArray) (ys := (en_TenantState y).toArray) (f := ⟨"Standby",3,3,false,"","",16⟩) (u := (.int .i64 x.Standby)) (v := (.int .i64 y.Standby)) (by decide) (by kernel_rfl) (by kernel_rfl) (run_equalIn_int w _ 3 .i64 .i64 _ _ (by kernel_rfl)) (eqF (d := d + 2) (P := Tryz.prog) (w := w) (xs := (en_TenantState x).toArray) (ys := (en_TenantState y).toArray) (f := ⟨"Next",3,4,false,"","",24⟩) (u := (.int .i64 x.Next)) (v := (.int .i64 y.Next)) (by decide) (by kernel_rfl) (by kernel_rfl) (run_equalIn_int w _ 3 .i64 .i64 _ _ (by kernel_rfl)) (eqF (d := d + 2) (P := Tryz.prog) (w := w) (xs := (en_TenantState x).toArray) (ys := (en_TenantState y).toArray) (f := ⟨"Target",3,5,false,"","",32⟩) (u := (.int .i64 x.Target)) (v := (.int .i64 y.Target)) (by decide) (by kernel_rfl) (by kernel_rfl) (run_equalIn_int w _ 3 .i64 .i64 _ _ (by kernel_rfl)) (eqF (d := d + 2) (P := Tryz.prog) (w := w) (xs := (en_TenantState x).toArray) (ys := (en_TenantState y).toArray) (f := ⟨"Epoch",3,6,false,"","",40⟩) (u := (.int .i64 x.Epoch)) (v := (.int .i64 y.Epoch)) (by decide) (by kernel_rfl) (by kernel_rfl) (run_equalIn_int w _ 3 .i64 .i64 _ _ (by kernel_rfl)) (eqF (fs := []) (c := true) (d := d + 2) (P := Tryz.prog) (w := w) (xs := (en_TenantState x).toArray) (ys := (en_TenantState y).toArray) (f := ⟨"Window",56,7,false,"","",48⟩) (u := (.agg (en_Window x.Window).toArray)) (v := (.agg (en_Window y.Window).toArray)) (by decide) (by kernel_rfl) (by kernel_rfl) (eqd_Window (d := d) x.Window y.Window w) (by kernel_rfl)))))))))
  have hb : ((x.Placed == y.Placed) && ((x.Shed == y.Shed) && ((x.Home == y.Home) && ((x.Standby == y.Standby) && ((x.Next == y.Next) && ((x.Target == y.Target) && ((x.Epoch == y.Epoch) && (decide (x.Window = y.Window) && true)))))))) = decide (x = y) := by
    cases x; cases y
    rw [Bool.eq_iff_iff]; simp
  rw [hb] at h
  exact h
theorem eq_TenantState (x y : TenantState) (w : World) : (Op.equalIn 10000 58 (.agg (en_TenantState x).toArray) (.agg (en_TenantState y).toArray)).run Tryz.prog w = .ok (decide (x = y)) w := eqd_TenantState (d := 9997) x y w
end Go.Proofs.YtcdoangbkgaapaaGreatK
