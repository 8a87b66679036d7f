/- How values lie in memory. No condition. -/
import Derived.Test.YtjhdppioeehahaaTK
import Derived.Test.YtjhdppioeehahaaF
set_option linter.unusedVariables false
set_option maxHeartbeats 4000000
namespace Go.Proofs.YtjhdppioeehahaaK
open Go
theorem ti_30 : tt.inf 30 = some ((.agg #[(.int .i64 0), (.int .i64 0)]), 2, 16) := by kernel_rfl
theorem ti_39 : tt.inf 39 = some ((.agg #[(.int .i64 0), (.int .i64 0), (.int .i64 0), (.int .i64 0), (.int .i64 0), (.int .i64 0), (.bool false)]), 7, 56) := by kernel_rfl
theorem ti_97 : tt.inf 97 = some ((.agg #[(.int .i64 0), (.int .i64 0), (.int .i64 0), (.int .i64 0), (.int .i64 0), (.int .i64 0), (.bool false)]), 7, 56) := by kernel_rfl
theorem ti_103 : tt.inf 103 = some ((.agg #[(.int .i64 0), (.int .i64 0), (.int .i64 0)]), 3, 24) := by kernel_rfl
theorem ti_149 : tt.inf 149 = some ((.agg #[(.slice none 0 0), (.int .i64 0)]), 2, 32) := by kernel_rfl
theorem tp_30 : tt.pl 30 = some [(0, 1), (1, 1)] := by kernel_rfl
theorem tp_39 : tt.pl 39 = some [(0, 1), (1, 1), (2, 1), (3, 1), (4, 1), (5, 1), (6, 1)] := by kernel_rfl
theorem tp_97 : tt.pl 97 = some [(0, 1), (1, 1), (2, 1), (3, 1), (4, 1), (5, 1), (6, 1)] := by kernel_rfl
theorem tp_103 : tt.pl 103 = some [(0, 1), (1, 1), (2, 1)] := by kernel_rfl
theorem tp_149 : tt.pl 149 = some [(0, 1), (1, 1)] := by kernel_rfl
theorem ta_30 : tt.ag 30 = some 2 := by kernel_rfl
theorem ta_103 : tt.ag 103 = some 3 := by kernel_rfl
theorem ts_3 : tt.sc 3 = true := by kernel_rfl
theorem ts_4 : tt.sc 4 = true := by kernel_rfl
theorem ts_22 : tt.sc 22 = true := by kernel_rfl
theorem te_23 : tt.el 23 = some (30, 2) := by kernel_rfl
theorem te_100 : tt.el 100 = some (103, 3) := by kernel_rfl
def eI64 : Enc Int := ⟨fun x => [.int .i64 x], 1, fun _ => rfl, fun _ => rfl, rfl⟩
def eU64 : Enc Int := ⟨fun x => [.int .u64 x], 1, fun _ => rfl, fun _ => rfl, rfl⟩
def eU8 : Enc Int := ⟨fun x => [.int .u8 x], 1, fun _ => rfl, fun _ => rfl, rfl⟩
def eBool : Enc Bool := ⟨fun x => [.bool x], 1, fun _ => rfl, fun _ => rfl, rfl⟩
def eStr : Enc ByteArray := ⟨fun x => [.string x], 1, fun _ => rfl, fun _ => rfl, rfl⟩
def en_Arr4_Int (x : Arr4_Int) : List Value := [.int .i64 x.a0, .int .i64 x.a1, .int .i64 x.a2, .int .i64 x.a3]
def eArr4_Int : Enc Arr4_Int := ⟨en_Arr4_Int, 4, fun _ => rfl, fun _ => rfl, rfl⟩
def en_cellplanelaw31_Event (x : cellplanelaw31_Event) : List Value := [.int .i64 x.Kind, .int .i64 x.N]
def ecellplanelaw31_Event : Enc cellplanelaw31_Event := ⟨en_cellplanelaw31_Event, 2, fun _ => rfl, fun _ => rfl, rfl⟩
def en_migrate_Migration (x : migrate_Migration) : List Value := [.int .i64 x.tenant, .int .i64 x.from_, .int .i64 x.to, .int .i64 x.epoch, .int .i64 x.phase, .int .i64 x.earliest, .bool x.closed]
def emigrate_Migration : Enc migrate_Migration := ⟨en_migrate_Migration, 7, fun _ => rfl, fun _ => rfl, rfl⟩
def en_cellplaneref31_Migration (x : cellplaneref31_Migration) : List Value := [.int .i64 x.Tenant, .int .i64 x.From, .int .i64 x.To, .int .i64 x.Epoch, .int .i64 x.Phase, .int .i64 x.Earliest, .bool x.Closed]
def ecellplaneref31_Migration : Enc cellplaneref31_Migration := ⟨en_cellplaneref31_Migration, 7, fun _ => rfl, fun _ => rfl, rfl⟩
structure gcellplanemill_Tape where
  L : Option Addr × Nat
def en_cellplanemill_Tape (x : cellplanemill_Tape) (g : gcellplanemill_Tape) : List Value := [.slice g.L.1 x.L.length g.L.2, .int .i64 x.At]
def Sl_cellplanemill_Tape (S : St) (x : cellplanemill_Tape) (g : gcellplanemill_Tape) : Prop := Sl S g.L.1 x.L.length g.L.2 (fl eI64.en x.L)
theorem Sl_cellplanemill_Tape.mono {S S1 : St} {x : cellplanemill_Tape} {g : gcellplanemill_Tape} (h : Sl_cellplanemill_Tape S x g) (hl : Le S1 S) : Sl_cellplanemill_Tape S1 x g := Sl.mono h hl
def en_cellplaneref31_row (x : cellplaneref31_row) : List Value := [.int .i64 x.phase, .int .i64 x.event, .int .i64 x.next]
def ecellplaneref31_row : Enc cellplaneref31_row := ⟨en_cellplaneref31_row, 3, fun _ => rfl, fun _ => rfl, rfl⟩
end Go.Proofs.YtjhdppioeehahaaK
