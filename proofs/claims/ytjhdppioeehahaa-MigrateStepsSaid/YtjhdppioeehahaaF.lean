/- What the functions compute. No condition. -/
import Derived.Test.YtjhdppioeehahaaQ
set_option linter.unusedVariables false
set_option maxHeartbeats 4000000
namespace Go.Proofs.YtjhdppioeehahaaK
open Go
structure Arr4_Int where
  a0 : Int
  a1 : Int
  a2 : Int
  a3 : Int
deriving DecidableEq
structure cellplanelaw31_Event where
  Kind : Int
  N : Int
deriving DecidableEq
structure migrate_Migration where
  tenant : Int
  from_ : Int
  to : Int
  epoch : Int
  phase : Int
  earliest : Int
  closed : Bool
deriving DecidableEq
structure cellplaneref31_Migration where
  Tenant : Int
  From : Int
  To : Int
  Epoch : Int
  Phase : Int
  Earliest : Int
  Closed : Bool
deriving DecidableEq
structure cellplanemill_Tape where
  L : List Int
  At : Int
deriving DecidableEq
structure cellplaneref31_row where
  phase : Int
  event : Int
  next : Int
deriving DecidableEq
def migrate_New (tenant0 : Int) (from1 : Int) (to2 : Int) (epoch3 : Int) : migrate_Migration := (⟨tenant0, from1, to2, epoch3, 1, 0, false⟩ : migrate_Migration)
noncomputable def migrate_Migration_after (m0 : migrate_Migration) (event1 : Int) (n2 : Int) : Option Int := if ((decide (event1 = 8)) && ((!decide (m0.phase = 6)) && (!decide (m0.phase = 10)))) = true then some 10 else (if (decide (m0.phase = 1)) = true then some true else some (decide (m0.phase = 2))).bind fun x5 => if x5 = true then if ((decide (event1 = 1)) && (decide (8 < n2))) = true then some 1 else if ((decide (event1 = 1)) && (decide (0 ≤ n2))) = true then some 2 else if ((decide (event1 = 2)) && (decide (m0.phase = 2))) = true then some 3 else if (decide (event1 = 5)) = true then some 7 else some 0 else (if (decide (m0.phase = 3)) = true then some true else if (decide (m0.phase = 4)) = true then some true else some (decide (m0.phase = 5))).bind fun x18 => if x18 = true then if (decide (event1 = 5)) = true then some 8 else if ((decide (event1 = 1)) && ((decide (m0.phase = 3)) && (decide (0 < n2)))) = true then some 3 else if ((decide (event1 = 1)) && ((decide (m0.phase = 3)) && (decide (n2 = 0)))) = true then some 4 else if ((decide (event1 = 3)) && ((decide (m0.phase = 4)) && ((decide (0 ≤ n2)) && (decide (n2 ≤ 1073741824))))) = true then some 5 else if ((decide (event1 = 4)) && (decide (m0.phase = 5))) = true then some 6 else some 0 else if (decide (m0.phase = 7)) = true then if (decide (event1 = 6)) = true then some 10 else some 0 else if (decide (m0.phase = 8)) = true then if (decide (event1 = 6)) = true then some 9 else some 0 else if (decide (m0.phase = 9)) = true then if (decide (event1 = 7)) = true then some 10 else some 0 else some 0
noncomputable def migrate_Migration_Step (m0 : migrate_Migration) (event1 : Int) (n2 : Int) : Option (Bool × Int × Int × Bool) := (migrate_Migration_after m0 event1 n2).bind fun x2 => if (decide (x2 = 0)) = true then some (false, m0.phase, m0.earliest, m0.closed) else if (decide (event1 = 2)) = true then some (true, x2, m0.earliest, true) else if (decide (event1 = 3)) = true then some (true, x2, w64 (n2 + 1), m0.closed) else some (true, x2, m0.earliest, m0.closed)
def migrate_Migration_Phase (m0 : migrate_Migration) : Int := m0.phase
noncomputable def migrate_Migration_Task (m0 : migrate_Migration) : Option Int := (if (decide (m0.phase = 1)) = true then some true else some (decide (m0.phase = 3))).bind fun x2 => if x2 = true then some 1 else if (decide (m0.phase = 2)) = true then some 2 else if (decide (m0.phase = 4)) = true then some 3 else if (decide (m0.phase = 5)) = true then some 4 else (if (decide (m0.phase = 7)) = true then some true else some (decide (m0.phase = 8))).bind fun x10 => if x10 = true then some 5 else if (decide (m0.phase = 9)) = true then some 6 else some 0
def migrate_Migration_Closed (m0 : migrate_Migration) : Bool := m0.closed
noncomputable def cellplanelaw31_awake  : Option Bool := (migrate_Migration_Step (migrate_New 0 1 2 3) 1 20).bind fun (x3, x4, x5, x6) => (migrate_Migration_Step ({ (migrate_New 0 1 2 3) with phase := x4, earliest := x5, closed := x6 }) 1 3).bind fun (x8, x9, x10, x11) => (if (decide ((migrate_Migration_Phase ({ (migrate_New 0 1 2 3) with phase := x9, earliest := x10, closed := x11 })) = 2)) = true then (migrate_Migration_Task ({ (migrate_New 0 1 2 3) with phase := x9, earliest := x10, closed := x11 })).bind fun x14 => if (decide (x14 = 2)) = true then some (!(migrate_Migration_Closed ({ (migrate_New 0 1 2 3) with phase := x9, earliest := x10, closed := x11 }))) else some false else some false).bind fun x16 => (migrate_Migration_Step ({ (migrate_New 0 1 2 3) with phase := x9, earliest := x10, closed := x11 }) 2 0).bind fun (x20, x21, x22, x23) => (migrate_Migration_Step ({ (migrate_New 0 1 2 3) with phase := x21, earliest := x22, closed := x23 }) 5 0).bind fun (x25, x26, x27, x28) => (if (decide ((migrate_Migration_Phase ({ (migrate_New 0 1 2 3) with phase := x26, earliest := x27, closed := x28 })) = 8)) = true then (migrate_Migration_Task ({ (migrate_New 0 1 2 3) with phase := x26, earliest := x27, closed := x28 })).bind fun x31 => if (decide (x31 = 5)) = true then some (migrate_Migration_Closed ({ (migrate_New 0 1 2 3) with phase := x26, earliest := x27, closed := x28 })) else some false else some false).bind fun x33 => (if x3 = true then if x8 = true then if x16 = true then if x20 = true then if x25 = true then if x33 = true then (migrate_Migration_Step ({ (migrate_New 0 1 2 3) with phase := x26, earliest := x27, closed := x28 }) 6 0).bind fun (x43, x44, x45, x46) => if x43 = true then (migrate_Migration_Task ({ (migrate_New 0 1 2 3) with phase := x44, earliest := x45, closed := x46 })).bind fun x49 => some (decide (x49 = 6)) else some false else some false else some false else some false else some false else some false else some false).bind fun x50 => some x50
def cellplanemill_Light (l0 : (List Int)) : Bool := decide ((l0.length : Int) ≤ 150)
def cellplaneref31_New (tenant0 : Int) (from1 : Int) (to2 : Int) (epoch3 : Int) : cellplaneref31_Migration := (⟨tenant0, from1, to2, epoch3, 1, 0, false⟩ : cellplaneref31_Migration)
def cellplanemill_New (l0 : (List Int)) : cellplanemill_Tape := (⟨l0, 0⟩ : cellplanemill_Tape)
def cellplanemill_Tape_More (t0 : cellplanemill_Tape) : Bool := decide (t0.At < (t0.L.length : Int))
noncomputable def cellplanemill_Mod (v0 : Int) (n1 : Int) : Option Int := if n1 ≠ 0 then if (decide (Int.tmod v0 n1 < 0)) = true then some (w64 ((Int.tmod v0 n1) + n1)) else some (Int.tmod v0 n1) else none
noncomputable def cellplanemill_Tape_Next (t0 : cellplanemill_Tape) (n1 : Int) : Option (Int × Int) := if (decide ((t0.L.length : Int) ≤ t0.At)) = true then some (0, t0.At) else (idx t0.L (w64 ((w64 (t0.At + 1)) - 1))).bind fun x2 => (cellplanemill_Mod x2 n1).bind fun x5 => some (x5, w64 (t0.At + 1))
noncomputable def cellplanemill_Tape_Range (t0 : cellplanemill_Tape) (low1 : Int) (high2 : Int) : Option (Int × Int) := (cellplanemill_Tape_Next t0 (w64 ((w64 (high2 - low1)) + 1))).bind fun (x2, x3) => some (w64 (low1 + x2), x3)
noncomputable def cellplanelaw31_made.b1 (l0 : (List Int)) : ((List cellplanelaw31_Event) × Int) → Option (((List cellplanelaw31_Event) × Int) ⊕ (List cellplanelaw31_Event)) := fun (xs97, at101) => (if (cellplanemill_Tape_More ({ (cellplanemill_New l0) with At := at101 })) = true then some (decide ((xs97.length : Int) < 60)) else some false).bind fun x103 => if x103 = true then (cellplanemill_Tape_Range ({ (cellplanemill_New l0) with At := at101 }) 1 8).bind fun (x108, x109) => (cellplanemill_Tape_Next ({ (cellplanemill_New l0) with At := x109 }) 12).bind fun (x111, x112) => (((cellplanemill_Tape_Next ({ (cellplanemill_New l0) with At := x112 }) 3).bind fun (x115, x116) => if (decide (0 < x115)) = true then some (decide (5 ≤ x108), x116) else some (false, x116)).bind fun (x118, at119) => if x118 = true then (cellplanemill_Tape_Range ({ (cellplanemill_New l0) with At := at119 }) 1 4).bind fun (x124, x125) => some (x125, x124) else some (at119, x108)).bind fun (at126, kin127) => ((cellplanemill_Tape_Next ({ (cellplanemill_New l0) with At := at126 }) 2).bind fun (x131, x132) => if (decide (x131 = 0)) = true then some (x132, 0) else some (x132, x111)).bind fun (at134, n135) => (app xs97 [(⟨kin127, n135⟩ : cellplanelaw31_Event)]).bind fun xs139 => some (.inl (xs139, at134)) else (some xs97).map Sum.inr
noncomputable def cellplanelaw31_made (l0 : (List Int)) : Option (List cellplanelaw31_Event) := loop (cellplanelaw31_made.b1 l0) ([], (cellplanemill_New l0).At)
def cellplaneref31_progress (phase0 : Int) (n1 : Int) : Int := if (decide (n1 < 0)) = true then 0 else if ((decide (phase0 = 1)) || (decide (phase0 = 2))) = true then if (decide (n1 ≤ 8)) = true then 2 else 1 else if ((decide (phase0 = 3)) && (decide (n1 = 0))) = true then 4 else if (decide (phase0 = 3)) = true then 3 else 0
def cellplaneref31_table  : (List cellplaneref31_row) := [(⟨2, 2, 3⟩ : cellplaneref31_row), (⟨5, 4, 6⟩ : cellplaneref31_row), (⟨1, 5, 7⟩ : cellplaneref31_row), (⟨2, 5, 7⟩ : cellplaneref31_row), (⟨3, 5, 8⟩ : cellplaneref31_row), (⟨4, 5, 8⟩ : cellplaneref31_row), (⟨5, 5, 8⟩ : cellplaneref31_row), (⟨7, 6, 10⟩ : cellplaneref31_row), (⟨8, 6, 9⟩ : cellplaneref31_row), (⟨9, 7, 10⟩ : cellplaneref31_row)]
noncomputable def cellplaneref31_After.b1 (phase0 : Int) (event1 : Int) : Int → Option (Int ⊕ Int) := fun x26 => if (decide (x26 < (cellplaneref31_table.length : Int))) = true then (idx cellplaneref31_table x26).bind fun x28 => if ((decide (x28.phase = phase0)) && (decide (x28.event = event1))) = true then (some x28.next).map Sum.inr else some (.inl (w64 (x26 + 1))) else (some 0).map Sum.inr
noncomputable def cellplaneref31_After (phase0 : Int) (event1 : Int) (n2 : Int) : Option Int := if (decide (event1 = 1)) = true then some (cellplaneref31_progress phase0 n2) else if ((decide (event1 = 3)) && ((decide (phase0 = 4)) && ((decide (0 ≤ n2)) && (decide (n2 ≤ 1073741824))))) = true then some 5 else if ((decide (event1 = 8)) && ((!decide (phase0 = 6)) && (!decide (phase0 = 10)))) = true then some 10 else loop (cellplaneref31_After.b1 phase0 event1) 0
noncomputable def cellplaneref31_Migration_Step (m0 : cellplaneref31_Migration) (event1 : Int) (n2 : Int) : Option (Bool × Int × Int × Bool) := (cellplaneref31_After m0.Phase event1 n2).bind fun x2 => if (decide (x2 = 0)) = true then some (false, m0.Phase, m0.Earliest, m0.Closed) else (if (decide (event1 = 2)) = true then some true else some m0.Closed).bind fun clo5 => if (decide (event1 = 3)) = true then some (true, x2, w64 (n2 + 1), clo5) else some (true, x2, m0.Earliest, clo5)
noncomputable def cellplaneref31_Task (phase0 : Int) : Option Int := (if (decide (phase0 = 1)) = true then some true else some (decide (phase0 = 3))).bind fun x2 => if x2 = true then some 1 else if (decide (phase0 = 2)) = true then some 2 else if (decide (phase0 = 4)) = true then some 3 else if (decide (phase0 = 5)) = true then some 4 else (if (decide (phase0 = 7)) = true then some true else some (decide (phase0 = 8))).bind fun x10 => if x10 = true then some 5 else if (decide (phase0 = 9)) = true then some 6 else some 0
def migrate_Migration_Earliest (m0 : migrate_Migration) : Int := m0.earliest
def migrate_Migration_Tenant (m0 : migrate_Migration) : Int := m0.tenant
def migrate_Migration_From (m0 : migrate_Migration) : Int := m0.from_
def migrate_Migration_To (m0 : migrate_Migration) : Int := m0.to
noncomputable def cellplanelaw31_MigrateSteps.j1 (who0 : Arr4_Int) (y191 : migrate_Migration) : Option Bool := some ((decide ((migrate_Migration_Tenant y191) = who0.a0)) && ((decide ((migrate_Migration_From y191) = who0.a1)) && (decide ((migrate_Migration_To y191) = who0.a2))))
noncomputable def cellplanelaw31_MigrateSteps.b2 (who0 : Arr4_Int) (xs20 : (List cellplanelaw31_Event)) : (Int × migrate_Migration × cellplaneref31_Migration) → Option ((Int × migrate_Migration × cellplaneref31_Migration) ⊕ Bool) := fun (x133, y134, y135) => if (decide (x133 < (xs20.length : Int))) = true then (idx xs20 x133).bind fun x137 => ((migrate_Migration_Step y134 x137.Kind x137.N).bind fun (x141, x142, x143, x144) => (cellplaneref31_Migration_Step y135 x137.Kind x137.N).bind fun (x146, x147, x148, x149) => if (!(x141 == x146)) = true then some (true, { y134 with phase := x142, earliest := x143, closed := x144 }, { y135 with Phase := x147, Earliest := x148, Closed := x149 }) else if (!decide ((migrate_Migration_Phase ({ y134 with phase := x142, earliest := x143, closed := x144 })) = x147)) = true then some (true, { y134 with phase := x142, earliest := x143, closed := x144 }, { y135 with Phase := x147, Earliest := x148, Closed := x149 }) else (migrate_Migration_Task ({ y134 with phase := x142, earliest := x143, closed := x144 })).bind fun x153 => (cellplaneref31_Task x147).bind fun x155 => if (!decide (x153 = x155)) = true then some (true, { y134 with phase := x142, earliest := x143, closed := x144 }, { y135 with Phase := x147, Earliest := x148, Closed := x149 }) else if (!((migrate_Migration_Closed ({ y134 with phase := x142, earliest := x143, closed := x144 })) == x149)) = true then some (true, { y134 with phase := x142, earliest := x143, closed := x144 }, { y135 with Phase := x147, Earliest := x148, Closed := x149 }) else some (!decide ((migrate_Migration_Earliest ({ y134 with phase := x142, earliest := x143, closed := x144 })) = x148), { y134 with phase := x142, earliest := x143, closed := x144 }, { y135 with Phase := x147, Earliest := x148, Closed := x149 })).bind fun (x181, y182, y183) => if x181 = true then (some false).map Sum.inr else some (.inl (w64 (x133 + 1), y182, y183)) else (cellplanelaw31_MigrateSteps.j1 who0 y134).map Sum.inr
noncomputable def cellplanelaw31_MigrateSteps (who0 : Arr4_Int) (l1 : (List Int)) (raw2 : (List cellplanelaw31_Event)) : Option Bool := (cellplanelaw31_awake).bind fun x3 => if (!x3) = true then some false else if ((!(cellplanemill_Light l1)) || (decide (60 < (raw2.length : Int)))) = true then some true else (cellplanelaw31_made l1).bind fun xs11 => (app [(⟨0, 0⟩ : cellplanelaw31_Event)] xs11).bind fun xs15 => (app xs15 raw2).bind fun xs20 => loop (cellplanelaw31_MigrateSteps.b2 who0 xs20) (0, (migrate_New who0.a0 who0.a1 who0.a2 who0.a3), (cellplaneref31_New who0.a0 who0.a1 who0.a2 who0.a3))
end Go.Proofs.YtjhdppioeehahaaK
