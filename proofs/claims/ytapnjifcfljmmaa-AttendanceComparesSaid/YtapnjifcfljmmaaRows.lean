/-
  No cell of these rows narrows 'for every input' (looked for: loops, veiled, ifaces, maps, wideKeys, modest, calm, conditions, laid).
  DERIVED. THE GIVEN ROWS OF THIS SEAT. 8 by the template 'for every input the law returns true; each argument reads behind the call as it read before'; 0 by the template 'total and deterministic' (their statements: YtapnjifcfljmmaaTotals.lean).
  GIVEN WITH THE SEED: the statements are not yours to turn. If you find one false, say at which input.
  Laid BY PROGRAM, IN A SANDBOX (cutbox-rows.mjs): the forced cells as the released guide's own fill.sh prints them over the translation 31f114af1634c98f… (all of the seat's roots in one cut). By AI agents, Wed Nov 11 2026. No macro, syntax, notation, axiom, sorry.
-/
import Derived.Test.YtapnjifcfljmmaaChecked
import GoSem.Claim
import GoSem.ClaimJoined
import GoSem.ClaimMapViews
import Derived.JoinedTies
import Derived.KernelRfl
namespace Go.Proofs.Ytapnjifcfljmmaa
/- THE CELL 'sum', in the pinned program and in every row, IS THE sha256 OF THE DUMP (.gsa) THAT YtapnjifcfljmmaaProg.lean LOADS. Nothing in Lean hashes anything: it is a label: what it is worth is what the hold of that sum in a sandbox is worth. -/
noncomputable def Try.pinned : Pinned := { name := "ytapnjifcfljmmaa", sum := "31f114af1634c98fe402985684b2e103863a2c50e5f8a0714ffb2392eb8400d1", checked := Try.checked }
namespace Rows
def none {H : Type} : Left H := { results := [], args := [] }

/-- 'awardingbodylaw16.AttendanceCanonical': WHATEVER THE INPUT: true; the input reads as it did. -/
def attendanceCanonicalSpec : ChangeSpec := { name := "attendanceCanonical", fn := fun _ => fun
  | [d] => { results := [.lit (.bool true)], args := [d] }
  | _ => none }
def attendanceCanonicalRow : OpenClaim := { program := "ytapnjifcfljmmaa", sum := "31f114af1634c98fe402985684b2e103863a2c50e5f8a0714ffb2392eb8400d1", func := "awardingbody/awardingbodylaw16.AttendanceCanonical", spec := "attendanceCanonical", unfollowed := true, recurses := true, plainKeys := false, apart := false }
def AttendanceCanonicalSaid : Prop := attendanceCanonicalRow.holds Try.pinned (OpenSpec.ofChange attendanceCanonicalSpec)

/-- ITS FALSE NEIGHBOUR: 'it returns false'. Refute it at one input. -/
def attendanceCanonicalWrong : ChangeSpec := { name := "attendanceCanonical", fn := fun _ => fun
  | [d] => { results := [.lit (.bool false)], args := [d] }
  | _ => none }
def AttendanceCanonicalWrongFalsely : Prop := attendanceCanonicalRow.holds Try.pinned (OpenSpec.ofChange attendanceCanonicalWrong)

/-- 'awardingbodylaw16.AttendanceChecks': WHATEVER THE INPUT: true; the input reads as it did. -/
def attendanceChecksSpec : ChangeSpec := { name := "attendanceChecks", fn := fun _ => fun
  | [d1, d2] => { results := [.lit (.bool true)], args := [d1, d2] }
  | _ => none }
def attendanceChecksRow : OpenClaim := { program := "ytapnjifcfljmmaa", sum := "31f114af1634c98fe402985684b2e103863a2c50e5f8a0714ffb2392eb8400d1", func := "awardingbody/awardingbodylaw16.AttendanceChecks", spec := "attendanceChecks", unfollowed := true, recurses := true, plainKeys := false, apart := false }
def AttendanceChecksSaid : Prop := attendanceChecksRow.holds Try.pinned (OpenSpec.ofChange attendanceChecksSpec)

/-- ITS FALSE NEIGHBOUR: 'it returns false'. Refute it at one input. -/
def attendanceChecksWrong : ChangeSpec := { name := "attendanceChecks", fn := fun _ => fun
  | [d1, d2] => { results := [.lit (.bool false)], args := [d1, d2] }
  | _ => none }
def AttendanceChecksWrongFalsely : Prop := attendanceChecksRow.holds Try.pinned (OpenSpec.ofChange attendanceChecksWrong)

/-- 'awardingbodylaw16.AttendanceFolds': WHATEVER THE INPUT: true; the input reads as it did. -/
def attendanceFoldsSpec : ChangeSpec := { name := "attendanceFolds", fn := fun _ => fun
  | [d1, d2] => { results := [.lit (.bool true)], args := [d1, d2] }
  | _ => none }
def attendanceFoldsRow : OpenClaim := { program := "ytapnjifcfljmmaa", sum := "31f114af1634c98fe402985684b2e103863a2c50e5f8a0714ffb2392eb8400d1", func := "awardingbody/awardingbodylaw16.AttendanceFolds", spec := "attendanceFolds", unfollowed := true, recurses := true, plainKeys := false, apart := false }
def AttendanceFoldsSaid : Prop := attendanceFoldsRow.holds Try.pinned (OpenSpec.ofChange attendanceFoldsSpec)

/-- ITS FALSE NEIGHBOUR: 'it returns false'. Refute it at one input. -/
def attendanceFoldsWrong : ChangeSpec := { name := "attendanceFolds", fn := fun _ => fun
  | [d1, d2] => { results := [.lit (.bool false)], args := [d1, d2] }
  | _ => none }
def AttendanceFoldsWrongFalsely : Prop := attendanceFoldsRow.holds Try.pinned (OpenSpec.ofChange attendanceFoldsWrong)

/-- 'awardingbodylaw16.AttendanceIncidents': WHATEVER THE INPUT: true; the input reads as it did. -/
def attendanceIncidentsSpec : ChangeSpec := { name := "attendanceIncidents", fn := fun _ => fun
  | [d1, d2] => { results := [.lit (.bool true)], args := [d1, d2] }
  | _ => none }
def attendanceIncidentsRow : OpenClaim := { program := "ytapnjifcfljmmaa", sum := "31f114af1634c98fe402985684b2e103863a2c50e5f8a0714ffb2392eb8400d1", func := "awardingbody/awardingbodylaw16.AttendanceIncidents", spec := "attendanceIncidents", unfollowed := true, recurses := true, plainKeys := false, apart := false }
def AttendanceIncidentsSaid : Prop := attendanceIncidentsRow.holds Try.pinned (OpenSpec.ofChange attendanceIncidentsSpec)

/-- ITS FALSE NEIGHBOUR: 'it returns false'. Refute it at one input. -/
def attendanceIncidentsWrong : ChangeSpec := { name := "attendanceIncidents", fn := fun _ => fun
  | [d1, d2] => { results := [.lit (.bool false)], args := [d1, d2] }
  | _ => none }
def AttendanceIncidentsWrongFalsely : Prop := attendanceIncidentsRow.holds Try.pinned (OpenSpec.ofChange attendanceIncidentsWrong)

/-- 'awardingbodylaw16.AttendanceAnyOrder': WHATEVER THE INPUT: true; the input reads as it did. -/
def attendanceAnyOrderSpec : ChangeSpec := { name := "attendanceAnyOrder", fn := fun _ => fun
  | [d] => { results := [.lit (.bool true)], args := [d] }
  | _ => none }
def attendanceAnyOrderRow : OpenClaim := { program := "ytapnjifcfljmmaa", sum := "31f114af1634c98fe402985684b2e103863a2c50e5f8a0714ffb2392eb8400d1", func := "awardingbody/awardingbodylaw16.AttendanceAnyOrder", spec := "attendanceAnyOrder", unfollowed := true, recurses := true, plainKeys := false, apart := false }
def AttendanceAnyOrderSaid : Prop := attendanceAnyOrderRow.holds Try.pinned (OpenSpec.ofChange attendanceAnyOrderSpec)

/-- ITS FALSE NEIGHBOUR: 'it returns false'. Refute it at one input. -/
def attendanceAnyOrderWrong : ChangeSpec := { name := "attendanceAnyOrder", fn := fun _ => fun
  | [d] => { results := [.lit (.bool false)], args := [d] }
  | _ => none }
def AttendanceAnyOrderWrongFalsely : Prop := attendanceAnyOrderRow.holds Try.pinned (OpenSpec.ofChange attendanceAnyOrderWrong)

/-- 'awardingbodylaw16.AttendanceLast': WHATEVER THE INPUT: true; the input reads as it did. -/
def attendanceLastSpec : ChangeSpec := { name := "attendanceLast", fn := fun _ => fun
  | [d] => { results := [.lit (.bool true)], args := [d] }
  | _ => none }
def attendanceLastRow : OpenClaim := { program := "ytapnjifcfljmmaa", sum := "31f114af1634c98fe402985684b2e103863a2c50e5f8a0714ffb2392eb8400d1", func := "awardingbody/awardingbodylaw16.AttendanceLast", spec := "attendanceLast", unfollowed := true, recurses := true, plainKeys := false, apart := false }
def AttendanceLastSaid : Prop := attendanceLastRow.holds Try.pinned (OpenSpec.ofChange attendanceLastSpec)

/-- ITS FALSE NEIGHBOUR: 'it returns false'. Refute it at one input. -/
def attendanceLastWrong : ChangeSpec := { name := "attendanceLast", fn := fun _ => fun
  | [d] => { results := [.lit (.bool false)], args := [d] }
  | _ => none }
def AttendanceLastWrongFalsely : Prop := attendanceLastRow.holds Try.pinned (OpenSpec.ofChange attendanceLastWrong)

/-- 'awardingbodylaw16.AttendanceOwn': WHATEVER THE INPUT: true; the input reads as it did. -/
def attendanceOwnSpec : ChangeSpec := { name := "attendanceOwn", fn := fun _ => fun
  | [d1, d2] => { results := [.lit (.bool true)], args := [d1, d2] }
  | _ => none }
def attendanceOwnRow : OpenClaim := { program := "ytapnjifcfljmmaa", sum := "31f114af1634c98fe402985684b2e103863a2c50e5f8a0714ffb2392eb8400d1", func := "awardingbody/awardingbodylaw16.AttendanceOwn", spec := "attendanceOwn", unfollowed := true, recurses := true, plainKeys := false, apart := false }
def AttendanceOwnSaid : Prop := attendanceOwnRow.holds Try.pinned (OpenSpec.ofChange attendanceOwnSpec)

/-- ITS FALSE NEIGHBOUR: 'it returns false'. Refute it at one input. -/
def attendanceOwnWrong : ChangeSpec := { name := "attendanceOwn", fn := fun _ => fun
  | [d1, d2] => { results := [.lit (.bool false)], args := [d1, d2] }
  | _ => none }
def AttendanceOwnWrongFalsely : Prop := attendanceOwnRow.holds Try.pinned (OpenSpec.ofChange attendanceOwnWrong)

/-- 'awardingbodylaw16.AttendanceCompares': WHATEVER THE INPUT: true; the input reads as it did. -/
def attendanceComparesSpec : ChangeSpec := { name := "attendanceCompares", fn := fun _ => fun
  | [d1, d2, d3] => { results := [.lit (.bool true)], args := [d1, d2, d3] }
  | _ => none }
def attendanceComparesRow : OpenClaim := { program := "ytapnjifcfljmmaa", sum := "31f114af1634c98fe402985684b2e103863a2c50e5f8a0714ffb2392eb8400d1", func := "awardingbody/awardingbodylaw16.AttendanceCompares", spec := "attendanceCompares", unfollowed := true, recurses := true, plainKeys := false, apart := false }
def AttendanceComparesSaid : Prop := attendanceComparesRow.holds Try.pinned (OpenSpec.ofChange attendanceComparesSpec)

/-- ITS FALSE NEIGHBOUR: 'it returns false'. Refute it at one input. -/
def attendanceComparesWrong : ChangeSpec := { name := "attendanceCompares", fn := fun _ => fun
  | [d1, d2, d3] => { results := [.lit (.bool false)], args := [d1, d2, d3] }
  | _ => none }
def AttendanceComparesWrongFalsely : Prop := attendanceComparesRow.holds Try.pinned (OpenSpec.ofChange attendanceComparesWrong)

/- THE SECOND FORM. 'bulk': how many values and letters a reading holds, each counted each time it is reached (what is shared counts as often as it is met; a slice's spare places count too). A statement '..UptoSaid' is the law's where the arguments, and the package variables that the reading takes, are together of bulk at most 1048576: NARROWER than '..Said'. Prove '..Said' where nothing that the law and all that it calls make is longer than what came in: it says more and counts as full. Else prove '..UptoSaid'. A law counts once. -/
mutual
def uptoBulk {H : Type} : DataW H → Nat
  | .lit (.string bytes) => bytes.length + 1
  | .lit _ => 1
  | .nil => 1
  | .ptr d => uptoBulk d + 1
  | .slice elems spare => uptoBulkAll elems + uptoBulkAll spare + 1
  | .agg parts => uptoBulkAll parts + 1
  | .iface _ d => uptoBulk d + 1
  | .map entries => uptoBulkEntries entries + 1
  | .held _ => 1
def uptoBulkAll {H : Type} : List (DataW H) → Nat
  | [] => 0
  | d :: r => uptoBulk d + uptoBulkAll r
def uptoBulkEntries {H : Type} : List (Lit × DataW H) → Nat
  | [] => 0
  | x :: r => uptoBulkEntry x + uptoBulkEntries r
def uptoBulkEntry {H : Type} : Lit × DataW H → Nat
  | (.string bytes, d) => bytes.length + uptoBulk d + 1
  | (_, d) => uptoBulk d + 1
 end
def uptoSmall : (H : Type) → List (DataW H) → Bool := fun _ ds => decide (uptoBulkAll ds ≤ 1048576)
def OpenSpec.upto (s : _root_.Go.ChangeSpec) : _root_.Go.OpenSpec := { _root_.Go.OpenSpec.ofChange s with cond := some uptoSmall }

/-- 'awardingbodylaw16.AttendanceCanonical', WHERE WHAT IT READS IS OF BULK AT MOST 1048576: true; the input reads as it did. -/
def attendanceCanonicalUptoRow : OpenClaim := { program := "ytapnjifcfljmmaa", sum := "31f114af1634c98fe402985684b2e103863a2c50e5f8a0714ffb2392eb8400d1", func := "awardingbody/awardingbodylaw16.AttendanceCanonical", spec := "attendanceCanonical", unfollowed := true, recurses := true, plainKeys := false, apart := false, narrowed := true }
def AttendanceCanonicalUptoSaid : Prop := attendanceCanonicalUptoRow.holds Try.pinned (OpenSpec.upto attendanceCanonicalSpec)

/-- 'awardingbodylaw16.AttendanceChecks', WHERE WHAT IT READS IS OF BULK AT MOST 1048576: true; the input reads as it did. -/
def attendanceChecksUptoRow : OpenClaim := { program := "ytapnjifcfljmmaa", sum := "31f114af1634c98fe402985684b2e103863a2c50e5f8a0714ffb2392eb8400d1", func := "awardingbody/awardingbodylaw16.AttendanceChecks", spec := "attendanceChecks", unfollowed := true, recurses := true, plainKeys := false, apart := false, narrowed := true }
def AttendanceChecksUptoSaid : Prop := attendanceChecksUptoRow.holds Try.pinned (OpenSpec.upto attendanceChecksSpec)

/-- 'awardingbodylaw16.AttendanceFolds', WHERE WHAT IT READS IS OF BULK AT MOST 1048576: true; the input reads as it did. -/
def attendanceFoldsUptoRow : OpenClaim := { program := "ytapnjifcfljmmaa", sum := "31f114af1634c98fe402985684b2e103863a2c50e5f8a0714ffb2392eb8400d1", func := "awardingbody/awardingbodylaw16.AttendanceFolds", spec := "attendanceFolds", unfollowed := true, recurses := true, plainKeys := false, apart := false, narrowed := true }
def AttendanceFoldsUptoSaid : Prop := attendanceFoldsUptoRow.holds Try.pinned (OpenSpec.upto attendanceFoldsSpec)

/-- 'awardingbodylaw16.AttendanceIncidents', WHERE WHAT IT READS IS OF BULK AT MOST 1048576: true; the input reads as it did. -/
def attendanceIncidentsUptoRow : OpenClaim := { program := "ytapnjifcfljmmaa", sum := "31f114af1634c98fe402985684b2e103863a2c50e5f8a0714ffb2392eb8400d1", func := "awardingbody/awardingbodylaw16.AttendanceIncidents", spec := "attendanceIncidents", unfollowed := true, recurses := true, plainKeys := false, apart := false, narrowed := true }
def AttendanceIncidentsUptoSaid : Prop := attendanceIncidentsUptoRow.holds Try.pinned (OpenSpec.upto attendanceIncidentsSpec)

/-- 'awardingbodylaw16.AttendanceAnyOrder', WHERE WHAT IT READS IS OF BULK AT MOST 1048576: true; the input reads as it did. -/
def attendanceAnyOrderUptoRow : OpenClaim := { program := "ytapnjifcfljmmaa", sum := "31f114af1634c98fe402985684b2e103863a2c50e5f8a0714ffb2392eb8400d1", func := "awardingbody/awardingbodylaw16.AttendanceAnyOrder", spec := "attendanceAnyOrder", unfollowed := true, recurses := true, plainKeys := false, apart := false, narrowed := true }
def AttendanceAnyOrderUptoSaid : Prop := attendanceAnyOrderUptoRow.holds Try.pinned (OpenSpec.upto attendanceAnyOrderSpec)

/-- 'awardingbodylaw16.AttendanceLast', WHERE WHAT IT READS IS OF BULK AT MOST 1048576: true; the input reads as it did. -/
def attendanceLastUptoRow : OpenClaim := { program := "ytapnjifcfljmmaa", sum := "31f114af1634c98fe402985684b2e103863a2c50e5f8a0714ffb2392eb8400d1", func := "awardingbody/awardingbodylaw16.AttendanceLast", spec := "attendanceLast", unfollowed := true, recurses := true, plainKeys := false, apart := false, narrowed := true }
def AttendanceLastUptoSaid : Prop := attendanceLastUptoRow.holds Try.pinned (OpenSpec.upto attendanceLastSpec)

/-- 'awardingbodylaw16.AttendanceOwn', WHERE WHAT IT READS IS OF BULK AT MOST 1048576: true; the input reads as it did. -/
def attendanceOwnUptoRow : OpenClaim := { program := "ytapnjifcfljmmaa", sum := "31f114af1634c98fe402985684b2e103863a2c50e5f8a0714ffb2392eb8400d1", func := "awardingbody/awardingbodylaw16.AttendanceOwn", spec := "attendanceOwn", unfollowed := true, recurses := true, plainKeys := false, apart := false, narrowed := true }
def AttendanceOwnUptoSaid : Prop := attendanceOwnUptoRow.holds Try.pinned (OpenSpec.upto attendanceOwnSpec)

/-- 'awardingbodylaw16.AttendanceCompares', WHERE WHAT IT READS IS OF BULK AT MOST 1048576: true; the input reads as it did. -/
def attendanceComparesUptoRow : OpenClaim := { program := "ytapnjifcfljmmaa", sum := "31f114af1634c98fe402985684b2e103863a2c50e5f8a0714ffb2392eb8400d1", func := "awardingbody/awardingbodylaw16.AttendanceCompares", spec := "attendanceCompares", unfollowed := true, recurses := true, plainKeys := false, apart := false, narrowed := true }
def AttendanceComparesUptoSaid : Prop := attendanceComparesUptoRow.holds Try.pinned (OpenSpec.upto attendanceComparesSpec)

end Rows
end Go.Proofs.Ytapnjifcfljmmaa
