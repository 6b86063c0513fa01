/-
  No cell of these rows narrows 'for every input' (looked for: loops, veiled, ifaces, maps, wideKeys, modest, calm, conditions, laid).
  DERIVED. THE GIVEN ROWS OF THIS SEAT. 6 by the template 'for every input the law returns true; each argument reads behind the call as it read before'; 0 by the template 'total and deterministic' (their statements: YtdjkbicmkbnjdaaTotals.lean).
  GIVEN WITH THE SEED: the statements are not yours to turn. If you find one false, say at which input.
  Laid BY PROGRAM, IN A SANDBOX (cutbox-rows.mjs): the forced cells as the released guide's own fill.sh prints them over the translation fb092911670df0b4… (all of the seat's roots in one cut). By AI agents, Wed Nov 11 2026. No macro, syntax, notation, axiom, sorry.
-/
import Derived.Test.YtdjkbicmkbnjdaaChecked
import GoSem.Claim
import GoSem.ClaimJoined
import GoSem.ClaimMapViews
import Derived.JoinedTies
import Derived.KernelRfl
namespace Go.Proofs.Ytdjkbicmkbnjdaa
/- THE CELL 'sum', in the pinned program and in every row, IS THE sha256 OF THE DUMP (.gsa) THAT YtdjkbicmkbnjdaaProg.lean LOADS. Nothing in Lean hashes anything: it is a label: what it is worth is what the hold of that sum in a sandbox is worth. -/
noncomputable def Try.pinned : Pinned := { name := "ytdjkbicmkbnjdaa", sum := "fb092911670df0b452751e8a78e625d916ea9191817d030880bdcabfd33c264a", checked := Try.checked }
namespace Rows
def none {H : Type} : Left H := { results := [], args := [] }

/-- 'awardingbodylaw17.CustodyCanonical': WHATEVER THE INPUT: true; the input reads as it did. -/
def custodyCanonicalSpec : ChangeSpec := { name := "custodyCanonical", fn := fun _ => fun
  | [d] => { results := [.lit (.bool true)], args := [d] }
  | _ => none }
def custodyCanonicalRow : OpenClaim := { program := "ytdjkbicmkbnjdaa", sum := "fb092911670df0b452751e8a78e625d916ea9191817d030880bdcabfd33c264a", func := "awardingbody/awardingbodylaw17.CustodyCanonical", spec := "custodyCanonical", inPlace := ["slices.overlaps[awardingbody/api.Bag]"], unfollowed := true, recurses := true, plainKeys := false, apart := false }
def CustodyCanonicalSaid : Prop := custodyCanonicalRow.holds Try.pinned (OpenSpec.ofChange custodyCanonicalSpec)

/-- ITS FALSE NEIGHBOUR: 'it returns false'. Refute it at one input. -/
def custodyCanonicalWrong : ChangeSpec := { name := "custodyCanonical", fn := fun _ => fun
  | [d] => { results := [.lit (.bool false)], args := [d] }
  | _ => none }
def CustodyCanonicalWrongFalsely : Prop := custodyCanonicalRow.holds Try.pinned (OpenSpec.ofChange custodyCanonicalWrong)

/-- 'awardingbodylaw17.CustodyAnyOrder': WHATEVER THE INPUT: true; the input reads as it did. -/
def custodyAnyOrderSpec : ChangeSpec := { name := "custodyAnyOrder", fn := fun _ => fun
  | [d] => { results := [.lit (.bool true)], args := [d] }
  | _ => none }
def custodyAnyOrderRow : OpenClaim := { program := "ytdjkbicmkbnjdaa", sum := "fb092911670df0b452751e8a78e625d916ea9191817d030880bdcabfd33c264a", func := "awardingbody/awardingbodylaw17.CustodyAnyOrder", spec := "custodyAnyOrder", inPlace := ["slices.overlaps[awardingbody/api.Bag]"], unfollowed := true, recurses := true, plainKeys := false, apart := false }
def CustodyAnyOrderSaid : Prop := custodyAnyOrderRow.holds Try.pinned (OpenSpec.ofChange custodyAnyOrderSpec)

/-- ITS FALSE NEIGHBOUR: 'it returns false'. Refute it at one input. -/
def custodyAnyOrderWrong : ChangeSpec := { name := "custodyAnyOrder", fn := fun _ => fun
  | [d] => { results := [.lit (.bool false)], args := [d] }
  | _ => none }
def CustodyAnyOrderWrongFalsely : Prop := custodyAnyOrderRow.holds Try.pinned (OpenSpec.ofChange custodyAnyOrderWrong)

/-- 'awardingbodylaw17.CustodyHolder': WHATEVER THE INPUT: true; the input reads as it did. -/
def custodyHolderSpec : ChangeSpec := { name := "custodyHolder", fn := fun _ => fun
  | [d] => { results := [.lit (.bool true)], args := [d] }
  | _ => none }
def custodyHolderRow : OpenClaim := { program := "ytdjkbicmkbnjdaa", sum := "fb092911670df0b452751e8a78e625d916ea9191817d030880bdcabfd33c264a", func := "awardingbody/awardingbodylaw17.CustodyHolder", spec := "custodyHolder", inPlace := ["slices.overlaps[awardingbody/api.Bag]"], unfollowed := true, recurses := true, plainKeys := false, apart := false }
def CustodyHolderSaid : Prop := custodyHolderRow.holds Try.pinned (OpenSpec.ofChange custodyHolderSpec)

/-- ITS FALSE NEIGHBOUR: 'it returns false'. Refute it at one input. -/
def custodyHolderWrong : ChangeSpec := { name := "custodyHolder", fn := fun _ => fun
  | [d] => { results := [.lit (.bool false)], args := [d] }
  | _ => none }
def CustodyHolderWrongFalsely : Prop := custodyHolderRow.holds Try.pinned (OpenSpec.ofChange custodyHolderWrong)

/-- 'awardingbodylaw17.CustodyDivides': WHATEVER THE INPUT: true; the input reads as it did. -/
def custodyDividesSpec : ChangeSpec := { name := "custodyDivides", fn := fun _ => fun
  | [d] => { results := [.lit (.bool true)], args := [d] }
  | _ => none }
def custodyDividesRow : OpenClaim := { program := "ytdjkbicmkbnjdaa", sum := "fb092911670df0b452751e8a78e625d916ea9191817d030880bdcabfd33c264a", func := "awardingbody/awardingbodylaw17.CustodyDivides", spec := "custodyDivides", inPlace := ["slices.overlaps[awardingbody/api.Bag]"], unfollowed := true, recurses := true, plainKeys := false, apart := false }
def CustodyDividesSaid : Prop := custodyDividesRow.holds Try.pinned (OpenSpec.ofChange custodyDividesSpec)

/-- ITS FALSE NEIGHBOUR: 'it returns false'. Refute it at one input. -/
def custodyDividesWrong : ChangeSpec := { name := "custodyDivides", fn := fun _ => fun
  | [d] => { results := [.lit (.bool false)], args := [d] }
  | _ => none }
def CustodyDividesWrongFalsely : Prop := custodyDividesRow.holds Try.pinned (OpenSpec.ofChange custodyDividesWrong)

/-- 'awardingbodylaw17.CustodyFull': WHATEVER THE INPUT: true; the input reads as it did. -/
def custodyFullSpec : ChangeSpec := { name := "custodyFull", fn := fun _ => fun
  | [d] => { results := [.lit (.bool true)], args := [d] }
  | _ => none }
def custodyFullRow : OpenClaim := { program := "ytdjkbicmkbnjdaa", sum := "fb092911670df0b452751e8a78e625d916ea9191817d030880bdcabfd33c264a", func := "awardingbody/awardingbodylaw17.CustodyFull", spec := "custodyFull", inPlace := ["slices.overlaps[awardingbody/api.Bag]"], unfollowed := true, recurses := true, plainKeys := false, apart := false }
def CustodyFullSaid : Prop := custodyFullRow.holds Try.pinned (OpenSpec.ofChange custodyFullSpec)

/-- ITS FALSE NEIGHBOUR: 'it returns false'. Refute it at one input. -/
def custodyFullWrong : ChangeSpec := { name := "custodyFull", fn := fun _ => fun
  | [d] => { results := [.lit (.bool false)], args := [d] }
  | _ => none }
def CustodyFullWrongFalsely : Prop := custodyFullRow.holds Try.pinned (OpenSpec.ofChange custodyFullWrong)

/-- 'awardingbodylaw17.CustodyStays': WHATEVER THE INPUT: true; the input reads as it did. -/
def custodyStaysSpec : ChangeSpec := { name := "custodyStays", fn := fun _ => fun
  | [d1, d2, d3] => { results := [.lit (.bool true)], args := [d1, d2, d3] }
  | _ => none }
def custodyStaysRow : OpenClaim := { program := "ytdjkbicmkbnjdaa", sum := "fb092911670df0b452751e8a78e625d916ea9191817d030880bdcabfd33c264a", func := "awardingbody/awardingbodylaw17.CustodyStays", spec := "custodyStays", inPlace := ["slices.overlaps[awardingbody/api.Bag]"], unfollowed := true, recurses := true, plainKeys := false, apart := false }
def CustodyStaysSaid : Prop := custodyStaysRow.holds Try.pinned (OpenSpec.ofChange custodyStaysSpec)

/-- ITS FALSE NEIGHBOUR: 'it returns false'. Refute it at one input. -/
def custodyStaysWrong : ChangeSpec := { name := "custodyStays", fn := fun _ => fun
  | [d1, d2, d3] => { results := [.lit (.bool false)], args := [d1, d2, d3] }
  | _ => none }
def CustodyStaysWrongFalsely : Prop := custodyStaysRow.holds Try.pinned (OpenSpec.ofChange custodyStaysWrong)

/- THE SECOND FORM. 'bulk': how many values and letters a reading holds, each counted each time it is reached (what is shared counts as often as it is met; a slice's spare places count too). A statement '..UptoSaid' is the law's where the arguments, and the package variables that the reading takes, are together of bulk at most 1048576: NARROWER than '..Said'. Prove '..Said' where nothing that the law and all that it calls make is longer than what came in: it says more and counts as full. Else prove '..UptoSaid'. A law counts once. -/
mutual
def uptoBulk {H : Type} : DataW H → Nat
  | .lit (.string bytes) => bytes.length + 1
  | .lit _ => 1
  | .nil => 1
  | .ptr d => uptoBulk d + 1
  | .slice elems spare => uptoBulkAll elems + uptoBulkAll spare + 1
  | .agg parts => uptoBulkAll parts + 1
  | .iface _ d => uptoBulk d + 1
  | .map entries => uptoBulkEntries entries + 1
  | .held _ => 1
def uptoBulkAll {H : Type} : List (DataW H) → Nat
  | [] => 0
  | d :: r => uptoBulk d + uptoBulkAll r
def uptoBulkEntries {H : Type} : List (Lit × DataW H) → Nat
  | [] => 0
  | x :: r => uptoBulkEntry x + uptoBulkEntries r
def uptoBulkEntry {H : Type} : Lit × DataW H → Nat
  | (.string bytes, d) => bytes.length + uptoBulk d + 1
  | (_, d) => uptoBulk d + 1
 end
def uptoSmall : (H : Type) → List (DataW H) → Bool := fun _ ds => decide (uptoBulkAll ds ≤ 1048576)
def OpenSpec.upto (s : _root_.Go.ChangeSpec) : _root_.Go.OpenSpec := { _root_.Go.OpenSpec.ofChange s with cond := some uptoSmall }

/-- 'awardingbodylaw17.CustodyCanonical', WHERE WHAT IT READS IS OF BULK AT MOST 1048576: true; the input reads as it did. -/
def custodyCanonicalUptoRow : OpenClaim := { program := "ytdjkbicmkbnjdaa", sum := "fb092911670df0b452751e8a78e625d916ea9191817d030880bdcabfd33c264a", func := "awardingbody/awardingbodylaw17.CustodyCanonical", spec := "custodyCanonical", inPlace := ["slices.overlaps[awardingbody/api.Bag]"], unfollowed := true, recurses := true, plainKeys := false, apart := false, narrowed := true }
def CustodyCanonicalUptoSaid : Prop := custodyCanonicalUptoRow.holds Try.pinned (OpenSpec.upto custodyCanonicalSpec)

/-- 'awardingbodylaw17.CustodyAnyOrder', WHERE WHAT IT READS IS OF BULK AT MOST 1048576: true; the input reads as it did. -/
def custodyAnyOrderUptoRow : OpenClaim := { program := "ytdjkbicmkbnjdaa", sum := "fb092911670df0b452751e8a78e625d916ea9191817d030880bdcabfd33c264a", func := "awardingbody/awardingbodylaw17.CustodyAnyOrder", spec := "custodyAnyOrder", inPlace := ["slices.overlaps[awardingbody/api.Bag]"], unfollowed := true, recurses := true, plainKeys := false, apart := false, narrowed := true }
def CustodyAnyOrderUptoSaid : Prop := custodyAnyOrderUptoRow.holds Try.pinned (OpenSpec.upto custodyAnyOrderSpec)

/-- 'awardingbodylaw17.CustodyHolder', WHERE WHAT IT READS IS OF BULK AT MOST 1048576: true; the input reads as it did. -/
def custodyHolderUptoRow : OpenClaim := { program := "ytdjkbicmkbnjdaa", sum := "fb092911670df0b452751e8a78e625d916ea9191817d030880bdcabfd33c264a", func := "awardingbody/awardingbodylaw17.CustodyHolder", spec := "custodyHolder", inPlace := ["slices.overlaps[awardingbody/api.Bag]"], unfollowed := true, recurses := true, plainKeys := false, apart := false, narrowed := true }
def CustodyHolderUptoSaid : Prop := custodyHolderUptoRow.holds Try.pinned (OpenSpec.upto custodyHolderSpec)

/-- 'awardingbodylaw17.CustodyDivides', WHERE WHAT IT READS IS OF BULK AT MOST 1048576: true; the input reads as it did. -/
def custodyDividesUptoRow : OpenClaim := { program := "ytdjkbicmkbnjdaa", sum := "fb092911670df0b452751e8a78e625d916ea9191817d030880bdcabfd33c264a", func := "awardingbody/awardingbodylaw17.CustodyDivides", spec := "custodyDivides", inPlace := ["slices.overlaps[awardingbody/api.Bag]"], unfollowed := true, recurses := true, plainKeys := false, apart := false, narrowed := true }
def CustodyDividesUptoSaid : Prop := custodyDividesUptoRow.holds Try.pinned (OpenSpec.upto custodyDividesSpec)

/-- 'awardingbodylaw17.CustodyFull', WHERE WHAT IT READS IS OF BULK AT MOST 1048576: true; the input reads as it did. -/
def custodyFullUptoRow : OpenClaim := { program := "ytdjkbicmkbnjdaa", sum := "fb092911670df0b452751e8a78e625d916ea9191817d030880bdcabfd33c264a", func := "awardingbody/awardingbodylaw17.CustodyFull", spec := "custodyFull", inPlace := ["slices.overlaps[awardingbody/api.Bag]"], unfollowed := true, recurses := true, plainKeys := false, apart := false, narrowed := true }
def CustodyFullUptoSaid : Prop := custodyFullUptoRow.holds Try.pinned (OpenSpec.upto custodyFullSpec)

/-- 'awardingbodylaw17.CustodyStays', WHERE WHAT IT READS IS OF BULK AT MOST 1048576: true; the input reads as it did. -/
def custodyStaysUptoRow : OpenClaim := { program := "ytdjkbicmkbnjdaa", sum := "fb092911670df0b452751e8a78e625d916ea9191817d030880bdcabfd33c264a", func := "awardingbody/awardingbodylaw17.CustodyStays", spec := "custodyStays", inPlace := ["slices.overlaps[awardingbody/api.Bag]"], unfollowed := true, recurses := true, plainKeys := false, apart := false, narrowed := true }
def CustodyStaysUptoSaid : Prop := custodyStaysUptoRow.holds Try.pinned (OpenSpec.upto custodyStaysSpec)

end Rows
end Go.Proofs.Ytdjkbicmkbnjdaa
