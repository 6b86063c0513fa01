/-
  No cell of these rows narrows 'for every input' (looked for: loops, veiled, ifaces, maps, wideKeys, modest, calm, conditions, laid).
  DERIVED. THE GIVEN ROWS OF THIS SEAT. 4 by the template 'for every input the law returns true; each argument reads behind the call as it read before'; 0 by the template 'total and deterministic' (their statements: YtdjkbicmkbnjdaaGreatTotals.lean).
  GIVEN WITH THE SEED: the statements are not yours to turn. If you find one false, say at which input.
  Laid BY PROGRAM, IN A SANDBOX (cutbox-rows.mjs): the forced cells as the released guide's own fill.sh prints them over the translation 287400adbba0c104… (all of the seat's roots in one cut). By AI agents, Wed Nov 11 2026. No macro, syntax, notation, axiom, sorry.
-/
import Derived.Test.YtdjkbicmkbnjdaaGreatChecked
import GoSem.Claim
import GoSem.ClaimJoined
import GoSem.ClaimMapViews
import Derived.JoinedTies
import Derived.KernelRfl
namespace Go.Proofs.YtdjkbicmkbnjdaaGreat
/- THE CELL 'sum', in the pinned program and in every row, IS THE sha256 OF THE DUMP (.gsa) THAT YtdjkbicmkbnjdaaGreatProg.lean LOADS. Nothing in Lean hashes anything: it is a label: what it is worth is what the hold of that sum in a sandbox is worth. -/
noncomputable def Tryz.pinned : Pinned := { name := "ytdjkbicmkbnjdaagreat", sum := "287400adbba0c1047d0a906fcd55d30dc0204306f3fbdb5f27b58e0050e0d733", checked := Tryz.checked }
namespace Rows
def none {H : Type} : Left H := { results := [], args := [] }

/-- 'awardingbodylaw17.CustodyFolds': WHATEVER THE INPUT: true; the input reads as it did. -/
def custodyFoldsSpec : ChangeSpec := { name := "custodyFolds", fn := fun _ => fun
  | [d1, d2] => { results := [.lit (.bool true)], args := [d1, d2] }
  | _ => none }
def custodyFoldsRow : OpenClaim := { program := "ytdjkbicmkbnjdaagreat", sum := "287400adbba0c1047d0a906fcd55d30dc0204306f3fbdb5f27b58e0050e0d733", func := "awardingbody/awardingbodylaw17.CustodyFolds", spec := "custodyFolds", inPlace := ["slices.overlaps[awardingbody/api.Bag]"], unfollowed := true, recurses := true, plainKeys := false, apart := false }
def CustodyFoldsSaid : Prop := custodyFoldsRow.holds Tryz.pinned (OpenSpec.ofChange custodyFoldsSpec)

/-- ITS FALSE NEIGHBOUR: 'it returns false'. Refute it at one input. -/
def custodyFoldsWrong : ChangeSpec := { name := "custodyFolds", fn := fun _ => fun
  | [d1, d2] => { results := [.lit (.bool false)], args := [d1, d2] }
  | _ => none }
def CustodyFoldsWrongFalsely : Prop := custodyFoldsRow.holds Tryz.pinned (OpenSpec.ofChange custodyFoldsWrong)

/-- 'awardingbodylaw17.CustodyAccounts': WHATEVER THE INPUT: true; the input reads as it did. -/
def custodyAccountsSpec : ChangeSpec := { name := "custodyAccounts", fn := fun _ => fun
  | [d1, d2, d3] => { results := [.lit (.bool true)], args := [d1, d2, d3] }
  | _ => none }
def custodyAccountsRow : OpenClaim := { program := "ytdjkbicmkbnjdaagreat", sum := "287400adbba0c1047d0a906fcd55d30dc0204306f3fbdb5f27b58e0050e0d733", func := "awardingbody/awardingbodylaw17.CustodyAccounts", spec := "custodyAccounts", inPlace := ["slices.overlaps[awardingbody/api.Bag]"], unfollowed := true, recurses := true, plainKeys := false, apart := false }
def CustodyAccountsSaid : Prop := custodyAccountsRow.holds Tryz.pinned (OpenSpec.ofChange custodyAccountsSpec)

/-- ITS FALSE NEIGHBOUR: 'it returns false'. Refute it at one input. -/
def custodyAccountsWrong : ChangeSpec := { name := "custodyAccounts", fn := fun _ => fun
  | [d1, d2, d3] => { results := [.lit (.bool false)], args := [d1, d2, d3] }
  | _ => none }
def CustodyAccountsWrongFalsely : Prop := custodyAccountsRow.holds Tryz.pinned (OpenSpec.ofChange custodyAccountsWrong)

/-- 'awardingbodylaw17.CustodyChecks': WHATEVER THE INPUT: true; the input reads as it did. -/
def custodyChecksSpec : ChangeSpec := { name := "custodyChecks", fn := fun _ => fun
  | [d1, d2] => { results := [.lit (.bool true)], args := [d1, d2] }
  | _ => none }
def custodyChecksRow : OpenClaim := { program := "ytdjkbicmkbnjdaagreat", sum := "287400adbba0c1047d0a906fcd55d30dc0204306f3fbdb5f27b58e0050e0d733", func := "awardingbody/awardingbodylaw17.CustodyChecks", spec := "custodyChecks", inPlace := ["slices.overlaps[awardingbody/api.Bag]"], unfollowed := true, recurses := true, plainKeys := false, apart := false }
def CustodyChecksSaid : Prop := custodyChecksRow.holds Tryz.pinned (OpenSpec.ofChange custodyChecksSpec)

/-- ITS FALSE NEIGHBOUR: 'it returns false'. Refute it at one input. -/
def custodyChecksWrong : ChangeSpec := { name := "custodyChecks", fn := fun _ => fun
  | [d1, d2] => { results := [.lit (.bool false)], args := [d1, d2] }
  | _ => none }
def CustodyChecksWrongFalsely : Prop := custodyChecksRow.holds Tryz.pinned (OpenSpec.ofChange custodyChecksWrong)

/-- 'awardingbodylaw17.CustodyApplies': WHATEVER THE INPUT: true; the input reads as it did. -/
def custodyAppliesSpec : ChangeSpec := { name := "custodyApplies", fn := fun _ => fun
  | [d] => { results := [.lit (.bool true)], args := [d] }
  | _ => none }
def custodyAppliesRow : OpenClaim := { program := "ytdjkbicmkbnjdaagreat", sum := "287400adbba0c1047d0a906fcd55d30dc0204306f3fbdb5f27b58e0050e0d733", func := "awardingbody/awardingbodylaw17.CustodyApplies", spec := "custodyApplies", inPlace := ["slices.overlaps[awardingbody/api.Bag]"], unfollowed := true, recurses := true, plainKeys := false, apart := false }
def CustodyAppliesSaid : Prop := custodyAppliesRow.holds Tryz.pinned (OpenSpec.ofChange custodyAppliesSpec)

/-- ITS FALSE NEIGHBOUR: 'it returns false'. Refute it at one input. -/
def custodyAppliesWrong : ChangeSpec := { name := "custodyApplies", fn := fun _ => fun
  | [d] => { results := [.lit (.bool false)], args := [d] }
  | _ => none }
def CustodyAppliesWrongFalsely : Prop := custodyAppliesRow.holds Tryz.pinned (OpenSpec.ofChange custodyAppliesWrong)

/- THE SECOND FORM. 'bulk': how many values and letters a reading holds, each counted each time it is reached (what is shared counts as often as it is met; a slice's spare places count too). A statement '..UptoSaid' is the law's where the arguments, and the package variables that the reading takes, are together of bulk at most 1048576: NARROWER than '..Said'. Prove '..Said' where nothing that the law and all that it calls make is longer than what came in: it says more and counts as full. Else prove '..UptoSaid'. A law counts once. -/
mutual
def uptoBulk {H : Type} : DataW H → Nat
  | .lit (.string bytes) => bytes.length + 1
  | .lit _ => 1
  | .nil => 1
  | .ptr d => uptoBulk d + 1
  | .slice elems spare => uptoBulkAll elems + uptoBulkAll spare + 1
  | .agg parts => uptoBulkAll parts + 1
  | .iface _ d => uptoBulk d + 1
  | .map entries => uptoBulkEntries entries + 1
  | .held _ => 1
def uptoBulkAll {H : Type} : List (DataW H) → Nat
  | [] => 0
  | d :: r => uptoBulk d + uptoBulkAll r
def uptoBulkEntries {H : Type} : List (Lit × DataW H) → Nat
  | [] => 0
  | x :: r => uptoBulkEntry x + uptoBulkEntries r
def uptoBulkEntry {H : Type} : Lit × DataW H → Nat
  | (.string bytes, d) => bytes.length + uptoBulk d + 1
  | (_, d) => uptoBulk d + 1
 end
def uptoSmall : (H : Type) → List (DataW H) → Bool := fun _ ds => decide (uptoBulkAll ds ≤ 1048576)
def OpenSpec.upto (s : _root_.Go.ChangeSpec) : _root_.Go.OpenSpec := { _root_.Go.OpenSpec.ofChange s with cond := some uptoSmall }

/-- 'awardingbodylaw17.CustodyFolds', WHERE WHAT IT READS IS OF BULK AT MOST 1048576: true; the input reads as it did. -/
def custodyFoldsUptoRow : OpenClaim := { program := "ytdjkbicmkbnjdaagreat", sum := "287400adbba0c1047d0a906fcd55d30dc0204306f3fbdb5f27b58e0050e0d733", func := "awardingbody/awardingbodylaw17.CustodyFolds", spec := "custodyFolds", inPlace := ["slices.overlaps[awardingbody/api.Bag]"], unfollowed := true, recurses := true, plainKeys := false, apart := false, narrowed := true }
def CustodyFoldsUptoSaid : Prop := custodyFoldsUptoRow.holds Tryz.pinned (OpenSpec.upto custodyFoldsSpec)

/-- 'awardingbodylaw17.CustodyAccounts', WHERE WHAT IT READS IS OF BULK AT MOST 1048576: true; the input reads as it did. -/
def custodyAccountsUptoRow : OpenClaim := { program := "ytdjkbicmkbnjdaagreat", sum := "287400adbba0c1047d0a906fcd55d30dc0204306f3fbdb5f27b58e0050e0d733", func := "awardingbody/awardingbodylaw17.CustodyAccounts", spec := "custodyAccounts", inPlace := ["slices.overlaps[awardingbody/api.Bag]"], unfollowed := true, recurses := true, plainKeys := false, apart := false, narrowed := true }
def CustodyAccountsUptoSaid : Prop := custodyAccountsUptoRow.holds Tryz.pinned (OpenSpec.upto custodyAccountsSpec)

/-- 'awardingbodylaw17.CustodyChecks', WHERE WHAT IT READS IS OF BULK AT MOST 1048576: true; the input reads as it did. -/
def custodyChecksUptoRow : OpenClaim := { program := "ytdjkbicmkbnjdaagreat", sum := "287400adbba0c1047d0a906fcd55d30dc0204306f3fbdb5f27b58e0050e0d733", func := "awardingbody/awardingbodylaw17.CustodyChecks", spec := "custodyChecks", inPlace := ["slices.overlaps[awardingbody/api.Bag]"], unfollowed := true, recurses := true, plainKeys := false, apart := false, narrowed := true }
def CustodyChecksUptoSaid : Prop := custodyChecksUptoRow.holds Tryz.pinned (OpenSpec.upto custodyChecksSpec)

/-- 'awardingbodylaw17.CustodyApplies', WHERE WHAT IT READS IS OF BULK AT MOST 1048576: true; the input reads as it did. -/
def custodyAppliesUptoRow : OpenClaim := { program := "ytdjkbicmkbnjdaagreat", sum := "287400adbba0c1047d0a906fcd55d30dc0204306f3fbdb5f27b58e0050e0d733", func := "awardingbody/awardingbodylaw17.CustodyApplies", spec := "custodyApplies", inPlace := ["slices.overlaps[awardingbody/api.Bag]"], unfollowed := true, recurses := true, plainKeys := false, apart := false, narrowed := true }
def CustodyAppliesUptoSaid : Prop := custodyAppliesUptoRow.holds Tryz.pinned (OpenSpec.upto custodyAppliesSpec)

end Rows
end Go.Proofs.YtdjkbicmkbnjdaaGreat
