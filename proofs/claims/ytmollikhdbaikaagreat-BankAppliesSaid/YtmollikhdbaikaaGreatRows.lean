/-
  No cell of these rows narrows 'for every input' (looked for: loops, veiled, ifaces, maps, wideKeys, modest, calm, conditions, laid).
  DERIVED. THE GIVEN ROWS OF THIS SEAT. 4 by the template 'for every input the law returns true; each argument reads behind the call as it read before'; 0 by the template 'total and deterministic' (their statements: YtmollikhdbaikaaGreatTotals.lean).
  GIVEN WITH THE SEED: the statements are not yours to turn. If you find one false, say at which input.
  Laid BY PROGRAM, IN A SANDBOX (cutbox-rows.mjs): the forced cells as the released guide's own fill.sh prints them over the translation 9d73f14fb40ef779… (all of the seat's roots in one cut). By AI agents, Wed Nov 11 2026. No macro, syntax, notation, axiom, sorry.
-/
import Derived.Test.YtmollikhdbaikaaGreatChecked
import GoSem.Claim
import GoSem.ClaimJoined
import GoSem.ClaimMapViews
import Derived.JoinedTies
import Derived.KernelRfl
namespace Go.Proofs.YtmollikhdbaikaaGreat
/- THE CELL 'sum', in the pinned program and in every row, IS THE sha256 OF THE DUMP (.gsa) THAT YtmollikhdbaikaaGreatProg.lean LOADS. Nothing in Lean hashes anything: it is a label: what it is worth is what the hold of that sum in a sandbox is worth. -/
noncomputable def Tryz.pinned : Pinned := { name := "ytmollikhdbaikaagreat", sum := "9d73f14fb40ef7798d4fdc5e4599a7ffe3e6bb0d2f3524ea91fc409f4b09dbda", checked := Tryz.checked }
namespace Rows
def none {H : Type} : Left H := { results := [], args := [] }

/-- 'awardingbodylaw07.BankFolds': WHATEVER THE INPUT: true; the input reads as it did. -/
def bankFoldsSpec : ChangeSpec := { name := "bankFolds", fn := fun _ => fun
  | [d1, d2] => { results := [.lit (.bool true)], args := [d1, d2] }
  | _ => none }
def bankFoldsRow : OpenClaim := { program := "ytmollikhdbaikaagreat", sum := "9d73f14fb40ef7798d4fdc5e4599a7ffe3e6bb0d2f3524ea91fc409f4b09dbda", func := "awardingbody/awardingbodylaw07.BankFolds", spec := "bankFolds", inPlace := ["slices.overlaps[awardingbody/api.Record]"], unfollowed := true, recurses := true, plainKeys := false, apart := false }
def BankFoldsSaid : Prop := bankFoldsRow.holds Tryz.pinned (OpenSpec.ofChange bankFoldsSpec)

/-- ITS FALSE NEIGHBOUR: 'it returns false'. Refute it at one input. -/
def bankFoldsWrong : ChangeSpec := { name := "bankFolds", fn := fun _ => fun
  | [d1, d2] => { results := [.lit (.bool false)], args := [d1, d2] }
  | _ => none }
def BankFoldsWrongFalsely : Prop := bankFoldsRow.holds Tryz.pinned (OpenSpec.ofChange bankFoldsWrong)

/-- 'awardingbodylaw07.BankEligible': WHATEVER THE INPUT: true; the input reads as it did. -/
def bankEligibleSpec : ChangeSpec := { name := "bankEligible", fn := fun _ => fun
  | [d1, d2, d3, d4] => { results := [.lit (.bool true)], args := [d1, d2, d3, d4] }
  | _ => none }
def bankEligibleRow : OpenClaim := { program := "ytmollikhdbaikaagreat", sum := "9d73f14fb40ef7798d4fdc5e4599a7ffe3e6bb0d2f3524ea91fc409f4b09dbda", func := "awardingbody/awardingbodylaw07.BankEligible", spec := "bankEligible", inPlace := ["slices.overlaps[awardingbody/api.Record]"], unfollowed := true, recurses := true, plainKeys := false, apart := false }
def BankEligibleSaid : Prop := bankEligibleRow.holds Tryz.pinned (OpenSpec.ofChange bankEligibleSpec)

/-- ITS FALSE NEIGHBOUR: 'it returns false'. Refute it at one input. -/
def bankEligibleWrong : ChangeSpec := { name := "bankEligible", fn := fun _ => fun
  | [d1, d2, d3, d4] => { results := [.lit (.bool false)], args := [d1, d2, d3, d4] }
  | _ => none }
def BankEligibleWrongFalsely : Prop := bankEligibleRow.holds Tryz.pinned (OpenSpec.ofChange bankEligibleWrong)

/-- 'awardingbodylaw07.BankFinds': WHATEVER THE INPUT: true; the input reads as it did. -/
def bankFindsSpec : ChangeSpec := { name := "bankFinds", fn := fun _ => fun
  | [d1, d2, d3] => { results := [.lit (.bool true)], args := [d1, d2, d3] }
  | _ => none }
def bankFindsRow : OpenClaim := { program := "ytmollikhdbaikaagreat", sum := "9d73f14fb40ef7798d4fdc5e4599a7ffe3e6bb0d2f3524ea91fc409f4b09dbda", func := "awardingbody/awardingbodylaw07.BankFinds", spec := "bankFinds", inPlace := ["slices.overlaps[awardingbody/api.Record]"], unfollowed := true, recurses := true, plainKeys := false, apart := false }
def BankFindsSaid : Prop := bankFindsRow.holds Tryz.pinned (OpenSpec.ofChange bankFindsSpec)

/-- ITS FALSE NEIGHBOUR: 'it returns false'. Refute it at one input. -/
def bankFindsWrong : ChangeSpec := { name := "bankFinds", fn := fun _ => fun
  | [d1, d2, d3] => { results := [.lit (.bool false)], args := [d1, d2, d3] }
  | _ => none }
def BankFindsWrongFalsely : Prop := bankFindsRow.holds Tryz.pinned (OpenSpec.ofChange bankFindsWrong)

/-- 'awardingbodylaw07.BankApplies': WHATEVER THE INPUT: true; the input reads as it did. -/
def bankAppliesSpec : ChangeSpec := { name := "bankApplies", fn := fun _ => fun
  | [d] => { results := [.lit (.bool true)], args := [d] }
  | _ => none }
def bankAppliesRow : OpenClaim := { program := "ytmollikhdbaikaagreat", sum := "9d73f14fb40ef7798d4fdc5e4599a7ffe3e6bb0d2f3524ea91fc409f4b09dbda", func := "awardingbody/awardingbodylaw07.BankApplies", spec := "bankApplies", inPlace := ["slices.overlaps[awardingbody/api.Record]"], unfollowed := true, recurses := true, plainKeys := false, apart := false }
def BankAppliesSaid : Prop := bankAppliesRow.holds Tryz.pinned (OpenSpec.ofChange bankAppliesSpec)

/-- ITS FALSE NEIGHBOUR: 'it returns false'. Refute it at one input. -/
def bankAppliesWrong : ChangeSpec := { name := "bankApplies", fn := fun _ => fun
  | [d] => { results := [.lit (.bool false)], args := [d] }
  | _ => none }
def BankAppliesWrongFalsely : Prop := bankAppliesRow.holds Tryz.pinned (OpenSpec.ofChange bankAppliesWrong)

/- THE SECOND FORM. 'bulk': how many values and letters a reading holds, each counted each time it is reached (what is shared counts as often as it is met; a slice's spare places count too). A statement '..UptoSaid' is the law's where the arguments, and the package variables that the reading takes, are together of bulk at most 1048576: NARROWER than '..Said'. Prove '..Said' where nothing that the law and all that it calls make is longer than what came in: it says more and counts as full. Else prove '..UptoSaid'. A law counts once. -/
mutual
def uptoBulk {H : Type} : DataW H → Nat
  | .lit (.string bytes) => bytes.length + 1
  | .lit _ => 1
  | .nil => 1
  | .ptr d => uptoBulk d + 1
  | .slice elems spare => uptoBulkAll elems + uptoBulkAll spare + 1
  | .agg parts => uptoBulkAll parts + 1
  | .iface _ d => uptoBulk d + 1
  | .map entries => uptoBulkEntries entries + 1
  | .held _ => 1
def uptoBulkAll {H : Type} : List (DataW H) → Nat
  | [] => 0
  | d :: r => uptoBulk d + uptoBulkAll r
def uptoBulkEntries {H : Type} : List (Lit × DataW H) → Nat
  | [] => 0
  | x :: r => uptoBulkEntry x + uptoBulkEntries r
def uptoBulkEntry {H : Type} : Lit × DataW H → Nat
  | (.string bytes, d) => bytes.length + uptoBulk d + 1
  | (_, d) => uptoBulk d + 1
 end
def uptoSmall : (H : Type) → List (DataW H) → Bool := fun _ ds => decide (uptoBulkAll ds ≤ 1048576)
def OpenSpec.upto (s : _root_.Go.ChangeSpec) : _root_.Go.OpenSpec := { _root_.Go.OpenSpec.ofChange s with cond := some uptoSmall }

/-- 'awardingbodylaw07.BankFolds', WHERE WHAT IT READS IS OF BULK AT MOST 1048576: true; the input reads as it did. -/
def bankFoldsUptoRow : OpenClaim := { program := "ytmollikhdbaikaagreat", sum := "9d73f14fb40ef7798d4fdc5e4599a7ffe3e6bb0d2f3524ea91fc409f4b09dbda", func := "awardingbody/awardingbodylaw07.BankFolds", spec := "bankFolds", inPlace := ["slices.overlaps[awardingbody/api.Record]"], unfollowed := true, recurses := true, plainKeys := false, apart := false, narrowed := true }
def BankFoldsUptoSaid : Prop := bankFoldsUptoRow.holds Tryz.pinned (OpenSpec.upto bankFoldsSpec)

/-- 'awardingbodylaw07.BankEligible', WHERE WHAT IT READS IS OF BULK AT MOST 1048576: true; the input reads as it did. -/
def bankEligibleUptoRow : OpenClaim := { program := "ytmollikhdbaikaagreat", sum := "9d73f14fb40ef7798d4fdc5e4599a7ffe3e6bb0d2f3524ea91fc409f4b09dbda", func := "awardingbody/awardingbodylaw07.BankEligible", spec := "bankEligible", inPlace := ["slices.overlaps[awardingbody/api.Record]"], unfollowed := true, recurses := true, plainKeys := false, apart := false, narrowed := true }
def BankEligibleUptoSaid : Prop := bankEligibleUptoRow.holds Tryz.pinned (OpenSpec.upto bankEligibleSpec)

/-- 'awardingbodylaw07.BankFinds', WHERE WHAT IT READS IS OF BULK AT MOST 1048576: true; the input reads as it did. -/
def bankFindsUptoRow : OpenClaim := { program := "ytmollikhdbaikaagreat", sum := "9d73f14fb40ef7798d4fdc5e4599a7ffe3e6bb0d2f3524ea91fc409f4b09dbda", func := "awardingbody/awardingbodylaw07.BankFinds", spec := "bankFinds", inPlace := ["slices.overlaps[awardingbody/api.Record]"], unfollowed := true, recurses := true, plainKeys := false, apart := false, narrowed := true }
def BankFindsUptoSaid : Prop := bankFindsUptoRow.holds Tryz.pinned (OpenSpec.upto bankFindsSpec)

/-- 'awardingbodylaw07.BankApplies', WHERE WHAT IT READS IS OF BULK AT MOST 1048576: true; the input reads as it did. -/
def bankAppliesUptoRow : OpenClaim := { program := "ytmollikhdbaikaagreat", sum := "9d73f14fb40ef7798d4fdc5e4599a7ffe3e6bb0d2f3524ea91fc409f4b09dbda", func := "awardingbody/awardingbodylaw07.BankApplies", spec := "bankApplies", inPlace := ["slices.overlaps[awardingbody/api.Record]"], unfollowed := true, recurses := true, plainKeys := false, apart := false, narrowed := true }
def BankAppliesUptoSaid : Prop := bankAppliesUptoRow.holds Tryz.pinned (OpenSpec.upto bankAppliesSpec)

end Rows
end Go.Proofs.YtmollikhdbaikaaGreat
