/-
  No cell of these rows narrows 'for every input' (looked for: loops, veiled, ifaces, maps, wideKeys, modest, calm, conditions, laid).
  DERIVED. THE GIVEN ROWS OF THIS SEAT. 5 by the template 'for every input the law returns true; each argument reads behind the call as it read before'; 0 by the template 'total and deterministic' (their statements: YtmollikhdbaikaaTotals.lean).
  GIVEN WITH THE SEED: the statements are not yours to turn. If you find one false, say at which input.
  Laid BY PROGRAM, IN A SANDBOX (cutbox-rows.mjs): the forced cells as the released guide's own fill.sh prints them over the translation a318cbb7f9260d03… (all of the seat's roots in one cut). By AI agents, Wed Nov 11 2026. No macro, syntax, notation, axiom, sorry.
-/
import Derived.Test.YtmollikhdbaikaaChecked
import GoSem.Claim
import GoSem.ClaimJoined
import GoSem.ClaimMapViews
import Derived.JoinedTies
import Derived.KernelRfl
namespace Go.Proofs.Ytmollikhdbaikaa
/- THE CELL 'sum', in the pinned program and in every row, IS THE sha256 OF THE DUMP (.gsa) THAT YtmollikhdbaikaaProg.lean LOADS. Nothing in Lean hashes anything: it is a label: what it is worth is what the hold of that sum in a sandbox is worth. -/
noncomputable def Try.pinned : Pinned := { name := "ytmollikhdbaikaa", sum := "a318cbb7f9260d038d7b6540c3c4a025dceb6c6edb76868cb01be5c9218bd9f4", checked := Try.checked }
namespace Rows
def none {H : Type} : Left H := { results := [], args := [] }

/-- 'awardingbodylaw07.BankCanonical': WHATEVER THE INPUT: true; the input reads as it did. -/
def bankCanonicalSpec : ChangeSpec := { name := "bankCanonical", fn := fun _ => fun
  | [d] => { results := [.lit (.bool true)], args := [d] }
  | _ => none }
def bankCanonicalRow : OpenClaim := { program := "ytmollikhdbaikaa", sum := "a318cbb7f9260d038d7b6540c3c4a025dceb6c6edb76868cb01be5c9218bd9f4", func := "awardingbody/awardingbodylaw07.BankCanonical", spec := "bankCanonical", inPlace := ["slices.overlaps[awardingbody/api.Record]"], unfollowed := true, recurses := true, plainKeys := false, apart := false }
def BankCanonicalSaid : Prop := bankCanonicalRow.holds Try.pinned (OpenSpec.ofChange bankCanonicalSpec)

/-- ITS FALSE NEIGHBOUR: 'it returns false'. Refute it at one input. -/
def bankCanonicalWrong : ChangeSpec := { name := "bankCanonical", fn := fun _ => fun
  | [d] => { results := [.lit (.bool false)], args := [d] }
  | _ => none }
def BankCanonicalWrongFalsely : Prop := bankCanonicalRow.holds Try.pinned (OpenSpec.ofChange bankCanonicalWrong)

/-- 'awardingbodylaw07.BankAnyOrder': WHATEVER THE INPUT: true; the input reads as it did. -/
def bankAnyOrderSpec : ChangeSpec := { name := "bankAnyOrder", fn := fun _ => fun
  | [d] => { results := [.lit (.bool true)], args := [d] }
  | _ => none }
def bankAnyOrderRow : OpenClaim := { program := "ytmollikhdbaikaa", sum := "a318cbb7f9260d038d7b6540c3c4a025dceb6c6edb76868cb01be5c9218bd9f4", func := "awardingbody/awardingbodylaw07.BankAnyOrder", spec := "bankAnyOrder", inPlace := ["slices.overlaps[awardingbody/api.Record]"], unfollowed := true, recurses := true, plainKeys := false, apart := false }
def BankAnyOrderSaid : Prop := bankAnyOrderRow.holds Try.pinned (OpenSpec.ofChange bankAnyOrderSpec)

/-- ITS FALSE NEIGHBOUR: 'it returns false'. Refute it at one input. -/
def bankAnyOrderWrong : ChangeSpec := { name := "bankAnyOrder", fn := fun _ => fun
  | [d] => { results := [.lit (.bool false)], args := [d] }
  | _ => none }
def BankAnyOrderWrongFalsely : Prop := bankAnyOrderRow.holds Try.pinned (OpenSpec.ofChange bankAnyOrderWrong)

/-- 'awardingbodylaw07.BankGrows': WHATEVER THE INPUT: true; the input reads as it did. -/
def bankGrowsSpec : ChangeSpec := { name := "bankGrows", fn := fun _ => fun
  | [d1, d2, d3] => { results := [.lit (.bool true)], args := [d1, d2, d3] }
  | _ => none }
def bankGrowsRow : OpenClaim := { program := "ytmollikhdbaikaa", sum := "a318cbb7f9260d038d7b6540c3c4a025dceb6c6edb76868cb01be5c9218bd9f4", func := "awardingbody/awardingbodylaw07.BankGrows", spec := "bankGrows", inPlace := ["slices.overlaps[awardingbody/api.Record]"], unfollowed := true, recurses := true, plainKeys := false, apart := false }
def BankGrowsSaid : Prop := bankGrowsRow.holds Try.pinned (OpenSpec.ofChange bankGrowsSpec)

/-- ITS FALSE NEIGHBOUR: 'it returns false'. Refute it at one input. -/
def bankGrowsWrong : ChangeSpec := { name := "bankGrows", fn := fun _ => fun
  | [d1, d2, d3] => { results := [.lit (.bool false)], args := [d1, d2, d3] }
  | _ => none }
def BankGrowsWrongFalsely : Prop := bankGrowsRow.holds Try.pinned (OpenSpec.ofChange bankGrowsWrong)

/-- 'awardingbodylaw07.BankReady': WHATEVER THE INPUT: true; the input reads as it did. -/
def bankReadySpec : ChangeSpec := { name := "bankReady", fn := fun _ => fun
  | [d1, d2, d3, d4] => { results := [.lit (.bool true)], args := [d1, d2, d3, d4] }
  | _ => none }
def bankReadyRow : OpenClaim := { program := "ytmollikhdbaikaa", sum := "a318cbb7f9260d038d7b6540c3c4a025dceb6c6edb76868cb01be5c9218bd9f4", func := "awardingbody/awardingbodylaw07.BankReady", spec := "bankReady", inPlace := ["slices.overlaps[awardingbody/api.Record]"], unfollowed := true, recurses := true, plainKeys := false, apart := false }
def BankReadySaid : Prop := bankReadyRow.holds Try.pinned (OpenSpec.ofChange bankReadySpec)

/-- ITS FALSE NEIGHBOUR: 'it returns false'. Refute it at one input. -/
def bankReadyWrong : ChangeSpec := { name := "bankReady", fn := fun _ => fun
  | [d1, d2, d3, d4] => { results := [.lit (.bool false)], args := [d1, d2, d3, d4] }
  | _ => none }
def BankReadyWrongFalsely : Prop := bankReadyRow.holds Try.pinned (OpenSpec.ofChange bankReadyWrong)

/-- 'awardingbodylaw07.BankAccounts': WHATEVER THE INPUT: true; the input reads as it did. -/
def bankAccountsSpec : ChangeSpec := { name := "bankAccounts", fn := fun _ => fun
  | [d1, d2] => { results := [.lit (.bool true)], args := [d1, d2] }
  | _ => none }
def bankAccountsRow : OpenClaim := { program := "ytmollikhdbaikaa", sum := "a318cbb7f9260d038d7b6540c3c4a025dceb6c6edb76868cb01be5c9218bd9f4", func := "awardingbody/awardingbodylaw07.BankAccounts", spec := "bankAccounts", inPlace := ["slices.overlaps[awardingbody/api.Record]"], unfollowed := true, recurses := true, plainKeys := false, apart := false }
def BankAccountsSaid : Prop := bankAccountsRow.holds Try.pinned (OpenSpec.ofChange bankAccountsSpec)

/-- ITS FALSE NEIGHBOUR: 'it returns false'. Refute it at one input. -/
def bankAccountsWrong : ChangeSpec := { name := "bankAccounts", fn := fun _ => fun
  | [d1, d2] => { results := [.lit (.bool false)], args := [d1, d2] }
  | _ => none }
def BankAccountsWrongFalsely : Prop := bankAccountsRow.holds Try.pinned (OpenSpec.ofChange bankAccountsWrong)

/- THE SECOND FORM. 'bulk': how many values and letters a reading holds, each counted each time it is reached (what is shared counts as often as it is met; a slice's spare places count too). A statement '..UptoSaid' is the law's where the arguments, and the package variables that the reading takes, are together of bulk at most 1048576: NARROWER than '..Said'. Prove '..Said' where nothing that the law and all that it calls make is longer than what came in: it says more and counts as full. Else prove '..UptoSaid'. A law counts once. -/
mutual
def uptoBulk {H : Type} : DataW H → Nat
  | .lit (.string bytes) => bytes.length + 1
  | .lit _ => 1
  | .nil => 1
  | .ptr d => uptoBulk d + 1
  | .slice elems spare => uptoBulkAll elems + uptoBulkAll spare + 1
  | .agg parts => uptoBulkAll parts + 1
  | .iface _ d => uptoBulk d + 1
  | .map entries => uptoBulkEntries entries + 1
  | .held _ => 1
def uptoBulkAll {H : Type} : List (DataW H) → Nat
  | [] => 0
  | d :: r => uptoBulk d + uptoBulkAll r
def uptoBulkEntries {H : Type} : List (Lit × DataW H) → Nat
  | [] => 0
  | x :: r => uptoBulkEntry x + uptoBulkEntries r
def uptoBulkEntry {H : Type} : Lit × DataW H → Nat
  | (.string bytes, d) => bytes.length + uptoBulk d + 1
  | (_, d) => uptoBulk d + 1
 end
def uptoSmall : (H : Type) → List (DataW H) → Bool := fun _ ds => decide (uptoBulkAll ds ≤ 1048576)
def OpenSpec.upto (s : _root_.Go.ChangeSpec) : _root_.Go.OpenSpec := { _root_.Go.OpenSpec.ofChange s with cond := some uptoSmall }

/-- 'awardingbodylaw07.BankCanonical', WHERE WHAT IT READS IS OF BULK AT MOST 1048576: true; the input reads as it did. -/
def bankCanonicalUptoRow : OpenClaim := { program := "ytmollikhdbaikaa", sum := "a318cbb7f9260d038d7b6540c3c4a025dceb6c6edb76868cb01be5c9218bd9f4", func := "awardingbody/awardingbodylaw07.BankCanonical", spec := "bankCanonical", inPlace := ["slices.overlaps[awardingbody/api.Record]"], unfollowed := true, recurses := true, plainKeys := false, apart := false, narrowed := true }
def BankCanonicalUptoSaid : Prop := bankCanonicalUptoRow.holds Try.pinned (OpenSpec.upto bankCanonicalSpec)

/-- 'awardingbodylaw07.BankAnyOrder', WHERE WHAT IT READS IS OF BULK AT MOST 1048576: true; the input reads as it did. -/
def bankAnyOrderUptoRow : OpenClaim := { program := "ytmollikhdbaikaa", sum := "a318cbb7f9260d038d7b6540c3c4a025dceb6c6edb76868cb01be5c9218bd9f4", func := "awardingbody/awardingbodylaw07.BankAnyOrder", spec := "bankAnyOrder", inPlace := ["slices.overlaps[awardingbody/api.Record]"], unfollowed := true, recurses := true, plainKeys := false, apart := false, narrowed := true }
def BankAnyOrderUptoSaid : Prop := bankAnyOrderUptoRow.holds Try.pinned (OpenSpec.upto bankAnyOrderSpec)

/-- 'awardingbodylaw07.BankGrows', WHERE WHAT IT READS IS OF BULK AT MOST 1048576: true; the input reads as it did. -/
def bankGrowsUptoRow : OpenClaim := { program := "ytmollikhdbaikaa", sum := "a318cbb7f9260d038d7b6540c3c4a025dceb6c6edb76868cb01be5c9218bd9f4", func := "awardingbody/awardingbodylaw07.BankGrows", spec := "bankGrows", inPlace := ["slices.overlaps[awardingbody/api.Record]"], unfollowed := true, recurses := true, plainKeys := false, apart := false, narrowed := true }
def BankGrowsUptoSaid : Prop := bankGrowsUptoRow.holds Try.pinned (OpenSpec.upto bankGrowsSpec)

/-- 'awardingbodylaw07.BankReady', WHERE WHAT IT READS IS OF BULK AT MOST 1048576: true; the input reads as it did. -/
def bankReadyUptoRow : OpenClaim := { program := "ytmollikhdbaikaa", sum := "a318cbb7f9260d038d7b6540c3c4a025dceb6c6edb76868cb01be5c9218bd9f4", func := "awardingbody/awardingbodylaw07.BankReady", spec := "bankReady", inPlace := ["slices.overlaps[awardingbody/api.Record]"], unfollowed := true, recurses := true, plainKeys := false, apart := false, narrowed := true }
def BankReadyUptoSaid : Prop := bankReadyUptoRow.holds Try.pinned (OpenSpec.upto bankReadySpec)

/-- 'awardingbodylaw07.BankAccounts', WHERE WHAT IT READS IS OF BULK AT MOST 1048576: true; the input reads as it did. -/
def bankAccountsUptoRow : OpenClaim := { program := "ytmollikhdbaikaa", sum := "a318cbb7f9260d038d7b6540c3c4a025dceb6c6edb76868cb01be5c9218bd9f4", func := "awardingbody/awardingbodylaw07.BankAccounts", spec := "bankAccounts", inPlace := ["slices.overlaps[awardingbody/api.Record]"], unfollowed := true, recurses := true, plainKeys := false, apart := false, narrowed := true }
def BankAccountsUptoSaid : Prop := bankAccountsUptoRow.holds Try.pinned (OpenSpec.upto bankAccountsSpec)

end Rows
end Go.Proofs.Ytmollikhdbaikaa
