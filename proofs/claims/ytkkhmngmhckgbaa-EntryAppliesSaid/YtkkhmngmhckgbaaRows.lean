/-
  No cell of these rows narrows 'for every input' (looked for: loops, veiled, ifaces, maps, wideKeys, modest, calm, conditions, laid).
  DERIVED. THE GIVEN ROWS OF THIS SEAT. 9 by the template 'for every input the law returns true; each argument reads behind the call as it read before'; 0 by the template 'total and deterministic' (their statements: YtkkhmngmhckgbaaTotals.lean).
  GIVEN WITH THE SEED: the statements are not yours to turn. If you find one false, say at which input.
  Laid BY PROGRAM, IN A SANDBOX (cutbox-rows.mjs): the forced cells as the released guide's own fill.sh prints them over the translation b87d9957b82a8fd5… (all of the seat's roots in one cut). By AI agents, Wed Nov 11 2026. No macro, syntax, notation, axiom, sorry.
-/
import Derived.Test.YtkkhmngmhckgbaaChecked
import GoSem.Claim
import GoSem.ClaimJoined
import GoSem.ClaimMapViews
import Derived.JoinedTies
import Derived.KernelRfl
namespace Go.Proofs.Ytkkhmngmhckgbaa
/- THE CELL 'sum', in the pinned program and in every row, IS THE sha256 OF THE DUMP (.gsa) THAT YtkkhmngmhckgbaaProg.lean LOADS. Nothing in Lean hashes anything: it is a label: what it is worth is what the hold of that sum in a sandbox is worth. -/
noncomputable def Try.pinned : Pinned := { name := "ytkkhmngmhckgbaa", sum := "b87d9957b82a8fd5571b4d16653660ea725b2b344e6978e31b1784c1625fec5f", checked := Try.checked }
namespace Rows
def none {H : Type} : Left H := { results := [], args := [] }

/-- 'awardingbodylaw13.EntryCanonical': WHATEVER THE INPUT: true; the input reads as it did. -/
def entryCanonicalSpec : ChangeSpec := { name := "entryCanonical", fn := fun _ => fun
  | [d] => { results := [.lit (.bool true)], args := [d] }
  | _ => none }
def entryCanonicalRow : OpenClaim := { program := "ytkkhmngmhckgbaa", sum := "b87d9957b82a8fd5571b4d16653660ea725b2b344e6978e31b1784c1625fec5f", func := "awardingbody/awardingbodylaw13.EntryCanonical", spec := "entryCanonical", inPlace := ["slices.overlaps[awardingbody/api.Enrolment]"], unfollowed := true, recurses := true, plainKeys := false, apart := false }
def EntryCanonicalSaid : Prop := entryCanonicalRow.holds Try.pinned (OpenSpec.ofChange entryCanonicalSpec)

/-- ITS FALSE NEIGHBOUR: 'it returns false'. Refute it at one input. -/
def entryCanonicalWrong : ChangeSpec := { name := "entryCanonical", fn := fun _ => fun
  | [d] => { results := [.lit (.bool false)], args := [d] }
  | _ => none }
def EntryCanonicalWrongFalsely : Prop := entryCanonicalRow.holds Try.pinned (OpenSpec.ofChange entryCanonicalWrong)

/-- 'awardingbodylaw13.EntryFolds': WHATEVER THE INPUT: true; the input reads as it did. -/
def entryFoldsSpec : ChangeSpec := { name := "entryFolds", fn := fun _ => fun
  | [d1, d2] => { results := [.lit (.bool true)], args := [d1, d2] }
  | _ => none }
def entryFoldsRow : OpenClaim := { program := "ytkkhmngmhckgbaa", sum := "b87d9957b82a8fd5571b4d16653660ea725b2b344e6978e31b1784c1625fec5f", func := "awardingbody/awardingbodylaw13.EntryFolds", spec := "entryFolds", inPlace := ["slices.overlaps[awardingbody/api.Enrolment]"], unfollowed := true, recurses := true, plainKeys := false, apart := false }
def EntryFoldsSaid : Prop := entryFoldsRow.holds Try.pinned (OpenSpec.ofChange entryFoldsSpec)

/-- ITS FALSE NEIGHBOUR: 'it returns false'. Refute it at one input. -/
def entryFoldsWrong : ChangeSpec := { name := "entryFolds", fn := fun _ => fun
  | [d1, d2] => { results := [.lit (.bool false)], args := [d1, d2] }
  | _ => none }
def EntryFoldsWrongFalsely : Prop := entryFoldsRow.holds Try.pinned (OpenSpec.ofChange entryFoldsWrong)

/-- 'awardingbodylaw13.EntryAnyOrder': WHATEVER THE INPUT: true; the input reads as it did. -/
def entryAnyOrderSpec : ChangeSpec := { name := "entryAnyOrder", fn := fun _ => fun
  | [d] => { results := [.lit (.bool true)], args := [d] }
  | _ => none }
def entryAnyOrderRow : OpenClaim := { program := "ytkkhmngmhckgbaa", sum := "b87d9957b82a8fd5571b4d16653660ea725b2b344e6978e31b1784c1625fec5f", func := "awardingbody/awardingbodylaw13.EntryAnyOrder", spec := "entryAnyOrder", inPlace := ["slices.overlaps[awardingbody/api.Enrolment]"], unfollowed := true, recurses := true, plainKeys := false, apart := false }
def EntryAnyOrderSaid : Prop := entryAnyOrderRow.holds Try.pinned (OpenSpec.ofChange entryAnyOrderSpec)

/-- ITS FALSE NEIGHBOUR: 'it returns false'. Refute it at one input. -/
def entryAnyOrderWrong : ChangeSpec := { name := "entryAnyOrder", fn := fun _ => fun
  | [d] => { results := [.lit (.bool false)], args := [d] }
  | _ => none }
def EntryAnyOrderWrongFalsely : Prop := entryAnyOrderRow.holds Try.pinned (OpenSpec.ofChange entryAnyOrderWrong)

/-- 'awardingbodylaw13.EntryCloses': WHATEVER THE INPUT: true; the input reads as it did. -/
def entryClosesSpec : ChangeSpec := { name := "entryCloses", fn := fun _ => fun
  | [d1, d2] => { results := [.lit (.bool true)], args := [d1, d2] }
  | _ => none }
def entryClosesRow : OpenClaim := { program := "ytkkhmngmhckgbaa", sum := "b87d9957b82a8fd5571b4d16653660ea725b2b344e6978e31b1784c1625fec5f", func := "awardingbody/awardingbodylaw13.EntryCloses", spec := "entryCloses", inPlace := ["slices.overlaps[awardingbody/api.Enrolment]"], unfollowed := true, recurses := true, plainKeys := false, apart := false }
def EntryClosesSaid : Prop := entryClosesRow.holds Try.pinned (OpenSpec.ofChange entryClosesSpec)

/-- ITS FALSE NEIGHBOUR: 'it returns false'. Refute it at one input. -/
def entryClosesWrong : ChangeSpec := { name := "entryCloses", fn := fun _ => fun
  | [d1, d2] => { results := [.lit (.bool false)], args := [d1, d2] }
  | _ => none }
def EntryClosesWrongFalsely : Prop := entryClosesRow.holds Try.pinned (OpenSpec.ofChange entryClosesWrong)

/-- 'awardingbodylaw13.EntryOnce': WHATEVER THE INPUT: true; the input reads as it did. -/
def entryOnceSpec : ChangeSpec := { name := "entryOnce", fn := fun _ => fun
  | [d] => { results := [.lit (.bool true)], args := [d] }
  | _ => none }
def entryOnceRow : OpenClaim := { program := "ytkkhmngmhckgbaa", sum := "b87d9957b82a8fd5571b4d16653660ea725b2b344e6978e31b1784c1625fec5f", func := "awardingbody/awardingbodylaw13.EntryOnce", spec := "entryOnce", inPlace := ["slices.overlaps[awardingbody/api.Enrolment]"], unfollowed := true, recurses := true, plainKeys := false, apart := false }
def EntryOnceSaid : Prop := entryOnceRow.holds Try.pinned (OpenSpec.ofChange entryOnceSpec)

/-- ITS FALSE NEIGHBOUR: 'it returns false'. Refute it at one input. -/
def entryOnceWrong : ChangeSpec := { name := "entryOnce", fn := fun _ => fun
  | [d] => { results := [.lit (.bool false)], args := [d] }
  | _ => none }
def EntryOnceWrongFalsely : Prop := entryOnceRow.holds Try.pinned (OpenSpec.ofChange entryOnceWrong)

/-- 'awardingbodylaw13.EntryApplies': WHATEVER THE INPUT: true; the input reads as it did. -/
def entryAppliesSpec : ChangeSpec := { name := "entryApplies", fn := fun _ => fun
  | [d] => { results := [.lit (.bool true)], args := [d] }
  | _ => none }
def entryAppliesRow : OpenClaim := { program := "ytkkhmngmhckgbaa", sum := "b87d9957b82a8fd5571b4d16653660ea725b2b344e6978e31b1784c1625fec5f", func := "awardingbody/awardingbodylaw13.EntryApplies", spec := "entryApplies", inPlace := ["slices.overlaps[awardingbody/api.Enrolment]"], unfollowed := true, recurses := true, plainKeys := false, apart := false }
def EntryAppliesSaid : Prop := entryAppliesRow.holds Try.pinned (OpenSpec.ofChange entryAppliesSpec)

/-- ITS FALSE NEIGHBOUR: 'it returns false'. Refute it at one input. -/
def entryAppliesWrong : ChangeSpec := { name := "entryApplies", fn := fun _ => fun
  | [d] => { results := [.lit (.bool false)], args := [d] }
  | _ => none }
def EntryAppliesWrongFalsely : Prop := entryAppliesRow.holds Try.pinned (OpenSpec.ofChange entryAppliesWrong)

/-- 'awardingbodylaw13.EntryFinds': WHATEVER THE INPUT: true; the input reads as it did. -/
def entryFindsSpec : ChangeSpec := { name := "entryFinds", fn := fun _ => fun
  | [d1, d2, d3, d4] => { results := [.lit (.bool true)], args := [d1, d2, d3, d4] }
  | _ => none }
def entryFindsRow : OpenClaim := { program := "ytkkhmngmhckgbaa", sum := "b87d9957b82a8fd5571b4d16653660ea725b2b344e6978e31b1784c1625fec5f", func := "awardingbody/awardingbodylaw13.EntryFinds", spec := "entryFinds", inPlace := ["slices.overlaps[awardingbody/api.Enrolment]"], unfollowed := true, recurses := true, plainKeys := false, apart := false }
def EntryFindsSaid : Prop := entryFindsRow.holds Try.pinned (OpenSpec.ofChange entryFindsSpec)

/-- ITS FALSE NEIGHBOUR: 'it returns false'. Refute it at one input. -/
def entryFindsWrong : ChangeSpec := { name := "entryFinds", fn := fun _ => fun
  | [d1, d2, d3, d4] => { results := [.lit (.bool false)], args := [d1, d2, d3, d4] }
  | _ => none }
def EntryFindsWrongFalsely : Prop := entryFindsRow.holds Try.pinned (OpenSpec.ofChange entryFindsWrong)

/-- 'awardingbodylaw13.EntryMany': WHATEVER THE INPUT: true; the input reads as it did. -/
def entryManySpec : ChangeSpec := { name := "entryMany", fn := fun _ => fun
  | [d] => { results := [.lit (.bool true)], args := [d] }
  | _ => none }
def entryManyRow : OpenClaim := { program := "ytkkhmngmhckgbaa", sum := "b87d9957b82a8fd5571b4d16653660ea725b2b344e6978e31b1784c1625fec5f", func := "awardingbody/awardingbodylaw13.EntryMany", spec := "entryMany", inPlace := ["slices.overlaps[awardingbody/api.Enrolment]"], unfollowed := true, recurses := true, plainKeys := false, apart := false }
def EntryManySaid : Prop := entryManyRow.holds Try.pinned (OpenSpec.ofChange entryManySpec)

/-- ITS FALSE NEIGHBOUR: 'it returns false'. Refute it at one input. -/
def entryManyWrong : ChangeSpec := { name := "entryMany", fn := fun _ => fun
  | [d] => { results := [.lit (.bool false)], args := [d] }
  | _ => none }
def EntryManyWrongFalsely : Prop := entryManyRow.holds Try.pinned (OpenSpec.ofChange entryManyWrong)

/-- 'awardingbodylaw13.EntryOwn': WHATEVER THE INPUT: true; the input reads as it did. -/
def entryOwnSpec : ChangeSpec := { name := "entryOwn", fn := fun _ => fun
  | [d] => { results := [.lit (.bool true)], args := [d] }
  | _ => none }
def entryOwnRow : OpenClaim := { program := "ytkkhmngmhckgbaa", sum := "b87d9957b82a8fd5571b4d16653660ea725b2b344e6978e31b1784c1625fec5f", func := "awardingbody/awardingbodylaw13.EntryOwn", spec := "entryOwn", inPlace := ["slices.overlaps[awardingbody/api.Enrolment]"], unfollowed := true, recurses := true, plainKeys := false, apart := false }
def EntryOwnSaid : Prop := entryOwnRow.holds Try.pinned (OpenSpec.ofChange entryOwnSpec)

/-- ITS FALSE NEIGHBOUR: 'it returns false'. Refute it at one input. -/
def entryOwnWrong : ChangeSpec := { name := "entryOwn", fn := fun _ => fun
  | [d] => { results := [.lit (.bool false)], args := [d] }
  | _ => none }
def EntryOwnWrongFalsely : Prop := entryOwnRow.holds Try.pinned (OpenSpec.ofChange entryOwnWrong)

/- THE SECOND FORM. 'bulk': how many values and letters a reading holds, each counted each time it is reached (what is shared counts as often as it is met; a slice's spare places count too). A statement '..UptoSaid' is the law's where the arguments, and the package variables that the reading takes, are together of bulk at most 1048576: NARROWER than '..Said'. Prove '..Said' where nothing that the law and all that it calls make is longer than what came in: it says more and counts as full. Else prove '..UptoSaid'. A law counts once. -/
mutual
def uptoBulk {H : Type} : DataW H → Nat
  | .lit (.string bytes) => bytes.length + 1
  | .lit _ => 1
  | .nil => 1
  | .ptr d => uptoBulk d + 1
  | .slice elems spare => uptoBulkAll elems + uptoBulkAll spare + 1
  | .agg parts => uptoBulkAll parts + 1
  | .iface _ d => uptoBulk d + 1
  | .map entries => uptoBulkEntries entries + 1
  | .held _ => 1
def uptoBulkAll {H : Type} : List (DataW H) → Nat
  | [] => 0
  | d :: r => uptoBulk d + uptoBulkAll r
def uptoBulkEntries {H : Type} : List (Lit × DataW H) → Nat
  | [] => 0
  | x :: r => uptoBulkEntry x + uptoBulkEntries r
def uptoBulkEntry {H : Type} : Lit × DataW H → Nat
  | (.string bytes, d) => bytes.length + uptoBulk d + 1
  | (_, d) => uptoBulk d + 1
 end
def uptoSmall : (H : Type) → List (DataW H) → Bool := fun _ ds => decide (uptoBulkAll ds ≤ 1048576)
def OpenSpec.upto (s : _root_.Go.ChangeSpec) : _root_.Go.OpenSpec := { _root_.Go.OpenSpec.ofChange s with cond := some uptoSmall }

/-- 'awardingbodylaw13.EntryCanonical', WHERE WHAT IT READS IS OF BULK AT MOST 1048576: true; the input reads as it did. -/
def entryCanonicalUptoRow : OpenClaim := { program := "ytkkhmngmhckgbaa", sum := "b87d9957b82a8fd5571b4d16653660ea725b2b344e6978e31b1784c1625fec5f", func := "awardingbody/awardingbodylaw13.EntryCanonical", spec := "entryCanonical", inPlace := ["slices.overlaps[awardingbody/api.Enrolment]"], unfollowed := true, recurses := true, plainKeys := false, apart := false, narrowed := true }
def EntryCanonicalUptoSaid : Prop := entryCanonicalUptoRow.holds Try.pinned (OpenSpec.upto entryCanonicalSpec)

/-- 'awardingbodylaw13.EntryFolds', WHERE WHAT IT READS IS OF BULK AT MOST 1048576: true; the input reads as it did. -/
def entryFoldsUptoRow : OpenClaim := { program := "ytkkhmngmhckgbaa", sum := "b87d9957b82a8fd5571b4d16653660ea725b2b344e6978e31b1784c1625fec5f", func := "awardingbody/awardingbodylaw13.EntryFolds", spec := "entryFolds", inPlace := ["slices.overlaps[awardingbody/api.Enrolment]"], unfollowed := true, recurses := true, plainKeys := false, apart := false, narrowed := true }
def EntryFoldsUptoSaid : Prop := entryFoldsUptoRow.holds Try.pinned (OpenSpec.upto entryFoldsSpec)

/-- 'awardingbodylaw13.EntryAnyOrder', WHERE WHAT IT READS IS OF BULK AT MOST 1048576: true; the input reads as it did. -/
def entryAnyOrderUptoRow : OpenClaim := { program := "ytkkhmngmhckgbaa", sum := "b87d9957b82a8fd5571b4d16653660ea725b2b344e6978e31b1784c1625fec5f", func := "awardingbody/awardingbodylaw13.EntryAnyOrder", spec := "entryAnyOrder", inPlace := ["slices.overlaps[awardingbody/api.Enrolment]"], unfollowed := true, recurses := true, plainKeys := false, apart := false, narrowed := true }
def EntryAnyOrderUptoSaid : Prop := entryAnyOrderUptoRow.holds Try.pinned (OpenSpec.upto entryAnyOrderSpec)

/-- 'awardingbodylaw13.EntryCloses', WHERE WHAT IT READS IS OF BULK AT MOST 1048576: true; the input reads as it did. -/
def entryClosesUptoRow : OpenClaim := { program := "ytkkhmngmhckgbaa", sum := "b87d9957b82a8fd5571b4d16653660ea725b2b344e6978e31b1784c1625fec5f", func := "awardingbody/awardingbodylaw13.EntryCloses", spec := "entryCloses", inPlace := ["slices.overlaps[awardingbody/api.Enrolment]"], unfollowed := true, recurses := true, plainKeys := false, apart := false, narrowed := true }
def EntryClosesUptoSaid : Prop := entryClosesUptoRow.holds Try.pinned (OpenSpec.upto entryClosesSpec)

/-- 'awardingbodylaw13.EntryOnce', WHERE WHAT IT READS IS OF BULK AT MOST 1048576: true; the input reads as it did. -/
def entryOnceUptoRow : OpenClaim := { program := "ytkkhmngmhckgbaa", sum := "b87d9957b82a8fd5571b4d16653660ea725b2b344e6978e31b1784c1625fec5f", func := "awardingbody/awardingbodylaw13.EntryOnce", spec := "entryOnce", inPlace := ["slices.overlaps[awardingbody/api.Enrolment]"], unfollowed := true, recurses := true, plainKeys := false, apart := false, narrowed := true }
def EntryOnceUptoSaid : Prop := entryOnceUptoRow.holds Try.pinned (OpenSpec.upto entryOnceSpec)

/-- 'awardingbodylaw13.EntryApplies', WHERE WHAT IT READS IS OF BULK AT MOST 1048576: true; the input reads as it did. -/
def entryAppliesUptoRow : OpenClaim := { program := "ytkkhmngmhckgbaa", sum := "b87d9957b82a8fd5571b4d16653660ea725b2b344e6978e31b1784c1625fec5f", func := "awardingbody/awardingbodylaw13.EntryApplies", spec := "entryApplies", inPlace := ["slices.overlaps[awardingbody/api.Enrolment]"], unfollowed := true, recurses := true, plainKeys := false, apart := false, narrowed := true }
def EntryAppliesUptoSaid : Prop := entryAppliesUptoRow.holds Try.pinned (OpenSpec.upto entryAppliesSpec)

/-- 'awardingbodylaw13.EntryFinds', WHERE WHAT IT READS IS OF BULK AT MOST 1048576: true; the input reads as it did. -/
def entryFindsUptoRow : OpenClaim := { program := "ytkkhmngmhckgbaa", sum := "b87d9957b82a8fd5571b4d16653660ea725b2b344e6978e31b1784c1625fec5f", func := "awardingbody/awardingbodylaw13.EntryFinds", spec := "entryFinds", inPlace := ["slices.overlaps[awardingbody/api.Enrolment]"], unfollowed := true, recurses := true, plainKeys := false, apart := false, narrowed := true }
def EntryFindsUptoSaid : Prop := entryFindsUptoRow.holds Try.pinned (OpenSpec.upto entryFindsSpec)

/-- 'awardingbodylaw13.EntryMany', WHERE WHAT IT READS IS OF BULK AT MOST 1048576: true; the input reads as it did. -/
def entryManyUptoRow : OpenClaim := { program := "ytkkhmngmhckgbaa", sum := "b87d9957b82a8fd5571b4d16653660ea725b2b344e6978e31b1784c1625fec5f", func := "awardingbody/awardingbodylaw13.EntryMany", spec := "entryMany", inPlace := ["slices.overlaps[awardingbody/api.Enrolment]"], unfollowed := true, recurses := true, plainKeys := false, apart := false, narrowed := true }
def EntryManyUptoSaid : Prop := entryManyUptoRow.holds Try.pinned (OpenSpec.upto entryManySpec)

/-- 'awardingbodylaw13.EntryOwn', WHERE WHAT IT READS IS OF BULK AT MOST 1048576: true; the input reads as it did. -/
def entryOwnUptoRow : OpenClaim := { program := "ytkkhmngmhckgbaa", sum := "b87d9957b82a8fd5571b4d16653660ea725b2b344e6978e31b1784c1625fec5f", func := "awardingbody/awardingbodylaw13.EntryOwn", spec := "entryOwn", inPlace := ["slices.overlaps[awardingbody/api.Enrolment]"], unfollowed := true, recurses := true, plainKeys := false, apart := false, narrowed := true }
def EntryOwnUptoSaid : Prop := entryOwnUptoRow.holds Try.pinned (OpenSpec.upto entryOwnSpec)

end Rows
end Go.Proofs.Ytkkhmngmhckgbaa
