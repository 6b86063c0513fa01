/-
  No cell of these rows narrows 'for every input' (looked for: loops, veiled, ifaces, maps, wideKeys, modest, calm, conditions, laid).
  DERIVED. THE GIVEN ROWS OF THIS SEAT. 4 by the template 'for every input the law returns true; each argument reads behind the call as it read before'; 0 by the template 'total and deterministic' (their statements: YtbicmjeldappjaaTotals.lean).
  GIVEN WITH THE SEED: the statements are not yours to turn. If you find one false, say at which input.
  Laid BY PROGRAM, IN A SANDBOX (cutbox-rows.mjs): the forced cells as the released guide's own fill.sh prints them over the translation 1b3e2b79b1003e8e… (all of the seat's roots in one cut). By AI agents, Wed Nov 11 2026. No macro, syntax, notation, axiom, sorry.
-/
import Derived.Test.YtbicmjeldappjaaChecked
import GoSem.Claim
import GoSem.ClaimJoined
import GoSem.ClaimMapViews
import Derived.JoinedTies
import Derived.KernelRfl
namespace Go.Proofs.Ytbicmjeldappjaa
/- THE CELL 'sum', in the pinned program and in every row, IS THE sha256 OF THE DUMP (.gsa) THAT YtbicmjeldappjaaProg.lean LOADS. Nothing in Lean hashes anything: it is a label: what it is worth is what the hold of that sum in a sandbox is worth. -/
noncomputable def Try.pinned : Pinned := { name := "ytbicmjeldappjaa", sum := "1b3e2b79b1003e8e75966104dc473911aafc27edaf97f965126493767b5beea9", checked := Try.checked }
namespace Rows
def none {H : Type} : Left H := { results := [], args := [] }

/-- 'awardingbodylaw28.MarklogOrder': WHATEVER THE INPUT: true; the input reads as it did. -/
def marklogOrderSpec : ChangeSpec := { name := "marklogOrder", fn := fun _ => fun
  | [d] => { results := [.lit (.bool true)], args := [d] }
  | _ => none }
def marklogOrderRow : OpenClaim := { program := "ytbicmjeldappjaa", sum := "1b3e2b79b1003e8e75966104dc473911aafc27edaf97f965126493767b5beea9", func := "awardingbody/awardingbodylaw28.MarklogOrder", spec := "marklogOrder", unfollowed := true, recurses := true, plainKeys := false, apart := false }
def MarklogOrderSaid : Prop := marklogOrderRow.holds Try.pinned (OpenSpec.ofChange marklogOrderSpec)

/-- ITS FALSE NEIGHBOUR: 'it returns false'. Refute it at one input. -/
def marklogOrderWrong : ChangeSpec := { name := "marklogOrder", fn := fun _ => fun
  | [d] => { results := [.lit (.bool false)], args := [d] }
  | _ => none }
def MarklogOrderWrongFalsely : Prop := marklogOrderRow.holds Try.pinned (OpenSpec.ofChange marklogOrderWrong)

/-- 'awardingbodylaw28.MarklogArrives': WHATEVER THE INPUT: true; the input reads as it did. -/
def marklogArrivesSpec : ChangeSpec := { name := "marklogArrives", fn := fun _ => fun
  | [d1, d2] => { results := [.lit (.bool true)], args := [d1, d2] }
  | _ => none }
def marklogArrivesRow : OpenClaim := { program := "ytbicmjeldappjaa", sum := "1b3e2b79b1003e8e75966104dc473911aafc27edaf97f965126493767b5beea9", func := "awardingbody/awardingbodylaw28.MarklogArrives", spec := "marklogArrives", unfollowed := true, recurses := true, plainKeys := false, apart := false }
def MarklogArrivesSaid : Prop := marklogArrivesRow.holds Try.pinned (OpenSpec.ofChange marklogArrivesSpec)

/-- ITS FALSE NEIGHBOUR: 'it returns false'. Refute it at one input. -/
def marklogArrivesWrong : ChangeSpec := { name := "marklogArrives", fn := fun _ => fun
  | [d1, d2] => { results := [.lit (.bool false)], args := [d1, d2] }
  | _ => none }
def MarklogArrivesWrongFalsely : Prop := marklogArrivesRow.holds Try.pinned (OpenSpec.ofChange marklogArrivesWrong)

/-- 'awardingbodylaw28.MarklogExact': WHATEVER THE INPUT: true; the input reads as it did. -/
def marklogExactSpec : ChangeSpec := { name := "marklogExact", fn := fun _ => fun
  | [d1, d2, d3, d4] => { results := [.lit (.bool true)], args := [d1, d2, d3, d4] }
  | _ => none }
def marklogExactRow : OpenClaim := { program := "ytbicmjeldappjaa", sum := "1b3e2b79b1003e8e75966104dc473911aafc27edaf97f965126493767b5beea9", func := "awardingbody/awardingbodylaw28.MarklogExact", spec := "marklogExact", unfollowed := true, recurses := true, plainKeys := false, apart := false }
def MarklogExactSaid : Prop := marklogExactRow.holds Try.pinned (OpenSpec.ofChange marklogExactSpec)

/-- ITS FALSE NEIGHBOUR: 'it returns false'. Refute it at one input. -/
def marklogExactWrong : ChangeSpec := { name := "marklogExact", fn := fun _ => fun
  | [d1, d2, d3, d4] => { results := [.lit (.bool false)], args := [d1, d2, d3, d4] }
  | _ => none }
def MarklogExactWrongFalsely : Prop := marklogExactRow.holds Try.pinned (OpenSpec.ofChange marklogExactWrong)

/-- 'awardingbodylaw28.MarklogTimes': WHATEVER THE INPUT: true; the input reads as it did. -/
def marklogTimesSpec : ChangeSpec := { name := "marklogTimes", fn := fun _ => fun
  | [d1, d2] => { results := [.lit (.bool true)], args := [d1, d2] }
  | _ => none }
def marklogTimesRow : OpenClaim := { program := "ytbicmjeldappjaa", sum := "1b3e2b79b1003e8e75966104dc473911aafc27edaf97f965126493767b5beea9", func := "awardingbody/awardingbodylaw28.MarklogTimes", spec := "marklogTimes", unfollowed := true, recurses := true, plainKeys := false, apart := false }
def MarklogTimesSaid : Prop := marklogTimesRow.holds Try.pinned (OpenSpec.ofChange marklogTimesSpec)

/-- ITS FALSE NEIGHBOUR: 'it returns false'. Refute it at one input. -/
def marklogTimesWrong : ChangeSpec := { name := "marklogTimes", fn := fun _ => fun
  | [d1, d2] => { results := [.lit (.bool false)], args := [d1, d2] }
  | _ => none }
def MarklogTimesWrongFalsely : Prop := marklogTimesRow.holds Try.pinned (OpenSpec.ofChange marklogTimesWrong)

/- THE SECOND FORM. 'bulk': how many values and letters a reading holds, each counted each time it is reached (what is shared counts as often as it is met; a slice's spare places count too). A statement '..UptoSaid' is the law's where the arguments, and the package variables that the reading takes, are together of bulk at most 1048576: NARROWER than '..Said'. Prove '..Said' where nothing that the law and all that it calls make is longer than what came in: it says more and counts as full. Else prove '..UptoSaid'. A law counts once. -/
mutual
def uptoBulk {H : Type} : DataW H → Nat
  | .lit (.string bytes) => bytes.length + 1
  | .lit _ => 1
  | .nil => 1
  | .ptr d => uptoBulk d + 1
  | .slice elems spare => uptoBulkAll elems + uptoBulkAll spare + 1
  | .agg parts => uptoBulkAll parts + 1
  | .iface _ d => uptoBulk d + 1
  | .map entries => uptoBulkEntries entries + 1
  | .held _ => 1
def uptoBulkAll {H : Type} : List (DataW H) → Nat
  | [] => 0
  | d :: r => uptoBulk d + uptoBulkAll r
def uptoBulkEntries {H : Type} : List (Lit × DataW H) → Nat
  | [] => 0
  | x :: r => uptoBulkEntry x + uptoBulkEntries r
def uptoBulkEntry {H : Type} : Lit × DataW H → Nat
  | (.string bytes, d) => bytes.length + uptoBulk d + 1
  | (_, d) => uptoBulk d + 1
 end
def uptoSmall : (H : Type) → List (DataW H) → Bool := fun _ ds => decide (uptoBulkAll ds ≤ 1048576)
def OpenSpec.upto (s : _root_.Go.ChangeSpec) : _root_.Go.OpenSpec := { _root_.Go.OpenSpec.ofChange s with cond := some uptoSmall }

/-- 'awardingbodylaw28.MarklogOrder', WHERE WHAT IT READS IS OF BULK AT MOST 1048576: true; the input reads as it did. -/
def marklogOrderUptoRow : OpenClaim := { program := "ytbicmjeldappjaa", sum := "1b3e2b79b1003e8e75966104dc473911aafc27edaf97f965126493767b5beea9", func := "awardingbody/awardingbodylaw28.MarklogOrder", spec := "marklogOrder", unfollowed := true, recurses := true, plainKeys := false, apart := false, narrowed := true }
def MarklogOrderUptoSaid : Prop := marklogOrderUptoRow.holds Try.pinned (OpenSpec.upto marklogOrderSpec)

/-- 'awardingbodylaw28.MarklogArrives', WHERE WHAT IT READS IS OF BULK AT MOST 1048576: true; the input reads as it did. -/
def marklogArrivesUptoRow : OpenClaim := { program := "ytbicmjeldappjaa", sum := "1b3e2b79b1003e8e75966104dc473911aafc27edaf97f965126493767b5beea9", func := "awardingbody/awardingbodylaw28.MarklogArrives", spec := "marklogArrives", unfollowed := true, recurses := true, plainKeys := false, apart := false, narrowed := true }
def MarklogArrivesUptoSaid : Prop := marklogArrivesUptoRow.holds Try.pinned (OpenSpec.upto marklogArrivesSpec)

/-- 'awardingbodylaw28.MarklogExact', WHERE WHAT IT READS IS OF BULK AT MOST 1048576: true; the input reads as it did. -/
def marklogExactUptoRow : OpenClaim := { program := "ytbicmjeldappjaa", sum := "1b3e2b79b1003e8e75966104dc473911aafc27edaf97f965126493767b5beea9", func := "awardingbody/awardingbodylaw28.MarklogExact", spec := "marklogExact", unfollowed := true, recurses := true, plainKeys := false, apart := false, narrowed := true }
def MarklogExactUptoSaid : Prop := marklogExactUptoRow.holds Try.pinned (OpenSpec.upto marklogExactSpec)

/-- 'awardingbodylaw28.MarklogTimes', WHERE WHAT IT READS IS OF BULK AT MOST 1048576: true; the input reads as it did. -/
def marklogTimesUptoRow : OpenClaim := { program := "ytbicmjeldappjaa", sum := "1b3e2b79b1003e8e75966104dc473911aafc27edaf97f965126493767b5beea9", func := "awardingbody/awardingbodylaw28.MarklogTimes", spec := "marklogTimes", unfollowed := true, recurses := true, plainKeys := false, apart := false, narrowed := true }
def MarklogTimesUptoSaid : Prop := marklogTimesUptoRow.holds Try.pinned (OpenSpec.upto marklogTimesSpec)

end Rows
end Go.Proofs.Ytbicmjeldappjaa
