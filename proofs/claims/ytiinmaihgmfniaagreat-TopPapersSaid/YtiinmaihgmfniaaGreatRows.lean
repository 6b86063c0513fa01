/-
  No cell of these rows narrows 'for every input' (looked for: loops, veiled, ifaces, maps, wideKeys, modest, calm, conditions, laid).
  DERIVED. THE GIVEN ROWS OF THIS SEAT. 3 by the template 'for every input the law returns true; each argument reads behind the call as it read before'; 0 by the template 'total and deterministic' (their statements: YtiinmaihgmfniaaGreatTotals.lean).
  GIVEN WITH THE SEED: the statements are not yours to turn. If you find one false, say at which input.
  Laid BY PROGRAM, IN A SANDBOX (cutbox-rows.mjs): the forced cells as the released guide's own fill.sh prints them over the translation 8e047619e8c7d6db… (all of the seat's roots in one cut). By AI agents, Wed Nov 11 2026. No macro, syntax, notation, axiom, sorry.
-/
import Derived.Test.YtiinmaihgmfniaaGreatChecked
import GoSem.Claim
import GoSem.ClaimJoined
import GoSem.ClaimMapViews
import Derived.JoinedTies
import Derived.KernelRfl
namespace Go.Proofs.YtiinmaihgmfniaaGreat
/- THE CELL 'sum', in the pinned program and in every row, IS THE sha256 OF THE DUMP (.gsa) THAT YtiinmaihgmfniaaGreatProg.lean LOADS. Nothing in Lean hashes anything: it is a label: what it is worth is what the hold of that sum in a sandbox is worth. -/
noncomputable def Tryz.pinned : Pinned := { name := "ytiinmaihgmfniaagreat", sum := "8e047619e8c7d6db64946e3ae4b45074911f2dca94155fefb1d2878d29984c26", checked := Tryz.checked }
namespace Rows
def none {H : Type} : Left H := { results := [], args := [] }

/-- 'awardingbodytop.TopSeated': WHATEVER THE INPUT: true; the input reads as it did. -/
def topSeatedSpec : ChangeSpec := { name := "topSeated", fn := fun _ => fun
  | [d1, d2] => { results := [.lit (.bool true)], args := [d1, d2] }
  | _ => none }
def topSeatedRow : OpenClaim := { program := "ytiinmaihgmfniaagreat", sum := "8e047619e8c7d6db64946e3ae4b45074911f2dca94155fefb1d2878d29984c26", func := "awardingbody/awardingbodytop.TopSeated", spec := "topSeated", inPlace := ["slices.overlaps[awardingbody/api.Enrolment]"], unfollowed := true, recurses := true, plainKeys := false, apart := false }
def TopSeatedSaid : Prop := topSeatedRow.holds Tryz.pinned (OpenSpec.ofChange topSeatedSpec)

/-- ITS FALSE NEIGHBOUR: 'it returns false'. Refute it at one input. -/
def topSeatedWrong : ChangeSpec := { name := "topSeated", fn := fun _ => fun
  | [d1, d2] => { results := [.lit (.bool false)], args := [d1, d2] }
  | _ => none }
def TopSeatedWrongFalsely : Prop := topSeatedRow.holds Tryz.pinned (OpenSpec.ofChange topSeatedWrong)

/-- 'awardingbodytop.TopReused': WHATEVER THE INPUT: true; the input reads as it did. -/
def topReusedSpec : ChangeSpec := { name := "topReused", fn := fun _ => fun
  | [d1, d2] => { results := [.lit (.bool true)], args := [d1, d2] }
  | _ => none }
def topReusedRow : OpenClaim := { program := "ytiinmaihgmfniaagreat", sum := "8e047619e8c7d6db64946e3ae4b45074911f2dca94155fefb1d2878d29984c26", func := "awardingbody/awardingbodytop.TopReused", spec := "topReused", inPlace := ["slices.overlaps[awardingbody/api.Record]"], unfollowed := true, recurses := true, plainKeys := false, apart := false }
def TopReusedSaid : Prop := topReusedRow.holds Tryz.pinned (OpenSpec.ofChange topReusedSpec)

/-- ITS FALSE NEIGHBOUR: 'it returns false'. Refute it at one input. -/
def topReusedWrong : ChangeSpec := { name := "topReused", fn := fun _ => fun
  | [d1, d2] => { results := [.lit (.bool false)], args := [d1, d2] }
  | _ => none }
def TopReusedWrongFalsely : Prop := topReusedRow.holds Tryz.pinned (OpenSpec.ofChange topReusedWrong)

/-- 'awardingbodytop.TopPapers': WHATEVER THE INPUT: true; the input reads as it did. -/
def topPapersSpec : ChangeSpec := { name := "topPapers", fn := fun _ => fun
  | [d] => { results := [.lit (.bool true)], args := [d] }
  | _ => none }
def topPapersRow : OpenClaim := { program := "ytiinmaihgmfniaagreat", sum := "8e047619e8c7d6db64946e3ae4b45074911f2dca94155fefb1d2878d29984c26", func := "awardingbody/awardingbodytop.TopPapers", spec := "topPapers", inPlace := ["slices.overlaps[awardingbody/api.Record]"], unfollowed := true, recurses := true, plainKeys := false, apart := false }
def TopPapersSaid : Prop := topPapersRow.holds Tryz.pinned (OpenSpec.ofChange topPapersSpec)

/-- ITS FALSE NEIGHBOUR: 'it returns false'. Refute it at one input. -/
def topPapersWrong : ChangeSpec := { name := "topPapers", fn := fun _ => fun
  | [d] => { results := [.lit (.bool false)], args := [d] }
  | _ => none }
def TopPapersWrongFalsely : Prop := topPapersRow.holds Tryz.pinned (OpenSpec.ofChange topPapersWrong)

/- THE SECOND FORM. 'bulk': how many values and letters a reading holds, each counted each time it is reached (what is shared counts as often as it is met; a slice's spare places count too). A statement '..UptoSaid' is the law's where the arguments, and the package variables that the reading takes, are together of bulk at most 1048576: NARROWER than '..Said'. Prove '..Said' where nothing that the law and all that it calls make is longer than what came in: it says more and counts as full. Else prove '..UptoSaid'. A law counts once. -/
mutual
def uptoBulk {H : Type} : DataW H → Nat
  | .lit (.string bytes) => bytes.length + 1
  | .lit _ => 1
  | .nil => 1
  | .ptr d => uptoBulk d + 1
  | .slice elems spare => uptoBulkAll elems + uptoBulkAll spare + 1
  | .agg parts => uptoBulkAll parts + 1
  | .iface _ d => uptoBulk d + 1
  | .map entries => uptoBulkEntries entries + 1
  | .held _ => 1
def uptoBulkAll {H : Type} : List (DataW H) → Nat
  | [] => 0
  | d :: r => uptoBulk d + uptoBulkAll r
def uptoBulkEntries {H : Type} : List (Lit × DataW H) → Nat
  | [] => 0
  | x :: r => uptoBulkEntry x + uptoBulkEntries r
def uptoBulkEntry {H : Type} : Lit × DataW H → Nat
  | (.string bytes, d) => bytes.length + uptoBulk d + 1
  | (_, d) => uptoBulk d + 1
 end
def uptoSmall : (H : Type) → List (DataW H) → Bool := fun _ ds => decide (uptoBulkAll ds ≤ 1048576)
def OpenSpec.upto (s : _root_.Go.ChangeSpec) : _root_.Go.OpenSpec := { _root_.Go.OpenSpec.ofChange s with cond := some uptoSmall }

/-- 'awardingbodytop.TopSeated', WHERE WHAT IT READS IS OF BULK AT MOST 1048576: true; the input reads as it did. -/
def topSeatedUptoRow : OpenClaim := { program := "ytiinmaihgmfniaagreat", sum := "8e047619e8c7d6db64946e3ae4b45074911f2dca94155fefb1d2878d29984c26", func := "awardingbody/awardingbodytop.TopSeated", spec := "topSeated", inPlace := ["slices.overlaps[awardingbody/api.Enrolment]"], unfollowed := true, recurses := true, plainKeys := false, apart := false, narrowed := true }
def TopSeatedUptoSaid : Prop := topSeatedUptoRow.holds Tryz.pinned (OpenSpec.upto topSeatedSpec)

/-- 'awardingbodytop.TopReused', WHERE WHAT IT READS IS OF BULK AT MOST 1048576: true; the input reads as it did. -/
def topReusedUptoRow : OpenClaim := { program := "ytiinmaihgmfniaagreat", sum := "8e047619e8c7d6db64946e3ae4b45074911f2dca94155fefb1d2878d29984c26", func := "awardingbody/awardingbodytop.TopReused", spec := "topReused", inPlace := ["slices.overlaps[awardingbody/api.Record]"], unfollowed := true, recurses := true, plainKeys := false, apart := false, narrowed := true }
def TopReusedUptoSaid : Prop := topReusedUptoRow.holds Tryz.pinned (OpenSpec.upto topReusedSpec)

/-- 'awardingbodytop.TopPapers', WHERE WHAT IT READS IS OF BULK AT MOST 1048576: true; the input reads as it did. -/
def topPapersUptoRow : OpenClaim := { program := "ytiinmaihgmfniaagreat", sum := "8e047619e8c7d6db64946e3ae4b45074911f2dca94155fefb1d2878d29984c26", func := "awardingbody/awardingbodytop.TopPapers", spec := "topPapers", inPlace := ["slices.overlaps[awardingbody/api.Record]"], unfollowed := true, recurses := true, plainKeys := false, apart := false, narrowed := true }
def TopPapersUptoSaid : Prop := topPapersUptoRow.holds Tryz.pinned (OpenSpec.upto topPapersSpec)

end Rows
end Go.Proofs.YtiinmaihgmfniaaGreat
