/-
  No cell of these rows narrows 'for every input' (looked for: loops, veiled, ifaces, maps, wideKeys, modest, calm, conditions, laid).
  DERIVED. THE GIVEN ROWS OF THIS SEAT. 4 by the template 'for every input the law returns true; each argument reads behind the call as it read before'; 0 by the template 'total and deterministic' (their statements: YtigpalnmeefphaaTotals.lean).
  GIVEN WITH THE SEED: the statements are not yours to turn. If you find one false, say at which input.
  Laid BY PROGRAM, IN A SANDBOX (cutbox-rows.mjs): the forced cells as the released guide's own fill.sh prints them over the translation 1eb948f31d22d1e0… (all of the seat's roots in one cut). By AI agents, Wed Nov 11 2026. No macro, syntax, notation, axiom, sorry.
-/
import Derived.Test.YtigpalnmeefphaaChecked
import GoSem.Claim
import GoSem.ClaimJoined
import GoSem.ClaimMapViews
import Derived.JoinedTies
import Derived.KernelRfl
namespace Go.Proofs.Ytigpalnmeefphaa
/- THE CELL 'sum', in the pinned program and in every row, IS THE sha256 OF THE DUMP (.gsa) THAT YtigpalnmeefphaaProg.lean LOADS. Nothing in Lean hashes anything: it is a label: what it is worth is what the hold of that sum in a sandbox is worth. -/
noncomputable def Try.pinned : Pinned := { name := "ytigpalnmeefphaa", sum := "1eb948f31d22d1e0428be2284631d128c087783612607fcbdbd5e4cbaffa7606", checked := Try.checked }
namespace Rows
def none {H : Type} : Left H := { results := [], args := [] }

/-- 'shallotlaw22.BoundCounts': WHATEVER THE INPUT: true; the input reads as it did. -/
def boundCountsSpec : ChangeSpec := { name := "boundCounts", fn := fun _ => fun
  | [d1, d2, d3] => { results := [.lit (.bool true)], args := [d1, d2, d3] }
  | _ => none }
def boundCountsRow : OpenClaim := { program := "ytigpalnmeefphaa", sum := "1eb948f31d22d1e0428be2284631d128c087783612607fcbdbd5e4cbaffa7606", func := "shallot/shallotlaw22.BoundCounts", spec := "boundCounts", apart := false }
def BoundCountsSaid : Prop := boundCountsRow.holds Try.pinned (OpenSpec.ofChange boundCountsSpec)

/-- ITS FALSE NEIGHBOUR: 'it returns false'. Refute it at one input. -/
def boundCountsWrong : ChangeSpec := { name := "boundCounts", fn := fun _ => fun
  | [d1, d2, d3] => { results := [.lit (.bool false)], args := [d1, d2, d3] }
  | _ => none }
def BoundCountsWrongFalsely : Prop := boundCountsRow.holds Try.pinned (OpenSpec.ofChange boundCountsWrong)

/-- 'shallotlaw22.BoundFates': WHATEVER THE INPUT: true; the input reads as it did. -/
def boundFatesSpec : ChangeSpec := { name := "boundFates", fn := fun _ => fun
  | [d1, d2, d3] => { results := [.lit (.bool true)], args := [d1, d2, d3] }
  | _ => none }
def boundFatesRow : OpenClaim := { program := "ytigpalnmeefphaa", sum := "1eb948f31d22d1e0428be2284631d128c087783612607fcbdbd5e4cbaffa7606", func := "shallot/shallotlaw22.BoundFates", spec := "boundFates", apart := false }
def BoundFatesSaid : Prop := boundFatesRow.holds Try.pinned (OpenSpec.ofChange boundFatesSpec)

/-- ITS FALSE NEIGHBOUR: 'it returns false'. Refute it at one input. -/
def boundFatesWrong : ChangeSpec := { name := "boundFates", fn := fun _ => fun
  | [d1, d2, d3] => { results := [.lit (.bool false)], args := [d1, d2, d3] }
  | _ => none }
def BoundFatesWrongFalsely : Prop := boundFatesRow.holds Try.pinned (OpenSpec.ofChange boundFatesWrong)

/-- 'shallotlaw22.BoundMore': WHATEVER THE INPUT: true; the input reads as it did. -/
def boundMoreSpec : ChangeSpec := { name := "boundMore", fn := fun _ => fun
  | [d1, d2, d3] => { results := [.lit (.bool true)], args := [d1, d2, d3] }
  | _ => none }
def boundMoreRow : OpenClaim := { program := "ytigpalnmeefphaa", sum := "1eb948f31d22d1e0428be2284631d128c087783612607fcbdbd5e4cbaffa7606", func := "shallot/shallotlaw22.BoundMore", spec := "boundMore", unfollowed := true, recurses := true, apart := false }
def BoundMoreSaid : Prop := boundMoreRow.holds Try.pinned (OpenSpec.ofChange boundMoreSpec)

/-- ITS FALSE NEIGHBOUR: 'it returns false'. Refute it at one input. -/
def boundMoreWrong : ChangeSpec := { name := "boundMore", fn := fun _ => fun
  | [d1, d2, d3] => { results := [.lit (.bool false)], args := [d1, d2, d3] }
  | _ => none }
def BoundMoreWrongFalsely : Prop := boundMoreRow.holds Try.pinned (OpenSpec.ofChange boundMoreWrong)

/-- 'shallotlaw22.BoundDead': WHATEVER THE INPUT: true; the input reads as it did. -/
def boundDeadSpec : ChangeSpec := { name := "boundDead", fn := fun _ => fun
  | [d1, d2, d3] => { results := [.lit (.bool true)], args := [d1, d2, d3] }
  | _ => none }
def boundDeadRow : OpenClaim := { program := "ytigpalnmeefphaa", sum := "1eb948f31d22d1e0428be2284631d128c087783612607fcbdbd5e4cbaffa7606", func := "shallot/shallotlaw22.BoundDead", spec := "boundDead", unfollowed := true, recurses := true, apart := false }
def BoundDeadSaid : Prop := boundDeadRow.holds Try.pinned (OpenSpec.ofChange boundDeadSpec)

/-- ITS FALSE NEIGHBOUR: 'it returns false'. Refute it at one input. -/
def boundDeadWrong : ChangeSpec := { name := "boundDead", fn := fun _ => fun
  | [d1, d2, d3] => { results := [.lit (.bool false)], args := [d1, d2, d3] }
  | _ => none }
def BoundDeadWrongFalsely : Prop := boundDeadRow.holds Try.pinned (OpenSpec.ofChange boundDeadWrong)

/- THE SECOND FORM. 'bulk': how many values and letters a reading holds, each counted each time it is reached (what is shared counts as often as it is met; a slice's spare places count too). A statement '..UptoSaid' is the law's where the arguments, and the package variables that the reading takes, are together of bulk at most 1048576: NARROWER than '..Said'. Prove '..Said' where nothing that the law and all that it calls make is longer than what came in: it says more and counts as full. Else prove '..UptoSaid'. A law counts once. -/
mutual
def uptoBulk {H : Type} : DataW H → Nat
  | .lit (.string bytes) => bytes.length + 1
  | .lit _ => 1
  | .nil => 1
  | .ptr d => uptoBulk d + 1
  | .slice elems spare => uptoBulkAll elems + uptoBulkAll spare + 1
  | .agg parts => uptoBulkAll parts + 1
  | .iface _ d => uptoBulk d + 1
  | .map entries => uptoBulkEntries entries + 1
  | .held _ => 1
def uptoBulkAll {H : Type} : List (DataW H) → Nat
  | [] => 0
  | d :: r => uptoBulk d + uptoBulkAll r
def uptoBulkEntries {H : Type} : List (Lit × DataW H) → Nat
  | [] => 0
  | x :: r => uptoBulkEntry x + uptoBulkEntries r
def uptoBulkEntry {H : Type} : Lit × DataW H → Nat
  | (.string bytes, d) => bytes.length + uptoBulk d + 1
  | (_, d) => uptoBulk d + 1
 end
def uptoSmall : (H : Type) → List (DataW H) → Bool := fun _ ds => decide (uptoBulkAll ds ≤ 1048576)
def OpenSpec.upto (s : _root_.Go.ChangeSpec) : _root_.Go.OpenSpec := { _root_.Go.OpenSpec.ofChange s with cond := some uptoSmall }

/-- 'shallotlaw22.BoundCounts', WHERE WHAT IT READS IS OF BULK AT MOST 1048576: true; the input reads as it did. -/
def boundCountsUptoRow : OpenClaim := { program := "ytigpalnmeefphaa", sum := "1eb948f31d22d1e0428be2284631d128c087783612607fcbdbd5e4cbaffa7606", func := "shallot/shallotlaw22.BoundCounts", spec := "boundCounts", apart := false, narrowed := true }
def BoundCountsUptoSaid : Prop := boundCountsUptoRow.holds Try.pinned (OpenSpec.upto boundCountsSpec)

/-- 'shallotlaw22.BoundFates', WHERE WHAT IT READS IS OF BULK AT MOST 1048576: true; the input reads as it did. -/
def boundFatesUptoRow : OpenClaim := { program := "ytigpalnmeefphaa", sum := "1eb948f31d22d1e0428be2284631d128c087783612607fcbdbd5e4cbaffa7606", func := "shallot/shallotlaw22.BoundFates", spec := "boundFates", apart := false, narrowed := true }
def BoundFatesUptoSaid : Prop := boundFatesUptoRow.holds Try.pinned (OpenSpec.upto boundFatesSpec)

/-- 'shallotlaw22.BoundMore', WHERE WHAT IT READS IS OF BULK AT MOST 1048576: true; the input reads as it did. -/
def boundMoreUptoRow : OpenClaim := { program := "ytigpalnmeefphaa", sum := "1eb948f31d22d1e0428be2284631d128c087783612607fcbdbd5e4cbaffa7606", func := "shallot/shallotlaw22.BoundMore", spec := "boundMore", unfollowed := true, recurses := true, apart := false, narrowed := true }
def BoundMoreUptoSaid : Prop := boundMoreUptoRow.holds Try.pinned (OpenSpec.upto boundMoreSpec)

/-- 'shallotlaw22.BoundDead', WHERE WHAT IT READS IS OF BULK AT MOST 1048576: true; the input reads as it did. -/
def boundDeadUptoRow : OpenClaim := { program := "ytigpalnmeefphaa", sum := "1eb948f31d22d1e0428be2284631d128c087783612607fcbdbd5e4cbaffa7606", func := "shallot/shallotlaw22.BoundDead", spec := "boundDead", unfollowed := true, recurses := true, apart := false, narrowed := true }
def BoundDeadUptoSaid : Prop := boundDeadUptoRow.holds Try.pinned (OpenSpec.upto boundDeadSpec)

end Rows
end Go.Proofs.Ytigpalnmeefphaa
