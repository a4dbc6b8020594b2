/-
  No cell of these rows narrows 'for every input' (looked for: loops, veiled, ifaces, maps, wideKeys, modest, calm, conditions, laid).
  DERIVED. THE GIVEN ROWS OF THIS SEAT. 5 by the template 'for every input the law returns true; each argument reads behind the call as it read before'; 0 by the template 'total and deterministic' (their statements: YtalieakmjkmbbaaTotals.lean).
  GIVEN WITH THE SEED: the statements are not yours to turn. If you find one false, say at which input.
  Laid BY PROGRAM, IN A SANDBOX (cutbox-rows.mjs): the forced cells as the released guide's own fill.sh prints them over the translation 36f1555f0ce9c4c7… (all of the seat's roots in one cut). By AI agents, Wed Nov 11 2026. No macro, syntax, notation, axiom, sorry.
-/
import Derived.Test.YtalieakmjkmbbaaChecked
import GoSem.Claim
import GoSem.ClaimJoined
import GoSem.ClaimMapViews
import Derived.JoinedTies
import Derived.KernelRfl
namespace Go.Proofs.Ytalieakmjkmbbaa
/- THE CELL 'sum', in the pinned program and in every row, IS THE sha256 OF THE DUMP (.gsa) THAT YtalieakmjkmbbaaProg.lean LOADS. Nothing in Lean hashes anything: it is a label: what it is worth is what the hold of that sum in a sandbox is worth. -/
noncomputable def Try.pinned : Pinned := { name := "ytalieakmjkmbbaa", sum := "36f1555f0ce9c4c76886d4fe516e4e5caf40676fd53bb53dee2e4497267de937", checked := Try.checked }
namespace Rows
def none {H : Type} : Left H := { results := [], args := [] }

/-- 'shallotlaw14.LinkTakes': WHATEVER THE INPUT: true; the input reads as it did. -/
def linkTakesSpec : ChangeSpec := { name := "linkTakes", fn := fun _ => fun
  | [d1, d2, d3, d4] => { results := [.lit (.bool true)], args := [d1, d2, d3, d4] }
  | _ => none }
def linkTakesRow : OpenClaim := { program := "ytalieakmjkmbbaa", sum := "36f1555f0ce9c4c76886d4fe516e4e5caf40676fd53bb53dee2e4497267de937", func := "shallot/shallotlaw14.LinkTakes", spec := "linkTakes", apart := false }
def LinkTakesSaid : Prop := linkTakesRow.holds Try.pinned (OpenSpec.ofChange linkTakesSpec)

/-- ITS FALSE NEIGHBOUR: 'it returns false'. Refute it at one input. -/
def linkTakesWrong : ChangeSpec := { name := "linkTakes", fn := fun _ => fun
  | [d1, d2, d3, d4] => { results := [.lit (.bool false)], args := [d1, d2, d3, d4] }
  | _ => none }
def LinkTakesWrongFalsely : Prop := linkTakesRow.holds Try.pinned (OpenSpec.ofChange linkTakesWrong)

/-- 'shallotlaw14.LinkAgain': WHATEVER THE INPUT: true; the input reads as it did. -/
def linkAgainSpec : ChangeSpec := { name := "linkAgain", fn := fun _ => fun
  | [d1, d2, d3] => { results := [.lit (.bool true)], args := [d1, d2, d3] }
  | _ => none }
def linkAgainRow : OpenClaim := { program := "ytalieakmjkmbbaa", sum := "36f1555f0ce9c4c76886d4fe516e4e5caf40676fd53bb53dee2e4497267de937", func := "shallot/shallotlaw14.LinkAgain", spec := "linkAgain", apart := false }
def LinkAgainSaid : Prop := linkAgainRow.holds Try.pinned (OpenSpec.ofChange linkAgainSpec)

/-- ITS FALSE NEIGHBOUR: 'it returns false'. Refute it at one input. -/
def linkAgainWrong : ChangeSpec := { name := "linkAgain", fn := fun _ => fun
  | [d1, d2, d3] => { results := [.lit (.bool false)], args := [d1, d2, d3] }
  | _ => none }
def LinkAgainWrongFalsely : Prop := linkAgainRow.holds Try.pinned (OpenSpec.ofChange linkAgainWrong)

/-- 'shallotlaw14.LinkNumbers': WHATEVER THE INPUT: true; the input reads as it did. -/
def linkNumbersSpec : ChangeSpec := { name := "linkNumbers", fn := fun _ => fun
  | [d1, d2, d3] => { results := [.lit (.bool true)], args := [d1, d2, d3] }
  | _ => none }
def linkNumbersRow : OpenClaim := { program := "ytalieakmjkmbbaa", sum := "36f1555f0ce9c4c76886d4fe516e4e5caf40676fd53bb53dee2e4497267de937", func := "shallot/shallotlaw14.LinkNumbers", spec := "linkNumbers", apart := false }
def LinkNumbersSaid : Prop := linkNumbersRow.holds Try.pinned (OpenSpec.ofChange linkNumbersSpec)

/-- ITS FALSE NEIGHBOUR: 'it returns false'. Refute it at one input. -/
def linkNumbersWrong : ChangeSpec := { name := "linkNumbers", fn := fun _ => fun
  | [d1, d2, d3] => { results := [.lit (.bool false)], args := [d1, d2, d3] }
  | _ => none }
def LinkNumbersWrongFalsely : Prop := linkNumbersRow.holds Try.pinned (OpenSpec.ofChange linkNumbersWrong)

/-- 'shallotlaw14.LinkOrder': WHATEVER THE INPUT: true; the input reads as it did. -/
def linkOrderSpec : ChangeSpec := { name := "linkOrder", fn := fun _ => fun
  | [d1, d2] => { results := [.lit (.bool true)], args := [d1, d2] }
  | _ => none }
def linkOrderRow : OpenClaim := { program := "ytalieakmjkmbbaa", sum := "36f1555f0ce9c4c76886d4fe516e4e5caf40676fd53bb53dee2e4497267de937", func := "shallot/shallotlaw14.LinkOrder", spec := "linkOrder", apart := false }
def LinkOrderSaid : Prop := linkOrderRow.holds Try.pinned (OpenSpec.ofChange linkOrderSpec)

/-- ITS FALSE NEIGHBOUR: 'it returns false'. Refute it at one input. -/
def linkOrderWrong : ChangeSpec := { name := "linkOrder", fn := fun _ => fun
  | [d1, d2] => { results := [.lit (.bool false)], args := [d1, d2] }
  | _ => none }
def LinkOrderWrongFalsely : Prop := linkOrderRow.holds Try.pinned (OpenSpec.ofChange linkOrderWrong)

/-- 'shallotlaw14.LinkAll': WHATEVER THE INPUT: true; the input reads as it did. -/
def linkAllSpec : ChangeSpec := { name := "linkAll", fn := fun _ => fun
  | [d1, d2] => { results := [.lit (.bool true)], args := [d1, d2] }
  | _ => none }
def linkAllRow : OpenClaim := { program := "ytalieakmjkmbbaa", sum := "36f1555f0ce9c4c76886d4fe516e4e5caf40676fd53bb53dee2e4497267de937", func := "shallot/shallotlaw14.LinkAll", spec := "linkAll", apart := false }
def LinkAllSaid : Prop := linkAllRow.holds Try.pinned (OpenSpec.ofChange linkAllSpec)

/-- ITS FALSE NEIGHBOUR: 'it returns false'. Refute it at one input. -/
def linkAllWrong : ChangeSpec := { name := "linkAll", fn := fun _ => fun
  | [d1, d2] => { results := [.lit (.bool false)], args := [d1, d2] }
  | _ => none }
def LinkAllWrongFalsely : Prop := linkAllRow.holds Try.pinned (OpenSpec.ofChange linkAllWrong)

/- THE SECOND FORM. 'bulk': how many values and letters a reading holds, each counted each time it is reached (what is shared counts as often as it is met; a slice's spare places count too). A statement '..UptoSaid' is the law's where the arguments, and the package variables that the reading takes, are together of bulk at most 1048576: NARROWER than '..Said'. Prove '..Said' where nothing that the law and all that it calls make is longer than what came in: it says more and counts as full. Else prove '..UptoSaid'. A law counts once. -/
mutual
def uptoBulk {H : Type} : DataW H → Nat
  | .lit (.string bytes) => bytes.length + 1
  | .lit _ => 1
  | .nil => 1
  | .ptr d => uptoBulk d + 1
  | .slice elems spare => uptoBulkAll elems + uptoBulkAll spare + 1
  | .agg parts => uptoBulkAll parts + 1
  | .iface _ d => uptoBulk d + 1
  | .map entries => uptoBulkEntries entries + 1
  | .held _ => 1
def uptoBulkAll {H : Type} : List (DataW H) → Nat
  | [] => 0
  | d :: r => uptoBulk d + uptoBulkAll r
def uptoBulkEntries {H : Type} : List (Lit × DataW H) → Nat
  | [] => 0
  | x :: r => uptoBulkEntry x + uptoBulkEntries r
def uptoBulkEntry {H : Type} : Lit × DataW H → Nat
  | (.string bytes, d) => bytes.length + uptoBulk d + 1
  | (_, d) => uptoBulk d + 1
 end
def uptoSmall : (H : Type) → List (DataW H) → Bool := fun _ ds => decide (uptoBulkAll ds ≤ 1048576)
def OpenSpec.upto (s : _root_.Go.ChangeSpec) : _root_.Go.OpenSpec := { _root_.Go.OpenSpec.ofChange s with cond := some uptoSmall }

/-- 'shallotlaw14.LinkTakes', WHERE WHAT IT READS IS OF BULK AT MOST 1048576: true; the input reads as it did. -/
def linkTakesUptoRow : OpenClaim := { program := "ytalieakmjkmbbaa", sum := "36f1555f0ce9c4c76886d4fe516e4e5caf40676fd53bb53dee2e4497267de937", func := "shallot/shallotlaw14.LinkTakes", spec := "linkTakes", apart := false, narrowed := true }
def LinkTakesUptoSaid : Prop := linkTakesUptoRow.holds Try.pinned (OpenSpec.upto linkTakesSpec)

/-- 'shallotlaw14.LinkAgain', WHERE WHAT IT READS IS OF BULK AT MOST 1048576: true; the input reads as it did. -/
def linkAgainUptoRow : OpenClaim := { program := "ytalieakmjkmbbaa", sum := "36f1555f0ce9c4c76886d4fe516e4e5caf40676fd53bb53dee2e4497267de937", func := "shallot/shallotlaw14.LinkAgain", spec := "linkAgain", apart := false, narrowed := true }
def LinkAgainUptoSaid : Prop := linkAgainUptoRow.holds Try.pinned (OpenSpec.upto linkAgainSpec)

/-- 'shallotlaw14.LinkNumbers', WHERE WHAT IT READS IS OF BULK AT MOST 1048576: true; the input reads as it did. -/
def linkNumbersUptoRow : OpenClaim := { program := "ytalieakmjkmbbaa", sum := "36f1555f0ce9c4c76886d4fe516e4e5caf40676fd53bb53dee2e4497267de937", func := "shallot/shallotlaw14.LinkNumbers", spec := "linkNumbers", apart := false, narrowed := true }
def LinkNumbersUptoSaid : Prop := linkNumbersUptoRow.holds Try.pinned (OpenSpec.upto linkNumbersSpec)

/-- 'shallotlaw14.LinkOrder', WHERE WHAT IT READS IS OF BULK AT MOST 1048576: true; the input reads as it did. -/
def linkOrderUptoRow : OpenClaim := { program := "ytalieakmjkmbbaa", sum := "36f1555f0ce9c4c76886d4fe516e4e5caf40676fd53bb53dee2e4497267de937", func := "shallot/shallotlaw14.LinkOrder", spec := "linkOrder", apart := false, narrowed := true }
def LinkOrderUptoSaid : Prop := linkOrderUptoRow.holds Try.pinned (OpenSpec.upto linkOrderSpec)

/-- 'shallotlaw14.LinkAll', WHERE WHAT IT READS IS OF BULK AT MOST 1048576: true; the input reads as it did. -/
def linkAllUptoRow : OpenClaim := { program := "ytalieakmjkmbbaa", sum := "36f1555f0ce9c4c76886d4fe516e4e5caf40676fd53bb53dee2e4497267de937", func := "shallot/shallotlaw14.LinkAll", spec := "linkAll", apart := false, narrowed := true }
def LinkAllUptoSaid : Prop := linkAllUptoRow.holds Try.pinned (OpenSpec.upto linkAllSpec)

end Rows
end Go.Proofs.Ytalieakmjkmbbaa
