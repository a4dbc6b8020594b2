/-
  No cell of these rows narrows 'for every input' (looked for: loops, veiled, ifaces, maps, wideKeys, modest, calm, conditions, laid).
  DERIVED. THE GIVEN ROWS OF THIS SEAT. 6 by the template 'for every input the law returns true; each argument reads behind the call as it read before'; 0 by the template 'total and deterministic' (their statements: YtcmdmmphakclmaaTotals.lean).
  GIVEN WITH THE SEED: the statements are not yours to turn. If you find one false, say at which input.
  Laid BY PROGRAM, IN A SANDBOX (cutbox-rows.mjs): the forced cells as the released guide's own fill.sh prints them over the translation 6c46fff54dea23b2… (all of the seat's roots in one cut). By AI agents, Wed Nov 11 2026. No macro, syntax, notation, axiom, sorry.
-/
import Derived.Test.YtcmdmmphakclmaaChecked
import GoSem.Claim
import GoSem.ClaimJoined
import GoSem.ClaimMapViews
import Derived.JoinedTies
import Derived.KernelRfl
namespace Go.Proofs.Ytcmdmmphakclmaa
/- THE CELL 'sum', in the pinned program and in every row, IS THE sha256 OF THE DUMP (.gsa) THAT YtcmdmmphakclmaaProg.lean LOADS. Nothing in Lean hashes anything: it is a label: what it is worth is what the hold of that sum in a sandbox is worth. -/
noncomputable def Try.pinned : Pinned := { name := "ytcmdmmphakclmaa", sum := "6c46fff54dea23b2322ba32173c6c83c0fefe5890307e81a80cbbde3ed9eb958", checked := Try.checked }
namespace Rows
def none {H : Type} : Left H := { results := [], args := [] }

/-- 'shallotlaw13.StoreOrder': WHATEVER THE INPUT: true; the input reads as it did. -/
def storeOrderSpec : ChangeSpec := { name := "storeOrder", fn := fun _ => fun
  | [d1, d2, d3] => { results := [.lit (.bool true)], args := [d1, d2, d3] }
  | _ => none }
def storeOrderRow : OpenClaim := { program := "ytcmdmmphakclmaa", sum := "6c46fff54dea23b2322ba32173c6c83c0fefe5890307e81a80cbbde3ed9eb958", func := "shallot/shallotlaw13.StoreOrder", spec := "storeOrder", apart := false }
def StoreOrderSaid : Prop := storeOrderRow.holds Try.pinned (OpenSpec.ofChange storeOrderSpec)

/-- ITS FALSE NEIGHBOUR: 'it returns false'. Refute it at one input. -/
def storeOrderWrong : ChangeSpec := { name := "storeOrder", fn := fun _ => fun
  | [d1, d2, d3] => { results := [.lit (.bool false)], args := [d1, d2, d3] }
  | _ => none }
def StoreOrderWrongFalsely : Prop := storeOrderRow.holds Try.pinned (OpenSpec.ofChange storeOrderWrong)

/-- 'shallotlaw13.StoreTwice': WHATEVER THE INPUT: true; the input reads as it did. -/
def storeTwiceSpec : ChangeSpec := { name := "storeTwice", fn := fun _ => fun
  | [d1, d2] => { results := [.lit (.bool true)], args := [d1, d2] }
  | _ => none }
def storeTwiceRow : OpenClaim := { program := "ytcmdmmphakclmaa", sum := "6c46fff54dea23b2322ba32173c6c83c0fefe5890307e81a80cbbde3ed9eb958", func := "shallot/shallotlaw13.StoreTwice", spec := "storeTwice", apart := false }
def StoreTwiceSaid : Prop := storeTwiceRow.holds Try.pinned (OpenSpec.ofChange storeTwiceSpec)

/-- ITS FALSE NEIGHBOUR: 'it returns false'. Refute it at one input. -/
def storeTwiceWrong : ChangeSpec := { name := "storeTwice", fn := fun _ => fun
  | [d1, d2] => { results := [.lit (.bool false)], args := [d1, d2] }
  | _ => none }
def StoreTwiceWrongFalsely : Prop := storeTwiceRow.holds Try.pinned (OpenSpec.ofChange storeTwiceWrong)

/-- 'shallotlaw13.StoreApart': WHATEVER THE INPUT: true; the input reads as it did. -/
def storeApartSpec : ChangeSpec := { name := "storeApart", fn := fun _ => fun
  | [d1, d2] => { results := [.lit (.bool true)], args := [d1, d2] }
  | _ => none }
def storeApartRow : OpenClaim := { program := "ytcmdmmphakclmaa", sum := "6c46fff54dea23b2322ba32173c6c83c0fefe5890307e81a80cbbde3ed9eb958", func := "shallot/shallotlaw13.StoreApart", spec := "storeApart", apart := false }
def StoreApartSaid : Prop := storeApartRow.holds Try.pinned (OpenSpec.ofChange storeApartSpec)

/-- ITS FALSE NEIGHBOUR: 'it returns false'. Refute it at one input. -/
def storeApartWrong : ChangeSpec := { name := "storeApart", fn := fun _ => fun
  | [d1, d2] => { results := [.lit (.bool false)], args := [d1, d2] }
  | _ => none }
def StoreApartWrongFalsely : Prop := storeApartRow.holds Try.pinned (OpenSpec.ofChange storeApartWrong)

/-- 'shallotlaw13.StoreSwap': WHATEVER THE INPUT: true; the input reads as it did. -/
def storeSwapSpec : ChangeSpec := { name := "storeSwap", fn := fun _ => fun
  | [d1, d2, d3] => { results := [.lit (.bool true)], args := [d1, d2, d3] }
  | _ => none }
def storeSwapRow : OpenClaim := { program := "ytcmdmmphakclmaa", sum := "6c46fff54dea23b2322ba32173c6c83c0fefe5890307e81a80cbbde3ed9eb958", func := "shallot/shallotlaw13.StoreSwap", spec := "storeSwap", apart := false }
def StoreSwapSaid : Prop := storeSwapRow.holds Try.pinned (OpenSpec.ofChange storeSwapSpec)

/-- ITS FALSE NEIGHBOUR: 'it returns false'. Refute it at one input. -/
def storeSwapWrong : ChangeSpec := { name := "storeSwap", fn := fun _ => fun
  | [d1, d2, d3] => { results := [.lit (.bool false)], args := [d1, d2, d3] }
  | _ => none }
def StoreSwapWrongFalsely : Prop := storeSwapRow.holds Try.pinned (OpenSpec.ofChange storeSwapWrong)

/-- 'shallotlaw13.StoreDoes': WHATEVER THE INPUT: true; the input reads as it did. -/
def storeDoesSpec : ChangeSpec := { name := "storeDoes", fn := fun _ => fun
  | [d1, d2, d3, d4, d5] => { results := [.lit (.bool true)], args := [d1, d2, d3, d4, d5] }
  | _ => none }
def storeDoesRow : OpenClaim := { program := "ytcmdmmphakclmaa", sum := "6c46fff54dea23b2322ba32173c6c83c0fefe5890307e81a80cbbde3ed9eb958", func := "shallot/shallotlaw13.StoreDoes", spec := "storeDoes", apart := false }
def StoreDoesSaid : Prop := storeDoesRow.holds Try.pinned (OpenSpec.ofChange storeDoesSpec)

/-- ITS FALSE NEIGHBOUR: 'it returns false'. Refute it at one input. -/
def storeDoesWrong : ChangeSpec := { name := "storeDoes", fn := fun _ => fun
  | [d1, d2, d3, d4, d5] => { results := [.lit (.bool false)], args := [d1, d2, d3, d4, d5] }
  | _ => none }
def StoreDoesWrongFalsely : Prop := storeDoesRow.holds Try.pinned (OpenSpec.ofChange storeDoesWrong)

/-- 'shallotlaw13.StorePops': WHATEVER THE INPUT: true; the input reads as it did. -/
def storePopsSpec : ChangeSpec := { name := "storePops", fn := fun _ => fun
  | [d1, d2] => { results := [.lit (.bool true)], args := [d1, d2] }
  | _ => none }
def storePopsRow : OpenClaim := { program := "ytcmdmmphakclmaa", sum := "6c46fff54dea23b2322ba32173c6c83c0fefe5890307e81a80cbbde3ed9eb958", func := "shallot/shallotlaw13.StorePops", spec := "storePops", apart := false }
def StorePopsSaid : Prop := storePopsRow.holds Try.pinned (OpenSpec.ofChange storePopsSpec)

/-- ITS FALSE NEIGHBOUR: 'it returns false'. Refute it at one input. -/
def storePopsWrong : ChangeSpec := { name := "storePops", fn := fun _ => fun
  | [d1, d2] => { results := [.lit (.bool false)], args := [d1, d2] }
  | _ => none }
def StorePopsWrongFalsely : Prop := storePopsRow.holds Try.pinned (OpenSpec.ofChange storePopsWrong)

/- THE SECOND FORM. 'bulk': how many values and letters a reading holds, each counted each time it is reached (what is shared counts as often as it is met; a slice's spare places count too). A statement '..UptoSaid' is the law's where the arguments, and the package variables that the reading takes, are together of bulk at most 1048576: NARROWER than '..Said'. Prove '..Said' where nothing that the law and all that it calls make is longer than what came in: it says more and counts as full. Else prove '..UptoSaid'. A law counts once. -/
mutual
def uptoBulk {H : Type} : DataW H → Nat
  | .lit (.string bytes) => bytes.length + 1
  | .lit _ => 1
  | .nil => 1
  | .ptr d => uptoBulk d + 1
  | .slice elems spare => uptoBulkAll elems + uptoBulkAll spare + 1
  | .agg parts => uptoBulkAll parts + 1
  | .iface _ d => uptoBulk d + 1
  | .map entries => uptoBulkEntries entries + 1
  | .held _ => 1
def uptoBulkAll {H : Type} : List (DataW H) → Nat
  | [] => 0
  | d :: r => uptoBulk d + uptoBulkAll r
def uptoBulkEntries {H : Type} : List (Lit × DataW H) → Nat
  | [] => 0
  | x :: r => uptoBulkEntry x + uptoBulkEntries r
def uptoBulkEntry {H : Type} : Lit × DataW H → Nat
  | (.string bytes, d) => bytes.length + uptoBulk d + 1
  | (_, d) => uptoBulk d + 1
 end
def uptoSmall : (H : Type) → List (DataW H) → Bool := fun _ ds => decide (uptoBulkAll ds ≤ 1048576)
def OpenSpec.upto (s : _root_.Go.ChangeSpec) : _root_.Go.OpenSpec := { _root_.Go.OpenSpec.ofChange s with cond := some uptoSmall }

/-- 'shallotlaw13.StoreOrder', WHERE WHAT IT READS IS OF BULK AT MOST 1048576: true; the input reads as it did. -/
def storeOrderUptoRow : OpenClaim := { program := "ytcmdmmphakclmaa", sum := "6c46fff54dea23b2322ba32173c6c83c0fefe5890307e81a80cbbde3ed9eb958", func := "shallot/shallotlaw13.StoreOrder", spec := "storeOrder", apart := false, narrowed := true }
def StoreOrderUptoSaid : Prop := storeOrderUptoRow.holds Try.pinned (OpenSpec.upto storeOrderSpec)

/-- 'shallotlaw13.StoreTwice', WHERE WHAT IT READS IS OF BULK AT MOST 1048576: true; the input reads as it did. -/
def storeTwiceUptoRow : OpenClaim := { program := "ytcmdmmphakclmaa", sum := "6c46fff54dea23b2322ba32173c6c83c0fefe5890307e81a80cbbde3ed9eb958", func := "shallot/shallotlaw13.StoreTwice", spec := "storeTwice", apart := false, narrowed := true }
def StoreTwiceUptoSaid : Prop := storeTwiceUptoRow.holds Try.pinned (OpenSpec.upto storeTwiceSpec)

/-- 'shallotlaw13.StoreApart', WHERE WHAT IT READS IS OF BULK AT MOST 1048576: true; the input reads as it did. -/
def storeApartUptoRow : OpenClaim := { program := "ytcmdmmphakclmaa", sum := "6c46fff54dea23b2322ba32173c6c83c0fefe5890307e81a80cbbde3ed9eb958", func := "shallot/shallotlaw13.StoreApart", spec := "storeApart", apart := false, narrowed := true }
def StoreApartUptoSaid : Prop := storeApartUptoRow.holds Try.pinned (OpenSpec.upto storeApartSpec)

/-- 'shallotlaw13.StoreSwap', WHERE WHAT IT READS IS OF BULK AT MOST 1048576: true; the input reads as it did. -/
def storeSwapUptoRow : OpenClaim := { program := "ytcmdmmphakclmaa", sum := "6c46fff54dea23b2322ba32173c6c83c0fefe5890307e81a80cbbde3ed9eb958", func := "shallot/shallotlaw13.StoreSwap", spec := "storeSwap", apart := false, narrowed := true }
def StoreSwapUptoSaid : Prop := storeSwapUptoRow.holds Try.pinned (OpenSpec.upto storeSwapSpec)

/-- 'shallotlaw13.StoreDoes', WHERE WHAT IT READS IS OF BULK AT MOST 1048576: true; the input reads as it did. -/
def storeDoesUptoRow : OpenClaim := { program := "ytcmdmmphakclmaa", sum := "6c46fff54dea23b2322ba32173c6c83c0fefe5890307e81a80cbbde3ed9eb958", func := "shallot/shallotlaw13.StoreDoes", spec := "storeDoes", apart := false, narrowed := true }
def StoreDoesUptoSaid : Prop := storeDoesUptoRow.holds Try.pinned (OpenSpec.upto storeDoesSpec)

/-- 'shallotlaw13.StorePops', WHERE WHAT IT READS IS OF BULK AT MOST 1048576: true; the input reads as it did. -/
def storePopsUptoRow : OpenClaim := { program := "ytcmdmmphakclmaa", sum := "6c46fff54dea23b2322ba32173c6c83c0fefe5890307e81a80cbbde3ed9eb958", func := "shallot/shallotlaw13.StorePops", spec := "storePops", apart := false, narrowed := true }
def StorePopsUptoSaid : Prop := storePopsUptoRow.holds Try.pinned (OpenSpec.upto storePopsSpec)

end Rows
end Go.Proofs.Ytcmdmmphakclmaa
