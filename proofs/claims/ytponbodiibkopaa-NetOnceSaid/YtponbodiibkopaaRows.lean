/-
  No cell of these rows narrows 'for every input' (looked for: loops, veiled, ifaces, maps, wideKeys, modest, calm, conditions, laid).
  DERIVED. THE GIVEN ROWS OF THIS SEAT. 6 by the template 'for every input the law returns true; each argument reads behind the call as it read before'; 0 by the template 'total and deterministic' (their statements: YtponbodiibkopaaTotals.lean).
  GIVEN WITH THE SEED: the statements are not yours to turn. If you find one false, say at which input.
  Laid BY PROGRAM, IN A SANDBOX (cutbox-rows.mjs): the forced cells as the released guide's own fill.sh prints them over the translation 9984adc37b76be2a… (all of the seat's roots in one cut). By AI agents, Wed Nov 11 2026. No macro, syntax, notation, axiom, sorry.
-/
import Derived.Test.YtponbodiibkopaaChecked
import GoSem.Claim
import GoSem.ClaimJoined
import GoSem.ClaimMapViews
import Derived.JoinedTies
import Derived.KernelRfl
namespace Go.Proofs.Ytponbodiibkopaa
/- THE CELL 'sum', in the pinned program and in every row, IS THE sha256 OF THE DUMP (.gsa) THAT YtponbodiibkopaaProg.lean LOADS. Nothing in Lean hashes anything: it is a label: what it is worth is what the hold of that sum in a sandbox is worth. -/
noncomputable def Try.pinned : Pinned := { name := "ytponbodiibkopaa", sum := "9984adc37b76be2a3b73b4f984be0950f740953b8d185cdbf0f75c915af1ec55", checked := Try.checked }
namespace Rows
def none {H : Type} : Left H := { results := [], args := [] }

/-- 'shallotlaw16.NetDoes': WHATEVER THE INPUT: true; the input reads as it did. -/
def netDoesSpec : ChangeSpec := { name := "netDoes", fn := fun _ => fun
  | [d1, d2, d3, d4, d5] => { results := [.lit (.bool true)], args := [d1, d2, d3, d4, d5] }
  | _ => none }
def netDoesRow : OpenClaim := { program := "ytponbodiibkopaa", sum := "9984adc37b76be2a3b73b4f984be0950f740953b8d185cdbf0f75c915af1ec55", func := "shallot/shallotlaw16.NetDoes", spec := "netDoes", unfollowed := true, recurses := true, apart := false }
def NetDoesSaid : Prop := netDoesRow.holds Try.pinned (OpenSpec.ofChange netDoesSpec)

/-- ITS FALSE NEIGHBOUR: 'it returns false'. Refute it at one input. -/
def netDoesWrong : ChangeSpec := { name := "netDoes", fn := fun _ => fun
  | [d1, d2, d3, d4, d5] => { results := [.lit (.bool false)], args := [d1, d2, d3, d4, d5] }
  | _ => none }
def NetDoesWrongFalsely : Prop := netDoesRow.holds Try.pinned (OpenSpec.ofChange netDoesWrong)

/-- 'shallotlaw16.NetOnce': WHATEVER THE INPUT: true; the input reads as it did. -/
def netOnceSpec : ChangeSpec := { name := "netOnce", fn := fun _ => fun
  | [d1, d2] => { results := [.lit (.bool true)], args := [d1, d2] }
  | _ => none }
def netOnceRow : OpenClaim := { program := "ytponbodiibkopaa", sum := "9984adc37b76be2a3b73b4f984be0950f740953b8d185cdbf0f75c915af1ec55", func := "shallot/shallotlaw16.NetOnce", spec := "netOnce", unfollowed := true, recurses := true, apart := false }
def NetOnceSaid : Prop := netOnceRow.holds Try.pinned (OpenSpec.ofChange netOnceSpec)

/-- ITS FALSE NEIGHBOUR: 'it returns false'. Refute it at one input. -/
def netOnceWrong : ChangeSpec := { name := "netOnce", fn := fun _ => fun
  | [d1, d2] => { results := [.lit (.bool false)], args := [d1, d2] }
  | _ => none }
def NetOnceWrongFalsely : Prop := netOnceRow.holds Try.pinned (OpenSpec.ofChange netOnceWrong)

/-- 'shallotlaw16.NetOrder': WHATEVER THE INPUT: true; the input reads as it did. -/
def netOrderSpec : ChangeSpec := { name := "netOrder", fn := fun _ => fun
  | [d1, d2] => { results := [.lit (.bool true)], args := [d1, d2] }
  | _ => none }
def netOrderRow : OpenClaim := { program := "ytponbodiibkopaa", sum := "9984adc37b76be2a3b73b4f984be0950f740953b8d185cdbf0f75c915af1ec55", func := "shallot/shallotlaw16.NetOrder", spec := "netOrder", unfollowed := true, recurses := true, apart := false }
def NetOrderSaid : Prop := netOrderRow.holds Try.pinned (OpenSpec.ofChange netOrderSpec)

/-- ITS FALSE NEIGHBOUR: 'it returns false'. Refute it at one input. -/
def netOrderWrong : ChangeSpec := { name := "netOrder", fn := fun _ => fun
  | [d1, d2] => { results := [.lit (.bool false)], args := [d1, d2] }
  | _ => none }
def NetOrderWrongFalsely : Prop := netOrderRow.holds Try.pinned (OpenSpec.ofChange netOrderWrong)

/-- 'shallotlaw16.NetSteps': WHATEVER THE INPUT: true; the input reads as it did. -/
def netStepsSpec : ChangeSpec := { name := "netSteps", fn := fun _ => fun
  | [d1, d2, d3] => { results := [.lit (.bool true)], args := [d1, d2, d3] }
  | _ => none }
def netStepsRow : OpenClaim := { program := "ytponbodiibkopaa", sum := "9984adc37b76be2a3b73b4f984be0950f740953b8d185cdbf0f75c915af1ec55", func := "shallot/shallotlaw16.NetSteps", spec := "netSteps", unfollowed := true, recurses := true, apart := false }
def NetStepsSaid : Prop := netStepsRow.holds Try.pinned (OpenSpec.ofChange netStepsSpec)

/-- ITS FALSE NEIGHBOUR: 'it returns false'. Refute it at one input. -/
def netStepsWrong : ChangeSpec := { name := "netSteps", fn := fun _ => fun
  | [d1, d2, d3] => { results := [.lit (.bool false)], args := [d1, d2, d3] }
  | _ => none }
def NetStepsWrongFalsely : Prop := netStepsRow.holds Try.pinned (OpenSpec.ofChange netStepsWrong)

/-- 'shallotlaw16.NetApart': WHATEVER THE INPUT: true; the input reads as it did. -/
def netApartSpec : ChangeSpec := { name := "netApart", fn := fun _ => fun
  | [d1, d2, d3, d4, d5] => { results := [.lit (.bool true)], args := [d1, d2, d3, d4, d5] }
  | _ => none }
def netApartRow : OpenClaim := { program := "ytponbodiibkopaa", sum := "9984adc37b76be2a3b73b4f984be0950f740953b8d185cdbf0f75c915af1ec55", func := "shallot/shallotlaw16.NetApart", spec := "netApart", unfollowed := true, recurses := true, apart := false }
def NetApartSaid : Prop := netApartRow.holds Try.pinned (OpenSpec.ofChange netApartSpec)

/-- ITS FALSE NEIGHBOUR: 'it returns false'. Refute it at one input. -/
def netApartWrong : ChangeSpec := { name := "netApart", fn := fun _ => fun
  | [d1, d2, d3, d4, d5] => { results := [.lit (.bool false)], args := [d1, d2, d3, d4, d5] }
  | _ => none }
def NetApartWrongFalsely : Prop := netApartRow.holds Try.pinned (OpenSpec.ofChange netApartWrong)

/-- 'shallotlaw16.NetBlind': WHATEVER THE INPUT: true; the input reads as it did. -/
def netBlindSpec : ChangeSpec := { name := "netBlind", fn := fun _ => fun
  | [d1, d2, d3, d4, d5, d6] => { results := [.lit (.bool true)], args := [d1, d2, d3, d4, d5, d6] }
  | _ => none }
def netBlindRow : OpenClaim := { program := "ytponbodiibkopaa", sum := "9984adc37b76be2a3b73b4f984be0950f740953b8d185cdbf0f75c915af1ec55", func := "shallot/shallotlaw16.NetBlind", spec := "netBlind", unfollowed := true, recurses := true, apart := false }
def NetBlindSaid : Prop := netBlindRow.holds Try.pinned (OpenSpec.ofChange netBlindSpec)

/-- ITS FALSE NEIGHBOUR: 'it returns false'. Refute it at one input. -/
def netBlindWrong : ChangeSpec := { name := "netBlind", fn := fun _ => fun
  | [d1, d2, d3, d4, d5, d6] => { results := [.lit (.bool false)], args := [d1, d2, d3, d4, d5, d6] }
  | _ => none }
def NetBlindWrongFalsely : Prop := netBlindRow.holds Try.pinned (OpenSpec.ofChange netBlindWrong)

/- THE SECOND FORM. 'bulk': how many values and letters a reading holds, each counted each time it is reached (what is shared counts as often as it is met; a slice's spare places count too). A statement '..UptoSaid' is the law's where the arguments, and the package variables that the reading takes, are together of bulk at most 1048576: NARROWER than '..Said'. Prove '..Said' where nothing that the law and all that it calls make is longer than what came in: it says more and counts as full. Else prove '..UptoSaid'. A law counts once. -/
mutual
def uptoBulk {H : Type} : DataW H → Nat
  | .lit (.string bytes) => bytes.length + 1
  | .lit _ => 1
  | .nil => 1
  | .ptr d => uptoBulk d + 1
  | .slice elems spare => uptoBulkAll elems + uptoBulkAll spare + 1
  | .agg parts => uptoBulkAll parts + 1
  | .iface _ d => uptoBulk d + 1
  | .map entries => uptoBulkEntries entries + 1
  | .held _ => 1
def uptoBulkAll {H : Type} : List (DataW H) → Nat
  | [] => 0
  | d :: r => uptoBulk d + uptoBulkAll r
def uptoBulkEntries {H : Type} : List (Lit × DataW H) → Nat
  | [] => 0
  | x :: r => uptoBulkEntry x + uptoBulkEntries r
def uptoBulkEntry {H : Type} : Lit × DataW H → Nat
  | (.string bytes, d) => bytes.length + uptoBulk d + 1
  | (_, d) => uptoBulk d + 1
 end
def uptoSmall : (H : Type) → List (DataW H) → Bool := fun _ ds => decide (uptoBulkAll ds ≤ 1048576)
def OpenSpec.upto (s : _root_.Go.ChangeSpec) : _root_.Go.OpenSpec := { _root_.Go.OpenSpec.ofChange s with cond := some uptoSmall }

/-- 'shallotlaw16.NetDoes', WHERE WHAT IT READS IS OF BULK AT MOST 1048576: true; the input reads as it did. -/
def netDoesUptoRow : OpenClaim := { program := "ytponbodiibkopaa", sum := "9984adc37b76be2a3b73b4f984be0950f740953b8d185cdbf0f75c915af1ec55", func := "shallot/shallotlaw16.NetDoes", spec := "netDoes", unfollowed := true, recurses := true, apart := false, narrowed := true }
def NetDoesUptoSaid : Prop := netDoesUptoRow.holds Try.pinned (OpenSpec.upto netDoesSpec)

/-- 'shallotlaw16.NetOnce', WHERE WHAT IT READS IS OF BULK AT MOST 1048576: true; the input reads as it did. -/
def netOnceUptoRow : OpenClaim := { program := "ytponbodiibkopaa", sum := "9984adc37b76be2a3b73b4f984be0950f740953b8d185cdbf0f75c915af1ec55", func := "shallot/shallotlaw16.NetOnce", spec := "netOnce", unfollowed := true, recurses := true, apart := false, narrowed := true }
def NetOnceUptoSaid : Prop := netOnceUptoRow.holds Try.pinned (OpenSpec.upto netOnceSpec)

/-- 'shallotlaw16.NetOrder', WHERE WHAT IT READS IS OF BULK AT MOST 1048576: true; the input reads as it did. -/
def netOrderUptoRow : OpenClaim := { program := "ytponbodiibkopaa", sum := "9984adc37b76be2a3b73b4f984be0950f740953b8d185cdbf0f75c915af1ec55", func := "shallot/shallotlaw16.NetOrder", spec := "netOrder", unfollowed := true, recurses := true, apart := false, narrowed := true }
def NetOrderUptoSaid : Prop := netOrderUptoRow.holds Try.pinned (OpenSpec.upto netOrderSpec)

/-- 'shallotlaw16.NetSteps', WHERE WHAT IT READS IS OF BULK AT MOST 1048576: true; the input reads as it did. -/
def netStepsUptoRow : OpenClaim := { program := "ytponbodiibkopaa", sum := "9984adc37b76be2a3b73b4f984be0950f740953b8d185cdbf0f75c915af1ec55", func := "shallot/shallotlaw16.NetSteps", spec := "netSteps", unfollowed := true, recurses := true, apart := false, narrowed := true }
def NetStepsUptoSaid : Prop := netStepsUptoRow.holds Try.pinned (OpenSpec.upto netStepsSpec)

/-- 'shallotlaw16.NetApart', WHERE WHAT IT READS IS OF BULK AT MOST 1048576: true; the input reads as it did. -/
def netApartUptoRow : OpenClaim := { program := "ytponbodiibkopaa", sum := "9984adc37b76be2a3b73b4f984be0950f740953b8d185cdbf0f75c915af1ec55", func := "shallot/shallotlaw16.NetApart", spec := "netApart", unfollowed := true, recurses := true, apart := false, narrowed := true }
def NetApartUptoSaid : Prop := netApartUptoRow.holds Try.pinned (OpenSpec.upto netApartSpec)

/-- 'shallotlaw16.NetBlind', WHERE WHAT IT READS IS OF BULK AT MOST 1048576: true; the input reads as it did. -/
def netBlindUptoRow : OpenClaim := { program := "ytponbodiibkopaa", sum := "9984adc37b76be2a3b73b4f984be0950f740953b8d185cdbf0f75c915af1ec55", func := "shallot/shallotlaw16.NetBlind", spec := "netBlind", unfollowed := true, recurses := true, apart := false, narrowed := true }
def NetBlindUptoSaid : Prop := netBlindUptoRow.holds Try.pinned (OpenSpec.upto netBlindSpec)

end Rows
end Go.Proofs.Ytponbodiibkopaa
