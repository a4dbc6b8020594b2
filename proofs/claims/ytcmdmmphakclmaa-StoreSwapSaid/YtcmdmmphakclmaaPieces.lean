/-
  Pieces of a function's code, taken out by a block's number; small facts for loops that pick elements out of a list.
-/
import Derived.Test.YtcmdmmphakclmaaStoreC
import Derived.Deep.CutBlock
namespace Go.Proofs.Ytcmdmmphakclmaa
open Go.RowKit Go.Sort
set_option linter.unusedVariables false

/-- Block n of a code. -/
def findBlock (n : Nat) : Code → Option Code
  | .block id c => if id = n then some (.block id c) else findBlock n c
  | .loop c => findBlock n c
  | .seq a b => match findBlock n a with
    | some c => some c
    | none => findBlock n b
  | .scope c => findBlock n c
  | .cond _ a b => match findBlock n a with
    | some c => some c
    | none => findBlock n b
  | _ => none
noncomputable def blockOf (f : Func) (n : Nat) : Code := (f.body.bind (findBlock n)).getD .skip
theorem filter_take {α : Type} {p : α → Bool} {xs : List α} {i : Nat} {y : α} (h : xs[i]? = some y) : (xs.take (i + 1)).filter p = (xs.take i).filter p ++ (if p y = true then [y] else []) := by
  rw [List.take_add_one, h, List.filter_append]
  congr 1
  simp [List.filter_cons]
theorem cellsNew {w : World} {g : Nat} {cs : Array Value} {t : TypeId} (h : g = w.heap.size) : CellsAt (w.alloc (.cells cs t)) (some ⟨g, 0, none⟩) cs.toList := by
  subst h; exact CellsAt.new w cs t (0, 0)
theorem filter_len {α : Type} (p : α → Bool) (xs : List α) (i : Nat) : ((xs.take i).filter p).length ≤ i := Nat.le_trans (List.length_filter_le _ _) (by rw [List.length_take]; omega)
/-- A letter that was just laid, as the news of an append. -/
theorem newLetter {W : World} {B : Nat} {l : Lt} {T : Option Addr} {n c : Nat} (hn : l.text.length = n) (h1 : (Lit.int .i64 l.fr).wf = true) (h2 : (Lit.int .i64 l.to).wf = true) (h3 : (Lit.int .u64 l.sq).wf = true) (hl : n ≤ c) (hm : c ≤ maxLen) (hs : Sl (Rint .u8) W (lo B) T l.text) :
    Elems Rlt W (lo B) [l] [.bool l.cover, .int .i64 l.fr, .int .i64 l.to, .int .u64 l.sq, .slice T n c] := by
  subst hn; exact Elems.one (R := Rlt) (x := l) ⟨T, c, rfl, h1, h2, h3, hl, hm, hs⟩
end Go.Proofs.Ytcmdmmphakclmaa
