/-
  A letter that was just laid, as the news of an append.
-/
import Derived.Test.YtcmdmmphakclmaaStoreC
import Derived.Test.YtcmdmmphakclmaaPiece
namespace Go.Proofs.Ytcmdmmphakclmaa
open Go.RowKit Go.Sort
set_option linter.unusedVariables false

theorem newLetter {W : World} {B : Nat} {l : Lt} {T : Option Addr} {n c : Nat} (hn : l.text.length = n) (h1 : (Lit.int .i64 l.fr).wf = true) (h2 : (Lit.int .i64 l.to).wf = true) (h3 : (Lit.int .u64 l.sq).wf = true) (hl : n ≤ c) (hm : c ≤ maxLen) (hs : Sl (Rint .u8) W (lo B) T l.text) :
    Elems Rlt W (lo B) [l] [.bool l.cover, .int .i64 l.fr, .int .i64 l.to, .int .u64 l.sq, .slice T n c] := by
  subst hn; exact Elems.one (R := Rlt) (x := l) ⟨T, c, rfl, h1, h2, h3, hl, hm, hs⟩
end Go.Proofs.Ytcmdmmphakclmaa
