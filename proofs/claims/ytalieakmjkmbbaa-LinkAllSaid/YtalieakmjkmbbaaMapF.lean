/-
  A map of the call's own from int to int, as a function. Plain laws over the kit's ownsMap.
-/
import Derived.Test.YtalieakmjkmbbaaItems
import Derived.Maps.OwnSet
import Derived.Maps.OwnOps
namespace Go.Proofs.Ytalieakmjkmbbaa
open Go.RowKit Go.Maps
set_option linter.unusedVariables false

theorem key_int : Keyed Try.prog 3 := int_keyed Try.underlying3
theorem zero_int (w : World) : (zeroValue 3).run Try.prog w = .ok (.int .i64 0) w := by kernel_rfl
/-- Block b is a map of at most n entries, which reads as f. -/
def MapF (w : World) (b n : Nat) (f : Int → Option Int) : Prop :=
  ∃ D : DataW Unit, w.ownsMap Try.prog 3 (plainElem Try.prog 3) b n D ∧ IsMap D ∧ ∀ k : Int, Maps.has D (.int .i64 k) = (f k).isSome ∧ ∀ v, f k = some v → D.atKey (.int .i64 k) (.lit (.int .i64 0)) = .lit (.int .i64 v)
theorem MapF.lt {w : World} {b n : Nat} {f : Int → Option Int} (h : MapF w b n f) : b < w.heap.size := by
  obtain ⟨D, ⟨es, clock, hb, _⟩, _⟩ := h
  rcases Nat.lt_or_ge b w.heap.size with h | h
  · exact h
  · rw [Array.getElem?_eq_none h] at hb; cases hb
theorem MapF.keep {w w' : World} {b n : Nat} {f : Int → Option Int} (h : MapF w b n f) (hb : w'.heap[b]? = w.heap[b]?) : MapF w' b n f := by
  obtain ⟨D, ⟨es, clock, h1, h2⟩, h3⟩ := h
  exact ⟨D, ⟨es, clock, hb.trans h1, h2⟩, h3⟩
theorem MapF.made (w : World) : MapF (w.alloc (.map #[] 0)) w.heap.size 0 (fun _ => none) :=
  ⟨.map [], World.ownsMap_made _ _ _ _, ⟨[], rfl⟩, fun k => ⟨rfl, fun v h => by cases h⟩⟩
section
variable (w : World) {ops : Array Oper} {rest : List Oper} {o : Oper} {a : Act} {Q : Exit → Act → World → Prop}
theorem wpList_lookup_F (hg : o.guard = none) (m x : Operand) (hop : o.op = Op.lookup 55 m x true) (b n : Nat) (f : Int → Option Int) (hm : a.eval m = .map (some b)) (h : MapF w b n f) (k : Int) (hx : a.eval x = .int .i64 k) (hk : (Lit.int .i64 k).wf = true)
    (hK : wpList Try.prog ops Q rest (a.put o.dst (.tuple #[.int .i64 ((f k).getD 0), .bool (f k).isSome])) w) : wpList Try.prog ops Q (o :: rest) a w := by
  obtain ⟨D, hown, hD, hf⟩ := h
  refine wpList_lookup_own_ok_int w hg m x 55 hop 3 3 .i64 key_int Try.underlying55 Try.underlying3 (zero_int w) b n D hm hown _ _ hx (keyOf_int_mk Try.underlying3 hk) fun c hat hwc => ?_
  obtain ⟨h1, h2⟩ := hf k
  have hc : c = (f k).getD 0 := by
    cases hfk : f k with
    | none =>
      rw [hfk] at h1
      rw [atKey_of_not_has h1] at hat
      injection hat with e; injection e with _ e
      simpa using e.symm
    | some v =>
      rw [h2 v hfk] at hat
      injection hat with e; injection e with _ e
      simpa using e.symm
  rw [hc, h1]
  exact hK
theorem wpList_update_F (hg : o.guard = none) (m x v : Operand) (hop : o.op = Op.mapUpdate 55 m x v) (b n : Nat) (f : Int → Option Int) (hm : a.eval m = .map (some b)) (h : MapF w b n f) (hn : n < maxLen) (k : Int) (hx : a.eval x = .int .i64 k) (hk : (Lit.int .i64 k).wf = true) (c : Int) (hv : a.eval v = .int .i64 c) (hc : (Lit.int .i64 c).wf = true)
    (hK : ∀ w', MapF w' b (n + 1) (fun j => if j = k then some c else f j) → w.grownBy w' (some b) → wpList Try.prog ops Q rest (a.put o.dst undef) w') : wpList Try.prog ops Q (o :: rest) a w := by
  obtain ⟨D, hown, hD, hf⟩ := h
  refine wpList_mapUpdate_own w hg m x v 55 hop 3 3 key_int Try.underlying55 _ b n D hm hown hn _ _ _ hx hv (keyOf_int_mk Try.underlying3 hk) _ [] (plainElem_int Try.underlying3 hc) fun w' hown' hgr => ?_
  refine hK w' ⟨_, hown', hD.put _ _, fun j => ?_⟩ hgr
  by_cases hj : j = k
  · subst hj
    dsimp only
    rw [if_pos rfl]
    have hkl : WideAt.IsKeyLit (Lit.int .i64 j) := trivial
    exact ⟨has_put_same hD hkl _, fun v hv => by rw [atKey_put_same hD hkl]; obtain rfl := Option.some.inj hv; rfl⟩
  · dsimp only
    rw [if_neg hj]
    have hne : (Lit.int .i64 j) ≠ .int .i64 k := fun e => by injection e with _ e; exact hj e
    exact ⟨by rw [has_put_other hne]; exact (hf j).1, fun v hv => by rw [atKey_put_other hne]; exact (hf j).2 v hv⟩
end
end Go.Proofs.Ytalieakmjkmbbaa
