/-
  Pieces of a function's code, taken out by a block's number; small facts for loops that pick elements out of a list. Plain.
-/
import Derived.Test.YtponbodiibkopaaMem
import Derived.Deep.CutBlock
import Derived.Deep.DrawnRows
import Derived.Deep.RegionLaw
namespace Go.Proofs.Ytponbodiibkopaa
open Go.RowKit
set_option linter.unusedVariables false

/-- Block n of a code. -/
def findBlock (n : Nat) : Code → Option Code
  | .block id c => if id = n then some (.block id c) else findBlock n c
  | .loop c => findBlock n c
  | .seq a b => match findBlock n a with
    | some c => some c
    | none => findBlock n b
  | .scope c => findBlock n c
  | .cond _ a b => match findBlock n a with
    | some c => some c
    | none => findBlock n b
  | _ => none
noncomputable def blockOf (f : Func) (n : Nat) : Code := (f.body.bind (findBlock n)).getD .skip
/-- Region n of a code. -/
def findRegion (n : Nat) : Code → Option Code
  | .region id ops d => if id = n then some (.region id ops d) else none
  | .block id c => findRegion n c
  | .loop c => findRegion n c
  | .seq a b => match findRegion n a with
    | some c => some c
    | none => findRegion n b
  | .scope c => findRegion n c
  | .cond _ a b => match findRegion n a with
    | some c => some c
    | none => findRegion n b
  | _ => none
noncomputable def regionOf (f : Func) (n : Nat) : Code := (f.body.bind (findRegion n)).getD .skip
theorem filter_take {α : Type} {p : α → Bool} {xs : List α} {i : Nat} {y : α} (h : xs[i]? = some y) : (xs.take (i + 1)).filter p = (xs.take i).filter p ++ (if p y = true then [y] else []) := by
  rw [List.take_add_one, h, List.filter_append]
  congr 1
  simp [List.filter_cons]
theorem take_snoc' {α : Type} {xs : List α} {i : Nat} {y : α} (h : xs[i]? = some y) : xs.take (i + 1) = xs.take i ++ [y] := by
  rw [List.take_add_one, h]; rfl
theorem cellsNew {w : World} {g : Nat} {cs : Array Value} {t : TypeId} (h : g = w.heap.size) : CellsAt (w.alloc (.cells cs t)) (some ⟨g, 0, none⟩) cs.toList := by
  subst h; exact CellsAt.new w cs t (0, 0)
theorem filter_len {α : Type} (p : α → Bool) (xs : List α) (i : Nat) : ((xs.take i).filter p).length ≤ i := Nat.le_trans (List.length_filter_le _ _) (by rw [List.length_take]; omega)
/-- 'out = append(out, src...)' at a step of a region that draws its order: out the call's own row. -/
theorem step_append_own' {P : Program} {w : World} {α : Type} {R : Rdr α} {ops : Array Oper} {o : Oper} {a : Act} {K : Act → World → Prop} {Q : Exit → Act → World → Prop} {EE : Prop} (hg : o.guard = none) (s x : Operand) (t : TypeId)
    (ho : o.op = .call { callee := .builtin .append, args := #[s, x], argTypes := #[t, t] }) {e : TypeId} {bytes base : Nat} (E : EI P t e R.size bytes) {S : Nat → Prop} (v : Value) {xs : List α} (hs : a.eval s = v) (hown : Own R w base e S v xs)
    (hS : ∀ b, S b → b < w.heap.size ∧ v.ownBlock ≠ some b) (A : Option Addr) (m c : Nat) {ys : List α} (hx : a.eval x = .slice A m c) (hm : ys.length = m) {news : List Value} (hnews : CellsAt w A news) (hys : Elems R w S ys news)
    (hbytes : (xs.length + m) * bytes ≤ 140737488355328) (h63 : xs.length + m ≤ maxLen) (hbase : base ≤ w.heap.size)
    (h : ∀ v' w', Own R w' base e S v' (xs ++ ys) → w.grownBy w' v.ownBlock → (v'.ownBlock = v.ownBlock ∨ v'.ownBlock = some w.heap.size) → K (a.put o.dst v') w') :
    if Region.wanted o (yielded ops a.tmps) = true then Oper.wp P o a w K Q else EE := by
  have hw : Region.wanted o (yielded ops a.tmps) = true := by simp [Region.wanted, hg]
  rw [if_pos hw]
  obtain ⟨cells, hown, he⟩ := hown
  subst hm
  obtain ⟨v', w', hrun, h2, h3, h4⟩ := run_append_cells (P := P) w (ty := o.type) E hown (c := c) hys.1 hnews (hys.oneCell E.pos) (fun hA => by
    rcases Nat.eq_zero_or_pos ys.length with h0 | h0
    · exact h0
    · exfalso
      have hp := Nat.mul_pos h0 E.pos
      rw [← hys.1] at hp
      obtain ⟨b, off, hb, _⟩ := hnews 0 _ (List.getElem?_eq_getElem hp)
      rw [hA] at hb; cases hb) h63 hbytes hbase
  have hk : ∀ p : Addr, S p.block → w'.cell? p = w.cell? p := fun p hp => World.cell?_of_block (h3.block p.block (hS _ hp).1 (fun e => (hS _ hp).2 e.symm))
  unfold Oper.wp
  simp [execOp, ho, resolve, invoke, builtin, hs, hx, hrun, Result.andThen]
  exact h v' w' ⟨cells ++ news, by rw [List.length_append]; exact h2, (he.append hys).keep hk fun _ h => h⟩ h3 h4
end Go.Proofs.Ytponbodiibkopaa
