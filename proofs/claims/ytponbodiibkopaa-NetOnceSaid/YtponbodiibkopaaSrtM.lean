/-
  A row that is sorted in place: what its cells are, a swap, what stays.
-/
import Derived.Test.YtponbodiibkopaaSrt
import Derived.Deep.MidRow
import Derived.Deep.RegionHeld3
namespace Go.Proofs.Ytponbodiibkopaa
open Go.RowKit Go.Sort
set_option linter.unusedVariables false

/-- Only the block g is written; new blocks may be laid. -/
structure Chg (g : Nat) (w0 w : World) : Prop where
  bel : Below g w0 w
  fr : ∀ k, k < w0.heap.size → k ≠ g → w.heap[k]? = w0.heap[k]?
theorem Chg.refl (g : Nat) (w : World) : Chg g w w := ⟨Below.refl _ _, fun _ _ _ => rfl⟩
theorem Chg.trans {g : Nat} {a b c : World} (h : Chg g a b) (k : Chg g b c) : Chg g a c :=
  ⟨h.bel.trans k.bel, fun n h1 h2 => (k.fr n (by have := h.bel.size; omega) h2).trans (h.fr n h1 h2)⟩
theorem Chg.ofBelow {g : Nat} {a b : World} (h : Below a.heap.size a b) (hg : g ≤ a.heap.size) : Chg g a b :=
  ⟨h.mono hg, fun n h1 _ => h.block n h1⟩
theorem Chg.setCells {g : Nat} {a b : World} (h : Chg g a b) (o : Nat) (cs : List Value) : Chg g a (b.setCells g o cs) :=
  ⟨setCells_below cs o b h.bel (Nat.le_refl _), fun n h1 h2 => (setCells_other g cs o b n h2).trans (h.fr n h1 h2)⟩
theorem Chg.drew {g : Nat} {a b : World} (h : Chg g a b) : Chg g a b.drew := ⟨h.bel.drew, h.fr⟩
/-- What a sort's function leaves: the row, as another list. -/
def RowRet (w : World) (S : Nat → Prop) (g N : Nat) (P : List Fl → Prop) (en : Ending) (w' : World) : Prop :=
  en = .returned (.tuple #[]) ∧ ∃ ys : List Fl, P ys ∧ Fill Rfl w' S g 37 N ys ∧ Chg g w w'
/-- The blocks that a row's elements lead to. -/
def RowS (w : World) (S : Nat → Prop) (g : Nat) : Prop := ∀ b, S b → b < w.heap.size ∧ b ≠ g
theorem RowS.up {w w' : World} {S : Nat → Prop} {g : Nat} (h : RowS w S g) (hz : w.heap.size ≤ w'.heap.size) : RowS w' S g := fun b hb => ⟨by have := (h b hb).1; omega, (h b hb).2⟩
theorem RowS.not {w : World} {S : Nat → Prop} {g : Nat} (h : RowS w S g) : ¬ S g := fun hb => (h g hb).2 rfl
section
variable {w w' : World} {S : Nat → Prop} {g N : Nat} {t : TypeId} {xs : List Fl}
/-- An element's four cells. -/
theorem Fill.fl (h : Fill Rfl w S g t N xs) {i : Nat} {x : Fl} (hx : xs[i]? = some x) :
    ∃ (T : Option Addr) (n c : Nat), Rfl.rd w S x [.int .i64 x.tm, .int .i64 x.fr, .int .i64 x.tgt, .slice T n c] ∧
      w.cell? ⟨g, i * 4, none⟩ = some (.int .i64 x.tm) ∧ w.cell? ⟨g, i * 4 + 1, none⟩ = some (.int .i64 x.fr) ∧ w.cell? ⟨g, i * 4 + 2, none⟩ = some (.int .i64 x.tgt) ∧ w.cell? ⟨g, i * 4 + 3, none⟩ = some (.slice T n c) := by
  obtain ⟨arr, hb, hsz, he⟩ := h
  obtain ⟨cs, hr, hc⟩ := he.2 i x hx
  obtain ⟨T, c, rfl, h1, h2, h3, hl, hm, hs⟩ := hr
  have hcell : ∀ j v, [Value.int .i64 x.tm, .int .i64 x.fr, .int .i64 x.tgt, .slice T x.body.length c][j]? = some v → w.cell? ⟨g, i * 4 + j, none⟩ = some v := fun j v hj => by
    have h9 := hc j v hj
    rw [show i * Rfl.size + j = i * 4 + j from rfl, List.getElem?_take] at h9
    split at h9
    · exact hb.cell _ (by simpa using h9)
    · simp at h9
  exact ⟨T, _, c, ⟨T, c, rfl, h1, h2, h3, hl, hm, hs⟩, hcell 0 _ rfl, hcell 1 _ rfl, hcell 2 _ rfl, hcell 3 _ rfl⟩
theorem Fill.range (h : Fill Rfl w S g t N xs) {i : Nat} {x : Fl} (hx : xs[i]? = some x) : ∃ (T : Option Addr) (c : Nat), Rfl.rd w S x [.int .i64 x.tm, .int .i64 x.fr, .int .i64 x.tgt, .slice T x.body.length c] ∧ w.rangeAt g (i * 4) [.int .i64 x.tm, .int .i64 x.fr, .int .i64 x.tgt, .slice T x.body.length c] := by
  obtain ⟨arr, hb, hsz, he⟩ := h
  obtain ⟨cs, hr, hc⟩ := he.2 i x hx
  obtain ⟨T, c, rfl, h1, h2, h3, hl, hm, hs⟩ := hr
  refine ⟨T, c, ⟨T, c, rfl, h1, h2, h3, hl, hm, hs⟩, fun j v hj => ?_⟩
  have h9 := hc j v hj
  rw [show i * Rfl.size + j = i * 4 + j from rfl, List.getElem?_take] at h9
  split at h9
  · exact hb.cell _ (by simpa using h9)
  · simp at h9
theorem Fill.there (h : Fill Rfl w S g t N xs) {i : Nat} (hi : i < N) : w.there g (i * 4) 4 := fun j hj => by
  obtain ⟨u, hu⟩ := h.cell (i := i * 4 + j) (by show _ < N * 4; omega)
  exact ⟨by rw [hu]; rfl, h.frozen _⟩
theorem Fill.len (h : Fill Rfl w S g t N xs) : xs.length ≤ N := by
  obtain ⟨arr, hb, hsz, he⟩ := h
  have h0 := he.1
  rw [List.length_take, show arr.toList.length = arr.size from Array.length_toList, hsz] at h0
  have h4 : Rfl.size = 4 := rfl
  rw [h4] at h0; omega
theorem Fill.chg (h : Fill Rfl w S g t N xs) (hS : RowS w S g) (hb : Below w.heap.size w w') : Fill Rfl w' S g t N xs := h.up hb (fun b hb => (hS b hb).1) (fun _ h => h)
/-- Two elements change places. -/
theorem Fill.swap (h : Fill Rfl w S g t N xs) (hS : ¬ S g) {i j : Nat} {x y : Fl} (hx : xs[i]? = some x) (hy : xs[j]? = some y) {csx csy : List Value} (hrx : Rfl.rd w S x csx) (hry : Rfl.rd w S y csy) :
    Fill Rfl ((w.setCells g (i * 4) csy).setCells g (j * 4) csx) S g t N ((xs.set i y).set j x) := by
  have hi := (List.getElem?_eq_some_iff.1 hx).1
  have hj := (List.getElem?_eq_some_iff.1 hy).1
  have h1 := h.put hi hry hS
  exact h1.put (by rw [List.length_set]; exact hj) (Rfl.keep hrx (fun p hp => World.cell?_of_block (setCells_other g csy _ w p.block (fun e => hS (e ▸ hp)))) (fun _ h => h)) hS
theorem Fill.drew (h : Fill Rfl w S g t N xs) : Fill Rfl w.drew S g t N xs := h.keep rfl (fun _ _ => rfl) (fun _ h => h)
theorem rd_drew {x : Fl} {cs : List Value} (h : Rfl.rd w S x cs) : Rfl.rd w.drew S x cs := Rfl.keep h (fun _ _ => rfl) (fun _ h => h)
end
section
variable {P : Program} {ops : Array Oper} {o : Oper} {a : Act} {w : World} {K : Act → World → Prop} {Q : Exit → Act → World → Prop} {EE : Prop}
theorem step_store_mid (hg : o.guard = none) (ty : TypeId) (x y : Operand) (ho : o.op = .store ty x y) (b off : Nat) (cells : List Value) (hx : a.eval x = .pointer (some ⟨b, off, none⟩)) (hy : a.eval y = .agg cells.toArray)
    (ht : w.there b off cells.length) (hi : (P.info? ty).map (·.size) = some cells.length) (h1 : ∀ v ∈ cells, v.oneCell' = true) (h : K (a.put o.dst undef) (w.setCells b off cells)) : if Region.wanted o (yielded ops a.tmps) = true then Oper.wp P o a w K Q else EE := by
  rw [if_pos (by simp [Region.wanted, hg])]
  exact wp_store_mid ty x y ho b off cells.toArray hx hy (by simpa using ht) (by simpa using hi) (all_oneCell_toArray h1) h
theorem step_load_mid (hg : o.guard = none) (ty : TypeId) (x : Operand) (ho : o.op = .load ty x) (b off : Nat) (hx : a.eval x = .pointer (some ⟨b, off, none⟩)) (cs : List Value) (d : TypeDesc) (hc : w.rangeAt b off cs)
    (hu : P.underlying ty = some d) (hd : d.isRow = true) (hi : (P.info? ty).map (·.size) = some cs.length) (h : K (a.put o.dst (.agg cs.toArray)) w) : if Region.wanted o (yielded ops a.tmps) = true then Oper.wp P o a w K Q else EE := by
  rw [if_pos (by simp [Region.wanted, hg])]
  exact wp_load_mid ty x ho b off hx cs d hc hu hd hi h
end
end Go.Proofs.Ytponbodiibkopaa
