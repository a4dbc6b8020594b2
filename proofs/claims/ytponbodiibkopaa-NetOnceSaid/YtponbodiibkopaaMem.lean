/-
  Slices that a call builds: 'Own': the call's own row reads as a list; what append does to it. Plain laws over the kit's words ownsRow, grownBy, Below.
-/
import Derived.Test.YtponbodiibkopaaBase
import Derived.Maps.AppendAt
import Derived.Laws.Rows
import Derived.Laws.Tables
import Derived.Deep.WholeRow
import Derived.Deep.Draws
import Derived.Lib.Hide
import Derived.Lib.QuietBelow
import Derived.BigQuiet
import Derived.Deep.QuietTactic
namespace Go.Proofs.Ytponbodiibkopaa
open Go.RowKit Go.Sort

theorem belowN {B : Nat} {a w : World} (h : Below B a w) (n : Nat) : Below B a (w.drewN n) := ⟨h.os, h.tape, h.output, h.size, h.block⟩
theorem quietL {P : Program} {f : FuncId} {args : Array Value} {w : World} {n : Nat} {v : Value}
    (h : Calls P f args (w.drewN n) fun e w' => e = .returned v ∧ w.drewN n = w') : Calls P f args (w.drewN n) fun e w'' => e = .returned v ∧ ∃ m, w'' = w.drewN m :=
  h.mono fun _ _ ⟨he, hm⟩ => ⟨he, n, hm.symm⟩
theorem quietS {P : Program} {f : FuncId} {args : Array Value} {w : World} {d : Nat} {os : Array Obj} {v : Value}
    (h : Calls P f args (grow (redrawn w d) os) fun e w' => e = .returned v ∧ grow (redrawn w d) os = w') : Calls P f args (grow (redrawn w d) os) fun e w'' => e = .returned v ∧ ∃ p : Regrown, w'' = grow (redrawn w p.d) p.os :=
  h.mono fun _ _ ⟨he, hm⟩ => ⟨he, ⟨d, os⟩, hm.symm⟩

theorem bcell {W w1 : World} (hb : Below W.heap.size W w1) : (∀ b o, b < W.heap.size → w1.cell? ⟨b, o, none⟩ = W.cell? ⟨b, o, none⟩) ∧ (∀ b o, b < W.heap.size → w1.frozen? ⟨b, o, none⟩ = W.frozen? ⟨b, o, none⟩) :=
  ⟨fun b o h => hb.cell (p := ⟨b, o, none⟩) h, fun b o h => hb.frozen (p := ⟨b, o, none⟩) h⟩

/-! ### a block that is known whole -/
def Blk (w : World) (g : Nat) (t : TypeId) (cs : Array Value) : Prop := w.heap[g]? = some (.cells cs t (0, 0))
theorem Blk.lt {w : World} {g : Nat} {t : TypeId} {cs : Array Value} (h : Blk w g t cs) : g < w.heap.size := by
  rcases Nat.lt_or_ge g w.heap.size with hlt | hge
  · exact hlt
  · unfold Blk at h; rw [Array.getElem?_eq_none hge] at h; cases h
theorem Blk.cell {w : World} {g : Nat} {t : TypeId} {cs : Array Value} (h : Blk w g t cs) (i : Nat) {v : Value} (hv : cs[i]? = some v) : w.cell? ⟨g, i, none⟩ = some v := (cell_of_row w g i cs t (0, 0) h).trans hv
theorem Blk.frozen {w : World} {g : Nat} {t : TypeId} {cs : Array Value} (h : Blk w g t cs) (i : Nat) : w.frozen? ⟨g, i, none⟩ = false := by
  unfold Blk at h
  simp [World.frozen?, h]
theorem Blk.new (w : World) (t : TypeId) (cs : Array Value) {g : Nat} (hg : g = w.heap.size) : Blk (w.alloc (.cells cs t)) g t cs := by subst hg; exact heap_alloc_new w _
theorem Blk.alloc {w : World} {g : Nat} {t : TypeId} {cs : Array Value} (h : Blk w g t cs) (o : Obj) : Blk (w.alloc o) g t cs := (Below.heap_alloc w o g h.lt).trans h
theorem Blk.below {w w' : World} {B g : Nat} {t : TypeId} {cs : Array Value} (h : Blk w g t cs) (hb : Below B w w') (hg : g < B) : Blk w' g t cs := (hb.block g hg).trans h
theorem Blk.set {w : World} {g : Nat} {t : TypeId} {cs : Array Value} (h : Blk w g t cs) (i : Nat) (u : Value) : Blk (w.setCell ⟨g, i, none⟩ u) g t (cs.setIfInBounds i u) := by
  unfold Blk at h ⊢
  simp [World.setCell, Array.getElem?_modify, h]
theorem Blk.far {w : World} {g : Nat} {t : TypeId} {cs : Array Value} (h : Blk w g t cs) {p : Addr} (hp : g ≠ p.block) (u : Value) : Blk (w.setCell p u) g t cs := (Below.heap_setCell w p u g hp).trans h
theorem Blk.grown {w w' : World} {g : Nat} {t : TypeId} {cs : Array Value} {row : Option Nat} (h : Blk w g t cs) (hb : w.grownBy w' row) (hg : some g ≠ row) : Blk w' g t cs := (hb.block g h.lt hg).trans h
theorem wpList_load_blk {P : Program} {ops : Array Oper} {rest : List Oper} {o : Oper} {a : Act} {w : World} {Q : Exit → Act → World → Prop} (hw : Region.wanted o (yielded ops a.tmps) = true) (ty : TypeId) (x : Operand) (ho : o.op = .load ty x)
    (g : Nat) (hx : a.eval x = .pointer (some ⟨g, 0, none⟩)) {t : TypeId} {cs : Array Value} {d : TypeDesc} (hg : Blk w g t cs)
    (hu : P.underlying ty = some d) (hd : (match d with | .struct _ | .array _ _ => true | _ => false) = true) {n : Nat} (hi : (P.info? ty).map (·.size) = some n) (hn : cs.size = n)
    (h : wpList P ops Q rest (a.put o.dst (.agg cs)) w) : wpList P ops Q (o :: rest) a w :=
  BigFrame.wpList_want hw fun _ hK => wp_load_row ty x ho g hx t cs (0, 0) d hg hu hd (by rw [hn]; exact hi) (hK _ _ h)

/-- A whole struct into the block that was made last. -/
theorem wpList_store_new {P : Program} {ops : Array Oper} {rest : List Oper} {o : Oper} {a : Act} {w : World} {c : Array Value} {t : TypeId} {Q : Exit → Act → World → Prop} (hw : Region.wanted o (yielded ops a.tmps) = true) (x y : Operand) (ho : o.op = .store t x y)
    (hx : a.eval x = .pointer (some ⟨w.heap.size, 0, none⟩)) {cells : Array Value} (hy : a.eval y = .agg cells) {n : Nat} (hi : (P.info? t).map (·.size) = some n) (hn : cells.size = n) (hc : c.size = n) (h1 : cells.all (·.oneCell') = true)
    (h : wpList P ops Q rest (a.put o.dst undef) (w.alloc (.cells cells t))) : wpList P ops Q (o :: rest) a (w.alloc (.cells c t)) :=
  BigFrame.wpList_want hw fun _ hK => wp_store_row t x y ho w.heap.size cells hx hy t c (heap_alloc_last w _) (by rw [hn]; exact hi) (by rw [hn, hc]) h1 (hK _ _ (by rw [World.setRow_alloc_new]; exact h))

/-! ### cells in a row -/
def CellsAt (w : World) (A : Option Addr) (cells : List Value) : Prop := ∀ j u, cells[j]? = some u → ∃ b off, A = some ⟨b, off, none⟩ ∧ w.cell? ⟨b, off + j, none⟩ = some u
theorem CellsAt.keep {w w' : World} {A : Option Addr} {cells : List Value} {S : Nat → Prop} (h : CellsAt w A cells) (hA : ∀ b off s, A = some ⟨b, off, s⟩ → S b) (hk : ∀ p : Addr, S p.block → w'.cell? p = w.cell? p) : CellsAt w' A cells := by
  intro j u hu
  obtain ⟨b, off, rfl, hc⟩ := h j u hu
  exact ⟨b, off, rfl, (hk _ (hA b off _ rfl)).trans hc⟩
theorem CellsAt.nil (w : World) (A : Option Addr) : CellsAt w A [] := fun j u h => by simp at h
theorem CellsAt.up {w w' : World} {A : Option Addr} {cells : List Value} (h : CellsAt w A cells) (hb : Below w.heap.size w w') : CellsAt w' A cells := by
  intro j u hu
  obtain ⟨b, off, rfl, hc⟩ := h j u hu
  exact ⟨b, off, rfl, (hb.cell (cell_lt hc)).trans hc⟩
/-- A new block's cells. -/
theorem CellsAt.new (w : World) (cs : Array Value) (t : TypeId) (fr : Nat × Nat) : CellsAt (w.alloc (.cells cs t fr)) (some ⟨w.heap.size, 0, none⟩) cs.toList := by
  intro j u hu
  refine ⟨w.heap.size, 0, rfl, ?_⟩
  rw [cell_of_row _ _ _ cs t fr (heap_alloc_new w _), Nat.zero_add]
  simpa using hu
/-- The cells 'cells' are 'xs' one behind the other. -/
def Elems {α : Type} (R : Rdr α) (w : World) (S : Nat → Prop) (xs : List α) (cells : List Value) : Prop :=
  cells.length = xs.length * R.size ∧ ∀ i x, xs[i]? = some x → ∃ cs, R.rd w S x cs ∧ ∀ j v, cs[j]? = some v → cells[i * R.size + j]? = some v
section
variable {α : Type} {R : Rdr α} {w w' : World} {S S' : Nat → Prop} {xs ys : List α} {cells news : List Value}
theorem Elems.keep (h : Elems R w S xs cells) (hk : ∀ p : Addr, S p.block → w'.cell? p = w.cell? p) (hs : ∀ b, S b → S' b) : Elems R w' S' xs cells :=
  ⟨h.1, fun i x hx => by
    obtain ⟨cs, hr, hc⟩ := h.2 i x hx
    exact ⟨cs, R.keep hr hk hs, hc⟩⟩
theorem Elems.nil : Elems R w S [] [] := ⟨by simp, fun i x h => by simp at h⟩
theorem Elems.one {x : α} {cs : List Value} (h : R.rd w S x cs) : Elems R w S [x] cs :=
  ⟨by simp [R.len h], fun i y hy => by
    rcases i with _ | i
    · simp at hy
      subst hy
      exact ⟨cs, h, fun j v hj => by simpa using hj⟩
    · simp at hy⟩
theorem Elems.append (h : Elems R w S xs cells) (k : Elems R w S ys news) : Elems R w S (xs ++ ys) (cells ++ news) :=
  ⟨by simp [h.1, k.1, Nat.add_mul], fun i x hx => by
    rw [List.getElem?_append] at hx
    split at hx
    · rename_i hi
      obtain ⟨cs, hr, hc⟩ := h.2 i x hx
      refine ⟨cs, hr, fun j v hj => ?_⟩
      have := hc j v hj
      rw [List.getElem?_append_left (List.getElem?_eq_some_iff.1 this).1]
      exact this
    · rename_i hi
      obtain ⟨cs, hr, hc⟩ := k.2 _ x hx
      refine ⟨cs, hr, fun j v hj => ?_⟩
      have h1 : xs.length * R.size + ((i - xs.length) * R.size + j) = i * R.size + j := by
        rw [← Nat.add_assoc, ← Nat.add_mul]; congr 2; omega
      rw [← h1, ← h.1, List.getElem?_append_right (by omega)]
      simpa using hc j v hj⟩
theorem Elems.oneCell (h : Elems R w S xs cells) (hz : 0 < R.size) : ∀ u ∈ cells, u.oneCell' = true := by
  intro u hu
  obtain ⟨k, hk, rfl⟩ := List.getElem_of_mem hu
  have hkl : k < xs.length * R.size := by rw [← h.1]; exact hk
  have hi : k / R.size < xs.length := (Nat.div_lt_iff_lt_mul hz).2 hkl
  obtain ⟨cs, hr, hc⟩ := h.2 (k / R.size) _ (List.getElem?_eq_getElem hi)
  have hj : k % R.size < cs.length := by rw [R.len hr]; exact Nat.mod_lt _ hz
  have := hc (k % R.size) _ (List.getElem?_eq_getElem hj)
  rw [show k / R.size * R.size + k % R.size = k by rw [Nat.mul_comm]; exact Nat.div_add_mod k R.size, List.getElem?_eq_getElem hk] at this
  have e : cells[k] = cs[k % R.size] := by simpa using this
  rw [e]
  exact R.one hr _ (List.getElem_mem hj)
theorem Elems.take (h : Elems R w S xs cells) (n : Nat) : Elems R w S (xs.take n) (cells.take (n * R.size)) := by
  refine ⟨?_, fun i x hx => ?_⟩
  · rw [List.length_take, List.length_take, h.1]
    rcases Nat.le_total n xs.length with hn | hn
    · rw [Nat.min_eq_left hn, Nat.min_eq_left (Nat.mul_le_mul_right _ hn)]
    · rw [Nat.min_eq_right hn, Nat.min_eq_right (Nat.mul_le_mul_right _ hn)]
  · rw [List.getElem?_take] at hx
    split at hx
    · rename_i hi
      obtain ⟨cs, hr, hc⟩ := h.2 i x hx
      refine ⟨cs, hr, fun j v hj => ?_⟩
      have hjl : j < R.size := by rw [← R.len hr]; exact (List.getElem?_eq_some_iff.1 hj).1
      have : i * R.size + j < n * R.size := by
        have := Nat.mul_le_mul_right R.size (show i + 1 ≤ n by omega)
        rw [Nat.add_mul] at this; omega
      rw [List.getElem?_take, if_pos this]
      exact hc j v hj
    · simp at hx
theorem Elems.flat {k : IntKind} {w w' : World} {S S' : Nat → Prop} {xs : List Int} {cells : List Value} (h : Elems (Rint k) w S xs cells) : Elems (Rint k) w' S' xs cells := ⟨h.1, h.2⟩
/-- The blocks from one number on, below another. -/
def mid (a b : Nat) : Nat → Prop := fun k => a ≤ k ∧ k < b
/-- A slice's elements as cells in a row. -/
theorem Sl.inRow {A : Option Addr} (h : Sl R w S A xs) : ∃ cells, Elems R w S xs cells ∧ CellsAt w A cells := by
  obtain ⟨ls, hll, hls⟩ := choose_list (p := fun i cs => ∀ x, xs[i]? = some x → R.rd w S x cs ∧ ∀ j v, cs[j]? = some v → ∃ b off, A = some ⟨b, off, none⟩ ∧ w.cell? ⟨b, off + i * R.size + j, none⟩ = some v) xs.length (fun i hi => by
    obtain ⟨b, off, cs, hA, _, hr, hc⟩ := h i _ (List.getElem?_eq_getElem hi)
    refine ⟨cs, fun x hx => ?_⟩
    rw [List.getElem?_eq_getElem hi] at hx
    injection hx with hx; subst hx
    exact ⟨hr, fun j v hj => ⟨b, off, hA, hc j v hj⟩⟩)
  have key : ∀ (xs : List α) (ls : List (List Value)) (k : Nat), ls.length = xs.length →
      (∀ i cs, ls[i]? = some cs → ∀ x, xs[i]? = some x → R.rd w S x cs ∧ ∀ j v, cs[j]? = some v → ∃ b off, A = some ⟨b, off, none⟩ ∧ w.cell? ⟨b, off + (k + i) * R.size + j, none⟩ = some v) →
      Elems R w S xs ls.flatten ∧ ∀ j u, ls.flatten[j]? = some u → ∃ b off, A = some ⟨b, off, none⟩ ∧ w.cell? ⟨b, off + k * R.size + j, none⟩ = some u := by
    intro xs
    induction xs with
    | nil =>
      intro ls k hl hx
      obtain rfl := List.eq_nil_of_length_eq_zero hl
      exact ⟨Elems.nil, fun j u hu => by simp at hu⟩
    | cons x xr ih =>
      intro ls k hl hx
      cases ls with
      | nil => simp at hl
      | cons c lr =>
        obtain ⟨hr, hc⟩ := hx 0 c rfl x rfl
        obtain ⟨he, hcc⟩ := ih lr (k + 1) (by simpa using hl) (fun i cs hi y hy => by
          have := hx (i + 1) cs (by simpa using hi) y (by simpa using hy)
          rwa [show k + (i + 1) = k + 1 + i by omega] at this)
        refine ⟨by simpa using (Elems.one hr).append he, fun j u hu => ?_⟩
        rw [List.flatten_cons, List.getElem?_append] at hu
        split at hu
        · simpa using hc j u hu
        · rename_i hj
          obtain ⟨b, off, hA, hcell⟩ := hcc _ u hu
          refine ⟨b, off, hA, ?_⟩
          rw [R.len hr] at hcell hj
          rwa [Nat.add_mul, show off + (k * R.size + 1 * R.size) + (j - R.size) = off + k * R.size + j by omega] at hcell
  obtain ⟨h1, h2⟩ := key xs ls 0 hll (fun i cs hi x hx => by simpa using hls i cs hi x hx)
  exact ⟨_, h1, fun j u hu => by simpa using h2 j u hu⟩
end

/-! ### the call's own rows -/
/-- An element type's row of the program's table. -/
structure EI (P : Program) (t e : TypeId) (size bytes : Nat) : Prop where
  under : P.underlying t = some (.slice e)
  pos : 0 < size
  info : ∃ i z, P.info? e = some i ∧ i.zero = some z ∧ i.size = size ∧ i.bytes = bytes ∧ z.cells.size = size
theorem EI.mk' {P : Program} {t e : TypeId} {size bytes : Nat} (z : Value) (hu : P.underlying t = some (.slice e)) (hp : 0 < size) (hz : z.cells.size = size) (h : (P.info? e).map (fun i => (i.zero, i.size, i.bytes)) = some (some z, size, bytes)) : EI P t e size bytes := by
  obtain ⟨i, hi, h1, h2, h3⟩ := info_parts h
  exact ⟨hu, hp, i, z, hi, h1, h2, h3, hz⟩
def Own {α : Type} (R : Rdr α) (w : World) (base : Nat) (e : TypeId) (S : Nat → Prop) (v : Value) (xs : List α) : Prop :=
  ∃ cells, w.ownsRow base e R.size v xs.length cells ∧ Elems R w S xs cells
theorem Own.nil {α : Type} (R : Rdr α) (w : World) (base : Nat) (e : TypeId) (S : Nat → Prop) : Own R w base e S (.slice none 0 0) [] :=
  ⟨[], ⟨by simp, .inl ⟨rfl, rfl⟩⟩, Elems.nil⟩
theorem Own.empty {α : Type} (R : Rdr α) {w : World} {base g : Nat} {e : TypeId} (S : Nat → Prop) (h : Blk w g e #[]) (hg : base ≤ g) : Own R w base e S (.slice (some ⟨g, 0, none⟩) 0 0) [] :=
  ⟨[], ⟨by simp, .inr ⟨g, 0, #[], rfl, hg, h, Nat.le_refl _, by simp, by simp, by simp⟩⟩, Elems.nil⟩
theorem Own.form {α : Type} {R : Rdr α} {w : World} {base : Nat} {e : TypeId} {S : Nat → Prop} {v : Value} {xs : List α} (h : Own R w base e S v xs) : ∃ A cap, v = .slice A xs.length cap := by
  obtain ⟨cells, ⟨_, h⟩, _⟩ := h
  rcases h with ⟨rfl, hn⟩ | ⟨g, cap, _, rfl, _⟩
  · exact ⟨none, 0, by rw [hn]⟩
  · exact ⟨_, cap, rfl⟩
theorem Own.slice {α : Type} {R : Rdr α} {w : World} {base : Nat} {e : TypeId} {S S' : Nat → Prop} {A : Option Addr} {n cap : Nat} {xs : List α} (h : Own R w base e S (.slice A n cap) xs) (hs : ∀ b, S b → S' b)
    (hg : ∀ g, (Value.slice A n cap).ownBlock = some g → g < w.heap.size → S' g) : n = xs.length ∧ xs.length ≤ cap ∧ cap ≤ maxLen ∧ Sl R w S' A xs := by
  obtain ⟨cells, ⟨hl, h⟩, he⟩ := h
  rcases h with ⟨hv, hn⟩ | ⟨g, cap', cur, hv, _, hh, hle, hm, hsz, htake⟩
  · injection hv with h1 h2 h3
    subst h1 h2 h3
    obtain rfl := List.eq_nil_of_length_eq_zero hn
    exact ⟨rfl, by simp, by simp, Sl.nil _ _ _ _⟩
  · injection hv with h1 h2 h3
    subst h1 h2 h3
    have hlt : g < w.heap.size := by
      rcases Nat.lt_or_ge g w.heap.size with h | h
      · exact h
      · rw [Array.getElem?_eq_none h] at hh; simp at hh
    refine ⟨rfl, hle, hm, fun i x hx => ?_⟩
    obtain ⟨cs, hr, hc⟩ := he.2 i x hx
    refine ⟨g, 0, cs, rfl, hg g rfl hlt, R.keep hr (fun _ _ => rfl) hs, fun j v hj => ?_⟩
    have h1 := hc j v hj
    rw [← htake] at h1
    have h2 := (List.getElem?_eq_some_iff.1 h1).1
    rw [List.getElem?_take] at h1
    split at h1
    · rw [cell_of_row w g _ cur e (0, 0) hh, Nat.zero_add]
      simpa using h1
    · simp at h1
/-- What was built, as a slice that may be read from now on. -/
theorem Own.done {α : Type} {R : Rdr α} {w : World} {base : Nat} {e : TypeId} {S : Nat → Prop} {v : Value} {xs : List α} (h : Own R w base e S v xs) (hs : ∀ b, S b → b < w.heap.size) :
    ∃ A n cap, v = .slice A n cap ∧ xs.length = n ∧ n ≤ cap ∧ cap ≤ maxLen ∧ Sl R w (lo w.heap.size) A xs := by
  obtain ⟨A, cap, rfl⟩ := h.form
  obtain ⟨_, h1, h2, h3⟩ := h.slice (S' := lo w.heap.size) hs fun g _ hg => hg
  exact ⟨A, _, cap, rfl, rfl, h1, h2, h3⟩
theorem Own.doneAt {α : Type} {R : Rdr α} {w : World} {base : Nat} {e : TypeId} {S S' : Nat → Prop} {v : Value} {xs : List α} (h : Own R w base e S v xs) (hs : ∀ b, S b → S' b) (hg : ∀ g, v.ownBlock = some g → g < w.heap.size → S' g) :
    ∃ A n cap, v = .slice A n cap ∧ xs.length = n ∧ n ≤ cap ∧ cap ≤ maxLen ∧ Sl R w S' A xs := by
  obtain ⟨A, cap, rfl⟩ := h.form
  obtain ⟨_, h1, h2, h3⟩ := h.slice (S' := S') hs hg
  exact ⟨A, _, cap, rfl, rfl, h1, h2, h3⟩
theorem own_lt {w : World} {base : Nat} {e : TypeId} {size n : Nat} {v : Value} {cells : List Value} (h : w.ownsRow base e size v n cells) {g : Nat} (hg : v.ownBlock = some g) : base ≤ g ∧ g < w.heap.size := by
  obtain ⟨_, h⟩ := h
  rcases h with ⟨rfl, _⟩ | ⟨g', cap, cur, rfl, hb, hh, _⟩
  · simp [Value.ownBlock] at hg
  · have : g' = g := by simpa [Value.ownBlock] using hg
    subst this
    refine ⟨hb, ?_⟩
    rcases Nat.lt_or_ge g' w.heap.size with h | h
    · exact h
    · rw [Array.getElem?_eq_none h] at hh; simp at hh
theorem Own.lt {α : Type} {R : Rdr α} {w : World} {base : Nat} {e : TypeId} {S : Nat → Prop} {v : Value} {xs : List α} (h : Own R w base e S v xs) {g : Nat} (hg : v.ownBlock = some g) : base ≤ g ∧ g < w.heap.size := by
  obtain ⟨_, h, _⟩ := h; exact own_lt h hg
/-- What leaves the row's own block, and all that the elements lead to, alone. -/
theorem Own.keep {α : Type} {R : Rdr α} {w w' : World} {base : Nat} {e : TypeId} {S S' : Nat → Prop} {v : Value} {xs : List α} (h : Own R w base e S v xs) (hg : ∀ g, v.ownBlock = some g → w'.heap[g]? = w.heap[g]?)
    (hk : ∀ p : Addr, S p.block → w'.cell? p = w.cell? p) (hs : ∀ b, S b → S' b) : Own R w' base e S' v xs := by
  obtain ⟨cells, ⟨hl, h⟩, he⟩ := h
  refine ⟨cells, ⟨hl, ?_⟩, he.keep hk hs⟩
  rcases h with h | ⟨g, cap, cur, hv, hb, hh, r⟩
  · exact .inl h
  · exact .inr ⟨g, cap, cur, hv, hb, by rw [hg g (by rw [hv]; rfl)]; exact hh, r⟩
theorem Own.alloc {α : Type} {R : Rdr α} {w : World} {base : Nat} {e : TypeId} {S : Nat → Prop} {v : Value} {xs : List α} (h : Own R w base e S v xs) (hS : ∀ b, S b → b < w.heap.size) (o : Obj) : Own R (w.alloc o) base e S v xs :=
  h.keep (fun _ hg => Below.heap_alloc w o _ (h.lt hg).2) (fun p hp => World.cell?_alloc_lt w o p (hS _ hp)) fun _ h => h

theorem Own.setBelow {α : Type} {R : Rdr α} {w : World} {base : Nat} {e : TypeId} {S : Nat → Prop} {v : Value} {xs : List α} (h : Own R w base e S v xs) {p : Addr} (hp : p.block < base) (hS : ¬ S p.block) (u : Value) : Own R (w.setCell p u) base e S v xs :=
  h.keep (fun g hg => Below.heap_setCell w p u g (by have := (h.lt hg).1; omega)) (fun q hq => World.cell?_setCell_other w p q u (fun e => hS (by subst e; exact hq))) fun _ h => h

/-! ### append -/
section
variable {P : Program} (w : World)
theorem run_append_cells {t ty e : TypeId} {size bytes : Nat} (E : EI P t e size bytes) {base : Nat} {v : Value} {n : Nat} {cells : List Value} (hown : w.ownsRow base e size v n cells)
    {A : Option Addr} {m c : Nat} {news : List Value} (hl : news.length = m * size) (hnews : CellsAt w A news) (h1 : ∀ u ∈ news, u.oneCell' = true) (hA : A = none → m = 0)
    (h63 : n + m ≤ maxLen) (hbytes : (n + m) * bytes ≤ 140737488355328) (hbase : base ≤ w.heap.size) :
    ∃ v' w', (Builtin.append_ #[t, t] ty #[v, .slice A m c]).run P w = .ok v' w' ∧ w'.ownsRow base e size v' (n + m) (cells ++ news) ∧ w.grownBy w' v.ownBlock ∧
      (v'.ownBlock = v.ownBlock ∨ v'.ownBlock = some w.heap.size) := by
  obtain ⟨ht, hsz, i, z, hi, hz, hsize, hby, hzs⟩ := E
  rcases A with _ | ad
  · obtain rfl := hA rfl
    have hn : news = [] := List.eq_nil_of_length_eq_zero (by simpa using hl)
    subst hn
    refine ⟨v, w, ?_, by simpa using hown, World.grownBy.refl w _, .inl rfl⟩
    rcases hown.2 with ⟨rfl, rfl⟩ | ⟨g, cap, cur, rfl, _, _, hnc, _⟩
    · simp [Builtin.append_, run_underlying ht, sizeOf, typeInfo, hi, Builtin.lenOf, Builtin.firstCells]
    · simp [Builtin.append_, run_underlying ht, sizeOf, typeInfo, hi, Builtin.lenOf, Builtin.firstCells, hnc, storeCells]
  · have hcells : ∀ j u, news[j]? = some u → w.cell? (ad.add j) = some u := by
      intro j u hu
      obtain ⟨b, off, h, hc⟩ := hnews j u hu
      injection h with h
      subst h
      rw [addr_add]; exact hc
    obtain ⟨v', w', hrun, h2, h3, _, h5⟩ := run_append_own_at (P := P) w base t ty e i z size bytes ht hi hz hsize hby hzs hsz v n cells hown ad m c news hl hcells h1 h63 hbytes hbase
    exact ⟨v', w', hrun, h2, h3, h5⟩

/-- 'out = append(out, src...)': out the call's own row; the source whatever reads as a list, through blocks of S. -/
theorem wpList_append_own' {α : Type} {R : Rdr α} {ops : Array Oper} {rest : List Oper} {o : Oper} {a : Act} {Q : Exit → Act → World → Prop} (hw : Region.wanted o (yielded ops a.tmps) = true) (s x : Operand) (t : TypeId)
    (ho : o.op = .call { callee := .builtin .append, args := #[s, x], argTypes := #[t, t] }) {e : TypeId} {bytes base : Nat} (E : EI P t e R.size bytes) {S : Nat → Prop} (v : Value) {xs : List α} (hs : a.eval s = v) (hown : Own R w base e S v xs)
    (hS : ∀ b, S b → b < w.heap.size ∧ v.ownBlock ≠ some b) (A : Option Addr) (m c : Nat) {ys : List α} (hx : a.eval x = .slice A m c) (hm : ys.length = m) {news : List Value} (hnews : CellsAt w A news) (hys : Elems R w S ys news)
    (hbytes : (xs.length + m) * bytes ≤ 140737488355328) (h63 : xs.length + m ≤ maxLen) (hbase : base ≤ w.heap.size)
    (h : ∀ v' w', Own R w' base e S v' (xs ++ ys) → w.grownBy w' v.ownBlock → (v'.ownBlock = v.ownBlock ∨ v'.ownBlock = some w.heap.size) → wpList P ops Q rest (a.put o.dst v') w') : wpList P ops Q (o :: rest) a w := by
  obtain ⟨cells, hown, he⟩ := hown
  subst hm
  obtain ⟨v', w', hrun, h2, h3, h4⟩ := run_append_cells (P := P) w (ty := o.type) E hown (c := c) hys.1 hnews (hys.oneCell E.pos) (fun hA => by
    rcases Nat.eq_zero_or_pos ys.length with h0 | h0
    · exact h0
    · exfalso
      have hp := Nat.mul_pos h0 E.pos
      rw [← hys.1] at hp
      obtain ⟨b, off, hb, _⟩ := hnews 0 _ (List.getElem?_eq_getElem hp)
      rw [hA] at hb; cases hb) h63 hbytes hbase
  have hk : ∀ p : Addr, S p.block → w'.cell? p = w.cell? p := fun p hp => World.cell?_of_block (h3.block p.block (hS _ hp).1 (fun e => (hS _ hp).2 e.symm))
  refine BigFrame.wpList_want hw fun K hK => ?_
  unfold Oper.wp execOp
  simp only [ho, resolve, invoke, builtin, Sem.run_bind, Sem.run_pure, Result.andThen_ok, List.map_toArray, List.map_cons, List.map_nil, hs, hx, hrun]
  refine hK _ _ (h v' w' ⟨cells ++ news, by rw [List.length_append]; exact h2, (he.append hys).keep hk fun _ h => h⟩ h3 h4)
end
end Go.Proofs.Ytponbodiibkopaa
