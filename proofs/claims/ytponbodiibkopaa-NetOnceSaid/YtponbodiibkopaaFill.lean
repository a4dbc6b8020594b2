/-
  A row that a call makes by 'make' and fills one element after the other: 'Fill'. Plain.
-/
import Derived.Test.YtponbodiibkopaaMem
import Derived.Deep.MidRow
import Derived.Laws.MakeOwn
import Derived.Deep.RegionLawGrows
namespace Go.Proofs.Ytponbodiibkopaa
open Go.RowKit Go.Sort
set_option linter.unusedVariables false

/-- Block g is a row of n elements; its first ones read as xs, through blocks of S. -/
def Fill {α : Type} (R : Rdr α) (w : World) (S : Nat → Prop) (g : Nat) (t : TypeId) (n : Nat) (xs : List α) : Prop :=
  ∃ arr : Array Value, Blk w g t arr ∧ arr.size = n * R.size ∧ Elems R w S xs (arr.toList.take (xs.length * R.size))
section
variable {α : Type} {R : Rdr α} {w w' : World} {S S' : Nat → Prop} {g : Nat} {t : TypeId} {n : Nat} {xs : List α}
theorem Fill.start {arr : Array Value} (h : Blk w g t arr) (hn : arr.size = n * R.size) : Fill R w S g t n [] := ⟨arr, h, hn, by simpa using Elems.nil⟩
theorem Fill.lt (h : Fill R w S g t n xs) : g < w.heap.size := by obtain ⟨_, h, _⟩ := h; exact h.lt
theorem Fill.cell (h : Fill R w S g t n xs) {i : Nat} (hi : i < n * R.size) : ∃ u, w.cell? ⟨g, i, none⟩ = some u := by
  obtain ⟨arr, hb, hs, _⟩ := h
  exact ⟨_, hb.cell i (Array.getElem?_eq_getElem (by omega))⟩
theorem Fill.frozen (h : Fill R w S g t n xs) (i : Nat) : w.frozen? ⟨g, i, none⟩ = false := by
  obtain ⟨_, hb, _⟩ := h; exact hb.frozen i
theorem Fill.keep (h : Fill R w S g t n xs) (hg : w'.heap[g]? = w.heap[g]?) (hk : ∀ p : Addr, S p.block → w'.cell? p = w.cell? p) (hs : ∀ b, S b → S' b) : Fill R w' S' g t n xs := by
  obtain ⟨arr, hb, hn, he⟩ := h
  exact ⟨arr, hg.trans hb, hn, he.keep hk hs⟩
theorem Fill.alloc (h : Fill R w S g t n xs) (hS : ∀ b, S b → b < w.heap.size) (o : Obj) : Fill R (w.alloc o) S g t n xs :=
  h.keep (Below.heap_alloc w o g h.lt) (fun p hp => World.cell?_alloc_lt w o p (hS _ hp)) fun _ h => h
theorem Fill.far (h : Fill R w S g t n xs) {p : Addr} (hp : g ≠ p.block) (hS : ¬ S p.block) (u : Value) : Fill R (w.setCell p u) S g t n xs :=
  h.keep (Below.heap_setCell w p u g hp) (fun q hq => World.cell?_setCell_other w p q u (fun e => hS (by subst e; exact hq))) fun _ h => h
theorem Fill.up (h : Fill R w S g t n xs) (hb : Below w.heap.size w w') (hS : ∀ b, S b → b < w.heap.size) (hs : ∀ b, S b → S' b) : Fill R w' S' g t n xs :=
  h.keep (hb.block g h.lt) (fun p hp => hb.cell (hS _ hp)) hs
theorem Fill.more (h : Fill R w S g t n xs) (hs : ∀ b, S b → S' b) : Fill R w S' g t n xs := h.keep rfl (fun _ _ => rfl) hs
theorem Fill.done (h : Fill R w S g t n xs) (hn : xs.length = n) (hs : ∀ b, S b → S' b) (hg : S' g) : Sl R w S' (some ⟨g, 0, none⟩) xs := by
  obtain ⟨arr, hb, hsz, he⟩ := h
  intro i x hx
  obtain ⟨cs, hr, hc⟩ := he.2 i x hx
  refine ⟨g, 0, cs, rfl, hg, R.keep hr (fun _ _ => rfl) hs, fun j v hj => ?_⟩
  have h1 := hc j v hj
  rw [List.getElem?_take] at h1
  split at h1
  · rw [Nat.zero_add]
    exact hb.cell _ (by simpa using h1)
  · simp at h1
/-- The cells of a row behind a store of a list. -/
theorem setCells_blk : ∀ (cs : List Value) (o : Nat) (w : World) (arr : Array Value), Blk w g t arr → o + cs.length ≤ arr.size → ∃ arr' : Array Value, Blk (w.setCells g o cs) g t arr' ∧ arr'.size = arr.size ∧
    (∀ i, i < o → arr'[i]? = arr[i]?) ∧ ∀ j v, cs[j]? = some v → arr'[o + j]? = some v
  | [], o, w, arr, h, _ => ⟨arr, h, rfl, fun _ _ => rfl, fun j v hj => by simp at hj⟩
  | c :: r, o, w, arr, h, hl => by
    have hl' : o < arr.size := by simp at hl; omega
    obtain ⟨arr', h1, h2, h3, h4⟩ := setCells_blk r (o + 1) (w.setCell ⟨g, o, none⟩ c) (arr.setIfInBounds o c) (h.set o c) (by simp at hl ⊢; omega)
    refine ⟨arr', h1, by rw [h2]; simp, fun i hi => ?_, fun j v hj => ?_⟩
    · rw [h3 i (by omega), Array.getElem?_setIfInBounds, if_neg (by omega)]
    · rcases j with _ | j
      · simp at hj; subst hj
        rw [Nat.add_zero, h3 o (by omega), Array.getElem?_setIfInBounds]; simp [hl']
      · have := h4 j v (by simpa using hj)
        rwa [show o + 1 + j = o + (j + 1) by omega] at this
theorem setCells_blk' : ∀ (cs : List Value) (o : Nat) (w : World) (arr : Array Value), Blk w g t arr → o + cs.length ≤ arr.size → ∃ arr' : Array Value, Blk (w.setCells g o cs) g t arr' ∧ arr'.size = arr.size ∧
    (∀ i, i < o → arr'[i]? = arr[i]?) ∧ (∀ j v, cs[j]? = some v → arr'[o + j]? = some v) ∧ ∀ i, o + cs.length ≤ i → arr'[i]? = arr[i]?
  | [], o, w, arr, h, _ => ⟨arr, h, rfl, fun _ _ => rfl, fun j v hj => by simp at hj, fun _ _ => rfl⟩
  | c :: r, o, w, arr, h, hl => by
    have hl' : o < arr.size := by simp at hl; omega
    obtain ⟨arr', h1, h2, h3, h4, h5⟩ := setCells_blk' r (o + 1) (w.setCell ⟨g, o, none⟩ c) (arr.setIfInBounds o c) (h.set o c) (by simp at hl ⊢; omega)
    refine ⟨arr', h1, by rw [h2]; simp, fun i hi => ?_, fun j v hj => ?_, fun i hi => ?_⟩
    · rw [h3 i (by omega), Array.getElem?_setIfInBounds, if_neg (by omega)]
    · rcases j with _ | j
      · simp at hj; subst hj
        rw [Nat.add_zero, h3 o (by omega), Array.getElem?_setIfInBounds]; simp [hl']
      · have := h4 j v (by simpa using hj)
        rwa [show o + 1 + j = o + (j + 1) by omega] at this
    · simp at hi
      rw [h5 i (by omega), Array.getElem?_setIfInBounds, if_neg (by omega)]
theorem setCells_other (g : Nat) : ∀ (cs : List Value) (o : Nat) (w : World) (k : Nat), k ≠ g → (w.setCells g o cs).heap[k]? = w.heap[k]?
  | [], _, _, _, _ => rfl
  | c :: r, o, w, k, hk => by
    show ((w.setCell ⟨g, o, none⟩ c).setCells g (o + 1) r).heap[k]? = _
    rw [setCells_other g r (o + 1) _ k hk, Below.heap_setCell w _ c k hk]
theorem setCells_below {B g : Nat} {a : World} : ∀ (cs : List Value) (o : Nat) (w : World), Below B a w → B ≤ g → Below B a (w.setCells g o cs)
  | [], _, _, h, _ => h
  | c :: r, o, w, h, hg => setCells_below r (o + 1) _ (h.setCell (p := ⟨g, o, none⟩) hg c) hg
theorem setCells_size (g : Nat) : ∀ (cs : List Value) (o : Nat) (w : World), (w.setCells g o cs).heap.size = w.heap.size
  | [], _, _ => rfl
  | c :: r, o, w => by
    show ((w.setCell ⟨g, o, none⟩ c).setCells g (o + 1) r).heap.size = _
    rw [setCells_size g r]; simp [World.setCell]
/-- One element more. -/
theorem Fill.store (h : Fill R w S g t n xs) (hl : xs.length < n) {x : α} {cs : List Value} (hr : R.rd w S x cs) (hS : ¬ S g) : Fill R (w.setCells g (xs.length * R.size) cs) S g t n (xs ++ [x]) := by
  obtain ⟨arr, hb, hsz, he⟩ := h
  have hcl := R.len hr
  have hmul : (xs.length + 1) * R.size ≤ n * R.size := Nat.mul_le_mul_right _ hl
  rw [Nat.add_mul, Nat.one_mul] at hmul
  obtain ⟨arr', h1, h2, h3, h4⟩ := setCells_blk cs (xs.length * R.size) w arr hb (by omega)
  have hk : ∀ p : Addr, S p.block → (w.setCells g (xs.length * R.size) cs).cell? p = w.cell? p := fun p hp => World.cell?_of_block (setCells_other g cs _ w p.block (fun e => hS (e ▸ hp)))
  refine ⟨arr', h1, by rw [h2, hsz], ?_⟩
  have e1 : arr'.toList.take ((xs ++ [x]).length * R.size) = arr.toList.take (xs.length * R.size) ++ cs := by
    rw [List.length_append, List.length_singleton, Nat.add_mul, Nat.one_mul]
    apply List.ext_getElem?
    intro i
    rw [List.getElem?_take, List.getElem?_append, List.length_take, show arr.toList.length = arr.size from Array.length_toList]
    by_cases hi : i < xs.length * R.size
    · rw [if_pos (by omega), if_pos (by omega), List.getElem?_take, if_pos hi]
      simpa using h3 i hi
    · rw [if_neg (show ¬ i < min (xs.length * R.size) arr.size by omega), Nat.min_eq_left (by omega)]
      by_cases hi2 : i < xs.length * R.size + R.size
      · rw [if_pos hi2]
        have hj : i - xs.length * R.size < cs.length := by omega
        have := h4 (i - xs.length * R.size) _ (List.getElem?_eq_getElem hj)
        rw [show xs.length * R.size + (i - xs.length * R.size) = i by omega] at this
        rw [List.getElem?_eq_getElem hj]
        simpa using this
      · rw [if_neg hi2, List.getElem?_eq_none (by omega)]
  rw [e1]
  exact (he.keep hk fun _ h => h).append (Elems.one (R.keep hr hk fun _ h => h))
/-- One element more, whose header was stored before the rest of what it reads was laid. -/
theorem Fill.storeIn (h : Fill R w S g t n xs) (hl : xs.length < n) {x : α} {cs : List Value} (hr : R.rd w' S' x cs) (hg : w'.heap[g]? = (w.setCells g (xs.length * R.size) cs).heap[g]?) (hk : ∀ p : Addr, S p.block → w'.cell? p = w.cell? p) (hs : ∀ b, S b → S' b) : Fill R w' S' g t n (xs ++ [x]) := by
  obtain ⟨arr, hb, hsz, he⟩ := h
  have hcl := R.len hr
  have hmul : (xs.length + 1) * R.size ≤ n * R.size := Nat.mul_le_mul_right _ hl
  rw [Nat.add_mul, Nat.one_mul] at hmul
  obtain ⟨arr', h1, h2, h3, h4⟩ := setCells_blk cs (xs.length * R.size) w arr hb (by omega)
  refine ⟨arr', hg.trans h1, by rw [h2, hsz], ?_⟩
  have e1 : arr'.toList.take ((xs ++ [x]).length * R.size) = arr.toList.take (xs.length * R.size) ++ cs := by
    rw [List.length_append, List.length_singleton, Nat.add_mul, Nat.one_mul]
    apply List.ext_getElem?
    intro i
    rw [List.getElem?_take, List.getElem?_append, List.length_take, show arr.toList.length = arr.size from Array.length_toList]
    by_cases hi : i < xs.length * R.size
    · rw [if_pos (by omega), if_pos (by omega), List.getElem?_take, if_pos hi]
      simpa using h3 i hi
    · rw [if_neg (show ¬ i < min (xs.length * R.size) arr.size by omega), Nat.min_eq_left (by omega)]
      by_cases hi2 : i < xs.length * R.size + R.size
      · rw [if_pos hi2]
        have hj : i - xs.length * R.size < cs.length := by omega
        have := h4 (i - xs.length * R.size) _ (List.getElem?_eq_getElem hj)
        rw [show xs.length * R.size + (i - xs.length * R.size) = i by omega] at this
        rw [List.getElem?_eq_getElem hj]
        simpa using this
      · rw [if_neg hi2, List.getElem?_eq_none (by omega)]
  rw [e1]
  exact (he.keep hk hs).append (Elems.one hr)
end
def NoS : Nat → Prop := fun _ => False
/-- The call's own row, not nil, is a filled one. -/
theorem Own.fill {α : Type} {R : Rdr α} {w : World} {base : Nat} {e : TypeId} {S : Nat → Prop} {v : Value} {xs : List α} (h : Own R w base e S v xs) (h0 : 0 < xs.length) :
    ∃ g cap, v = .slice (some ⟨g, 0, none⟩) xs.length cap ∧ base ≤ g ∧ xs.length ≤ cap ∧ cap ≤ maxLen ∧ Fill R w S g e cap xs := by
  obtain ⟨cells, ⟨hl, h⟩, he⟩ := h
  rcases h with ⟨_, hn⟩ | ⟨g, cap, cur, hv, hb, hh, hle, hm, hsz, htake⟩
  · omega
  · exact ⟨g, cap, hv, hb, hle, hm, cur, hh, hsz, by rw [htake]; exact he⟩
/-- An element that is there, another one in its place. -/
theorem Fill.put {α : Type} {R : Rdr α} {w : World} {S : Nat → Prop} {g : Nat} {t : TypeId} {n : Nat} {xs : List α} (h : Fill R w S g t n xs) {i : Nat} (hi : i < xs.length) {x : α} {cs : List Value} (hr : R.rd w S x cs) (hS : ¬ S g) : Fill R (w.setCells g (i * R.size) cs) S g t n (xs.set i x) := by
  obtain ⟨arr, hb, hsz, he⟩ := h
  have hcl := R.len hr
  have hle : xs.length * R.size ≤ arr.size := by
    have h0 := he.1; rw [List.length_take, show arr.toList.length = arr.size from Array.length_toList] at h0; omega
  have hmul : (i + 1) * R.size ≤ xs.length * R.size := Nat.mul_le_mul_right _ hi
  rw [Nat.add_mul, Nat.one_mul] at hmul
  obtain ⟨arr', h1, h2, h3, h4, h5⟩ := setCells_blk' cs (i * R.size) w arr hb (by omega)
  have hk : ∀ p : Addr, S p.block → (w.setCells g (i * R.size) cs).cell? p = w.cell? p := fun p hp => World.cell?_of_block (setCells_other g cs _ w p.block (fun e => hS (e ▸ hp)))
  refine ⟨arr', h1, by rw [h2, hsz], ?_, fun k y hy => ?_⟩
  · rw [List.length_take, show arr'.toList.length = arr'.size from Array.length_toList, show (xs.set i x).length = xs.length from List.length_set, h2]; omega
  · rw [show (xs.set i x).length = xs.length from List.length_set]
    by_cases hki : k = i
    · subst hki
      rw [List.getElem?_set_self (by omega)] at hy
      obtain rfl := Option.some.inj hy
      refine ⟨cs, R.keep hr hk fun _ h => h, fun j v hj => ?_⟩
      have hj' := (List.getElem?_eq_some_iff.1 hj).1
      rw [List.getElem?_take, if_pos (by omega)]
      simpa using h4 j v hj
    · rw [List.getElem?_set_ne (fun e => hki e.symm)] at hy
      obtain ⟨cs', hr', hc⟩ := he.2 k y hy
      refine ⟨cs', R.keep hr' hk fun _ h => h, fun j v hj => ?_⟩
      have hj' := (List.getElem?_eq_some_iff.1 hj).1
      rw [R.len hr'] at hj'
      have h6 := hc j v hj
      rw [List.getElem?_take] at h6 ⊢
      split at h6
      · rename_i h7
        rw [if_pos h7]
        have : arr'[k * R.size + j]? = arr[k * R.size + j]? := by
          rcases Nat.lt_or_gt_of_ne hki with h | h
          · have := Nat.mul_le_mul_right R.size (show k + 1 ≤ i by omega)
            rw [Nat.add_mul, Nat.one_mul] at this
            exact h3 _ (by omega)
          · have := Nat.mul_le_mul_right R.size (show i + 1 ≤ k by omega)
            rw [Nat.add_mul, Nat.one_mul] at this
            exact h5 _ (by omega)
        simp only [Array.getElem?_toList] at h6 ⊢
        rw [this]; exact h6
      · simp at h6
/-- The filled part, as a slice. -/
theorem Fill.sl {α : Type} {R : Rdr α} {w : World} {S S' : Nat → Prop} {g : Nat} {t : TypeId} {n : Nat} {xs : List α} (h : Fill R w S g t n xs) (hs : ∀ b, S b → S' b) (hg : S' g) : Sl R w S' (some ⟨g, 0, none⟩) xs := by
  obtain ⟨arr, hb, hsz, he⟩ := h
  intro i x hx
  obtain ⟨cs, hr, hc⟩ := he.2 i x hx
  refine ⟨g, 0, cs, rfl, hg, R.keep hr (fun _ _ => rfl) hs, fun j v hj => ?_⟩
  have h1 := hc j v hj
  rw [List.getElem?_take] at h1
  split at h1
  · rw [Nat.zero_add]
    exact hb.cell _ (by simpa using h1)
  · simp at h1
theorem Fill.imp {α : Type} {R Q : Rdr α} {w : World} {S : Nat → Prop} {g : Nat} {t : TypeId} {n : Nat} {xs : List α} (h : Fill R w S g t n xs) (hsz : R.size = Q.size) (hi : ∀ x cs, R.rd w S x cs → Q.rd w S x cs) : Fill Q w S g t n xs := by
  obtain ⟨arr, hb, hn, he⟩ := h
  refine ⟨arr, hb, by rw [← hsz]; exact hn, by rw [← hsz]; exact he.1, fun i x hx => ?_⟩
  obtain ⟨cs, hr, hc⟩ := he.2 i x hx
  exact ⟨cs, hi _ _ hr, by rw [← hsz]; exact hc⟩
/-- append onto a slice that fills its row: a new row; at a step of a region that draws its order. -/
theorem step_append_full {P : Program} {ops : Array Oper} {o : Oper} {a : Act} {w : World} {K : Act → World → Prop} {Q : Exit → Act → World → Prop} {E : Prop} {α : Type} {R : Rdr α}
    (hg : o.guard = none) (s x : Operand) (t : TypeId) (hop : o.op = Op.call { callee := Callee.builtin Builtin.append, args := #[s, x], argTypes := #[t, t] }) {e : TypeId} {bytes : Nat} (I : EI P t e R.size bytes) {S : Nat → Prop}
    (ad : Addr) (n : Nat) {xs : List α} (hs : a.eval s = .slice (some ad) n n) (hn : xs.length = n) (hsl : Sl R w S (some ad) xs) (hS : ∀ b, S b → b < w.heap.size) (ad' : Addr) (c : Nat) {y : α} {news : List Value} (hx : a.eval x = .slice (some ad') 1 c)
    (hy : R.rd w S y news) (hc : ∀ j u, news[j]? = some u → w.cell? (ad'.add j) = some u) (b1 : n + 1 ≤ maxLen) (b2 : (n + 1) * bytes ≤ 140737488355328)
    (hK : ∀ g cap w', n + 1 ≤ cap → cap ≤ maxLen → w.heap.size ≤ g → Fill R w' S g e cap (xs ++ [y]) → Below w.heap.size w w' → K (a.put o.dst (.slice (some ⟨g, 0, none⟩) (n + 1) cap)) w') :
    if Region.wanted o (yielded ops a.tmps) = true then Oper.wp P o a w K Q else E := by
  obtain ⟨hu, hp, i, z, hi, hz, hz1, hz2, hz3⟩ := I
  obtain ⟨olds, he, hcells⟩ := hsl.inRow
  have hel := he.append (Elems.one hy)
  refine step_append_grows hg s x t hop e i z R.size bytes hu hi hz hz1 hz2 hz3 hp (some ad) n n olds hs (fun h => by cases h) (by rw [he.1, hn]) (fun b hb j u hj => ?_) ad' 1 c news hx (by rw [Nat.one_mul, R.len hy]) hc (R.one hy) (by omega) b1 b2 ?_
  · obtain ⟨b', off, h1, h2⟩ := hcells j u hj
    obtain rfl := (Option.some.inj hb).symm.trans (Option.some.inj h1)
    rw [addr_add]; exact h2
  · intro v' w' hown hgr
    have hbel : Below w.heap.size w w' := (Below.refl _ _).grown hgr (Nat.le_refl _) (fun g hg => by cases hg)
    have hO : Own R w' w.heap.size e S v' (xs ++ [y]) := ⟨olds ++ news, by rw [List.length_append, hn]; exact hown, hel.keep (fun p hp => hbel.cell (hS _ hp)) fun _ h => h⟩
    obtain ⟨g, cap, rfl, h1, h2, h3, h4⟩ := hO.fill (by simp)
    rw [List.length_append, hn] at h2 ⊢
    exact hK g cap w' h2 h3 h1 h4 hbel
/-- 'make([]T, n)', n a variable: a new block of n elements, an equation for every world. -/
theorem EI.make {P : Program} {t e : TypeId} {size bytes : Nat} (E : EI P t e size bytes) (n : Nat) (hb : n * bytes ≤ 281474976710656) (h63 : n ≤ 9223372036854775807) :
    ∃ arr : Array Value, arr.size = n * size ∧ ∀ w : World, (Instr.makeSlice t (.int .i64 (n : Int)) (.int .i64 (n : Int))).run P w = .ok (.slice (some ⟨w.heap.size, 0, none⟩) n n) (w.alloc (.cells arr e)) := by
  obtain ⟨ht, _, i, z, hi, hz, hsz, hby, _⟩ := E
  refine ⟨madeCells z.cells (n * i.size), by rw [size_madeCells, hsz], fun w => ?_⟩
  have hb' : (i.bytes : Int) * (n : Int) ≤ 281474976710656 := by
    have h : ((n * bytes : Nat) : Int) ≤ 281474976710656 := by omega
    rw [hby, Int.mul_comm]
    rwa [Int.natCast_mul] at h
  have hr := run_make (P := P) w t e i z ht hi hz .i64 .i64 n n (by omega) (by omega) hb' (by omega)
  simpa using hr
end Go.Proofs.Ytponbodiibkopaa
