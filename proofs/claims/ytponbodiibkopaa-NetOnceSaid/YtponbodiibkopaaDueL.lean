/-
  net.Due: the loop that tells the flights that are due from the others.
-/
import Derived.Test.YtponbodiibkopaaSrt
namespace Go.Proofs.Ytponbodiibkopaa
open Go.RowKit Go.Sort
set_option linter.unusedVariables false

theorem Own.other {α : Type} {R : Rdr α} {w w' : World} {B : Nat} {e : TypeId} {S : Nat → Prop} {u : Value} {xs : List α} {row : Option Nat} (h : Own R w B e S u xs) (hg : w.grownBy w' row) (hne : ∀ g, u.ownBlock = some g → row ≠ some g) (hS : ∀ b, S b → b < w.heap.size ∧ row ≠ some b) : Own R w' B e S u xs :=
  h.keep (fun g hg' => hg.block g (h.lt hg').2 (fun e => hne g hg' e.symm)) (fun p hp => World.cell?_of_block (hg.block p.block (hS _ hp).1 (fun e => (hS _ hp).2 e.symm))) fun _ h => h
/-- What holds at the loop's head: k flights looked at. -/
structure DuW (w2 wr : World) (E : Nat) (vF v1 v2 : Value) (now : Int) (xs : List Fl) (k : Nat) : Prop where
  hE : Blk wr E 25 #[v2, vF]
  due : Own Rfl wr w2.heap.size 37 (mid (E + 1) w2.heap.size) v1 (dueL Fl.tm now (xs.take k))
  left : Own Rfl wr w2.heap.size 37 (mid (E + 1) w2.heap.size) v2 (leftL Fl.tm now (xs.take k))
  ne : ∀ g, v1.ownBlock = some g → v2.ownBlock ≠ some g
  fr : ∀ b, b < w2.heap.size → b ≠ E → wr.heap[b]? = w2.heap[b]?
  bel : Below E w2 wr
theorem dueL_succ {now : Int} {xs : List Fl} {k : Nat} {y : Fl} (hy : xs[k]? = some y) (h : y.tm ≤ now) : dueL Fl.tm now (xs.take (k + 1)) = dueL Fl.tm now (xs.take k) ++ [y] ∧ leftL Fl.tm now (xs.take (k + 1)) = leftL Fl.tm now (xs.take k) := by
  rw [take_snoc' hy, dueL_append, leftL_append]; simp [dueL, leftL, h]
theorem leftL_succ {now : Int} {xs : List Fl} {k : Nat} {y : Fl} (hy : xs[k]? = some y) (h : ¬ y.tm ≤ now) : dueL Fl.tm now (xs.take (k + 1)) = dueL Fl.tm now (xs.take k) ∧ leftL Fl.tm now (xs.take (k + 1)) = leftL Fl.tm now (xs.take k) ++ [y] := by
  rw [take_snoc' hy, dueL_append, leftL_append]; simp [dueL, leftL, h]
/-- A flight's box and the row of one that append reads. -/
abbrev twoF (wr : World) (cs : Array Value) : World := (wr.alloc (.cells cs 37)).alloc (.cells cs 37)
theorem DuW.two {w2 wr : World} {E : Nat} {vF v1 v2 : Value} {now : Int} {xs : List Fl} {k : Nat} (h : DuW w2 wr E vF v1 v2 now xs k) (hE : E < w2.heap.size) (cs : Array Value) : DuW w2 (twoF wr cs) E vF v1 v2 now xs k := by
  have hz := h.bel.size
  have hb : ∀ b, b < wr.heap.size → (twoF wr cs).heap[b]? = wr.heap[b]? := fun b hb => (Below.heap_alloc _ _ b (by simp; omega)).trans (Below.heap_alloc wr _ b hb)
  have hk : ∀ p : Addr, mid (E + 1) w2.heap.size p.block → (twoF wr cs).cell? p = wr.cell? p := fun p hp => World.cell?_of_block (hb _ (by have := hp.2; omega))
  exact ⟨(hb E (by omega)).trans h.hE, h.due.keep (fun g hg => hb g (h.due.lt hg).2) hk (fun _ h => h), h.left.keep (fun g hg => hb g (h.left.lt hg).2) hk (fun _ h => h), h.ne, fun b h1 h2 => (hb b (by omega)).trans (h.fr b h1 h2), (h.bel.alloc (by omega) _).alloc (by simp; omega) _⟩
/-- One more due. -/
theorem DuW.due1 {w2 wr w' : World} {E : Nat} {vF v1 v2 v' : Value} {now : Int} {xs : List Fl} {k : Nat} {y : Fl} (h : DuW w2 wr E vF v1 v2 now xs k) (hE : E < w2.heap.size) (hy : xs[k]? = some y) (ht : y.tm ≤ now) (ho : Own Rfl w' w2.heap.size 37 (mid (E + 1) w2.heap.size) v' (dueL Fl.tm now (xs.take k) ++ [y])) (hg : wr.grownBy w' v1.ownBlock) (hv : v'.ownBlock = v1.ownBlock ∨ v'.ownBlock = some wr.heap.size) : DuW w2 w' E vF v' v2 now xs (k + 1) := by
  have hz := h.bel.size
  have hS : ∀ b, b < w2.heap.size → v1.ownBlock ≠ some b := fun b hb e => by have := (h.due.lt e).1; omega
  obtain ⟨e1, e2⟩ := dueL_succ hy ht
  refine ⟨h.hE.grown hg (fun e => hS E hE e.symm), by rw [e1]; exact ho, by rw [e2]; exact h.left.other hg (fun g hg e => h.ne g e hg) (fun b hb => ⟨by have := hb.2; omega, hS b hb.2⟩), fun g hg' => ?_, fun b h1 h2 => (hg.block b (by omega) (fun e => hS b h1 e.symm)).trans (h.fr b h1 h2), h.bel.grown hg (by omega) (fun g hg => by have := (h.due.lt hg).1; omega)⟩
  rcases hv with e | e
  · exact h.ne g (by rw [← e]; exact hg')
  · rw [e] at hg'; obtain rfl := Option.some.inj hg'
    intro e9; have := (h.left.lt e9).2; omega
/-- One more left. -/
theorem DuW.left1 {w2 wr w' : World} {E : Nat} {vF v1 v2 v' : Value} {now : Int} {xs : List Fl} {k : Nat} {y : Fl} (h : DuW w2 wr E vF v1 v2 now xs k) (hE : E < w2.heap.size) (hy : xs[k]? = some y) (ht : ¬ y.tm ≤ now) (ho : Own Rfl w' w2.heap.size 37 (mid (E + 1) w2.heap.size) v' (leftL Fl.tm now (xs.take k) ++ [y])) (hg : wr.grownBy w' v2.ownBlock) (hv : v'.ownBlock = v2.ownBlock ∨ v'.ownBlock = some wr.heap.size) : DuW w2 (w'.setCell ⟨E, 0, none⟩ v') E vF v1 v' now xs (k + 1) := by
  have hz := h.bel.size
  have hS : ∀ b, b < w2.heap.size → v2.ownBlock ≠ some b := fun b hb e => by have := (h.left.lt e).1; omega
  obtain ⟨e1, e2⟩ := leftL_succ hy ht
  have hM : ¬ mid (E + 1) w2.heap.size E := fun h => by have := h.1; omega
  refine ⟨(h.hE.grown hg (fun e => hS E hE e.symm)).set 0 _, by rw [e1]; exact (h.due.other hg (fun g hg => h.ne g hg) (fun b hb => ⟨by have := hb.2; omega, hS b hb.2⟩)).setBelow (p := ⟨E, 0, none⟩) hE hM _, by rw [e2]; exact ho.setBelow (p := ⟨E, 0, none⟩) hE hM _, fun g hg' => ?_, fun b h1 h2 => (Below.heap_setCell w' ⟨E, 0, none⟩ _ b h2).trans ((hg.block b (by omega) (fun e => hS b h1 e.symm)).trans (h.fr b h1 h2)), (h.bel.grown hg (by omega) (fun g hg => by have := (h.left.lt hg).1; omega)).setCell (p := ⟨E, 0, none⟩) (Nat.le_refl _) _⟩
  rcases hv with e | e
  · rw [e]; exact h.ne g hg'
  · rw [e]; intro e9; obtain rfl := Option.some.inj e9
    have := (h.due.lt hg').2; omega
theorem dueL_len (now : Int) (xs : List Fl) (k : Nat) : (dueL Fl.tm now (xs.take k)).length ≤ k := filter_len _ _ _
theorem leftL_len (now : Int) (xs : List Fl) (k : Nat) : (leftL Fl.tm now (xs.take k)).length ≤ k := filter_len _ _ _
noncomputable def due_loop_code : Code := blockOf Try.f13 0
set_option maxRecDepth 100000 in
set_option maxHeartbeats 2000000 in
theorem due_loop {Q : Exit → Act → World → Prop} {s0 s2 s3 s4 s5 s8 s9 s10 s11 s12 s13 s14 s15 s19 s20 s21 s22 s23 s24 s25 s26 s27 s28 s29 s30 s31 s32 s33 s34 s35 s36 s37 s38 s39 s40 : Value} (w2 : World) (E : Nat) (vF : Value) (now : Int) (xs : List Fl) (A : Option Addr) (n c : Nat) (hn : xs.length = n) (hE : Blk w2 E 25 #[.slice none 0 0, vF]) (hx : Sl Rfl w2 (mid (E + 1) w2.heap.size) A xs) (hz : n * 48 ≤ 140737488355328)
    (hK : ∀ (d9 d19 d20 d21 d22 d23 d24 d25 d26 d27 d28 d29 d30 d31 d32 d33 d34 d35 d36 : Value) (v1 v2 : Value) (w' : World), DuW w2 w' E vF v1 v2 now xs n → Q .normal ⟨#[s0, .int .i64 now, s2, s3, s4, s5, .pointer (some ⟨E, 0, none⟩), v1, s8, d9, s10, s11, s12, s13, s14, s15, .slice A n c, .int .i64 n, .int .i64 n, d19, d20, d21, d22, d23, d24, d25, d26, d27, d28, d29, d30, d31, d32, d33, d34, d35, d36, s37, s38, s39, s40], []⟩ w') :
    Code.wp Try.prog due_loop_code Q ⟨#[s0, .int .i64 now, s2, s3, s4, s5, .pointer (some ⟨E, 0, none⟩), .slice none 0 0, s8, s9, s10, s11, s12, s13, s14, s15, .slice A n c, .int .i64 n, .int .i64 0, s19, s20, s21, s22, s23, s24, s25, s26, s27, s28, s29, s30, s31, s32, s33, s34, s35, s36, s37, s38, s39, s40], []⟩ w2 := by
  have HK := Lib.hid hK; clear hK
  have hlE := hE.lt
  have H0 := Lib.hid (show DuW w2 w2 E vF (.slice none 0 0) (.slice none 0 0) now xs 0 from ⟨hE, Own.nil _ _ _ _ _, Own.nil _ _ _ _ _, fun g h => by simp [Value.ownBlock] at h, fun _ _ _ => rfl, Below.refl _ _⟩)
  have HX := Lib.hid (And.intro hn hx)
  clear hE hx hn
  conv => arg 2; whnf
  go_wp2
  go_loopw [7, 18] (fun v1 i wr => ∃ (k : Nat) (v2 : Value), k ≤ n ∧ i = .int .i64 k ∧ DuW w2 wr E vF v1 v2 now xs k) (fun _ i _ => n - (intOf i).toNat)
  case atStart => exact ⟨0, _, Nat.zero_le _, rfl, H0.out⟩
  case round =>
    clear H0
    obtain ⟨wr, rfl⟩ : ∃ wx : World, wx = wr := ⟨_, rfl⟩
    obtain ⟨k, v2, hk, rfl, hA⟩ := hrel
    have hzr := hA.bel.size
    have hlEr : E < wr.heap.size := by omega
    by_cases hlt : k < n
    · have hy := List.getElem?_eq_getElem (l := xs) (i := k) (by rw [HX.out.1]; exact hlt)
      generalize xs[k]'(by rw [HX.out.1]; exact hlt) = y at hy
      obtain ⟨b', off', T', tn', tc', rfl, hlb, w1, w2', w3, htn', hl', hm', hts', y0, y1, y2, y3⟩ := (HX.out.2.keep (w' := wr) (S' := mid (E + 1) w2.heap.size) (fun p hp => World.cell?_of_block (hA.fr _ hp.2 (by have := hp.1; omega))) (fun _ h => h)).flight hy
      have hlb' : b' < w2.heap.size := hlb.2
      have hA2 := hA.two hlE #[.int .i64 y.tm, .int .i64 y.fr, .int .i64 y.tgt, .slice T' tn' tc']
      have hel : Elems Rfl (twoF wr #[.int .i64 y.tm, .int .i64 y.fr, .int .i64 y.tgt, .slice T' tn' tc']) (mid (E + 1) w2.heap.size) [y] [.int .i64 y.tm, .int .i64 y.fr, .int .i64 y.tgt, .slice T' tn' tc'] :=
        Elems.one (R := Rfl) (x := y) ⟨T', tc', by rw [htn'], w1, w2', w3, by rw [htn']; exact hl', hm', hts'.keep (fun p hp => (World.cell?_alloc_lt _ _ _ (by have := hp.2; simp; omega)).trans (World.cell?_alloc_lt _ _ _ (by have := hp.2; omega))) (fun _ h => h)⟩
      have hcl : CellsAt (twoF wr #[.int .i64 y.tm, .int .i64 y.fr, .int .i64 y.tgt, .slice T' tn' tc']) (some ⟨wr.heap.size + 1, 0, none⟩) [.int .i64 y.tm, .int .i64 y.fr, .int .i64 y.tgt, .slice T' tn' tc'] := cellsNew (by simp)
      have hzt : (twoF wr #[.int .i64 y.tm, .int .i64 y.fr, .int .i64 y.tgt, .slice T' tn' tc']).heap.size = wr.heap.size + 2 := by simp
      obtain ⟨dA, dc, hdA⟩ := hA.due.form
      obtain ⟨lA, lc, hlA⟩ := hA.left.form
      have hdl := dueL_len now xs k
      have hll := leftL_len now xs k
      obtain ⟨dn, hdn⟩ : ∃ dn, (dueL Fl.tm now (xs.take k)).length = dn := ⟨_, rfl⟩
      obtain ⟨ln, hln⟩ : ∃ ln, (leftL Fl.tm now (xs.take k)).length = ln := ⟨_, rfl⟩
      rw [hdn] at hdA hdl
      rw [hln] at hlA hll
      subst hdA hlA
      have e0 := (hA.hE.cell 0 (v := .slice lA ln lc) rfl)
      have fE := hA.hE.frozen
      have HY := Lib.hid (And.intro hy (And.intro hA2 (And.intro hel (And.intro hcl (And.intro hdn hln)))))
      clear hy hA hA2 hel hcl w1 w2' w3 htn' hl' hm' hts' hdn hln
      by_cases hle : y.tm ≤ now
      · have d1 : decide (y.tm ≤ now) = true := decide_eq_true hle
        have HL := Lib.hid hle; clear hle e0 fE
        go_wp2_with (at_builtin
                     go_loud (skip
                              refine wpList_append_own' _ rfl (.tmp 26) (.tmp 28) _ rfl ei_flights _ rfl HY.out.2.1.due (fun b hb => ⟨by have := hb.2; simp; omega, fun e => by have h9 := (HY.out.2.1.due.lt e).1; have := hb.2; omega⟩) (some ⟨wr.heap.size + 1, 0, none⟩) 1 1 (ys := [y]) rfl rfl HY.out.2.2.2.1 HY.out.2.2.1 (by rw [HY.out.2.2.2.2.1]; omega) (by rw [HY.out.2.2.2.2.1]; simp only [maxLen]; omega) (by simp; omega) ?_
                              intro v' w6 hox hg1 hat1
                              have H6 := Lib.hid (HY.out.2.1.due1 hlE HY.out.1 HL.out hox hg1 hat1)
                              clear hox hg1 hat1))
        go_roundw
        case measure => simp [intOf]; omega
        case rel => exact ⟨k + 1, _, by omega, by go_num, H6.out⟩
      · have d1 : decide (y.tm ≤ now) = false := decide_eq_false hle
        have HL := Lib.hid hle; clear hle
        go_wp2_with (at_builtin
                     go_loud (skip
                              refine wpList_append_own' _ rfl (.tmp 31) (.tmp 33) _ rfl ei_flights _ rfl HY.out.2.1.left (fun b hb => ⟨by have := hb.2; simp; omega, fun e => by have h9 := (HY.out.2.1.left.lt e).1; have := hb.2; omega⟩) (some ⟨wr.heap.size + 1, 0, none⟩) 1 1 (ys := [y]) rfl rfl HY.out.2.2.2.1 HY.out.2.2.1 (by rw [HY.out.2.2.2.2.2]; omega) (by rw [HY.out.2.2.2.2.2]; simp only [maxLen]; omega) (by simp; omega) ?_
                              intro v' w6 hox hg1 hat1
                              obtain ⟨A', c', hv'⟩ := hox.form
                              generalize (leftL Fl.tm now (xs.take k) ++ [y]).length = m' at hv'
                              subst hv'
                              have hEb : Blk w6 E 25 #[.slice lA ln lc, vF] := HY.out.2.1.hE.grown hg1 (fun e => by have h9 := (HY.out.2.1.left.lt e.symm).1; omega)
                              have e0' := hEb.cell 0 (v := .slice lA ln lc) rfl
                              have fE' := hEb.frozen
                              have H6 := Lib.hid (HY.out.2.1.left1 hlE HY.out.1 HL.out hox hg1 hat1)
                              clear hox hg1 hat1 hEb))
        go_roundw
        case measure => simp [intOf]; omega
        case rel => exact ⟨k + 1, _, by omega, by go_num, H6.out⟩
    · obtain rfl : k = n := by omega
      have HA := Lib.hid hA; clear hA
      go_wp2
      exact HK.out _ _ _ _ _ _ _ _ _ _ _ _ _ _ _ _ _ _ _ _ _ _ HA.out
end Go.Proofs.Ytponbodiibkopaa
