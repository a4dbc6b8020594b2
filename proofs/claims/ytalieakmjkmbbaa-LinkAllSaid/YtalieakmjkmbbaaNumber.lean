/-
  number: a body is given the end's next number.
-/
import Derived.Test.YtalieakmjkmbbaaBodies
import Derived.Deep.RegionHeld3
namespace Go.Proofs.Ytalieakmjkmbbaa
open Go.RowKit Go.Sort
set_option linter.unusedVariables false
set_option linter.unusedSimpArgs false
attribute [local go_sem ↓] Go.wp_at_zero Go.wp_at_succ

noncomputable def number_r1_code : Code := regionOf Try.f30 1
set_option maxRecDepth 100000 in
set_option maxHeartbeats 2000000 in
theorem number_r1 {Q : Exit → Act → World → Prop} {s3 s4 s5 s6 s8 s9 s10 s11 s12 s13 s14 s15 s16 s17 s18 s19 s20 s21 s22 s23 s24 s25 s26 s27 s28 s29 s30 s31 s32 s33 s34 : Value} {s7 : Value} (w : World) (E : Nat) (next now : Int) (body : List Int) (T : Option Addr) (n c : Nat)
    (hE : E < w.heap.size) (h0 : w.cell? ⟨E, 0, none⟩ = some (.int .i64 next)) (hn : body.length = n) (hT : Sl (Rint .u8) w (lo w.heap.size) T body) (hz : n ≤ 140737488355328)
    (hK : ∀ (d8 d9 d10 d11 d12 d13 d14 d15 : Value) (I : Nat) (T1 : Option Addr) (n1 c1 : Nat) (w2 : World), Blk w2 I 38 #[.int .i64 next, .slice T1 n1 c1, .int .i64 now] → Sl (Rint .u8) w2 (fun k => w.heap.size ≤ k ∧ k < w2.heap.size ∧ k ≠ I) T1 body → body.length = n1 → n1 ≤ c1 → c1 ≤ maxLen → w.heap.size ≤ I → Below w.heap.size w w2 →
      Q .normal ⟨#[.pointer (some ⟨E, 0, none⟩), .slice T n c, .int .i64 now, s3, s4, s5, s6, .pointer (some ⟨I, 0, none⟩), d8, d9, d10, d11, d12, d13, d14, d15, s16, s17, s18, s19, s20, s21, s22, s23, s24, s25, s26, s27, s28, s29, s30, s31, s32, s33, s34], []⟩ w2) :
    Code.wp Try.prog number_r1_code Q ⟨#[.pointer (some ⟨E, 0, none⟩), .slice T n c, .int .i64 now, s3, s4, s5, s6, s7, s8, s9, s10, s11, s12, s13, s14, s15, s16, s17, s18, s19, s20, s21, s22, s23, s24, s25, s26, s27, s28, s29, s30, s31, s32, s33, s34], []⟩ w := by
  have HK := Lib.hid hK; clear hK
  have HB := Lib.hid (And.intro hn hT); clear hn hT
  conv => arg 2; whnf
  refine wp_region_noPanic ?_
  refine wp_region_held_drew (S := (fun w' => w'.cell? ⟨E, 0, none⟩ = some (.int .i64 next))) (by kernel_rfl) ?_ (fun hHeld0 => ?_)
  · (try dsimp only)
    (first | assumption | (go_keep; done) | (simp [go_sem, *]; done))
  refine wpAnyH_take (i := 0) (oi := _) (v := ?v1) rfl (by kernel_rfl) (by kernel_rfl) (by kernel_rfl) (fun _ _ _ h => h) (Or.inl ⟨by rfl, ?hy1⟩) (by with_reducible assumption) ?rest1
  case hy1 => (intro w hSw; (try dsimp only at hSw); go_simp; try with_reducible rfl)
  try simp only [Act.put, List.setIfInBounds_toArray, List.set_cons_zero, List.set_cons_succ]
  refine wpAnyH_take (i := 1) (oi := _) (v := ?v2) rfl (by kernel_rfl) (by kernel_rfl) (by kernel_rfl) (fun _ _ _ h => h) (Or.inl ⟨by rfl, ?hy2⟩) (by with_reducible assumption) ?rest2
  case hy2 => (intro w hSw; (try dsimp only at hSw); go_simp; try with_reducible rfl)
  try simp only [Act.put, List.setIfInBounds_toArray, List.set_cons_zero, List.set_cons_succ]
  refine wpAnyH_take (i := 2) (oi := _) (v := ?v3) rfl (by kernel_rfl) (by kernel_rfl) (by kernel_rfl) (fun _ _ _ h => h) (Or.inl ⟨by rfl, ?hy3⟩) (by with_reducible assumption) ?rest3
  case hy3 => (intro w hSw; (try dsimp only at hSw); go_simp; try with_reducible rfl)
  try simp only [Act.put, List.setIfInBounds_toArray, List.set_cons_zero, List.set_cons_succ]
  refine wpAnyH_take (i := 3) (oi := _) (v := ?v4) rfl (by kernel_rfl) (by kernel_rfl) (by kernel_rfl) (fun _ _ _ h => h) (Or.inl ⟨by rfl, ?hy4⟩) (by with_reducible assumption) ?rest4
  case hy4 => (intro w hSw; (try dsimp only at hSw); go_simp; try with_reducible rfl)
  try simp only [Act.put, List.setIfInBounds_toArray, List.set_cons_zero, List.set_cons_succ]
  refine wpAnyH_take (i := 4) (oi := _) (v := ?v5) rfl (by kernel_rfl) (by kernel_rfl) (by kernel_rfl) (fun _ _ _ h => h) (Or.inl ⟨by rfl, ?hy5⟩) (by with_reducible assumption) ?rest5
  case hy5 => (intro w hSw; (try dsimp only at hSw); go_simp; try with_reducible rfl)
  try simp only [Act.put, List.setIfInBounds_toArray, List.set_cons_zero, List.set_cons_succ]
  refine wpAnyH_take (i := 6) (oi := _) (v := ?v6) rfl (by kernel_rfl) (by kernel_rfl) (by kernel_rfl) (fun _ _ _ h => h) (Or.inl ⟨by rfl, ?hy6⟩) (by with_reducible assumption) ?rest6
  case hy6 => (intro w hSw; (try dsimp only at hSw); go_simp; try with_reducible rfl)
  try simp only [Act.put, List.setIfInBounds_toArray, List.set_cons_zero, List.set_cons_succ]
  refine wpAnyH_ready (rs := [5, 8]) (by kernel_rfl) (by simp) ?_
  refine (AllReadyH.cons (o := _) rfl (fun K hK => ?_) (AllReadyH.cons (o := _) rfl (fun K hK => ?_) AllReadyH.nil))
  · skip
    go_simp
    refine (cloneB_any T body n c HB.out.1 _ (HB.out.2.below (by first | exact (Below.refl _ _).drew | exact ((Below.refl _ _).alloc (Nat.le_refl _) _).drew) (by simp)) (by omega)).mono ?_
    rintro e w1 ⟨T1, n1, c1, rfl, hn1, hl1, hm1, hs1, hb1⟩
    have z1 : w.heap.size ≤ w1.heap.size := by (have h9 := hb1.size; simp at h9; omega)
    have k0 : w1.cell? ⟨E, 0, none⟩ = some (.int .i64 next) := (hb1.cell (p := ⟨E, 0, none⟩) (by simp; omega)).trans (by simp [go_sem, World.cell?_alloc_past, *])
    have zE : E < w1.heap.size := by omega
    have HN1 := Lib.hid (And.intro hn1 (And.intro hl1 (And.intro hm1 (And.intro hs1 hb1))))
    try (have gI := Blk.below (w := (w.alloc (.cells #[.int .i64 0, .slice none 0 0, .int .i64 0] 38)).drew) (g := w.heap.size) (Blk.new w _ _ rfl) hb1 (by simp)
         have i0 := gI.cell 0 (v := .int .i64 0) rfl; have i1 := gI.cell 1 (v := .slice none 0 0) rfl; have i2 := gI.cell 2 (v := .int .i64 0) rfl
         have fI := gI.frozen
         have zI : w.heap.size < w1.heap.size := gI.lt
         have HGI := Lib.hid gI
         clear gI)
    clear hn1 hl1 hm1 hs1 hb1
    try dsimp only
    refine hK.out _ _ ?_ (fun hHeld7 => ?_)
    · (try dsimp only)
      (first | assumption | (go_keep; done) | (simp [go_sem, *]; done))
    clear hK K hHeld0
    try simp only [Act.put, List.setIfInBounds_toArray, List.set_cons_zero, List.set_cons_succ]
    refine wpAnyH_take (i := 7) (oi := _) (v := ?v8) rfl (by kernel_rfl) (by kernel_rfl) (by kernel_rfl) (fun _ _ _ h => h) (Or.inl ⟨by rfl, ?hy8⟩) (by with_reducible assumption) ?rest8
    case hy8 => (intro w hSw; (try dsimp only at hSw); go_simp; try with_reducible rfl)
    try simp only [Act.put, List.setIfInBounds_toArray, List.set_cons_zero, List.set_cons_succ]
    refine wpAnyH_ready (rs := [8]) (by kernel_rfl) (by simp) ?_
    refine (AllReadyH.cons (o := _) rfl (fun K hK => ?_) AllReadyH.nil)
    go_simp
    refine hK.out _ _ ?_ (fun hHeld9 => ?_)
    · (try dsimp only)
      (first | assumption | (go_keep; done) | (simp [go_sem, *]; done))
    clear hK K hHeld7
    try simp only [Act.put, List.setIfInBounds_toArray, List.set_cons_zero, List.set_cons_succ]
    refine wpAnyH_ready (rs := [9]) (by kernel_rfl) (by simp) ?_
    refine (AllReadyH.cons (o := _) rfl (fun K hK => ?_) AllReadyH.nil)
    go_simp
    refine hK.out _ _ ?_ (fun hHeld10 => ?_)
    · (try dsimp only)
      (first | assumption | (go_keep; done) | (simp [go_sem, *]; done))
    clear hK K hHeld9
    try simp only [Act.put, List.setIfInBounds_toArray, List.set_cons_zero, List.set_cons_succ]
    refine wpAnyH_done (by kernel_rfl) ?_ _
    refine NoPanic.normal ?_
    clear hHeld10
    first
      | exact HK.out _ _ _ _ _ _ _ _ (w1.heap.size) T1 n1 c1 _ (Blk.new _ _ _ rfl) ((HN1.out.2.2.2.1.keep (fun p hp => World.cell?_alloc_lt _ _ _ hp.2) (fun b hb => ⟨by have := hb.1; simpa using this, by have := hb.2; simp; omega, by have := hb.2; omega⟩))) HN1.out.1 HN1.out.2.1 HN1.out.2.2.1 z1 ((((Below.refl _ _).drew).trans HN1.out.2.2.2.2).alloc z1 _)
      | exact HK.out _ _ _ _ _ _ _ _ w.heap.size T1 n1 c1 _ (((HGI.out.set 0 _).set 1 _).set 2 _) ((((HN1.out.2.2.2.1.set (p := ⟨w.heap.size, 0, none⟩) (fun hm => absurd hm.1 (by simp)) _).set (p := ⟨w.heap.size, 1, none⟩) (fun hm => absurd hm.1 (by simp)) _).set (p := ⟨w.heap.size, 2, none⟩) (fun hm => absurd hm.1 (by simp)) _).more (fun b hb => ⟨by have := hb.1; simp at this; omega, by have := hb.2; simpa [World.setCell] using this, by have := hb.1; simp at this; omega⟩)) HN1.out.1 HN1.out.2.1 HN1.out.2.2.1 (Nat.le_refl _) ((((((Below.refl _ _).alloc (Nat.le_refl _) _).drew).trans (HN1.out.2.2.2.2.mono (by simp))).setCell (p := ⟨w.heap.size, 0, none⟩) (Nat.le_refl _) _).setCell (p := ⟨w.heap.size, 1, none⟩) (Nat.le_refl _) _ |>.setCell (p := ⟨w.heap.size, 2, none⟩) (Nat.le_refl _) _)
  · skip
    go_simp
    refine hK.out _ _ ?_ (fun hHeld11 => ?_)
    · (try dsimp only)
      (first | assumption | (go_keep; done) | (simp [go_sem, *]; done))
    clear hK K hHeld0
    try simp only [Act.put, List.setIfInBounds_toArray, List.set_cons_zero, List.set_cons_succ]
    refine wpAnyH_ready (rs := [5]) (by kernel_rfl) (by simp) ?_
    refine (AllReadyH.cons (o := _) rfl (fun K hK => ?_) AllReadyH.nil)
    go_simp
    refine (cloneB_any T body n c HB.out.1 _ (HB.out.2.below (by first | exact (Below.refl _ _).drew | exact ((Below.refl _ _).alloc (Nat.le_refl _) _).drew) (by simp)) (by omega)).mono ?_
    rintro e w1 ⟨T1, n1, c1, rfl, hn1, hl1, hm1, hs1, hb1⟩
    have z1 : w.heap.size ≤ w1.heap.size := by (have h9 := hb1.size; simp at h9; omega)
    have k0 : w1.cell? ⟨E, 0, none⟩ = some (.int .i64 next) := (hb1.cell (p := ⟨E, 0, none⟩) (by simp; omega)).trans (by simp [go_sem, World.cell?_alloc_past, *])
    have zE : E < w1.heap.size := by omega
    have HN1 := Lib.hid (And.intro hn1 (And.intro hl1 (And.intro hm1 (And.intro hs1 hb1))))
    try (have gI := Blk.below (w := (w.alloc (.cells #[.int .i64 0, .slice none 0 0, .int .i64 0] 38)).drew) (g := w.heap.size) (Blk.new w _ _ rfl) hb1 (by simp)
         have i0 := gI.cell 0 (v := .int .i64 0) rfl; have i1 := gI.cell 1 (v := .slice none 0 0) rfl; have i2 := gI.cell 2 (v := .int .i64 0) rfl
         have fI := gI.frozen
         have zI : w.heap.size < w1.heap.size := gI.lt
         have HGI := Lib.hid gI
         clear gI)
    clear hn1 hl1 hm1 hs1 hb1
    try dsimp only
    refine hK.out _ _ ?_ (fun hHeld12 => ?_)
    · (try dsimp only)
      (first | assumption | (go_keep; done) | (simp [go_sem, *]; done))
    clear hK K hHeld11
    try simp only [Act.put, List.setIfInBounds_toArray, List.set_cons_zero, List.set_cons_succ]
    refine wpAnyH_take (i := 7) (oi := _) (v := ?v13) rfl (by kernel_rfl) (by kernel_rfl) (by kernel_rfl) (fun _ _ _ h => h) (Or.inl ⟨by rfl, ?hy13⟩) (by with_reducible assumption) ?rest13
    case hy13 => (intro w hSw; (try dsimp only at hSw); go_simp; try with_reducible rfl)
    try simp only [Act.put, List.setIfInBounds_toArray, List.set_cons_zero, List.set_cons_succ]
    refine wpAnyH_ready (rs := [9]) (by kernel_rfl) (by simp) ?_
    refine (AllReadyH.cons (o := _) rfl (fun K hK => ?_) AllReadyH.nil)
    go_simp
    refine hK.out _ _ ?_ (fun hHeld14 => ?_)
    · (try dsimp only)
      (first | assumption | (go_keep; done) | (simp [go_sem, *]; done))
    clear hK K hHeld12
    try simp only [Act.put, List.setIfInBounds_toArray, List.set_cons_zero, List.set_cons_succ]
    refine wpAnyH_done (by kernel_rfl) ?_ _
    refine NoPanic.normal ?_
    clear hHeld14
    first
      | exact HK.out _ _ _ _ _ _ _ _ (w1.heap.size) T1 n1 c1 _ (Blk.new _ _ _ rfl) ((HN1.out.2.2.2.1.keep (fun p hp => World.cell?_alloc_lt _ _ _ hp.2) (fun b hb => ⟨by have := hb.1; simpa using this, by have := hb.2; simp; omega, by have := hb.2; omega⟩))) HN1.out.1 HN1.out.2.1 HN1.out.2.2.1 z1 ((((Below.refl _ _).drew).trans HN1.out.2.2.2.2).alloc z1 _)
      | exact HK.out _ _ _ _ _ _ _ _ w.heap.size T1 n1 c1 _ (((HGI.out.set 0 _).set 1 _).set 2 _) ((((HN1.out.2.2.2.1.set (p := ⟨w.heap.size, 0, none⟩) (fun hm => absurd hm.1 (by simp)) _).set (p := ⟨w.heap.size, 1, none⟩) (fun hm => absurd hm.1 (by simp)) _).set (p := ⟨w.heap.size, 2, none⟩) (fun hm => absurd hm.1 (by simp)) _).more (fun b hb => ⟨by have := hb.1; simp at this; omega, by have := hb.2; simpa [World.setCell] using this, by have := hb.1; simp at this; omega⟩)) HN1.out.1 HN1.out.2.1 HN1.out.2.2.1 (Nat.le_refl _) ((((((Below.refl _ _).alloc (Nat.le_refl _) _).drew).trans (HN1.out.2.2.2.2.mono (by simp))).setCell (p := ⟨w.heap.size, 0, none⟩) (Nat.le_refl _) _).setCell (p := ⟨w.heap.size, 1, none⟩) (Nat.le_refl _) _ |>.setCell (p := ⟨w.heap.size, 2, none⟩) (Nat.le_refl _) _)
/-- An item that was just laid, as the news of an append. -/
theorem newItem {W : World} {S : Nat → Prop} {l : It} {T : Option Addr} {n c : Nat} (hn : l.body.length = n) (h1 : (Lit.int .i64 l.sq).wf = true) (h2 : (Lit.int .i64 l.tm).wf = true) (hl : n ≤ c) (hm : c ≤ maxLen) (hs : Sl (Rint .u8) W S T l.body) :
    Elems Rit W S [l] [.int .i64 l.sq, .slice T n c, .int .i64 l.tm] := by
  subst hn; exact Elems.one (R := Rit) (x := l) ⟨T, c, rfl, h1, h2, hl, hm, hs⟩
/-- An item's block of one's own. -/
structure ItAt (w : World) (S : Nat → Prop) (I : Nat) (T : Option Addr) (n c : Nat) (l : It) : Prop where
  blk : Blk w I 38 #[.int .i64 l.sq, .slice T n c, .int .i64 l.tm]
  sq : (Lit.int .i64 l.sq).wf = true
  tm : (Lit.int .i64 l.tm).wf = true
  len : l.body.length = n
  le : n ≤ c
  cap : c ≤ maxLen
  body : Sl (Rint .u8) w S T l.body
theorem ready_item {w : World} {S : Nat → Prop} {I : Nat} {T : Option Addr} {n c : Nat} {l : It} {B : Nat} {e : TypeId} {X : Nat → Prop} {v : Value} {xs : List It} (hI : ItAt w S I T n c l) (ho : OwnX Rit w B e X v xs) (hS : ∀ k, S k → B ≤ k ∧ k < w.heap.size ∧ ¬ X k ∧ v.ownBlock ≠ some k) (hX : ∀ k, X k → k < w.heap.size) (hb : B ≤ w.heap.size) :
    OwnX Rit (w.alloc (.cells #[.int .i64 l.sq, .slice T n c, .int .i64 l.tm] 38)).drew B e X v xs ∧
    CellsAt (w.alloc (.cells #[.int .i64 l.sq, .slice T n c, .int .i64 l.tm] 38)).drew (some ⟨w.heap.size, 0, none⟩) [.int .i64 l.sq, .slice T n c, .int .i64 l.tm] ∧
    Elems Rit (w.alloc (.cells #[.int .i64 l.sq, .slice T n c, .int .i64 l.tm] 38)).drew S [l] [.int .i64 l.sq, .slice T n c, .int .i64 l.tm] ∧
    (∀ k, S k → B ≤ k ∧ k < (w.alloc (.cells #[.int .i64 l.sq, .slice T n c, .int .i64 l.tm] 38)).drew.heap.size ∧ ¬ X k ∧ v.ownBlock ≠ some k) ∧
    ¬ X (w.alloc (.cells #[.int .i64 l.sq, .slice T n c, .int .i64 l.tm] 38)).drew.heap.size ∧ B ≤ (w.alloc (.cells #[.int .i64 l.sq, .slice T n c, .int .i64 l.tm] 38)).drew.heap.size ∧ (w.alloc (.cells #[.int .i64 l.sq, .slice T n c, .int .i64 l.tm] 38)).drew.heap.size = w.heap.size + 1 := by
  refine ⟨?_, ?_, ?_, fun k hk => ?_, fun h => ?_, ?_, by simp⟩
  · exact ho.frame (fun k _ hk _ => Below.heap_alloc w _ k hk) (by simp) (fun _ _ _ h => h)
  · have := cellsNew (w := w) (g := w.heap.size) (cs := #[.int .i64 l.sq, .slice T n c, .int .i64 l.tm]) (t := 38) rfl
    exact this
  · exact newItem hI.len hI.sq hI.tm hI.le hI.cap (hI.body.keep (fun p hp => World.cell?_alloc_lt _ _ _ (hS _ hp).2.1) (fun _ h => h))
  · have := hS k hk
    exact ⟨this.1, by simp; omega, this.2.2⟩
  · have := hX _ h; simp at this; omega
  · simp; omega
noncomputable def number_r2_code : Code := regionOf Try.f30 2
set_option maxRecDepth 100000 in
set_option maxHeartbeats 2000000 in
theorem number_r2 {Q : Exit → Act → World → Prop} {s1 s2 s3 s4 s5 s6 s8 s9 s10 s11 s12 s13 s14 s15 s16 s17 s18 s19 s20 s21 s22 s23 s24 s25 s26 s27 s28 s29 s30 s31 s32 s33 s34 : Value} (w : World) (B E I : Nat) (nx vW : Value) (X S : Nat → Prop) (vS : Value) (xs : List It) (l : It) (T : Option Addr) (n c : Nat)
    (hE : Blk w E 35 #[nx, vS, vW]) (ho : OwnX Rit w B 38 X vS xs) (hXE : X E) (hX : ∀ k, X k → k < w.heap.size) (hBE : B ≤ E) (hI : ItAt w S I T n c l) (hIE : I ≠ E) (hIo : vS.ownBlock ≠ some I)
    (hS : ∀ k, S k → B ≤ k ∧ k < w.heap.size ∧ ¬ X k ∧ vS.ownBlock ≠ some k) (hz : (xs.length + 1) * 40 ≤ 140737488355328)
    (hK : ∀ (d16 d17 d18 d19 d20 d21 d22 d23 d24 d25 : Value) (A' : Option Addr) (cap : Nat) (w' : World), Blk w' E 35 #[nx, .slice A' (xs.length + 1) cap, vW] → OwnX Rit w' B 38 X (.slice A' (xs.length + 1) cap) (xs ++ [l]) → (∀ k, k < w.heap.size → k ≠ E → vS.ownBlock ≠ some k → w'.heap[k]? = w.heap[k]?) → w.heap.size ≤ w'.heap.size →
      ((Value.slice A' (xs.length + 1) cap).ownBlock = vS.ownBlock ∨ ∃ g, (Value.slice A' (xs.length + 1) cap).ownBlock = some g ∧ w.heap.size ≤ g) → Below B w w' → Q .normal ⟨#[.pointer (some ⟨E, 0, none⟩), s1, s2, s3, s4, s5, s6, .pointer (some ⟨I, 0, none⟩), s8, s9, s10, s11, s12, s13, s14, s15, d16, d17, d18, d19, d20, d21, d22, d23, d24, d25, s26, s27, s28, s29, s30, s31, s32, s33, s34], []⟩ w') :
    Code.wp Try.prog number_r2_code Q ⟨#[.pointer (some ⟨E, 0, none⟩), s1, s2, s3, s4, s5, s6, .pointer (some ⟨I, 0, none⟩), s8, s9, s10, s11, s12, s13, s14, s15, s16, s17, s18, s19, s20, s21, s22, s23, s24, s25, s26, s27, s28, s29, s30, s31, s32, s33, s34], []⟩ w := by
  have HK := Lib.hid hK; clear hK
  have i0 := hI.blk.cell 0 (v := .int .i64 l.sq) rfl; have i1 := hI.blk.cell 1 (v := .slice T n c) rfl; have i2 := hI.blk.cell 2 (v := .int .i64 l.tm) rfl
  have e1 := hE.cell 1 (v := vS) rfl; have fE := hE.frozen
  have hlE := hE.lt; have hlI := hI.blk.lt
  have hEo : vS.ownBlock ≠ some E := fun e => (ho.lt e).2.2 hXE
  have HR := Lib.hid (ready_item hI ho hS hX (by omega))
  have HI := Lib.hid hI; have HO := Lib.hid ho; have HE := Lib.hid hE
  obtain ⟨vA, vc, hvA⟩ := ho.form
  obtain ⟨xn, hxn⟩ : ∃ xn, xs.length = xn := ⟨_, rfl⟩
  rw [hxn] at hvA hz HK
  subst hvA
  have HN := Lib.hid hxn
  clear hI ho hS hX hE hxn
  conv => arg 2; whnf
  refine wp_region_noPanic ?_
  refine wp_region_held_drew (S := (fun w' => w'.cell? ⟨I, 0, none⟩ = some (.int .i64 l.sq) ∧ w'.cell? ⟨I, 1, none⟩ = some (.slice T n c) ∧ w'.cell? ⟨I, 2, none⟩ = some (.int .i64 l.tm))) (by kernel_rfl) ?_ (fun hHeld0 => ?_)
  · (try dsimp only)
    (first | assumption | (go_keep; done) | (refine ⟨?_, ?_, ?_⟩ <;> (first | (assumption) | (simp [go_sem, *]; done))))
  refine wpAnyH_take (i := 0) (oi := _) (v := ?v1) rfl (by kernel_rfl) (by kernel_rfl) (by kernel_rfl) (fun _ _ _ h => h) (Or.inl ⟨by rfl, ?hy1⟩) (by with_reducible assumption) ?rest1
  case hy1 => (intro w hSw; (try dsimp only at hSw); go_simp; try with_reducible rfl)
  try simp only [Act.put, List.setIfInBounds_toArray, List.set_cons_zero, List.set_cons_succ]
  refine wpAnyH_take (i := 1) (oi := _) (v := ?v2) rfl (by kernel_rfl) (by kernel_rfl) (by kernel_rfl) (fun _ _ _ h => h) (Or.inl ⟨by rfl, ?hy2⟩) (by with_reducible assumption) ?rest2
  case hy2 => (intro w hSw; (try dsimp only at hSw); go_simp; try with_reducible rfl)
  try simp only [Act.put, List.setIfInBounds_toArray, List.set_cons_zero, List.set_cons_succ]
  refine wpAnyH_take (i := 2) (oi := _) (v := ?v3) rfl (by kernel_rfl) (by kernel_rfl) (by kernel_rfl) (fun _ _ _ h => h) (Or.inl ⟨by rfl, ?hy3⟩) (by with_reducible assumption) ?rest3
  case hy3 => (intro w hSw; (try dsimp only at hSw); go_simp; try with_reducible rfl)
  try simp only [Act.put, List.setIfInBounds_toArray, List.set_cons_zero, List.set_cons_succ]
  refine wpAnyH_take (i := 3) (oi := _) (v := ?v4) rfl (by kernel_rfl) (by kernel_rfl) (by kernel_rfl) (fun _ _ _ h => h) (Or.inl ⟨by rfl, ?hy4⟩) (by with_reducible assumption) ?rest4
  case hy4 => (intro w hSw; (try dsimp only at hSw); go_simp; try with_reducible rfl)
  try simp only [Act.put, List.setIfInBounds_toArray, List.set_cons_zero, List.set_cons_succ]
  refine wpAnyH_take (i := 5) (oi := _) (v := ?v5) rfl (by kernel_rfl) (by kernel_rfl) (by kernel_rfl) (fun _ _ _ h => h) (Or.inl ⟨by rfl, ?hy5⟩) (by with_reducible assumption) ?rest5
  case hy5 => (intro w hSw; (try dsimp only at hSw); go_simp; try with_reducible rfl)
  try simp only [Act.put, List.setIfInBounds_toArray, List.set_cons_zero, List.set_cons_succ]
  refine wpAnyH_ready (rs := [4, 6]) (by kernel_rfl) (by simp) ?_
  refine (AllReadyH.cons (o := _) rfl (fun K hK => ?_) (AllReadyH.cons (o := _) rfl (fun K hK => ?_) AllReadyH.nil))
  · skip
    go_simp
    refine hK.out _ _ ?_ (fun hHeld6 => ?_)
    · (try dsimp only)
      (first | assumption | (go_keep; done) | (refine ⟨?_, ?_, ?_⟩ <;> (first | (assumption) | (simp [go_sem, *]; done))))
    clear hK K hHeld0
    try simp only [Act.put, List.setIfInBounds_toArray, List.set_cons_zero, List.set_cons_succ]
    refine wpAnyH_ready (rs := [6]) (by kernel_rfl) (by simp) ?_
    refine (AllReadyH.cons (o := _) rfl (fun K hK => ?_) AllReadyH.nil)
    go_simp
    refine hK.out _ _ ?_ (fun hHeld7 => ?_)
    · (try dsimp only)
      (first | assumption | (go_keep; done) | (refine ⟨?_, ?_, ?_⟩ <;> (first | (assumption) | (simp [go_sem, *]; done))))
    clear hK K hHeld6
    try simp only [Act.put, List.setIfInBounds_toArray, List.set_cons_zero, List.set_cons_succ]
    refine wpAnyH_ready (rs := [7]) (by kernel_rfl) (by simp) ?_
    refine (AllReadyH.cons (o := _) rfl (fun K hK => ?_) AllReadyH.nil)
    refine step_append_X rfl (.tmp 20) (.tmp 22) rfl ei_items (by rfl) HR.out.1 (some ⟨w.heap.size, 0, none⟩) 1 1 (ys := [l]) (by rfl) rfl HR.out.2.1 HR.out.2.2.1 HR.out.2.2.2.1 HR.out.2.2.2.2.1 (by rw [HN.out]; exact hz) (by rw [HN.out]; simp only [maxLen]; omega) HR.out.2.2.2.2.2.1 ?_
    rw [HN.out]
    intro A' cap w1 hox hg1 hat1 hbb1
    have hsame : ∀ b, b < w.heap.size → (Value.slice vA xn vc).ownBlock ≠ some b → w1.heap[b]? = w.heap[b]? := fun b hb hne => (hg1.block b (by rw [HR.out.2.2.2.2.2.2]; omega) (fun e => hne e.symm)).trans (Below.heap_alloc w _ b hb)
    have kI := hsame I hlI hIo
    have kE := hsame E hlE hEo
    have y0 := (World.cell?_of_block (a := ⟨I, 0, none⟩) kI).trans i0; have y1 := (World.cell?_of_block (a := ⟨I, 1, none⟩) kI).trans i1; have y2 := (World.cell?_of_block (a := ⟨I, 2, none⟩) kI).trans i2
    have yE := (World.cell?_of_block (a := ⟨E, 1, none⟩) kE).trans e1
    have fE1 : ∀ o, w1.frozen? ⟨E, o, none⟩ = false := fun o => by have h9 := fE o; unfold World.frozen? at h9 ⊢; rw [kE]; exact h9
    have hgE : Blk w1 E 35 #[nx, .slice vA xn vc, vW] := kE.trans HE.out
    have hz1 : w.heap.size ≤ w1.heap.size := by (have h9 := hbb1.size; rw [HR.out.2.2.2.2.2.2] at h9; omega)
    have hor : (Value.slice A' (xn + 1) cap).ownBlock = (Value.slice vA xn vc).ownBlock ∨ ∃ g, (Value.slice A' (xn + 1) cap).ownBlock = some g ∧ w.heap.size ≤ g := by
      rcases hat1 with e | e
      · exact .inl e
      · exact .inr ⟨_, e, by rw [HR.out.2.2.2.2.2.2]; omega⟩
    have hbb : RowKit.Below B w w1 := (((Below.refl B w).alloc (by omega) _).drew).trans hbb1
    clear hg1 hat1 kI kE hbb1
    refine hK.out _ _ ?_ (fun hHeld8 => ?_)
    · (try dsimp only)
      (first | assumption | (go_keep; done) | (refine ⟨?_, ?_, ?_⟩ <;> (first | (assumption) | (simp [go_sem, *]; done))))
    clear hK K hHeld7
    try simp only [Act.put, List.setIfInBounds_toArray, List.set_cons_zero, List.set_cons_succ]
    refine wpAnyH_take (i := 8) (oi := _) (v := ?v9) rfl (by kernel_rfl) (by kernel_rfl) (by kernel_rfl) (fun _ _ _ h => h) (Or.inl ⟨by rfl, ?hy9⟩) (by with_reducible assumption) ?rest9
    case hy9 => (intro w hSw; (try dsimp only at hSw); go_simp; try with_reducible rfl)
    try simp only [Act.put, List.setIfInBounds_toArray, List.set_cons_zero, List.set_cons_succ]
    refine wpAnyH_take (i := 9) (oi := _) (v := ?v10) rfl (by kernel_rfl) (by kernel_rfl) (by kernel_rfl) (fun _ _ _ h => h) (Or.inl ⟨by rfl, ?hy10⟩) (by with_reducible assumption) ?rest10
    case hy10 => (intro w hSw; (try dsimp only at hSw); go_simp; try with_reducible rfl)
    try simp only [Act.put, List.setIfInBounds_toArray, List.set_cons_zero, List.set_cons_succ]
    refine wpAnyH_ready (rs := [10]) (by kernel_rfl) (by simp) ?_
    refine (AllReadyH.cons (o := _) rfl (fun K hK => ?_) AllReadyH.nil)
    go_simp
    refine hK.out _ _ ?_ (fun hHeld11 => ?_)
    · (try dsimp only)
      (first | assumption | (go_keep; done) | (refine ⟨?_, ?_, ?_⟩ <;> (first | (assumption) | (simp [go_sem, *]; done))))
    clear hK K hHeld8
    try simp only [Act.put, List.setIfInBounds_toArray, List.set_cons_zero, List.set_cons_succ]
    refine wpAnyH_done (by kernel_rfl) ?_ _
    refine NoPanic.normal ?_
    clear hHeld11
    exact HK.out _ _ _ _ _ _ _ _ _ _ _ _ _ ((hgE.set 1 _)) (hox.far hXE _) (fun k hk hne hno => (Below.heap_setCell w1 ⟨E, 1, none⟩ _ k hne).trans (hsame k hk hno)) (by simp [World.setCell]; omega) hor (hbb.setCell (p := ⟨E, 1, none⟩) hBE _)
  · skip
    go_simp
    refine hK.out _ _ ?_ (fun hHeld12 => ?_)
    · (try dsimp only)
      (first | assumption | (go_keep; done) | (refine ⟨?_, ?_, ?_⟩ <;> (first | (assumption) | (simp [go_sem, *]; done))))
    clear hK K hHeld0
    try simp only [Act.put, List.setIfInBounds_toArray, List.set_cons_zero, List.set_cons_succ]
    refine wpAnyH_ready (rs := [4]) (by kernel_rfl) (by simp) ?_
    refine (AllReadyH.cons (o := _) rfl (fun K hK => ?_) AllReadyH.nil)
    go_simp
    refine hK.out _ _ ?_ (fun hHeld13 => ?_)
    · (try dsimp only)
      (first | assumption | (go_keep; done) | (refine ⟨?_, ?_, ?_⟩ <;> (first | (assumption) | (simp [go_sem, *]; done))))
    clear hK K hHeld12
    try simp only [Act.put, List.setIfInBounds_toArray, List.set_cons_zero, List.set_cons_succ]
    refine wpAnyH_ready (rs := [7]) (by kernel_rfl) (by simp) ?_
    refine (AllReadyH.cons (o := _) rfl (fun K hK => ?_) AllReadyH.nil)
    refine step_append_X rfl (.tmp 20) (.tmp 22) rfl ei_items (by rfl) HR.out.1 (some ⟨w.heap.size, 0, none⟩) 1 1 (ys := [l]) (by rfl) rfl HR.out.2.1 HR.out.2.2.1 HR.out.2.2.2.1 HR.out.2.2.2.2.1 (by rw [HN.out]; exact hz) (by rw [HN.out]; simp only [maxLen]; omega) HR.out.2.2.2.2.2.1 ?_
    rw [HN.out]
    intro A' cap w1 hox hg1 hat1 hbb1
    have hsame : ∀ b, b < w.heap.size → (Value.slice vA xn vc).ownBlock ≠ some b → w1.heap[b]? = w.heap[b]? := fun b hb hne => (hg1.block b (by rw [HR.out.2.2.2.2.2.2]; omega) (fun e => hne e.symm)).trans (Below.heap_alloc w _ b hb)
    have kI := hsame I hlI hIo
    have kE := hsame E hlE hEo
    have y0 := (World.cell?_of_block (a := ⟨I, 0, none⟩) kI).trans i0; have y1 := (World.cell?_of_block (a := ⟨I, 1, none⟩) kI).trans i1; have y2 := (World.cell?_of_block (a := ⟨I, 2, none⟩) kI).trans i2
    have yE := (World.cell?_of_block (a := ⟨E, 1, none⟩) kE).trans e1
    have fE1 : ∀ o, w1.frozen? ⟨E, o, none⟩ = false := fun o => by have h9 := fE o; unfold World.frozen? at h9 ⊢; rw [kE]; exact h9
    have hgE : Blk w1 E 35 #[nx, .slice vA xn vc, vW] := kE.trans HE.out
    have hz1 : w.heap.size ≤ w1.heap.size := by (have h9 := hbb1.size; rw [HR.out.2.2.2.2.2.2] at h9; omega)
    have hor : (Value.slice A' (xn + 1) cap).ownBlock = (Value.slice vA xn vc).ownBlock ∨ ∃ g, (Value.slice A' (xn + 1) cap).ownBlock = some g ∧ w.heap.size ≤ g := by
      rcases hat1 with e | e
      · exact .inl e
      · exact .inr ⟨_, e, by rw [HR.out.2.2.2.2.2.2]; omega⟩
    have hbb : RowKit.Below B w w1 := (((Below.refl B w).alloc (by omega) _).drew).trans hbb1
    clear hg1 hat1 kI kE hbb1
    refine hK.out _ _ ?_ (fun hHeld14 => ?_)
    · (try dsimp only)
      (first | assumption | (go_keep; done) | (refine ⟨?_, ?_, ?_⟩ <;> (first | (assumption) | (simp [go_sem, *]; done))))
    clear hK K hHeld13
    try simp only [Act.put, List.setIfInBounds_toArray, List.set_cons_zero, List.set_cons_succ]
    refine wpAnyH_take (i := 8) (oi := _) (v := ?v15) rfl (by kernel_rfl) (by kernel_rfl) (by kernel_rfl) (fun _ _ _ h => h) (Or.inl ⟨by rfl, ?hy15⟩) (by with_reducible assumption) ?rest15
    case hy15 => (intro w hSw; (try dsimp only at hSw); go_simp; try with_reducible rfl)
    try simp only [Act.put, List.setIfInBounds_toArray, List.set_cons_zero, List.set_cons_succ]
    refine wpAnyH_take (i := 9) (oi := _) (v := ?v16) rfl (by kernel_rfl) (by kernel_rfl) (by kernel_rfl) (fun _ _ _ h => h) (Or.inl ⟨by rfl, ?hy16⟩) (by with_reducible assumption) ?rest16
    case hy16 => (intro w hSw; (try dsimp only at hSw); go_simp; try with_reducible rfl)
    try simp only [Act.put, List.setIfInBounds_toArray, List.set_cons_zero, List.set_cons_succ]
    refine wpAnyH_ready (rs := [10]) (by kernel_rfl) (by simp) ?_
    refine (AllReadyH.cons (o := _) rfl (fun K hK => ?_) AllReadyH.nil)
    go_simp
    refine hK.out _ _ ?_ (fun hHeld17 => ?_)
    · (try dsimp only)
      (first | assumption | (go_keep; done) | (refine ⟨?_, ?_, ?_⟩ <;> (first | (assumption) | (simp [go_sem, *]; done))))
    clear hK K hHeld14
    try simp only [Act.put, List.setIfInBounds_toArray, List.set_cons_zero, List.set_cons_succ]
    refine wpAnyH_done (by kernel_rfl) ?_ _
    refine NoPanic.normal ?_
    clear hHeld17
    exact HK.out _ _ _ _ _ _ _ _ _ _ _ _ _ ((hgE.set 1 _)) (hox.far hXE _) (fun k hk hne hno => (Below.heap_setCell w1 ⟨E, 1, none⟩ _ k hne).trans (hsame k hk hno)) (by simp [World.setCell]; omega) hor (hbb.setCell (p := ⟨E, 1, none⟩) hBE _)
/-- What number leaves. -/
def NumPost (w : World) (B E : Nat) (next now : Int) (vW : Value) (X : Nat → Prop) (vS : Value) (xs : List It) (body : List Int) (e : Ending) (w' : World) : Prop :=
  ∃ (T' : Option Addr) (n' c' : Nat) (A' : Option Addr) (cap m : Nat), e = .returned (.agg #[.int .i64 next, .slice T' n' c', .int .i64 now]) ∧ body.length = n' ∧ n' ≤ c' ∧ c' ≤ maxLen ∧ w.heap.size ≤ m ∧ m ≤ w'.heap.size ∧ Sl (Rint .u8) w' (mid m w'.heap.size) T' body ∧
    Blk w' E 35 #[.int .i64 (next + 1), .slice A' (xs.length + 1) cap, vW] ∧ OwnX Rit w' B 38 (fun k => X k ∨ m ≤ k) (.slice A' (xs.length + 1) cap) (xs ++ [⟨next, body, now⟩]) ∧
    (∀ k, k < w.heap.size → k ≠ E → vS.ownBlock ≠ some k → w'.heap[k]? = w.heap[k]?) ∧ ((Value.slice A' (xs.length + 1) cap).ownBlock = vS.ownBlock ∨ ∃ g, (Value.slice A' (xs.length + 1) cap).ownBlock = some g ∧ w.heap.size ≤ g) ∧ Below B w w'
set_option maxRecDepth 100000 in
set_option maxHeartbeats 2000000 in
theorem number_any (w : World) (B E : Nat) (next now : Int) (vW : Value) (X : Nat → Prop) (vS : Value) (xs : List It) (body : List Int) (T : Option Addr) (n c : Nat)
    (hE : Blk w E 35 #[.int .i64 next, vS, vW]) (ho : OwnX Rit w B 38 X vS xs) (hXE : X E) (hX : ∀ k, X k → k < w.heap.size) (hBE : B ≤ E) (hn : body.length = n) (hT : Sl (Rint .u8) w (lo w.heap.size) T body) (hz : n ≤ 140737488355328) (hz2 : (xs.length + 1) * 40 ≤ 140737488355328)
    (hx0 : 0 ≤ next) (hx1 : next < 4611686018427387904) (hnow : (Lit.int .i64 now).wf = true) :
    Calls Try.prog 30 #[.pointer (some ⟨E, 0, none⟩), .slice T n c, .int .i64 now] w (NumPost w B E next now vW X vS xs body) := by
  have hlE := hE.lt
  have hb0 : RowKit.Below w.heap.size w (w.alloc (.cells #[.int .i64 0, .slice none 0 0, .int .i64 0] 38)) := (Below.refl _ _).alloc (Nat.le_refl _) _
  have hz0 : (w.alloc (.cells #[.int .i64 0, .slice none 0 0, .int .i64 0] 38)).heap.size = w.heap.size + 1 := by simp
  have hR := Blk.new w 38 #[.int .i64 0, .slice none 0 0, .int .i64 0] (g := w.heap.size) rfl
  have hE0 := hE.below hb0 hlE
  have ho0 : OwnX Rit (w.alloc (.cells #[.int .i64 0, .slice none 0 0, .int .i64 0] 38)) B 38 (fun k => X k ∨ k = w.heap.size) vS xs := ho.frame (fun k _ hk _ => hb0.block k hk) (by simp) (fun k _ hk hn h => h.elim hn (by omega))
  have hT0 := hT.below hb0 hb0.size
  have hXe : ∀ k, (X k ∨ k = w.heap.size) → k < w.heap.size + 1 := fun k h => by rcases h with h | h; exact Nat.lt_succ_of_lt (hX k h); omega
  have hoE : vS.ownBlock ≠ some w.heap.size := fun e => by have := (ho.lt e).2.1; omega
  have HO := Lib.hid ho
  go_enter Try.func30, Try.ntmps30
  go_upto_region 1 with fail
  generalize (w.alloc (.cells #[.int .i64 0, .slice none 0 0, .int .i64 0] 38)) = w0 at *
  have H0 := Lib.hid (And.intro hb0 (And.intro hR (And.intro hE0 (And.intro ho0 (And.intro hT0 (And.intro hXe hoE))))))
  clear hb0 hR hE0 ho0 hT0 hE hT hXe hoE ho
  refine number_r1 w0 E next now body T n c (by omega) (H0.out.2.2.1.cell 0 rfl) hn H0.out.2.2.2.2.1 hz ?_
  intro d8 d9 d10 d11 d12 d13 d14 d15 I T1 n1 c1 w2 hI2 hs2 hn1 hl1 hm1 hI hb2
  have z2 := hb2.size
  have hwf : (Lit.int .i64 next).wf = true := WalkArith.wf_i64 ⟨by omega, by omega⟩
  have H2 := Lib.hid (And.intro (show ItAt w2 _ I T1 n1 c1 ⟨next, body, now⟩ from ⟨hI2, hwf, hnow, hn1, hl1, hm1, hs2⟩) (And.intro (H0.out.2.2.1.below hb2 (by omega)) (And.intro (H0.out.2.2.2.1.up hb2) (And.intro (H0.out.2.1.below hb2 (by omega)) hb2))))
  have hz1 : n1 ≤ 140737488355328 := by omega
  clear hI2 hs2 hn1 hl1 hm1 hb2 hwf hn
  go_upto_region 2 with fail
  refine number_r2 w2 B E I (.int .i64 next) vW (fun k => X k ∨ k = w.heap.size) _ vS xs ⟨next, body, now⟩ T1 n1 c1 H2.out.2.1 H2.out.2.2.1 (.inl hXE) (fun k h => by have := H0.out.2.2.2.2.2.1 k h; omega) hBE H2.out.1 (by omega) (fun e => by have := (H0.out.2.2.2.1.lt e).2.1; omega) (fun k hk => ⟨by omega, hk.2.1, fun h => by have := H0.out.2.2.2.2.2.1 k h; omega, fun e => by have := (H0.out.2.2.2.1.lt e).2.1; omega⟩) hz2 ?_
  intro d16 d17 d18 d19 d20 d21 d22 d23 d24 d25 A' cap w3 hE3 ho3 hs3 hz3 hor3 hb3
  have hI3 : Blk w3 I 38 #[.int .i64 next, .slice T1 n1 c1, .int .i64 now] := (hs3 I (H2.out.1.blk.lt) (by omega) (fun e => by have := (H0.out.2.2.2.1.lt e).2.1; omega)).trans H2.out.1.blk
  have hR3 : Blk w3 w.heap.size 38 #[.int .i64 0, .slice none 0 0, .int .i64 0] := (hs3 w.heap.size (by omega) (by omega) H0.out.2.2.2.2.2.2).trans H2.out.2.2.2.1
  have hB3 : Sl (Rint .u8) w3 (lo w3.heap.size) T1 body := H2.out.1.body.keep (fun p hp => World.cell?_of_block (hs3 p.block hp.2.1 (by have := hp.1; omega) (fun e => by have := (H0.out.2.2.2.1.lt e).2.1; have := hp.1; omega))) (fun b hb => by have := hb.2.1; show b < _; omega)
  have e0 := hE3.cell 0 (v := .int .i64 next) rfl; have fE := hE3.frozen
  have i0 := hI3.cell 0 (v := .int .i64 next) rfl; have i1 := hI3.cell 1 (v := .slice T1 n1 c1) rfl; have i2 := hI3.cell 2 (v := .int .i64 now) rfl
  have hlE3 := hE3.lt; have hlI3 := hI3.lt; have hlR3 := hR3.lt
  have hIE : I ≠ E := by omega
  have hHE : w.heap.size ≠ E := by omega
  have hIH : I ≠ w.heap.size := by omega
  have hzs : (w3.setCell ⟨E, 0, none⟩ (.int .i64 (next + 1))).heap.size = w3.heap.size := by simp [World.setCell]
  have H3 := Lib.hid (And.intro (show Blk (w3.setCell ⟨E, 0, none⟩ (.int .i64 (next + 1))) E 35 #[.int .i64 (next + 1), .slice A' (xs.length + 1) cap, vW] from hE3.set 0 _) (And.intro (ho3.far (p := ⟨E, 0, none⟩) (.inl hXE) (.int .i64 (next + 1))) (And.intro (hR3.far (p := ⟨E, 0, none⟩) hHE (.int .i64 (next + 1))) (And.intro True.intro (And.intro hs3 (And.intro hor3 hb3))))))
  have HB4 := Lib.hid (show Sl (Rint .u8) (w3.setCell ⟨E, 0, none⟩ (.int .i64 (next + 1))) (lo (w3.setCell ⟨E, 0, none⟩ (.int .i64 (next + 1))).heap.size) T1 body from by
    rw [hzs]
    have h9 : Sl (Rint .u8) w3 (fun k => k < w3.heap.size ∧ k ≠ E) T1 body := H2.out.1.body.keep (fun p hp => World.cell?_of_block (hs3 p.block hp.2.1 (by have := hp.1; omega) (fun e => by have := (H0.out.2.2.2.1.lt e).2.1; have := hp.1; omega))) (fun b hb => ⟨by have := hb.2.1; omega, by have := hb.1; omega⟩)
    exact (h9.set (p := ⟨E, 0, none⟩) (fun h => h.2 rfl) _).more (fun b hb => hb.1))
  clear hE3 ho3 hs3 hor3 hb3 hI3 hR3 hB3
  go_wp2_with (go_at_call 29
               go_loud (skip
                        refine (copyItem_any ⟨next, body, now⟩ T1 n1 c1 H2.out.1.len _ HB4.out hz1).mono ?_
                        rintro e w5 ⟨T5, n5, c5, rfl, hn5, hl5, hm5, hs5, hb5⟩
                        have gR := H3.out.2.2.1.below hb5 (by simp [World.setCell]; omega)
                        have r0 := gR.cell 0 (v := .int .i64 0) rfl; have r1 := gR.cell 1 (v := .slice none 0 0) rfl; have r2 := gR.cell 2 (v := .int .i64 0) rfl
                        have fR := gR.frozen
                        have zR := gR.lt
                        have H5 := Lib.hid (And.intro hn5 (And.intro hl5 (And.intro hm5 (And.intro hs5 hb5))))
                        clear hn5 hl5 hm5 hs5 hb5 gR))
  refine bodyPost_ret (v := .agg #[.int .i64 next, .slice T5 n5 c5, .int .i64 now]) (by simp [results, Try.results30, go_sem, r0, r1, r2]) rfl ?_
  have hb5 := H5.out.2.2.2.2
  have hz5 := hb5.size
  have hblk : ∀ k, k ≠ w.heap.size → (((w5.setCell ⟨w.heap.size, 0, none⟩ (.int .i64 next)).setCell ⟨w.heap.size, 1, none⟩ (.slice T5 n5 c5)).setCell ⟨w.heap.size, 2, none⟩ (.int .i64 now)).heap[k]? = w5.heap[k]? := fun k hk =>
    (Below.heap_setCell _ _ _ k hk).trans ((Below.heap_setCell _ _ _ k hk).trans (Below.heap_setCell _ _ _ k hk))
  have hsz : (((w5.setCell ⟨w.heap.size, 0, none⟩ (.int .i64 next)).setCell ⟨w.heap.size, 1, none⟩ (.slice T5 n5 c5)).setCell ⟨w.heap.size, 2, none⟩ (.int .i64 now)).heap.size = w5.heap.size := by simp [World.setCell]
  have hb24 : RowKit.Below B w (w3.setCell ⟨E, 0, none⟩ (.int .i64 (next + 1))) := (((H0.out.1.trans (H2.out.2.2.2.2.mono (by omega))).mono (by omega)).trans H3.out.2.2.2.2.2.2).setCell (p := ⟨E, 0, none⟩) hBE _
  have hbf : RowKit.Below B w (((w5.setCell ⟨w.heap.size, 0, none⟩ (.int .i64 next)).setCell ⟨w.heap.size, 1, none⟩ (.slice T5 n5 c5)).setCell ⟨w.heap.size, 2, none⟩ (.int .i64 now)) :=
    (((hb24.trans (hb5.mono (by omega))).setCell (p := ⟨w.heap.size, 0, none⟩) (by show B ≤ w.heap.size; omega) _).setCell (p := ⟨w.heap.size, 1, none⟩) (by show B ≤ w.heap.size; omega) _).setCell (p := ⟨w.heap.size, 2, none⟩) (by show B ≤ w.heap.size; omega) _
  generalize (((w5.setCell ⟨w.heap.size, 0, none⟩ (.int .i64 next)).setCell ⟨w.heap.size, 1, none⟩ (.slice T5 n5 c5)).setCell ⟨w.heap.size, 2, none⟩ (.int .i64 now)) = wf at *
  refine ⟨T5, n5, c5, A', cap, w3.heap.size, rfl, H5.out.1, H5.out.2.1, H5.out.2.2.1, by omega, by omega, ?_, (hblk E (by omega)).trans (H3.out.1.below hb5 (by omega)), ?_, fun k hk hne hno => ?_, ?_, ?_⟩
  · refine H5.out.2.2.2.1.keep (fun p hp => World.cell?_of_block (hblk p.block (by have := hp.1; omega))) (fun b hb => ⟨by have := hb.1; omega, by have := hb.2; omega⟩)
  · refine H3.out.2.1.frame (fun k h1 h2 h3 => (hblk k (fun e => h3 (.inr e))).trans (hb5.block k h2)) (by omega) (fun k h1 h2 h3 h4 => ?_)
    rcases h4 with h4 | h4
    · exact h3 (.inl h4)
    · omega
  · rw [hblk k (by omega), hb5.block k (by omega), Below.heap_setCell w3 ⟨E, 0, none⟩ _ k hne, H3.out.2.2.2.2.1 k (by omega) hne hno, H2.out.2.2.2.2.block k (by omega)]
    exact H0.out.1.block k hk
  · rcases H3.out.2.2.2.2.2.1 with e | ⟨g, e, hg⟩
    · exact .inl e
    · exact .inr ⟨g, e, by omega⟩
  · exact hbf
end Go.Proofs.Ytalieakmjkmbbaa
