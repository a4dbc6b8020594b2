/-
  Ack: what it comes to; the loop that leaves items out.
-/
import Derived.Test.YtalieakmjkmbbaaAgain
namespace Go.Proofs.Ytalieakmjkmbbaa
open Go.RowKit Go.Sort
set_option linter.unusedVariables false
attribute [local go_sem ↓] Go.wp_at_zero Go.wp_at_succ

def ackSent (n : Int) (xs : List It) : List It := xs.filter (fun x => decide (n ≤ x.sq))
def numL (next now : Int) : List (List Int) → List It
  | [] => []
  | b :: r => ⟨next, b, now⟩ :: numL (next + 1) now r
def ackT (o : Ot) (n window : Int) : Nat := min o.wait.length (window - ((ackSent n o.sent).length : Int)).toNat
def ackP (o : Ot) (n window now : Int) : Ot × List It :=
  (⟨o.next + ackT o n window, ackSent n o.sent ++ numL o.next now (o.wait.take (ackT o n window)), o.wait.drop (ackT o n window)⟩, numL o.next now (o.wait.take (ackT o n window)))
theorem numL_len (now : Int) : ∀ (xs : List (List Int)) (next : Int), (numL next now xs).length = xs.length
  | [], _ => rfl
  | _ :: r, next => by simp [numL, numL_len now r]
theorem numL_snoc (now : Int) : ∀ (xs : List (List Int)) (next : Int) (b : List Int), numL next now (xs ++ [b]) = numL next now xs ++ [⟨next + xs.length, b, now⟩]
  | [], next, b => by simp [numL]
  | x :: r, next, b => by
    simp only [List.cons_append, numL, numL_snoc now r, List.length_cons]
    congr 3
    simp; omega
theorem ready_item2 {w w1 : World} {T : Option Addr} {n c : Nat} {l : It} {B : Nat} {e : TypeId} {X : Nat → Prop} {v : Value} {xs : List It} (hn : l.body.length = n) (h1 : (Lit.int .i64 l.sq).wf = true) (h2 : (Lit.int .i64 l.tm).wf = true) (hl : n ≤ c) (hm : c ≤ maxLen) (hs : Sl (Rint .u8) w1 (mid w.heap.size w1.heap.size) T l.body)
    (hb1 : Below w.heap.size w w1) (ho : OwnX Rit w B e X v xs) (hX : ∀ k, X k → k < w.heap.size) (hb : B ≤ w.heap.size) :
    OwnX Rit (w1.alloc (.cells #[.int .i64 l.sq, .slice T n c, .int .i64 l.tm] 38)) B e X v xs ∧
    CellsAt (w1.alloc (.cells #[.int .i64 l.sq, .slice T n c, .int .i64 l.tm] 38)) (some ⟨w1.heap.size, 0, none⟩) [.int .i64 l.sq, .slice T n c, .int .i64 l.tm] ∧
    Elems Rit (w1.alloc (.cells #[.int .i64 l.sq, .slice T n c, .int .i64 l.tm] 38)) (mid w.heap.size w1.heap.size) [l] [.int .i64 l.sq, .slice T n c, .int .i64 l.tm] ∧
    (∀ k, mid w.heap.size w1.heap.size k → B ≤ k ∧ k < (w1.alloc (.cells #[.int .i64 l.sq, .slice T n c, .int .i64 l.tm] 38)).heap.size ∧ ¬ X k ∧ v.ownBlock ≠ some k) ∧
    ¬ X (w1.alloc (.cells #[.int .i64 l.sq, .slice T n c, .int .i64 l.tm] 38)).heap.size ∧ B ≤ (w1.alloc (.cells #[.int .i64 l.sq, .slice T n c, .int .i64 l.tm] 38)).heap.size ∧ (w1.alloc (.cells #[.int .i64 l.sq, .slice T n c, .int .i64 l.tm] 38)).heap.size = w1.heap.size + 1 := by
  have hz := hb1.size
  refine ⟨?_, ?_, ?_, fun k hk => ⟨by have := hk.1; omega, by have := hk.2; simp; omega, fun h => by have := hX k h; have := hk.1; omega, fun e => by have := (ho.lt e).2.1; have := hk.1; omega⟩, fun h => ?_, by simp; omega, by simp⟩
  · exact ho.frame (fun k _ hk _ => (Below.heap_alloc w1 _ k (by omega)).trans (hb1.block k hk)) (by simp; omega) (fun _ _ _ h => h)
  · have := cellsNew (w := w1) (g := w1.heap.size) (cs := #[.int .i64 l.sq, .slice T n c, .int .i64 l.tm]) (t := 38) rfl
    exact this
  · exact newItem hn h1 h2 hl hm (hs.keep (fun p hp => World.cell?_alloc_lt _ _ _ hp.2) (fun _ h => h))
  · have := hX _ h; simp at this; omega
noncomputable def ack_r6_code : Code := regionOf Try.f18 6
set_option maxRecDepth 100000 in
set_option maxHeartbeats 2000000 in
theorem ack_r6 {Q : Exit → Act → World → Prop} {s0 s1 s2 s3 s4 s5 s6 s7 s8 s9 s11 s13 s14 s15 s16 s17 s18 s19 s20 s21 s22 s23 s24 s25 s26 s27 s28 s29 s30 s31 s32 s33 s34 s35 s36 s37 s38 s39 s40 s41 s42 s43 s44 s45 s46 s47 s48 s49 s50 s51 s52 s53 s54 s55 s56 s57 s58 s59 s60 s61 s62 s63 s64 s65 s66 s67 s68 : Value} (w : World) (B E I : Nat) (nx vW : Value) (X : Nat → Prop) (vS : Value) (xs : List It) (l : It) (T : Option Addr) (n c : Nat)
    (hE : Blk w E 35 #[nx, vS, vW]) (ho : OwnX Rit w B 38 X vS xs) (hXE : X E) (hX : ∀ k, X k → k < w.heap.size) (hBE : B ≤ E) (hI : ItAt w (lo w.heap.size) I T n c l) (hIE : I ≠ E) (hIo : vS.ownBlock ≠ some I) (hz : n ≤ 140737488355328) (hz2 : (xs.length + 1) * 40 ≤ 140737488355328)
    (hK : ∀ (d29 d30 d31 d32 d33 d34 d35 : Value) (A' : Option Addr) (cap : Nat) (w' : World), Blk w' E 35 #[nx, .slice A' (xs.length + 1) cap, vW] → OwnX Rit w' B 38 X (.slice A' (xs.length + 1) cap) (xs ++ [l]) → (∀ k, k < w.heap.size → k ≠ E → vS.ownBlock ≠ some k → w'.heap[k]? = w.heap[k]?) → w.heap.size ≤ w'.heap.size →
      Below B w w' → Q .normal ⟨#[s0, s1, s2, s3, s4, s5, s6, s7, s8, s9, .pointer (some ⟨E, 0, none⟩), s11, .pointer (some ⟨I, 0, none⟩), s13, s14, s15, s16, s17, s18, s19, s20, s21, s22, s23, s24, s25, s26, s27, s28, d29, d30, d31, d32, d33, d34, d35, s36, s37, s38, s39, s40, s41, s42, s43, s44, s45, s46, s47, s48, s49, s50, s51, s52, s53, s54, s55, s56, s57, s58, s59, s60, s61, s62, s63, s64, s65, s66, s67, s68], []⟩ w') :
    Code.wp Try.prog ack_r6_code Q ⟨#[s0, s1, s2, s3, s4, s5, s6, s7, s8, s9, .pointer (some ⟨E, 0, none⟩), s11, .pointer (some ⟨I, 0, none⟩), s13, s14, s15, s16, s17, s18, s19, s20, s21, s22, s23, s24, s25, s26, s27, s28, s29, s30, s31, s32, s33, s34, s35, s36, s37, s38, s39, s40, s41, s42, s43, s44, s45, s46, s47, s48, s49, s50, s51, s52, s53, s54, s55, s56, s57, s58, s59, s60, s61, s62, s63, s64, s65, s66, s67, s68], []⟩ w := by
  have HK := Lib.hid hK; clear hK
  have i0 := hI.blk.cell 0 (v := .int .i64 l.sq) rfl; have i1 := hI.blk.cell 1 (v := .slice T n c) rfl; have i2 := hI.blk.cell 2 (v := .int .i64 l.tm) rfl
  have e1 := hE.cell 1 (v := vS) rfl; have fE := hE.frozen
  have hlE := hE.lt; have hlI := hI.blk.lt
  have hEo : vS.ownBlock ≠ some E := fun e => (ho.lt e).2.2 hXE
  obtain ⟨vA, vc, hvA⟩ := ho.form
  obtain ⟨xn, hxn⟩ : ∃ xn, xs.length = xn := ⟨_, rfl⟩
  rw [hxn] at hvA hz2 HK
  subst hvA
  have HO := Lib.hid ho; have HE := Lib.hid hE; have HX := Lib.hid hX; have HI := Lib.hid hI
  have HN := Lib.hid hxn
  clear ho hX hE hxn hI
  conv => arg 2; whnf
  refine wp_region_noPanic ?_
  refine wp_region_held_drew (S := (fun w' => w'.cell? ⟨I, 0, none⟩ = some (.int .i64 l.sq) ∧ w'.cell? ⟨I, 1, none⟩ = some (.slice T n c) ∧ w'.cell? ⟨I, 2, none⟩ = some (.int .i64 l.tm))) (by kernel_rfl) ?_ (fun hHeld0 => ?_)
  · (try dsimp only)
    (first | (with_reducible assumption) | (go_keep; done) | (refine ⟨?_, ?_, ?_⟩ <;> (first | (with_reducible assumption) | (simp [go_sem, *]; done))))
  refine wpAnyH_take (i := 0) (oi := _) (v := ?v1) rfl (by kernel_rfl) (by kernel_rfl) (by kernel_rfl) (fun _ _ _ h => h) (Or.inl ⟨by rfl, ?hy1⟩) (by with_reducible assumption) ?rest1
  case hy1 => (intro w hSw; (try dsimp only at hSw); go_simp; try with_reducible rfl)
  try simp only [Act.put, List.setIfInBounds_toArray, List.set_cons_zero, List.set_cons_succ]
  refine wpAnyH_take (i := 2) (oi := _) (v := ?v2) rfl (by kernel_rfl) (by kernel_rfl) (by kernel_rfl) (fun _ _ _ h => h) (Or.inl ⟨by rfl, ?hy2⟩) (by with_reducible assumption) ?rest2
  case hy2 => (intro w hSw; (try dsimp only at hSw); go_simp; try with_reducible rfl)
  try simp only [Act.put, List.setIfInBounds_toArray, List.set_cons_zero, List.set_cons_succ]
  refine wpAnyH_ready (rs := [1, 3]) (by kernel_rfl) (by simp) ?_
  refine (AllReadyH.cons (o := _) rfl (fun K hK => ?_) (AllReadyH.cons (o := _) rfl (fun K hK => ?_) AllReadyH.nil))
  · skip
    go_simp
    refine hK.out _ _ ?_ (fun hHeld3 => ?_)
    · (try dsimp only)
      (first | (with_reducible assumption) | (go_keep; done) | (refine ⟨?_, ?_, ?_⟩ <;> (first | (with_reducible assumption) | (simp [go_sem, *]; done))))
    clear hK K hHeld0
    try simp only [Act.put, List.setIfInBounds_toArray, List.set_cons_zero, List.set_cons_succ]
    refine wpAnyH_ready (rs := [3]) (by kernel_rfl) (by simp) ?_
    refine (AllReadyH.cons (o := _) rfl (fun K hK => ?_) AllReadyH.nil)
    go_simp
    refine (copyItem_any l T n c HI.out.len _ (HI.out.body.below ((Below.refl _ _).drew) (by simp)) hz).mono ?_
    rintro e w1 ⟨T1, n1, c1, rfl, hn1, hl1, hm1, hs1, hb1⟩
    have z1 : w.heap.size ≤ w1.heap.size := by (have h9 := hb1.size; simpa using h9)
    have zE : E < w1.heap.size := by omega
    have zI : I < w1.heap.size := by omega
    have k1 := (hb1.cell (p := ⟨E, 1, none⟩) hlE).trans e1
    have j0 := (hb1.cell (p := ⟨I, 0, none⟩) hlI).trans i0; have j1 := (hb1.cell (p := ⟨I, 1, none⟩) hlI).trans i1; have j2 := (hb1.cell (p := ⟨I, 2, none⟩) hlI).trans i2
    have hb1' : RowKit.Below w.heap.size w w1 := ((Below.refl _ _).drew).trans hb1
    have hs1' : Sl (Rint .u8) w1 (mid w.heap.size w1.heap.size) T1 l.body := hs1
    have HR := Lib.hid (And.intro hb1' (ready_item2 hn1 HI.out.sq HI.out.tm hl1 hm1 hs1' hb1' HO.out HX.out (by omega)))
    clear hn1 hl1 hm1 hs1 hs1' hb1 hb1'
    try dsimp only
    refine hK.out _ _ ?_ (fun hHeld4 => ?_)
    · (try dsimp only)
      (first | (with_reducible assumption) | (go_keep; done) | (refine ⟨?_, ?_, ?_⟩ <;> (first | (with_reducible assumption) | (simp [go_sem, *]; done))))
    clear hK K hHeld3
    try simp only [Act.put, List.setIfInBounds_toArray, List.set_cons_zero, List.set_cons_succ]
    refine wpAnyH_ready (rs := [4]) (by kernel_rfl) (by simp) ?_
    refine (AllReadyH.cons (o := _) rfl (fun K hK => ?_) AllReadyH.nil)
    go_simp
    refine hK.out _ _ ?_ (fun hHeld5 => ?_)
    · (try dsimp only)
      (first | (with_reducible assumption) | (go_keep; done) | (refine ⟨?_, ?_, ?_⟩ <;> (first | (with_reducible assumption) | (simp [go_sem, *]; done))))
    clear hK K hHeld4
    try simp only [Act.put, List.setIfInBounds_toArray, List.set_cons_zero, List.set_cons_succ]
    refine wpAnyH_ready (rs := [5]) (by kernel_rfl) (by simp) ?_
    refine (AllReadyH.cons (o := _) rfl (fun K hK => ?_) AllReadyH.nil)
    refine step_append_X rfl (.tmp 30) (.tmp 33) rfl ei_items (by rfl) HR.out.2.1 (some ⟨w1.heap.size, 0, none⟩) 1 1 (ys := [l]) (by rfl) rfl HR.out.2.2.1 HR.out.2.2.2.1 HR.out.2.2.2.2.1 HR.out.2.2.2.2.2.1 (by rw [HN.out]; exact hz2) (by rw [HN.out]; simp only [maxLen]; omega) HR.out.2.2.2.2.2.2.1 ?_
    rw [HN.out]
    intro A' cap w5 hox hg1 hat1 hbb1
    have hsame : ∀ b, b < w.heap.size → (Value.slice vA xn vc).ownBlock ≠ some b → w5.heap[b]? = w.heap[b]? := fun b hb hne => (hg1.block b (by rw [HR.out.2.2.2.2.2.2.2]; omega) (fun e => hne e.symm)).trans ((Below.heap_alloc w1 _ b (by omega)).trans (HR.out.1.block b hb))
    have kE := hsame E hlE hEo
    have kI := hsame I hlI hIo
    have x0 := (World.cell?_of_block (a := ⟨I, 0, none⟩) kI).trans i0; have x1 := (World.cell?_of_block (a := ⟨I, 1, none⟩) kI).trans i1; have x2 := (World.cell?_of_block (a := ⟨I, 2, none⟩) kI).trans i2
    have y2 := (World.cell?_of_block (a := ⟨E, 1, none⟩) kE).trans e1
    have fE1 : ∀ o, w5.frozen? ⟨E, o, none⟩ = false := fun o => by have h9 := fE o; unfold World.frozen? at h9 ⊢; rw [kE]; exact h9
    have hgE : Blk w5 E 35 #[nx, .slice vA xn vc, vW] := kE.trans HE.out
    have hz5 : w.heap.size ≤ w5.heap.size := by (have h9 := hbb1.size; rw [HR.out.2.2.2.2.2.2.2] at h9; omega)
    have zE5 : E < w5.heap.size := by omega
    have hbb : RowKit.Below B w w5 := ((HR.out.1.mono (by omega)).alloc (by omega) _).trans hbb1
    clear hg1 hat1 kE kI hbb1
    refine hK.out _ _ ?_ (fun hHeld6 => ?_)
    · (try dsimp only)
      (first | (with_reducible assumption) | (go_keep; done) | (refine ⟨?_, ?_, ?_⟩ <;> (first | (with_reducible assumption) | (simp [go_sem, *]; done))))
    clear hK K hHeld5
    try simp only [Act.put, List.setIfInBounds_toArray, List.set_cons_zero, List.set_cons_succ]
    refine wpAnyH_take (i := 6) (oi := _) (v := ?v7) rfl (by kernel_rfl) (by kernel_rfl) (by kernel_rfl) (fun _ _ _ h => h) (Or.inl ⟨by rfl, ?hy7⟩) (by with_reducible assumption) ?rest7
    case hy7 => (intro w hSw; (try dsimp only at hSw); go_simp; try with_reducible rfl)
    try simp only [Act.put, List.setIfInBounds_toArray, List.set_cons_zero, List.set_cons_succ]
    refine wpAnyH_ready (rs := [7]) (by kernel_rfl) (by simp) ?_
    refine (AllReadyH.cons (o := _) rfl (fun K hK => ?_) AllReadyH.nil)
    go_simp
    refine hK.out _ _ ?_ (fun hHeld8 => ?_)
    · (try dsimp only)
      (first | (with_reducible assumption) | (go_keep; done) | (refine ⟨?_, ?_, ?_⟩ <;> (first | (with_reducible assumption) | (simp [go_sem, *]; done))))
    clear hK K hHeld6
    try simp only [Act.put, List.setIfInBounds_toArray, List.set_cons_zero, List.set_cons_succ]
    refine wpAnyH_done (by kernel_rfl) ?_ _
    refine NoPanic.normal ?_
    clear hHeld8
    exact HK.out _ _ _ _ _ _ _ _ _ _ (hgE.set 1 _) (hox.far hXE _) (fun k hk hne hno => (Below.heap_setCell w5 ⟨E, 1, none⟩ _ k hne).trans (hsame k hk hno)) (by simp [World.setCell]; omega) (hbb.setCell (p := ⟨E, 1, none⟩) hBE _)
  · skip
    go_simp
    refine (copyItem_any l T n c HI.out.len _ (HI.out.body.below ((Below.refl _ _).drew) (by simp)) hz).mono ?_
    rintro e w1 ⟨T1, n1, c1, rfl, hn1, hl1, hm1, hs1, hb1⟩
    have z1 : w.heap.size ≤ w1.heap.size := by (have h9 := hb1.size; simpa using h9)
    have zE : E < w1.heap.size := by omega
    have zI : I < w1.heap.size := by omega
    have k1 := (hb1.cell (p := ⟨E, 1, none⟩) hlE).trans e1
    have j0 := (hb1.cell (p := ⟨I, 0, none⟩) hlI).trans i0; have j1 := (hb1.cell (p := ⟨I, 1, none⟩) hlI).trans i1; have j2 := (hb1.cell (p := ⟨I, 2, none⟩) hlI).trans i2
    have hb1' : RowKit.Below w.heap.size w w1 := ((Below.refl _ _).drew).trans hb1
    have hs1' : Sl (Rint .u8) w1 (mid w.heap.size w1.heap.size) T1 l.body := hs1
    have HR := Lib.hid (And.intro hb1' (ready_item2 hn1 HI.out.sq HI.out.tm hl1 hm1 hs1' hb1' HO.out HX.out (by omega)))
    clear hn1 hl1 hm1 hs1 hs1' hb1 hb1'
    try dsimp only
    refine hK.out _ _ ?_ (fun hHeld9 => ?_)
    · (try dsimp only)
      (first | (with_reducible assumption) | (go_keep; done) | (refine ⟨?_, ?_, ?_⟩ <;> (first | (with_reducible assumption) | (simp [go_sem, *]; done))))
    clear hK K hHeld0
    try simp only [Act.put, List.setIfInBounds_toArray, List.set_cons_zero, List.set_cons_succ]
    refine wpAnyH_ready (rs := [1, 4]) (by kernel_rfl) (by simp) ?_
    refine (AllReadyH.cons (o := _) rfl (fun K hK => ?_) (AllReadyH.cons (o := _) rfl (fun K hK => ?_) AllReadyH.nil))
    · skip
      go_simp
      refine hK.out _ _ ?_ (fun hHeld10 => ?_)
      · (try dsimp only)
        (first | (with_reducible assumption) | (go_keep; done) | (refine ⟨?_, ?_, ?_⟩ <;> (first | (with_reducible assumption) | (simp [go_sem, *]; done))))
      clear hK K hHeld9
      try simp only [Act.put, List.setIfInBounds_toArray, List.set_cons_zero, List.set_cons_succ]
      refine wpAnyH_ready (rs := [4]) (by kernel_rfl) (by simp) ?_
      refine (AllReadyH.cons (o := _) rfl (fun K hK => ?_) AllReadyH.nil)
      go_simp
      refine hK.out _ _ ?_ (fun hHeld11 => ?_)
      · (try dsimp only)
        (first | (with_reducible assumption) | (go_keep; done) | (refine ⟨?_, ?_, ?_⟩ <;> (first | (with_reducible assumption) | (simp [go_sem, *]; done))))
      clear hK K hHeld10
      try simp only [Act.put, List.setIfInBounds_toArray, List.set_cons_zero, List.set_cons_succ]
      refine wpAnyH_ready (rs := [5]) (by kernel_rfl) (by simp) ?_
      refine (AllReadyH.cons (o := _) rfl (fun K hK => ?_) AllReadyH.nil)
      refine step_append_X rfl (.tmp 30) (.tmp 33) rfl ei_items (by rfl) HR.out.2.1 (some ⟨w1.heap.size, 0, none⟩) 1 1 (ys := [l]) (by rfl) rfl HR.out.2.2.1 HR.out.2.2.2.1 HR.out.2.2.2.2.1 HR.out.2.2.2.2.2.1 (by rw [HN.out]; exact hz2) (by rw [HN.out]; simp only [maxLen]; omega) HR.out.2.2.2.2.2.2.1 ?_
      rw [HN.out]
      intro A' cap w5 hox hg1 hat1 hbb1
      have hsame : ∀ b, b < w.heap.size → (Value.slice vA xn vc).ownBlock ≠ some b → w5.heap[b]? = w.heap[b]? := fun b hb hne => (hg1.block b (by rw [HR.out.2.2.2.2.2.2.2]; omega) (fun e => hne e.symm)).trans ((Below.heap_alloc w1 _ b (by omega)).trans (HR.out.1.block b hb))
      have kE := hsame E hlE hEo
      have kI := hsame I hlI hIo
      have x0 := (World.cell?_of_block (a := ⟨I, 0, none⟩) kI).trans i0; have x1 := (World.cell?_of_block (a := ⟨I, 1, none⟩) kI).trans i1; have x2 := (World.cell?_of_block (a := ⟨I, 2, none⟩) kI).trans i2
      have y2 := (World.cell?_of_block (a := ⟨E, 1, none⟩) kE).trans e1
      have fE1 : ∀ o, w5.frozen? ⟨E, o, none⟩ = false := fun o => by have h9 := fE o; unfold World.frozen? at h9 ⊢; rw [kE]; exact h9
      have hgE : Blk w5 E 35 #[nx, .slice vA xn vc, vW] := kE.trans HE.out
      have hz5 : w.heap.size ≤ w5.heap.size := by (have h9 := hbb1.size; rw [HR.out.2.2.2.2.2.2.2] at h9; omega)
      have zE5 : E < w5.heap.size := by omega
      have hbb : RowKit.Below B w w5 := ((HR.out.1.mono (by omega)).alloc (by omega) _).trans hbb1
      clear hg1 hat1 kE kI hbb1
      refine hK.out _ _ ?_ (fun hHeld12 => ?_)
      · (try dsimp only)
        (first | (with_reducible assumption) | (go_keep; done) | (refine ⟨?_, ?_, ?_⟩ <;> (first | (with_reducible assumption) | (simp [go_sem, *]; done))))
      clear hK K hHeld11
      try simp only [Act.put, List.setIfInBounds_toArray, List.set_cons_zero, List.set_cons_succ]
      refine wpAnyH_take (i := 6) (oi := _) (v := ?v13) rfl (by kernel_rfl) (by kernel_rfl) (by kernel_rfl) (fun _ _ _ h => h) (Or.inl ⟨by rfl, ?hy13⟩) (by with_reducible assumption) ?rest13
      case hy13 => (intro w hSw; (try dsimp only at hSw); go_simp; try with_reducible rfl)
      try simp only [Act.put, List.setIfInBounds_toArray, List.set_cons_zero, List.set_cons_succ]
      refine wpAnyH_ready (rs := [7]) (by kernel_rfl) (by simp) ?_
      refine (AllReadyH.cons (o := _) rfl (fun K hK => ?_) AllReadyH.nil)
      go_simp
      refine hK.out _ _ ?_ (fun hHeld14 => ?_)
      · (try dsimp only)
        (first | (with_reducible assumption) | (go_keep; done) | (refine ⟨?_, ?_, ?_⟩ <;> (first | (with_reducible assumption) | (simp [go_sem, *]; done))))
      clear hK K hHeld12
      try simp only [Act.put, List.setIfInBounds_toArray, List.set_cons_zero, List.set_cons_succ]
      refine wpAnyH_done (by kernel_rfl) ?_ _
      refine NoPanic.normal ?_
      clear hHeld14
      exact HK.out _ _ _ _ _ _ _ _ _ _ (hgE.set 1 _) (hox.far hXE _) (fun k hk hne hno => (Below.heap_setCell w5 ⟨E, 1, none⟩ _ k hne).trans (hsame k hk hno)) (by simp [World.setCell]; omega) (hbb.setCell (p := ⟨E, 1, none⟩) hBE _)
    · skip
      go_simp
      refine hK.out _ _ ?_ (fun hHeld15 => ?_)
      · (try dsimp only)
        (first | (with_reducible assumption) | (go_keep; done) | (refine ⟨?_, ?_, ?_⟩ <;> (first | (with_reducible assumption) | (simp [go_sem, *]; done))))
      clear hK K hHeld9
      try simp only [Act.put, List.setIfInBounds_toArray, List.set_cons_zero, List.set_cons_succ]
      refine wpAnyH_ready (rs := [1]) (by kernel_rfl) (by simp) ?_
      refine (AllReadyH.cons (o := _) rfl (fun K hK => ?_) AllReadyH.nil)
      go_simp
      refine hK.out _ _ ?_ (fun hHeld16 => ?_)
      · (try dsimp only)
        (first | (with_reducible assumption) | (go_keep; done) | (refine ⟨?_, ?_, ?_⟩ <;> (first | (with_reducible assumption) | (simp [go_sem, *]; done))))
      clear hK K hHeld15
      try simp only [Act.put, List.setIfInBounds_toArray, List.set_cons_zero, List.set_cons_succ]
      refine wpAnyH_ready (rs := [5]) (by kernel_rfl) (by simp) ?_
      refine (AllReadyH.cons (o := _) rfl (fun K hK => ?_) AllReadyH.nil)
      refine step_append_X rfl (.tmp 30) (.tmp 33) rfl ei_items (by rfl) HR.out.2.1 (some ⟨w1.heap.size, 0, none⟩) 1 1 (ys := [l]) (by rfl) rfl HR.out.2.2.1 HR.out.2.2.2.1 HR.out.2.2.2.2.1 HR.out.2.2.2.2.2.1 (by rw [HN.out]; exact hz2) (by rw [HN.out]; simp only [maxLen]; omega) HR.out.2.2.2.2.2.2.1 ?_
      rw [HN.out]
      intro A' cap w5 hox hg1 hat1 hbb1
      have hsame : ∀ b, b < w.heap.size → (Value.slice vA xn vc).ownBlock ≠ some b → w5.heap[b]? = w.heap[b]? := fun b hb hne => (hg1.block b (by rw [HR.out.2.2.2.2.2.2.2]; omega) (fun e => hne e.symm)).trans ((Below.heap_alloc w1 _ b (by omega)).trans (HR.out.1.block b hb))
      have kE := hsame E hlE hEo
      have kI := hsame I hlI hIo
      have x0 := (World.cell?_of_block (a := ⟨I, 0, none⟩) kI).trans i0; have x1 := (World.cell?_of_block (a := ⟨I, 1, none⟩) kI).trans i1; have x2 := (World.cell?_of_block (a := ⟨I, 2, none⟩) kI).trans i2
      have y2 := (World.cell?_of_block (a := ⟨E, 1, none⟩) kE).trans e1
      have fE1 : ∀ o, w5.frozen? ⟨E, o, none⟩ = false := fun o => by have h9 := fE o; unfold World.frozen? at h9 ⊢; rw [kE]; exact h9
      have hgE : Blk w5 E 35 #[nx, .slice vA xn vc, vW] := kE.trans HE.out
      have hz5 : w.heap.size ≤ w5.heap.size := by (have h9 := hbb1.size; rw [HR.out.2.2.2.2.2.2.2] at h9; omega)
      have zE5 : E < w5.heap.size := by omega
      have hbb : RowKit.Below B w w5 := ((HR.out.1.mono (by omega)).alloc (by omega) _).trans hbb1
      clear hg1 hat1 kE kI hbb1
      refine hK.out _ _ ?_ (fun hHeld17 => ?_)
      · (try dsimp only)
        (first | (with_reducible assumption) | (go_keep; done) | (refine ⟨?_, ?_, ?_⟩ <;> (first | (with_reducible assumption) | (simp [go_sem, *]; done))))
      clear hK K hHeld16
      try simp only [Act.put, List.setIfInBounds_toArray, List.set_cons_zero, List.set_cons_succ]
      refine wpAnyH_take (i := 6) (oi := _) (v := ?v18) rfl (by kernel_rfl) (by kernel_rfl) (by kernel_rfl) (fun _ _ _ h => h) (Or.inl ⟨by rfl, ?hy18⟩) (by with_reducible assumption) ?rest18
      case hy18 => (intro w hSw; (try dsimp only at hSw); go_simp; try with_reducible rfl)
      try simp only [Act.put, List.setIfInBounds_toArray, List.set_cons_zero, List.set_cons_succ]
      refine wpAnyH_ready (rs := [7]) (by kernel_rfl) (by simp) ?_
      refine (AllReadyH.cons (o := _) rfl (fun K hK => ?_) AllReadyH.nil)
      go_simp
      refine hK.out _ _ ?_ (fun hHeld19 => ?_)
      · (try dsimp only)
        (first | (with_reducible assumption) | (go_keep; done) | (refine ⟨?_, ?_, ?_⟩ <;> (first | (with_reducible assumption) | (simp [go_sem, *]; done))))
      clear hK K hHeld17
      try simp only [Act.put, List.setIfInBounds_toArray, List.set_cons_zero, List.set_cons_succ]
      refine wpAnyH_done (by kernel_rfl) ?_ _
      refine NoPanic.normal ?_
      clear hHeld19
      exact HK.out _ _ _ _ _ _ _ _ _ _ (hgE.set 1 _) (hox.far hXE _) (fun k hk hne hno => (Below.heap_setCell w5 ⟨E, 1, none⟩ _ k hne).trans (hsame k hk hno)) (by simp [World.setCell]; omega) (hbb.setCell (p := ⟨E, 1, none⟩) hBE _)
end Go.Proofs.Ytalieakmjkmbbaa
