/-
  Ends that send: how they lie in cells; the copy that Send and Again begin with.
-/
import Derived.Test.YtalieakmjkmbbaaNumber
namespace Go.Proofs.Ytalieakmjkmbbaa
open Go.RowKit Go.Sort
set_option linter.unusedVariables false
set_option linter.unusedSimpArgs false
attribute [local go_sem ↓] Go.wp_at_zero Go.wp_at_succ

structure Ot where
  next : Int
  sent : List It
  wait : List (List Int)
/-- An end's two slices in a world. -/
structure OutAt (w : World) (S : Nat → Prop) (A : Option Addr) (n : Nat) (B : Option Addr) (m : Nat) (o : Ot) : Prop where
  sent : Sl Rit w S A o.sent
  sentN : o.sent.length = n
  wait : Sl Rbd w S B o.wait
  waitN : o.wait.length = m
theorem OutAt.keep {w w' : World} {S S' : Nat → Prop} {A : Option Addr} {n : Nat} {B : Option Addr} {m : Nat} {o : Ot} (h : OutAt w S A n B m o) (hk : ∀ p : Addr, S p.block → w'.cell? p = w.cell? p) (hs : ∀ b, S b → S' b) : OutAt w' S' A n B m o :=
  ⟨h.sent.keep hk hs, h.sentN, h.wait.keep hk hs, h.waitN⟩
theorem OutAt.below {w w' : World} {B0 B1 : Nat} {A : Option Addr} {n : Nat} {B : Option Addr} {m : Nat} {o : Ot} (h : OutAt w (lo B0) A n B m o) (hb : Below B0 w w') (hB : B0 ≤ B1) : OutAt w' (lo B1) A n B m o :=
  h.keep (fun _ hp => hb.cell hp) (fun _ hb' => Nat.lt_of_lt_of_le hb' hB)
/-- What an end's sizes are. -/
structure OutFit (o : Ot) : Prop where
  sent : (o.sent.length + 1) * 40 ≤ 140737488355328
  wait : (o.wait.length + 1) * 24 ≤ 140737488355328
  text : ∀ x ∈ o.sent, x.body.length ≤ 140737488355328
  body : ∀ x ∈ o.wait, x.length ≤ 140737488355328
theorem outcopy_fin {w w1 w2 wf : World} {a c E n1 n2 c1 c2 : Nat} {A1 A2 : Option Addr} {xs : List It} {ys : List (List Int)} {e1 e2 : TypeId} (h1 : OwnX Rit w1 a e1 (fun _ => False) (.slice A1 n1 c1) xs) (h2 : OwnX Rbd w2 c e2 (fun _ => False) (.slice A2 n2 c2) ys)
    (ha : w.heap.size ≤ a) (hc : w1.heap.size ≤ c) (hwc : w.heap.size ≤ c) (hb : Below w1.heap.size w1 w2) (hE1 : E < a ∨ w1.heap.size ≤ E) (hE2 : E < c ∨ w2.heap.size ≤ E) (hf : ∀ k, k < w2.heap.size → k ≠ E → wf.heap[k]? = w2.heap[k]?) (hz : w2.heap.size ≤ wf.heap.size) :
    OwnX Rit wf w.heap.size e1 (fun k => k = E ∨ (Value.slice A2 n2 c2).ownBlock = some k) (.slice A1 n1 c1) xs ∧ OwnX Rbd wf w.heap.size e2 (fun k => k = E ∨ (Value.slice A1 n1 c1).ownBlock = some k) (.slice A2 n2 c2) ys := by
  have hz1 := hb.size
  refine ⟨(h1.frame (fun k h3 h4 _ => (hf k (by omega) (by omega)).trans (hb.block k h4)) (by omega) (fun k h3 h4 _ h5 => ?_)).base ha, (h2.frame (fun k h3 h4 _ => hf k h4 (by omega)) hz (fun k h3 h4 _ h5 => ?_)).base hwc⟩
  · rcases h5 with h5 | h5
    · omega
    · have := (h2.lt h5).1; omega
  · rcases h5 with h5 | h5
    · omega
    · have := (h1.lt h5).2.1; omega
noncomputable def send_r1_code : Code := regionOf Try.f17 1
set_option maxRecDepth 100000 in
set_option maxHeartbeats 2000000 in
theorem send_r1 {Q : Exit → Act → World → Prop} {s0 s1 s2 s3 s5 s6 s7 s8 s9 s10 s11 s12 s13 s14 s15 s16 s17 s18 s19 s20 s21 s22 s23 s24 s25 s26 s27 s28 s29 s30 s31 s32 s33 s34 s35 s36 s37 s38 s39 : Value} (w : World) (BX : Nat) (o : Ot) (AS : Option Addr) (nS cS : Nat) (AW : Option Addr) (nW cW : Nat) (ho : OutAt w (lo w.heap.size) AS nS AW nW o) (hf : OutFit o) (hB : BX < w.heap.size)
    (h0 : w.cell? ⟨BX, 0, none⟩ = some (.int .i64 o.next)) (h1 : w.cell? ⟨BX, 1, none⟩ = some (.slice AS nS cS)) (h2 : w.cell? ⟨BX, 2, none⟩ = some (.slice AW nW cW))
    (hK : ∀ (d12 d13 d14 d15 d16 d17 d18 d19 d20 : Value) (E : Nat) (A1 : Option Addr) (c1 : Nat) (A2 : Option Addr) (c2 : Nat) (w2 : World), Blk w2 E 35 #[.int .i64 o.next, .slice A1 nS c1, .slice A2 nW c2] →
      (OwnX Rit w2 w.heap.size 38 (fun k => k = E ∨ (Value.slice A2 nW c2).ownBlock = some k) (.slice A1 nS c1) o.sent ∧ OwnX Rbd w2 w.heap.size 25 (fun k => k = E ∨ (Value.slice A1 nS c1).ownBlock = some k) (.slice A2 nW c2) o.wait) →
      w.heap.size ≤ E → Below w.heap.size w w2 → Q .normal ⟨#[s0, s1, s2, s3, .pointer (some ⟨BX, 0, none⟩), s5, s6, s7, s8, s9, .pointer (some ⟨E, 0, none⟩), s11, d12, d13, d14, d15, d16, d17, d18, d19, d20, s21, s22, s23, s24, s25, s26, s27, s28, s29, s30, s31, s32, s33, s34, s35, s36, s37, s38, s39], []⟩ w2) :
    Code.wp Try.prog send_r1_code Q ⟨#[s0, s1, s2, s3, .pointer (some ⟨BX, 0, none⟩), s5, s6, s7, s8, s9, s10, s11, s12, s13, s14, s15, s16, s17, s18, s19, s20, s21, s22, s23, s24, s25, s26, s27, s28, s29, s30, s31, s32, s33, s34, s35, s36, s37, s38, s39], []⟩ w := by
  have HK := Lib.hid hK; clear hK
  have HB := Lib.hid (And.intro ho hf); clear ho hf
  conv => arg 2; whnf
  refine wp_region_noPanic ?_
  refine wp_region_held_drew (S := (fun w' => w'.cell? ⟨BX, 0, none⟩ = some (.int .i64 o.next) ∧ w'.cell? ⟨BX, 1, none⟩ = some (.slice AS nS cS) ∧ w'.cell? ⟨BX, 2, none⟩ = some (.slice AW nW cW))) (by kernel_rfl) ?_ (fun hHeld0 => ?_)
  · (try dsimp only)
    (first | (with_reducible assumption) | (go_keep; done) | (refine ⟨?_, ?_, ?_⟩ <;> (first | (with_reducible assumption) | (simp [go_sem, *]; done) | (simp (disch := (simp; try omega)) [*, World.cell?_alloc_past, World.cell?_setCell_other]; done) | (rw [World.cell?_setCell_other _ _ _ _ (by simp; try omega), World.cell?_setCell_other _ _ _ _ (by simp; try omega), World.cell?_setCell_other _ _ _ _ (by simp; try omega)]; assumption))))
  refine wpAnyH_take (i := 0) (oi := _) (v := ?v1) rfl (by kernel_rfl) (by kernel_rfl) (by kernel_rfl) (fun _ _ _ h => h) (Or.inl ⟨by rfl, ?hy1⟩) (by with_reducible assumption) ?rest1
  case hy1 => (intro w hSw; (try dsimp only at hSw); go_simp; try with_reducible rfl)
  try simp only [Act.put, List.setIfInBounds_toArray, List.set_cons_zero, List.set_cons_succ]
  refine wpAnyH_take (i := 1) (oi := _) (v := ?v2) rfl (by kernel_rfl) (by kernel_rfl) (by kernel_rfl) (fun _ _ _ h => h) (Or.inl ⟨by rfl, ?hy2⟩) (by with_reducible assumption) ?rest2
  case hy2 => (intro w hSw; (try dsimp only at hSw); go_simp; try with_reducible rfl)
  try simp only [Act.put, List.setIfInBounds_toArray, List.set_cons_zero, List.set_cons_succ]
  refine wpAnyH_take (i := 2) (oi := _) (v := ?v3) rfl (by kernel_rfl) (by kernel_rfl) (by kernel_rfl) (fun _ _ _ h => h) (Or.inl ⟨by rfl, ?hy3⟩) (by with_reducible assumption) ?rest3
  case hy3 => (intro w hSw; (try dsimp only at hSw); go_simp; try with_reducible rfl)
  try simp only [Act.put, List.setIfInBounds_toArray, List.set_cons_zero, List.set_cons_succ]
  refine wpAnyH_take (i := 3) (oi := _) (v := ?v4) rfl (by kernel_rfl) (by kernel_rfl) (by kernel_rfl) (fun _ _ _ h => h) (Or.inl ⟨by rfl, ?hy4⟩) (by with_reducible assumption) ?rest4
  case hy4 => (intro w hSw; (try dsimp only at hSw); go_simp; try with_reducible rfl)
  try simp only [Act.put, List.setIfInBounds_toArray, List.set_cons_zero, List.set_cons_succ]
  refine wpAnyH_take (i := 5) (oi := _) (v := ?v5) rfl (by kernel_rfl) (by kernel_rfl) (by kernel_rfl) (fun _ _ _ h => h) (Or.inl ⟨by rfl, ?hy5⟩) (by with_reducible assumption) ?rest5
  case hy5 => (intro w hSw; (try dsimp only at hSw); go_simp; try with_reducible rfl)
  try simp only [Act.put, List.setIfInBounds_toArray, List.set_cons_zero, List.set_cons_succ]
  refine wpAnyH_take (i := 6) (oi := _) (v := ?v6) rfl (by kernel_rfl) (by kernel_rfl) (by kernel_rfl) (fun _ _ _ h => h) (Or.inl ⟨by rfl, ?hy6⟩) (by with_reducible assumption) ?rest6
  case hy6 => (intro w hSw; (try dsimp only at hSw); go_simp; try with_reducible rfl)
  try simp only [Act.put, List.setIfInBounds_toArray, List.set_cons_zero, List.set_cons_succ]
  refine wpAnyH_ready (rs := [4, 9]) (by kernel_rfl) (by simp) ?_
  refine (AllReadyH.cons (o := _) rfl (fun K hK => ?_) (AllReadyH.cons (o := _) rfl (fun K hK => ?_) AllReadyH.nil))
  · skip
    go_simp
    refine (copyItems_any AS nS cS o.sent HB.out.1.sentN _ (HB.out.1.sent.below (by first | exact (Below.refl _ _).drew | exact ((Below.refl _ _).alloc (Nat.le_refl _) _).drew) (by simp)) (by have := HB.out.2.sent; have := HB.out.1.sentN; omega) (fun x hx => HB.out.2.text x hx)).mono ?_
    rintro e w1 ⟨A1, n1, c1, rfl, hn1, ho1, hb1⟩
    have z1 : w.heap.size ≤ w1.heap.size := by (have h9 := hb1.size; simp at h9; omega)
    have zB : BX < w1.heap.size := by omega
    have b0 : w1.cell? ⟨BX, 0, none⟩ = some (.int .i64 o.next) := (hb1.cell (p := ⟨BX, 0, none⟩) (by simp; omega)).trans (by first | exact h0 | exact (World.cell?_alloc_lt _ _ _ hB).trans h0)
    have b1 : w1.cell? ⟨BX, 1, none⟩ = some (.slice AS nS cS) := (hb1.cell (p := ⟨BX, 1, none⟩) (by simp; omega)).trans (by first | exact h1 | exact (World.cell?_alloc_lt _ _ _ hB).trans h1)
    have b2 : w1.cell? ⟨BX, 2, none⟩ = some (.slice AW nW cW) := (hb1.cell (p := ⟨BX, 2, none⟩) (by simp; omega)).trans (by first | exact h2 | exact (World.cell?_alloc_lt _ _ _ hB).trans h2)
    have H1 := Lib.hid (And.intro hn1 (And.intro ho1 hb1))
    try (have gE := Blk.below (w := (w.alloc (.cells #[.int .i64 0, .slice none 0 0, .slice none 0 0] 35)).drew) (g := w.heap.size) (Blk.new w _ _ rfl) hb1 (by simp)
         have i0 := gE.cell 0 (v := .int .i64 0) rfl; have i1 := gE.cell 1 (v := .slice none 0 0) rfl; have i2 := gE.cell 2 (v := .slice none 0 0) rfl
         have fE := gE.frozen
         have zE : w.heap.size < w1.heap.size := gE.lt
         have HGE := Lib.hid gE
         have F1 : True := trivial
         clear gE)
    clear hn1 ho1 hb1
    try dsimp only
    refine hK.out _ _ ?_ (fun hHeld7 => ?_)
    · (try dsimp only)
      (first | (with_reducible assumption) | (go_keep; done) | (refine ⟨?_, ?_, ?_⟩ <;> (first | (with_reducible assumption) | (simp [go_sem, *]; done) | (simp (disch := (simp; try omega)) [*, World.cell?_alloc_past, World.cell?_setCell_other]; done) | (rw [World.cell?_setCell_other _ _ _ _ (by simp; try omega), World.cell?_setCell_other _ _ _ _ (by simp; try omega), World.cell?_setCell_other _ _ _ _ (by simp; try omega)]; assumption))))
    clear hK K hHeld0
    try simp only [Act.put, List.setIfInBounds_toArray, List.set_cons_zero, List.set_cons_succ]
    refine wpAnyH_ready (rs := [7, 9]) (by kernel_rfl) (by simp) ?_
    refine (AllReadyH.cons (o := _) rfl (fun K hK => ?_) (AllReadyH.cons (o := _) rfl (fun K hK => ?_) AllReadyH.nil))
    · skip
      go_simp
      refine (copyBodies_any AW nW cW o.wait HB.out.1.waitN _ (HB.out.1.wait.below (B := w.heap.size) (by first | exact ((Below.refl _ _).drew).trans (H1.out.2.2.mono (by simp)) | exact (((Below.refl _ _).drew).trans (H1.out.2.2.mono (by simp))).alloc z1 _ | exact (((Below.refl _ _).alloc (Nat.le_refl _) _).drew).trans (H1.out.2.2.mono (by simp))) (by (try simp); omega)) (by have := HB.out.2.wait; have := HB.out.1.waitN; omega) (fun x hx => HB.out.2.body x hx)).mono ?_
      rintro e w2 ⟨A2, n2, c2, rfl, hn2, ho2, hb2⟩
      have z2 : w1.heap.size ≤ w2.heap.size := by (have h9 := hb2.size; (try simp at h9); omega)
      have zB2 : BX < w2.heap.size := by omega
      have k0 : w2.cell? ⟨BX, 0, none⟩ = some (.int .i64 o.next) := (hb2.cell (p := ⟨BX, 0, none⟩) (by (try simp); omega)).trans (by first | exact b0 | exact (World.cell?_alloc_lt _ _ _ zB).trans b0)
      have k1 : w2.cell? ⟨BX, 1, none⟩ = some (.slice AS nS cS) := (hb2.cell (p := ⟨BX, 1, none⟩) (by (try simp); omega)).trans (by first | exact b1 | exact (World.cell?_alloc_lt _ _ _ zB).trans b1)
      have k2 : w2.cell? ⟨BX, 2, none⟩ = some (.slice AW nW cW) := (hb2.cell (p := ⟨BX, 2, none⟩) (by (try simp); omega)).trans (by first | exact b2 | exact (World.cell?_alloc_lt _ _ _ zB).trans b2)
      have H2 := Lib.hid (And.intro hn2 (And.intro ho2 hb2))
      first
        | (have gE2 := Blk.below (w := (w1.alloc (.cells #[.int .i64 0, .slice none 0 0, .slice none 0 0] 35))) (g := w1.heap.size) (Blk.new w1 _ _ rfl) hb2 (by simp)
           have i0 := gE2.cell 0 (v := .int .i64 0) rfl; have i1 := gE2.cell 1 (v := .slice none 0 0) rfl; have i2 := gE2.cell 2 (v := .slice none 0 0) rfl
           have fE := gE2.frozen
           have zE : w1.heap.size < w2.heap.size := gE2.lt
           have HGE2 := Lib.hid gE2
           have F2 : True := trivial
           clear gE2)
        | (have gE2 := HGE.out.below hb2 zE
           clear i0 i1 i2 fE
           have zE2 : w.heap.size < w2.heap.size := by omega
           have i0 := gE2.cell 0 (v := .int .i64 0) rfl; have i1 := gE2.cell 1 (v := .slice none 0 0) rfl; have i2 := gE2.cell 2 (v := .slice none 0 0) rfl
           have fE := gE2.frozen
           have HGE2 := Lib.hid gE2
           clear gE2 HGE)
        | skip
      clear hn2 ho2 hb2 b0 b1 b2
      try dsimp only
      refine hK.out _ _ ?_ (fun hHeld8 => ?_)
      · (try dsimp only)
        (first | (with_reducible assumption) | (go_keep; done) | (refine ⟨?_, ?_, ?_⟩ <;> (first | (with_reducible assumption) | (simp [go_sem, *]; done) | (simp (disch := (simp; try omega)) [*, World.cell?_alloc_past, World.cell?_setCell_other]; done) | (rw [World.cell?_setCell_other _ _ _ _ (by simp; try omega), World.cell?_setCell_other _ _ _ _ (by simp; try omega), World.cell?_setCell_other _ _ _ _ (by simp; try omega)]; assumption))))
      clear hK K hHeld7
      try simp only [Act.put, List.setIfInBounds_toArray, List.set_cons_zero, List.set_cons_succ]
      refine wpAnyH_take (i := 8) (oi := _) (v := ?v9) rfl (by kernel_rfl) (by kernel_rfl) (by kernel_rfl) (fun _ _ _ h => h) (Or.inl ⟨by rfl, ?hy9⟩) (by with_reducible assumption) ?rest9
      case hy9 => (intro w hSw; (try dsimp only at hSw); go_simp; try with_reducible rfl)
      try simp only [Act.put, List.setIfInBounds_toArray, List.set_cons_zero, List.set_cons_succ]
      refine wpAnyH_ready (rs := [9]) (by kernel_rfl) (by simp) ?_
      refine (AllReadyH.cons (o := _) rfl (fun K hK => ?_) AllReadyH.nil)
      go_simp
      refine hK.out _ _ ?_ (fun hHeld10 => ?_)
      · (try dsimp only)
        (first | (with_reducible assumption) | (go_keep; done) | (refine ⟨?_, ?_, ?_⟩ <;> (first | (with_reducible assumption) | (simp [go_sem, *]; done) | (simp (disch := (simp; try omega)) [*, World.cell?_alloc_past, World.cell?_setCell_other]; done) | (rw [World.cell?_setCell_other _ _ _ _ (by simp; try omega), World.cell?_setCell_other _ _ _ _ (by simp; try omega), World.cell?_setCell_other _ _ _ _ (by simp; try omega)]; assumption))))
      clear hK K hHeld8
      try simp only [Act.put, List.setIfInBounds_toArray, List.set_cons_zero, List.set_cons_succ]
      refine wpAnyH_ready (rs := [10]) (by kernel_rfl) (by simp) ?_
      refine (AllReadyH.cons (o := _) rfl (fun K hK => ?_) AllReadyH.nil)
      go_simp
      refine hK.out _ _ ?_ (fun hHeld11 => ?_)
      · (try dsimp only)
        (first | (with_reducible assumption) | (go_keep; done) | (refine ⟨?_, ?_, ?_⟩ <;> (first | (with_reducible assumption) | (simp [go_sem, *]; done) | (simp (disch := (simp; try omega)) [*, World.cell?_alloc_past, World.cell?_setCell_other]; done) | (rw [World.cell?_setCell_other _ _ _ _ (by simp; try omega), World.cell?_setCell_other _ _ _ _ (by simp; try omega), World.cell?_setCell_other _ _ _ _ (by simp; try omega)]; assumption))))
      clear hK K hHeld10
      try simp only [Act.put, List.setIfInBounds_toArray, List.set_cons_zero, List.set_cons_succ]
      refine wpAnyH_done (by kernel_rfl) ?_ _
      refine NoPanic.normal ?_
      clear hHeld11
      obtain rfl : n1 = nS := by rw [← H1.out.1]; exact HB.out.1.sentN
      obtain rfl : n2 = nW := by rw [← H2.out.1]; exact HB.out.1.waitN
      first
        | (clear F2
           exact HK.out _ _ _ _ _ _ _ _ _ w1.heap.size A1 c1 A2 c2 _ (((HGE2.out.set 0 _).set 1 _).set 2 _) (outcopy_fin (w := w) (E := w1.heap.size) H1.out.2.1 H2.out.2.1 (by simp) (by simp) (by simp; omega) (((Below.refl _ _).alloc (Nat.le_refl _) _).trans (H2.out.2.2.mono (by simp))) (by omega) (by simp) (fun k hk hne => (Below.heap_setCell _ ⟨_, 2, none⟩ _ k hne).trans ((Below.heap_setCell _ ⟨_, 1, none⟩ _ k hne).trans (Below.heap_setCell _ ⟨_, 0, none⟩ _ k hne))) (by simp [World.setCell])) z1 ((((((((Below.refl _ _).drew).trans H1.out.2.2).alloc z1 _).trans (H2.out.2.2.mono (by simp; omega))).setCell (p := ⟨w1.heap.size, 0, none⟩) z1 _).setCell (p := ⟨w1.heap.size, 1, none⟩) z1 _).setCell (p := ⟨w1.heap.size, 2, none⟩) z1 _))
        | (clear F1
           exact HK.out _ _ _ _ _ _ _ _ _ w.heap.size A1 c1 A2 c2 _ (((HGE2.out.set 0 _).set 1 _).set 2 _) (outcopy_fin (w := w) (E := w.heap.size) H1.out.2.1 H2.out.2.1 (by simp) (by simp) z1 H2.out.2.2 (by simp) (by omega) (fun k hk hne => (Below.heap_setCell _ ⟨_, 2, none⟩ _ k hne).trans ((Below.heap_setCell _ ⟨_, 1, none⟩ _ k hne).trans (Below.heap_setCell _ ⟨_, 0, none⟩ _ k hne))) (by simp [World.setCell])) (Nat.le_refl _) ((((((((Below.refl _ _).alloc (Nat.le_refl _) _).drew).trans (H1.out.2.2.mono (by simp))).trans (H2.out.2.2.mono z1)).setCell (p := ⟨w.heap.size, 0, none⟩) (Nat.le_refl _) _).setCell (p := ⟨w.heap.size, 1, none⟩) (Nat.le_refl _) _).setCell (p := ⟨w.heap.size, 2, none⟩) (Nat.le_refl _) _))
        | exact HK.out _ _ _ _ _ _ _ _ _ w2.heap.size A1 c1 A2 c2 _ (Blk.new _ _ _ rfl) (outcopy_fin (w := w) (E := w2.heap.size) H1.out.2.1 H2.out.2.1 (by simp) (Nat.le_refl _) z1 H2.out.2.2 (.inr z2) (.inr (Nat.le_refl _)) (fun k hk _ => Below.heap_alloc _ _ k hk) (by simp)) (by omega) (((((Below.refl _ _).drew).trans H1.out.2.2).trans (H2.out.2.2.mono z1)).alloc (by show w.heap.size ≤ w2.heap.size; omega) _)
    · skip
      go_simp
      refine hK.out _ _ ?_ (fun hHeld12 => ?_)
      · (try dsimp only)
        (first | (with_reducible assumption) | (go_keep; done) | (refine ⟨?_, ?_, ?_⟩ <;> (first | (with_reducible assumption) | (simp [go_sem, *]; done) | (simp (disch := (simp; try omega)) [*, World.cell?_alloc_past, World.cell?_setCell_other]; done) | (rw [World.cell?_setCell_other _ _ _ _ (by simp; try omega), World.cell?_setCell_other _ _ _ _ (by simp; try omega), World.cell?_setCell_other _ _ _ _ (by simp; try omega)]; assumption))))
      clear hK K hHeld7
      try simp only [Act.put, List.setIfInBounds_toArray, List.set_cons_zero, List.set_cons_succ]
      refine wpAnyH_ready (rs := [7]) (by kernel_rfl) (by simp) ?_
      refine (AllReadyH.cons (o := _) rfl (fun K hK => ?_) AllReadyH.nil)
      go_simp
      refine (copyBodies_any AW nW cW o.wait HB.out.1.waitN _ (HB.out.1.wait.below (B := w.heap.size) (by first | exact ((Below.refl _ _).drew).trans (H1.out.2.2.mono (by simp)) | exact (((Below.refl _ _).drew).trans (H1.out.2.2.mono (by simp))).alloc z1 _ | exact (((Below.refl _ _).alloc (Nat.le_refl _) _).drew).trans (H1.out.2.2.mono (by simp))) (by (try simp); omega)) (by have := HB.out.2.wait; have := HB.out.1.waitN; omega) (fun x hx => HB.out.2.body x hx)).mono ?_
      rintro e w2 ⟨A2, n2, c2, rfl, hn2, ho2, hb2⟩
      have z2 : w1.heap.size ≤ w2.heap.size := by (have h9 := hb2.size; (try simp at h9); omega)
      have zB2 : BX < w2.heap.size := by omega
      have k0 : w2.cell? ⟨BX, 0, none⟩ = some (.int .i64 o.next) := (hb2.cell (p := ⟨BX, 0, none⟩) (by (try simp); omega)).trans (by first | exact b0 | exact (World.cell?_alloc_lt _ _ _ zB).trans b0)
      have k1 : w2.cell? ⟨BX, 1, none⟩ = some (.slice AS nS cS) := (hb2.cell (p := ⟨BX, 1, none⟩) (by (try simp); omega)).trans (by first | exact b1 | exact (World.cell?_alloc_lt _ _ _ zB).trans b1)
      have k2 : w2.cell? ⟨BX, 2, none⟩ = some (.slice AW nW cW) := (hb2.cell (p := ⟨BX, 2, none⟩) (by (try simp); omega)).trans (by first | exact b2 | exact (World.cell?_alloc_lt _ _ _ zB).trans b2)
      have H2 := Lib.hid (And.intro hn2 (And.intro ho2 hb2))
      first
        | (have gE2 := Blk.below (w := (w1.alloc (.cells #[.int .i64 0, .slice none 0 0, .slice none 0 0] 35))) (g := w1.heap.size) (Blk.new w1 _ _ rfl) hb2 (by simp)
           have i0 := gE2.cell 0 (v := .int .i64 0) rfl; have i1 := gE2.cell 1 (v := .slice none 0 0) rfl; have i2 := gE2.cell 2 (v := .slice none 0 0) rfl
           have fE := gE2.frozen
           have zE : w1.heap.size < w2.heap.size := gE2.lt
           have HGE2 := Lib.hid gE2
           have F2 : True := trivial
           clear gE2)
        | (have gE2 := HGE.out.below hb2 zE
           clear i0 i1 i2 fE
           have zE2 : w.heap.size < w2.heap.size := by omega
           have i0 := gE2.cell 0 (v := .int .i64 0) rfl; have i1 := gE2.cell 1 (v := .slice none 0 0) rfl; have i2 := gE2.cell 2 (v := .slice none 0 0) rfl
           have fE := gE2.frozen
           have HGE2 := Lib.hid gE2
           clear gE2 HGE)
        | skip
      clear hn2 ho2 hb2 b0 b1 b2
      try dsimp only
      refine hK.out _ _ ?_ (fun hHeld13 => ?_)
      · (try dsimp only)
        (first | (with_reducible assumption) | (go_keep; done) | (refine ⟨?_, ?_, ?_⟩ <;> (first | (with_reducible assumption) | (simp [go_sem, *]; done) | (simp (disch := (simp; try omega)) [*, World.cell?_alloc_past, World.cell?_setCell_other]; done) | (rw [World.cell?_setCell_other _ _ _ _ (by simp; try omega), World.cell?_setCell_other _ _ _ _ (by simp; try omega), World.cell?_setCell_other _ _ _ _ (by simp; try omega)]; assumption))))
      clear hK K hHeld12
      try simp only [Act.put, List.setIfInBounds_toArray, List.set_cons_zero, List.set_cons_succ]
      refine wpAnyH_take (i := 8) (oi := _) (v := ?v14) rfl (by kernel_rfl) (by kernel_rfl) (by kernel_rfl) (fun _ _ _ h => h) (Or.inl ⟨by rfl, ?hy14⟩) (by with_reducible assumption) ?rest14
      case hy14 => (intro w hSw; (try dsimp only at hSw); go_simp; try with_reducible rfl)
      try simp only [Act.put, List.setIfInBounds_toArray, List.set_cons_zero, List.set_cons_succ]
      refine wpAnyH_ready (rs := [10]) (by kernel_rfl) (by simp) ?_
      refine (AllReadyH.cons (o := _) rfl (fun K hK => ?_) AllReadyH.nil)
      go_simp
      refine hK.out _ _ ?_ (fun hHeld15 => ?_)
      · (try dsimp only)
        (first | (with_reducible assumption) | (go_keep; done) | (refine ⟨?_, ?_, ?_⟩ <;> (first | (with_reducible assumption) | (simp [go_sem, *]; done) | (simp (disch := (simp; try omega)) [*, World.cell?_alloc_past, World.cell?_setCell_other]; done) | (rw [World.cell?_setCell_other _ _ _ _ (by simp; try omega), World.cell?_setCell_other _ _ _ _ (by simp; try omega), World.cell?_setCell_other _ _ _ _ (by simp; try omega)]; assumption))))
      clear hK K hHeld13
      try simp only [Act.put, List.setIfInBounds_toArray, List.set_cons_zero, List.set_cons_succ]
      refine wpAnyH_done (by kernel_rfl) ?_ _
      refine NoPanic.normal ?_
      clear hHeld15
      obtain rfl : n1 = nS := by rw [← H1.out.1]; exact HB.out.1.sentN
      obtain rfl : n2 = nW := by rw [← H2.out.1]; exact HB.out.1.waitN
      first
        | (clear F2
           exact HK.out _ _ _ _ _ _ _ _ _ w1.heap.size A1 c1 A2 c2 _ (((HGE2.out.set 0 _).set 1 _).set 2 _) (outcopy_fin (w := w) (E := w1.heap.size) H1.out.2.1 H2.out.2.1 (by simp) (by simp) (by simp; omega) (((Below.refl _ _).alloc (Nat.le_refl _) _).trans (H2.out.2.2.mono (by simp))) (by omega) (by simp) (fun k hk hne => (Below.heap_setCell _ ⟨_, 2, none⟩ _ k hne).trans ((Below.heap_setCell _ ⟨_, 1, none⟩ _ k hne).trans (Below.heap_setCell _ ⟨_, 0, none⟩ _ k hne))) (by simp [World.setCell])) z1 ((((((((Below.refl _ _).drew).trans H1.out.2.2).alloc z1 _).trans (H2.out.2.2.mono (by simp; omega))).setCell (p := ⟨w1.heap.size, 0, none⟩) z1 _).setCell (p := ⟨w1.heap.size, 1, none⟩) z1 _).setCell (p := ⟨w1.heap.size, 2, none⟩) z1 _))
        | (clear F1
           exact HK.out _ _ _ _ _ _ _ _ _ w.heap.size A1 c1 A2 c2 _ (((HGE2.out.set 0 _).set 1 _).set 2 _) (outcopy_fin (w := w) (E := w.heap.size) H1.out.2.1 H2.out.2.1 (by simp) (by simp) z1 H2.out.2.2 (by simp) (by omega) (fun k hk hne => (Below.heap_setCell _ ⟨_, 2, none⟩ _ k hne).trans ((Below.heap_setCell _ ⟨_, 1, none⟩ _ k hne).trans (Below.heap_setCell _ ⟨_, 0, none⟩ _ k hne))) (by simp [World.setCell])) (Nat.le_refl _) ((((((((Below.refl _ _).alloc (Nat.le_refl _) _).drew).trans (H1.out.2.2.mono (by simp))).trans (H2.out.2.2.mono z1)).setCell (p := ⟨w.heap.size, 0, none⟩) (Nat.le_refl _) _).setCell (p := ⟨w.heap.size, 1, none⟩) (Nat.le_refl _) _).setCell (p := ⟨w.heap.size, 2, none⟩) (Nat.le_refl _) _))
        | exact HK.out _ _ _ _ _ _ _ _ _ w2.heap.size A1 c1 A2 c2 _ (Blk.new _ _ _ rfl) (outcopy_fin (w := w) (E := w2.heap.size) H1.out.2.1 H2.out.2.1 (by simp) (Nat.le_refl _) z1 H2.out.2.2 (.inr z2) (.inr (Nat.le_refl _)) (fun k hk _ => Below.heap_alloc _ _ k hk) (by simp)) (by omega) (((((Below.refl _ _).drew).trans H1.out.2.2).trans (H2.out.2.2.mono z1)).alloc (by show w.heap.size ≤ w2.heap.size; omega) _)
  · skip
    go_simp
    refine hK.out _ _ ?_ (fun hHeld16 => ?_)
    · (try dsimp only)
      (first | (with_reducible assumption) | (go_keep; done) | (refine ⟨?_, ?_, ?_⟩ <;> (first | (with_reducible assumption) | (simp [go_sem, *]; done) | (simp (disch := (simp; try omega)) [*, World.cell?_alloc_past, World.cell?_setCell_other]; done) | (rw [World.cell?_setCell_other _ _ _ _ (by simp; try omega), World.cell?_setCell_other _ _ _ _ (by simp; try omega), World.cell?_setCell_other _ _ _ _ (by simp; try omega)]; assumption))))
    clear hK K hHeld0
    try simp only [Act.put, List.setIfInBounds_toArray, List.set_cons_zero, List.set_cons_succ]
    refine wpAnyH_ready (rs := [4]) (by kernel_rfl) (by simp) ?_
    refine (AllReadyH.cons (o := _) rfl (fun K hK => ?_) AllReadyH.nil)
    go_simp
    refine (copyItems_any AS nS cS o.sent HB.out.1.sentN _ (HB.out.1.sent.below (by first | exact (Below.refl _ _).drew | exact ((Below.refl _ _).alloc (Nat.le_refl _) _).drew) (by simp)) (by have := HB.out.2.sent; have := HB.out.1.sentN; omega) (fun x hx => HB.out.2.text x hx)).mono ?_
    rintro e w1 ⟨A1, n1, c1, rfl, hn1, ho1, hb1⟩
    have z1 : w.heap.size ≤ w1.heap.size := by (have h9 := hb1.size; simp at h9; omega)
    have zB : BX < w1.heap.size := by omega
    have b0 : w1.cell? ⟨BX, 0, none⟩ = some (.int .i64 o.next) := (hb1.cell (p := ⟨BX, 0, none⟩) (by simp; omega)).trans (by first | exact h0 | exact (World.cell?_alloc_lt _ _ _ hB).trans h0)
    have b1 : w1.cell? ⟨BX, 1, none⟩ = some (.slice AS nS cS) := (hb1.cell (p := ⟨BX, 1, none⟩) (by simp; omega)).trans (by first | exact h1 | exact (World.cell?_alloc_lt _ _ _ hB).trans h1)
    have b2 : w1.cell? ⟨BX, 2, none⟩ = some (.slice AW nW cW) := (hb1.cell (p := ⟨BX, 2, none⟩) (by simp; omega)).trans (by first | exact h2 | exact (World.cell?_alloc_lt _ _ _ hB).trans h2)
    have H1 := Lib.hid (And.intro hn1 (And.intro ho1 hb1))
    try (have gE := Blk.below (w := (w.alloc (.cells #[.int .i64 0, .slice none 0 0, .slice none 0 0] 35)).drew) (g := w.heap.size) (Blk.new w _ _ rfl) hb1 (by simp)
         have i0 := gE.cell 0 (v := .int .i64 0) rfl; have i1 := gE.cell 1 (v := .slice none 0 0) rfl; have i2 := gE.cell 2 (v := .slice none 0 0) rfl
         have fE := gE.frozen
         have zE : w.heap.size < w1.heap.size := gE.lt
         have HGE := Lib.hid gE
         have F1 : True := trivial
         clear gE)
    clear hn1 ho1 hb1
    try dsimp only
    refine hK.out _ _ ?_ (fun hHeld17 => ?_)
    · (try dsimp only)
      (first | (with_reducible assumption) | (go_keep; done) | (refine ⟨?_, ?_, ?_⟩ <;> (first | (with_reducible assumption) | (simp [go_sem, *]; done) | (simp (disch := (simp; try omega)) [*, World.cell?_alloc_past, World.cell?_setCell_other]; done) | (rw [World.cell?_setCell_other _ _ _ _ (by simp; try omega), World.cell?_setCell_other _ _ _ _ (by simp; try omega), World.cell?_setCell_other _ _ _ _ (by simp; try omega)]; assumption))))
    clear hK K hHeld16
    try simp only [Act.put, List.setIfInBounds_toArray, List.set_cons_zero, List.set_cons_succ]
    refine wpAnyH_ready (rs := [7]) (by kernel_rfl) (by simp) ?_
    refine (AllReadyH.cons (o := _) rfl (fun K hK => ?_) AllReadyH.nil)
    go_simp
    refine (copyBodies_any AW nW cW o.wait HB.out.1.waitN _ (HB.out.1.wait.below (B := w.heap.size) (by first | exact ((Below.refl _ _).drew).trans (H1.out.2.2.mono (by simp)) | exact (((Below.refl _ _).drew).trans (H1.out.2.2.mono (by simp))).alloc z1 _ | exact (((Below.refl _ _).alloc (Nat.le_refl _) _).drew).trans (H1.out.2.2.mono (by simp))) (by (try simp); omega)) (by have := HB.out.2.wait; have := HB.out.1.waitN; omega) (fun x hx => HB.out.2.body x hx)).mono ?_
    rintro e w2 ⟨A2, n2, c2, rfl, hn2, ho2, hb2⟩
    have z2 : w1.heap.size ≤ w2.heap.size := by (have h9 := hb2.size; (try simp at h9); omega)
    have zB2 : BX < w2.heap.size := by omega
    have k0 : w2.cell? ⟨BX, 0, none⟩ = some (.int .i64 o.next) := (hb2.cell (p := ⟨BX, 0, none⟩) (by (try simp); omega)).trans (by first | exact b0 | exact (World.cell?_alloc_lt _ _ _ zB).trans b0)
    have k1 : w2.cell? ⟨BX, 1, none⟩ = some (.slice AS nS cS) := (hb2.cell (p := ⟨BX, 1, none⟩) (by (try simp); omega)).trans (by first | exact b1 | exact (World.cell?_alloc_lt _ _ _ zB).trans b1)
    have k2 : w2.cell? ⟨BX, 2, none⟩ = some (.slice AW nW cW) := (hb2.cell (p := ⟨BX, 2, none⟩) (by (try simp); omega)).trans (by first | exact b2 | exact (World.cell?_alloc_lt _ _ _ zB).trans b2)
    have H2 := Lib.hid (And.intro hn2 (And.intro ho2 hb2))
    first
      | (have gE2 := Blk.below (w := (w1.alloc (.cells #[.int .i64 0, .slice none 0 0, .slice none 0 0] 35))) (g := w1.heap.size) (Blk.new w1 _ _ rfl) hb2 (by simp)
         have i0 := gE2.cell 0 (v := .int .i64 0) rfl; have i1 := gE2.cell 1 (v := .slice none 0 0) rfl; have i2 := gE2.cell 2 (v := .slice none 0 0) rfl
         have fE := gE2.frozen
         have zE : w1.heap.size < w2.heap.size := gE2.lt
         have HGE2 := Lib.hid gE2
         have F2 : True := trivial
         clear gE2)
      | (have gE2 := HGE.out.below hb2 zE
         clear i0 i1 i2 fE
         have zE2 : w.heap.size < w2.heap.size := by omega
         have i0 := gE2.cell 0 (v := .int .i64 0) rfl; have i1 := gE2.cell 1 (v := .slice none 0 0) rfl; have i2 := gE2.cell 2 (v := .slice none 0 0) rfl
         have fE := gE2.frozen
         have HGE2 := Lib.hid gE2
         clear gE2 HGE)
      | skip
    clear hn2 ho2 hb2 b0 b1 b2
    try dsimp only
    refine hK.out _ _ ?_ (fun hHeld18 => ?_)
    · (try dsimp only)
      (first | (with_reducible assumption) | (go_keep; done) | (refine ⟨?_, ?_, ?_⟩ <;> (first | (with_reducible assumption) | (simp [go_sem, *]; done) | (simp (disch := (simp; try omega)) [*, World.cell?_alloc_past, World.cell?_setCell_other]; done) | (rw [World.cell?_setCell_other _ _ _ _ (by simp; try omega), World.cell?_setCell_other _ _ _ _ (by simp; try omega), World.cell?_setCell_other _ _ _ _ (by simp; try omega)]; assumption))))
    clear hK K hHeld17
    try simp only [Act.put, List.setIfInBounds_toArray, List.set_cons_zero, List.set_cons_succ]
    refine wpAnyH_take (i := 8) (oi := _) (v := ?v19) rfl (by kernel_rfl) (by kernel_rfl) (by kernel_rfl) (fun _ _ _ h => h) (Or.inl ⟨by rfl, ?hy19⟩) (by with_reducible assumption) ?rest19
    case hy19 => (intro w hSw; (try dsimp only at hSw); go_simp; try with_reducible rfl)
    try simp only [Act.put, List.setIfInBounds_toArray, List.set_cons_zero, List.set_cons_succ]
    refine wpAnyH_ready (rs := [10]) (by kernel_rfl) (by simp) ?_
    refine (AllReadyH.cons (o := _) rfl (fun K hK => ?_) AllReadyH.nil)
    go_simp
    refine hK.out _ _ ?_ (fun hHeld20 => ?_)
    · (try dsimp only)
      (first | (with_reducible assumption) | (go_keep; done) | (refine ⟨?_, ?_, ?_⟩ <;> (first | (with_reducible assumption) | (simp [go_sem, *]; done) | (simp (disch := (simp; try omega)) [*, World.cell?_alloc_past, World.cell?_setCell_other]; done) | (rw [World.cell?_setCell_other _ _ _ _ (by simp; try omega), World.cell?_setCell_other _ _ _ _ (by simp; try omega), World.cell?_setCell_other _ _ _ _ (by simp; try omega)]; assumption))))
    clear hK K hHeld18
    try simp only [Act.put, List.setIfInBounds_toArray, List.set_cons_zero, List.set_cons_succ]
    refine wpAnyH_done (by kernel_rfl) ?_ _
    refine NoPanic.normal ?_
    clear hHeld20
    obtain rfl : n1 = nS := by rw [← H1.out.1]; exact HB.out.1.sentN
    obtain rfl : n2 = nW := by rw [← H2.out.1]; exact HB.out.1.waitN
    first
      | (clear F2
         exact HK.out _ _ _ _ _ _ _ _ _ w1.heap.size A1 c1 A2 c2 _ (((HGE2.out.set 0 _).set 1 _).set 2 _) (outcopy_fin (w := w) (E := w1.heap.size) H1.out.2.1 H2.out.2.1 (by simp) (by simp) (by simp; omega) (((Below.refl _ _).alloc (Nat.le_refl _) _).trans (H2.out.2.2.mono (by simp))) (by omega) (by simp) (fun k hk hne => (Below.heap_setCell _ ⟨_, 2, none⟩ _ k hne).trans ((Below.heap_setCell _ ⟨_, 1, none⟩ _ k hne).trans (Below.heap_setCell _ ⟨_, 0, none⟩ _ k hne))) (by simp [World.setCell])) z1 ((((((((Below.refl _ _).drew).trans H1.out.2.2).alloc z1 _).trans (H2.out.2.2.mono (by simp; omega))).setCell (p := ⟨w1.heap.size, 0, none⟩) z1 _).setCell (p := ⟨w1.heap.size, 1, none⟩) z1 _).setCell (p := ⟨w1.heap.size, 2, none⟩) z1 _))
      | (clear F1
         exact HK.out _ _ _ _ _ _ _ _ _ w.heap.size A1 c1 A2 c2 _ (((HGE2.out.set 0 _).set 1 _).set 2 _) (outcopy_fin (w := w) (E := w.heap.size) H1.out.2.1 H2.out.2.1 (by simp) (by simp) z1 H2.out.2.2 (by simp) (by omega) (fun k hk hne => (Below.heap_setCell _ ⟨_, 2, none⟩ _ k hne).trans ((Below.heap_setCell _ ⟨_, 1, none⟩ _ k hne).trans (Below.heap_setCell _ ⟨_, 0, none⟩ _ k hne))) (by simp [World.setCell])) (Nat.le_refl _) ((((((((Below.refl _ _).alloc (Nat.le_refl _) _).drew).trans (H1.out.2.2.mono (by simp))).trans (H2.out.2.2.mono z1)).setCell (p := ⟨w.heap.size, 0, none⟩) (Nat.le_refl _) _).setCell (p := ⟨w.heap.size, 1, none⟩) (Nat.le_refl _) _).setCell (p := ⟨w.heap.size, 2, none⟩) (Nat.le_refl _) _))
      | exact HK.out _ _ _ _ _ _ _ _ _ w2.heap.size A1 c1 A2 c2 _ (Blk.new _ _ _ rfl) (outcopy_fin (w := w) (E := w2.heap.size) H1.out.2.1 H2.out.2.1 (by simp) (Nat.le_refl _) z1 H2.out.2.2 (.inr z2) (.inr (Nat.le_refl _)) (fun k hk _ => Below.heap_alloc _ _ k hk) (by simp)) (by omega) (((((Below.refl _ _).drew).trans H1.out.2.2).trans (H2.out.2.2.mono z1)).alloc (by show w.heap.size ≤ w2.heap.size; omega) _)
noncomputable def again_r1_code : Code := regionOf Try.f15 1
set_option maxRecDepth 100000 in
set_option maxHeartbeats 2000000 in
theorem again_r1 {Q : Exit → Act → World → Prop} {s0 s1 s2 s4 s5 s6 s7 s8 s9 s10 s11 s12 s13 s14 s15 s16 s17 s18 s19 s20 s21 s22 s23 s24 s25 s26 s27 s28 s29 s30 s31 s32 s33 s34 s35 s36 s37 s38 s39 s40 s41 s42 s43 s44 s45 s46 s47 s48 s49 s50 s51 s52 s53 : Value} (w : World) (BX : Nat) (o : Ot) (AS : Option Addr) (nS cS : Nat) (AW : Option Addr) (nW cW : Nat) (ho : OutAt w (lo w.heap.size) AS nS AW nW o) (hf : OutFit o) (hB : BX < w.heap.size)
    (h0 : w.cell? ⟨BX, 0, none⟩ = some (.int .i64 o.next)) (h1 : w.cell? ⟨BX, 1, none⟩ = some (.slice AS nS cS)) (h2 : w.cell? ⟨BX, 2, none⟩ = some (.slice AW nW cW))
    (hK : ∀ (d11 d12 d13 d14 d15 d16 d17 d18 d19 : Value) (E : Nat) (A1 : Option Addr) (c1 : Nat) (A2 : Option Addr) (c2 : Nat) (w2 : World), Blk w2 E 35 #[.int .i64 o.next, .slice A1 nS c1, .slice A2 nW c2] →
      (OwnX Rit w2 w.heap.size 38 (fun k => k = E ∨ (Value.slice A2 nW c2).ownBlock = some k) (.slice A1 nS c1) o.sent ∧ OwnX Rbd w2 w.heap.size 25 (fun k => k = E ∨ (Value.slice A1 nS c1).ownBlock = some k) (.slice A2 nW c2) o.wait) →
      w.heap.size ≤ E → Below w.heap.size w w2 → Q .normal ⟨#[s0, s1, s2, .pointer (some ⟨BX, 0, none⟩), s4, s5, s6, s7, .pointer (some ⟨E, 0, none⟩), s9, s10, d11, d12, d13, d14, d15, d16, d17, d18, d19, s20, s21, s22, s23, s24, s25, s26, s27, s28, s29, s30, s31, s32, s33, s34, s35, s36, s37, s38, s39, s40, s41, s42, s43, s44, s45, s46, s47, s48, s49, s50, s51, s52, s53], []⟩ w2) :
    Code.wp Try.prog again_r1_code Q ⟨#[s0, s1, s2, .pointer (some ⟨BX, 0, none⟩), s4, s5, s6, s7, s8, s9, s10, s11, s12, s13, s14, s15, s16, s17, s18, s19, s20, s21, s22, s23, s24, s25, s26, s27, s28, s29, s30, s31, s32, s33, s34, s35, s36, s37, s38, s39, s40, s41, s42, s43, s44, s45, s46, s47, s48, s49, s50, s51, s52, s53], []⟩ w := by
  have HK := Lib.hid hK; clear hK
  have HB := Lib.hid (And.intro ho hf); clear ho hf
  conv => arg 2; whnf
  refine wp_region_noPanic ?_
  refine wp_region_held_drew (S := (fun w' => w'.cell? ⟨BX, 0, none⟩ = some (.int .i64 o.next) ∧ w'.cell? ⟨BX, 1, none⟩ = some (.slice AS nS cS) ∧ w'.cell? ⟨BX, 2, none⟩ = some (.slice AW nW cW))) (by kernel_rfl) ?_ (fun hHeld0 => ?_)
  · (try dsimp only)
    (first | (with_reducible assumption) | (go_keep; done) | (refine ⟨?_, ?_, ?_⟩ <;> (first | (with_reducible assumption) | (simp [go_sem, *]; done) | (simp (disch := (simp; try omega)) [*, World.cell?_alloc_past, World.cell?_setCell_other]; done) | (rw [World.cell?_setCell_other _ _ _ _ (by simp; try omega), World.cell?_setCell_other _ _ _ _ (by simp; try omega), World.cell?_setCell_other _ _ _ _ (by simp; try omega)]; assumption))))
  refine wpAnyH_take (i := 0) (oi := _) (v := ?v1) rfl (by kernel_rfl) (by kernel_rfl) (by kernel_rfl) (fun _ _ _ h => h) (Or.inl ⟨by rfl, ?hy1⟩) (by with_reducible assumption) ?rest1
  case hy1 => (intro w hSw; (try dsimp only at hSw); go_simp; try with_reducible rfl)
  try simp only [Act.put, List.setIfInBounds_toArray, List.set_cons_zero, List.set_cons_succ]
  refine wpAnyH_take (i := 1) (oi := _) (v := ?v2) rfl (by kernel_rfl) (by kernel_rfl) (by kernel_rfl) (fun _ _ _ h => h) (Or.inl ⟨by rfl, ?hy2⟩) (by with_reducible assumption) ?rest2
  case hy2 => (intro w hSw; (try dsimp only at hSw); go_simp; try with_reducible rfl)
  try simp only [Act.put, List.setIfInBounds_toArray, List.set_cons_zero, List.set_cons_succ]
  refine wpAnyH_take (i := 2) (oi := _) (v := ?v3) rfl (by kernel_rfl) (by kernel_rfl) (by kernel_rfl) (fun _ _ _ h => h) (Or.inl ⟨by rfl, ?hy3⟩) (by with_reducible assumption) ?rest3
  case hy3 => (intro w hSw; (try dsimp only at hSw); go_simp; try with_reducible rfl)
  try simp only [Act.put, List.setIfInBounds_toArray, List.set_cons_zero, List.set_cons_succ]
  refine wpAnyH_take (i := 3) (oi := _) (v := ?v4) rfl (by kernel_rfl) (by kernel_rfl) (by kernel_rfl) (fun _ _ _ h => h) (Or.inl ⟨by rfl, ?hy4⟩) (by with_reducible assumption) ?rest4
  case hy4 => (intro w hSw; (try dsimp only at hSw); go_simp; try with_reducible rfl)
  try simp only [Act.put, List.setIfInBounds_toArray, List.set_cons_zero, List.set_cons_succ]
  refine wpAnyH_take (i := 5) (oi := _) (v := ?v5) rfl (by kernel_rfl) (by kernel_rfl) (by kernel_rfl) (fun _ _ _ h => h) (Or.inl ⟨by rfl, ?hy5⟩) (by with_reducible assumption) ?rest5
  case hy5 => (intro w hSw; (try dsimp only at hSw); go_simp; try with_reducible rfl)
  try simp only [Act.put, List.setIfInBounds_toArray, List.set_cons_zero, List.set_cons_succ]
  refine wpAnyH_take (i := 6) (oi := _) (v := ?v6) rfl (by kernel_rfl) (by kernel_rfl) (by kernel_rfl) (fun _ _ _ h => h) (Or.inl ⟨by rfl, ?hy6⟩) (by with_reducible assumption) ?rest6
  case hy6 => (intro w hSw; (try dsimp only at hSw); go_simp; try with_reducible rfl)
  try simp only [Act.put, List.setIfInBounds_toArray, List.set_cons_zero, List.set_cons_succ]
  refine wpAnyH_ready (rs := [4, 9]) (by kernel_rfl) (by simp) ?_
  refine (AllReadyH.cons (o := _) rfl (fun K hK => ?_) (AllReadyH.cons (o := _) rfl (fun K hK => ?_) AllReadyH.nil))
  · skip
    go_simp
    refine (copyItems_any AS nS cS o.sent HB.out.1.sentN _ (HB.out.1.sent.below (by first | exact (Below.refl _ _).drew | exact ((Below.refl _ _).alloc (Nat.le_refl _) _).drew) (by simp)) (by have := HB.out.2.sent; have := HB.out.1.sentN; omega) (fun x hx => HB.out.2.text x hx)).mono ?_
    rintro e w1 ⟨A1, n1, c1, rfl, hn1, ho1, hb1⟩
    have z1 : w.heap.size ≤ w1.heap.size := by (have h9 := hb1.size; simp at h9; omega)
    have zB : BX < w1.heap.size := by omega
    have b0 : w1.cell? ⟨BX, 0, none⟩ = some (.int .i64 o.next) := (hb1.cell (p := ⟨BX, 0, none⟩) (by simp; omega)).trans (by first | exact h0 | exact (World.cell?_alloc_lt _ _ _ hB).trans h0)
    have b1 : w1.cell? ⟨BX, 1, none⟩ = some (.slice AS nS cS) := (hb1.cell (p := ⟨BX, 1, none⟩) (by simp; omega)).trans (by first | exact h1 | exact (World.cell?_alloc_lt _ _ _ hB).trans h1)
    have b2 : w1.cell? ⟨BX, 2, none⟩ = some (.slice AW nW cW) := (hb1.cell (p := ⟨BX, 2, none⟩) (by simp; omega)).trans (by first | exact h2 | exact (World.cell?_alloc_lt _ _ _ hB).trans h2)
    have H1 := Lib.hid (And.intro hn1 (And.intro ho1 hb1))
    try (have gE := Blk.below (w := (w.alloc (.cells #[.int .i64 0, .slice none 0 0, .slice none 0 0] 35)).drew) (g := w.heap.size) (Blk.new w _ _ rfl) hb1 (by simp)
         have i0 := gE.cell 0 (v := .int .i64 0) rfl; have i1 := gE.cell 1 (v := .slice none 0 0) rfl; have i2 := gE.cell 2 (v := .slice none 0 0) rfl
         have fE := gE.frozen
         have zE : w.heap.size < w1.heap.size := gE.lt
         have HGE := Lib.hid gE
         have F1 : True := trivial
         clear gE)
    clear hn1 ho1 hb1
    try dsimp only
    refine hK.out _ _ ?_ (fun hHeld7 => ?_)
    · (try dsimp only)
      (first | (with_reducible assumption) | (go_keep; done) | (refine ⟨?_, ?_, ?_⟩ <;> (first | (with_reducible assumption) | (simp [go_sem, *]; done) | (simp (disch := (simp; try omega)) [*, World.cell?_alloc_past, World.cell?_setCell_other]; done) | (rw [World.cell?_setCell_other _ _ _ _ (by simp; try omega), World.cell?_setCell_other _ _ _ _ (by simp; try omega), World.cell?_setCell_other _ _ _ _ (by simp; try omega)]; assumption))))
    clear hK K hHeld0
    try simp only [Act.put, List.setIfInBounds_toArray, List.set_cons_zero, List.set_cons_succ]
    refine wpAnyH_ready (rs := [7, 9]) (by kernel_rfl) (by simp) ?_
    refine (AllReadyH.cons (o := _) rfl (fun K hK => ?_) (AllReadyH.cons (o := _) rfl (fun K hK => ?_) AllReadyH.nil))
    · skip
      go_simp
      refine (copyBodies_any AW nW cW o.wait HB.out.1.waitN _ (HB.out.1.wait.below (B := w.heap.size) (by first | exact ((Below.refl _ _).drew).trans (H1.out.2.2.mono (by simp)) | exact (((Below.refl _ _).drew).trans (H1.out.2.2.mono (by simp))).alloc z1 _ | exact (((Below.refl _ _).alloc (Nat.le_refl _) _).drew).trans (H1.out.2.2.mono (by simp))) (by (try simp); omega)) (by have := HB.out.2.wait; have := HB.out.1.waitN; omega) (fun x hx => HB.out.2.body x hx)).mono ?_
      rintro e w2 ⟨A2, n2, c2, rfl, hn2, ho2, hb2⟩
      have z2 : w1.heap.size ≤ w2.heap.size := by (have h9 := hb2.size; (try simp at h9); omega)
      have zB2 : BX < w2.heap.size := by omega
      have k0 : w2.cell? ⟨BX, 0, none⟩ = some (.int .i64 o.next) := (hb2.cell (p := ⟨BX, 0, none⟩) (by (try simp); omega)).trans (by first | exact b0 | exact (World.cell?_alloc_lt _ _ _ zB).trans b0)
      have k1 : w2.cell? ⟨BX, 1, none⟩ = some (.slice AS nS cS) := (hb2.cell (p := ⟨BX, 1, none⟩) (by (try simp); omega)).trans (by first | exact b1 | exact (World.cell?_alloc_lt _ _ _ zB).trans b1)
      have k2 : w2.cell? ⟨BX, 2, none⟩ = some (.slice AW nW cW) := (hb2.cell (p := ⟨BX, 2, none⟩) (by (try simp); omega)).trans (by first | exact b2 | exact (World.cell?_alloc_lt _ _ _ zB).trans b2)
      have H2 := Lib.hid (And.intro hn2 (And.intro ho2 hb2))
      first
        | (have gE2 := Blk.below (w := (w1.alloc (.cells #[.int .i64 0, .slice none 0 0, .slice none 0 0] 35))) (g := w1.heap.size) (Blk.new w1 _ _ rfl) hb2 (by simp)
           have i0 := gE2.cell 0 (v := .int .i64 0) rfl; have i1 := gE2.cell 1 (v := .slice none 0 0) rfl; have i2 := gE2.cell 2 (v := .slice none 0 0) rfl
           have fE := gE2.frozen
           have zE : w1.heap.size < w2.heap.size := gE2.lt
           have HGE2 := Lib.hid gE2
           have F2 : True := trivial
           clear gE2)
        | (have gE2 := HGE.out.below hb2 zE
           clear i0 i1 i2 fE
           have zE2 : w.heap.size < w2.heap.size := by omega
           have i0 := gE2.cell 0 (v := .int .i64 0) rfl; have i1 := gE2.cell 1 (v := .slice none 0 0) rfl; have i2 := gE2.cell 2 (v := .slice none 0 0) rfl
           have fE := gE2.frozen
           have HGE2 := Lib.hid gE2
           clear gE2 HGE)
        | skip
      clear hn2 ho2 hb2 b0 b1 b2
      try dsimp only
      refine hK.out _ _ ?_ (fun hHeld8 => ?_)
      · (try dsimp only)
        (first | (with_reducible assumption) | (go_keep; done) | (refine ⟨?_, ?_, ?_⟩ <;> (first | (with_reducible assumption) | (simp [go_sem, *]; done) | (simp (disch := (simp; try omega)) [*, World.cell?_alloc_past, World.cell?_setCell_other]; done) | (rw [World.cell?_setCell_other _ _ _ _ (by simp; try omega), World.cell?_setCell_other _ _ _ _ (by simp; try omega), World.cell?_setCell_other _ _ _ _ (by simp; try omega)]; assumption))))
      clear hK K hHeld7
      try simp only [Act.put, List.setIfInBounds_toArray, List.set_cons_zero, List.set_cons_succ]
      refine wpAnyH_take (i := 8) (oi := _) (v := ?v9) rfl (by kernel_rfl) (by kernel_rfl) (by kernel_rfl) (fun _ _ _ h => h) (Or.inl ⟨by rfl, ?hy9⟩) (by with_reducible assumption) ?rest9
      case hy9 => (intro w hSw; (try dsimp only at hSw); go_simp; try with_reducible rfl)
      try simp only [Act.put, List.setIfInBounds_toArray, List.set_cons_zero, List.set_cons_succ]
      refine wpAnyH_ready (rs := [9]) (by kernel_rfl) (by simp) ?_
      refine (AllReadyH.cons (o := _) rfl (fun K hK => ?_) AllReadyH.nil)
      go_simp
      refine hK.out _ _ ?_ (fun hHeld10 => ?_)
      · (try dsimp only)
        (first | (with_reducible assumption) | (go_keep; done) | (refine ⟨?_, ?_, ?_⟩ <;> (first | (with_reducible assumption) | (simp [go_sem, *]; done) | (simp (disch := (simp; try omega)) [*, World.cell?_alloc_past, World.cell?_setCell_other]; done) | (rw [World.cell?_setCell_other _ _ _ _ (by simp; try omega), World.cell?_setCell_other _ _ _ _ (by simp; try omega), World.cell?_setCell_other _ _ _ _ (by simp; try omega)]; assumption))))
      clear hK K hHeld8
      try simp only [Act.put, List.setIfInBounds_toArray, List.set_cons_zero, List.set_cons_succ]
      refine wpAnyH_ready (rs := [10]) (by kernel_rfl) (by simp) ?_
      refine (AllReadyH.cons (o := _) rfl (fun K hK => ?_) AllReadyH.nil)
      go_simp
      refine hK.out _ _ ?_ (fun hHeld11 => ?_)
      · (try dsimp only)
        (first | (with_reducible assumption) | (go_keep; done) | (refine ⟨?_, ?_, ?_⟩ <;> (first | (with_reducible assumption) | (simp [go_sem, *]; done) | (simp (disch := (simp; try omega)) [*, World.cell?_alloc_past, World.cell?_setCell_other]; done) | (rw [World.cell?_setCell_other _ _ _ _ (by simp; try omega), World.cell?_setCell_other _ _ _ _ (by simp; try omega), World.cell?_setCell_other _ _ _ _ (by simp; try omega)]; assumption))))
      clear hK K hHeld10
      try simp only [Act.put, List.setIfInBounds_toArray, List.set_cons_zero, List.set_cons_succ]
      refine wpAnyH_done (by kernel_rfl) ?_ _
      refine NoPanic.normal ?_
      clear hHeld11
      obtain rfl : n1 = nS := by rw [← H1.out.1]; exact HB.out.1.sentN
      obtain rfl : n2 = nW := by rw [← H2.out.1]; exact HB.out.1.waitN
      first
        | (clear F2
           exact HK.out _ _ _ _ _ _ _ _ _ w1.heap.size A1 c1 A2 c2 _ (((HGE2.out.set 0 _).set 1 _).set 2 _) (outcopy_fin (w := w) (E := w1.heap.size) H1.out.2.1 H2.out.2.1 (by simp) (by simp) (by simp; omega) (((Below.refl _ _).alloc (Nat.le_refl _) _).trans (H2.out.2.2.mono (by simp))) (by omega) (by simp) (fun k hk hne => (Below.heap_setCell _ ⟨_, 2, none⟩ _ k hne).trans ((Below.heap_setCell _ ⟨_, 1, none⟩ _ k hne).trans (Below.heap_setCell _ ⟨_, 0, none⟩ _ k hne))) (by simp [World.setCell])) z1 ((((((((Below.refl _ _).drew).trans H1.out.2.2).alloc z1 _).trans (H2.out.2.2.mono (by simp; omega))).setCell (p := ⟨w1.heap.size, 0, none⟩) z1 _).setCell (p := ⟨w1.heap.size, 1, none⟩) z1 _).setCell (p := ⟨w1.heap.size, 2, none⟩) z1 _))
        | (clear F1
           exact HK.out _ _ _ _ _ _ _ _ _ w.heap.size A1 c1 A2 c2 _ (((HGE2.out.set 0 _).set 1 _).set 2 _) (outcopy_fin (w := w) (E := w.heap.size) H1.out.2.1 H2.out.2.1 (by simp) (by simp) z1 H2.out.2.2 (by simp) (by omega) (fun k hk hne => (Below.heap_setCell _ ⟨_, 2, none⟩ _ k hne).trans ((Below.heap_setCell _ ⟨_, 1, none⟩ _ k hne).trans (Below.heap_setCell _ ⟨_, 0, none⟩ _ k hne))) (by simp [World.setCell])) (Nat.le_refl _) ((((((((Below.refl _ _).alloc (Nat.le_refl _) _).drew).trans (H1.out.2.2.mono (by simp))).trans (H2.out.2.2.mono z1)).setCell (p := ⟨w.heap.size, 0, none⟩) (Nat.le_refl _) _).setCell (p := ⟨w.heap.size, 1, none⟩) (Nat.le_refl _) _).setCell (p := ⟨w.heap.size, 2, none⟩) (Nat.le_refl _) _))
        | exact HK.out _ _ _ _ _ _ _ _ _ w2.heap.size A1 c1 A2 c2 _ (Blk.new _ _ _ rfl) (outcopy_fin (w := w) (E := w2.heap.size) H1.out.2.1 H2.out.2.1 (by simp) (Nat.le_refl _) z1 H2.out.2.2 (.inr z2) (.inr (Nat.le_refl _)) (fun k hk _ => Below.heap_alloc _ _ k hk) (by simp)) (by omega) (((((Below.refl _ _).drew).trans H1.out.2.2).trans (H2.out.2.2.mono z1)).alloc (by show w.heap.size ≤ w2.heap.size; omega) _)
    · skip
      go_simp
      refine hK.out _ _ ?_ (fun hHeld12 => ?_)
      · (try dsimp only)
        (first | (with_reducible assumption) | (go_keep; done) | (refine ⟨?_, ?_, ?_⟩ <;> (first | (with_reducible assumption) | (simp [go_sem, *]; done) | (simp (disch := (simp; try omega)) [*, World.cell?_alloc_past, World.cell?_setCell_other]; done) | (rw [World.cell?_setCell_other _ _ _ _ (by simp; try omega), World.cell?_setCell_other _ _ _ _ (by simp; try omega), World.cell?_setCell_other _ _ _ _ (by simp; try omega)]; assumption))))
      clear hK K hHeld7
      try simp only [Act.put, List.setIfInBounds_toArray, List.set_cons_zero, List.set_cons_succ]
      refine wpAnyH_ready (rs := [7]) (by kernel_rfl) (by simp) ?_
      refine (AllReadyH.cons (o := _) rfl (fun K hK => ?_) AllReadyH.nil)
      go_simp
      refine (copyBodies_any AW nW cW o.wait HB.out.1.waitN _ (HB.out.1.wait.below (B := w.heap.size) (by first | exact ((Below.refl _ _).drew).trans (H1.out.2.2.mono (by simp)) | exact (((Below.refl _ _).drew).trans (H1.out.2.2.mono (by simp))).alloc z1 _ | exact (((Below.refl _ _).alloc (Nat.le_refl _) _).drew).trans (H1.out.2.2.mono (by simp))) (by (try simp); omega)) (by have := HB.out.2.wait; have := HB.out.1.waitN; omega) (fun x hx => HB.out.2.body x hx)).mono ?_
      rintro e w2 ⟨A2, n2, c2, rfl, hn2, ho2, hb2⟩
      have z2 : w1.heap.size ≤ w2.heap.size := by (have h9 := hb2.size; (try simp at h9); omega)
      have zB2 : BX < w2.heap.size := by omega
      have k0 : w2.cell? ⟨BX, 0, none⟩ = some (.int .i64 o.next) := (hb2.cell (p := ⟨BX, 0, none⟩) (by (try simp); omega)).trans (by first | exact b0 | exact (World.cell?_alloc_lt _ _ _ zB).trans b0)
      have k1 : w2.cell? ⟨BX, 1, none⟩ = some (.slice AS nS cS) := (hb2.cell (p := ⟨BX, 1, none⟩) (by (try simp); omega)).trans (by first | exact b1 | exact (World.cell?_alloc_lt _ _ _ zB).trans b1)
      have k2 : w2.cell? ⟨BX, 2, none⟩ = some (.slice AW nW cW) := (hb2.cell (p := ⟨BX, 2, none⟩) (by (try simp); omega)).trans (by first | exact b2 | exact (World.cell?_alloc_lt _ _ _ zB).trans b2)
      have H2 := Lib.hid (And.intro hn2 (And.intro ho2 hb2))
      first
        | (have gE2 := Blk.below (w := (w1.alloc (.cells #[.int .i64 0, .slice none 0 0, .slice none 0 0] 35))) (g := w1.heap.size) (Blk.new w1 _ _ rfl) hb2 (by simp)
           have i0 := gE2.cell 0 (v := .int .i64 0) rfl; have i1 := gE2.cell 1 (v := .slice none 0 0) rfl; have i2 := gE2.cell 2 (v := .slice none 0 0) rfl
           have fE := gE2.frozen
           have zE : w1.heap.size < w2.heap.size := gE2.lt
           have HGE2 := Lib.hid gE2
           have F2 : True := trivial
           clear gE2)
        | (have gE2 := HGE.out.below hb2 zE
           clear i0 i1 i2 fE
           have zE2 : w.heap.size < w2.heap.size := by omega
           have i0 := gE2.cell 0 (v := .int .i64 0) rfl; have i1 := gE2.cell 1 (v := .slice none 0 0) rfl; have i2 := gE2.cell 2 (v := .slice none 0 0) rfl
           have fE := gE2.frozen
           have HGE2 := Lib.hid gE2
           clear gE2 HGE)
        | skip
      clear hn2 ho2 hb2 b0 b1 b2
      try dsimp only
      refine hK.out _ _ ?_ (fun hHeld13 => ?_)
      · (try dsimp only)
        (first | (with_reducible assumption) | (go_keep; done) | (refine ⟨?_, ?_, ?_⟩ <;> (first | (with_reducible assumption) | (simp [go_sem, *]; done) | (simp (disch := (simp; try omega)) [*, World.cell?_alloc_past, World.cell?_setCell_other]; done) | (rw [World.cell?_setCell_other _ _ _ _ (by simp; try omega), World.cell?_setCell_other _ _ _ _ (by simp; try omega), World.cell?_setCell_other _ _ _ _ (by simp; try omega)]; assumption))))
      clear hK K hHeld12
      try simp only [Act.put, List.setIfInBounds_toArray, List.set_cons_zero, List.set_cons_succ]
      refine wpAnyH_take (i := 8) (oi := _) (v := ?v14) rfl (by kernel_rfl) (by kernel_rfl) (by kernel_rfl) (fun _ _ _ h => h) (Or.inl ⟨by rfl, ?hy14⟩) (by with_reducible assumption) ?rest14
      case hy14 => (intro w hSw; (try dsimp only at hSw); go_simp; try with_reducible rfl)
      try simp only [Act.put, List.setIfInBounds_toArray, List.set_cons_zero, List.set_cons_succ]
      refine wpAnyH_ready (rs := [10]) (by kernel_rfl) (by simp) ?_
      refine (AllReadyH.cons (o := _) rfl (fun K hK => ?_) AllReadyH.nil)
      go_simp
      refine hK.out _ _ ?_ (fun hHeld15 => ?_)
      · (try dsimp only)
        (first | (with_reducible assumption) | (go_keep; done) | (refine ⟨?_, ?_, ?_⟩ <;> (first | (with_reducible assumption) | (simp [go_sem, *]; done) | (simp (disch := (simp; try omega)) [*, World.cell?_alloc_past, World.cell?_setCell_other]; done) | (rw [World.cell?_setCell_other _ _ _ _ (by simp; try omega), World.cell?_setCell_other _ _ _ _ (by simp; try omega), World.cell?_setCell_other _ _ _ _ (by simp; try omega)]; assumption))))
      clear hK K hHeld13
      try simp only [Act.put, List.setIfInBounds_toArray, List.set_cons_zero, List.set_cons_succ]
      refine wpAnyH_done (by kernel_rfl) ?_ _
      refine NoPanic.normal ?_
      clear hHeld15
      obtain rfl : n1 = nS := by rw [← H1.out.1]; exact HB.out.1.sentN
      obtain rfl : n2 = nW := by rw [← H2.out.1]; exact HB.out.1.waitN
      first
        | (clear F2
           exact HK.out _ _ _ _ _ _ _ _ _ w1.heap.size A1 c1 A2 c2 _ (((HGE2.out.set 0 _).set 1 _).set 2 _) (outcopy_fin (w := w) (E := w1.heap.size) H1.out.2.1 H2.out.2.1 (by simp) (by simp) (by simp; omega) (((Below.refl _ _).alloc (Nat.le_refl _) _).trans (H2.out.2.2.mono (by simp))) (by omega) (by simp) (fun k hk hne => (Below.heap_setCell _ ⟨_, 2, none⟩ _ k hne).trans ((Below.heap_setCell _ ⟨_, 1, none⟩ _ k hne).trans (Below.heap_setCell _ ⟨_, 0, none⟩ _ k hne))) (by simp [World.setCell])) z1 ((((((((Below.refl _ _).drew).trans H1.out.2.2).alloc z1 _).trans (H2.out.2.2.mono (by simp; omega))).setCell (p := ⟨w1.heap.size, 0, none⟩) z1 _).setCell (p := ⟨w1.heap.size, 1, none⟩) z1 _).setCell (p := ⟨w1.heap.size, 2, none⟩) z1 _))
        | (clear F1
           exact HK.out _ _ _ _ _ _ _ _ _ w.heap.size A1 c1 A2 c2 _ (((HGE2.out.set 0 _).set 1 _).set 2 _) (outcopy_fin (w := w) (E := w.heap.size) H1.out.2.1 H2.out.2.1 (by simp) (by simp) z1 H2.out.2.2 (by simp) (by omega) (fun k hk hne => (Below.heap_setCell _ ⟨_, 2, none⟩ _ k hne).trans ((Below.heap_setCell _ ⟨_, 1, none⟩ _ k hne).trans (Below.heap_setCell _ ⟨_, 0, none⟩ _ k hne))) (by simp [World.setCell])) (Nat.le_refl _) ((((((((Below.refl _ _).alloc (Nat.le_refl _) _).drew).trans (H1.out.2.2.mono (by simp))).trans (H2.out.2.2.mono z1)).setCell (p := ⟨w.heap.size, 0, none⟩) (Nat.le_refl _) _).setCell (p := ⟨w.heap.size, 1, none⟩) (Nat.le_refl _) _).setCell (p := ⟨w.heap.size, 2, none⟩) (Nat.le_refl _) _))
        | exact HK.out _ _ _ _ _ _ _ _ _ w2.heap.size A1 c1 A2 c2 _ (Blk.new _ _ _ rfl) (outcopy_fin (w := w) (E := w2.heap.size) H1.out.2.1 H2.out.2.1 (by simp) (Nat.le_refl _) z1 H2.out.2.2 (.inr z2) (.inr (Nat.le_refl _)) (fun k hk _ => Below.heap_alloc _ _ k hk) (by simp)) (by omega) (((((Below.refl _ _).drew).trans H1.out.2.2).trans (H2.out.2.2.mono z1)).alloc (by show w.heap.size ≤ w2.heap.size; omega) _)
  · skip
    go_simp
    refine hK.out _ _ ?_ (fun hHeld16 => ?_)
    · (try dsimp only)
      (first | (with_reducible assumption) | (go_keep; done) | (refine ⟨?_, ?_, ?_⟩ <;> (first | (with_reducible assumption) | (simp [go_sem, *]; done) | (simp (disch := (simp; try omega)) [*, World.cell?_alloc_past, World.cell?_setCell_other]; done) | (rw [World.cell?_setCell_other _ _ _ _ (by simp; try omega), World.cell?_setCell_other _ _ _ _ (by simp; try omega), World.cell?_setCell_other _ _ _ _ (by simp; try omega)]; assumption))))
    clear hK K hHeld0
    try simp only [Act.put, List.setIfInBounds_toArray, List.set_cons_zero, List.set_cons_succ]
    refine wpAnyH_ready (rs := [4]) (by kernel_rfl) (by simp) ?_
    refine (AllReadyH.cons (o := _) rfl (fun K hK => ?_) AllReadyH.nil)
    go_simp
    refine (copyItems_any AS nS cS o.sent HB.out.1.sentN _ (HB.out.1.sent.below (by first | exact (Below.refl _ _).drew | exact ((Below.refl _ _).alloc (Nat.le_refl _) _).drew) (by simp)) (by have := HB.out.2.sent; have := HB.out.1.sentN; omega) (fun x hx => HB.out.2.text x hx)).mono ?_
    rintro e w1 ⟨A1, n1, c1, rfl, hn1, ho1, hb1⟩
    have z1 : w.heap.size ≤ w1.heap.size := by (have h9 := hb1.size; simp at h9; omega)
    have zB : BX < w1.heap.size := by omega
    have b0 : w1.cell? ⟨BX, 0, none⟩ = some (.int .i64 o.next) := (hb1.cell (p := ⟨BX, 0, none⟩) (by simp; omega)).trans (by first | exact h0 | exact (World.cell?_alloc_lt _ _ _ hB).trans h0)
    have b1 : w1.cell? ⟨BX, 1, none⟩ = some (.slice AS nS cS) := (hb1.cell (p := ⟨BX, 1, none⟩) (by simp; omega)).trans (by first | exact h1 | exact (World.cell?_alloc_lt _ _ _ hB).trans h1)
    have b2 : w1.cell? ⟨BX, 2, none⟩ = some (.slice AW nW cW) := (hb1.cell (p := ⟨BX, 2, none⟩) (by simp; omega)).trans (by first | exact h2 | exact (World.cell?_alloc_lt _ _ _ hB).trans h2)
    have H1 := Lib.hid (And.intro hn1 (And.intro ho1 hb1))
    try (have gE := Blk.below (w := (w.alloc (.cells #[.int .i64 0, .slice none 0 0, .slice none 0 0] 35)).drew) (g := w.heap.size) (Blk.new w _ _ rfl) hb1 (by simp)
         have i0 := gE.cell 0 (v := .int .i64 0) rfl; have i1 := gE.cell 1 (v := .slice none 0 0) rfl; have i2 := gE.cell 2 (v := .slice none 0 0) rfl
         have fE := gE.frozen
         have zE : w.heap.size < w1.heap.size := gE.lt
         have HGE := Lib.hid gE
         have F1 : True := trivial
         clear gE)
    clear hn1 ho1 hb1
    try dsimp only
    refine hK.out _ _ ?_ (fun hHeld17 => ?_)
    · (try dsimp only)
      (first | (with_reducible assumption) | (go_keep; done) | (refine ⟨?_, ?_, ?_⟩ <;> (first | (with_reducible assumption) | (simp [go_sem, *]; done) | (simp (disch := (simp; try omega)) [*, World.cell?_alloc_past, World.cell?_setCell_other]; done) | (rw [World.cell?_setCell_other _ _ _ _ (by simp; try omega), World.cell?_setCell_other _ _ _ _ (by simp; try omega), World.cell?_setCell_other _ _ _ _ (by simp; try omega)]; assumption))))
    clear hK K hHeld16
    try simp only [Act.put, List.setIfInBounds_toArray, List.set_cons_zero, List.set_cons_succ]
    refine wpAnyH_ready (rs := [7]) (by kernel_rfl) (by simp) ?_
    refine (AllReadyH.cons (o := _) rfl (fun K hK => ?_) AllReadyH.nil)
    go_simp
    refine (copyBodies_any AW nW cW o.wait HB.out.1.waitN _ (HB.out.1.wait.below (B := w.heap.size) (by first | exact ((Below.refl _ _).drew).trans (H1.out.2.2.mono (by simp)) | exact (((Below.refl _ _).drew).trans (H1.out.2.2.mono (by simp))).alloc z1 _ | exact (((Below.refl _ _).alloc (Nat.le_refl _) _).drew).trans (H1.out.2.2.mono (by simp))) (by (try simp); omega)) (by have := HB.out.2.wait; have := HB.out.1.waitN; omega) (fun x hx => HB.out.2.body x hx)).mono ?_
    rintro e w2 ⟨A2, n2, c2, rfl, hn2, ho2, hb2⟩
    have z2 : w1.heap.size ≤ w2.heap.size := by (have h9 := hb2.size; (try simp at h9); omega)
    have zB2 : BX < w2.heap.size := by omega
    have k0 : w2.cell? ⟨BX, 0, none⟩ = some (.int .i64 o.next) := (hb2.cell (p := ⟨BX, 0, none⟩) (by (try simp); omega)).trans (by first | exact b0 | exact (World.cell?_alloc_lt _ _ _ zB).trans b0)
    have k1 : w2.cell? ⟨BX, 1, none⟩ = some (.slice AS nS cS) := (hb2.cell (p := ⟨BX, 1, none⟩) (by (try simp); omega)).trans (by first | exact b1 | exact (World.cell?_alloc_lt _ _ _ zB).trans b1)
    have k2 : w2.cell? ⟨BX, 2, none⟩ = some (.slice AW nW cW) := (hb2.cell (p := ⟨BX, 2, none⟩) (by (try simp); omega)).trans (by first | exact b2 | exact (World.cell?_alloc_lt _ _ _ zB).trans b2)
    have H2 := Lib.hid (And.intro hn2 (And.intro ho2 hb2))
    first
      | (have gE2 := Blk.below (w := (w1.alloc (.cells #[.int .i64 0, .slice none 0 0, .slice none 0 0] 35))) (g := w1.heap.size) (Blk.new w1 _ _ rfl) hb2 (by simp)
         have i0 := gE2.cell 0 (v := .int .i64 0) rfl; have i1 := gE2.cell 1 (v := .slice none 0 0) rfl; have i2 := gE2.cell 2 (v := .slice none 0 0) rfl
         have fE := gE2.frozen
         have zE : w1.heap.size < w2.heap.size := gE2.lt
         have HGE2 := Lib.hid gE2
         have F2 : True := trivial
         clear gE2)
      | (have gE2 := HGE.out.below hb2 zE
         clear i0 i1 i2 fE
         have zE2 : w.heap.size < w2.heap.size := by omega
         have i0 := gE2.cell 0 (v := .int .i64 0) rfl; have i1 := gE2.cell 1 (v := .slice none 0 0) rfl; have i2 := gE2.cell 2 (v := .slice none 0 0) rfl
         have fE := gE2.frozen
         have HGE2 := Lib.hid gE2
         clear gE2 HGE)
      | skip
    clear hn2 ho2 hb2 b0 b1 b2
    try dsimp only
    refine hK.out _ _ ?_ (fun hHeld18 => ?_)
    · (try dsimp only)
      (first | (with_reducible assumption) | (go_keep; done) | (refine ⟨?_, ?_, ?_⟩ <;> (first | (with_reducible assumption) | (simp [go_sem, *]; done) | (simp (disch := (simp; try omega)) [*, World.cell?_alloc_past, World.cell?_setCell_other]; done) | (rw [World.cell?_setCell_other _ _ _ _ (by simp; try omega), World.cell?_setCell_other _ _ _ _ (by simp; try omega), World.cell?_setCell_other _ _ _ _ (by simp; try omega)]; assumption))))
    clear hK K hHeld17
    try simp only [Act.put, List.setIfInBounds_toArray, List.set_cons_zero, List.set_cons_succ]
    refine wpAnyH_take (i := 8) (oi := _) (v := ?v19) rfl (by kernel_rfl) (by kernel_rfl) (by kernel_rfl) (fun _ _ _ h => h) (Or.inl ⟨by rfl, ?hy19⟩) (by with_reducible assumption) ?rest19
    case hy19 => (intro w hSw; (try dsimp only at hSw); go_simp; try with_reducible rfl)
    try simp only [Act.put, List.setIfInBounds_toArray, List.set_cons_zero, List.set_cons_succ]
    refine wpAnyH_ready (rs := [10]) (by kernel_rfl) (by simp) ?_
    refine (AllReadyH.cons (o := _) rfl (fun K hK => ?_) AllReadyH.nil)
    go_simp
    refine hK.out _ _ ?_ (fun hHeld20 => ?_)
    · (try dsimp only)
      (first | (with_reducible assumption) | (go_keep; done) | (refine ⟨?_, ?_, ?_⟩ <;> (first | (with_reducible assumption) | (simp [go_sem, *]; done) | (simp (disch := (simp; try omega)) [*, World.cell?_alloc_past, World.cell?_setCell_other]; done) | (rw [World.cell?_setCell_other _ _ _ _ (by simp; try omega), World.cell?_setCell_other _ _ _ _ (by simp; try omega), World.cell?_setCell_other _ _ _ _ (by simp; try omega)]; assumption))))
    clear hK K hHeld18
    try simp only [Act.put, List.setIfInBounds_toArray, List.set_cons_zero, List.set_cons_succ]
    refine wpAnyH_done (by kernel_rfl) ?_ _
    refine NoPanic.normal ?_
    clear hHeld20
    obtain rfl : n1 = nS := by rw [← H1.out.1]; exact HB.out.1.sentN
    obtain rfl : n2 = nW := by rw [← H2.out.1]; exact HB.out.1.waitN
    first
      | (clear F2
         exact HK.out _ _ _ _ _ _ _ _ _ w1.heap.size A1 c1 A2 c2 _ (((HGE2.out.set 0 _).set 1 _).set 2 _) (outcopy_fin (w := w) (E := w1.heap.size) H1.out.2.1 H2.out.2.1 (by simp) (by simp) (by simp; omega) (((Below.refl _ _).alloc (Nat.le_refl _) _).trans (H2.out.2.2.mono (by simp))) (by omega) (by simp) (fun k hk hne => (Below.heap_setCell _ ⟨_, 2, none⟩ _ k hne).trans ((Below.heap_setCell _ ⟨_, 1, none⟩ _ k hne).trans (Below.heap_setCell _ ⟨_, 0, none⟩ _ k hne))) (by simp [World.setCell])) z1 ((((((((Below.refl _ _).drew).trans H1.out.2.2).alloc z1 _).trans (H2.out.2.2.mono (by simp; omega))).setCell (p := ⟨w1.heap.size, 0, none⟩) z1 _).setCell (p := ⟨w1.heap.size, 1, none⟩) z1 _).setCell (p := ⟨w1.heap.size, 2, none⟩) z1 _))
      | (clear F1
         exact HK.out _ _ _ _ _ _ _ _ _ w.heap.size A1 c1 A2 c2 _ (((HGE2.out.set 0 _).set 1 _).set 2 _) (outcopy_fin (w := w) (E := w.heap.size) H1.out.2.1 H2.out.2.1 (by simp) (by simp) z1 H2.out.2.2 (by simp) (by omega) (fun k hk hne => (Below.heap_setCell _ ⟨_, 2, none⟩ _ k hne).trans ((Below.heap_setCell _ ⟨_, 1, none⟩ _ k hne).trans (Below.heap_setCell _ ⟨_, 0, none⟩ _ k hne))) (by simp [World.setCell])) (Nat.le_refl _) ((((((((Below.refl _ _).alloc (Nat.le_refl _) _).drew).trans (H1.out.2.2.mono (by simp))).trans (H2.out.2.2.mono z1)).setCell (p := ⟨w.heap.size, 0, none⟩) (Nat.le_refl _) _).setCell (p := ⟨w.heap.size, 1, none⟩) (Nat.le_refl _) _).setCell (p := ⟨w.heap.size, 2, none⟩) (Nat.le_refl _) _))
      | exact HK.out _ _ _ _ _ _ _ _ _ w2.heap.size A1 c1 A2 c2 _ (Blk.new _ _ _ rfl) (outcopy_fin (w := w) (E := w2.heap.size) H1.out.2.1 H2.out.2.1 (by simp) (Nat.le_refl _) z1 H2.out.2.2 (.inr z2) (.inr (Nat.le_refl _)) (fun k hk _ => Below.heap_alloc _ _ k hk) (by simp)) (by omega) (((((Below.refl _ _).drew).trans H1.out.2.2).trans (H2.out.2.2.mono z1)).alloc (by show w.heap.size ≤ w2.heap.size; omega) _)
end Go.Proofs.Ytalieakmjkmbbaa
