/-
  The reference's Take: the regions that draw their order, its main loop.
-/
import Derived.Test.YtalieakmjkmbbaaRTakeA
namespace Go.Proofs.Ytalieakmjkmbbaa
open Go.RowKit Go.Sort Go.Maps
set_option linter.unusedVariables false
attribute [local go_sem ↓] Go.wp_at_zero Go.wp_at_succ

theorem Own.cells {α : Type} {R : Rdr α} {w : World} {B : Nat} {e : TypeId} {S : Nat → Prop} {A : Option Addr} {n c : Nat} {xs : List α} (h : Own R w B e S (.slice A n c) xs) : ∃ cells, Elems R w S xs cells ∧ CellsAt w A cells := by
  obtain ⟨cells, ⟨hl, h1⟩, he⟩ := h
  refine ⟨cells, he, ?_⟩
  rcases h1 with ⟨hv, hn⟩ | ⟨g, cap, cur, hv, hb, hh, hle, hm, hsz, htake⟩
  · have : cells = [] := List.eq_nil_of_length_eq_zero (by rw [hl, hn]; simp)
    rw [this]; exact CellsAt.nil _ _
  · injection hv with e1 e2 e3
    subst e1
    have hblk : Blk w g e cur := hh
    intro j u hj
    refine ⟨g, 0, rfl, ?_⟩
    rw [Nat.zero_add]
    rw [← htake, List.getElem?_take] at hj
    split at hj
    · exact hblk.cell _ (by simpa using hj)
    · cases hj
theorem Elems.drop {α : Type} {R : Rdr α} {w : World} {S : Nat → Prop} {xs : List α} {cells : List Value} (h : Elems R w S xs cells) (n : Nat) : Elems R w S (xs.drop n) (cells.drop (n * R.size)) := by
  refine ⟨by rw [List.length_drop, List.length_drop, h.1, Nat.sub_mul], fun i x hx => ?_⟩
  rw [List.getElem?_drop] at hx
  obtain ⟨cs, hr, hc⟩ := h.2 _ x hx
  refine ⟨cs, hr, fun j v hj => ?_⟩
  rw [List.getElem?_drop]
  have := hc j v hj
  rw [Nat.add_mul, Nat.add_assoc] at this
  exact this
theorem CellsAt.drop {w : World} {g : Nat} {cells : List Value} (h : CellsAt w (some ⟨g, 0, none⟩) cells) (k : Nat) : CellsAt w (some ⟨g, k, none⟩) (cells.drop k) := by
  intro j u hj
  rw [List.getElem?_drop] at hj
  obtain ⟨b, off, e, hc⟩ := h _ u hj
  injection e with e; injection e with e1 e2
  subst e1 e2
  exact ⟨_, k, rfl, by rw [Nat.zero_add] at hc; exact hc⟩
theorem CellsAt.take {w : World} {A : Option Addr} {cells : List Value} (h : CellsAt w A cells) (k : Nat) : CellsAt w A (cells.take k) := by
  intro j u hj
  rw [List.getElem?_take] at hj
  split at hj
  · exact h j u hj
  · cases hj
/-- What lies behind place p. -/
theorem cells_from {w : World} {g : Nat} {cells : List Value} (h : CellsAt w (some ⟨g, 0, none⟩) cells) (p N c : Nat) (A' : Option Addr) (hA : (if c = p + 1 then some ⟨g, 0, none⟩ else some ⟨g, (p + 1) * 3, none⟩) = A') (hl : cells.length = N * 3) (hN : N ≤ c) : CellsAt w A' (cells.drop ((p + 1) * 3)) := by
  rw [← hA]
  split
  · rw [List.drop_of_length_le (by rw [hl]; omega)]; exact CellsAt.nil _ _
  · exact h.drop _

noncomputable def rt_r1_code : Code := regionOf Try.f11 1
set_option maxRecDepth 100000 in
set_option maxHeartbeats 2000000 in
theorem rt_r1 {Q : Exit → Act → World → Prop} {s0 s1 s2 s3 s5 s6 s7 s8 s9 s10 s11 s12 s13 s14 s15 s16 s17 s18 s19 s20 s21 s22 s23 s24 s25 s26 s27 s28 s29 s30 s31 s32 s33 s34 s35 s36 s37 s38 s39 s40 s41 s42 s43 s44 s45 s46 s47 s48 s49 s50 s51 s52 s53 s54 s55 s56 s57 s58 s59 s60 s61 s62 s63 s64 s65 s66 s67 s68 s69 s70 s71 s72 s73 s74 s75 s76 s77 s78 s79 s80 s81 s82 s83 s84 s85 s86 s87 s88 s89 s90 s91 s92 s93 s94 s95 s96 s97 s98 s99 s100 s101 s102 s103 s104 s105 s106 s107 s108 s109 s110 s111 s112 s113 : Value} (w : World) (W BX : Nat) (e : Int) (A : Option Addr) (n c : Nat) (xs : List It) (hx : Sl Rit w (lo W) A xs) (hn : xs.length = n) (hW : W ≤ w.heap.size) (hz : n ≤ 3518437208883) (hB : BX < w.heap.size)
    (h0 : w.cell? ⟨BX, 0, none⟩ = some (.int .i64 e)) (h1 : w.cell? ⟨BX, 1, none⟩ = some (.slice A n c))
    (hK : ∀ (d19 d20 d21 d22 d23 d24 : Value) (H : Nat) (A1 : Option Addr) (c1 : Nat) (w' : World), Blk w' H 24 #[.int .i64 e, .slice A1 n c1] → Own Rit w' w.heap.size 38 (lo W) (.slice A1 n c1) xs → (Value.slice A1 n c1).ownBlock ≠ some H → w.heap.size ≤ H → Below w.heap.size w w' →
      Q .normal ⟨#[s0, s1, s2, s3, .pointer (some ⟨BX, 0, none⟩), s5, s6, s7, s8, s9, s10, .pointer (some ⟨H, 0, none⟩), s12, s13, s14, s15, s16, s17, s18, d19, d20, d21, d22, d23, d24, s25, s26, s27, s28, s29, s30, s31, s32, s33, s34, s35, s36, s37, s38, s39, s40, s41, s42, s43, s44, s45, s46, s47, s48, s49, s50, s51, s52, s53, s54, s55, s56, s57, s58, s59, s60, s61, s62, s63, s64, s65, s66, s67, s68, s69, s70, s71, s72, s73, s74, s75, s76, s77, s78, s79, s80, s81, s82, s83, s84, s85, s86, s87, s88, s89, s90, s91, s92, s93, s94, s95, s96, s97, s98, s99, s100, s101, s102, s103, s104, s105, s106, s107, s108, s109, s110, s111, s112, s113], []⟩ w') :
    Code.wp Try.prog rt_r1_code Q ⟨#[s0, s1, s2, s3, .pointer (some ⟨BX, 0, none⟩), s5, s6, s7, s8, s9, s10, s11, s12, s13, s14, s15, s16, s17, s18, s19, s20, s21, s22, s23, s24, s25, s26, s27, s28, s29, s30, s31, s32, s33, s34, s35, s36, s37, s38, s39, s40, s41, s42, s43, s44, s45, s46, s47, s48, s49, s50, s51, s52, s53, s54, s55, s56, s57, s58, s59, s60, s61, s62, s63, s64, s65, s66, s67, s68, s69, s70, s71, s72, s73, s74, s75, s76, s77, s78, s79, s80, s81, s82, s83, s84, s85, s86, s87, s88, s89, s90, s91, s92, s93, s94, s95, s96, s97, s98, s99, s100, s101, s102, s103, s104, s105, s106, s107, s108, s109, s110, s111, s112, s113], []⟩ w := by
  have HK := Lib.hid hK; clear hK
  obtain ⟨cells, hel, hce⟩ := hx.inRow
  have HB := Lib.hid (And.intro hel (And.intro hce hn)); clear hel hce hx hn
  conv => arg 2; whnf
  refine wp_region_noPanic ?_
  refine wp_region_held_drew (S := (fun w' => w'.cell? ⟨BX, 0, none⟩ = some (.int .i64 e) ∧ w'.cell? ⟨BX, 1, none⟩ = some (.slice A n c))) (by kernel_rfl) ?_ (fun hHeld0 => ?_)
  · (try dsimp only)
    (first | (with_reducible assumption) | (go_keep; done) | (refine ⟨?_, ?_⟩ <;> (first | (with_reducible assumption) | (simp [go_sem, *]; done) | (simp (disch := (simp; try omega)) [*, World.cell?_alloc_past, World.cell?_setCell_other]; done) | (rw [World.cell?_setCell_other _ _ _ _ (by simp; try omega), World.cell?_setCell_other _ _ _ _ (by simp; try omega)]; assumption))))
  refine wpAnyH_take (i := 0) (oi := _) (v := ?v1) rfl (by kernel_rfl) (by kernel_rfl) (by kernel_rfl) (fun _ _ _ h => h) (Or.inl ⟨by rfl, ?hy1⟩) (by with_reducible assumption) ?rest1
  case hy1 => (intro w hSw; (try dsimp only at hSw); go_simp; try with_reducible rfl)
  try simp only [Act.put, List.setIfInBounds_toArray, List.set_cons_zero, List.set_cons_succ]
  refine wpAnyH_take (i := 1) (oi := _) (v := ?v2) rfl (by kernel_rfl) (by kernel_rfl) (by kernel_rfl) (fun _ _ _ h => h) (Or.inl ⟨by rfl, ?hy2⟩) (by with_reducible assumption) ?rest2
  case hy2 => (intro w hSw; (try dsimp only at hSw); go_simp; try with_reducible rfl)
  try simp only [Act.put, List.setIfInBounds_toArray, List.set_cons_zero, List.set_cons_succ]
  refine wpAnyH_take (i := 2) (oi := _) (v := ?v3) rfl (by kernel_rfl) (by kernel_rfl) (by kernel_rfl) (fun _ _ _ h => h) (Or.inl ⟨by rfl, ?hy3⟩) (by with_reducible assumption) ?rest3
  case hy3 => (intro w hSw; (try dsimp only at hSw); go_simp; try with_reducible rfl)
  try simp only [Act.put, List.setIfInBounds_toArray, List.set_cons_zero, List.set_cons_succ]
  refine wpAnyH_take (i := 3) (oi := _) (v := ?v4) rfl (by kernel_rfl) (by kernel_rfl) (by kernel_rfl) (fun _ _ _ h => h) (Or.inl ⟨by rfl, ?hy4⟩) (by with_reducible assumption) ?rest4
  case hy4 => (intro w hSw; (try dsimp only at hSw); go_simp; try with_reducible rfl)
  try simp only [Act.put, List.setIfInBounds_toArray, List.set_cons_zero, List.set_cons_succ]
  refine wpAnyH_ready (rs := [4, 6]) (by kernel_rfl) (by simp) ?_
  refine (AllReadyH.cons (o := _) rfl (fun K hK => ?_) (AllReadyH.cons (o := _) rfl (fun K hK => ?_) AllReadyH.nil))
  · skip
    refine step_append_own' rfl (.const (.slice none 0 0)) (.tmp 22) 22 rfl ei_items (R := Rit) (S := lo W) (base := w.heap.size) (.slice none 0 0) (by rfl) (Own.nil _ _ _ _ _) (fun b hb => ⟨by have : b < W := hb; (try simp); omega, by simp [Value.ownBlock]⟩) A n c (ys := xs) (by rfl) HB.out.2.2 (HB.out.2.1.up (by first | exact (Below.refl _ _).drew | exact ((Below.refl _ _).alloc (Nat.le_refl _) _).drew)) (HB.out.1.keep (fun p hp => Below.cell (B := w.heap.size) (by first | exact (Below.refl _ _).drew | exact ((Below.refl _ _).alloc (Nat.le_refl _) _).drew) (by have : p.block < W := hp; omega)) (fun _ h => h)) (by rw [List.length_nil, Nat.zero_add]; exact lim40 hz) (by simp [maxLen]; omega) (by simp) ?_
    intro v' w1 hox hg1 hat1
    rw [List.nil_append] at hox
    obtain ⟨A1, c1, rfl⟩ := hox.form
    rw [HB.out.2.2] at hox hat1 ⊢
    have hbb : RowKit.Below w.heap.size w w1 := by
      first
        | exact ((Below.refl w.heap.size w).drew).grown hg1 (by simp) (fun g hg => by cases hg)
        | exact (((Below.refl w.heap.size w).alloc (Nat.le_refl _) _).drew).grown hg1 (by simp) (fun g hg => by cases hg)
    have b0 : w1.cell? ⟨BX, 0, none⟩ = some (.int .i64 e) := (hbb.cell (p := ⟨BX, 0, none⟩) hB).trans h0
    have b1 : w1.cell? ⟨BX, 1, none⟩ = some (.slice A n c) := (hbb.cell (p := ⟨BX, 1, none⟩) hB).trans h1
    have zz := hbb.size
    try (have gE := Blk.grown (w := (w.alloc (.cells #[.int .i64 0, .slice none 0 0] 24)).drew) (g := w.heap.size) (Blk.new w _ _ rfl) hg1 (by simp [Value.ownBlock])
         have i0 := gE.cell 0 (v := .int .i64 0) rfl; have i1 := gE.cell 1 (v := .slice none 0 0) rfl
         have fE := gE.frozen
         have zE : w.heap.size < w1.heap.size := gE.lt
         have HGE := Lib.hid gE
         clear gE)
    have H1 := Lib.hid (And.intro hox (And.intro hbb (show (Value.slice A1 n c1).ownBlock = none ∨ _ from hat1)))
    clear hox hg1 hat1 hbb
    refine hK.out _ _ ?_ (fun hHeld5 => ?_)
    · (try dsimp only)
      (first | (with_reducible assumption) | (go_keep; done) | (refine ⟨?_, ?_⟩ <;> (first | (with_reducible assumption) | (simp [go_sem, *]; done) | (simp (disch := (simp; try omega)) [*, World.cell?_alloc_past, World.cell?_setCell_other]; done) | (rw [World.cell?_setCell_other _ _ _ _ (by simp; try omega), World.cell?_setCell_other _ _ _ _ (by simp; try omega)]; assumption))))
    clear hK K hHeld0
    try simp only [Act.put, List.setIfInBounds_toArray, List.set_cons_zero, List.set_cons_succ]
    refine wpAnyH_take (i := 5) (oi := _) (v := ?v6) rfl (by kernel_rfl) (by kernel_rfl) (by kernel_rfl) (fun _ _ _ h => h) (Or.inl ⟨by rfl, ?hy6⟩) (by with_reducible assumption) ?rest6
    case hy6 => (intro w hSw; (try dsimp only at hSw); go_simp; try with_reducible rfl)
    try simp only [Act.put, List.setIfInBounds_toArray, List.set_cons_zero, List.set_cons_succ]
    refine wpAnyH_ready (rs := [6]) (by kernel_rfl) (by simp) ?_
    refine (AllReadyH.cons (o := _) rfl (fun K hK => ?_) AllReadyH.nil)
    go_simp
    refine hK.out _ _ ?_ (fun hHeld7 => ?_)
    · (try dsimp only)
      (first | (with_reducible assumption) | (go_keep; done) | (refine ⟨?_, ?_⟩ <;> (first | (with_reducible assumption) | (simp [go_sem, *]; done) | (simp (disch := (simp; try omega)) [*, World.cell?_alloc_past, World.cell?_setCell_other]; done) | (rw [World.cell?_setCell_other _ _ _ _ (by simp; try omega), World.cell?_setCell_other _ _ _ _ (by simp; try omega)]; assumption))))
    clear hK K hHeld5
    try simp only [Act.put, List.setIfInBounds_toArray, List.set_cons_zero, List.set_cons_succ]
    refine wpAnyH_ready (rs := [7]) (by kernel_rfl) (by simp) ?_
    refine (AllReadyH.cons (o := _) rfl (fun K hK => ?_) AllReadyH.nil)
    go_simp
    refine hK.out _ _ ?_ (fun hHeld8 => ?_)
    · (try dsimp only)
      (first | (with_reducible assumption) | (go_keep; done) | (refine ⟨?_, ?_⟩ <;> (first | (with_reducible assumption) | (simp [go_sem, *]; done) | (simp (disch := (simp; try omega)) [*, World.cell?_alloc_past, World.cell?_setCell_other]; done) | (rw [World.cell?_setCell_other _ _ _ _ (by simp; try omega), World.cell?_setCell_other _ _ _ _ (by simp; try omega)]; assumption))))
    clear hK K hHeld7
    try simp only [Act.put, List.setIfInBounds_toArray, List.set_cons_zero, List.set_cons_succ]
    refine wpAnyH_done (by kernel_rfl) ?_ _
    refine NoPanic.normal ?_
    clear hHeld8
    first
      | exact HK.out _ _ _ _ _ _ w.heap.size A1 c1 _ ((HGE.out.set 0 _).set 1 _) ((H1.out.1.keep (fun g hg => (Below.heap_setCell _ ⟨_, 1, none⟩ _ g (by rcases H1.out.2.2 with h9 | h9 <;> rw [h9] at hg <;> simp at hg <;> show g ≠ w.heap.size <;> omega)).trans (Below.heap_setCell _ ⟨_, 0, none⟩ _ g (by rcases H1.out.2.2 with h9 | h9 <;> rw [h9] at hg <;> simp at hg <;> show g ≠ w.heap.size <;> omega))) (fun p hp => (World.cell?_setCell_other _ _ _ _ (fun e9 => by have h8 := congrArg Addr.block e9; have h9 : p.block < W := hp; simp at h8; omega)).trans (World.cell?_setCell_other _ _ _ _ (fun e9 => by have h8 := congrArg Addr.block e9; have h9 : p.block < W := hp; simp at h8; omega))) (fun _ h => h))) (by rcases H1.out.2.2 with h9 | h9 <;> rw [h9] <;> simp) (Nat.le_refl _) ((H1.out.2.1.setCell (p := ⟨w.heap.size, 0, none⟩) (Nat.le_refl _) _).setCell (p := ⟨w.heap.size, 1, none⟩) (Nat.le_refl _) _)
      | exact HK.out _ _ _ _ _ _ w1.heap.size A1 c1 _ (Blk.new _ _ _ rfl) (H1.out.1.alloc (fun b hb => by have : b < W := hb; omega) _) (fun e9 => by have := (H1.out.1.lt e9).2; omega) zz (H1.out.2.1.alloc zz _)
  · skip
    go_simp
    refine hK.out _ _ ?_ (fun hHeld9 => ?_)
    · (try dsimp only)
      (first | (with_reducible assumption) | (go_keep; done) | (refine ⟨?_, ?_⟩ <;> (first | (with_reducible assumption) | (simp [go_sem, *]; done) | (simp (disch := (simp; try omega)) [*, World.cell?_alloc_past, World.cell?_setCell_other]; done) | (rw [World.cell?_setCell_other _ _ _ _ (by simp; try omega), World.cell?_setCell_other _ _ _ _ (by simp; try omega)]; assumption))))
    clear hK K hHeld0
    try simp only [Act.put, List.setIfInBounds_toArray, List.set_cons_zero, List.set_cons_succ]
    refine wpAnyH_ready (rs := [4]) (by kernel_rfl) (by simp) ?_
    refine (AllReadyH.cons (o := _) rfl (fun K hK => ?_) AllReadyH.nil)
    refine step_append_own' rfl (.const (.slice none 0 0)) (.tmp 22) 22 rfl ei_items (R := Rit) (S := lo W) (base := w.heap.size) (.slice none 0 0) (by rfl) (Own.nil _ _ _ _ _) (fun b hb => ⟨by have : b < W := hb; (try simp); omega, by simp [Value.ownBlock]⟩) A n c (ys := xs) (by rfl) HB.out.2.2 (HB.out.2.1.up (by first | exact (Below.refl _ _).drew | exact ((Below.refl _ _).alloc (Nat.le_refl _) _).drew)) (HB.out.1.keep (fun p hp => Below.cell (B := w.heap.size) (by first | exact (Below.refl _ _).drew | exact ((Below.refl _ _).alloc (Nat.le_refl _) _).drew) (by have : p.block < W := hp; omega)) (fun _ h => h)) (by rw [List.length_nil, Nat.zero_add]; exact lim40 hz) (by simp [maxLen]; omega) (by simp) ?_
    intro v' w1 hox hg1 hat1
    rw [List.nil_append] at hox
    obtain ⟨A1, c1, rfl⟩ := hox.form
    rw [HB.out.2.2] at hox hat1 ⊢
    have hbb : RowKit.Below w.heap.size w w1 := by
      first
        | exact ((Below.refl w.heap.size w).drew).grown hg1 (by simp) (fun g hg => by cases hg)
        | exact (((Below.refl w.heap.size w).alloc (Nat.le_refl _) _).drew).grown hg1 (by simp) (fun g hg => by cases hg)
    have b0 : w1.cell? ⟨BX, 0, none⟩ = some (.int .i64 e) := (hbb.cell (p := ⟨BX, 0, none⟩) hB).trans h0
    have b1 : w1.cell? ⟨BX, 1, none⟩ = some (.slice A n c) := (hbb.cell (p := ⟨BX, 1, none⟩) hB).trans h1
    have zz := hbb.size
    try (have gE := Blk.grown (w := (w.alloc (.cells #[.int .i64 0, .slice none 0 0] 24)).drew) (g := w.heap.size) (Blk.new w _ _ rfl) hg1 (by simp [Value.ownBlock])
         have i0 := gE.cell 0 (v := .int .i64 0) rfl; have i1 := gE.cell 1 (v := .slice none 0 0) rfl
         have fE := gE.frozen
         have zE : w.heap.size < w1.heap.size := gE.lt
         have HGE := Lib.hid gE
         clear gE)
    have H1 := Lib.hid (And.intro hox (And.intro hbb (show (Value.slice A1 n c1).ownBlock = none ∨ _ from hat1)))
    clear hox hg1 hat1 hbb
    refine hK.out _ _ ?_ (fun hHeld10 => ?_)
    · (try dsimp only)
      (first | (with_reducible assumption) | (go_keep; done) | (refine ⟨?_, ?_⟩ <;> (first | (with_reducible assumption) | (simp [go_sem, *]; done) | (simp (disch := (simp; try omega)) [*, World.cell?_alloc_past, World.cell?_setCell_other]; done) | (rw [World.cell?_setCell_other _ _ _ _ (by simp; try omega), World.cell?_setCell_other _ _ _ _ (by simp; try omega)]; assumption))))
    clear hK K hHeld9
    try simp only [Act.put, List.setIfInBounds_toArray, List.set_cons_zero, List.set_cons_succ]
    refine wpAnyH_take (i := 5) (oi := _) (v := ?v11) rfl (by kernel_rfl) (by kernel_rfl) (by kernel_rfl) (fun _ _ _ h => h) (Or.inl ⟨by rfl, ?hy11⟩) (by with_reducible assumption) ?rest11
    case hy11 => (intro w hSw; (try dsimp only at hSw); go_simp; try with_reducible rfl)
    try simp only [Act.put, List.setIfInBounds_toArray, List.set_cons_zero, List.set_cons_succ]
    refine wpAnyH_ready (rs := [7]) (by kernel_rfl) (by simp) ?_
    refine (AllReadyH.cons (o := _) rfl (fun K hK => ?_) AllReadyH.nil)
    go_simp
    refine hK.out _ _ ?_ (fun hHeld12 => ?_)
    · (try dsimp only)
      (first | (with_reducible assumption) | (go_keep; done) | (refine ⟨?_, ?_⟩ <;> (first | (with_reducible assumption) | (simp [go_sem, *]; done) | (simp (disch := (simp; try omega)) [*, World.cell?_alloc_past, World.cell?_setCell_other]; done) | (rw [World.cell?_setCell_other _ _ _ _ (by simp; try omega), World.cell?_setCell_other _ _ _ _ (by simp; try omega)]; assumption))))
    clear hK K hHeld10
    try simp only [Act.put, List.setIfInBounds_toArray, List.set_cons_zero, List.set_cons_succ]
    refine wpAnyH_done (by kernel_rfl) ?_ _
    refine NoPanic.normal ?_
    clear hHeld12
    first
      | exact HK.out _ _ _ _ _ _ w.heap.size A1 c1 _ ((HGE.out.set 0 _).set 1 _) ((H1.out.1.keep (fun g hg => (Below.heap_setCell _ ⟨_, 1, none⟩ _ g (by rcases H1.out.2.2 with h9 | h9 <;> rw [h9] at hg <;> simp at hg <;> show g ≠ w.heap.size <;> omega)).trans (Below.heap_setCell _ ⟨_, 0, none⟩ _ g (by rcases H1.out.2.2 with h9 | h9 <;> rw [h9] at hg <;> simp at hg <;> show g ≠ w.heap.size <;> omega))) (fun p hp => (World.cell?_setCell_other _ _ _ _ (fun e9 => by have h8 := congrArg Addr.block e9; have h9 : p.block < W := hp; simp at h8; omega)).trans (World.cell?_setCell_other _ _ _ _ (fun e9 => by have h8 := congrArg Addr.block e9; have h9 : p.block < W := hp; simp at h8; omega))) (fun _ h => h))) (by rcases H1.out.2.2 with h9 | h9 <;> rw [h9] <;> simp) (Nat.le_refl _) ((H1.out.2.1.setCell (p := ⟨w.heap.size, 0, none⟩) (Nat.le_refl _) _).setCell (p := ⟨w.heap.size, 1, none⟩) (Nat.le_refl _) _)
      | exact HK.out _ _ _ _ _ _ w1.heap.size A1 c1 _ (Blk.new _ _ _ rfl) (H1.out.1.alloc (fun b hb => by have : b < W := hb; omega) _) (fun e9 => by have := (H1.out.1.lt e9).2; omega) zz (H1.out.2.1.alloc zz _)
noncomputable def rt_r19_code : Code := regionOf Try.f11 19
set_option maxRecDepth 100000 in
set_option maxHeartbeats 2000000 in
theorem rt_r19 {Q : Exit → Act → World → Prop} {s0 s1 s2 s3 s4 s5 s6 s7 s9 s10 s12 s13 s14 s16 s17 s18 s19 s20 s21 s22 s23 s24 s25 s26 s27 s28 s29 s30 s31 s32 s33 s34 s35 s36 s37 s38 s39 s40 s41 s42 s43 s44 s45 s46 s47 s48 s49 s50 s51 s52 s53 s54 s55 s56 s57 s58 s59 s60 s61 s62 s63 s64 s65 s66 s67 s68 s69 s70 s71 s72 s73 s74 s75 s76 s77 s78 s79 s80 s81 s82 s83 s84 s85 s86 s87 s88 s89 s90 s91 s92 s93 s94 s95 s96 s97 s98 s99 s100 s101 s102 s103 s104 s105 s106 s107 s108 s109 s110 s111 s112 s113 : Value} (w : World) (B H E : Nat) (e : Int) (A : Option Addr) (n c : Nat) (vT : Value) (hE : Blk w E 24 #[.int .i64 e, .slice A n c]) (hH : Blk w H 24 #[.int .i64 0, .slice none 0 0]) (hBH : B ≤ H) (hEH : E ≠ H)
    (hK : ∀ (d85 d86 d87 d88 : Value) (w' : World), Blk w' H 24 #[.int .i64 e, .slice A n c] → (∀ k, k < w.heap.size → k ≠ H → w'.heap[k]? = w.heap[k]?) → Below B w w' → Q .normal ⟨#[s0, s1, s2, s3, s4, s5, s6, s7, .pointer (some ⟨H, 0, none⟩), vT, .int .i64 e, .pointer (some ⟨E, 0, none⟩), s12, s13, s14, vT, s16, s17, s18, s19, s20, s21, s22, s23, s24, s25, s26, s27, s28, s29, s30, s31, s32, s33, s34, s35, s36, s37, s38, s39, s40, s41, s42, s43, s44, s45, s46, s47, s48, s49, s50, s51, s52, s53, s54, s55, s56, s57, s58, s59, s60, s61, s62, s63, s64, s65, s66, s67, s68, s69, s70, s71, s72, s73, s74, s75, s76, s77, s78, s79, s80, s81, s82, s83, s84, d85, d86, d87, d88, s89, s90, s91, s92, s93, s94, s95, s96, s97, s98, s99, s100, s101, s102, s103, s104, s105, s106, s107, s108, s109, s110, s111, s112, s113], []⟩ w') :
    Code.wp Try.prog rt_r19_code Q ⟨#[s0, s1, s2, s3, s4, s5, s6, s7, .pointer (some ⟨H, 0, none⟩), s9, s10, .pointer (some ⟨E, 0, none⟩), s12, s13, s14, vT, s16, s17, s18, s19, s20, s21, s22, s23, s24, s25, s26, s27, s28, s29, s30, s31, s32, s33, s34, s35, s36, s37, s38, s39, s40, s41, s42, s43, s44, s45, s46, s47, s48, s49, s50, s51, s52, s53, s54, s55, s56, s57, s58, s59, s60, s61, s62, s63, s64, s65, s66, s67, s68, s69, s70, s71, s72, s73, s74, s75, s76, s77, s78, s79, s80, s81, s82, s83, s84, s85, s86, s87, s88, s89, s90, s91, s92, s93, s94, s95, s96, s97, s98, s99, s100, s101, s102, s103, s104, s105, s106, s107, s108, s109, s110, s111, s112, s113], []⟩ w := by
  have HK := Lib.hid hK; clear hK
  have HB := Lib.hid (And.intro hE hH)
  have e0 := hE.cell 0 (v := .int .i64 e) rfl; have e1 := hE.cell 1 (v := .slice A n c) rfl
  have h0 := hH.cell 0 (v := .int .i64 0) rfl; have h1 := hH.cell 1 (v := .slice none 0 0) rfl; have fH := hH.frozen
  have lE := hE.lt; have lH := hH.lt
  clear hE hH
  conv => arg 2; whnf
  refine wp_region_noPanic ?_
  go_region
  all_goals refine NoPanic.normal ?_
  all_goals exact HK.out _ _ _ _ _ ((HB.out.2.set 0 _).set 1 _) (fun k hk hne => (Below.heap_setCell (w.setCell ⟨H, 0, none⟩ (.int .i64 e)) ⟨H, 1, none⟩ _ k hne).trans (Below.heap_setCell _ ⟨H, 0, none⟩ _ k hne)) ((((Below.refl B w).setCell (p := ⟨H, 0, none⟩) hBH _).setCell (p := ⟨H, 1, none⟩) hBH _).drew)
noncomputable def rt_r21_code : Code := regionOf Try.f11 21
set_option maxRecDepth 100000 in
set_option maxHeartbeats 2000000 in
theorem rt_r21 {Q : Exit → Act → World → Prop} {s0 s1 s2 s3 s4 s5 s6 s7 s8 s9 s10 s12 s13 s14 s15 s17 s18 s19 s20 s21 s22 s23 s24 s25 s26 s27 s28 s29 s30 s31 s32 s33 s34 s35 s36 s37 s38 s39 s40 s41 s42 s43 s44 s45 s46 s47 s48 s49 s50 s51 s52 s53 s54 s55 s56 s57 s58 s59 s60 s61 s62 s63 s64 s65 s66 s67 s68 s69 s70 s71 s72 s73 s74 s75 s76 s77 s78 s79 s80 s81 s82 s83 s84 s85 s86 s87 s88 s89 s90 s91 s92 s93 s94 s95 s96 s97 s98 s99 s100 s101 s102 s103 s104 s105 s106 s107 s108 s109 s110 s111 s112 s113 : Value} (w : World) (V W H g p N c : Nat) (e : Int) (cur : List It) (hH : Blk w H 24 #[.int .i64 e, .slice (some ⟨g, 0, none⟩) N c]) (ho : Own Rit w W 38 (lo V) (.slice (some ⟨g, 0, none⟩) N c) cur) (hN : cur.length = N) (hp : p < N) (hc : N ≤ c) (hgH : g ≠ H) (hW : W ≤ H) (hVW : V ≤ W) (hz : N ≤ 3518437208883)
    (hK : ∀ (d98 d99 d100 d101 d102 d103 d104 d105 d106 d107 d108 d109 : Value) (A2 : Option Addr) (c2 : Nat) (w' : World), Blk w' H 24 #[.int .i64 e, .slice A2 (N - 1) c2] → Own Rit w' W 38 (lo V) (.slice A2 (N - 1) c2) (cur.take p ++ cur.drop (p + 1)) → (∀ k, (Value.slice A2 (N - 1) c2).ownBlock = some k → w.heap.size ≤ k) → (∀ k, k < w.heap.size → k ≠ H → w'.heap[k]? = w.heap[k]?) → Below W w w' →
      Q .normal ⟨#[s0, s1, s2, s3, s4, s5, s6, s7, s8, s9, s10, .pointer (some ⟨H, 0, none⟩), s12, s13, s14, s15, .int .i64 p, s17, s18, s19, s20, s21, s22, s23, s24, s25, s26, s27, s28, s29, s30, s31, s32, s33, s34, s35, s36, s37, s38, s39, s40, s41, s42, s43, s44, s45, s46, s47, s48, s49, s50, s51, s52, s53, s54, s55, s56, s57, s58, s59, s60, s61, s62, s63, s64, s65, s66, s67, s68, s69, s70, s71, s72, s73, s74, s75, s76, s77, s78, s79, s80, s81, s82, s83, s84, s85, s86, s87, s88, s89, s90, s91, s92, s93, s94, s95, s96, s97, d98, d99, d100, d101, d102, d103, d104, d105, d106, d107, d108, d109, s110, s111, s112, s113], []⟩ w') :
    Code.wp Try.prog rt_r21_code Q ⟨#[s0, s1, s2, s3, s4, s5, s6, s7, s8, s9, s10, .pointer (some ⟨H, 0, none⟩), s12, s13, s14, s15, .int .i64 p, s17, s18, s19, s20, s21, s22, s23, s24, s25, s26, s27, s28, s29, s30, s31, s32, s33, s34, s35, s36, s37, s38, s39, s40, s41, s42, s43, s44, s45, s46, s47, s48, s49, s50, s51, s52, s53, s54, s55, s56, s57, s58, s59, s60, s61, s62, s63, s64, s65, s66, s67, s68, s69, s70, s71, s72, s73, s74, s75, s76, s77, s78, s79, s80, s81, s82, s83, s84, s85, s86, s87, s88, s89, s90, s91, s92, s93, s94, s95, s96, s97, s98, s99, s100, s101, s102, s103, s104, s105, s106, s107, s108, s109, s110, s111, s112, s113], []⟩ w := by
  have HK := Lib.hid hK; clear hK
  obtain ⟨cells, hel, hce⟩ := ho.cells
  obtain ⟨A', hA'⟩ : ∃ A' : Option Addr, (if c = p + 1 then some (⟨g, 0, none⟩ : Addr) else some ⟨g, (p + 1) * 3, none⟩) = A' := ⟨_, rfl⟩
  obtain ⟨m2, hm2⟩ : ∃ m2, N - (p + 1) = m2 := ⟨_, rfl⟩
  have hcl : cells.length = N * 3 := by rw [← hN]; exact hel.1
  have hlt := hH.lt
  have c1 := hH.cell 1 (v := .slice (some ⟨g, 0, none⟩) N c) rfl
  have fH := hH.frozen
  have hWl : W ≤ w.heap.size := by omega
  have hVl : V ≤ w.heap.size := by omega
  have t1 : (cur.take p).length = p := by rw [List.length_take]; omega
  have t2 : (cur.drop (p + 1)).length = m2 := by rw [List.length_drop]; omega
  have HB := Lib.hid (And.intro (hel.take p) (And.intro (hce.take (p * 3)) (And.intro (hel.drop (p + 1)) (And.intro (cells_from hce p N c A' hA' hcl hc) (And.intro t1 (And.intro t2 hH))))))
  have hp1 : IntKind.i64.wrap ((p : Int) + 1) = ((p + 1 : Nat) : Int) := by
    rw [IntKind.wrap_i64]; push_cast; omega
  have hq0 : (0 : Int) ≤ (p : Int) + 1 := by omega
  have hq1 : (p : Int) + 1 ≤ (N : Int) := by omega
  have hpc : p ≤ c := by omega
  conv => arg 2; whnf
  refine wp_region_noPanic ?_
  refine wp_region_held_drew (S := (fun w' => H < w'.heap.size)) (by kernel_rfl) ?_ (fun hHeld0 => ?_)
  · (try dsimp only)
    (first | (with_reducible assumption) | (go_keep; done) | omega | (simp; omega))
  refine wpAnyH_take (i := 0) (oi := _) (v := ?v1) rfl (by kernel_rfl) (by kernel_rfl) (by kernel_rfl) (fun _ _ _ h => h) (Or.inl ⟨by rfl, ?hy1⟩) (by with_reducible assumption) ?rest1
  case hy1 => (intro w hSw; (try dsimp only at hSw); go_simp; try with_reducible rfl)
  try simp only [Act.put, List.setIfInBounds_toArray, List.set_cons_zero, List.set_cons_succ]
  refine wpAnyH_take (i := 2) (oi := _) (v := ?v2) rfl (by kernel_rfl) (by kernel_rfl) (by kernel_rfl) (fun _ _ _ h => h) (Or.inl ⟨by rfl, ?hy2⟩) (by with_reducible assumption) ?rest2
  case hy2 => (intro w hSw; (try dsimp only at hSw); go_simp; try with_reducible rfl)
  try simp only [Act.put, List.setIfInBounds_toArray, List.set_cons_zero, List.set_cons_succ]
  refine wpAnyH_take (i := 5) (oi := _) (v := ?v3) rfl (by kernel_rfl) (by kernel_rfl) (by kernel_rfl) (fun _ _ _ h => h) (Or.inl ⟨by rfl, ?hy3⟩) (by with_reducible assumption) ?rest3
  case hy3 => (intro w hSw; (try dsimp only at hSw); go_simp; try with_reducible rfl)
  try simp only [Act.put, List.setIfInBounds_toArray, List.set_cons_zero, List.set_cons_succ]
  refine wpAnyH_take (i := 7) (oi := _) (v := ?v4) rfl (by kernel_rfl) (by kernel_rfl) (by kernel_rfl) (fun _ _ _ h => h) (Or.inl ⟨by rfl, ?hy4⟩) (by with_reducible assumption) ?rest4
  case hy4 => (intro w hSw; (try dsimp only at hSw); go_simp; try with_reducible rfl)
  try simp only [Act.put, List.setIfInBounds_toArray, List.set_cons_zero, List.set_cons_succ]
  refine wpAnyH_take (i := 8) (oi := _) (v := ?v5) rfl (by kernel_rfl) (by kernel_rfl) (by kernel_rfl) (fun _ _ _ h => h) (Or.inl ⟨by rfl, ?hy5⟩) (by with_reducible assumption) ?rest5
  case hy5 => (intro w hSw; (try dsimp only at hSw); go_simp; try with_reducible rfl)
  try simp only [Act.put, List.setIfInBounds_toArray, List.set_cons_zero, List.set_cons_succ]
  refine wpAnyH_ready (rs := [1, 6]) (by kernel_rfl) (by simp) ?_
  refine (AllReadyH.cons (o := _) rfl (fun K hK => ?_) (AllReadyH.cons (o := _) rfl (fun K hK => ?_) AllReadyH.nil))
  · skip
    go_simp
    refine hK.out _ _ ?_ (fun hHeld6 => ?_)
    · (try dsimp only)
      (first | (with_reducible assumption) | (go_keep; done) | omega | (simp; omega))
    clear hK K hHeld0
    try simp only [Act.put, List.setIfInBounds_toArray, List.set_cons_zero, List.set_cons_succ]
    refine wpAnyH_take (i := 3) (oi := _) (v := ?v7) rfl (by kernel_rfl) (by kernel_rfl) (by kernel_rfl) (fun _ _ _ h => h) (Or.inl ⟨by rfl, ?hy7⟩) (by with_reducible assumption) ?rest7
    case hy7 => (intro w hSw; (try dsimp only at hSw); go_simp; try with_reducible rfl)
    try simp only [Act.put, List.setIfInBounds_toArray, List.set_cons_zero, List.set_cons_succ]
    refine wpAnyH_ready (rs := [4, 6]) (by kernel_rfl) (by simp) ?_
    refine (AllReadyH.cons (o := _) rfl (fun K hK => ?_) (AllReadyH.cons (o := _) rfl (fun K hK => ?_) AllReadyH.nil))
    · skip
      refine step_append_own' rfl (.const (.slice none 0 0)) (.tmp 101) 22 rfl ei_items (R := Rit) (S := lo V) (base := W) (.slice none 0 0) (by rfl) (Own.nil _ _ _ _ _) (fun b hb => ⟨by have : b < V := hb; (try simp); omega, by simp [Value.ownBlock]⟩) (some ⟨g, 0, none⟩) p c (ys := cur.take p) (by rfl) HB.out.2.2.2.2.1 (HB.out.2.1.up ((Below.refl _ _).drew)) (HB.out.1.keep (fun q hq => Below.cell (B := w.heap.size) ((Below.refl _ _).drew) (by have : q.block < V := hq; omega)) (fun _ h => h)) (by rw [List.length_nil, Nat.zero_add]; exact lim40 (by omega)) (by simp [maxLen]; omega) (by simp; omega) ?_
      intro v1 w1 hox hg1 hat1
      rw [List.nil_append] at hox
      obtain ⟨A1, k1, rfl⟩ := hox.form
      rw [HB.out.2.2.2.2.1] at hox hat1 ⊢
      have hbb : RowKit.Below w.heap.size w w1 := ((Below.refl w.heap.size w).drew).grown hg1 (by simp) (fun g hg => by cases hg)
      have zz := hbb.size
      have d1 : w1.cell? ⟨H, 1, none⟩ = some (.slice (some ⟨g, 0, none⟩) N c) := (hbb.cell (p := ⟨H, 1, none⟩) hlt).trans c1
      have hat' : (Value.slice A1 p k1).ownBlock = none ∨ (Value.slice A1 p k1).ownBlock = some w.heap.size := hat1
      have H1 := Lib.hid (And.intro hox (And.intro hbb hat'))
      clear hox hg1 hat1 hbb hat'
      refine hK.out _ _ ?_ (fun hHeld8 => ?_)
      · (try dsimp only)
        (first | (with_reducible assumption) | (go_keep; done) | omega | (simp; omega))
      clear hK K hHeld6
      try simp only [Act.put, List.setIfInBounds_toArray, List.set_cons_zero, List.set_cons_succ]
      refine wpAnyH_ready (rs := [6]) (by kernel_rfl) (by simp) ?_
      refine (AllReadyH.cons (o := _) rfl (fun K hK => ?_) AllReadyH.nil)
      go_simp
      refine hK.out _ _ ?_ (fun hHeld9 => ?_)
      · (try dsimp only)
        (first | (with_reducible assumption) | (go_keep; done) | omega | (simp; omega))
      clear hK K hHeld8
      try simp only [Act.put, List.setIfInBounds_toArray, List.set_cons_zero, List.set_cons_succ]
      refine wpAnyH_take (i := 9) (oi := _) (v := ?v10) rfl (by kernel_rfl) (by kernel_rfl) (by kernel_rfl) (fun _ _ _ h => h) (Or.inl ⟨by rfl, ?hy10⟩) (by with_reducible assumption) ?rest10
      case hy10 => (intro w hSw; (try dsimp only at hSw); go_simp; try with_reducible rfl)
      try simp only [Act.put, List.setIfInBounds_toArray, List.set_cons_zero, List.set_cons_succ]
      refine wpAnyH_ready (rs := [10]) (by kernel_rfl) (by simp) ?_
      refine (AllReadyH.cons (o := _) rfl (fun K hK => ?_) AllReadyH.nil)
      refine step_append_own' rfl (.tmp 102) (.tmp 107) 22 rfl ei_items (R := Rit) (S := lo V) (base := W) (.slice A1 p k1) (by rfl) H1.out.1 (fun b hb => ⟨by have : b < V := hb; omega, fun e9 => by have : b < V := hb; rcases H1.out.2.2 with h9 | h9 <;> rw [h9] at e9 <;> simp at e9; omega⟩) A' m2 (c - (p + 1)) (ys := cur.drop (p + 1)) (by rfl) HB.out.2.2.2.2.2.1 (HB.out.2.2.2.1.up H1.out.2.1) (HB.out.2.2.1.keep (fun q hq => H1.out.2.1.cell (by have : q.block < V := hq; omega)) (fun _ h => h)) (by rw [HB.out.2.2.2.2.1]; exact lim40 (by omega)) (by rw [HB.out.2.2.2.2.1]; simp [maxLen]; omega) (by omega) ?_
      intro v2 w2 hox hg1 hat1
      obtain ⟨A2, k2, rfl⟩ := hox.form
      rw [show (cur.take p ++ cur.drop (p + 1)).length = N - 1 by rw [List.length_append, HB.out.2.2.2.2.1, HB.out.2.2.2.2.2.1]; omega] at hox hat1 ⊢
      have hbb : RowKit.Below w.heap.size w w2 := H1.out.2.1.grown hg1 (by omega) (fun g9 hg9 => by rcases H1.out.2.2 with h9 | h9 <;> rw [h9] at hg9 <;> simp at hg9; omega)
      have zz2 := hbb.size
      have f1 : w2.cell? ⟨H, 1, none⟩ = some (.slice (some ⟨g, 0, none⟩) N c) := (hbb.cell (p := ⟨H, 1, none⟩) hlt).trans c1
      have hE2 := HB.out.2.2.2.2.2.2.below hbb hlt
      have fE2 := hE2.frozen
      have hown : ∀ k, (Value.slice A2 (N - 1) k2).ownBlock = some k → w.heap.size ≤ k := fun k hk => by
        rcases hat1 with h9 | h9
        · rw [h9] at hk
          rcases H1.out.2.2 with h8 | h8 <;> rw [h8] at hk <;> simp at hk; omega
        · rw [h9] at hk; simp at hk; omega
      have H2 := Lib.hid (And.intro hox (And.intro hbb (And.intro hE2 hown)))
      clear hox hg1 hat1 hbb hE2 hown
      refine hK.out _ _ ?_ (fun hHeld11 => ?_)
      · (try dsimp only)
        (first | (with_reducible assumption) | (go_keep; done) | omega | (simp; omega))
      clear hK K hHeld9
      try simp only [Act.put, List.setIfInBounds_toArray, List.set_cons_zero, List.set_cons_succ]
      refine wpAnyH_take (i := 11) (oi := _) (v := ?v12) rfl (by kernel_rfl) (by kernel_rfl) (by kernel_rfl) (fun _ _ _ h => h) (Or.inl ⟨by rfl, ?hy12⟩) (by with_reducible assumption) ?rest12
      case hy12 => (intro w hSw; (try dsimp only at hSw); go_simp; try with_reducible rfl)
      try simp only [Act.put, List.setIfInBounds_toArray, List.set_cons_zero, List.set_cons_succ]
      refine wpAnyH_ready (rs := [12]) (by kernel_rfl) (by simp) ?_
      refine (AllReadyH.cons (o := _) rfl (fun K hK => ?_) AllReadyH.nil)
      go_simp
      refine hK.out _ _ ?_ (fun hHeld13 => ?_)
      · (try dsimp only)
        (first | (with_reducible assumption) | (go_keep; done) | omega | (simp; omega))
      clear hK K hHeld11
      try simp only [Act.put, List.setIfInBounds_toArray, List.set_cons_zero, List.set_cons_succ]
      refine wpAnyH_done (by kernel_rfl) ?_ _
      refine NoPanic.normal ?_
      clear hHeld13
      exact HK.out _ _ _ _ _ _ _ _ _ _ _ _ A2 k2 _ (H2.out.2.2.1.set 1 _) (H2.out.1.keep (fun g9 hg9 => Below.heap_setCell w2 ⟨H, 1, none⟩ _ g9 (by have h9 := H2.out.2.2.2 g9 hg9; show g9 ≠ H; omega)) (fun q hq => World.cell?_setCell_other w2 ⟨H, 1, none⟩ q _ (fun e9 => by have h8 := congrArg Addr.block e9; have h9 : q.block < V := hq; simp at h8; omega)) (fun _ h => h)) H2.out.2.2.2 (fun k hk hne => (Below.heap_setCell w2 ⟨H, 1, none⟩ _ k hne).trans (H2.out.2.1.block k hk)) ((H2.out.2.1.mono hWl).setCell (p := ⟨H, 1, none⟩) hW _)
    · skip
      go_simp
      refine hK.out _ _ ?_ (fun hHeld14 => ?_)
      · (try dsimp only)
        (first | (with_reducible assumption) | (go_keep; done) | omega | (simp; omega))
      clear hK K hHeld6
      try simp only [Act.put, List.setIfInBounds_toArray, List.set_cons_zero, List.set_cons_succ]
      refine wpAnyH_take (i := 9) (oi := _) (v := ?v15) rfl (by kernel_rfl) (by kernel_rfl) (by kernel_rfl) (fun _ _ _ h => h) (Or.inl ⟨by rfl, ?hy15⟩) (by with_reducible assumption) ?rest15
      case hy15 => (intro w hSw; (try dsimp only at hSw); go_simp; try with_reducible rfl)
      try simp only [Act.put, List.setIfInBounds_toArray, List.set_cons_zero, List.set_cons_succ]
      refine wpAnyH_ready (rs := [4]) (by kernel_rfl) (by simp) ?_
      refine (AllReadyH.cons (o := _) rfl (fun K hK => ?_) AllReadyH.nil)
      refine step_append_own' rfl (.const (.slice none 0 0)) (.tmp 101) 22 rfl ei_items (R := Rit) (S := lo V) (base := W) (.slice none 0 0) (by rfl) (Own.nil _ _ _ _ _) (fun b hb => ⟨by have : b < V := hb; (try simp); omega, by simp [Value.ownBlock]⟩) (some ⟨g, 0, none⟩) p c (ys := cur.take p) (by rfl) HB.out.2.2.2.2.1 (HB.out.2.1.up ((Below.refl _ _).drew)) (HB.out.1.keep (fun q hq => Below.cell (B := w.heap.size) ((Below.refl _ _).drew) (by have : q.block < V := hq; omega)) (fun _ h => h)) (by rw [List.length_nil, Nat.zero_add]; exact lim40 (by omega)) (by simp [maxLen]; omega) (by simp; omega) ?_
      intro v1 w1 hox hg1 hat1
      rw [List.nil_append] at hox
      obtain ⟨A1, k1, rfl⟩ := hox.form
      rw [HB.out.2.2.2.2.1] at hox hat1 ⊢
      have hbb : RowKit.Below w.heap.size w w1 := ((Below.refl w.heap.size w).drew).grown hg1 (by simp) (fun g hg => by cases hg)
      have zz := hbb.size
      have d1 : w1.cell? ⟨H, 1, none⟩ = some (.slice (some ⟨g, 0, none⟩) N c) := (hbb.cell (p := ⟨H, 1, none⟩) hlt).trans c1
      have hat' : (Value.slice A1 p k1).ownBlock = none ∨ (Value.slice A1 p k1).ownBlock = some w.heap.size := hat1
      have H1 := Lib.hid (And.intro hox (And.intro hbb hat'))
      clear hox hg1 hat1 hbb hat'
      refine hK.out _ _ ?_ (fun hHeld16 => ?_)
      · (try dsimp only)
        (first | (with_reducible assumption) | (go_keep; done) | omega | (simp; omega))
      clear hK K hHeld14
      try simp only [Act.put, List.setIfInBounds_toArray, List.set_cons_zero, List.set_cons_succ]
      refine wpAnyH_ready (rs := [10]) (by kernel_rfl) (by simp) ?_
      refine (AllReadyH.cons (o := _) rfl (fun K hK => ?_) AllReadyH.nil)
      refine step_append_own' rfl (.tmp 102) (.tmp 107) 22 rfl ei_items (R := Rit) (S := lo V) (base := W) (.slice A1 p k1) (by rfl) H1.out.1 (fun b hb => ⟨by have : b < V := hb; omega, fun e9 => by have : b < V := hb; rcases H1.out.2.2 with h9 | h9 <;> rw [h9] at e9 <;> simp at e9; omega⟩) A' m2 (c - (p + 1)) (ys := cur.drop (p + 1)) (by rfl) HB.out.2.2.2.2.2.1 (HB.out.2.2.2.1.up H1.out.2.1) (HB.out.2.2.1.keep (fun q hq => H1.out.2.1.cell (by have : q.block < V := hq; omega)) (fun _ h => h)) (by rw [HB.out.2.2.2.2.1]; exact lim40 (by omega)) (by rw [HB.out.2.2.2.2.1]; simp [maxLen]; omega) (by omega) ?_
      intro v2 w2 hox hg1 hat1
      obtain ⟨A2, k2, rfl⟩ := hox.form
      rw [show (cur.take p ++ cur.drop (p + 1)).length = N - 1 by rw [List.length_append, HB.out.2.2.2.2.1, HB.out.2.2.2.2.2.1]; omega] at hox hat1 ⊢
      have hbb : RowKit.Below w.heap.size w w2 := H1.out.2.1.grown hg1 (by omega) (fun g9 hg9 => by rcases H1.out.2.2 with h9 | h9 <;> rw [h9] at hg9 <;> simp at hg9; omega)
      have zz2 := hbb.size
      have f1 : w2.cell? ⟨H, 1, none⟩ = some (.slice (some ⟨g, 0, none⟩) N c) := (hbb.cell (p := ⟨H, 1, none⟩) hlt).trans c1
      have hE2 := HB.out.2.2.2.2.2.2.below hbb hlt
      have fE2 := hE2.frozen
      have hown : ∀ k, (Value.slice A2 (N - 1) k2).ownBlock = some k → w.heap.size ≤ k := fun k hk => by
        rcases hat1 with h9 | h9
        · rw [h9] at hk
          rcases H1.out.2.2 with h8 | h8 <;> rw [h8] at hk <;> simp at hk; omega
        · rw [h9] at hk; simp at hk; omega
      have H2 := Lib.hid (And.intro hox (And.intro hbb (And.intro hE2 hown)))
      clear hox hg1 hat1 hbb hE2 hown
      refine hK.out _ _ ?_ (fun hHeld17 => ?_)
      · (try dsimp only)
        (first | (with_reducible assumption) | (go_keep; done) | omega | (simp; omega))
      clear hK K hHeld16
      try simp only [Act.put, List.setIfInBounds_toArray, List.set_cons_zero, List.set_cons_succ]
      refine wpAnyH_take (i := 11) (oi := _) (v := ?v18) rfl (by kernel_rfl) (by kernel_rfl) (by kernel_rfl) (fun _ _ _ h => h) (Or.inl ⟨by rfl, ?hy18⟩) (by with_reducible assumption) ?rest18
      case hy18 => (intro w hSw; (try dsimp only at hSw); go_simp; try with_reducible rfl)
      try simp only [Act.put, List.setIfInBounds_toArray, List.set_cons_zero, List.set_cons_succ]
      refine wpAnyH_ready (rs := [12]) (by kernel_rfl) (by simp) ?_
      refine (AllReadyH.cons (o := _) rfl (fun K hK => ?_) AllReadyH.nil)
      go_simp
      refine hK.out _ _ ?_ (fun hHeld19 => ?_)
      · (try dsimp only)
        (first | (with_reducible assumption) | (go_keep; done) | omega | (simp; omega))
      clear hK K hHeld17
      try simp only [Act.put, List.setIfInBounds_toArray, List.set_cons_zero, List.set_cons_succ]
      refine wpAnyH_done (by kernel_rfl) ?_ _
      refine NoPanic.normal ?_
      clear hHeld19
      exact HK.out _ _ _ _ _ _ _ _ _ _ _ _ A2 k2 _ (H2.out.2.2.1.set 1 _) (H2.out.1.keep (fun g9 hg9 => Below.heap_setCell w2 ⟨H, 1, none⟩ _ g9 (by have h9 := H2.out.2.2.2 g9 hg9; show g9 ≠ H; omega)) (fun q hq => World.cell?_setCell_other w2 ⟨H, 1, none⟩ q _ (fun e9 => by have h8 := congrArg Addr.block e9; have h9 : q.block < V := hq; simp at h8; omega)) (fun _ h => h)) H2.out.2.2.2 (fun k hk hne => (Below.heap_setCell w2 ⟨H, 1, none⟩ _ k hne).trans (H2.out.2.1.block k hk)) ((H2.out.2.1.mono hWl).setCell (p := ⟨H, 1, none⟩) hW _)
  · skip
    go_simp
    refine hK.out _ _ ?_ (fun hHeld20 => ?_)
    · (try dsimp only)
      (first | (with_reducible assumption) | (go_keep; done) | omega | (simp; omega))
    clear hK K hHeld0
    try simp only [Act.put, List.setIfInBounds_toArray, List.set_cons_zero, List.set_cons_succ]
    refine wpAnyH_take (i := 9) (oi := _) (v := ?v21) rfl (by kernel_rfl) (by kernel_rfl) (by kernel_rfl) (fun _ _ _ h => h) (Or.inl ⟨by rfl, ?hy21⟩) (by with_reducible assumption) ?rest21
    case hy21 => (intro w hSw; (try dsimp only at hSw); go_simp; try with_reducible rfl)
    try simp only [Act.put, List.setIfInBounds_toArray, List.set_cons_zero, List.set_cons_succ]
    refine wpAnyH_ready (rs := [1]) (by kernel_rfl) (by simp) ?_
    refine (AllReadyH.cons (o := _) rfl (fun K hK => ?_) AllReadyH.nil)
    go_simp
    refine hK.out _ _ ?_ (fun hHeld22 => ?_)
    · (try dsimp only)
      (first | (with_reducible assumption) | (go_keep; done) | omega | (simp; omega))
    clear hK K hHeld20
    try simp only [Act.put, List.setIfInBounds_toArray, List.set_cons_zero, List.set_cons_succ]
    refine wpAnyH_take (i := 3) (oi := _) (v := ?v23) rfl (by kernel_rfl) (by kernel_rfl) (by kernel_rfl) (fun _ _ _ h => h) (Or.inl ⟨by rfl, ?hy23⟩) (by with_reducible assumption) ?rest23
    case hy23 => (intro w hSw; (try dsimp only at hSw); go_simp; try with_reducible rfl)
    try simp only [Act.put, List.setIfInBounds_toArray, List.set_cons_zero, List.set_cons_succ]
    refine wpAnyH_ready (rs := [4]) (by kernel_rfl) (by simp) ?_
    refine (AllReadyH.cons (o := _) rfl (fun K hK => ?_) AllReadyH.nil)
    refine step_append_own' rfl (.const (.slice none 0 0)) (.tmp 101) 22 rfl ei_items (R := Rit) (S := lo V) (base := W) (.slice none 0 0) (by rfl) (Own.nil _ _ _ _ _) (fun b hb => ⟨by have : b < V := hb; (try simp); omega, by simp [Value.ownBlock]⟩) (some ⟨g, 0, none⟩) p c (ys := cur.take p) (by rfl) HB.out.2.2.2.2.1 (HB.out.2.1.up ((Below.refl _ _).drew)) (HB.out.1.keep (fun q hq => Below.cell (B := w.heap.size) ((Below.refl _ _).drew) (by have : q.block < V := hq; omega)) (fun _ h => h)) (by rw [List.length_nil, Nat.zero_add]; exact lim40 (by omega)) (by simp [maxLen]; omega) (by simp; omega) ?_
    intro v1 w1 hox hg1 hat1
    rw [List.nil_append] at hox
    obtain ⟨A1, k1, rfl⟩ := hox.form
    rw [HB.out.2.2.2.2.1] at hox hat1 ⊢
    have hbb : RowKit.Below w.heap.size w w1 := ((Below.refl w.heap.size w).drew).grown hg1 (by simp) (fun g hg => by cases hg)
    have zz := hbb.size
    have d1 : w1.cell? ⟨H, 1, none⟩ = some (.slice (some ⟨g, 0, none⟩) N c) := (hbb.cell (p := ⟨H, 1, none⟩) hlt).trans c1
    have hat' : (Value.slice A1 p k1).ownBlock = none ∨ (Value.slice A1 p k1).ownBlock = some w.heap.size := hat1
    have H1 := Lib.hid (And.intro hox (And.intro hbb hat'))
    clear hox hg1 hat1 hbb hat'
    refine hK.out _ _ ?_ (fun hHeld24 => ?_)
    · (try dsimp only)
      (first | (with_reducible assumption) | (go_keep; done) | omega | (simp; omega))
    clear hK K hHeld22
    try simp only [Act.put, List.setIfInBounds_toArray, List.set_cons_zero, List.set_cons_succ]
    refine wpAnyH_ready (rs := [10]) (by kernel_rfl) (by simp) ?_
    refine (AllReadyH.cons (o := _) rfl (fun K hK => ?_) AllReadyH.nil)
    refine step_append_own' rfl (.tmp 102) (.tmp 107) 22 rfl ei_items (R := Rit) (S := lo V) (base := W) (.slice A1 p k1) (by rfl) H1.out.1 (fun b hb => ⟨by have : b < V := hb; omega, fun e9 => by have : b < V := hb; rcases H1.out.2.2 with h9 | h9 <;> rw [h9] at e9 <;> simp at e9; omega⟩) A' m2 (c - (p + 1)) (ys := cur.drop (p + 1)) (by rfl) HB.out.2.2.2.2.2.1 (HB.out.2.2.2.1.up H1.out.2.1) (HB.out.2.2.1.keep (fun q hq => H1.out.2.1.cell (by have : q.block < V := hq; omega)) (fun _ h => h)) (by rw [HB.out.2.2.2.2.1]; exact lim40 (by omega)) (by rw [HB.out.2.2.2.2.1]; simp [maxLen]; omega) (by omega) ?_
    intro v2 w2 hox hg1 hat1
    obtain ⟨A2, k2, rfl⟩ := hox.form
    rw [show (cur.take p ++ cur.drop (p + 1)).length = N - 1 by rw [List.length_append, HB.out.2.2.2.2.1, HB.out.2.2.2.2.2.1]; omega] at hox hat1 ⊢
    have hbb : RowKit.Below w.heap.size w w2 := H1.out.2.1.grown hg1 (by omega) (fun g9 hg9 => by rcases H1.out.2.2 with h9 | h9 <;> rw [h9] at hg9 <;> simp at hg9; omega)
    have zz2 := hbb.size
    have f1 : w2.cell? ⟨H, 1, none⟩ = some (.slice (some ⟨g, 0, none⟩) N c) := (hbb.cell (p := ⟨H, 1, none⟩) hlt).trans c1
    have hE2 := HB.out.2.2.2.2.2.2.below hbb hlt
    have fE2 := hE2.frozen
    have hown : ∀ k, (Value.slice A2 (N - 1) k2).ownBlock = some k → w.heap.size ≤ k := fun k hk => by
      rcases hat1 with h9 | h9
      · rw [h9] at hk
        rcases H1.out.2.2 with h8 | h8 <;> rw [h8] at hk <;> simp at hk; omega
      · rw [h9] at hk; simp at hk; omega
    have H2 := Lib.hid (And.intro hox (And.intro hbb (And.intro hE2 hown)))
    clear hox hg1 hat1 hbb hE2 hown
    refine hK.out _ _ ?_ (fun hHeld25 => ?_)
    · (try dsimp only)
      (first | (with_reducible assumption) | (go_keep; done) | omega | (simp; omega))
    clear hK K hHeld24
    try simp only [Act.put, List.setIfInBounds_toArray, List.set_cons_zero, List.set_cons_succ]
    refine wpAnyH_take (i := 11) (oi := _) (v := ?v26) rfl (by kernel_rfl) (by kernel_rfl) (by kernel_rfl) (fun _ _ _ h => h) (Or.inl ⟨by rfl, ?hy26⟩) (by with_reducible assumption) ?rest26
    case hy26 => (intro w hSw; (try dsimp only at hSw); go_simp; try with_reducible rfl)
    try simp only [Act.put, List.setIfInBounds_toArray, List.set_cons_zero, List.set_cons_succ]
    refine wpAnyH_ready (rs := [12]) (by kernel_rfl) (by simp) ?_
    refine (AllReadyH.cons (o := _) rfl (fun K hK => ?_) AllReadyH.nil)
    go_simp
    refine hK.out _ _ ?_ (fun hHeld27 => ?_)
    · (try dsimp only)
      (first | (with_reducible assumption) | (go_keep; done) | omega | (simp; omega))
    clear hK K hHeld25
    try simp only [Act.put, List.setIfInBounds_toArray, List.set_cons_zero, List.set_cons_succ]
    refine wpAnyH_done (by kernel_rfl) ?_ _
    refine NoPanic.normal ?_
    clear hHeld27
    exact HK.out _ _ _ _ _ _ _ _ _ _ _ _ A2 k2 _ (H2.out.2.2.1.set 1 _) (H2.out.1.keep (fun g9 hg9 => Below.heap_setCell w2 ⟨H, 1, none⟩ _ g9 (by have h9 := H2.out.2.2.2 g9 hg9; show g9 ≠ H; omega)) (fun q hq => World.cell?_setCell_other w2 ⟨H, 1, none⟩ q _ (fun e9 => by have h8 := congrArg Addr.block e9; have h9 : q.block < V := hq; simp at h8; omega)) (fun _ h => h)) H2.out.2.2.2 (fun k hk hne => (Below.heap_setCell w2 ⟨H, 1, none⟩ _ k hne).trans (H2.out.2.1.block k hk)) ((H2.out.2.1.mono hWl).setCell (p := ⟨H, 1, none⟩) hW _)
end Go.Proofs.Ytalieakmjkmbbaa
