/-
  LinkTakes: the walk.
-/
import Derived.Test.YtalieakmjkmbbaaRTake
import Derived.Test.YtalieakmjkmbbaaLkAgain
namespace Go.Proofs.Ytalieakmjkmbbaa
open Go.RowKit Go.Sort Go.Maps
set_option linter.unusedVariables false
attribute [local go_sem ↓] Go.wp_at_zero Go.wp_at_succ

noncomputable def lt_r5_code : Code := regionOf Try.f3 5
set_option maxRecDepth 100000 in
set_option maxHeartbeats 2000000 in
theorem lt_r5 {Q : Exit → Act → World → Prop} {s0 s1 s2 s3 s5 s6 s7 s8 s9 s10 s11 s12 s13 s14 s15 s16 s17 s18 s19 s20 s21 s22 s23 s24 s25 s26 s27 s28 s29 s30 s31 s32 s33 s34 s35 s36 s37 s38 s39 s40 s41 s42 s43 s44 s45 s46 s47 s48 s49 s50 s51 s52 s53 s54 s55 s56 s57 s58 s59 s60 s61 s62 s63 s64 s65 s66 s67 : Value} (w : World) (W BX : Nat) (e : Int) (A : Option Addr) (n c : Nat) (xs : List It) (hx : Sl Rit w (lo W) A xs) (hn : xs.length = n) (hW : W ≤ w.heap.size) (hz : n ≤ 3518437208883) (hB : BX < w.heap.size)
    (h0 : w.cell? ⟨BX, 0, none⟩ = some (.int .i64 e)) (h1 : w.cell? ⟨BX, 1, none⟩ = some (.slice A n c))
    (hK : ∀ (d26 d27 d28 d29 d30 d31 : Value) (H : Nat) (A1 : Option Addr) (c1 : Nat) (w' : World), Blk w' H 24 #[.int .i64 e, .slice A1 n c1] → Own Rit w' w.heap.size 38 (lo W) (.slice A1 n c1) xs → (Value.slice A1 n c1).ownBlock ≠ some H → w.heap.size ≤ H → Below w.heap.size w w' →
      Q .normal ⟨#[s0, s1, s2, s3, .pointer (some ⟨BX, 0, none⟩), s5, s6, s7, s8, .pointer (some ⟨H, 0, none⟩), s10, s11, s12, s13, s14, s15, s16, s17, s18, s19, s20, s21, s22, s23, s24, s25, d26, d27, d28, d29, d30, d31, s32, s33, s34, s35, s36, s37, s38, s39, s40, s41, s42, s43, s44, s45, s46, s47, s48, s49, s50, s51, s52, s53, s54, s55, s56, s57, s58, s59, s60, s61, s62, s63, s64, s65, s66, s67], []⟩ w') :
    Code.wp Try.prog lt_r5_code Q ⟨#[s0, s1, s2, s3, .pointer (some ⟨BX, 0, none⟩), s5, s6, s7, s8, s9, s10, s11, s12, s13, s14, s15, s16, s17, s18, s19, s20, s21, s22, s23, s24, s25, s26, s27, s28, s29, s30, s31, s32, s33, s34, s35, s36, s37, s38, s39, s40, s41, s42, s43, s44, s45, s46, s47, s48, s49, s50, s51, s52, s53, s54, s55, s56, s57, s58, s59, s60, s61, s62, s63, s64, s65, s66, s67], []⟩ w := by
  have HK := Lib.hid hK; clear hK
  obtain ⟨cells, hel, hce⟩ := hx.inRow
  have HB := Lib.hid (And.intro hel (And.intro hce hn)); clear hel hce hx hn
  conv => arg 2; whnf
  refine wp_region_noPanic ?_
  refine wp_region_held_drew (S := (fun w' => w'.cell? ⟨BX, 0, none⟩ = some (.int .i64 e) ∧ w'.cell? ⟨BX, 1, none⟩ = some (.slice A n c))) (by kernel_rfl) ?_ (fun hHeld0 => ?_)
  · (try dsimp only)
    (first | (with_reducible assumption) | (go_keep; done) | (refine ⟨?_, ?_⟩ <;> (first | (with_reducible assumption) | (simp [go_sem, *]; done) | (simp (disch := (simp; try omega)) [*, World.cell?_alloc_past, World.cell?_setCell_other]; done) | (rw [World.cell?_setCell_other _ _ _ _ (by simp; try omega), World.cell?_setCell_other _ _ _ _ (by simp; try omega)]; assumption))))
  refine wpAnyH_take (i := 0) (oi := _) (v := ?v1) rfl (by kernel_rfl) (by kernel_rfl) (by kernel_rfl) (fun _ _ _ h => h) (Or.inl ⟨by rfl, ?hy1⟩) (by with_reducible assumption) ?rest1
  case hy1 => (intro w hSw; (try dsimp only at hSw); go_simp; try with_reducible rfl)
  try simp only [Act.put, List.setIfInBounds_toArray, List.set_cons_zero, List.set_cons_succ]
  refine wpAnyH_take (i := 1) (oi := _) (v := ?v2) rfl (by kernel_rfl) (by kernel_rfl) (by kernel_rfl) (fun _ _ _ h => h) (Or.inl ⟨by rfl, ?hy2⟩) (by with_reducible assumption) ?rest2
  case hy2 => (intro w hSw; (try dsimp only at hSw); go_simp; try with_reducible rfl)
  try simp only [Act.put, List.setIfInBounds_toArray, List.set_cons_zero, List.set_cons_succ]
  refine wpAnyH_take (i := 2) (oi := _) (v := ?v3) rfl (by kernel_rfl) (by kernel_rfl) (by kernel_rfl) (fun _ _ _ h => h) (Or.inl ⟨by rfl, ?hy3⟩) (by with_reducible assumption) ?rest3
  case hy3 => (intro w hSw; (try dsimp only at hSw); go_simp; try with_reducible rfl)
  try simp only [Act.put, List.setIfInBounds_toArray, List.set_cons_zero, List.set_cons_succ]
  refine wpAnyH_take (i := 3) (oi := _) (v := ?v4) rfl (by kernel_rfl) (by kernel_rfl) (by kernel_rfl) (fun _ _ _ h => h) (Or.inl ⟨by rfl, ?hy4⟩) (by with_reducible assumption) ?rest4
  case hy4 => (intro w hSw; (try dsimp only at hSw); go_simp; try with_reducible rfl)
  try simp only [Act.put, List.setIfInBounds_toArray, List.set_cons_zero, List.set_cons_succ]
  refine wpAnyH_ready (rs := [4, 6]) (by kernel_rfl) (by simp) ?_
  refine (AllReadyH.cons (o := _) rfl (fun K hK => ?_) (AllReadyH.cons (o := _) rfl (fun K hK => ?_) AllReadyH.nil))
  · skip
    refine step_append_own' rfl (.const (.slice none 0 0)) (.tmp 29) 22 rfl ei_items (R := Rit) (S := lo W) (base := w.heap.size) (.slice none 0 0) (by rfl) (Own.nil _ _ _ _ _) (fun b hb => ⟨by have : b < W := hb; (try simp); omega, by simp [Value.ownBlock]⟩) A n c (ys := xs) (by rfl) HB.out.2.2 (HB.out.2.1.up (by first | exact (Below.refl _ _).drew | exact ((Below.refl _ _).alloc (Nat.le_refl _) _).drew)) (HB.out.1.keep (fun p hp => Below.cell (B := w.heap.size) (by first | exact (Below.refl _ _).drew | exact ((Below.refl _ _).alloc (Nat.le_refl _) _).drew) (by have : p.block < W := hp; omega)) (fun _ h => h)) (by rw [List.length_nil, Nat.zero_add]; exact lim40 hz) (by simp [maxLen]; omega) (by simp) ?_
    intro v' w1 hox hg1 hat1
    rw [List.nil_append] at hox
    obtain ⟨A1, c1, rfl⟩ := hox.form
    rw [HB.out.2.2] at hox hat1 ⊢
    have hbb : RowKit.Below w.heap.size w w1 := by
      first
        | exact ((Below.refl w.heap.size w).drew).grown hg1 (by simp) (fun g hg => by cases hg)
        | exact (((Below.refl w.heap.size w).alloc (Nat.le_refl _) _).drew).grown hg1 (by simp) (fun g hg => by cases hg)
    have b0 : w1.cell? ⟨BX, 0, none⟩ = some (.int .i64 e) := (hbb.cell (p := ⟨BX, 0, none⟩) hB).trans h0
    have b1 : w1.cell? ⟨BX, 1, none⟩ = some (.slice A n c) := (hbb.cell (p := ⟨BX, 1, none⟩) hB).trans h1
    have zz := hbb.size
    try (have gE := Blk.grown (w := (w.alloc (.cells #[.int .i64 0, .slice none 0 0] 24)).drew) (g := w.heap.size) (Blk.new w _ _ rfl) hg1 (by simp [Value.ownBlock])
         have i0 := gE.cell 0 (v := .int .i64 0) rfl; have i1 := gE.cell 1 (v := .slice none 0 0) rfl
         have fE := gE.frozen
         have zE : w.heap.size < w1.heap.size := gE.lt
         have HGE := Lib.hid gE
         clear gE)
    have H1 := Lib.hid (And.intro hox (And.intro hbb (show (Value.slice A1 n c1).ownBlock = none ∨ _ from hat1)))
    clear hox hg1 hat1 hbb
    refine hK.out _ _ ?_ (fun hHeld5 => ?_)
    · (try dsimp only)
      (first | (with_reducible assumption) | (go_keep; done) | (refine ⟨?_, ?_⟩ <;> (first | (with_reducible assumption) | (simp [go_sem, *]; done) | (simp (disch := (simp; try omega)) [*, World.cell?_alloc_past, World.cell?_setCell_other]; done) | (rw [World.cell?_setCell_other _ _ _ _ (by simp; try omega), World.cell?_setCell_other _ _ _ _ (by simp; try omega)]; assumption))))
    clear hK K hHeld0
    try simp only [Act.put, List.setIfInBounds_toArray, List.set_cons_zero, List.set_cons_succ]
    refine wpAnyH_take (i := 5) (oi := _) (v := ?v6) rfl (by kernel_rfl) (by kernel_rfl) (by kernel_rfl) (fun _ _ _ h => h) (Or.inl ⟨by rfl, ?hy6⟩) (by with_reducible assumption) ?rest6
    case hy6 => (intro w hSw; (try dsimp only at hSw); go_simp; try with_reducible rfl)
    try simp only [Act.put, List.setIfInBounds_toArray, List.set_cons_zero, List.set_cons_succ]
    refine wpAnyH_ready (rs := [6]) (by kernel_rfl) (by simp) ?_
    refine (AllReadyH.cons (o := _) rfl (fun K hK => ?_) AllReadyH.nil)
    go_simp
    refine hK.out _ _ ?_ (fun hHeld7 => ?_)
    · (try dsimp only)
      (first | (with_reducible assumption) | (go_keep; done) | (refine ⟨?_, ?_⟩ <;> (first | (with_reducible assumption) | (simp [go_sem, *]; done) | (simp (disch := (simp; try omega)) [*, World.cell?_alloc_past, World.cell?_setCell_other]; done) | (rw [World.cell?_setCell_other _ _ _ _ (by simp; try omega), World.cell?_setCell_other _ _ _ _ (by simp; try omega)]; assumption))))
    clear hK K hHeld5
    try simp only [Act.put, List.setIfInBounds_toArray, List.set_cons_zero, List.set_cons_succ]
    refine wpAnyH_ready (rs := [7]) (by kernel_rfl) (by simp) ?_
    refine (AllReadyH.cons (o := _) rfl (fun K hK => ?_) AllReadyH.nil)
    go_simp
    refine hK.out _ _ ?_ (fun hHeld8 => ?_)
    · (try dsimp only)
      (first | (with_reducible assumption) | (go_keep; done) | (refine ⟨?_, ?_⟩ <;> (first | (with_reducible assumption) | (simp [go_sem, *]; done) | (simp (disch := (simp; try omega)) [*, World.cell?_alloc_past, World.cell?_setCell_other]; done) | (rw [World.cell?_setCell_other _ _ _ _ (by simp; try omega), World.cell?_setCell_other _ _ _ _ (by simp; try omega)]; assumption))))
    clear hK K hHeld7
    try simp only [Act.put, List.setIfInBounds_toArray, List.set_cons_zero, List.set_cons_succ]
    refine wpAnyH_done (by kernel_rfl) ?_ _
    refine NoPanic.normal ?_
    clear hHeld8
    first
      | exact HK.out _ _ _ _ _ _ w.heap.size A1 c1 _ ((HGE.out.set 0 _).set 1 _) ((H1.out.1.keep (fun g hg => (Below.heap_setCell _ ⟨_, 1, none⟩ _ g (by rcases H1.out.2.2 with h9 | h9 <;> rw [h9] at hg <;> simp at hg <;> show g ≠ w.heap.size <;> omega)).trans (Below.heap_setCell _ ⟨_, 0, none⟩ _ g (by rcases H1.out.2.2 with h9 | h9 <;> rw [h9] at hg <;> simp at hg <;> show g ≠ w.heap.size <;> omega))) (fun p hp => (World.cell?_setCell_other _ _ _ _ (fun e9 => by have h8 := congrArg Addr.block e9; have h9 : p.block < W := hp; simp at h8; omega)).trans (World.cell?_setCell_other _ _ _ _ (fun e9 => by have h8 := congrArg Addr.block e9; have h9 : p.block < W := hp; simp at h8; omega))) (fun _ h => h))) (by rcases H1.out.2.2 with h9 | h9 <;> rw [h9] <;> simp) (Nat.le_refl _) ((H1.out.2.1.setCell (p := ⟨w.heap.size, 0, none⟩) (Nat.le_refl _) _).setCell (p := ⟨w.heap.size, 1, none⟩) (Nat.le_refl _) _)
      | exact HK.out _ _ _ _ _ _ w1.heap.size A1 c1 _ (Blk.new _ _ _ rfl) (H1.out.1.alloc (fun b hb => by have : b < W := hb; omega) _) (fun e9 => by have := (H1.out.1.lt e9).2; omega) zz (H1.out.2.1.alloc zz _)
  · skip
    go_simp
    refine hK.out _ _ ?_ (fun hHeld9 => ?_)
    · (try dsimp only)
      (first | (with_reducible assumption) | (go_keep; done) | (refine ⟨?_, ?_⟩ <;> (first | (with_reducible assumption) | (simp [go_sem, *]; done) | (simp (disch := (simp; try omega)) [*, World.cell?_alloc_past, World.cell?_setCell_other]; done) | (rw [World.cell?_setCell_other _ _ _ _ (by simp; try omega), World.cell?_setCell_other _ _ _ _ (by simp; try omega)]; assumption))))
    clear hK K hHeld0
    try simp only [Act.put, List.setIfInBounds_toArray, List.set_cons_zero, List.set_cons_succ]
    refine wpAnyH_ready (rs := [4]) (by kernel_rfl) (by simp) ?_
    refine (AllReadyH.cons (o := _) rfl (fun K hK => ?_) AllReadyH.nil)
    refine step_append_own' rfl (.const (.slice none 0 0)) (.tmp 29) 22 rfl ei_items (R := Rit) (S := lo W) (base := w.heap.size) (.slice none 0 0) (by rfl) (Own.nil _ _ _ _ _) (fun b hb => ⟨by have : b < W := hb; (try simp); omega, by simp [Value.ownBlock]⟩) A n c (ys := xs) (by rfl) HB.out.2.2 (HB.out.2.1.up (by first | exact (Below.refl _ _).drew | exact ((Below.refl _ _).alloc (Nat.le_refl _) _).drew)) (HB.out.1.keep (fun p hp => Below.cell (B := w.heap.size) (by first | exact (Below.refl _ _).drew | exact ((Below.refl _ _).alloc (Nat.le_refl _) _).drew) (by have : p.block < W := hp; omega)) (fun _ h => h)) (by rw [List.length_nil, Nat.zero_add]; exact lim40 hz) (by simp [maxLen]; omega) (by simp) ?_
    intro v' w1 hox hg1 hat1
    rw [List.nil_append] at hox
    obtain ⟨A1, c1, rfl⟩ := hox.form
    rw [HB.out.2.2] at hox hat1 ⊢
    have hbb : RowKit.Below w.heap.size w w1 := by
      first
        | exact ((Below.refl w.heap.size w).drew).grown hg1 (by simp) (fun g hg => by cases hg)
        | exact (((Below.refl w.heap.size w).alloc (Nat.le_refl _) _).drew).grown hg1 (by simp) (fun g hg => by cases hg)
    have b0 : w1.cell? ⟨BX, 0, none⟩ = some (.int .i64 e) := (hbb.cell (p := ⟨BX, 0, none⟩) hB).trans h0
    have b1 : w1.cell? ⟨BX, 1, none⟩ = some (.slice A n c) := (hbb.cell (p := ⟨BX, 1, none⟩) hB).trans h1
    have zz := hbb.size
    try (have gE := Blk.grown (w := (w.alloc (.cells #[.int .i64 0, .slice none 0 0] 24)).drew) (g := w.heap.size) (Blk.new w _ _ rfl) hg1 (by simp [Value.ownBlock])
         have i0 := gE.cell 0 (v := .int .i64 0) rfl; have i1 := gE.cell 1 (v := .slice none 0 0) rfl
         have fE := gE.frozen
         have zE : w.heap.size < w1.heap.size := gE.lt
         have HGE := Lib.hid gE
         clear gE)
    have H1 := Lib.hid (And.intro hox (And.intro hbb (show (Value.slice A1 n c1).ownBlock = none ∨ _ from hat1)))
    clear hox hg1 hat1 hbb
    refine hK.out _ _ ?_ (fun hHeld10 => ?_)
    · (try dsimp only)
      (first | (with_reducible assumption) | (go_keep; done) | (refine ⟨?_, ?_⟩ <;> (first | (with_reducible assumption) | (simp [go_sem, *]; done) | (simp (disch := (simp; try omega)) [*, World.cell?_alloc_past, World.cell?_setCell_other]; done) | (rw [World.cell?_setCell_other _ _ _ _ (by simp; try omega), World.cell?_setCell_other _ _ _ _ (by simp; try omega)]; assumption))))
    clear hK K hHeld9
    try simp only [Act.put, List.setIfInBounds_toArray, List.set_cons_zero, List.set_cons_succ]
    refine wpAnyH_take (i := 5) (oi := _) (v := ?v11) rfl (by kernel_rfl) (by kernel_rfl) (by kernel_rfl) (fun _ _ _ h => h) (Or.inl ⟨by rfl, ?hy11⟩) (by with_reducible assumption) ?rest11
    case hy11 => (intro w hSw; (try dsimp only at hSw); go_simp; try with_reducible rfl)
    try simp only [Act.put, List.setIfInBounds_toArray, List.set_cons_zero, List.set_cons_succ]
    refine wpAnyH_ready (rs := [7]) (by kernel_rfl) (by simp) ?_
    refine (AllReadyH.cons (o := _) rfl (fun K hK => ?_) AllReadyH.nil)
    go_simp
    refine hK.out _ _ ?_ (fun hHeld12 => ?_)
    · (try dsimp only)
      (first | (with_reducible assumption) | (go_keep; done) | (refine ⟨?_, ?_⟩ <;> (first | (with_reducible assumption) | (simp [go_sem, *]; done) | (simp (disch := (simp; try omega)) [*, World.cell?_alloc_past, World.cell?_setCell_other]; done) | (rw [World.cell?_setCell_other _ _ _ _ (by simp; try omega), World.cell?_setCell_other _ _ _ _ (by simp; try omega)]; assumption))))
    clear hK K hHeld10
    try simp only [Act.put, List.setIfInBounds_toArray, List.set_cons_zero, List.set_cons_succ]
    refine wpAnyH_done (by kernel_rfl) ?_ _
    refine NoPanic.normal ?_
    clear hHeld12
    first
      | exact HK.out _ _ _ _ _ _ w.heap.size A1 c1 _ ((HGE.out.set 0 _).set 1 _) ((H1.out.1.keep (fun g hg => (Below.heap_setCell _ ⟨_, 1, none⟩ _ g (by rcases H1.out.2.2 with h9 | h9 <;> rw [h9] at hg <;> simp at hg <;> show g ≠ w.heap.size <;> omega)).trans (Below.heap_setCell _ ⟨_, 0, none⟩ _ g (by rcases H1.out.2.2 with h9 | h9 <;> rw [h9] at hg <;> simp at hg <;> show g ≠ w.heap.size <;> omega))) (fun p hp => (World.cell?_setCell_other _ _ _ _ (fun e9 => by have h8 := congrArg Addr.block e9; have h9 : p.block < W := hp; simp at h8; omega)).trans (World.cell?_setCell_other _ _ _ _ (fun e9 => by have h8 := congrArg Addr.block e9; have h9 : p.block < W := hp; simp at h8; omega))) (fun _ h => h))) (by rcases H1.out.2.2 with h9 | h9 <;> rw [h9] <;> simp) (Nat.le_refl _) ((H1.out.2.1.setCell (p := ⟨w.heap.size, 0, none⟩) (Nat.le_refl _) _).setCell (p := ⟨w.heap.size, 1, none⟩) (Nat.le_refl _) _)
      | exact HK.out _ _ _ _ _ _ w1.heap.size A1 c1 _ (Blk.new _ _ _ rfl) (H1.out.1.alloc (fun b hb => by have : b < W := hb; omega) _) (fun e9 => by have := (H1.out.1.lt e9).2; omega) zz (H1.out.2.1.alloc zz _)
set_option maxRecDepth 100000 in
set_option maxHeartbeats 4000000 in
theorem linkTakes_walk (e : Int) (xs : List It) (A : Option Addr) (n cap : Nat) (seq : Int) (T : Option Addr) (body : List Int) (nb cb : Nat) (window : Int) (w : World) (hwf : (Lit.int .i64 e).wf = true) (hn : xs.length = n) (hnc : n ≤ cap) (hcm : cap ≤ maxLen) (hx : Sl Rit w (lo w.heap.size) A xs) (hz : n * 40 ≤ 140737488351232) (ht : ∀ x ∈ xs, x.body.length ≤ 140737488351232)
    (hs : (Lit.int .i64 seq).wf = true) (hnb : body.length = nb) (hnb2 : nb ≤ cb) (hcb : cb ≤ maxLen) (hT : Sl (Rint .u8) w (lo w.heap.size) T body) :
    Calls Try.prog 3 #[.agg #[.int .i64 e, .slice A n cap], .int .i64 seq, .slice T nb cb, .int .i64 window] w fun en w' => en = .returned (.bool true) ∧ Below w.heap.size w w' := by
  have hz' : n ≤ 3518437208780 := by omega
  have hn64 : n ≤ 9223372036854775807 := by omega
  have he : -9223372036854775808 ≤ e ∧ e ≤ 9223372036854775807 := bounds_i64 hwf
  have ht2 : ∀ x ∈ xs, x.body.length ≤ 140737488355328 := fun x hx => Nat.le_trans (ht x hx) (by decide)
  have HS := Lib.hid (And.intro hn (And.intro hx (And.intro ht2 (And.intro hs (And.intro hnb (And.intro hT he))))))
  clear hwf hn hx hz ht ht2 hs hnb hT he hnc hcm
  go_enter Try.func3, Try.ntmps3
  go_upto_region 5 with (first
    | (go_at_call 8
       go_loud (skip
                refine (live_any _).mono ?_
                rintro en w1 ⟨rfl, hb1⟩
                have HM1 := Lib.hid ((Law1.start w 24 #[.int .i64 e, .slice A n cap]).up hb1)
                have a0 := HM1.out.1.cell 0 (v := .int .i64 e) rfl; have a1 := HM1.out.1.cell 1 (v := .slice A n cap) rfl
                clear hb1))
    | (go_at_call 9
       go_loud (skip
                refine (fewIn_any _ e A n cap xs (HS.out.2.1.below HM1.out.2.1 HM1.out.2.1.size) HS.out.1 hn64).mono ?_
                rintro en w2 ⟨⟨few, rfl⟩, hb2⟩
                have HM2 := Lib.hid (HM1.out.up hb2)
                clear a0 a1
                have a0 := HM2.out.1.cell 0 (v := .int .i64 e) rfl; have a1 := HM2.out.1.cell 1 (v := .slice A n cap) rfl
                clear hb2 HM1)))
  all_goals try (go_ret; exact ⟨rfl, HM2.out.2.1⟩)
  have hb300 : nb ≤ 300 := by omega
  have hz2 := HM2.out.2.2
  have hzz := HM2.out.2.1.size
  refine lt_r5 w2 w.heap.size w.heap.size e A n cap xs (HS.out.2.1.keep (fun p hp => HM2.out.2.1.cell hp) (fun _ h => h)) HS.out.1 (by omega) (by omega) hz2 a0 a1 ?_
  intro d26 d27 d28 d29 d30 d31 P A3 c3 w3 hP ho3 hne3 hWP hb3
  obtain ⟨-, -, -, hs3⟩ := ho3.slice (S' := lo w3.heap.size) (fun b hb => by have h8 : b < w.heap.size := hb; have := hb3.size; show b < _; omega) (fun g hg hlt => hlt)
  have HM3 := Lib.hid (HM2.out.up hb3)
  have HP := Lib.hid (And.intro hP hs3)
  have hz3 := hb3.size
  have hlP := hP.lt
  clear hP ho3 hne3 hb3 hs3 a0 a1
  have a0 := HM3.out.1.cell 0 (v := .int .i64 e) rfl; have a1 := HM3.out.1.cell 1 (v := .slice A n cap) rfl
  obtain ⟨hd, td, ex, htk⟩ : ∃ hd td ex, takeP xs e seq body window = (hd, td, ex) := ⟨_, _, _, rfl⟩
  have HK := Lib.hid htk
  clear htk
  have HC := take_any w3 e xs A n cap seq body T nb cb window HS.out.1 (HS.out.2.1.below HM3.out.2.1 HM3.out.2.1.size) HS.out.2.2.2.2.1 (HS.out.2.2.2.2.2.1.below HM3.out.2.1 HM3.out.2.1.size) (by omega) HS.out.2.2.1 (by omega) HS.out.2.2.2.2.2.2.1 HS.out.2.2.2.2.2.2.2 HS.out.2.2.2.1
  go_upto_region 7 with (first
    | (go_at_call 10
       go_loud (skip
                refine HC.mono ?_
                rw [HK.out]
                rintro en w4 ⟨A4, n4, c4, T4, k4, kc4, rfl, hn4, l4, m4, hs4, hk4, l4', m4', hT4, hb4⟩
                have hn4' := maxLen_le (Nat.le_trans l4 m4)
                have hk4' := maxLen_le (Nat.le_trans l4' m4')
                have H4 := Lib.hid (And.intro hn4 (And.intro (hs4.more (S' := lo w4.heap.size) (fun b hb => hb.2)) (And.intro hk4 (And.intro (hT4.more (S' := lo w4.heap.size) (fun b hb => hb.2)) hb4))))
                have HM4 := Lib.hid (HM3.out.up hb4)
                have hz4 := hb4.size
                clear a0 a1 hn4 l4 m4 hs4 hk4 l4' m4' hT4 hb4)))
  have HM5 := Lib.hid (HM4.out.alloc (.cells #[.int .i64 ex, .slice A4 n4 c4] 24))
  have a0 := HM5.out.1.cell 0 (v := .int .i64 e) rfl; have a1 := HM5.out.1.cell 1 (v := .slice A n cap) rfl
  have H5 := Lib.hid (Blk.new w4 24 #[.int .i64 ex, .slice A4 n4 c4] rfl)
  obtain ⟨w5, hw5⟩ : ∃ w5, (w4.alloc (.cells #[.int .i64 ex, .slice A4 n4 c4] 24)) = w5 := ⟨_, rfl⟩
  have hb45 : RowKit.Below w4.heap.size w4 w5 := by rw [← hw5]; exact (Below.refl _ _).alloc (Nat.le_refl _) _
  have hz45 : w5.heap.size = w4.heap.size + 1 := by rw [← hw5]; simp
  rw [hw5] at HM5 H5 a0 a1 ⊢
  have HB45 := Lib.hid hb45
  clear hw5 hb45
  have HC2 := rtake_any w5 e xs A n cap seq body T nb cb window HS.out.1 (HS.out.2.1.below HM5.out.2.1 HM5.out.2.1.size) HS.out.2.2.2.2.1 hnb2 hcb (HS.out.2.2.2.2.2.1.below HM5.out.2.1 HM5.out.2.1.size) (by omega) HS.out.2.2.2.2.2.2.1 HS.out.2.2.2.2.2.2.2 HS.out.2.2.2.1
  go_upto_region 8 with (first
    | (go_at_call 11
       go_loud (skip
                refine HC2.mono ?_
                rw [HK.out]
                rintro en w6 ⟨A6, n6, c6, T6, k6, kc6, rfl, hn6, l6, m6, hs6, hk6, l6', m6', hT6, hb6⟩
                have H6 := Lib.hid (And.intro hn6 (And.intro hs6 (And.intro hk6 (And.intro hT6 hb6))))
                have HM6 := Lib.hid (HM5.out.up hb6)
                have hz6 := hb6.size
                clear a0 a1 hn6 l6 m6 hs6 hk6 l6' m6' hT6 hb6)))
  have HM7 := Lib.hid (HM6.out.alloc (.cells #[.int .i64 ex, .slice A6 n6 c6] 24))
  have H7 := Lib.hid (Blk.new w6 24 #[.int .i64 ex, .slice A6 n6 c6] rfl)
  obtain ⟨w7, hw7⟩ : ∃ w7, (w6.alloc (.cells #[.int .i64 ex, .slice A6 n6 c6] 24)) = w7 := ⟨_, rfl⟩
  have hb67 : RowKit.Below w6.heap.size w6 w7 := by rw [← hw7]; exact (Below.refl _ _).alloc (Nat.le_refl _) _
  rw [hw7] at HM7 H7 ⊢
  have hz67 := hb67.size
  have hb57 := H6.out.2.2.2.2.trans (hb67.mono hz6)
  have hb47 := HB45.out.trans (hb57.mono (by omega))
  have hb37 := H4.out.2.2.2.2.trans (hb47.mono hz4)
  have g10 := H5.out.below hb57 (by omega)
  have hP7 := HP.out.1.below hb37 hlP
  have x0 := g10.cell 0 (v := .int .i64 ex) rfl; have x1 := g10.cell 1 (v := .slice A4 n4 c4) rfl
  have y0 := H7.out.cell 0 (v := .int .i64 ex) rfl; have y1 := H7.out.cell 1 (v := .slice A6 n6 c6) rfl
  have HQ := Lib.hid (And.intro (H4.out.2.1.below hb47 hb47.size) (And.intro (H6.out.2.1.below hb67 hb67.size) (And.intro (H4.out.2.2.2.1.below hb47 hb47.size) (And.intro (H6.out.2.2.2.1.below hb67 hb67.size) (And.intro hP7 (And.intro g10 (HP.out.2.below hb37 hb37.size)))))))
  have hsame : ((ex : Int) == ex) = true := by simp
  have FLAG : True := trivial
  clear hw7 hb67 hb57 hb47 hb37 g10 hP7
  have HC3 := sameIn_any w7 ex A4 n4 c4 hd ex A6 n6 c6 hd HQ.out.1 H4.out.1 HQ.out.2.1 H6.out.1 hn4'
  go_wp2_with (first
    | (go_at_call 12
       go_loud (skip
                clear FLAG
                refine HC3.mono ?_
                rw [show sameI ex ex hd hd = true by simp [sameI]]
                rintro en w8 ⟨rfl, hb8⟩
                have HM8 := Lib.hid (HM7.out.up hb8)
                have H8 := Lib.hid hb8
                have hz8 := hb8.size
                clear hb8 x0 x1 y0 y1))
    | (go_at_call 13
       go_loud (skip
                refine (sameParts_any T4 td k4 kc4 H4.out.2.2.1 T6 td k6 kc6 H6.out.2.2.1 w8 (HQ.out.2.2.1.below H8.out hz8) (HQ.out.2.2.2.1.below H8.out hz8) hk4').mono ?_
                rw [show decide (td = td) = true by simp]
                rintro en w9 ⟨rfl, hb9⟩
                have HM9 := Lib.hid (HM8.out.up hb9)
                have hz9 := hb9.size
                have hP9 := ((HQ.out.2.2.2.2.1.below H8.out HQ.out.2.2.2.2.1.lt).below hb9 (by have := HQ.out.2.2.2.2.1.lt; omega))
                have a0 := HM9.out.1.cell 0 (v := .int .i64 e) rfl; have a1 := HM9.out.1.cell 1 (v := .slice A n cap) rfl
                have p0 := hP9.cell 0 (v := .int .i64 e) rfl; have p1 := hP9.cell 1 (v := .slice A3 n c3) rfl
                have H9 := Lib.hid (H8.out.trans (hb9.mono hz8))
                have FLAG2 : True := trivial
                clear hb9 hP9))
    | (go_at_call 12
       go_loud (skip
                clear FLAG2
                refine (sameIn_any w9 e A n cap xs e A3 n c3 xs (HS.out.2.1.below HM9.out.2.1 HM9.out.2.1.size) HS.out.1 (HQ.out.2.2.2.2.2.2.below H9.out H9.out.size) HS.out.1 hn64).mono ?_
                rw [show sameI e e xs xs = true by simp [sameI]]
                rintro en w10 ⟨rfl, hb10⟩
                have HM10 := Lib.hid (HM9.out.up hb10)
                clear hb10)))
  go_ret
  exact ⟨rfl, HM10.out.2.1⟩
open Go.ChangeShapes Go.WideShapes Go.ChangeAt in
theorem arg_bytes {H : Type} {enc : TypeId × Value → H} {w : World} {r : Reach} {b0 : Nat} {v : Value} {d : DataW H} {ps : List MemPlace} (hv : Value.okWide Try.prog w r b0 25 v) (h : DataW.Trod enc Try.prog w 0 (fun _ => true) true 25 v d ps) (hz : ∀ n ∈ d.weights Try.prog 25, n ≤ reachBytes) :
    ∃ (A : Option Addr) (xs : List Int) (n cap : Nat), v = .slice A n cap ∧ xs.length = n ∧ n ≤ cap ∧ cap ≤ maxLen ∧ Sl (Rint .u8) w (lo w.heap.size) A xs ∧ n * 1 ≤ reachBytes ∧ ∀ x ∈ xs, (Rint .u8).fit reachBytes x := arg_sl Try.underlying25 opens_bytes hv h hz
end Go.Proofs.Ytalieakmjkmbbaa
