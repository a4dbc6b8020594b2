/-
  The way's methods: the regions that call Send, Ack, Again.
-/
import Derived.Test.YtalieakmjkmbbaaWayM
namespace Go.Proofs.Ytalieakmjkmbbaa
open Go.RowKit Go.Sort
set_option linter.unusedVariables false
set_option linter.unusedSimpArgs false
attribute [local go_sem ↓] Go.wp_at_zero Go.wp_at_succ

noncomputable def wy_ack_code : Code := regionOf Try.f23 0
set_option maxRecDepth 100000 in
set_option maxHeartbeats 4000000 in
theorem wy_ack {Q : Exit → Act → World → Prop} {s2 s3 s4 s5 s6 s7 s8 s9 s10 s11 s12 s13 s14 s15 s16 s17 s18 s19 s20 s21 s22 s23 s24 s25 s26 s27 s28 s29 s30 s31 s32 s33 s34 s35 : Value} (w : World) (P : Nat) (n : Int) (nx now win : Int) (AS : Option Addr) (nS cS : Nat) (AW : Option Addr) (nW cW : Nat) (o' : Ot) (l : List It) (hP : P < w.heap.size)
    (p0 : w.cell? ⟨P, 0, none⟩ = some (.int .i64 nx)) (p1 : w.cell? ⟨P, 1, none⟩ = some (.slice AS nS cS)) (p2 : w.cell? ⟨P, 2, none⟩ = some (.slice AW nW cW)) (p9 : w.cell? ⟨P, 9, none⟩ = some (.int .i64 win)) (p10 : w.cell? ⟨P, 10, none⟩ = some (.int .i64 now))
    (hC : ∀ w', RowKit.Below w.heap.size w w' → Calls Try.prog 18 #[.agg #[.int .i64 nx, .slice AS nS cS, .slice AW nW cW], .int .i64 n, .int .i64 win, .int .i64 now] w' (OutRet o' l w'))
    (hK : ∀ (d6 d7 d8 d9 d10 d11 d12 d13 d14 d15 d16 d17 d18 d19 d20 d21 d22 : Value) (E : Nat) (A1 : Option Addr) (n1 c1 : Nat) (A2 : Option Addr) (n2 c2 : Nat) (T : Option Addr) (t tc : Nat) (w' : World), Blk w' E 35 #[.int .i64 o'.next, .slice A1 n1 c1, .slice A2 n2 c2] → OutAt w' (mid w.heap.size w'.heap.size) A1 n1 A2 n2 o' → n1 ≤ c1 → c1 ≤ maxLen → n2 ≤ c2 → c2 ≤ maxLen → l.length = t → Sl Rit w' (mid w.heap.size w'.heap.size) T l → Below w.heap.size w w' → w.heap.size ≤ E →
      Q .normal ⟨#[.pointer (some ⟨P, 0, none⟩), .int .i64 n, s2, s3, .pointer (some ⟨E, 0, none⟩), .slice T t tc, d6, d7, d8, d9, d10, d11, d12, d13, d14, d15, d16, d17, d18, d19, d20, d21, d22, s23, s24, s25, s26, s27, s28, s29, s30, s31, s32, s33, s34, s35], []⟩ w') :
    Code.wp Try.prog wy_ack_code Q ⟨#[.pointer (some ⟨P, 0, none⟩), .int .i64 n, s2, s3, s4, s5, s6, s7, s8, s9, s10, s11, s12, s13, s14, s15, s16, s17, s18, s19, s20, s21, s22, s23, s24, s25, s26, s27, s28, s29, s30, s31, s32, s33, s34, s35], []⟩ w := by
  have HK := Lib.hid hK; clear hK
  have HC := Lib.hid hC; clear hC
  conv => arg 2; whnf
  refine wp_region_noPanic ?_
  refine wp_region_held_drew (S := (fun w' => w'.cell? ⟨P, 0, none⟩ = some (.int .i64 nx) ∧ w'.cell? ⟨P, 1, none⟩ = some (.slice AS nS cS) ∧ w'.cell? ⟨P, 2, none⟩ = some (.slice AW nW cW) ∧ w'.cell? ⟨P, 9, none⟩ = some (.int .i64 win) ∧ w'.cell? ⟨P, 10, none⟩ = some (.int .i64 now))) (by kernel_rfl) ?_ (fun hHeld0 => ?_)
  · (try dsimp only)
    (first | (with_reducible assumption) | (go_keep; done) | (refine ⟨?_, ?_, ?_, ?_, ?_⟩ <;> (first | (with_reducible assumption) | (simp [go_sem, *]; done) | (simp (disch := (simp; try omega)) [*, World.cell?_alloc_past, World.cell?_setCell_other]; done) | (rw [World.cell?_setCell_other _ _ _ _ (by simp; try omega), World.cell?_setCell_other _ _ _ _ (by simp; try omega), World.cell?_setCell_other _ _ _ _ (by simp; try omega)]; assumption))))
  refine wpAnyH_take (i := 0) (oi := _) (v := ?v1) rfl (by kernel_rfl) (by kernel_rfl) (by kernel_rfl) (fun _ _ _ h => h) (Or.inl ⟨by rfl, ?hy1⟩) (by with_reducible assumption) ?rest1
  case hy1 => (intro w hSw; (try dsimp only at hSw); go_simp; try with_reducible rfl)
  try simp only [Act.put, List.setIfInBounds_toArray, List.set_cons_zero, List.set_cons_succ]
  refine wpAnyH_take (i := 1) (oi := _) (v := ?v2) rfl (by kernel_rfl) (by kernel_rfl) (by kernel_rfl) (fun _ _ _ h => h) (Or.inl ⟨by rfl, ?hy2⟩) (by with_reducible assumption) ?rest2
  case hy2 => (intro w hSw; (try dsimp only at hSw); go_simp; try with_reducible rfl)
  try simp only [Act.put, List.setIfInBounds_toArray, List.set_cons_zero, List.set_cons_succ]
  refine wpAnyH_take (i := 2) (oi := _) (v := ?v3) rfl (by kernel_rfl) (by kernel_rfl) (by kernel_rfl) (fun _ _ _ h => h) (Or.inl ⟨by rfl, ?hy3⟩) (by with_reducible assumption) ?rest3
  case hy3 => (intro w hSw; (try dsimp only at hSw); go_simp; try with_reducible rfl)
  try simp only [Act.put, List.setIfInBounds_toArray, List.set_cons_zero, List.set_cons_succ]
  refine wpAnyH_take (i := 3) (oi := _) (v := ?v4) rfl (by kernel_rfl) (by kernel_rfl) (by kernel_rfl) (fun _ _ _ h => h) (Or.inl ⟨by rfl, ?hy4⟩) (by with_reducible assumption) ?rest4
  case hy4 => (intro w hSw; (try dsimp only at hSw); go_simp; try with_reducible rfl)
  try simp only [Act.put, List.setIfInBounds_toArray, List.set_cons_zero, List.set_cons_succ]
  refine wpAnyH_take (i := 4) (oi := _) (v := ?v5) rfl (by kernel_rfl) (by kernel_rfl) (by kernel_rfl) (fun _ _ _ h => h) (Or.inl ⟨by rfl, ?hy5⟩) (by with_reducible assumption) ?rest5
  case hy5 => (intro w hSw; (try dsimp only at hSw); go_simp; try with_reducible rfl)
  try simp only [Act.put, List.setIfInBounds_toArray, List.set_cons_zero, List.set_cons_succ]
  refine wpAnyH_take (i := 5) (oi := _) (v := ?v6) rfl (by kernel_rfl) (by kernel_rfl) (by kernel_rfl) (fun _ _ _ h => h) (Or.inl ⟨by rfl, ?hy6⟩) (by with_reducible assumption) ?rest6
  case hy6 => (intro w hSw; (try dsimp only at hSw); go_simp; try with_reducible rfl)
  try simp only [Act.put, List.setIfInBounds_toArray, List.set_cons_zero, List.set_cons_succ]
  refine wpAnyH_take (i := 6) (oi := _) (v := ?v7) rfl (by kernel_rfl) (by kernel_rfl) (by kernel_rfl) (fun _ _ _ h => h) (Or.inl ⟨by rfl, ?hy7⟩) (by with_reducible assumption) ?rest7
  case hy7 => (intro w hSw; (try dsimp only at hSw); go_simp; try with_reducible rfl)
  try simp only [Act.put, List.setIfInBounds_toArray, List.set_cons_zero, List.set_cons_succ]
  refine wpAnyH_take (i := 7) (oi := _) (v := ?v8) rfl (by kernel_rfl) (by kernel_rfl) (by kernel_rfl) (fun _ _ _ h => h) (Or.inl ⟨by rfl, ?hy8⟩) (by with_reducible assumption) ?rest8
  case hy8 => (intro w hSw; (try dsimp only at hSw); go_simp; try with_reducible rfl)
  try simp only [Act.put, List.setIfInBounds_toArray, List.set_cons_zero, List.set_cons_succ]
  refine wpAnyH_take (i := 8) (oi := _) (v := ?v9) rfl (by kernel_rfl) (by kernel_rfl) (by kernel_rfl) (fun _ _ _ h => h) (Or.inl ⟨by rfl, ?hy9⟩) (by with_reducible assumption) ?rest9
  case hy9 => (intro w hSw; (try dsimp only at hSw); go_simp; try with_reducible rfl)
  try simp only [Act.put, List.setIfInBounds_toArray, List.set_cons_zero, List.set_cons_succ]
  refine wpAnyH_take (i := 9) (oi := _) (v := ?v10) rfl (by kernel_rfl) (by kernel_rfl) (by kernel_rfl) (fun _ _ _ h => h) (Or.inl ⟨by rfl, ?hy10⟩) (by with_reducible assumption) ?rest10
  case hy10 => (intro w hSw; (try dsimp only at hSw); go_simp; try with_reducible rfl)
  try simp only [Act.put, List.setIfInBounds_toArray, List.set_cons_zero, List.set_cons_succ]
  refine wpAnyH_take (i := 10) (oi := _) (v := ?v11) rfl (by kernel_rfl) (by kernel_rfl) (by kernel_rfl) (fun _ _ _ h => h) (Or.inl ⟨by rfl, ?hy11⟩) (by with_reducible assumption) ?rest11
  case hy11 => (intro w hSw; (try dsimp only at hSw); go_simp; try with_reducible rfl)
  try simp only [Act.put, List.setIfInBounds_toArray, List.set_cons_zero, List.set_cons_succ]
  refine wpAnyH_take (i := 11) (oi := _) (v := ?v12) rfl (by kernel_rfl) (by kernel_rfl) (by kernel_rfl) (fun _ _ _ h => h) (Or.inl ⟨by rfl, ?hy12⟩) (by with_reducible assumption) ?rest12
  case hy12 => (intro w hSw; (try dsimp only at hSw); go_simp; try with_reducible rfl)
  try simp only [Act.put, List.setIfInBounds_toArray, List.set_cons_zero, List.set_cons_succ]
  refine wpAnyH_take (i := 12) (oi := _) (v := ?v13) rfl (by kernel_rfl) (by kernel_rfl) (by kernel_rfl) (fun _ _ _ h => h) (Or.inl ⟨by rfl, ?hy13⟩) (by with_reducible assumption) ?rest13
  case hy13 => (intro w hSw; (try dsimp only at hSw); go_simp; try with_reducible rfl)
  try simp only [Act.put, List.setIfInBounds_toArray, List.set_cons_zero, List.set_cons_succ]
  refine wpAnyH_ready (rs := [13, 17]) (by kernel_rfl) (by simp) ?_
  refine (AllReadyH.cons (o := _) rfl (fun K hK => ?_) (AllReadyH.cons (o := _) rfl (fun K hK => ?_) AllReadyH.nil))
  · skip
    go_simp
    refine (HC.out _ (by first | exact (Below.refl _ _).drew | exact ((Below.refl _ _).alloc (Nat.le_refl _) _).drew)).mono ?_
    rintro en w1 ⟨A1, n1, c1, A2, n2, c2, T, t, tc, rfl, ho1, l1, l2, l3, l4, ht, hox, hb1⟩
    have z1 : w.heap.size ≤ w1.heap.size := by (have h9 := hb1.size; simp at h9; omega)
    have hbb : RowKit.Below w.heap.size w w1 := by
      first
        | exact ((Below.refl w.heap.size w).drew).trans hb1
        | exact (((Below.refl w.heap.size w).alloc (Nat.le_refl _) _).drew).trans (hb1.mono (by simp))
    have q0 : w1.cell? ⟨P, 0, none⟩ = some (.int .i64 nx) := (hbb.cell (p := ⟨P, 0, none⟩) hP).trans p0
    have q1 : w1.cell? ⟨P, 1, none⟩ = some (.slice AS nS cS) := (hbb.cell (p := ⟨P, 1, none⟩) hP).trans p1
    have q2 : w1.cell? ⟨P, 2, none⟩ = some (.slice AW nW cW) := (hbb.cell (p := ⟨P, 2, none⟩) hP).trans p2
    have q9 : w1.cell? ⟨P, 9, none⟩ = some (.int .i64 win) := (hbb.cell (p := ⟨P, 9, none⟩) hP).trans p9
    have q10 : w1.cell? ⟨P, 10, none⟩ = some (.int .i64 now) := (hbb.cell (p := ⟨P, 10, none⟩) hP).trans p10
    have hsl := hox.sl.2.2.2
    have H1 := Lib.hid (And.intro ho1 (And.intro l1 (And.intro l2 (And.intro l3 (And.intro l4 (And.intro ht (And.intro hsl hbb)))))))
    try (have gE := Blk.below (w := (w.alloc (.cells #[.int .i64 0, .slice none 0 0, .slice none 0 0] 35)).drew) (g := w.heap.size) (Blk.new w _ _ rfl) hb1 (by simp)
         have i0 := gE.cell 0 (v := .int .i64 0) rfl; have i1 := gE.cell 1 (v := .slice none 0 0) rfl; have i2 := gE.cell 2 (v := .slice none 0 0) rfl
         have fE := gE.frozen
         have zE : w.heap.size < w1.heap.size := gE.lt
         have HGE := Lib.hid gE
         clear gE)
    clear ho1 l1 l2 l3 l4 ht hox hsl hbb hb1
    try dsimp only
    refine hK.out _ _ ?_ (fun hHeld14 => ?_)
    · (try dsimp only)
      (first | (with_reducible assumption) | (go_keep; done) | (refine ⟨?_, ?_, ?_, ?_, ?_⟩ <;> (first | (with_reducible assumption) | (simp [go_sem, *]; done) | (simp (disch := (simp; try omega)) [*, World.cell?_alloc_past, World.cell?_setCell_other]; done) | (rw [World.cell?_setCell_other _ _ _ _ (by simp; try omega), World.cell?_setCell_other _ _ _ _ (by simp; try omega), World.cell?_setCell_other _ _ _ _ (by simp; try omega)]; assumption))))
    clear hK K hHeld0
    try simp only [Act.put, List.setIfInBounds_toArray, List.set_cons_zero, List.set_cons_succ]
    refine wpAnyH_take (i := 14) (oi := _) (v := ?v15) rfl (by kernel_rfl) (by kernel_rfl) (by kernel_rfl) (fun _ _ _ h => h) (Or.inl ⟨by rfl, ?hy15⟩) (by with_reducible assumption) ?rest15
    case hy15 => (intro w hSw; (try dsimp only at hSw); go_simp; try with_reducible rfl)
    try simp only [Act.put, List.setIfInBounds_toArray, List.set_cons_zero, List.set_cons_succ]
    refine wpAnyH_take (i := 15) (oi := _) (v := ?v16) rfl (by kernel_rfl) (by kernel_rfl) (by kernel_rfl) (fun _ _ _ h => h) (Or.inl ⟨by rfl, ?hy16⟩) (by with_reducible assumption) ?rest16
    case hy16 => (intro w hSw; (try dsimp only at hSw); go_simp; try with_reducible rfl)
    try simp only [Act.put, List.setIfInBounds_toArray, List.set_cons_zero, List.set_cons_succ]
    refine wpAnyH_take (i := 16) (oi := _) (v := ?v17) rfl (by kernel_rfl) (by kernel_rfl) (by kernel_rfl) (fun _ _ _ h => h) (Or.inl ⟨by rfl, ?hy17⟩) (by with_reducible assumption) ?rest17
    case hy17 => (intro w hSw; (try dsimp only at hSw); go_simp; try with_reducible rfl)
    try simp only [Act.put, List.setIfInBounds_toArray, List.set_cons_zero, List.set_cons_succ]
    refine wpAnyH_ready (rs := [17]) (by kernel_rfl) (by simp) ?_
    refine (AllReadyH.cons (o := _) rfl (fun K hK => ?_) AllReadyH.nil)
    go_simp
    refine hK.out _ _ ?_ (fun hHeld18 => ?_)
    · (try dsimp only)
      (first | (with_reducible assumption) | (go_keep; done) | (refine ⟨?_, ?_, ?_, ?_, ?_⟩ <;> (first | (with_reducible assumption) | (simp [go_sem, *]; done) | (simp (disch := (simp; try omega)) [*, World.cell?_alloc_past, World.cell?_setCell_other]; done) | (rw [World.cell?_setCell_other _ _ _ _ (by simp; try omega), World.cell?_setCell_other _ _ _ _ (by simp; try omega), World.cell?_setCell_other _ _ _ _ (by simp; try omega)]; assumption))))
    clear hK K hHeld14
    try simp only [Act.put, List.setIfInBounds_toArray, List.set_cons_zero, List.set_cons_succ]
    refine wpAnyH_ready (rs := [18]) (by kernel_rfl) (by simp) ?_
    refine (AllReadyH.cons (o := _) rfl (fun K hK => ?_) AllReadyH.nil)
    go_simp
    refine hK.out _ _ ?_ (fun hHeld19 => ?_)
    · (try dsimp only)
      (first | (with_reducible assumption) | (go_keep; done) | (refine ⟨?_, ?_, ?_, ?_, ?_⟩ <;> (first | (with_reducible assumption) | (simp [go_sem, *]; done) | (simp (disch := (simp; try omega)) [*, World.cell?_alloc_past, World.cell?_setCell_other]; done) | (rw [World.cell?_setCell_other _ _ _ _ (by simp; try omega), World.cell?_setCell_other _ _ _ _ (by simp; try omega), World.cell?_setCell_other _ _ _ _ (by simp; try omega)]; assumption))))
    clear hK K hHeld18
    try simp only [Act.put, List.setIfInBounds_toArray, List.set_cons_zero, List.set_cons_succ]
    refine wpAnyH_take (i := 19) (oi := _) (v := ?v20) rfl (by kernel_rfl) (by kernel_rfl) (by kernel_rfl) (fun _ _ _ h => h) (Or.inl ⟨by rfl, ?hy20⟩) (by with_reducible assumption) ?rest20
    case hy20 => (intro w hSw; (try dsimp only at hSw); go_simp; try with_reducible rfl)
    try simp only [Act.put, List.setIfInBounds_toArray, List.set_cons_zero, List.set_cons_succ]
    refine wpAnyH_done (by kernel_rfl) ?_ _
    refine NoPanic.normal ?_
    clear hHeld19
    obtain ⟨ho1, l1, l2, l3, l4, ht, hsl, hbb⟩ := H1.out
    first
      | exact HK.out _ _ _ _ _ _ _ _ _ _ _ _ _ _ _ _ _ w.heap.size A1 n1 c1 A2 n2 c2 T t tc _ (((HGE.out.set 0 _).set 1 _).set 2 _) (ho1.keep (fun p hp => World.cell?_of_block ((Below.heap_setCell _ ⟨w.heap.size, 2, none⟩ _ _ (by have h9 := hp.1; simp at h9; show p.block ≠ w.heap.size; omega)).trans ((Below.heap_setCell _ ⟨w.heap.size, 1, none⟩ _ _ (by have h9 := hp.1; simp at h9; show p.block ≠ w.heap.size; omega)).trans (Below.heap_setCell _ ⟨w.heap.size, 0, none⟩ _ _ (by have h9 := hp.1; simp at h9; show p.block ≠ w.heap.size; omega))))) (fun b hb => ⟨by have h9 := hb.1; simp at h9; omega, by have h9 := hb.2; simpa [World.setCell] using h9⟩)) l1 l2 l3 l4 ht (hsl.keep (fun p hp => World.cell?_of_block ((Below.heap_setCell _ ⟨w.heap.size, 2, none⟩ _ _ (by have h9 := hp.1; simp at h9; show p.block ≠ w.heap.size; omega)).trans ((Below.heap_setCell _ ⟨w.heap.size, 1, none⟩ _ _ (by have h9 := hp.1; simp at h9; show p.block ≠ w.heap.size; omega)).trans (Below.heap_setCell _ ⟨w.heap.size, 0, none⟩ _ _ (by have h9 := hp.1; simp at h9; show p.block ≠ w.heap.size; omega))))) (fun b hb => ⟨by have h9 := hb.1; simp at h9; omega, by have h9 := hb.2.1; simpa [World.setCell] using h9⟩)) (((hbb.setCell (p := ⟨w.heap.size, 0, none⟩) (Nat.le_refl _) _).setCell (p := ⟨w.heap.size, 1, none⟩) (Nat.le_refl _) _).setCell (p := ⟨w.heap.size, 2, none⟩) (Nat.le_refl _) _) (Nat.le_refl _)
      | exact HK.out _ _ _ _ _ _ _ _ _ _ _ _ _ _ _ _ _ w1.heap.size A1 n1 c1 A2 n2 c2 T t tc _ (Blk.new _ _ _ rfl) (ho1.keep (fun p hp => World.cell?_alloc_lt _ _ _ hp.2) (fun b hb => ⟨by have h9 := hb.1; simpa using h9, by have h9 := hb.2; simp; omega⟩)) l1 l2 l3 l4 ht (hsl.keep (fun p hp => World.cell?_alloc_lt _ _ _ hp.2.1) (fun b hb => ⟨by have h9 := hb.1; simpa using h9, by have h9 := hb.2.1; simp; omega⟩)) (hbb.alloc z1 _) z1
  · skip
    go_simp
    refine hK.out _ _ ?_ (fun hHeld21 => ?_)
    · (try dsimp only)
      (first | (with_reducible assumption) | (go_keep; done) | (refine ⟨?_, ?_, ?_, ?_, ?_⟩ <;> (first | (with_reducible assumption) | (simp [go_sem, *]; done) | (simp (disch := (simp; try omega)) [*, World.cell?_alloc_past, World.cell?_setCell_other]; done) | (rw [World.cell?_setCell_other _ _ _ _ (by simp; try omega), World.cell?_setCell_other _ _ _ _ (by simp; try omega), World.cell?_setCell_other _ _ _ _ (by simp; try omega)]; assumption))))
    clear hK K hHeld0
    try simp only [Act.put, List.setIfInBounds_toArray, List.set_cons_zero, List.set_cons_succ]
    refine wpAnyH_ready (rs := [13]) (by kernel_rfl) (by simp) ?_
    refine (AllReadyH.cons (o := _) rfl (fun K hK => ?_) AllReadyH.nil)
    go_simp
    refine (HC.out _ (by first | exact (Below.refl _ _).drew | exact ((Below.refl _ _).alloc (Nat.le_refl _) _).drew)).mono ?_
    rintro en w1 ⟨A1, n1, c1, A2, n2, c2, T, t, tc, rfl, ho1, l1, l2, l3, l4, ht, hox, hb1⟩
    have z1 : w.heap.size ≤ w1.heap.size := by (have h9 := hb1.size; simp at h9; omega)
    have hbb : RowKit.Below w.heap.size w w1 := by
      first
        | exact ((Below.refl w.heap.size w).drew).trans hb1
        | exact (((Below.refl w.heap.size w).alloc (Nat.le_refl _) _).drew).trans (hb1.mono (by simp))
    have q0 : w1.cell? ⟨P, 0, none⟩ = some (.int .i64 nx) := (hbb.cell (p := ⟨P, 0, none⟩) hP).trans p0
    have q1 : w1.cell? ⟨P, 1, none⟩ = some (.slice AS nS cS) := (hbb.cell (p := ⟨P, 1, none⟩) hP).trans p1
    have q2 : w1.cell? ⟨P, 2, none⟩ = some (.slice AW nW cW) := (hbb.cell (p := ⟨P, 2, none⟩) hP).trans p2
    have q9 : w1.cell? ⟨P, 9, none⟩ = some (.int .i64 win) := (hbb.cell (p := ⟨P, 9, none⟩) hP).trans p9
    have q10 : w1.cell? ⟨P, 10, none⟩ = some (.int .i64 now) := (hbb.cell (p := ⟨P, 10, none⟩) hP).trans p10
    have hsl := hox.sl.2.2.2
    have H1 := Lib.hid (And.intro ho1 (And.intro l1 (And.intro l2 (And.intro l3 (And.intro l4 (And.intro ht (And.intro hsl hbb)))))))
    try (have gE := Blk.below (w := (w.alloc (.cells #[.int .i64 0, .slice none 0 0, .slice none 0 0] 35)).drew) (g := w.heap.size) (Blk.new w _ _ rfl) hb1 (by simp)
         have i0 := gE.cell 0 (v := .int .i64 0) rfl; have i1 := gE.cell 1 (v := .slice none 0 0) rfl; have i2 := gE.cell 2 (v := .slice none 0 0) rfl
         have fE := gE.frozen
         have zE : w.heap.size < w1.heap.size := gE.lt
         have HGE := Lib.hid gE
         clear gE)
    clear ho1 l1 l2 l3 l4 ht hox hsl hbb hb1
    try dsimp only
    refine hK.out _ _ ?_ (fun hHeld22 => ?_)
    · (try dsimp only)
      (first | (with_reducible assumption) | (go_keep; done) | (refine ⟨?_, ?_, ?_, ?_, ?_⟩ <;> (first | (with_reducible assumption) | (simp [go_sem, *]; done) | (simp (disch := (simp; try omega)) [*, World.cell?_alloc_past, World.cell?_setCell_other]; done) | (rw [World.cell?_setCell_other _ _ _ _ (by simp; try omega), World.cell?_setCell_other _ _ _ _ (by simp; try omega), World.cell?_setCell_other _ _ _ _ (by simp; try omega)]; assumption))))
    clear hK K hHeld21
    try simp only [Act.put, List.setIfInBounds_toArray, List.set_cons_zero, List.set_cons_succ]
    refine wpAnyH_take (i := 14) (oi := _) (v := ?v23) rfl (by kernel_rfl) (by kernel_rfl) (by kernel_rfl) (fun _ _ _ h => h) (Or.inl ⟨by rfl, ?hy23⟩) (by with_reducible assumption) ?rest23
    case hy23 => (intro w hSw; (try dsimp only at hSw); go_simp; try with_reducible rfl)
    try simp only [Act.put, List.setIfInBounds_toArray, List.set_cons_zero, List.set_cons_succ]
    refine wpAnyH_take (i := 15) (oi := _) (v := ?v24) rfl (by kernel_rfl) (by kernel_rfl) (by kernel_rfl) (fun _ _ _ h => h) (Or.inl ⟨by rfl, ?hy24⟩) (by with_reducible assumption) ?rest24
    case hy24 => (intro w hSw; (try dsimp only at hSw); go_simp; try with_reducible rfl)
    try simp only [Act.put, List.setIfInBounds_toArray, List.set_cons_zero, List.set_cons_succ]
    refine wpAnyH_take (i := 16) (oi := _) (v := ?v25) rfl (by kernel_rfl) (by kernel_rfl) (by kernel_rfl) (fun _ _ _ h => h) (Or.inl ⟨by rfl, ?hy25⟩) (by with_reducible assumption) ?rest25
    case hy25 => (intro w hSw; (try dsimp only at hSw); go_simp; try with_reducible rfl)
    try simp only [Act.put, List.setIfInBounds_toArray, List.set_cons_zero, List.set_cons_succ]
    refine wpAnyH_ready (rs := [18]) (by kernel_rfl) (by simp) ?_
    refine (AllReadyH.cons (o := _) rfl (fun K hK => ?_) AllReadyH.nil)
    go_simp
    refine hK.out _ _ ?_ (fun hHeld26 => ?_)
    · (try dsimp only)
      (first | (with_reducible assumption) | (go_keep; done) | (refine ⟨?_, ?_, ?_, ?_, ?_⟩ <;> (first | (with_reducible assumption) | (simp [go_sem, *]; done) | (simp (disch := (simp; try omega)) [*, World.cell?_alloc_past, World.cell?_setCell_other]; done) | (rw [World.cell?_setCell_other _ _ _ _ (by simp; try omega), World.cell?_setCell_other _ _ _ _ (by simp; try omega), World.cell?_setCell_other _ _ _ _ (by simp; try omega)]; assumption))))
    clear hK K hHeld22
    try simp only [Act.put, List.setIfInBounds_toArray, List.set_cons_zero, List.set_cons_succ]
    refine wpAnyH_take (i := 19) (oi := _) (v := ?v27) rfl (by kernel_rfl) (by kernel_rfl) (by kernel_rfl) (fun _ _ _ h => h) (Or.inl ⟨by rfl, ?hy27⟩) (by with_reducible assumption) ?rest27
    case hy27 => (intro w hSw; (try dsimp only at hSw); go_simp; try with_reducible rfl)
    try simp only [Act.put, List.setIfInBounds_toArray, List.set_cons_zero, List.set_cons_succ]
    refine wpAnyH_done (by kernel_rfl) ?_ _
    refine NoPanic.normal ?_
    clear hHeld26
    obtain ⟨ho1, l1, l2, l3, l4, ht, hsl, hbb⟩ := H1.out
    first
      | exact HK.out _ _ _ _ _ _ _ _ _ _ _ _ _ _ _ _ _ w.heap.size A1 n1 c1 A2 n2 c2 T t tc _ (((HGE.out.set 0 _).set 1 _).set 2 _) (ho1.keep (fun p hp => World.cell?_of_block ((Below.heap_setCell _ ⟨w.heap.size, 2, none⟩ _ _ (by have h9 := hp.1; simp at h9; show p.block ≠ w.heap.size; omega)).trans ((Below.heap_setCell _ ⟨w.heap.size, 1, none⟩ _ _ (by have h9 := hp.1; simp at h9; show p.block ≠ w.heap.size; omega)).trans (Below.heap_setCell _ ⟨w.heap.size, 0, none⟩ _ _ (by have h9 := hp.1; simp at h9; show p.block ≠ w.heap.size; omega))))) (fun b hb => ⟨by have h9 := hb.1; simp at h9; omega, by have h9 := hb.2; simpa [World.setCell] using h9⟩)) l1 l2 l3 l4 ht (hsl.keep (fun p hp => World.cell?_of_block ((Below.heap_setCell _ ⟨w.heap.size, 2, none⟩ _ _ (by have h9 := hp.1; simp at h9; show p.block ≠ w.heap.size; omega)).trans ((Below.heap_setCell _ ⟨w.heap.size, 1, none⟩ _ _ (by have h9 := hp.1; simp at h9; show p.block ≠ w.heap.size; omega)).trans (Below.heap_setCell _ ⟨w.heap.size, 0, none⟩ _ _ (by have h9 := hp.1; simp at h9; show p.block ≠ w.heap.size; omega))))) (fun b hb => ⟨by have h9 := hb.1; simp at h9; omega, by have h9 := hb.2.1; simpa [World.setCell] using h9⟩)) (((hbb.setCell (p := ⟨w.heap.size, 0, none⟩) (Nat.le_refl _) _).setCell (p := ⟨w.heap.size, 1, none⟩) (Nat.le_refl _) _).setCell (p := ⟨w.heap.size, 2, none⟩) (Nat.le_refl _) _) (Nat.le_refl _)
      | exact HK.out _ _ _ _ _ _ _ _ _ _ _ _ _ _ _ _ _ w1.heap.size A1 n1 c1 A2 n2 c2 T t tc _ (Blk.new _ _ _ rfl) (ho1.keep (fun p hp => World.cell?_alloc_lt _ _ _ hp.2) (fun b hb => ⟨by have h9 := hb.1; simpa using h9, by have h9 := hb.2; simp; omega⟩)) l1 l2 l3 l4 ht (hsl.keep (fun p hp => World.cell?_alloc_lt _ _ _ hp.2.1) (fun b hb => ⟨by have h9 := hb.1; simpa using h9, by have h9 := hb.2.1; simp; omega⟩)) (hbb.alloc z1 _) z1
noncomputable def wy_send_code : Code := regionOf Try.f20 8
set_option maxRecDepth 100000 in
set_option maxHeartbeats 4000000 in
theorem wy_send {Q : Exit → Act → World → Prop} {s1 s2 s3 s4 s6 s7 s8 s9 s10 s11 s12 s13 s14 s15 s16 s17 s18 s19 s20 s21 s22 s23 s24 s25 s26 s27 s28 s29 s30 s31 s32 s33 s34 s35 s36 s37 s38 s39 s40 s41 s42 s43 s44 s45 s46 s47 s48 s49 s50 s51 s52 s53 s54 s55 s56 s57 s58 s59 s60 s61 s62 s63 s64 s65 s66 s67 s68 s69 s70 s71 s72 s73 s74 s75 s76 s77 s78 s79 s80 s81 s82 s83 s84 s85 s86 s87 s88 s89 s90 s91 s92 s93 s94 s95 s96 s97 s98 s99 s100 s101 s102 s103 s104 s105 s106 s107 s108 s109 s110 s111 s112 s113 s114 s115 s116 s117 s118 s119 s120 s121 s122 s123 s124 s125 s126 s127 s128 s129 s130 s131 s132 s133 s134 s135 s136 s137 s138 s139 s140 s141 s142 : Value} (w : World) (P : Nat) (TB : Option Addr) (nb cb : Nat) (nx now win : Int) (AS : Option Addr) (nS cS : Nat) (AW : Option Addr) (nW cW : Nat) (o' : Ot) (l : List It) (hP : P < w.heap.size)
    (p0 : w.cell? ⟨P, 0, none⟩ = some (.int .i64 nx)) (p1 : w.cell? ⟨P, 1, none⟩ = some (.slice AS nS cS)) (p2 : w.cell? ⟨P, 2, none⟩ = some (.slice AW nW cW)) (p9 : w.cell? ⟨P, 9, none⟩ = some (.int .i64 win)) (p10 : w.cell? ⟨P, 10, none⟩ = some (.int .i64 now))
    (hC : ∀ w', RowKit.Below w.heap.size w w' → Calls Try.prog 17 #[.agg #[.int .i64 nx, .slice AS nS cS, .slice AW nW cW], .slice TB nb cb, .int .i64 win, .int .i64 now] w' (OutRet o' l w'))
    (hK : ∀ (d57 d58 d59 d60 d61 d62 d63 d64 d65 d66 d67 d68 d69 d70 d71 d72 d73 : Value) (E : Nat) (A1 : Option Addr) (n1 c1 : Nat) (A2 : Option Addr) (n2 c2 : Nat) (T : Option Addr) (t tc : Nat) (w' : World), Blk w' E 35 #[.int .i64 o'.next, .slice A1 n1 c1, .slice A2 n2 c2] → OutAt w' (mid w.heap.size w'.heap.size) A1 n1 A2 n2 o' → n1 ≤ c1 → c1 ≤ maxLen → n2 ≤ c2 → c2 ≤ maxLen → l.length = t → Sl Rit w' (mid w.heap.size w'.heap.size) T l → Below w.heap.size w w' → w.heap.size ≤ E →
      Q .normal ⟨#[.pointer (some ⟨P, 0, none⟩), s1, s2, s3, s4, .slice TB nb cb, .pointer (some ⟨E, 0, none⟩), .slice T t tc, s8, s9, s10, s11, s12, s13, s14, s15, s16, s17, s18, s19, s20, s21, s22, s23, s24, s25, s26, s27, s28, s29, s30, s31, s32, s33, s34, s35, s36, s37, s38, s39, s40, s41, s42, s43, s44, s45, s46, s47, s48, s49, s50, s51, s52, s53, s54, s55, s56, d57, d58, d59, d60, d61, d62, d63, d64, d65, d66, d67, d68, d69, d70, d71, d72, d73, s74, s75, s76, s77, s78, s79, s80, s81, s82, s83, s84, s85, s86, s87, s88, s89, s90, s91, s92, s93, s94, s95, s96, s97, s98, s99, s100, s101, s102, s103, s104, s105, s106, s107, s108, s109, s110, s111, s112, s113, s114, s115, s116, s117, s118, s119, s120, s121, s122, s123, s124, s125, s126, s127, s128, s129, s130, s131, s132, s133, s134, s135, s136, s137, s138, s139, s140, s141, s142], []⟩ w') :
    Code.wp Try.prog wy_send_code Q ⟨#[.pointer (some ⟨P, 0, none⟩), s1, s2, s3, s4, .slice TB nb cb, s6, s7, s8, s9, s10, s11, s12, s13, s14, s15, s16, s17, s18, s19, s20, s21, s22, s23, s24, s25, s26, s27, s28, s29, s30, s31, s32, s33, s34, s35, s36, s37, s38, s39, s40, s41, s42, s43, s44, s45, s46, s47, s48, s49, s50, s51, s52, s53, s54, s55, s56, s57, s58, s59, s60, s61, s62, s63, s64, s65, s66, s67, s68, s69, s70, s71, s72, s73, s74, s75, s76, s77, s78, s79, s80, s81, s82, s83, s84, s85, s86, s87, s88, s89, s90, s91, s92, s93, s94, s95, s96, s97, s98, s99, s100, s101, s102, s103, s104, s105, s106, s107, s108, s109, s110, s111, s112, s113, s114, s115, s116, s117, s118, s119, s120, s121, s122, s123, s124, s125, s126, s127, s128, s129, s130, s131, s132, s133, s134, s135, s136, s137, s138, s139, s140, s141, s142], []⟩ w := by
  have HK := Lib.hid hK; clear hK
  have HC := Lib.hid hC; clear hC
  conv => arg 2; whnf
  refine wp_region_noPanic ?_
  refine wp_region_held_drew (S := (fun w' => w'.cell? ⟨P, 0, none⟩ = some (.int .i64 nx) ∧ w'.cell? ⟨P, 1, none⟩ = some (.slice AS nS cS) ∧ w'.cell? ⟨P, 2, none⟩ = some (.slice AW nW cW) ∧ w'.cell? ⟨P, 9, none⟩ = some (.int .i64 win) ∧ w'.cell? ⟨P, 10, none⟩ = some (.int .i64 now))) (by kernel_rfl) ?_ (fun hHeld0 => ?_)
  · (try dsimp only)
    (first | (with_reducible assumption) | (go_keep; done) | (refine ⟨?_, ?_, ?_, ?_, ?_⟩ <;> (first | (with_reducible assumption) | (simp [go_sem, *]; done) | (simp (disch := (simp; try omega)) [*, World.cell?_alloc_past, World.cell?_setCell_other]; done) | (rw [World.cell?_setCell_other _ _ _ _ (by simp; try omega), World.cell?_setCell_other _ _ _ _ (by simp; try omega), World.cell?_setCell_other _ _ _ _ (by simp; try omega)]; assumption))))
  refine wpAnyH_take (i := 0) (oi := _) (v := ?v1) rfl (by kernel_rfl) (by kernel_rfl) (by kernel_rfl) (fun _ _ _ h => h) (Or.inl ⟨by rfl, ?hy1⟩) (by with_reducible assumption) ?rest1
  case hy1 => (intro w hSw; (try dsimp only at hSw); go_simp; try with_reducible rfl)
  try simp only [Act.put, List.setIfInBounds_toArray, List.set_cons_zero, List.set_cons_succ]
  refine wpAnyH_take (i := 1) (oi := _) (v := ?v2) rfl (by kernel_rfl) (by kernel_rfl) (by kernel_rfl) (fun _ _ _ h => h) (Or.inl ⟨by rfl, ?hy2⟩) (by with_reducible assumption) ?rest2
  case hy2 => (intro w hSw; (try dsimp only at hSw); go_simp; try with_reducible rfl)
  try simp only [Act.put, List.setIfInBounds_toArray, List.set_cons_zero, List.set_cons_succ]
  refine wpAnyH_take (i := 2) (oi := _) (v := ?v3) rfl (by kernel_rfl) (by kernel_rfl) (by kernel_rfl) (fun _ _ _ h => h) (Or.inl ⟨by rfl, ?hy3⟩) (by with_reducible assumption) ?rest3
  case hy3 => (intro w hSw; (try dsimp only at hSw); go_simp; try with_reducible rfl)
  try simp only [Act.put, List.setIfInBounds_toArray, List.set_cons_zero, List.set_cons_succ]
  refine wpAnyH_take (i := 3) (oi := _) (v := ?v4) rfl (by kernel_rfl) (by kernel_rfl) (by kernel_rfl) (fun _ _ _ h => h) (Or.inl ⟨by rfl, ?hy4⟩) (by with_reducible assumption) ?rest4
  case hy4 => (intro w hSw; (try dsimp only at hSw); go_simp; try with_reducible rfl)
  try simp only [Act.put, List.setIfInBounds_toArray, List.set_cons_zero, List.set_cons_succ]
  refine wpAnyH_take (i := 4) (oi := _) (v := ?v5) rfl (by kernel_rfl) (by kernel_rfl) (by kernel_rfl) (fun _ _ _ h => h) (Or.inl ⟨by rfl, ?hy5⟩) (by with_reducible assumption) ?rest5
  case hy5 => (intro w hSw; (try dsimp only at hSw); go_simp; try with_reducible rfl)
  try simp only [Act.put, List.setIfInBounds_toArray, List.set_cons_zero, List.set_cons_succ]
  refine wpAnyH_take (i := 5) (oi := _) (v := ?v6) rfl (by kernel_rfl) (by kernel_rfl) (by kernel_rfl) (fun _ _ _ h => h) (Or.inl ⟨by rfl, ?hy6⟩) (by with_reducible assumption) ?rest6
  case hy6 => (intro w hSw; (try dsimp only at hSw); go_simp; try with_reducible rfl)
  try simp only [Act.put, List.setIfInBounds_toArray, List.set_cons_zero, List.set_cons_succ]
  refine wpAnyH_take (i := 6) (oi := _) (v := ?v7) rfl (by kernel_rfl) (by kernel_rfl) (by kernel_rfl) (fun _ _ _ h => h) (Or.inl ⟨by rfl, ?hy7⟩) (by with_reducible assumption) ?rest7
  case hy7 => (intro w hSw; (try dsimp only at hSw); go_simp; try with_reducible rfl)
  try simp only [Act.put, List.setIfInBounds_toArray, List.set_cons_zero, List.set_cons_succ]
  refine wpAnyH_take (i := 7) (oi := _) (v := ?v8) rfl (by kernel_rfl) (by kernel_rfl) (by kernel_rfl) (fun _ _ _ h => h) (Or.inl ⟨by rfl, ?hy8⟩) (by with_reducible assumption) ?rest8
  case hy8 => (intro w hSw; (try dsimp only at hSw); go_simp; try with_reducible rfl)
  try simp only [Act.put, List.setIfInBounds_toArray, List.set_cons_zero, List.set_cons_succ]
  refine wpAnyH_take (i := 8) (oi := _) (v := ?v9) rfl (by kernel_rfl) (by kernel_rfl) (by kernel_rfl) (fun _ _ _ h => h) (Or.inl ⟨by rfl, ?hy9⟩) (by with_reducible assumption) ?rest9
  case hy9 => (intro w hSw; (try dsimp only at hSw); go_simp; try with_reducible rfl)
  try simp only [Act.put, List.setIfInBounds_toArray, List.set_cons_zero, List.set_cons_succ]
  refine wpAnyH_take (i := 9) (oi := _) (v := ?v10) rfl (by kernel_rfl) (by kernel_rfl) (by kernel_rfl) (fun _ _ _ h => h) (Or.inl ⟨by rfl, ?hy10⟩) (by with_reducible assumption) ?rest10
  case hy10 => (intro w hSw; (try dsimp only at hSw); go_simp; try with_reducible rfl)
  try simp only [Act.put, List.setIfInBounds_toArray, List.set_cons_zero, List.set_cons_succ]
  refine wpAnyH_take (i := 10) (oi := _) (v := ?v11) rfl (by kernel_rfl) (by kernel_rfl) (by kernel_rfl) (fun _ _ _ h => h) (Or.inl ⟨by rfl, ?hy11⟩) (by with_reducible assumption) ?rest11
  case hy11 => (intro w hSw; (try dsimp only at hSw); go_simp; try with_reducible rfl)
  try simp only [Act.put, List.setIfInBounds_toArray, List.set_cons_zero, List.set_cons_succ]
  refine wpAnyH_take (i := 11) (oi := _) (v := ?v12) rfl (by kernel_rfl) (by kernel_rfl) (by kernel_rfl) (fun _ _ _ h => h) (Or.inl ⟨by rfl, ?hy12⟩) (by with_reducible assumption) ?rest12
  case hy12 => (intro w hSw; (try dsimp only at hSw); go_simp; try with_reducible rfl)
  try simp only [Act.put, List.setIfInBounds_toArray, List.set_cons_zero, List.set_cons_succ]
  refine wpAnyH_take (i := 12) (oi := _) (v := ?v13) rfl (by kernel_rfl) (by kernel_rfl) (by kernel_rfl) (fun _ _ _ h => h) (Or.inl ⟨by rfl, ?hy13⟩) (by with_reducible assumption) ?rest13
  case hy13 => (intro w hSw; (try dsimp only at hSw); go_simp; try with_reducible rfl)
  try simp only [Act.put, List.setIfInBounds_toArray, List.set_cons_zero, List.set_cons_succ]
  refine wpAnyH_ready (rs := [13, 17]) (by kernel_rfl) (by simp) ?_
  refine (AllReadyH.cons (o := _) rfl (fun K hK => ?_) (AllReadyH.cons (o := _) rfl (fun K hK => ?_) AllReadyH.nil))
  · skip
    go_simp
    refine (HC.out _ (by first | exact (Below.refl _ _).drew | exact ((Below.refl _ _).alloc (Nat.le_refl _) _).drew)).mono ?_
    rintro en w1 ⟨A1, n1, c1, A2, n2, c2, T, t, tc, rfl, ho1, l1, l2, l3, l4, ht, hox, hb1⟩
    have z1 : w.heap.size ≤ w1.heap.size := by (have h9 := hb1.size; simp at h9; omega)
    have hbb : RowKit.Below w.heap.size w w1 := by
      first
        | exact ((Below.refl w.heap.size w).drew).trans hb1
        | exact (((Below.refl w.heap.size w).alloc (Nat.le_refl _) _).drew).trans (hb1.mono (by simp))
    have q0 : w1.cell? ⟨P, 0, none⟩ = some (.int .i64 nx) := (hbb.cell (p := ⟨P, 0, none⟩) hP).trans p0
    have q1 : w1.cell? ⟨P, 1, none⟩ = some (.slice AS nS cS) := (hbb.cell (p := ⟨P, 1, none⟩) hP).trans p1
    have q2 : w1.cell? ⟨P, 2, none⟩ = some (.slice AW nW cW) := (hbb.cell (p := ⟨P, 2, none⟩) hP).trans p2
    have q9 : w1.cell? ⟨P, 9, none⟩ = some (.int .i64 win) := (hbb.cell (p := ⟨P, 9, none⟩) hP).trans p9
    have q10 : w1.cell? ⟨P, 10, none⟩ = some (.int .i64 now) := (hbb.cell (p := ⟨P, 10, none⟩) hP).trans p10
    have hsl := hox.sl.2.2.2
    have H1 := Lib.hid (And.intro ho1 (And.intro l1 (And.intro l2 (And.intro l3 (And.intro l4 (And.intro ht (And.intro hsl hbb)))))))
    try (have gE := Blk.below (w := (w.alloc (.cells #[.int .i64 0, .slice none 0 0, .slice none 0 0] 35)).drew) (g := w.heap.size) (Blk.new w _ _ rfl) hb1 (by simp)
         have i0 := gE.cell 0 (v := .int .i64 0) rfl; have i1 := gE.cell 1 (v := .slice none 0 0) rfl; have i2 := gE.cell 2 (v := .slice none 0 0) rfl
         have fE := gE.frozen
         have zE : w.heap.size < w1.heap.size := gE.lt
         have HGE := Lib.hid gE
         clear gE)
    clear ho1 l1 l2 l3 l4 ht hox hsl hbb hb1
    try dsimp only
    refine hK.out _ _ ?_ (fun hHeld14 => ?_)
    · (try dsimp only)
      (first | (with_reducible assumption) | (go_keep; done) | (refine ⟨?_, ?_, ?_, ?_, ?_⟩ <;> (first | (with_reducible assumption) | (simp [go_sem, *]; done) | (simp (disch := (simp; try omega)) [*, World.cell?_alloc_past, World.cell?_setCell_other]; done) | (rw [World.cell?_setCell_other _ _ _ _ (by simp; try omega), World.cell?_setCell_other _ _ _ _ (by simp; try omega), World.cell?_setCell_other _ _ _ _ (by simp; try omega)]; assumption))))
    clear hK K hHeld0
    try simp only [Act.put, List.setIfInBounds_toArray, List.set_cons_zero, List.set_cons_succ]
    refine wpAnyH_take (i := 14) (oi := _) (v := ?v15) rfl (by kernel_rfl) (by kernel_rfl) (by kernel_rfl) (fun _ _ _ h => h) (Or.inl ⟨by rfl, ?hy15⟩) (by with_reducible assumption) ?rest15
    case hy15 => (intro w hSw; (try dsimp only at hSw); go_simp; try with_reducible rfl)
    try simp only [Act.put, List.setIfInBounds_toArray, List.set_cons_zero, List.set_cons_succ]
    refine wpAnyH_take (i := 15) (oi := _) (v := ?v16) rfl (by kernel_rfl) (by kernel_rfl) (by kernel_rfl) (fun _ _ _ h => h) (Or.inl ⟨by rfl, ?hy16⟩) (by with_reducible assumption) ?rest16
    case hy16 => (intro w hSw; (try dsimp only at hSw); go_simp; try with_reducible rfl)
    try simp only [Act.put, List.setIfInBounds_toArray, List.set_cons_zero, List.set_cons_succ]
    refine wpAnyH_take (i := 16) (oi := _) (v := ?v17) rfl (by kernel_rfl) (by kernel_rfl) (by kernel_rfl) (fun _ _ _ h => h) (Or.inl ⟨by rfl, ?hy17⟩) (by with_reducible assumption) ?rest17
    case hy17 => (intro w hSw; (try dsimp only at hSw); go_simp; try with_reducible rfl)
    try simp only [Act.put, List.setIfInBounds_toArray, List.set_cons_zero, List.set_cons_succ]
    refine wpAnyH_ready (rs := [17]) (by kernel_rfl) (by simp) ?_
    refine (AllReadyH.cons (o := _) rfl (fun K hK => ?_) AllReadyH.nil)
    go_simp
    refine hK.out _ _ ?_ (fun hHeld18 => ?_)
    · (try dsimp only)
      (first | (with_reducible assumption) | (go_keep; done) | (refine ⟨?_, ?_, ?_, ?_, ?_⟩ <;> (first | (with_reducible assumption) | (simp [go_sem, *]; done) | (simp (disch := (simp; try omega)) [*, World.cell?_alloc_past, World.cell?_setCell_other]; done) | (rw [World.cell?_setCell_other _ _ _ _ (by simp; try omega), World.cell?_setCell_other _ _ _ _ (by simp; try omega), World.cell?_setCell_other _ _ _ _ (by simp; try omega)]; assumption))))
    clear hK K hHeld14
    try simp only [Act.put, List.setIfInBounds_toArray, List.set_cons_zero, List.set_cons_succ]
    refine wpAnyH_ready (rs := [18]) (by kernel_rfl) (by simp) ?_
    refine (AllReadyH.cons (o := _) rfl (fun K hK => ?_) AllReadyH.nil)
    go_simp
    refine hK.out _ _ ?_ (fun hHeld19 => ?_)
    · (try dsimp only)
      (first | (with_reducible assumption) | (go_keep; done) | (refine ⟨?_, ?_, ?_, ?_, ?_⟩ <;> (first | (with_reducible assumption) | (simp [go_sem, *]; done) | (simp (disch := (simp; try omega)) [*, World.cell?_alloc_past, World.cell?_setCell_other]; done) | (rw [World.cell?_setCell_other _ _ _ _ (by simp; try omega), World.cell?_setCell_other _ _ _ _ (by simp; try omega), World.cell?_setCell_other _ _ _ _ (by simp; try omega)]; assumption))))
    clear hK K hHeld18
    try simp only [Act.put, List.setIfInBounds_toArray, List.set_cons_zero, List.set_cons_succ]
    refine wpAnyH_take (i := 19) (oi := _) (v := ?v20) rfl (by kernel_rfl) (by kernel_rfl) (by kernel_rfl) (fun _ _ _ h => h) (Or.inl ⟨by rfl, ?hy20⟩) (by with_reducible assumption) ?rest20
    case hy20 => (intro w hSw; (try dsimp only at hSw); go_simp; try with_reducible rfl)
    try simp only [Act.put, List.setIfInBounds_toArray, List.set_cons_zero, List.set_cons_succ]
    refine wpAnyH_done (by kernel_rfl) ?_ _
    refine NoPanic.normal ?_
    clear hHeld19
    obtain ⟨ho1, l1, l2, l3, l4, ht, hsl, hbb⟩ := H1.out
    first
      | exact HK.out _ _ _ _ _ _ _ _ _ _ _ _ _ _ _ _ _ w.heap.size A1 n1 c1 A2 n2 c2 T t tc _ (((HGE.out.set 0 _).set 1 _).set 2 _) (ho1.keep (fun p hp => World.cell?_of_block ((Below.heap_setCell _ ⟨w.heap.size, 2, none⟩ _ _ (by have h9 := hp.1; simp at h9; show p.block ≠ w.heap.size; omega)).trans ((Below.heap_setCell _ ⟨w.heap.size, 1, none⟩ _ _ (by have h9 := hp.1; simp at h9; show p.block ≠ w.heap.size; omega)).trans (Below.heap_setCell _ ⟨w.heap.size, 0, none⟩ _ _ (by have h9 := hp.1; simp at h9; show p.block ≠ w.heap.size; omega))))) (fun b hb => ⟨by have h9 := hb.1; simp at h9; omega, by have h9 := hb.2; simpa [World.setCell] using h9⟩)) l1 l2 l3 l4 ht (hsl.keep (fun p hp => World.cell?_of_block ((Below.heap_setCell _ ⟨w.heap.size, 2, none⟩ _ _ (by have h9 := hp.1; simp at h9; show p.block ≠ w.heap.size; omega)).trans ((Below.heap_setCell _ ⟨w.heap.size, 1, none⟩ _ _ (by have h9 := hp.1; simp at h9; show p.block ≠ w.heap.size; omega)).trans (Below.heap_setCell _ ⟨w.heap.size, 0, none⟩ _ _ (by have h9 := hp.1; simp at h9; show p.block ≠ w.heap.size; omega))))) (fun b hb => ⟨by have h9 := hb.1; simp at h9; omega, by have h9 := hb.2.1; simpa [World.setCell] using h9⟩)) (((hbb.setCell (p := ⟨w.heap.size, 0, none⟩) (Nat.le_refl _) _).setCell (p := ⟨w.heap.size, 1, none⟩) (Nat.le_refl _) _).setCell (p := ⟨w.heap.size, 2, none⟩) (Nat.le_refl _) _) (Nat.le_refl _)
      | exact HK.out _ _ _ _ _ _ _ _ _ _ _ _ _ _ _ _ _ w1.heap.size A1 n1 c1 A2 n2 c2 T t tc _ (Blk.new _ _ _ rfl) (ho1.keep (fun p hp => World.cell?_alloc_lt _ _ _ hp.2) (fun b hb => ⟨by have h9 := hb.1; simpa using h9, by have h9 := hb.2; simp; omega⟩)) l1 l2 l3 l4 ht (hsl.keep (fun p hp => World.cell?_alloc_lt _ _ _ hp.2.1) (fun b hb => ⟨by have h9 := hb.1; simpa using h9, by have h9 := hb.2.1; simp; omega⟩)) (hbb.alloc z1 _) z1
  · skip
    go_simp
    refine hK.out _ _ ?_ (fun hHeld21 => ?_)
    · (try dsimp only)
      (first | (with_reducible assumption) | (go_keep; done) | (refine ⟨?_, ?_, ?_, ?_, ?_⟩ <;> (first | (with_reducible assumption) | (simp [go_sem, *]; done) | (simp (disch := (simp; try omega)) [*, World.cell?_alloc_past, World.cell?_setCell_other]; done) | (rw [World.cell?_setCell_other _ _ _ _ (by simp; try omega), World.cell?_setCell_other _ _ _ _ (by simp; try omega), World.cell?_setCell_other _ _ _ _ (by simp; try omega)]; assumption))))
    clear hK K hHeld0
    try simp only [Act.put, List.setIfInBounds_toArray, List.set_cons_zero, List.set_cons_succ]
    refine wpAnyH_ready (rs := [13]) (by kernel_rfl) (by simp) ?_
    refine (AllReadyH.cons (o := _) rfl (fun K hK => ?_) AllReadyH.nil)
    go_simp
    refine (HC.out _ (by first | exact (Below.refl _ _).drew | exact ((Below.refl _ _).alloc (Nat.le_refl _) _).drew)).mono ?_
    rintro en w1 ⟨A1, n1, c1, A2, n2, c2, T, t, tc, rfl, ho1, l1, l2, l3, l4, ht, hox, hb1⟩
    have z1 : w.heap.size ≤ w1.heap.size := by (have h9 := hb1.size; simp at h9; omega)
    have hbb : RowKit.Below w.heap.size w w1 := by
      first
        | exact ((Below.refl w.heap.size w).drew).trans hb1
        | exact (((Below.refl w.heap.size w).alloc (Nat.le_refl _) _).drew).trans (hb1.mono (by simp))
    have q0 : w1.cell? ⟨P, 0, none⟩ = some (.int .i64 nx) := (hbb.cell (p := ⟨P, 0, none⟩) hP).trans p0
    have q1 : w1.cell? ⟨P, 1, none⟩ = some (.slice AS nS cS) := (hbb.cell (p := ⟨P, 1, none⟩) hP).trans p1
    have q2 : w1.cell? ⟨P, 2, none⟩ = some (.slice AW nW cW) := (hbb.cell (p := ⟨P, 2, none⟩) hP).trans p2
    have q9 : w1.cell? ⟨P, 9, none⟩ = some (.int .i64 win) := (hbb.cell (p := ⟨P, 9, none⟩) hP).trans p9
    have q10 : w1.cell? ⟨P, 10, none⟩ = some (.int .i64 now) := (hbb.cell (p := ⟨P, 10, none⟩) hP).trans p10
    have hsl := hox.sl.2.2.2
    have H1 := Lib.hid (And.intro ho1 (And.intro l1 (And.intro l2 (And.intro l3 (And.intro l4 (And.intro ht (And.intro hsl hbb)))))))
    try (have gE := Blk.below (w := (w.alloc (.cells #[.int .i64 0, .slice none 0 0, .slice none 0 0] 35)).drew) (g := w.heap.size) (Blk.new w _ _ rfl) hb1 (by simp)
         have i0 := gE.cell 0 (v := .int .i64 0) rfl; have i1 := gE.cell 1 (v := .slice none 0 0) rfl; have i2 := gE.cell 2 (v := .slice none 0 0) rfl
         have fE := gE.frozen
         have zE : w.heap.size < w1.heap.size := gE.lt
         have HGE := Lib.hid gE
         clear gE)
    clear ho1 l1 l2 l3 l4 ht hox hsl hbb hb1
    try dsimp only
    refine hK.out _ _ ?_ (fun hHeld22 => ?_)
    · (try dsimp only)
      (first | (with_reducible assumption) | (go_keep; done) | (refine ⟨?_, ?_, ?_, ?_, ?_⟩ <;> (first | (with_reducible assumption) | (simp [go_sem, *]; done) | (simp (disch := (simp; try omega)) [*, World.cell?_alloc_past, World.cell?_setCell_other]; done) | (rw [World.cell?_setCell_other _ _ _ _ (by simp; try omega), World.cell?_setCell_other _ _ _ _ (by simp; try omega), World.cell?_setCell_other _ _ _ _ (by simp; try omega)]; assumption))))
    clear hK K hHeld21
    try simp only [Act.put, List.setIfInBounds_toArray, List.set_cons_zero, List.set_cons_succ]
    refine wpAnyH_take (i := 14) (oi := _) (v := ?v23) rfl (by kernel_rfl) (by kernel_rfl) (by kernel_rfl) (fun _ _ _ h => h) (Or.inl ⟨by rfl, ?hy23⟩) (by with_reducible assumption) ?rest23
    case hy23 => (intro w hSw; (try dsimp only at hSw); go_simp; try with_reducible rfl)
    try simp only [Act.put, List.setIfInBounds_toArray, List.set_cons_zero, List.set_cons_succ]
    refine wpAnyH_take (i := 15) (oi := _) (v := ?v24) rfl (by kernel_rfl) (by kernel_rfl) (by kernel_rfl) (fun _ _ _ h => h) (Or.inl ⟨by rfl, ?hy24⟩) (by with_reducible assumption) ?rest24
    case hy24 => (intro w hSw; (try dsimp only at hSw); go_simp; try with_reducible rfl)
    try simp only [Act.put, List.setIfInBounds_toArray, List.set_cons_zero, List.set_cons_succ]
    refine wpAnyH_take (i := 16) (oi := _) (v := ?v25) rfl (by kernel_rfl) (by kernel_rfl) (by kernel_rfl) (fun _ _ _ h => h) (Or.inl ⟨by rfl, ?hy25⟩) (by with_reducible assumption) ?rest25
    case hy25 => (intro w hSw; (try dsimp only at hSw); go_simp; try with_reducible rfl)
    try simp only [Act.put, List.setIfInBounds_toArray, List.set_cons_zero, List.set_cons_succ]
    refine wpAnyH_ready (rs := [18]) (by kernel_rfl) (by simp) ?_
    refine (AllReadyH.cons (o := _) rfl (fun K hK => ?_) AllReadyH.nil)
    go_simp
    refine hK.out _ _ ?_ (fun hHeld26 => ?_)
    · (try dsimp only)
      (first | (with_reducible assumption) | (go_keep; done) | (refine ⟨?_, ?_, ?_, ?_, ?_⟩ <;> (first | (with_reducible assumption) | (simp [go_sem, *]; done) | (simp (disch := (simp; try omega)) [*, World.cell?_alloc_past, World.cell?_setCell_other]; done) | (rw [World.cell?_setCell_other _ _ _ _ (by simp; try omega), World.cell?_setCell_other _ _ _ _ (by simp; try omega), World.cell?_setCell_other _ _ _ _ (by simp; try omega)]; assumption))))
    clear hK K hHeld22
    try simp only [Act.put, List.setIfInBounds_toArray, List.set_cons_zero, List.set_cons_succ]
    refine wpAnyH_take (i := 19) (oi := _) (v := ?v27) rfl (by kernel_rfl) (by kernel_rfl) (by kernel_rfl) (fun _ _ _ h => h) (Or.inl ⟨by rfl, ?hy27⟩) (by with_reducible assumption) ?rest27
    case hy27 => (intro w hSw; (try dsimp only at hSw); go_simp; try with_reducible rfl)
    try simp only [Act.put, List.setIfInBounds_toArray, List.set_cons_zero, List.set_cons_succ]
    refine wpAnyH_done (by kernel_rfl) ?_ _
    refine NoPanic.normal ?_
    clear hHeld26
    obtain ⟨ho1, l1, l2, l3, l4, ht, hsl, hbb⟩ := H1.out
    first
      | exact HK.out _ _ _ _ _ _ _ _ _ _ _ _ _ _ _ _ _ w.heap.size A1 n1 c1 A2 n2 c2 T t tc _ (((HGE.out.set 0 _).set 1 _).set 2 _) (ho1.keep (fun p hp => World.cell?_of_block ((Below.heap_setCell _ ⟨w.heap.size, 2, none⟩ _ _ (by have h9 := hp.1; simp at h9; show p.block ≠ w.heap.size; omega)).trans ((Below.heap_setCell _ ⟨w.heap.size, 1, none⟩ _ _ (by have h9 := hp.1; simp at h9; show p.block ≠ w.heap.size; omega)).trans (Below.heap_setCell _ ⟨w.heap.size, 0, none⟩ _ _ (by have h9 := hp.1; simp at h9; show p.block ≠ w.heap.size; omega))))) (fun b hb => ⟨by have h9 := hb.1; simp at h9; omega, by have h9 := hb.2; simpa [World.setCell] using h9⟩)) l1 l2 l3 l4 ht (hsl.keep (fun p hp => World.cell?_of_block ((Below.heap_setCell _ ⟨w.heap.size, 2, none⟩ _ _ (by have h9 := hp.1; simp at h9; show p.block ≠ w.heap.size; omega)).trans ((Below.heap_setCell _ ⟨w.heap.size, 1, none⟩ _ _ (by have h9 := hp.1; simp at h9; show p.block ≠ w.heap.size; omega)).trans (Below.heap_setCell _ ⟨w.heap.size, 0, none⟩ _ _ (by have h9 := hp.1; simp at h9; show p.block ≠ w.heap.size; omega))))) (fun b hb => ⟨by have h9 := hb.1; simp at h9; omega, by have h9 := hb.2.1; simpa [World.setCell] using h9⟩)) (((hbb.setCell (p := ⟨w.heap.size, 0, none⟩) (Nat.le_refl _) _).setCell (p := ⟨w.heap.size, 1, none⟩) (Nat.le_refl _) _).setCell (p := ⟨w.heap.size, 2, none⟩) (Nat.le_refl _) _) (Nat.le_refl _)
      | exact HK.out _ _ _ _ _ _ _ _ _ _ _ _ _ _ _ _ _ w1.heap.size A1 n1 c1 A2 n2 c2 T t tc _ (Blk.new _ _ _ rfl) (ho1.keep (fun p hp => World.cell?_alloc_lt _ _ _ hp.2) (fun b hb => ⟨by have h9 := hb.1; simpa using h9, by have h9 := hb.2; simp; omega⟩)) l1 l2 l3 l4 ht (hsl.keep (fun p hp => World.cell?_alloc_lt _ _ _ hp.2.1) (fun b hb => ⟨by have h9 := hb.1; simpa using h9, by have h9 := hb.2.1; simp; omega⟩)) (hbb.alloc z1 _) z1
noncomputable def wy_again_code : Code := regionOf Try.f20 3
set_option maxRecDepth 100000 in
set_option maxHeartbeats 4000000 in
theorem wy_again {Q : Exit → Act → World → Prop} {s1 s2 s3 s4 s5 s6 s7 s8 s9 s10 s11 s12 s13 s14 s15 s16 s17 s18 s19 s20 s21 s22 s23 s24 s25 s26 s27 s28 s29 s30 s31 s32 s33 s34 s35 s36 s37 s38 s39 s40 s41 s42 s43 s44 s45 s46 s47 s48 s49 s50 s51 s52 s53 s54 s55 s56 s57 s58 s59 s60 s61 s62 s63 s64 s65 s66 s67 s68 s69 s70 s71 s72 s73 s74 s75 s76 s77 s78 s79 s80 s81 s82 s83 s84 s85 s86 s87 s88 s89 s90 s91 s92 s93 s94 s95 s96 s97 s98 s99 s100 s101 s102 s103 s104 s105 s106 s107 s108 s109 s110 s111 s112 s113 s114 s115 s116 s117 s118 s119 s120 s121 s122 s123 s124 s125 s126 s127 s128 s129 s130 s131 s132 s133 s134 s135 s136 s137 s138 s139 s140 s141 s142 : Value} (w : World) (P : Nat)  (nx now win : Int) (AS : Option Addr) (nS cS : Nat) (AW : Option Addr) (nW cW : Nat) (o' : Ot) (l : List It) (hP : P < w.heap.size)
    (p0 : w.cell? ⟨P, 0, none⟩ = some (.int .i64 nx)) (p1 : w.cell? ⟨P, 1, none⟩ = some (.slice AS nS cS)) (p2 : w.cell? ⟨P, 2, none⟩ = some (.slice AW nW cW)) (p9 : w.cell? ⟨P, 9, none⟩ = some (.int .i64 win)) (p10 : w.cell? ⟨P, 10, none⟩ = some (.int .i64 now))
    (hC : ∀ w', RowKit.Below w.heap.size w w' → Calls Try.prog 15 #[.agg #[.int .i64 nx, .slice AS nS cS, .slice AW nW cW], .int .i64 3, .int .i64 now] w' (OutRet o' l w'))
    (hK : ∀ (d21 d22 d23 d24 d25 d26 d27 d28 d29 d30 d31 d32 : Value) (E : Nat) (A1 : Option Addr) (n1 c1 : Nat) (A2 : Option Addr) (n2 c2 : Nat) (T : Option Addr) (t tc : Nat) (w' : World), Blk w' E 35 #[.int .i64 o'.next, .slice A1 n1 c1, .slice A2 n2 c2] → OutAt w' (mid w.heap.size w'.heap.size) A1 n1 A2 n2 o' → n1 ≤ c1 → c1 ≤ maxLen → n2 ≤ c2 → c2 ≤ maxLen → l.length = t → Sl Rit w' (mid w.heap.size w'.heap.size) T l → Below w.heap.size w w' → w.heap.size ≤ E →
      Q .normal ⟨#[.pointer (some ⟨P, 0, none⟩), s1, s2, s3, s4, s5, s6, s7, .pointer (some ⟨E, 0, none⟩), .slice T t tc, s10, s11, s12, s13, s14, s15, s16, s17, s18, s19, s20, d21, d22, d23, d24, d25, d26, d27, d28, d29, d30, d31, d32, s33, s34, s35, s36, s37, s38, s39, s40, s41, s42, s43, s44, s45, s46, s47, s48, s49, s50, s51, s52, s53, s54, s55, s56, s57, s58, s59, s60, s61, s62, s63, s64, s65, s66, s67, s68, s69, s70, s71, s72, s73, s74, s75, s76, s77, s78, s79, s80, s81, s82, s83, s84, s85, s86, s87, s88, s89, s90, s91, s92, s93, s94, s95, s96, s97, s98, s99, s100, s101, s102, s103, s104, s105, s106, s107, s108, s109, s110, s111, s112, s113, s114, s115, s116, s117, s118, s119, s120, s121, s122, s123, s124, s125, s126, s127, s128, s129, s130, s131, s132, s133, s134, s135, s136, s137, s138, s139, s140, s141, s142], []⟩ w') :
    Code.wp Try.prog wy_again_code Q ⟨#[.pointer (some ⟨P, 0, none⟩), s1, s2, s3, s4, s5, s6, s7, s8, s9, s10, s11, s12, s13, s14, s15, s16, s17, s18, s19, s20, s21, s22, s23, s24, s25, s26, s27, s28, s29, s30, s31, s32, s33, s34, s35, s36, s37, s38, s39, s40, s41, s42, s43, s44, s45, s46, s47, s48, s49, s50, s51, s52, s53, s54, s55, s56, s57, s58, s59, s60, s61, s62, s63, s64, s65, s66, s67, s68, s69, s70, s71, s72, s73, s74, s75, s76, s77, s78, s79, s80, s81, s82, s83, s84, s85, s86, s87, s88, s89, s90, s91, s92, s93, s94, s95, s96, s97, s98, s99, s100, s101, s102, s103, s104, s105, s106, s107, s108, s109, s110, s111, s112, s113, s114, s115, s116, s117, s118, s119, s120, s121, s122, s123, s124, s125, s126, s127, s128, s129, s130, s131, s132, s133, s134, s135, s136, s137, s138, s139, s140, s141, s142], []⟩ w := by
  have HK := Lib.hid hK; clear hK
  have HC := Lib.hid hC; clear hC
  conv => arg 2; whnf
  refine wp_region_noPanic ?_
  refine wp_region_held_drew (S := (fun w' => w'.cell? ⟨P, 0, none⟩ = some (.int .i64 nx) ∧ w'.cell? ⟨P, 1, none⟩ = some (.slice AS nS cS) ∧ w'.cell? ⟨P, 2, none⟩ = some (.slice AW nW cW) ∧ w'.cell? ⟨P, 9, none⟩ = some (.int .i64 win) ∧ w'.cell? ⟨P, 10, none⟩ = some (.int .i64 now))) (by kernel_rfl) ?_ (fun hHeld0 => ?_)
  · (try dsimp only)
    (first | (with_reducible assumption) | (go_keep; done) | (refine ⟨?_, ?_, ?_, ?_, ?_⟩ <;> (first | (with_reducible assumption) | (simp [go_sem, *]; done) | (simp (disch := (simp; try omega)) [*, World.cell?_alloc_past, World.cell?_setCell_other]; done) | (rw [World.cell?_setCell_other _ _ _ _ (by simp; try omega), World.cell?_setCell_other _ _ _ _ (by simp; try omega), World.cell?_setCell_other _ _ _ _ (by simp; try omega)]; assumption))))
  refine wpAnyH_take (i := 0) (oi := _) (v := ?v1) rfl (by kernel_rfl) (by kernel_rfl) (by kernel_rfl) (fun _ _ _ h => h) (Or.inl ⟨by rfl, ?hy1⟩) (by with_reducible assumption) ?rest1
  case hy1 => (intro w hSw; (try dsimp only at hSw); go_simp; try with_reducible rfl)
  try simp only [Act.put, List.setIfInBounds_toArray, List.set_cons_zero, List.set_cons_succ]
  refine wpAnyH_take (i := 1) (oi := _) (v := ?v2) rfl (by kernel_rfl) (by kernel_rfl) (by kernel_rfl) (fun _ _ _ h => h) (Or.inl ⟨by rfl, ?hy2⟩) (by with_reducible assumption) ?rest2
  case hy2 => (intro w hSw; (try dsimp only at hSw); go_simp; try with_reducible rfl)
  try simp only [Act.put, List.setIfInBounds_toArray, List.set_cons_zero, List.set_cons_succ]
  refine wpAnyH_take (i := 2) (oi := _) (v := ?v3) rfl (by kernel_rfl) (by kernel_rfl) (by kernel_rfl) (fun _ _ _ h => h) (Or.inl ⟨by rfl, ?hy3⟩) (by with_reducible assumption) ?rest3
  case hy3 => (intro w hSw; (try dsimp only at hSw); go_simp; try with_reducible rfl)
  try simp only [Act.put, List.setIfInBounds_toArray, List.set_cons_zero, List.set_cons_succ]
  refine wpAnyH_take (i := 3) (oi := _) (v := ?v4) rfl (by kernel_rfl) (by kernel_rfl) (by kernel_rfl) (fun _ _ _ h => h) (Or.inl ⟨by rfl, ?hy4⟩) (by with_reducible assumption) ?rest4
  case hy4 => (intro w hSw; (try dsimp only at hSw); go_simp; try with_reducible rfl)
  try simp only [Act.put, List.setIfInBounds_toArray, List.set_cons_zero, List.set_cons_succ]
  refine wpAnyH_take (i := 4) (oi := _) (v := ?v5) rfl (by kernel_rfl) (by kernel_rfl) (by kernel_rfl) (fun _ _ _ h => h) (Or.inl ⟨by rfl, ?hy5⟩) (by with_reducible assumption) ?rest5
  case hy5 => (intro w hSw; (try dsimp only at hSw); go_simp; try with_reducible rfl)
  try simp only [Act.put, List.setIfInBounds_toArray, List.set_cons_zero, List.set_cons_succ]
  refine wpAnyH_take (i := 5) (oi := _) (v := ?v6) rfl (by kernel_rfl) (by kernel_rfl) (by kernel_rfl) (fun _ _ _ h => h) (Or.inl ⟨by rfl, ?hy6⟩) (by with_reducible assumption) ?rest6
  case hy6 => (intro w hSw; (try dsimp only at hSw); go_simp; try with_reducible rfl)
  try simp only [Act.put, List.setIfInBounds_toArray, List.set_cons_zero, List.set_cons_succ]
  refine wpAnyH_take (i := 6) (oi := _) (v := ?v7) rfl (by kernel_rfl) (by kernel_rfl) (by kernel_rfl) (fun _ _ _ h => h) (Or.inl ⟨by rfl, ?hy7⟩) (by with_reducible assumption) ?rest7
  case hy7 => (intro w hSw; (try dsimp only at hSw); go_simp; try with_reducible rfl)
  try simp only [Act.put, List.setIfInBounds_toArray, List.set_cons_zero, List.set_cons_succ]
  refine wpAnyH_take (i := 7) (oi := _) (v := ?v8) rfl (by kernel_rfl) (by kernel_rfl) (by kernel_rfl) (fun _ _ _ h => h) (Or.inl ⟨by rfl, ?hy8⟩) (by with_reducible assumption) ?rest8
  case hy8 => (intro w hSw; (try dsimp only at hSw); go_simp; try with_reducible rfl)
  try simp only [Act.put, List.setIfInBounds_toArray, List.set_cons_zero, List.set_cons_succ]
  refine wpAnyH_ready (rs := [8, 12]) (by kernel_rfl) (by simp) ?_
  refine (AllReadyH.cons (o := _) rfl (fun K hK => ?_) (AllReadyH.cons (o := _) rfl (fun K hK => ?_) AllReadyH.nil))
  · skip
    go_simp
    refine (HC.out _ (by first | exact (Below.refl _ _).drew | exact ((Below.refl _ _).alloc (Nat.le_refl _) _).drew)).mono ?_
    rintro en w1 ⟨A1, n1, c1, A2, n2, c2, T, t, tc, rfl, ho1, l1, l2, l3, l4, ht, hox, hb1⟩
    have z1 : w.heap.size ≤ w1.heap.size := by (have h9 := hb1.size; simp at h9; omega)
    have hbb : RowKit.Below w.heap.size w w1 := by
      first
        | exact ((Below.refl w.heap.size w).drew).trans hb1
        | exact (((Below.refl w.heap.size w).alloc (Nat.le_refl _) _).drew).trans (hb1.mono (by simp))
    have q0 : w1.cell? ⟨P, 0, none⟩ = some (.int .i64 nx) := (hbb.cell (p := ⟨P, 0, none⟩) hP).trans p0
    have q1 : w1.cell? ⟨P, 1, none⟩ = some (.slice AS nS cS) := (hbb.cell (p := ⟨P, 1, none⟩) hP).trans p1
    have q2 : w1.cell? ⟨P, 2, none⟩ = some (.slice AW nW cW) := (hbb.cell (p := ⟨P, 2, none⟩) hP).trans p2
    have q9 : w1.cell? ⟨P, 9, none⟩ = some (.int .i64 win) := (hbb.cell (p := ⟨P, 9, none⟩) hP).trans p9
    have q10 : w1.cell? ⟨P, 10, none⟩ = some (.int .i64 now) := (hbb.cell (p := ⟨P, 10, none⟩) hP).trans p10
    have hsl := hox.sl.2.2.2
    have H1 := Lib.hid (And.intro ho1 (And.intro l1 (And.intro l2 (And.intro l3 (And.intro l4 (And.intro ht (And.intro hsl hbb)))))))
    try (have gE := Blk.below (w := (w.alloc (.cells #[.int .i64 0, .slice none 0 0, .slice none 0 0] 35)).drew) (g := w.heap.size) (Blk.new w _ _ rfl) hb1 (by simp)
         have i0 := gE.cell 0 (v := .int .i64 0) rfl; have i1 := gE.cell 1 (v := .slice none 0 0) rfl; have i2 := gE.cell 2 (v := .slice none 0 0) rfl
         have fE := gE.frozen
         have zE : w.heap.size < w1.heap.size := gE.lt
         have HGE := Lib.hid gE
         clear gE)
    clear ho1 l1 l2 l3 l4 ht hox hsl hbb hb1
    try dsimp only
    refine hK.out _ _ ?_ (fun hHeld9 => ?_)
    · (try dsimp only)
      (first | (with_reducible assumption) | (go_keep; done) | (refine ⟨?_, ?_, ?_, ?_, ?_⟩ <;> (first | (with_reducible assumption) | (simp [go_sem, *]; done) | (simp (disch := (simp; try omega)) [*, World.cell?_alloc_past, World.cell?_setCell_other]; done) | (rw [World.cell?_setCell_other _ _ _ _ (by simp; try omega), World.cell?_setCell_other _ _ _ _ (by simp; try omega), World.cell?_setCell_other _ _ _ _ (by simp; try omega)]; assumption))))
    clear hK K hHeld0
    try simp only [Act.put, List.setIfInBounds_toArray, List.set_cons_zero, List.set_cons_succ]
    refine wpAnyH_take (i := 9) (oi := _) (v := ?v10) rfl (by kernel_rfl) (by kernel_rfl) (by kernel_rfl) (fun _ _ _ h => h) (Or.inl ⟨by rfl, ?hy10⟩) (by with_reducible assumption) ?rest10
    case hy10 => (intro w hSw; (try dsimp only at hSw); go_simp; try with_reducible rfl)
    try simp only [Act.put, List.setIfInBounds_toArray, List.set_cons_zero, List.set_cons_succ]
    refine wpAnyH_take (i := 10) (oi := _) (v := ?v11) rfl (by kernel_rfl) (by kernel_rfl) (by kernel_rfl) (fun _ _ _ h => h) (Or.inl ⟨by rfl, ?hy11⟩) (by with_reducible assumption) ?rest11
    case hy11 => (intro w hSw; (try dsimp only at hSw); go_simp; try with_reducible rfl)
    try simp only [Act.put, List.setIfInBounds_toArray, List.set_cons_zero, List.set_cons_succ]
    refine wpAnyH_take (i := 11) (oi := _) (v := ?v12) rfl (by kernel_rfl) (by kernel_rfl) (by kernel_rfl) (fun _ _ _ h => h) (Or.inl ⟨by rfl, ?hy12⟩) (by with_reducible assumption) ?rest12
    case hy12 => (intro w hSw; (try dsimp only at hSw); go_simp; try with_reducible rfl)
    try simp only [Act.put, List.setIfInBounds_toArray, List.set_cons_zero, List.set_cons_succ]
    refine wpAnyH_ready (rs := [12]) (by kernel_rfl) (by simp) ?_
    refine (AllReadyH.cons (o := _) rfl (fun K hK => ?_) AllReadyH.nil)
    go_simp
    refine hK.out _ _ ?_ (fun hHeld13 => ?_)
    · (try dsimp only)
      (first | (with_reducible assumption) | (go_keep; done) | (refine ⟨?_, ?_, ?_, ?_, ?_⟩ <;> (first | (with_reducible assumption) | (simp [go_sem, *]; done) | (simp (disch := (simp; try omega)) [*, World.cell?_alloc_past, World.cell?_setCell_other]; done) | (rw [World.cell?_setCell_other _ _ _ _ (by simp; try omega), World.cell?_setCell_other _ _ _ _ (by simp; try omega), World.cell?_setCell_other _ _ _ _ (by simp; try omega)]; assumption))))
    clear hK K hHeld9
    try simp only [Act.put, List.setIfInBounds_toArray, List.set_cons_zero, List.set_cons_succ]
    refine wpAnyH_ready (rs := [13]) (by kernel_rfl) (by simp) ?_
    refine (AllReadyH.cons (o := _) rfl (fun K hK => ?_) AllReadyH.nil)
    go_simp
    refine hK.out _ _ ?_ (fun hHeld14 => ?_)
    · (try dsimp only)
      (first | (with_reducible assumption) | (go_keep; done) | (refine ⟨?_, ?_, ?_, ?_, ?_⟩ <;> (first | (with_reducible assumption) | (simp [go_sem, *]; done) | (simp (disch := (simp; try omega)) [*, World.cell?_alloc_past, World.cell?_setCell_other]; done) | (rw [World.cell?_setCell_other _ _ _ _ (by simp; try omega), World.cell?_setCell_other _ _ _ _ (by simp; try omega), World.cell?_setCell_other _ _ _ _ (by simp; try omega)]; assumption))))
    clear hK K hHeld13
    try simp only [Act.put, List.setIfInBounds_toArray, List.set_cons_zero, List.set_cons_succ]
    refine wpAnyH_take (i := 14) (oi := _) (v := ?v15) rfl (by kernel_rfl) (by kernel_rfl) (by kernel_rfl) (fun _ _ _ h => h) (Or.inl ⟨by rfl, ?hy15⟩) (by with_reducible assumption) ?rest15
    case hy15 => (intro w hSw; (try dsimp only at hSw); go_simp; try with_reducible rfl)
    try simp only [Act.put, List.setIfInBounds_toArray, List.set_cons_zero, List.set_cons_succ]
    refine wpAnyH_done (by kernel_rfl) ?_ _
    refine NoPanic.normal ?_
    clear hHeld14
    obtain ⟨ho1, l1, l2, l3, l4, ht, hsl, hbb⟩ := H1.out
    first
      | exact HK.out _ _ _ _ _ _ _ _ _ _ _ _ w.heap.size A1 n1 c1 A2 n2 c2 T t tc _ (((HGE.out.set 0 _).set 1 _).set 2 _) (ho1.keep (fun p hp => World.cell?_of_block ((Below.heap_setCell _ ⟨w.heap.size, 2, none⟩ _ _ (by have h9 := hp.1; simp at h9; show p.block ≠ w.heap.size; omega)).trans ((Below.heap_setCell _ ⟨w.heap.size, 1, none⟩ _ _ (by have h9 := hp.1; simp at h9; show p.block ≠ w.heap.size; omega)).trans (Below.heap_setCell _ ⟨w.heap.size, 0, none⟩ _ _ (by have h9 := hp.1; simp at h9; show p.block ≠ w.heap.size; omega))))) (fun b hb => ⟨by have h9 := hb.1; simp at h9; omega, by have h9 := hb.2; simpa [World.setCell] using h9⟩)) l1 l2 l3 l4 ht (hsl.keep (fun p hp => World.cell?_of_block ((Below.heap_setCell _ ⟨w.heap.size, 2, none⟩ _ _ (by have h9 := hp.1; simp at h9; show p.block ≠ w.heap.size; omega)).trans ((Below.heap_setCell _ ⟨w.heap.size, 1, none⟩ _ _ (by have h9 := hp.1; simp at h9; show p.block ≠ w.heap.size; omega)).trans (Below.heap_setCell _ ⟨w.heap.size, 0, none⟩ _ _ (by have h9 := hp.1; simp at h9; show p.block ≠ w.heap.size; omega))))) (fun b hb => ⟨by have h9 := hb.1; simp at h9; omega, by have h9 := hb.2.1; simpa [World.setCell] using h9⟩)) (((hbb.setCell (p := ⟨w.heap.size, 0, none⟩) (Nat.le_refl _) _).setCell (p := ⟨w.heap.size, 1, none⟩) (Nat.le_refl _) _).setCell (p := ⟨w.heap.size, 2, none⟩) (Nat.le_refl _) _) (Nat.le_refl _)
      | exact HK.out _ _ _ _ _ _ _ _ _ _ _ _ w1.heap.size A1 n1 c1 A2 n2 c2 T t tc _ (Blk.new _ _ _ rfl) (ho1.keep (fun p hp => World.cell?_alloc_lt _ _ _ hp.2) (fun b hb => ⟨by have h9 := hb.1; simpa using h9, by have h9 := hb.2; simp; omega⟩)) l1 l2 l3 l4 ht (hsl.keep (fun p hp => World.cell?_alloc_lt _ _ _ hp.2.1) (fun b hb => ⟨by have h9 := hb.1; simpa using h9, by have h9 := hb.2.1; simp; omega⟩)) (hbb.alloc z1 _) z1
  · skip
    go_simp
    refine hK.out _ _ ?_ (fun hHeld16 => ?_)
    · (try dsimp only)
      (first | (with_reducible assumption) | (go_keep; done) | (refine ⟨?_, ?_, ?_, ?_, ?_⟩ <;> (first | (with_reducible assumption) | (simp [go_sem, *]; done) | (simp (disch := (simp; try omega)) [*, World.cell?_alloc_past, World.cell?_setCell_other]; done) | (rw [World.cell?_setCell_other _ _ _ _ (by simp; try omega), World.cell?_setCell_other _ _ _ _ (by simp; try omega), World.cell?_setCell_other _ _ _ _ (by simp; try omega)]; assumption))))
    clear hK K hHeld0
    try simp only [Act.put, List.setIfInBounds_toArray, List.set_cons_zero, List.set_cons_succ]
    refine wpAnyH_ready (rs := [8]) (by kernel_rfl) (by simp) ?_
    refine (AllReadyH.cons (o := _) rfl (fun K hK => ?_) AllReadyH.nil)
    go_simp
    refine (HC.out _ (by first | exact (Below.refl _ _).drew | exact ((Below.refl _ _).alloc (Nat.le_refl _) _).drew)).mono ?_
    rintro en w1 ⟨A1, n1, c1, A2, n2, c2, T, t, tc, rfl, ho1, l1, l2, l3, l4, ht, hox, hb1⟩
    have z1 : w.heap.size ≤ w1.heap.size := by (have h9 := hb1.size; simp at h9; omega)
    have hbb : RowKit.Below w.heap.size w w1 := by
      first
        | exact ((Below.refl w.heap.size w).drew).trans hb1
        | exact (((Below.refl w.heap.size w).alloc (Nat.le_refl _) _).drew).trans (hb1.mono (by simp))
    have q0 : w1.cell? ⟨P, 0, none⟩ = some (.int .i64 nx) := (hbb.cell (p := ⟨P, 0, none⟩) hP).trans p0
    have q1 : w1.cell? ⟨P, 1, none⟩ = some (.slice AS nS cS) := (hbb.cell (p := ⟨P, 1, none⟩) hP).trans p1
    have q2 : w1.cell? ⟨P, 2, none⟩ = some (.slice AW nW cW) := (hbb.cell (p := ⟨P, 2, none⟩) hP).trans p2
    have q9 : w1.cell? ⟨P, 9, none⟩ = some (.int .i64 win) := (hbb.cell (p := ⟨P, 9, none⟩) hP).trans p9
    have q10 : w1.cell? ⟨P, 10, none⟩ = some (.int .i64 now) := (hbb.cell (p := ⟨P, 10, none⟩) hP).trans p10
    have hsl := hox.sl.2.2.2
    have H1 := Lib.hid (And.intro ho1 (And.intro l1 (And.intro l2 (And.intro l3 (And.intro l4 (And.intro ht (And.intro hsl hbb)))))))
    try (have gE := Blk.below (w := (w.alloc (.cells #[.int .i64 0, .slice none 0 0, .slice none 0 0] 35)).drew) (g := w.heap.size) (Blk.new w _ _ rfl) hb1 (by simp)
         have i0 := gE.cell 0 (v := .int .i64 0) rfl; have i1 := gE.cell 1 (v := .slice none 0 0) rfl; have i2 := gE.cell 2 (v := .slice none 0 0) rfl
         have fE := gE.frozen
         have zE : w.heap.size < w1.heap.size := gE.lt
         have HGE := Lib.hid gE
         clear gE)
    clear ho1 l1 l2 l3 l4 ht hox hsl hbb hb1
    try dsimp only
    refine hK.out _ _ ?_ (fun hHeld17 => ?_)
    · (try dsimp only)
      (first | (with_reducible assumption) | (go_keep; done) | (refine ⟨?_, ?_, ?_, ?_, ?_⟩ <;> (first | (with_reducible assumption) | (simp [go_sem, *]; done) | (simp (disch := (simp; try omega)) [*, World.cell?_alloc_past, World.cell?_setCell_other]; done) | (rw [World.cell?_setCell_other _ _ _ _ (by simp; try omega), World.cell?_setCell_other _ _ _ _ (by simp; try omega), World.cell?_setCell_other _ _ _ _ (by simp; try omega)]; assumption))))
    clear hK K hHeld16
    try simp only [Act.put, List.setIfInBounds_toArray, List.set_cons_zero, List.set_cons_succ]
    refine wpAnyH_take (i := 9) (oi := _) (v := ?v18) rfl (by kernel_rfl) (by kernel_rfl) (by kernel_rfl) (fun _ _ _ h => h) (Or.inl ⟨by rfl, ?hy18⟩) (by with_reducible assumption) ?rest18
    case hy18 => (intro w hSw; (try dsimp only at hSw); go_simp; try with_reducible rfl)
    try simp only [Act.put, List.setIfInBounds_toArray, List.set_cons_zero, List.set_cons_succ]
    refine wpAnyH_take (i := 10) (oi := _) (v := ?v19) rfl (by kernel_rfl) (by kernel_rfl) (by kernel_rfl) (fun _ _ _ h => h) (Or.inl ⟨by rfl, ?hy19⟩) (by with_reducible assumption) ?rest19
    case hy19 => (intro w hSw; (try dsimp only at hSw); go_simp; try with_reducible rfl)
    try simp only [Act.put, List.setIfInBounds_toArray, List.set_cons_zero, List.set_cons_succ]
    refine wpAnyH_take (i := 11) (oi := _) (v := ?v20) rfl (by kernel_rfl) (by kernel_rfl) (by kernel_rfl) (fun _ _ _ h => h) (Or.inl ⟨by rfl, ?hy20⟩) (by with_reducible assumption) ?rest20
    case hy20 => (intro w hSw; (try dsimp only at hSw); go_simp; try with_reducible rfl)
    try simp only [Act.put, List.setIfInBounds_toArray, List.set_cons_zero, List.set_cons_succ]
    refine wpAnyH_ready (rs := [13]) (by kernel_rfl) (by simp) ?_
    refine (AllReadyH.cons (o := _) rfl (fun K hK => ?_) AllReadyH.nil)
    go_simp
    refine hK.out _ _ ?_ (fun hHeld21 => ?_)
    · (try dsimp only)
      (first | (with_reducible assumption) | (go_keep; done) | (refine ⟨?_, ?_, ?_, ?_, ?_⟩ <;> (first | (with_reducible assumption) | (simp [go_sem, *]; done) | (simp (disch := (simp; try omega)) [*, World.cell?_alloc_past, World.cell?_setCell_other]; done) | (rw [World.cell?_setCell_other _ _ _ _ (by simp; try omega), World.cell?_setCell_other _ _ _ _ (by simp; try omega), World.cell?_setCell_other _ _ _ _ (by simp; try omega)]; assumption))))
    clear hK K hHeld17
    try simp only [Act.put, List.setIfInBounds_toArray, List.set_cons_zero, List.set_cons_succ]
    refine wpAnyH_take (i := 14) (oi := _) (v := ?v22) rfl (by kernel_rfl) (by kernel_rfl) (by kernel_rfl) (fun _ _ _ h => h) (Or.inl ⟨by rfl, ?hy22⟩) (by with_reducible assumption) ?rest22
    case hy22 => (intro w hSw; (try dsimp only at hSw); go_simp; try with_reducible rfl)
    try simp only [Act.put, List.setIfInBounds_toArray, List.set_cons_zero, List.set_cons_succ]
    refine wpAnyH_done (by kernel_rfl) ?_ _
    refine NoPanic.normal ?_
    clear hHeld21
    obtain ⟨ho1, l1, l2, l3, l4, ht, hsl, hbb⟩ := H1.out
    first
      | exact HK.out _ _ _ _ _ _ _ _ _ _ _ _ w.heap.size A1 n1 c1 A2 n2 c2 T t tc _ (((HGE.out.set 0 _).set 1 _).set 2 _) (ho1.keep (fun p hp => World.cell?_of_block ((Below.heap_setCell _ ⟨w.heap.size, 2, none⟩ _ _ (by have h9 := hp.1; simp at h9; show p.block ≠ w.heap.size; omega)).trans ((Below.heap_setCell _ ⟨w.heap.size, 1, none⟩ _ _ (by have h9 := hp.1; simp at h9; show p.block ≠ w.heap.size; omega)).trans (Below.heap_setCell _ ⟨w.heap.size, 0, none⟩ _ _ (by have h9 := hp.1; simp at h9; show p.block ≠ w.heap.size; omega))))) (fun b hb => ⟨by have h9 := hb.1; simp at h9; omega, by have h9 := hb.2; simpa [World.setCell] using h9⟩)) l1 l2 l3 l4 ht (hsl.keep (fun p hp => World.cell?_of_block ((Below.heap_setCell _ ⟨w.heap.size, 2, none⟩ _ _ (by have h9 := hp.1; simp at h9; show p.block ≠ w.heap.size; omega)).trans ((Below.heap_setCell _ ⟨w.heap.size, 1, none⟩ _ _ (by have h9 := hp.1; simp at h9; show p.block ≠ w.heap.size; omega)).trans (Below.heap_setCell _ ⟨w.heap.size, 0, none⟩ _ _ (by have h9 := hp.1; simp at h9; show p.block ≠ w.heap.size; omega))))) (fun b hb => ⟨by have h9 := hb.1; simp at h9; omega, by have h9 := hb.2.1; simpa [World.setCell] using h9⟩)) (((hbb.setCell (p := ⟨w.heap.size, 0, none⟩) (Nat.le_refl _) _).setCell (p := ⟨w.heap.size, 1, none⟩) (Nat.le_refl _) _).setCell (p := ⟨w.heap.size, 2, none⟩) (Nat.le_refl _) _) (Nat.le_refl _)
      | exact HK.out _ _ _ _ _ _ _ _ _ _ _ _ w1.heap.size A1 n1 c1 A2 n2 c2 T t tc _ (Blk.new _ _ _ rfl) (ho1.keep (fun p hp => World.cell?_alloc_lt _ _ _ hp.2) (fun b hb => ⟨by have h9 := hb.1; simpa using h9, by have h9 := hb.2; simp; omega⟩)) l1 l2 l3 l4 ht (hsl.keep (fun p hp => World.cell?_alloc_lt _ _ _ hp.2.1) (fun b hb => ⟨by have h9 := hb.1; simpa using h9, by have h9 := hb.2.1; simp; omega⟩)) (hbb.alloc z1 _) z1
noncomputable def wy_again7_code : Code := regionOf Try.f7 18
set_option maxRecDepth 100000 in
set_option maxHeartbeats 4000000 in
theorem wy_again7 {Q : Exit → Act → World → Prop} {s0 s1 s2 s3 s4 s6 s7 s8 s9 s10 s11 s12 s13 s14 s15 s16 s17 s18 s19 s20 s21 s22 s23 s24 s25 s26 s27 s28 s29 s30 s31 s32 s33 s34 s35 s36 s37 s38 s39 s40 s41 s42 s43 s44 s45 s46 s47 s48 s49 s50 s51 s52 s53 s54 s55 s56 s57 s58 s59 s60 s61 s62 s63 s64 s65 s66 s67 s68 s69 s70 s71 s72 s73 s74 s75 s76 s77 s78 s79 s80 s81 s82 s83 s84 s85 s86 s87 s88 s89 s90 s91 s92 s93 s94 s95 s96 s97 s98 s99 s100 s101 s102 s103 s104 s105 s106 s107 s108 s109 s110 s111 s112 s113 s114 s115 s116 s117 s118 s119 s120 s121 s122 s123 s124 s125 : Value} (w : World) (P : Nat)  (nx now win : Int) (AS : Option Addr) (nS cS : Nat) (AW : Option Addr) (nW cW : Nat) (o' : Ot) (l : List It) (hP : P < w.heap.size)
    (p0 : w.cell? ⟨P, 0, none⟩ = some (.int .i64 nx)) (p1 : w.cell? ⟨P, 1, none⟩ = some (.slice AS nS cS)) (p2 : w.cell? ⟨P, 2, none⟩ = some (.slice AW nW cW)) (p9 : w.cell? ⟨P, 9, none⟩ = some (.int .i64 win)) (p10 : w.cell? ⟨P, 10, none⟩ = some (.int .i64 now))
    (hC : ∀ w', RowKit.Below w.heap.size w w' → Calls Try.prog 15 #[.agg #[.int .i64 nx, .slice AS nS cS, .slice AW nW cW], .int .i64 3, .int .i64 now] w' (OutRet o' l w'))
    (hK : ∀ (d61 d62 d63 d64 d65 d66 d67 d68 d69 d70 d71 d72 : Value) (E : Nat) (A1 : Option Addr) (n1 c1 : Nat) (A2 : Option Addr) (n2 c2 : Nat) (T : Option Addr) (t tc : Nat) (w' : World), Blk w' E 35 #[.int .i64 o'.next, .slice A1 n1 c1, .slice A2 n2 c2] → OutAt w' (mid w.heap.size w'.heap.size) A1 n1 A2 n2 o' → n1 ≤ c1 → c1 ≤ maxLen → n2 ≤ c2 → c2 ≤ maxLen → l.length = t → Sl Rit w' (mid w.heap.size w'.heap.size) T l → Below w.heap.size w w' → w.heap.size ≤ E →
      Q .normal ⟨#[s0, s1, s2, s3, s4, .pointer (some ⟨P, 0, none⟩), s6, s7, .pointer (some ⟨E, 0, none⟩), .slice T t tc, s10, s11, s12, s13, s14, s15, s16, s17, s18, s19, s20, s21, s22, s23, s24, s25, s26, s27, s28, s29, s30, s31, s32, s33, s34, s35, s36, s37, s38, s39, s40, s41, s42, s43, s44, s45, s46, s47, s48, s49, s50, s51, s52, s53, s54, s55, s56, s57, s58, s59, s60, d61, d62, d63, d64, d65, d66, d67, d68, d69, d70, d71, d72, s73, s74, s75, s76, s77, s78, s79, s80, s81, s82, s83, s84, s85, s86, s87, s88, s89, s90, s91, s92, s93, s94, s95, s96, s97, s98, s99, s100, s101, s102, s103, s104, s105, s106, s107, s108, s109, s110, s111, s112, s113, s114, s115, s116, s117, s118, s119, s120, s121, s122, s123, s124, s125], []⟩ w') :
    Code.wp Try.prog wy_again7_code Q ⟨#[s0, s1, s2, s3, s4, .pointer (some ⟨P, 0, none⟩), s6, s7, s8, s9, s10, s11, s12, s13, s14, s15, s16, s17, s18, s19, s20, s21, s22, s23, s24, s25, s26, s27, s28, s29, s30, s31, s32, s33, s34, s35, s36, s37, s38, s39, s40, s41, s42, s43, s44, s45, s46, s47, s48, s49, s50, s51, s52, s53, s54, s55, s56, s57, s58, s59, s60, s61, s62, s63, s64, s65, s66, s67, s68, s69, s70, s71, s72, s73, s74, s75, s76, s77, s78, s79, s80, s81, s82, s83, s84, s85, s86, s87, s88, s89, s90, s91, s92, s93, s94, s95, s96, s97, s98, s99, s100, s101, s102, s103, s104, s105, s106, s107, s108, s109, s110, s111, s112, s113, s114, s115, s116, s117, s118, s119, s120, s121, s122, s123, s124, s125], []⟩ w := by
  have HK := Lib.hid hK; clear hK
  have HC := Lib.hid hC; clear hC
  conv => arg 2; whnf
  refine wp_region_noPanic ?_
  refine wp_region_held_drew (S := (fun w' => w'.cell? ⟨P, 0, none⟩ = some (.int .i64 nx) ∧ w'.cell? ⟨P, 1, none⟩ = some (.slice AS nS cS) ∧ w'.cell? ⟨P, 2, none⟩ = some (.slice AW nW cW) ∧ w'.cell? ⟨P, 9, none⟩ = some (.int .i64 win) ∧ w'.cell? ⟨P, 10, none⟩ = some (.int .i64 now))) (by kernel_rfl) ?_ (fun hHeld0 => ?_)
  · (try dsimp only)
    (first | (with_reducible assumption) | (go_keep; done) | (refine ⟨?_, ?_, ?_, ?_, ?_⟩ <;> (first | (with_reducible assumption) | (simp [go_sem, *]; done) | (simp (disch := (simp; try omega)) [*, World.cell?_alloc_past, World.cell?_setCell_other]; done) | (rw [World.cell?_setCell_other _ _ _ _ (by simp; try omega), World.cell?_setCell_other _ _ _ _ (by simp; try omega), World.cell?_setCell_other _ _ _ _ (by simp; try omega)]; assumption))))
  refine wpAnyH_take (i := 0) (oi := _) (v := ?v1) rfl (by kernel_rfl) (by kernel_rfl) (by kernel_rfl) (fun _ _ _ h => h) (Or.inl ⟨by rfl, ?hy1⟩) (by with_reducible assumption) ?rest1
  case hy1 => (intro w hSw; (try dsimp only at hSw); go_simp; try with_reducible rfl)
  try simp only [Act.put, List.setIfInBounds_toArray, List.set_cons_zero, List.set_cons_succ]
  refine wpAnyH_take (i := 1) (oi := _) (v := ?v2) rfl (by kernel_rfl) (by kernel_rfl) (by kernel_rfl) (fun _ _ _ h => h) (Or.inl ⟨by rfl, ?hy2⟩) (by with_reducible assumption) ?rest2
  case hy2 => (intro w hSw; (try dsimp only at hSw); go_simp; try with_reducible rfl)
  try simp only [Act.put, List.setIfInBounds_toArray, List.set_cons_zero, List.set_cons_succ]
  refine wpAnyH_take (i := 2) (oi := _) (v := ?v3) rfl (by kernel_rfl) (by kernel_rfl) (by kernel_rfl) (fun _ _ _ h => h) (Or.inl ⟨by rfl, ?hy3⟩) (by with_reducible assumption) ?rest3
  case hy3 => (intro w hSw; (try dsimp only at hSw); go_simp; try with_reducible rfl)
  try simp only [Act.put, List.setIfInBounds_toArray, List.set_cons_zero, List.set_cons_succ]
  refine wpAnyH_take (i := 3) (oi := _) (v := ?v4) rfl (by kernel_rfl) (by kernel_rfl) (by kernel_rfl) (fun _ _ _ h => h) (Or.inl ⟨by rfl, ?hy4⟩) (by with_reducible assumption) ?rest4
  case hy4 => (intro w hSw; (try dsimp only at hSw); go_simp; try with_reducible rfl)
  try simp only [Act.put, List.setIfInBounds_toArray, List.set_cons_zero, List.set_cons_succ]
  refine wpAnyH_take (i := 4) (oi := _) (v := ?v5) rfl (by kernel_rfl) (by kernel_rfl) (by kernel_rfl) (fun _ _ _ h => h) (Or.inl ⟨by rfl, ?hy5⟩) (by with_reducible assumption) ?rest5
  case hy5 => (intro w hSw; (try dsimp only at hSw); go_simp; try with_reducible rfl)
  try simp only [Act.put, List.setIfInBounds_toArray, List.set_cons_zero, List.set_cons_succ]
  refine wpAnyH_take (i := 5) (oi := _) (v := ?v6) rfl (by kernel_rfl) (by kernel_rfl) (by kernel_rfl) (fun _ _ _ h => h) (Or.inl ⟨by rfl, ?hy6⟩) (by with_reducible assumption) ?rest6
  case hy6 => (intro w hSw; (try dsimp only at hSw); go_simp; try with_reducible rfl)
  try simp only [Act.put, List.setIfInBounds_toArray, List.set_cons_zero, List.set_cons_succ]
  refine wpAnyH_take (i := 6) (oi := _) (v := ?v7) rfl (by kernel_rfl) (by kernel_rfl) (by kernel_rfl) (fun _ _ _ h => h) (Or.inl ⟨by rfl, ?hy7⟩) (by with_reducible assumption) ?rest7
  case hy7 => (intro w hSw; (try dsimp only at hSw); go_simp; try with_reducible rfl)
  try simp only [Act.put, List.setIfInBounds_toArray, List.set_cons_zero, List.set_cons_succ]
  refine wpAnyH_take (i := 7) (oi := _) (v := ?v8) rfl (by kernel_rfl) (by kernel_rfl) (by kernel_rfl) (fun _ _ _ h => h) (Or.inl ⟨by rfl, ?hy8⟩) (by with_reducible assumption) ?rest8
  case hy8 => (intro w hSw; (try dsimp only at hSw); go_simp; try with_reducible rfl)
  try simp only [Act.put, List.setIfInBounds_toArray, List.set_cons_zero, List.set_cons_succ]
  refine wpAnyH_ready (rs := [8, 12]) (by kernel_rfl) (by simp) ?_
  refine (AllReadyH.cons (o := _) rfl (fun K hK => ?_) (AllReadyH.cons (o := _) rfl (fun K hK => ?_) AllReadyH.nil))
  · skip
    go_simp
    refine (HC.out _ (by first | exact (Below.refl _ _).drew | exact ((Below.refl _ _).alloc (Nat.le_refl _) _).drew)).mono ?_
    rintro en w1 ⟨A1, n1, c1, A2, n2, c2, T, t, tc, rfl, ho1, l1, l2, l3, l4, ht, hox, hb1⟩
    have z1 : w.heap.size ≤ w1.heap.size := by (have h9 := hb1.size; simp at h9; omega)
    have hbb : RowKit.Below w.heap.size w w1 := by
      first
        | exact ((Below.refl w.heap.size w).drew).trans hb1
        | exact (((Below.refl w.heap.size w).alloc (Nat.le_refl _) _).drew).trans (hb1.mono (by simp))
    have q0 : w1.cell? ⟨P, 0, none⟩ = some (.int .i64 nx) := (hbb.cell (p := ⟨P, 0, none⟩) hP).trans p0
    have q1 : w1.cell? ⟨P, 1, none⟩ = some (.slice AS nS cS) := (hbb.cell (p := ⟨P, 1, none⟩) hP).trans p1
    have q2 : w1.cell? ⟨P, 2, none⟩ = some (.slice AW nW cW) := (hbb.cell (p := ⟨P, 2, none⟩) hP).trans p2
    have q9 : w1.cell? ⟨P, 9, none⟩ = some (.int .i64 win) := (hbb.cell (p := ⟨P, 9, none⟩) hP).trans p9
    have q10 : w1.cell? ⟨P, 10, none⟩ = some (.int .i64 now) := (hbb.cell (p := ⟨P, 10, none⟩) hP).trans p10
    have hsl := hox.sl.2.2.2
    have H1 := Lib.hid (And.intro ho1 (And.intro l1 (And.intro l2 (And.intro l3 (And.intro l4 (And.intro ht (And.intro hsl hbb)))))))
    try (have gE := Blk.below (w := (w.alloc (.cells #[.int .i64 0, .slice none 0 0, .slice none 0 0] 35)).drew) (g := w.heap.size) (Blk.new w _ _ rfl) hb1 (by simp)
         have i0 := gE.cell 0 (v := .int .i64 0) rfl; have i1 := gE.cell 1 (v := .slice none 0 0) rfl; have i2 := gE.cell 2 (v := .slice none 0 0) rfl
         have fE := gE.frozen
         have zE : w.heap.size < w1.heap.size := gE.lt
         have HGE := Lib.hid gE
         clear gE)
    clear ho1 l1 l2 l3 l4 ht hox hsl hbb hb1
    try dsimp only
    refine hK.out _ _ ?_ (fun hHeld9 => ?_)
    · (try dsimp only)
      (first | (with_reducible assumption) | (go_keep; done) | (refine ⟨?_, ?_, ?_, ?_, ?_⟩ <;> (first | (with_reducible assumption) | (simp [go_sem, *]; done) | (simp (disch := (simp; try omega)) [*, World.cell?_alloc_past, World.cell?_setCell_other]; done) | (rw [World.cell?_setCell_other _ _ _ _ (by simp; try omega), World.cell?_setCell_other _ _ _ _ (by simp; try omega), World.cell?_setCell_other _ _ _ _ (by simp; try omega)]; assumption))))
    clear hK K hHeld0
    try simp only [Act.put, List.setIfInBounds_toArray, List.set_cons_zero, List.set_cons_succ]
    refine wpAnyH_take (i := 9) (oi := _) (v := ?v10) rfl (by kernel_rfl) (by kernel_rfl) (by kernel_rfl) (fun _ _ _ h => h) (Or.inl ⟨by rfl, ?hy10⟩) (by with_reducible assumption) ?rest10
    case hy10 => (intro w hSw; (try dsimp only at hSw); go_simp; try with_reducible rfl)
    try simp only [Act.put, List.setIfInBounds_toArray, List.set_cons_zero, List.set_cons_succ]
    refine wpAnyH_take (i := 10) (oi := _) (v := ?v11) rfl (by kernel_rfl) (by kernel_rfl) (by kernel_rfl) (fun _ _ _ h => h) (Or.inl ⟨by rfl, ?hy11⟩) (by with_reducible assumption) ?rest11
    case hy11 => (intro w hSw; (try dsimp only at hSw); go_simp; try with_reducible rfl)
    try simp only [Act.put, List.setIfInBounds_toArray, List.set_cons_zero, List.set_cons_succ]
    refine wpAnyH_take (i := 11) (oi := _) (v := ?v12) rfl (by kernel_rfl) (by kernel_rfl) (by kernel_rfl) (fun _ _ _ h => h) (Or.inl ⟨by rfl, ?hy12⟩) (by with_reducible assumption) ?rest12
    case hy12 => (intro w hSw; (try dsimp only at hSw); go_simp; try with_reducible rfl)
    try simp only [Act.put, List.setIfInBounds_toArray, List.set_cons_zero, List.set_cons_succ]
    refine wpAnyH_ready (rs := [12]) (by kernel_rfl) (by simp) ?_
    refine (AllReadyH.cons (o := _) rfl (fun K hK => ?_) AllReadyH.nil)
    go_simp
    refine hK.out _ _ ?_ (fun hHeld13 => ?_)
    · (try dsimp only)
      (first | (with_reducible assumption) | (go_keep; done) | (refine ⟨?_, ?_, ?_, ?_, ?_⟩ <;> (first | (with_reducible assumption) | (simp [go_sem, *]; done) | (simp (disch := (simp; try omega)) [*, World.cell?_alloc_past, World.cell?_setCell_other]; done) | (rw [World.cell?_setCell_other _ _ _ _ (by simp; try omega), World.cell?_setCell_other _ _ _ _ (by simp; try omega), World.cell?_setCell_other _ _ _ _ (by simp; try omega)]; assumption))))
    clear hK K hHeld9
    try simp only [Act.put, List.setIfInBounds_toArray, List.set_cons_zero, List.set_cons_succ]
    refine wpAnyH_ready (rs := [13]) (by kernel_rfl) (by simp) ?_
    refine (AllReadyH.cons (o := _) rfl (fun K hK => ?_) AllReadyH.nil)
    go_simp
    refine hK.out _ _ ?_ (fun hHeld14 => ?_)
    · (try dsimp only)
      (first | (with_reducible assumption) | (go_keep; done) | (refine ⟨?_, ?_, ?_, ?_, ?_⟩ <;> (first | (with_reducible assumption) | (simp [go_sem, *]; done) | (simp (disch := (simp; try omega)) [*, World.cell?_alloc_past, World.cell?_setCell_other]; done) | (rw [World.cell?_setCell_other _ _ _ _ (by simp; try omega), World.cell?_setCell_other _ _ _ _ (by simp; try omega), World.cell?_setCell_other _ _ _ _ (by simp; try omega)]; assumption))))
    clear hK K hHeld13
    try simp only [Act.put, List.setIfInBounds_toArray, List.set_cons_zero, List.set_cons_succ]
    refine wpAnyH_take (i := 14) (oi := _) (v := ?v15) rfl (by kernel_rfl) (by kernel_rfl) (by kernel_rfl) (fun _ _ _ h => h) (Or.inl ⟨by rfl, ?hy15⟩) (by with_reducible assumption) ?rest15
    case hy15 => (intro w hSw; (try dsimp only at hSw); go_simp; try with_reducible rfl)
    try simp only [Act.put, List.setIfInBounds_toArray, List.set_cons_zero, List.set_cons_succ]
    refine wpAnyH_done (by kernel_rfl) ?_ _
    refine NoPanic.normal ?_
    clear hHeld14
    obtain ⟨ho1, l1, l2, l3, l4, ht, hsl, hbb⟩ := H1.out
    first
      | exact HK.out _ _ _ _ _ _ _ _ _ _ _ _ w.heap.size A1 n1 c1 A2 n2 c2 T t tc _ (((HGE.out.set 0 _).set 1 _).set 2 _) (ho1.keep (fun p hp => World.cell?_of_block ((Below.heap_setCell _ ⟨w.heap.size, 2, none⟩ _ _ (by have h9 := hp.1; simp at h9; show p.block ≠ w.heap.size; omega)).trans ((Below.heap_setCell _ ⟨w.heap.size, 1, none⟩ _ _ (by have h9 := hp.1; simp at h9; show p.block ≠ w.heap.size; omega)).trans (Below.heap_setCell _ ⟨w.heap.size, 0, none⟩ _ _ (by have h9 := hp.1; simp at h9; show p.block ≠ w.heap.size; omega))))) (fun b hb => ⟨by have h9 := hb.1; simp at h9; omega, by have h9 := hb.2; simpa [World.setCell] using h9⟩)) l1 l2 l3 l4 ht (hsl.keep (fun p hp => World.cell?_of_block ((Below.heap_setCell _ ⟨w.heap.size, 2, none⟩ _ _ (by have h9 := hp.1; simp at h9; show p.block ≠ w.heap.size; omega)).trans ((Below.heap_setCell _ ⟨w.heap.size, 1, none⟩ _ _ (by have h9 := hp.1; simp at h9; show p.block ≠ w.heap.size; omega)).trans (Below.heap_setCell _ ⟨w.heap.size, 0, none⟩ _ _ (by have h9 := hp.1; simp at h9; show p.block ≠ w.heap.size; omega))))) (fun b hb => ⟨by have h9 := hb.1; simp at h9; omega, by have h9 := hb.2.1; simpa [World.setCell] using h9⟩)) (((hbb.setCell (p := ⟨w.heap.size, 0, none⟩) (Nat.le_refl _) _).setCell (p := ⟨w.heap.size, 1, none⟩) (Nat.le_refl _) _).setCell (p := ⟨w.heap.size, 2, none⟩) (Nat.le_refl _) _) (Nat.le_refl _)
      | exact HK.out _ _ _ _ _ _ _ _ _ _ _ _ w1.heap.size A1 n1 c1 A2 n2 c2 T t tc _ (Blk.new _ _ _ rfl) (ho1.keep (fun p hp => World.cell?_alloc_lt _ _ _ hp.2) (fun b hb => ⟨by have h9 := hb.1; simpa using h9, by have h9 := hb.2; simp; omega⟩)) l1 l2 l3 l4 ht (hsl.keep (fun p hp => World.cell?_alloc_lt _ _ _ hp.2.1) (fun b hb => ⟨by have h9 := hb.1; simpa using h9, by have h9 := hb.2.1; simp; omega⟩)) (hbb.alloc z1 _) z1
  · skip
    go_simp
    refine hK.out _ _ ?_ (fun hHeld16 => ?_)
    · (try dsimp only)
      (first | (with_reducible assumption) | (go_keep; done) | (refine ⟨?_, ?_, ?_, ?_, ?_⟩ <;> (first | (with_reducible assumption) | (simp [go_sem, *]; done) | (simp (disch := (simp; try omega)) [*, World.cell?_alloc_past, World.cell?_setCell_other]; done) | (rw [World.cell?_setCell_other _ _ _ _ (by simp; try omega), World.cell?_setCell_other _ _ _ _ (by simp; try omega), World.cell?_setCell_other _ _ _ _ (by simp; try omega)]; assumption))))
    clear hK K hHeld0
    try simp only [Act.put, List.setIfInBounds_toArray, List.set_cons_zero, List.set_cons_succ]
    refine wpAnyH_ready (rs := [8]) (by kernel_rfl) (by simp) ?_
    refine (AllReadyH.cons (o := _) rfl (fun K hK => ?_) AllReadyH.nil)
    go_simp
    refine (HC.out _ (by first | exact (Below.refl _ _).drew | exact ((Below.refl _ _).alloc (Nat.le_refl _) _).drew)).mono ?_
    rintro en w1 ⟨A1, n1, c1, A2, n2, c2, T, t, tc, rfl, ho1, l1, l2, l3, l4, ht, hox, hb1⟩
    have z1 : w.heap.size ≤ w1.heap.size := by (have h9 := hb1.size; simp at h9; omega)
    have hbb : RowKit.Below w.heap.size w w1 := by
      first
        | exact ((Below.refl w.heap.size w).drew).trans hb1
        | exact (((Below.refl w.heap.size w).alloc (Nat.le_refl _) _).drew).trans (hb1.mono (by simp))
    have q0 : w1.cell? ⟨P, 0, none⟩ = some (.int .i64 nx) := (hbb.cell (p := ⟨P, 0, none⟩) hP).trans p0
    have q1 : w1.cell? ⟨P, 1, none⟩ = some (.slice AS nS cS) := (hbb.cell (p := ⟨P, 1, none⟩) hP).trans p1
    have q2 : w1.cell? ⟨P, 2, none⟩ = some (.slice AW nW cW) := (hbb.cell (p := ⟨P, 2, none⟩) hP).trans p2
    have q9 : w1.cell? ⟨P, 9, none⟩ = some (.int .i64 win) := (hbb.cell (p := ⟨P, 9, none⟩) hP).trans p9
    have q10 : w1.cell? ⟨P, 10, none⟩ = some (.int .i64 now) := (hbb.cell (p := ⟨P, 10, none⟩) hP).trans p10
    have hsl := hox.sl.2.2.2
    have H1 := Lib.hid (And.intro ho1 (And.intro l1 (And.intro l2 (And.intro l3 (And.intro l4 (And.intro ht (And.intro hsl hbb)))))))
    try (have gE := Blk.below (w := (w.alloc (.cells #[.int .i64 0, .slice none 0 0, .slice none 0 0] 35)).drew) (g := w.heap.size) (Blk.new w _ _ rfl) hb1 (by simp)
         have i0 := gE.cell 0 (v := .int .i64 0) rfl; have i1 := gE.cell 1 (v := .slice none 0 0) rfl; have i2 := gE.cell 2 (v := .slice none 0 0) rfl
         have fE := gE.frozen
         have zE : w.heap.size < w1.heap.size := gE.lt
         have HGE := Lib.hid gE
         clear gE)
    clear ho1 l1 l2 l3 l4 ht hox hsl hbb hb1
    try dsimp only
    refine hK.out _ _ ?_ (fun hHeld17 => ?_)
    · (try dsimp only)
      (first | (with_reducible assumption) | (go_keep; done) | (refine ⟨?_, ?_, ?_, ?_, ?_⟩ <;> (first | (with_reducible assumption) | (simp [go_sem, *]; done) | (simp (disch := (simp; try omega)) [*, World.cell?_alloc_past, World.cell?_setCell_other]; done) | (rw [World.cell?_setCell_other _ _ _ _ (by simp; try omega), World.cell?_setCell_other _ _ _ _ (by simp; try omega), World.cell?_setCell_other _ _ _ _ (by simp; try omega)]; assumption))))
    clear hK K hHeld16
    try simp only [Act.put, List.setIfInBounds_toArray, List.set_cons_zero, List.set_cons_succ]
    refine wpAnyH_take (i := 9) (oi := _) (v := ?v18) rfl (by kernel_rfl) (by kernel_rfl) (by kernel_rfl) (fun _ _ _ h => h) (Or.inl ⟨by rfl, ?hy18⟩) (by with_reducible assumption) ?rest18
    case hy18 => (intro w hSw; (try dsimp only at hSw); go_simp; try with_reducible rfl)
    try simp only [Act.put, List.setIfInBounds_toArray, List.set_cons_zero, List.set_cons_succ]
    refine wpAnyH_take (i := 10) (oi := _) (v := ?v19) rfl (by kernel_rfl) (by kernel_rfl) (by kernel_rfl) (fun _ _ _ h => h) (Or.inl ⟨by rfl, ?hy19⟩) (by with_reducible assumption) ?rest19
    case hy19 => (intro w hSw; (try dsimp only at hSw); go_simp; try with_reducible rfl)
    try simp only [Act.put, List.setIfInBounds_toArray, List.set_cons_zero, List.set_cons_succ]
    refine wpAnyH_take (i := 11) (oi := _) (v := ?v20) rfl (by kernel_rfl) (by kernel_rfl) (by kernel_rfl) (fun _ _ _ h => h) (Or.inl ⟨by rfl, ?hy20⟩) (by with_reducible assumption) ?rest20
    case hy20 => (intro w hSw; (try dsimp only at hSw); go_simp; try with_reducible rfl)
    try simp only [Act.put, List.setIfInBounds_toArray, List.set_cons_zero, List.set_cons_succ]
    refine wpAnyH_ready (rs := [13]) (by kernel_rfl) (by simp) ?_
    refine (AllReadyH.cons (o := _) rfl (fun K hK => ?_) AllReadyH.nil)
    go_simp
    refine hK.out _ _ ?_ (fun hHeld21 => ?_)
    · (try dsimp only)
      (first | (with_reducible assumption) | (go_keep; done) | (refine ⟨?_, ?_, ?_, ?_, ?_⟩ <;> (first | (with_reducible assumption) | (simp [go_sem, *]; done) | (simp (disch := (simp; try omega)) [*, World.cell?_alloc_past, World.cell?_setCell_other]; done) | (rw [World.cell?_setCell_other _ _ _ _ (by simp; try omega), World.cell?_setCell_other _ _ _ _ (by simp; try omega), World.cell?_setCell_other _ _ _ _ (by simp; try omega)]; assumption))))
    clear hK K hHeld17
    try simp only [Act.put, List.setIfInBounds_toArray, List.set_cons_zero, List.set_cons_succ]
    refine wpAnyH_take (i := 14) (oi := _) (v := ?v22) rfl (by kernel_rfl) (by kernel_rfl) (by kernel_rfl) (fun _ _ _ h => h) (Or.inl ⟨by rfl, ?hy22⟩) (by with_reducible assumption) ?rest22
    case hy22 => (intro w hSw; (try dsimp only at hSw); go_simp; try with_reducible rfl)
    try simp only [Act.put, List.setIfInBounds_toArray, List.set_cons_zero, List.set_cons_succ]
    refine wpAnyH_done (by kernel_rfl) ?_ _
    refine NoPanic.normal ?_
    clear hHeld21
    obtain ⟨ho1, l1, l2, l3, l4, ht, hsl, hbb⟩ := H1.out
    first
      | exact HK.out _ _ _ _ _ _ _ _ _ _ _ _ w.heap.size A1 n1 c1 A2 n2 c2 T t tc _ (((HGE.out.set 0 _).set 1 _).set 2 _) (ho1.keep (fun p hp => World.cell?_of_block ((Below.heap_setCell _ ⟨w.heap.size, 2, none⟩ _ _ (by have h9 := hp.1; simp at h9; show p.block ≠ w.heap.size; omega)).trans ((Below.heap_setCell _ ⟨w.heap.size, 1, none⟩ _ _ (by have h9 := hp.1; simp at h9; show p.block ≠ w.heap.size; omega)).trans (Below.heap_setCell _ ⟨w.heap.size, 0, none⟩ _ _ (by have h9 := hp.1; simp at h9; show p.block ≠ w.heap.size; omega))))) (fun b hb => ⟨by have h9 := hb.1; simp at h9; omega, by have h9 := hb.2; simpa [World.setCell] using h9⟩)) l1 l2 l3 l4 ht (hsl.keep (fun p hp => World.cell?_of_block ((Below.heap_setCell _ ⟨w.heap.size, 2, none⟩ _ _ (by have h9 := hp.1; simp at h9; show p.block ≠ w.heap.size; omega)).trans ((Below.heap_setCell _ ⟨w.heap.size, 1, none⟩ _ _ (by have h9 := hp.1; simp at h9; show p.block ≠ w.heap.size; omega)).trans (Below.heap_setCell _ ⟨w.heap.size, 0, none⟩ _ _ (by have h9 := hp.1; simp at h9; show p.block ≠ w.heap.size; omega))))) (fun b hb => ⟨by have h9 := hb.1; simp at h9; omega, by have h9 := hb.2.1; simpa [World.setCell] using h9⟩)) (((hbb.setCell (p := ⟨w.heap.size, 0, none⟩) (Nat.le_refl _) _).setCell (p := ⟨w.heap.size, 1, none⟩) (Nat.le_refl _) _).setCell (p := ⟨w.heap.size, 2, none⟩) (Nat.le_refl _) _) (Nat.le_refl _)
      | exact HK.out _ _ _ _ _ _ _ _ _ _ _ _ w1.heap.size A1 n1 c1 A2 n2 c2 T t tc _ (Blk.new _ _ _ rfl) (ho1.keep (fun p hp => World.cell?_alloc_lt _ _ _ hp.2) (fun b hb => ⟨by have h9 := hb.1; simpa using h9, by have h9 := hb.2; simp; omega⟩)) l1 l2 l3 l4 ht (hsl.keep (fun p hp => World.cell?_alloc_lt _ _ _ hp.2.1) (fun b hb => ⟨by have h9 := hb.1; simpa using h9, by have h9 := hb.2.1; simp; omega⟩)) (hbb.alloc z1 _) z1
end Go.Proofs.Ytalieakmjkmbbaa
