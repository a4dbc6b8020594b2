/-
  The way's methods: the regions that call Take.
-/
import Derived.Test.YtalieakmjkmbbaaWayB
namespace Go.Proofs.Ytalieakmjkmbbaa
open Go.RowKit Go.Sort
set_option linter.unusedVariables false
set_option linter.unusedSimpArgs false
attribute [local go_sem ↓] Go.wp_at_zero Go.wp_at_succ

noncomputable def wy_take_code : Code := regionOf Try.f22 1
set_option maxRecDepth 100000 in
set_option maxHeartbeats 4000000 in
theorem wy_take {Q : Exit → Act → World → Prop} {s1 s2 s4 s5 s6 s7 s8 s9 s10 s11 s12 s13 s14 s15 s16 s17 s18 s19 s20 s21 s22 s23 s24 s25 s26 s27 s28 s29 s30 s31 s32 s33 s34 s35 s36 s37 s38 s39 s40 s41 s42 s43 s44 s45 s46 : Value} (w : World) (P X : Nat) (e win sq : Int) (AH : Option Addr) (nH cH : Nat) (TB : Option Addr) (nb cb : Nat) (hd : List It) (td : List (List Int)) (ex : Int) (hP : P < w.heap.size) (hX : X < w.heap.size)
    (p0 : w.cell? ⟨P, 3, none⟩ = some (.int .i64 e)) (p1 : w.cell? ⟨P, 4, none⟩ = some (.slice AH nH cH)) (p2 : w.cell? ⟨P, 9, none⟩ = some (.int .i64 win)) (p3 : w.cell? ⟨X, 0, none⟩ = some (.int .i64 sq)) (p4 : w.cell? ⟨X, 1, none⟩ = some (.slice TB nb cb))
    (hC : ∀ w', RowKit.Below w.heap.size w w' → Calls Try.prog 10 #[.agg #[.int .i64 e, .slice AH nH cH], .int .i64 sq, .slice TB nb cb, .int .i64 win] w' (TakeRet hd td ex w'))
    (hK : ∀ (d7 d8 d9 d10 d11 d12 d13 d14 d15 d16 d17 d18 d19 d20 d21 d22 d23 : Value) (E : Nat) (A1 : Option Addr) (n1 c1 : Nat) (T : Option Addr) (t tc : Nat) (w' : World), Blk w' E 24 #[.int .i64 ex, .slice A1 n1 c1] → hd.length = n1 → Sl Rit w' (mid w.heap.size w'.heap.size) A1 hd → td.length = t → Sl Rbd w' (mid w.heap.size w'.heap.size) T td → Below w.heap.size w w' → w.heap.size ≤ E →
      Q .normal ⟨#[.pointer (some ⟨P, 0, none⟩), s1, s2, .pointer (some ⟨X, 0, none⟩), .pointer (some ⟨E, 0, none⟩), .slice T t tc, .int .i64 ex, d7, d8, d9, d10, d11, d12, d13, d14, d15, d16, d17, d18, d19, d20, d21, d22, d23, s24, s25, s26, s27, s28, s29, s30, s31, s32, s33, s34, s35, s36, s37, s38, s39, s40, s41, s42, s43, s44, s45, s46], []⟩ w') :
    Code.wp Try.prog wy_take_code Q ⟨#[.pointer (some ⟨P, 0, none⟩), s1, s2, .pointer (some ⟨X, 0, none⟩), s4, s5, s6, s7, s8, s9, s10, s11, s12, s13, s14, s15, s16, s17, s18, s19, s20, s21, s22, s23, s24, s25, s26, s27, s28, s29, s30, s31, s32, s33, s34, s35, s36, s37, s38, s39, s40, s41, s42, s43, s44, s45, s46], []⟩ w := by
  have HK := Lib.hid hK; clear hK
  have HC := Lib.hid hC; clear hC
  conv => arg 2; whnf
  refine wp_region_noPanic ?_
  refine wp_region_held_drew (S := (fun w' => w'.cell? ⟨P, 3, none⟩ = some (.int .i64 e) ∧ w'.cell? ⟨P, 4, none⟩ = some (.slice AH nH cH) ∧ w'.cell? ⟨P, 9, none⟩ = some (.int .i64 win) ∧ w'.cell? ⟨X, 0, none⟩ = some (.int .i64 sq) ∧ w'.cell? ⟨X, 1, none⟩ = some (.slice TB nb cb))) (by kernel_rfl) ?_ (fun hHeld0 => ?_)
  · (try dsimp only)
    (first | (with_reducible assumption) | (go_keep; done) | (refine ⟨?_, ?_, ?_, ?_, ?_⟩ <;> (first | (with_reducible assumption) | (simp [go_sem, *]; done) | (simp (disch := (simp; try omega)) [*, World.cell?_alloc_past, World.cell?_setCell_other]; done) | (rw [World.cell?_setCell_other _ _ _ _ (by simp; try omega), World.cell?_setCell_other _ _ _ _ (by simp; try omega)]; assumption))))
  refine wpAnyH_take (i := 0) (oi := _) (v := ?v1) rfl (by kernel_rfl) (by kernel_rfl) (by kernel_rfl) (fun _ _ _ h => h) (Or.inl ⟨by rfl, ?hy1⟩) (by with_reducible assumption) ?rest1
  case hy1 => (intro w hSw; (try dsimp only at hSw); go_simp; try with_reducible rfl)
  try simp only [Act.put, List.setIfInBounds_toArray, List.set_cons_zero, List.set_cons_succ]
  refine wpAnyH_take (i := 1) (oi := _) (v := ?v2) rfl (by kernel_rfl) (by kernel_rfl) (by kernel_rfl) (fun _ _ _ h => h) (Or.inl ⟨by rfl, ?hy2⟩) (by with_reducible assumption) ?rest2
  case hy2 => (intro w hSw; (try dsimp only at hSw); go_simp; try with_reducible rfl)
  try simp only [Act.put, List.setIfInBounds_toArray, List.set_cons_zero, List.set_cons_succ]
  refine wpAnyH_take (i := 2) (oi := _) (v := ?v3) rfl (by kernel_rfl) (by kernel_rfl) (by kernel_rfl) (fun _ _ _ h => h) (Or.inl ⟨by rfl, ?hy3⟩) (by with_reducible assumption) ?rest3
  case hy3 => (intro w hSw; (try dsimp only at hSw); go_simp; try with_reducible rfl)
  try simp only [Act.put, List.setIfInBounds_toArray, List.set_cons_zero, List.set_cons_succ]
  refine wpAnyH_take (i := 3) (oi := _) (v := ?v4) rfl (by kernel_rfl) (by kernel_rfl) (by kernel_rfl) (fun _ _ _ h => h) (Or.inl ⟨by rfl, ?hy4⟩) (by with_reducible assumption) ?rest4
  case hy4 => (intro w hSw; (try dsimp only at hSw); go_simp; try with_reducible rfl)
  try simp only [Act.put, List.setIfInBounds_toArray, List.set_cons_zero, List.set_cons_succ]
  refine wpAnyH_take (i := 4) (oi := _) (v := ?v5) rfl (by kernel_rfl) (by kernel_rfl) (by kernel_rfl) (fun _ _ _ h => h) (Or.inl ⟨by rfl, ?hy5⟩) (by with_reducible assumption) ?rest5
  case hy5 => (intro w hSw; (try dsimp only at hSw); go_simp; try with_reducible rfl)
  try simp only [Act.put, List.setIfInBounds_toArray, List.set_cons_zero, List.set_cons_succ]
  refine wpAnyH_take (i := 5) (oi := _) (v := ?v6) rfl (by kernel_rfl) (by kernel_rfl) (by kernel_rfl) (fun _ _ _ h => h) (Or.inl ⟨by rfl, ?hy6⟩) (by with_reducible assumption) ?rest6
  case hy6 => (intro w hSw; (try dsimp only at hSw); go_simp; try with_reducible rfl)
  try simp only [Act.put, List.setIfInBounds_toArray, List.set_cons_zero, List.set_cons_succ]
  refine wpAnyH_take (i := 6) (oi := _) (v := ?v7) rfl (by kernel_rfl) (by kernel_rfl) (by kernel_rfl) (fun _ _ _ h => h) (Or.inl ⟨by rfl, ?hy7⟩) (by with_reducible assumption) ?rest7
  case hy7 => (intro w hSw; (try dsimp only at hSw); go_simp; try with_reducible rfl)
  try simp only [Act.put, List.setIfInBounds_toArray, List.set_cons_zero, List.set_cons_succ]
  refine wpAnyH_take (i := 7) (oi := _) (v := ?v8) rfl (by kernel_rfl) (by kernel_rfl) (by kernel_rfl) (fun _ _ _ h => h) (Or.inl ⟨by rfl, ?hy8⟩) (by with_reducible assumption) ?rest8
  case hy8 => (intro w hSw; (try dsimp only at hSw); go_simp; try with_reducible rfl)
  try simp only [Act.put, List.setIfInBounds_toArray, List.set_cons_zero, List.set_cons_succ]
  refine wpAnyH_take (i := 8) (oi := _) (v := ?v9) rfl (by kernel_rfl) (by kernel_rfl) (by kernel_rfl) (fun _ _ _ h => h) (Or.inl ⟨by rfl, ?hy9⟩) (by with_reducible assumption) ?rest9
  case hy9 => (intro w hSw; (try dsimp only at hSw); go_simp; try with_reducible rfl)
  try simp only [Act.put, List.setIfInBounds_toArray, List.set_cons_zero, List.set_cons_succ]
  refine wpAnyH_take (i := 9) (oi := _) (v := ?v10) rfl (by kernel_rfl) (by kernel_rfl) (by kernel_rfl) (fun _ _ _ h => h) (Or.inl ⟨by rfl, ?hy10⟩) (by with_reducible assumption) ?rest10
  case hy10 => (intro w hSw; (try dsimp only at hSw); go_simp; try with_reducible rfl)
  try simp only [Act.put, List.setIfInBounds_toArray, List.set_cons_zero, List.set_cons_succ]
  refine wpAnyH_take (i := 10) (oi := _) (v := ?v11) rfl (by kernel_rfl) (by kernel_rfl) (by kernel_rfl) (fun _ _ _ h => h) (Or.inl ⟨by rfl, ?hy11⟩) (by with_reducible assumption) ?rest11
  case hy11 => (intro w hSw; (try dsimp only at hSw); go_simp; try with_reducible rfl)
  try simp only [Act.put, List.setIfInBounds_toArray, List.set_cons_zero, List.set_cons_succ]
  refine wpAnyH_take (i := 11) (oi := _) (v := ?v12) rfl (by kernel_rfl) (by kernel_rfl) (by kernel_rfl) (fun _ _ _ h => h) (Or.inl ⟨by rfl, ?hy12⟩) (by with_reducible assumption) ?rest12
  case hy12 => (intro w hSw; (try dsimp only at hSw); go_simp; try with_reducible rfl)
  try simp only [Act.put, List.setIfInBounds_toArray, List.set_cons_zero, List.set_cons_succ]
  refine wpAnyH_ready (rs := [12, 17]) (by kernel_rfl) (by simp) ?_
  refine (AllReadyH.cons (o := _) rfl (fun K hK => ?_) (AllReadyH.cons (o := _) rfl (fun K hK => ?_) AllReadyH.nil))
  · skip
    go_simp
    refine (HC.out _ (by first | exact (Below.refl _ _).drew | exact ((Below.refl _ _).alloc (Nat.le_refl _) _).drew)).mono ?_
    rintro en w1 ⟨A1, n1, c1, T, t, tc, rfl, hn1, -, -, hs1, ht, -, -, hst, hb1⟩
    have z1 : w.heap.size ≤ w1.heap.size := by (have h9 := hb1.size; simp at h9; omega)
    have hbb : RowKit.Below w.heap.size w w1 := by
      first
        | exact ((Below.refl w.heap.size w).drew).trans hb1
        | exact (((Below.refl w.heap.size w).alloc (Nat.le_refl _) _).drew).trans (hb1.mono (by simp))
    have q0 : w1.cell? ⟨P, 3, none⟩ = some (.int .i64 e) := (hbb.cell (p := ⟨P, 3, none⟩) hP).trans p0
    have q1 : w1.cell? ⟨P, 4, none⟩ = some (.slice AH nH cH) := (hbb.cell (p := ⟨P, 4, none⟩) hP).trans p1
    have q2 : w1.cell? ⟨P, 9, none⟩ = some (.int .i64 win) := (hbb.cell (p := ⟨P, 9, none⟩) hP).trans p2
    have q3 : w1.cell? ⟨X, 0, none⟩ = some (.int .i64 sq) := (hbb.cell (p := ⟨X, 0, none⟩) hX).trans p3
    have q4 : w1.cell? ⟨X, 1, none⟩ = some (.slice TB nb cb) := (hbb.cell (p := ⟨X, 1, none⟩) hX).trans p4
    have H1 := Lib.hid (And.intro hn1 (And.intro hs1 (And.intro ht (And.intro hst hbb))))
    try (have gE := Blk.below (w := (w.alloc (.cells #[.int .i64 0, .slice none 0 0] 24)).drew) (g := w.heap.size) (Blk.new w _ _ rfl) hb1 (by simp)
         have i0 := gE.cell 0 (v := .int .i64 0) rfl; have i1 := gE.cell 1 (v := .slice none 0 0) rfl
         have fE := gE.frozen
         have zE : w.heap.size < w1.heap.size := gE.lt
         have HGE := Lib.hid gE
         clear gE)
    clear hn1 hs1 ht hst hbb hb1
    try dsimp only
    refine hK.out _ _ ?_ (fun hHeld13 => ?_)
    · (try dsimp only)
      (first | (with_reducible assumption) | (go_keep; done) | (refine ⟨?_, ?_, ?_, ?_, ?_⟩ <;> (first | (with_reducible assumption) | (simp [go_sem, *]; done) | (simp (disch := (simp; try omega)) [*, World.cell?_alloc_past, World.cell?_setCell_other]; done) | (rw [World.cell?_setCell_other _ _ _ _ (by simp; try omega), World.cell?_setCell_other _ _ _ _ (by simp; try omega)]; assumption))))
    clear hK K hHeld0
    try simp only [Act.put, List.setIfInBounds_toArray, List.set_cons_zero, List.set_cons_succ]
    refine wpAnyH_take (i := 13) (oi := _) (v := ?v14) rfl (by kernel_rfl) (by kernel_rfl) (by kernel_rfl) (fun _ _ _ h => h) (Or.inl ⟨by rfl, ?hy14⟩) (by with_reducible assumption) ?rest14
    case hy14 => (intro w hSw; (try dsimp only at hSw); go_simp; try with_reducible rfl)
    try simp only [Act.put, List.setIfInBounds_toArray, List.set_cons_zero, List.set_cons_succ]
    refine wpAnyH_take (i := 14) (oi := _) (v := ?v15) rfl (by kernel_rfl) (by kernel_rfl) (by kernel_rfl) (fun _ _ _ h => h) (Or.inl ⟨by rfl, ?hy15⟩) (by with_reducible assumption) ?rest15
    case hy15 => (intro w hSw; (try dsimp only at hSw); go_simp; try with_reducible rfl)
    try simp only [Act.put, List.setIfInBounds_toArray, List.set_cons_zero, List.set_cons_succ]
    refine wpAnyH_take (i := 15) (oi := _) (v := ?v16) rfl (by kernel_rfl) (by kernel_rfl) (by kernel_rfl) (fun _ _ _ h => h) (Or.inl ⟨by rfl, ?hy16⟩) (by with_reducible assumption) ?rest16
    case hy16 => (intro w hSw; (try dsimp only at hSw); go_simp; try with_reducible rfl)
    try simp only [Act.put, List.setIfInBounds_toArray, List.set_cons_zero, List.set_cons_succ]
    refine wpAnyH_take (i := 16) (oi := _) (v := ?v17) rfl (by kernel_rfl) (by kernel_rfl) (by kernel_rfl) (fun _ _ _ h => h) (Or.inl ⟨by rfl, ?hy17⟩) (by with_reducible assumption) ?rest17
    case hy17 => (intro w hSw; (try dsimp only at hSw); go_simp; try with_reducible rfl)
    try simp only [Act.put, List.setIfInBounds_toArray, List.set_cons_zero, List.set_cons_succ]
    refine wpAnyH_ready (rs := [17]) (by kernel_rfl) (by simp) ?_
    refine (AllReadyH.cons (o := _) rfl (fun K hK => ?_) AllReadyH.nil)
    go_simp
    refine hK.out _ _ ?_ (fun hHeld18 => ?_)
    · (try dsimp only)
      (first | (with_reducible assumption) | (go_keep; done) | (refine ⟨?_, ?_, ?_, ?_, ?_⟩ <;> (first | (with_reducible assumption) | (simp [go_sem, *]; done) | (simp (disch := (simp; try omega)) [*, World.cell?_alloc_past, World.cell?_setCell_other]; done) | (rw [World.cell?_setCell_other _ _ _ _ (by simp; try omega), World.cell?_setCell_other _ _ _ _ (by simp; try omega)]; assumption))))
    clear hK K hHeld13
    try simp only [Act.put, List.setIfInBounds_toArray, List.set_cons_zero, List.set_cons_succ]
    refine wpAnyH_ready (rs := [18]) (by kernel_rfl) (by simp) ?_
    refine (AllReadyH.cons (o := _) rfl (fun K hK => ?_) AllReadyH.nil)
    go_simp
    refine hK.out _ _ ?_ (fun hHeld19 => ?_)
    · (try dsimp only)
      (first | (with_reducible assumption) | (go_keep; done) | (refine ⟨?_, ?_, ?_, ?_, ?_⟩ <;> (first | (with_reducible assumption) | (simp [go_sem, *]; done) | (simp (disch := (simp; try omega)) [*, World.cell?_alloc_past, World.cell?_setCell_other]; done) | (rw [World.cell?_setCell_other _ _ _ _ (by simp; try omega), World.cell?_setCell_other _ _ _ _ (by simp; try omega)]; assumption))))
    clear hK K hHeld18
    try simp only [Act.put, List.setIfInBounds_toArray, List.set_cons_zero, List.set_cons_succ]
    refine wpAnyH_take (i := 19) (oi := _) (v := ?v20) rfl (by kernel_rfl) (by kernel_rfl) (by kernel_rfl) (fun _ _ _ h => h) (Or.inl ⟨by rfl, ?hy20⟩) (by with_reducible assumption) ?rest20
    case hy20 => (intro w hSw; (try dsimp only at hSw); go_simp; try with_reducible rfl)
    try simp only [Act.put, List.setIfInBounds_toArray, List.set_cons_zero, List.set_cons_succ]
    refine wpAnyH_take (i := 20) (oi := _) (v := ?v21) rfl (by kernel_rfl) (by kernel_rfl) (by kernel_rfl) (fun _ _ _ h => h) (Or.inl ⟨by rfl, ?hy21⟩) (by with_reducible assumption) ?rest21
    case hy21 => (intro w hSw; (try dsimp only at hSw); go_simp; try with_reducible rfl)
    try simp only [Act.put, List.setIfInBounds_toArray, List.set_cons_zero, List.set_cons_succ]
    refine wpAnyH_done (by kernel_rfl) ?_ _
    refine NoPanic.normal ?_
    clear hHeld19
    obtain ⟨hn1, hs1, ht, hst, hbb⟩ := H1.out
    first
      | exact HK.out _ _ _ _ _ _ _ _ _ _ _ _ _ _ _ _ _ w.heap.size A1 n1 c1 T t tc _ ((HGE.out.set 0 _).set 1 _) hn1 (hs1.keep (fun p hp => World.cell?_of_block ((Below.heap_setCell _ ⟨w.heap.size, 1, none⟩ _ _ (by have h9 := hp.1; simp at h9; show p.block ≠ w.heap.size; omega)).trans (Below.heap_setCell _ ⟨w.heap.size, 0, none⟩ _ _ (by have h9 := hp.1; simp at h9; show p.block ≠ w.heap.size; omega)))) (fun b hb => ⟨by have h9 := hb.1; simp at h9; omega, by have h9 := hb.2; simpa [World.setCell] using h9⟩)) ht (hst.keep (fun p hp => World.cell?_of_block ((Below.heap_setCell _ ⟨w.heap.size, 1, none⟩ _ _ (by have h9 := hp.1; simp at h9; show p.block ≠ w.heap.size; omega)).trans (Below.heap_setCell _ ⟨w.heap.size, 0, none⟩ _ _ (by have h9 := hp.1; simp at h9; show p.block ≠ w.heap.size; omega)))) (fun b hb => ⟨by have h9 := hb.1; simp at h9; omega, by have h9 := hb.2; simpa [World.setCell] using h9⟩)) ((hbb.setCell (p := ⟨w.heap.size, 0, none⟩) (Nat.le_refl _) _).setCell (p := ⟨w.heap.size, 1, none⟩) (Nat.le_refl _) _) (Nat.le_refl _)
      | exact HK.out _ _ _ _ _ _ _ _ _ _ _ _ _ _ _ _ _ w1.heap.size A1 n1 c1 T t tc _ (Blk.new _ _ _ rfl) hn1 (hs1.keep (fun p hp => World.cell?_alloc_lt _ _ _ hp.2) (fun b hb => ⟨by have h9 := hb.1; simpa using h9, by have h9 := hb.2; simp; omega⟩)) ht (hst.keep (fun p hp => World.cell?_alloc_lt _ _ _ hp.2) (fun b hb => ⟨by have h9 := hb.1; simpa using h9, by have h9 := hb.2; simp; omega⟩)) (hbb.alloc z1 _) z1
  · skip
    go_simp
    refine hK.out _ _ ?_ (fun hHeld22 => ?_)
    · (try dsimp only)
      (first | (with_reducible assumption) | (go_keep; done) | (refine ⟨?_, ?_, ?_, ?_, ?_⟩ <;> (first | (with_reducible assumption) | (simp [go_sem, *]; done) | (simp (disch := (simp; try omega)) [*, World.cell?_alloc_past, World.cell?_setCell_other]; done) | (rw [World.cell?_setCell_other _ _ _ _ (by simp; try omega), World.cell?_setCell_other _ _ _ _ (by simp; try omega)]; assumption))))
    clear hK K hHeld0
    try simp only [Act.put, List.setIfInBounds_toArray, List.set_cons_zero, List.set_cons_succ]
    refine wpAnyH_ready (rs := [12]) (by kernel_rfl) (by simp) ?_
    refine (AllReadyH.cons (o := _) rfl (fun K hK => ?_) AllReadyH.nil)
    go_simp
    refine (HC.out _ (by first | exact (Below.refl _ _).drew | exact ((Below.refl _ _).alloc (Nat.le_refl _) _).drew)).mono ?_
    rintro en w1 ⟨A1, n1, c1, T, t, tc, rfl, hn1, -, -, hs1, ht, -, -, hst, hb1⟩
    have z1 : w.heap.size ≤ w1.heap.size := by (have h9 := hb1.size; simp at h9; omega)
    have hbb : RowKit.Below w.heap.size w w1 := by
      first
        | exact ((Below.refl w.heap.size w).drew).trans hb1
        | exact (((Below.refl w.heap.size w).alloc (Nat.le_refl _) _).drew).trans (hb1.mono (by simp))
    have q0 : w1.cell? ⟨P, 3, none⟩ = some (.int .i64 e) := (hbb.cell (p := ⟨P, 3, none⟩) hP).trans p0
    have q1 : w1.cell? ⟨P, 4, none⟩ = some (.slice AH nH cH) := (hbb.cell (p := ⟨P, 4, none⟩) hP).trans p1
    have q2 : w1.cell? ⟨P, 9, none⟩ = some (.int .i64 win) := (hbb.cell (p := ⟨P, 9, none⟩) hP).trans p2
    have q3 : w1.cell? ⟨X, 0, none⟩ = some (.int .i64 sq) := (hbb.cell (p := ⟨X, 0, none⟩) hX).trans p3
    have q4 : w1.cell? ⟨X, 1, none⟩ = some (.slice TB nb cb) := (hbb.cell (p := ⟨X, 1, none⟩) hX).trans p4
    have H1 := Lib.hid (And.intro hn1 (And.intro hs1 (And.intro ht (And.intro hst hbb))))
    try (have gE := Blk.below (w := (w.alloc (.cells #[.int .i64 0, .slice none 0 0] 24)).drew) (g := w.heap.size) (Blk.new w _ _ rfl) hb1 (by simp)
         have i0 := gE.cell 0 (v := .int .i64 0) rfl; have i1 := gE.cell 1 (v := .slice none 0 0) rfl
         have fE := gE.frozen
         have zE : w.heap.size < w1.heap.size := gE.lt
         have HGE := Lib.hid gE
         clear gE)
    clear hn1 hs1 ht hst hbb hb1
    try dsimp only
    refine hK.out _ _ ?_ (fun hHeld23 => ?_)
    · (try dsimp only)
      (first | (with_reducible assumption) | (go_keep; done) | (refine ⟨?_, ?_, ?_, ?_, ?_⟩ <;> (first | (with_reducible assumption) | (simp [go_sem, *]; done) | (simp (disch := (simp; try omega)) [*, World.cell?_alloc_past, World.cell?_setCell_other]; done) | (rw [World.cell?_setCell_other _ _ _ _ (by simp; try omega), World.cell?_setCell_other _ _ _ _ (by simp; try omega)]; assumption))))
    clear hK K hHeld22
    try simp only [Act.put, List.setIfInBounds_toArray, List.set_cons_zero, List.set_cons_succ]
    refine wpAnyH_take (i := 13) (oi := _) (v := ?v24) rfl (by kernel_rfl) (by kernel_rfl) (by kernel_rfl) (fun _ _ _ h => h) (Or.inl ⟨by rfl, ?hy24⟩) (by with_reducible assumption) ?rest24
    case hy24 => (intro w hSw; (try dsimp only at hSw); go_simp; try with_reducible rfl)
    try simp only [Act.put, List.setIfInBounds_toArray, List.set_cons_zero, List.set_cons_succ]
    refine wpAnyH_take (i := 14) (oi := _) (v := ?v25) rfl (by kernel_rfl) (by kernel_rfl) (by kernel_rfl) (fun _ _ _ h => h) (Or.inl ⟨by rfl, ?hy25⟩) (by with_reducible assumption) ?rest25
    case hy25 => (intro w hSw; (try dsimp only at hSw); go_simp; try with_reducible rfl)
    try simp only [Act.put, List.setIfInBounds_toArray, List.set_cons_zero, List.set_cons_succ]
    refine wpAnyH_take (i := 15) (oi := _) (v := ?v26) rfl (by kernel_rfl) (by kernel_rfl) (by kernel_rfl) (fun _ _ _ h => h) (Or.inl ⟨by rfl, ?hy26⟩) (by with_reducible assumption) ?rest26
    case hy26 => (intro w hSw; (try dsimp only at hSw); go_simp; try with_reducible rfl)
    try simp only [Act.put, List.setIfInBounds_toArray, List.set_cons_zero, List.set_cons_succ]
    refine wpAnyH_take (i := 16) (oi := _) (v := ?v27) rfl (by kernel_rfl) (by kernel_rfl) (by kernel_rfl) (fun _ _ _ h => h) (Or.inl ⟨by rfl, ?hy27⟩) (by with_reducible assumption) ?rest27
    case hy27 => (intro w hSw; (try dsimp only at hSw); go_simp; try with_reducible rfl)
    try simp only [Act.put, List.setIfInBounds_toArray, List.set_cons_zero, List.set_cons_succ]
    refine wpAnyH_ready (rs := [18]) (by kernel_rfl) (by simp) ?_
    refine (AllReadyH.cons (o := _) rfl (fun K hK => ?_) AllReadyH.nil)
    go_simp
    refine hK.out _ _ ?_ (fun hHeld28 => ?_)
    · (try dsimp only)
      (first | (with_reducible assumption) | (go_keep; done) | (refine ⟨?_, ?_, ?_, ?_, ?_⟩ <;> (first | (with_reducible assumption) | (simp [go_sem, *]; done) | (simp (disch := (simp; try omega)) [*, World.cell?_alloc_past, World.cell?_setCell_other]; done) | (rw [World.cell?_setCell_other _ _ _ _ (by simp; try omega), World.cell?_setCell_other _ _ _ _ (by simp; try omega)]; assumption))))
    clear hK K hHeld23
    try simp only [Act.put, List.setIfInBounds_toArray, List.set_cons_zero, List.set_cons_succ]
    refine wpAnyH_take (i := 19) (oi := _) (v := ?v29) rfl (by kernel_rfl) (by kernel_rfl) (by kernel_rfl) (fun _ _ _ h => h) (Or.inl ⟨by rfl, ?hy29⟩) (by with_reducible assumption) ?rest29
    case hy29 => (intro w hSw; (try dsimp only at hSw); go_simp; try with_reducible rfl)
    try simp only [Act.put, List.setIfInBounds_toArray, List.set_cons_zero, List.set_cons_succ]
    refine wpAnyH_take (i := 20) (oi := _) (v := ?v30) rfl (by kernel_rfl) (by kernel_rfl) (by kernel_rfl) (fun _ _ _ h => h) (Or.inl ⟨by rfl, ?hy30⟩) (by with_reducible assumption) ?rest30
    case hy30 => (intro w hSw; (try dsimp only at hSw); go_simp; try with_reducible rfl)
    try simp only [Act.put, List.setIfInBounds_toArray, List.set_cons_zero, List.set_cons_succ]
    refine wpAnyH_done (by kernel_rfl) ?_ _
    refine NoPanic.normal ?_
    clear hHeld28
    obtain ⟨hn1, hs1, ht, hst, hbb⟩ := H1.out
    first
      | exact HK.out _ _ _ _ _ _ _ _ _ _ _ _ _ _ _ _ _ w.heap.size A1 n1 c1 T t tc _ ((HGE.out.set 0 _).set 1 _) hn1 (hs1.keep (fun p hp => World.cell?_of_block ((Below.heap_setCell _ ⟨w.heap.size, 1, none⟩ _ _ (by have h9 := hp.1; simp at h9; show p.block ≠ w.heap.size; omega)).trans (Below.heap_setCell _ ⟨w.heap.size, 0, none⟩ _ _ (by have h9 := hp.1; simp at h9; show p.block ≠ w.heap.size; omega)))) (fun b hb => ⟨by have h9 := hb.1; simp at h9; omega, by have h9 := hb.2; simpa [World.setCell] using h9⟩)) ht (hst.keep (fun p hp => World.cell?_of_block ((Below.heap_setCell _ ⟨w.heap.size, 1, none⟩ _ _ (by have h9 := hp.1; simp at h9; show p.block ≠ w.heap.size; omega)).trans (Below.heap_setCell _ ⟨w.heap.size, 0, none⟩ _ _ (by have h9 := hp.1; simp at h9; show p.block ≠ w.heap.size; omega)))) (fun b hb => ⟨by have h9 := hb.1; simp at h9; omega, by have h9 := hb.2; simpa [World.setCell] using h9⟩)) ((hbb.setCell (p := ⟨w.heap.size, 0, none⟩) (Nat.le_refl _) _).setCell (p := ⟨w.heap.size, 1, none⟩) (Nat.le_refl _) _) (Nat.le_refl _)
      | exact HK.out _ _ _ _ _ _ _ _ _ _ _ _ _ _ _ _ _ w1.heap.size A1 n1 c1 T t tc _ (Blk.new _ _ _ rfl) hn1 (hs1.keep (fun p hp => World.cell?_alloc_lt _ _ _ hp.2) (fun b hb => ⟨by have h9 := hb.1; simpa using h9, by have h9 := hb.2; simp; omega⟩)) ht (hst.keep (fun p hp => World.cell?_alloc_lt _ _ _ hp.2) (fun b hb => ⟨by have h9 := hb.1; simpa using h9, by have h9 := hb.2; simp; omega⟩)) (hbb.alloc z1 _) z1
end Go.Proofs.Ytalieakmjkmbbaa
