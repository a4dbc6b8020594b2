/-
  The reference's Due: the search of the first of the least; the regions that draw their order.
-/
import Derived.Test.YtponbodiibkopaaCpN
namespace Go.Proofs.Ytponbodiibkopaa
open Go.RowKit Go.Sort
set_option linter.unusedVariables false
set_option linter.unusedSimpArgs false
attribute [local go_sem ↓] Go.wp_at_zero Go.wp_at_succ

theorem lim48' {n : Nat} (h : n ≤ 2932031007402) : n * 48 ≤ 140737488355328 := Nat.le_trans (Nat.mul_le_mul_right 48 h) (by decide)
theorem Own.cells {α : Type} {R : Rdr α} {w : World} {B : Nat} {e : TypeId} {S : Nat → Prop} {A : Option Addr} {n c : Nat} {xs : List α} (h : Own R w B e S (.slice A n c) xs) : ∃ cells, Elems R w S xs cells ∧ CellsAt w A cells := by
  obtain ⟨cells, ⟨hl, h1⟩, he⟩ := h
  refine ⟨cells, he, ?_⟩
  rcases h1 with ⟨hv, hn⟩ | ⟨g, cap, cur, hv, hb, hh, hle, hm, hsz, htake⟩
  · have : cells = [] := List.eq_nil_of_length_eq_zero (by rw [hl, hn]; simp)
    rw [this]; exact CellsAt.nil _ _
  · injection hv with e1 e2 e3
    subst e1
    have hblk : Blk w g e cur := hh
    intro j u hj
    refine ⟨g, 0, rfl, ?_⟩
    rw [Nat.zero_add]
    rw [← htake, List.getElem?_take] at hj
    split at hj
    · exact hblk.cell _ (by simpa using hj)
    · cases hj
theorem Elems.drop {α : Type} {R : Rdr α} {w : World} {S : Nat → Prop} {xs : List α} {cells : List Value} (h : Elems R w S xs cells) (n : Nat) : Elems R w S (xs.drop n) (cells.drop (n * R.size)) := by
  refine ⟨by rw [List.length_drop, List.length_drop, h.1, Nat.sub_mul], fun i x hx => ?_⟩
  rw [List.getElem?_drop] at hx
  obtain ⟨cs, hr, hc⟩ := h.2 _ x hx
  refine ⟨cs, hr, fun j v hj => ?_⟩
  rw [List.getElem?_drop]
  have := hc j v hj
  rw [Nat.add_mul, Nat.add_assoc] at this
  exact this
theorem CellsAt.drop {w : World} {g : Nat} {cells : List Value} (h : CellsAt w (some ⟨g, 0, none⟩) cells) (k : Nat) : CellsAt w (some ⟨g, k, none⟩) (cells.drop k) := by
  intro j u hj
  rw [List.getElem?_drop] at hj
  obtain ⟨b, off, e, hc⟩ := h _ u hj
  injection e with e; injection e with e1 e2
  subst e1 e2
  exact ⟨_, k, rfl, by rw [Nat.zero_add] at hc; exact hc⟩
theorem CellsAt.take {w : World} {A : Option Addr} {cells : List Value} (h : CellsAt w A cells) (k : Nat) : CellsAt w A (cells.take k) := by
  intro j u hj
  rw [List.getElem?_take] at hj
  split at hj
  · exact h j u hj
  · cases hj
/-- What lies behind place p. -/
theorem cells_from4 {w : World} {g : Nat} {cells : List Value} (h : CellsAt w (some ⟨g, 0, none⟩) cells) (p N c : Nat) (A' : Option Addr) (hA : (if c = p + 1 then some ⟨g, 0, none⟩ else some ⟨g, (p + 1) * 4, none⟩) = A') (hl : cells.length = N * 4) (hN : N ≤ c) : CellsAt w A' (cells.drop ((p + 1) * 4)) := by
  rw [← hA]
  split
  · rw [List.drop_of_length_le (by rw [hl]; omega)]; exact CellsAt.nil _ _
  · exact h.drop _
/-- The place that the search tells. -/
def atI : Option Nat → Int
  | none => -1
  | some p => p
noncomputable def rd_r7a_code : Code := regionOf Try.f14 7
set_option maxRecDepth 100000 in
set_option maxHeartbeats 2000000 in
theorem rd_r7a {Q : Exit → Act → World → Prop} {s0 s2 s3 s4 s5 s6 s9 s11 s12 s13 s14 s15 s16 s17 s18 s19 s20 s21 s22 s23 s24 s25 s26 s27 s28 s29 s30 s31 s32 s33 s34 s35 s36 s37 s38 s39 s40 s41 s42 s43 s44 s45 s46 s47 s48 s49 s50 s51 s52 s53 s54 s55 s56 s57 s58 s59 s60 s61 s62 s63 s64 : Value} (w : World) (now : Int) (D : Nat) (A : Option Addr) (n c : Nat) (y : Fl) (hD : w.cell? ⟨D, 0, none⟩ = some (.int .i64 y.tm)) (v8 : Int) (hle : ¬ y.tm ≤ now)
    (hK : ∀ (d21 d22 d23 d24 d25 d26 d27 d28 d29 d30 d31 d32 d33 d34 d35 d36 d37 : Value) (w' : World), Below w.heap.size w w' → Q .normal ⟨#[s0, .int .i64 now, s2, s3, s4, s5, s6, .slice A n c, .int .i64 v8, s9, .pointer (some ⟨D, 0, none⟩), s11, s12, s13, s14, s15, s16, s17, s18, s19, s20, d21, d22, d23, d24, d25, d26, d27, d28, d29, d30, d31, d32, d33, d34, d35, d36, d37, .bool false, s39, s40, s41, s42, s43, s44, s45, s46, s47, s48, s49, s50, s51, s52, s53, s54, s55, s56, s57, s58, s59, s60, s61, s62, s63, s64], []⟩ w') :
    Code.wp Try.prog rd_r7a_code Q ⟨#[s0, .int .i64 now, s2, s3, s4, s5, s6, .slice A n c, .int .i64 v8, s9, .pointer (some ⟨D, 0, none⟩), s11, s12, s13, s14, s15, s16, s17, s18, s19, s20, s21, s22, s23, s24, s25, s26, s27, s28, s29, s30, s31, s32, s33, s34, s35, s36, s37, s38, s39, s40, s41, s42, s43, s44, s45, s46, s47, s48, s49, s50, s51, s52, s53, s54, s55, s56, s57, s58, s59, s60, s61, s62, s63, s64], []⟩ w := by
  have HK := Lib.hid hK; clear hK
  have k0 := cell_regrown hD
  have d1 : decide (y.tm ≤ now) = false := decide_eq_false hle
  clear hD hle
  conv => arg 2; whnf
  refine wp_region_quiet_below (by kernel_rfl) (by kernel_rfl) ?_
  repeat (any_goals (first | go_big_quiet_step (fail) | quiet_step (fail)))
  refine wpQuiet_nil ?_
  rintro _ ⟨⟨dq, osq⟩, rfl⟩
  exact HK.out _ _ _ _ _ _ _ _ _ _ _ _ _ _ _ _ _ _ (below_regrown w dq osq)
noncomputable def rd_r7b_code : Code := regionOf Try.f14 7
set_option maxRecDepth 100000 in
set_option maxHeartbeats 2000000 in
theorem rd_r7b {Q : Exit → Act → World → Prop} {s0 s2 s3 s4 s5 s6 s9 s11 s12 s13 s14 s15 s16 s17 s18 s19 s20 s21 s22 s23 s24 s25 s26 s27 s28 s29 s30 s31 s32 s33 s34 s35 s36 s37 s38 s39 s40 s41 s42 s43 s44 s45 s46 s47 s48 s49 s50 s51 s52 s53 s54 s55 s56 s57 s58 s59 s60 s61 s62 s63 s64 : Value} (w : World) (now : Int) (D : Nat) (A : Option Addr) (n c : Nat) (y : Fl) (hD : w.cell? ⟨D, 0, none⟩ = some (.int .i64 y.tm)) (hle : y.tm ≤ now)
    (hK : ∀ (d21 d22 d23 d24 d25 d26 d27 d28 d29 d30 d31 d32 d33 d34 d35 d36 d37 : Value) (w' : World), Below w.heap.size w w' → Q .normal ⟨#[s0, .int .i64 now, s2, s3, s4, s5, s6, .slice A n c, .int .i64 (-1), s9, .pointer (some ⟨D, 0, none⟩), s11, s12, s13, s14, s15, s16, s17, s18, s19, s20, d21, d22, d23, d24, d25, d26, d27, d28, d29, d30, d31, d32, d33, d34, d35, d36, d37, .bool true, s39, s40, s41, s42, s43, s44, s45, s46, s47, s48, s49, s50, s51, s52, s53, s54, s55, s56, s57, s58, s59, s60, s61, s62, s63, s64], []⟩ w') :
    Code.wp Try.prog rd_r7b_code Q ⟨#[s0, .int .i64 now, s2, s3, s4, s5, s6, .slice A n c, .int .i64 (-1), s9, .pointer (some ⟨D, 0, none⟩), s11, s12, s13, s14, s15, s16, s17, s18, s19, s20, s21, s22, s23, s24, s25, s26, s27, s28, s29, s30, s31, s32, s33, s34, s35, s36, s37, s38, s39, s40, s41, s42, s43, s44, s45, s46, s47, s48, s49, s50, s51, s52, s53, s54, s55, s56, s57, s58, s59, s60, s61, s62, s63, s64], []⟩ w := by
  have HK := Lib.hid hK; clear hK
  have k0 := cell_regrown hD
  have d1 : decide (y.tm ≤ now) = true := decide_eq_true hle
  clear hD hle
  conv => arg 2; whnf
  refine wp_region_quiet_below (by kernel_rfl) (by kernel_rfl) ?_
  repeat (any_goals (first | go_big_quiet_step (fail) | quiet_step (fail)))
  refine wpQuiet_nil ?_
  rintro _ ⟨⟨dq, osq⟩, rfl⟩
  exact HK.out _ _ _ _ _ _ _ _ _ _ _ _ _ _ _ _ _ _ (below_regrown w dq osq)
noncomputable def rd_r7c_code : Code := regionOf Try.f14 7
set_option maxRecDepth 100000 in
set_option maxHeartbeats 2000000 in
theorem rd_r7c {Q : Exit → Act → World → Prop} {s0 s2 s3 s4 s5 s6 s9 s11 s12 s13 s14 s15 s16 s17 s18 s19 s20 s21 s22 s23 s24 s25 s26 s27 s28 s29 s30 s31 s32 s33 s34 s35 s36 s37 s38 s39 s40 s41 s42 s43 s44 s45 s46 s47 s48 s49 s50 s51 s52 s53 s54 s55 s56 s57 s58 s59 s60 s61 s62 s63 s64 : Value} (w : World) (now : Int) (D : Nat) (A : Option Addr) (n c : Nat) (y : Fl) (hD : w.cell? ⟨D, 0, none⟩ = some (.int .i64 y.tm)) (hle : y.tm ≤ now) (p : Nat) (z : Fl) (xs : List Fl) (q : Bool) (hn : xs.length = n) (hx : Sl Rfl w (lo w.heap.size) A xs) (hz : xs[p]? = some z) (hz9 : n ≤ 9223372036854775807) (hq : decide (y.tm < z.tm) = q)
    (hK : ∀ (d21 d22 d23 d24 d25 d26 d27 d28 d29 d30 d31 d32 d33 d34 d35 d36 d37 : Value) (w' : World), Below w.heap.size w w' → Q .normal ⟨#[s0, .int .i64 now, s2, s3, s4, s5, s6, .slice A n c, .int .i64 (p : Nat), s9, .pointer (some ⟨D, 0, none⟩), s11, s12, s13, s14, s15, s16, s17, s18, s19, s20, d21, d22, d23, d24, d25, d26, d27, d28, d29, d30, d31, d32, d33, d34, d35, d36, d37, .bool q, s39, s40, s41, s42, s43, s44, s45, s46, s47, s48, s49, s50, s51, s52, s53, s54, s55, s56, s57, s58, s59, s60, s61, s62, s63, s64], []⟩ w') :
    Code.wp Try.prog rd_r7c_code Q ⟨#[s0, .int .i64 now, s2, s3, s4, s5, s6, .slice A n c, .int .i64 (p : Nat), s9, .pointer (some ⟨D, 0, none⟩), s11, s12, s13, s14, s15, s16, s17, s18, s19, s20, s21, s22, s23, s24, s25, s26, s27, s28, s29, s30, s31, s32, s33, s34, s35, s36, s37, s38, s39, s40, s41, s42, s43, s44, s45, s46, s47, s48, s49, s50, s51, s52, s53, s54, s55, s56, s57, s58, s59, s60, s61, s62, s63, s64], []⟩ w := by
  have HK := Lib.hid hK; clear hK
  have k0 := cell_regrown hD
  have d1 : decide (y.tm ≤ now) = true := decide_eq_true hle
  have hpn : p < n := by rw [← hn]; exact (List.getElem?_eq_some_iff.1 hz).1
  obtain ⟨b', off', T', tn', tc', rfl, _, _, _, _, _, _, _, _, y0, _, _, _⟩ := hx.flight hz
  have k1 := cell_regrown y0
  have d2 : decide ((p : Int) < 0) = false := decide_eq_false (by omega)
  clear hD hle hn hx hz y0
  conv => arg 2; whnf
  refine wp_region_quiet_below (by kernel_rfl) (by kernel_rfl) ?_
  repeat (any_goals (first | go_big_quiet_step (fail) | quiet_step (fail)))
  refine wpQuiet_nil ?_
  rintro _ ⟨⟨dq, osq⟩, rfl⟩
  exact HK.out _ _ _ _ _ _ _ _ _ _ _ _ _ _ _ _ _ _ (below_regrown w dq osq)
noncomputable def rd_find_code : Code := blockOf Try.f14 2
set_option maxRecDepth 100000 in
set_option maxHeartbeats 4000000 in
theorem rd_find {Q : Exit → Act → World → Prop} {s0 s2 s3 s4 s5 s6 s9 s10 s11 s12 s13 s17 s18 s19 s20 s21 s22 s23 s24 s25 s26 s27 s28 s29 s30 s31 s32 s33 s34 s35 s36 s37 s38 s39 s40 s41 s42 s43 s44 s45 s46 s47 s48 s49 s50 s51 s52 s53 s54 s55 s56 s57 s58 s59 s60 s61 s62 s63 s64 : Value} (w : World) (now : Int) (A : Option Addr) (n c : Nat) (xs : List Fl) (hn : xs.length = n) (hx : Sl Rfl w (lo w.heap.size) A xs) (hz : n ≤ 9223372036854775807)
    (hK : ∀ (d9 d10 d17 d18 d19 d20 d21 d22 d23 d24 d25 d26 d27 d28 d29 d30 d31 d32 d33 d34 d35 d36 d37 d38 d39 d40 : Value) (o : Option Nat) (w' : World), IsBest Fl.tm now xs o → Below w.heap.size w w' → Q .normal ⟨#[s0, .int .i64 now, s2, s3, s4, s5, s6, .slice A n c, .int .i64 (atI o), d9, d10, s11, s12, s13, .slice A n c, .int .i64 (n : Nat), .int .i64 (n : Nat), d17, d18, d19, d20, d21, d22, d23, d24, d25, d26, d27, d28, d29, d30, d31, d32, d33, d34, d35, d36, d37, d38, d39, d40, s41, s42, s43, s44, s45, s46, s47, s48, s49, s50, s51, s52, s53, s54, s55, s56, s57, s58, s59, s60, s61, s62, s63, s64], []⟩ w') :
    Code.wp Try.prog rd_find_code Q ⟨#[s0, .int .i64 now, s2, s3, s4, s5, s6, .slice A n c, .int .i64 (-1), s9, s10, s11, s12, s13, .slice A n c, .int .i64 (n : Nat), .int .i64 0, s17, s18, s19, s20, s21, s22, s23, s24, s25, s26, s27, s28, s29, s30, s31, s32, s33, s34, s35, s36, s37, s38, s39, s40, s41, s42, s43, s44, s45, s46, s47, s48, s49, s50, s51, s52, s53, s54, s55, s56, s57, s58, s59, s60, s61, s62, s63, s64], []⟩ w := by
  have HK := Lib.hid hK; clear hK
  have HX := Lib.hid (And.intro hn hx); clear hn hx
  conv => arg 2; whnf
  go_wp2
  go_loopw [8, 16] (fun q i wr => ∃ (k : Nat) (o : Option Nat), k ≤ n ∧ i = .int .i64 (k : Nat) ∧ q = .int .i64 (atI o) ∧ Hid (IsBest Fl.tm now (xs.take k) o ∧ Below w.heap.size w wr)) (fun _ i _ => n - (intOf i).toNat)
  case atStart => exact ⟨0, none, Nat.zero_le _, rfl, rfl, Lib.hid ⟨IsBest.nil, Below.refl _ _⟩⟩
  case round =>
    obtain ⟨wi, rfl⟩ : ∃ wx : World, wx = wr := ⟨_, rfl⟩
    obtain ⟨k, o, hk, rfl, rfl, HR⟩ := hrel
    by_cases hlt : k < n
    · have hy := List.getElem?_eq_getElem (l := xs) (i := k) (by rw [HX.out.1]; exact hlt)
      generalize xs[k]'(by rw [HX.out.1]; exact hlt) = y at hy
      have hsn := take_snoc' hy
      have hkl : (xs.take k).length = k := by rw [List.length_take, HX.out.1]; omega
      obtain ⟨b', off', T', tn', tc', hA, hlb, _, _, _, _, _, _, _, y0, y1, y2, y3⟩ := (HX.out.2.below HR.out.2 HR.out.2.size).flight hy
      subst hA
      have HB := Lib.hid (And.intro hsn (And.intro hkl (And.intro ((HX.out.2.below HR.out.2 HR.out.2.size).up1 (.cells #[.int .i64 y.tm, .int .i64 y.fr, .int .i64 y.tgt, .slice T' tn' tc'] 37)) (HR.out.2.alloc HR.out.2.size (.cells #[.int .i64 y.tm, .int .i64 y.fr, .int .i64 y.tgt, .slice T' tn' tc'] 37)))))
      clear hsn hkl hlb
      go_upto_region 7 with fail
      have hbx : (wi.alloc (.cells #[.int .i64 y.tm, .int .i64 y.fr, .int .i64 y.tgt, .slice T' tn' tc'] 37)).cell? ⟨wi.heap.size, 0, none⟩ = some (.int .i64 y.tm) := (Blk.new wi 37 #[.int .i64 y.tm, .int .i64 y.fr, .int .i64 y.tgt, .slice T' tn' tc'] rfl).cell 0 rfl
      generalize (wi.alloc (.cells #[.int .i64 y.tm, .int .i64 y.fr, .int .i64 y.tgt, .slice T' tn' tc'] 37)) = wb at *
      by_cases hle : y.tm ≤ now
      · cases o with
        | none =>
          refine rd_r7b wb now wi.heap.size (some ⟨b', off', none⟩) n c y hbx hle ?_
          intro d21 d22 d23 d24 d25 d26 d27 d28 d29 d30 d31 d32 d33 d34 d35 d36 d37 w1 hb1
          have H1 := Lib.hid (show IsBest Fl.tm now (xs.take (k + 1)) (some k) ∧ Below w.heap.size w w1 from ⟨by have h9 := HR.out.1.first hle; rw [HB.out.2.1] at h9; rw [HB.out.1]; exact h9, HB.out.2.2.2.trans (hb1.mono HB.out.2.2.2.size)⟩)
          clear hb1
          go_wp2
          go_roundw
          case measure => simp [intOf]; omega
          case rel => exact ⟨k + 1, some k, by omega, by go_num, rfl, H1⟩
        | some p =>
          obtain ⟨z, hz1, hz2, hz3⟩ := id HR.out.1
          have hzx : xs[p]? = some z := by rw [List.getElem?_take] at hz1; split at hz1 <;> first | exact hz1 | cases hz1
          have HZ := Lib.hid (And.intro hz1 hzx)
          clear hz1 hz2 hz3 hzx
          by_cases hq : y.tm < z.tm
          · refine rd_r7c wb now wi.heap.size (some ⟨b', off', none⟩) n c y hbx hle p z xs true HX.out.1 HB.out.2.2.1 HZ.out.2 hz (decide_eq_true hq) ?_
            intro d21 d22 d23 d24 d25 d26 d27 d28 d29 d30 d31 d32 d33 d34 d35 d36 d37 w1 hb1
            have H1 := Lib.hid (show IsBest Fl.tm now (xs.take (k + 1)) (some k) ∧ Below w.heap.size w w1 from ⟨by have h9 := HR.out.1.less HZ.out.1 hle hq; rw [HB.out.2.1] at h9; rw [HB.out.1]; exact h9, HB.out.2.2.2.trans (hb1.mono HB.out.2.2.2.size)⟩)
            clear hb1
            go_wp2
            go_roundw
            case measure => simp [intOf]; omega
            case rel => exact ⟨k + 1, some k, by omega, by go_num, rfl, H1⟩
          · refine rd_r7c wb now wi.heap.size (some ⟨b', off', none⟩) n c y hbx hle p z xs false HX.out.1 HB.out.2.2.1 HZ.out.2 hz (decide_eq_false hq) ?_
            intro d21 d22 d23 d24 d25 d26 d27 d28 d29 d30 d31 d32 d33 d34 d35 d36 d37 w1 hb1
            have H1 := Lib.hid (show IsBest Fl.tm now (xs.take (k + 1)) (some p) ∧ Below w.heap.size w w1 from ⟨by have h9 := HR.out.1.keep HZ.out.1 hq; rw [HB.out.1]; exact h9, HB.out.2.2.2.trans (hb1.mono HB.out.2.2.2.size)⟩)
            clear hb1
            go_wp2
            go_roundw
            case measure => simp [intOf]; omega
            case rel => exact ⟨k + 1, some p, by omega, by go_num, rfl, H1⟩
      · refine rd_r7a wb now wi.heap.size (some ⟨b', off', none⟩) n c y hbx (atI o) hle ?_
        intro d21 d22 d23 d24 d25 d26 d27 d28 d29 d30 d31 d32 d33 d34 d35 d36 d37 w1 hb1
        have H1 := Lib.hid (show IsBest Fl.tm now (xs.take (k + 1)) o ∧ Below w.heap.size w w1 from ⟨by rw [HB.out.1]; exact HR.out.1.late (by omega), HB.out.2.2.2.trans (hb1.mono HB.out.2.2.2.size)⟩)
        clear hb1
        go_wp2
        go_roundw
        case measure => simp [intOf]; omega
        case rel => exact ⟨k + 1, o, by omega, by go_num, rfl, H1⟩
    · obtain rfl : k = n := by omega
      have HA := Lib.hid (show IsBest Fl.tm now xs o ∧ Below w.heap.size w wi from ⟨by have h9 := HR.out.1; rw [List.take_of_length_le (by rw [HX.out.1]; exact Nat.le_refl _)] at h9; exact h9, HR.out.2⟩)
      go_wp2
      exact HK.out _ _ _ _ _ _ _ _ _ _ _ _ _ _ _ _ _ _ _ _ _ _ _ _ _ _ o _ HA.out.1 HA.out.2
noncomputable def rd_r13_code : Code := regionOf Try.f14 13
set_option maxRecDepth 100000 in
set_option maxHeartbeats 2000000 in
theorem rd_r13 {Q : Exit → Act → World → Prop} {s0 s1 s2 s3 s4 s5 s6 s9 s10 s11 s12 s13 s14 s15 s16 s17 s18 s19 s20 s21 s22 s23 s24 s25 s26 s27 s28 s29 s30 s31 s32 s33 s34 s35 s36 s37 s38 s39 s40 s41 s42 s43 s44 s45 s46 s47 s48 s49 s50 s51 s52 s53 s54 s55 s56 s57 s58 s59 s60 s61 s62 s63 s64 : Value} (w : World) (V W g p N c : Nat) (cur : List Fl) (ho : Own Rfl w W 37 (lo V) (.slice (some ⟨g, 0, none⟩) N c) cur) (hN : cur.length = N) (hp : p < N) (hc : N ≤ c) (hW : W ≤ w.heap.size) (hVW : V ≤ W) (hz : N ≤ 2932031007402)
    (hK : ∀ (d56 d57 d58 d59 d60 d61 d62 d63 d64 : Value) (A2 : Option Addr) (c2 : Nat) (w' : World), Own Rfl w' W 37 (lo V) (.slice A2 (N - 1) c2) (cur.take p ++ cur.drop (p + 1)) → (∀ k, (Value.slice A2 (N - 1) c2).ownBlock = some k → w.heap.size ≤ k) → Below w.heap.size w w' →
      Q .normal ⟨#[s0, s1, s2, s3, s4, s5, s6, .slice A2 (N - 1) c2, .int .i64 p, s9, s10, s11, s12, s13, s14, s15, s16, s17, s18, s19, s20, s21, s22, s23, s24, s25, s26, s27, s28, s29, s30, s31, s32, s33, s34, s35, s36, s37, s38, s39, s40, s41, s42, s43, s44, s45, s46, s47, s48, s49, s50, s51, s52, s53, s54, s55, d56, d57, d58, d59, d60, d61, d62, d63, d64], []⟩ w') :
    Code.wp Try.prog rd_r13_code Q ⟨#[s0, s1, s2, s3, s4, s5, s6, .slice (some ⟨g, 0, none⟩) N c, .int .i64 p, s9, s10, s11, s12, s13, s14, s15, s16, s17, s18, s19, s20, s21, s22, s23, s24, s25, s26, s27, s28, s29, s30, s31, s32, s33, s34, s35, s36, s37, s38, s39, s40, s41, s42, s43, s44, s45, s46, s47, s48, s49, s50, s51, s52, s53, s54, s55, s56, s57, s58, s59, s60, s61, s62, s63, s64], []⟩ w := by
  have HK := Lib.hid hK; clear hK
  obtain ⟨cells, hel, hce⟩ := ho.cells
  obtain ⟨A', hA'⟩ : ∃ A' : Option Addr, (if c = p + 1 then some (⟨g, 0, none⟩ : Addr) else some ⟨g, (p + 1) * 4, none⟩) = A' := ⟨_, rfl⟩
  obtain ⟨m2, hm2⟩ : ∃ m2, N - (p + 1) = m2 := ⟨_, rfl⟩
  have hcl : cells.length = N * 4 := by rw [← hN]; exact hel.1
  have hVl : V ≤ w.heap.size := by omega
  have t1 : (cur.take p).length = p := by rw [List.length_take]; omega
  have t2 : (cur.drop (p + 1)).length = m2 := by rw [List.length_drop]; omega
  have HB := Lib.hid (And.intro (hel.take p) (And.intro (hce.take (p * 4)) (And.intro (hel.drop (p + 1)) (And.intro (cells_from4 hce p N c A' hA' hcl hc) (And.intro t1 t2)))))
  have hp1 : IntKind.i64.wrap ((p : Int) + 1) = ((p + 1 : Nat) : Int) := by
    rw [IntKind.wrap_i64]; push_cast; omega
  have hq0 : (0 : Int) ≤ (p : Int) + 1 := by omega
  have hq1 : (p : Int) + 1 ≤ (N : Int) := by omega
  have hpc : p ≤ c := by omega
  conv => arg 2; whnf
  refine wp_region_noPanic ?_
  refine wp_region_held_drew (S := (fun w' => True)) (by kernel_rfl) ?_ (fun hHeld0 => ?_)
  · (try dsimp only)
    all_goals trivial
  refine wpAnyH_take (i := 0) (oi := (Oper.mk (some 56) _ _ _ _ _)) (v := ?v1) rfl (by kernel_rfl) (by kernel_rfl) (by kernel_rfl) (fun _ _ _ h => h) (Or.inl ⟨by rfl, ?hy1⟩) (by with_reducible assumption) ?rest1
  case hy1 => (intro w hSw; (try dsimp only at hSw); go_simp; try with_reducible rfl)
  try simp only [Act.put, List.setIfInBounds_toArray, List.set_cons_zero, List.set_cons_succ]
  refine wpAnyH_take (i := 1) (oi := (Oper.mk (some 57) _ _ _ _ _)) (v := ?v2) rfl (by kernel_rfl) (by kernel_rfl) (by kernel_rfl) (fun _ _ _ h => h) (Or.inl ⟨by rfl, ?hy2⟩) (by with_reducible assumption) ?rest2
  case hy2 => (intro w hSw; (try dsimp only at hSw); go_simp; try with_reducible rfl)
  try simp only [Act.put, List.setIfInBounds_toArray, List.set_cons_zero, List.set_cons_succ]
  refine wpAnyH_take (i := 2) (oi := (Oper.mk (some 58) _ _ _ _ _)) (v := ?v3) rfl (by kernel_rfl) (by kernel_rfl) (by kernel_rfl) (fun _ _ _ h => h) (Or.inl ⟨by rfl, ?hy3⟩) (by with_reducible assumption) ?rest3
  case hy3 => (intro w hSw; (try dsimp only at hSw); go_simp; try with_reducible rfl)
  try simp only [Act.put, List.setIfInBounds_toArray, List.set_cons_zero, List.set_cons_succ]
  refine wpAnyH_take (i := 4) (oi := (Oper.mk (some 60) _ _ _ _ _)) (v := ?v4) rfl (by kernel_rfl) (by kernel_rfl) (by kernel_rfl) (fun _ _ _ h => h) (Or.inl ⟨by rfl, ?hy4⟩) (by with_reducible assumption) ?rest4
  case hy4 => (intro w hSw; (try dsimp only at hSw); go_simp; try with_reducible rfl)
  try simp only [Act.put, List.setIfInBounds_toArray, List.set_cons_zero, List.set_cons_succ]
  refine wpAnyH_take (i := 5) (oi := (Oper.mk (some 61) _ _ _ _ _)) (v := ?v5) rfl (by kernel_rfl) (by kernel_rfl) (by kernel_rfl) (fun _ _ _ h => h) (Or.inl ⟨by rfl, ?hy5⟩) (by with_reducible assumption) ?rest5
  case hy5 => (intro w hSw; (try dsimp only at hSw); go_simp; try with_reducible rfl)
  try simp only [Act.put, List.setIfInBounds_toArray, List.set_cons_zero, List.set_cons_succ]
  refine wpAnyH_take (i := 6) (oi := (Oper.mk (some 62) _ _ _ _ _)) (v := ?v6) rfl (by kernel_rfl) (by kernel_rfl) (by kernel_rfl) (fun _ _ _ h => h) (Or.inl ⟨by rfl, ?hy6⟩) (by with_reducible assumption) ?rest6
  case hy6 => (intro w hSw; (try dsimp only at hSw); go_simp; try with_reducible rfl)
  try simp only [Act.put, List.setIfInBounds_toArray, List.set_cons_zero, List.set_cons_succ]
  refine wpAnyH_take (i := 7) (oi := (Oper.mk (some 63) _ _ _ _ _)) (v := ?v7) rfl (by kernel_rfl) (by kernel_rfl) (by kernel_rfl) (fun _ _ _ h => h) (Or.inl ⟨by rfl, ?hy7⟩) (by with_reducible assumption) ?rest7
  case hy7 => (intro w hSw; (try dsimp only at hSw); go_simp; try with_reducible rfl)
  try simp only [Act.put, List.setIfInBounds_toArray, List.set_cons_zero, List.set_cons_succ]
  refine wpAnyH_ready (rs := [3]) (by kernel_rfl) (by simp) ?_
  refine (AllReadyH.cons (o := (Oper.mk (some 59) _ _ _ _ _)) rfl (fun K hK => ?_) AllReadyH.nil)
  refine step_append_own' rfl (.const (.slice none 0 0)) (.tmp 58) 22 rfl ei_flights (R := Rfl) (S := lo V) (base := W) (.slice none 0 0) (by rfl) (Own.nil _ _ _ _ _) (fun b hb => ⟨by have h8 : b < V := hb; (try simp); omega, by simp [Value.ownBlock]⟩) (some ⟨g, 0, none⟩) p c (ys := cur.take p) (by rfl) HB.out.2.2.2.2.1 (HB.out.2.1.up ((Below.refl _ _).drew)) (HB.out.1.keep (fun q hq => Below.cell (B := w.heap.size) ((Below.refl _ _).drew) (by have h8 : q.block < V := hq; omega)) (fun _ h => h)) (by rw [List.length_nil, Nat.zero_add]; exact lim48' (by omega)) (by simp [maxLen]; omega) (by simp; omega) ?_
  intro v1 w1 hox hg1 hat1
  rw [List.nil_append] at hox
  obtain ⟨A1, k1, rfl⟩ := hox.form
  rw [HB.out.2.2.2.2.1] at hox hat1 ⊢
  have hbb : RowKit.Below w.heap.size w w1 := ((Below.refl w.heap.size w).drew).grown hg1 (by simp) (fun g hg => by cases hg)
  have zz := hbb.size
  have hat' : (Value.slice A1 p k1).ownBlock = none ∨ (Value.slice A1 p k1).ownBlock = some w.heap.size := hat1
  have H1 := Lib.hid (And.intro hox (And.intro hbb hat'))
  clear hox hg1 hat1 hbb hat'
  refine hK.out _ _ ?_ (fun hHeld8 => ?_)
  · (try dsimp only)
    all_goals trivial
  clear hK K hHeld0
  try simp only [Act.put, List.setIfInBounds_toArray, List.set_cons_zero, List.set_cons_succ]
  refine wpAnyH_ready (rs := [8]) (by kernel_rfl) (by simp) ?_
  refine (AllReadyH.cons (o := (Oper.mk (some 64) _ _ _ _ _)) rfl (fun K hK => ?_) AllReadyH.nil)
  refine step_append_own' rfl (.tmp 59) (.tmp 63) 22 rfl ei_flights (R := Rfl) (S := lo V) (base := W) (.slice A1 p k1) (by rfl) H1.out.1 (fun b hb => ⟨by have h8 : b < V := hb; omega, fun e9 => by have h8 : b < V := hb; rcases H1.out.2.2 with h9 | h9 <;> rw [h9] at e9 <;> simp at e9; omega⟩) A' m2 (c - (p + 1)) (ys := cur.drop (p + 1)) (by rfl) HB.out.2.2.2.2.2 (HB.out.2.2.2.1.up H1.out.2.1) (HB.out.2.2.1.keep (fun q hq => H1.out.2.1.cell (by have h8 : q.block < V := hq; omega)) (fun _ h => h)) (by rw [HB.out.2.2.2.2.1]; exact lim48' (by omega)) (by rw [HB.out.2.2.2.2.1]; simp [maxLen]; omega) (by omega) ?_
  intro v2 w2 hox hg1 hat1
  obtain ⟨A2, k2, rfl⟩ := hox.form
  rw [show (cur.take p ++ cur.drop (p + 1)).length = N - 1 by rw [List.length_append, HB.out.2.2.2.2.1, HB.out.2.2.2.2.2]; omega] at hox hat1 ⊢
  have hbb : RowKit.Below w.heap.size w w2 := H1.out.2.1.grown hg1 (by omega) (fun g9 hg9 => by rcases H1.out.2.2 with h9 | h9 <;> rw [h9] at hg9 <;> simp at hg9; omega)
  have hown : ∀ k, (Value.slice A2 (N - 1) k2).ownBlock = some k → w.heap.size ≤ k := fun k hk => by
    rcases hat1 with h9 | h9
    · rw [h9] at hk
      rcases H1.out.2.2 with h8 | h8 <;> rw [h8] at hk <;> simp at hk; omega
    · rw [h9] at hk; simp at hk; omega
  have H2 := Lib.hid (And.intro hox (And.intro hbb hown))
  clear hox hg1 hat1 hbb hown
  refine hK.out _ _ ?_ (fun hHeld9 => ?_)
  · (try dsimp only)
    all_goals trivial
  clear hK K hHeld8
  try simp only [Act.put, List.setIfInBounds_toArray, List.set_cons_zero, List.set_cons_succ]
  refine wpAnyH_take (i := 9) (oi := (Oper.mk (some 7) _ _ _ _ _)) (v := ?v10) rfl (by kernel_rfl) (by kernel_rfl) (by kernel_rfl) (fun _ _ _ h => h) (Or.inl ⟨by rfl, ?hy10⟩) (by with_reducible assumption) ?rest10
  case hy10 => (intro w hSw; (try dsimp only at hSw); go_simp; try with_reducible rfl)
  try simp only [Act.put, List.setIfInBounds_toArray, List.set_cons_zero, List.set_cons_succ]
  refine wpAnyH_done (by kernel_rfl) ?_ _
  refine NoPanic.normal ?_
  clear hHeld9
  exact HK.out _ _ _ _ _ _ _ _ _ A2 k2 _ H2.out.1 H2.out.2.2 H2.out.2.1
end Go.Proofs.Ytponbodiibkopaa
