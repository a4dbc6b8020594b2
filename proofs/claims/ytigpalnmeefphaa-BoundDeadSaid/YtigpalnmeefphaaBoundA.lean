/-
  Contracts of package bound's functions that take numbers and lists: Rounds, Ticks, Fine, and of the statements' own 'live'.
-/
import Derived.Test.YtigpalnmeefphaaCfg
import Derived.Lib.Hide
import Derived.Deep.Quiet
import Derived.Lib.QuietBelow
namespace Go.Proofs.Ytigpalnmeefphaa
open Go.RowKit Go.Sort

theorem quiet_left {P : Program} {f : FuncId} {args : Array Value} {w : World} {n : Nat} {v : Value}
    (h : Calls P f args (w.drewN n) fun e w' => e = .returned v ∧ w.drewN n = w') : Calls P f args (w.drewN n) fun e w'' => e = .returned v ∧ ∃ m, w'' = w.drewN m :=
  h.mono fun _ _ ⟨he, hm⟩ => ⟨he, n, hm.symm⟩
theorem below_drewN {B : Nat} {a w : World} (h : Below B a w) (n : Nat) : Below B a (w.drewN n) := ⟨h.os, h.tape, h.output, h.size, h.block⟩

theorem quiet_same {P : Program} {f : FuncId} {args : Array Value} {w : World} {d : Nat} {os : Array Obj} {v : Value}
    (h : Calls P f args (grow (redrawn w d) os) fun e w' => e = .returned v ∧ grow (redrawn w d) os = w') : Calls P f args (grow (redrawn w d) os) fun e w'' => e = .returned v ∧ ∃ p : Regrown, w'' = grow (redrawn w p.d) p.os :=
  h.mono fun _ _ ⟨he, hm⟩ => ⟨he, ⟨d, os⟩, hm.symm⟩

theorem rounds_any (p s : Int) (w : World) :
    Calls Try.prog 9 #[.int .i64 p, .int .i64 s] w fun e w' => e = .returned (.int .i64 (wrap64 (wrap64 (p + s) + 2))) ∧ w = w' := by
  go_enter Try.func9, Try.ntmps9
  go_wp2
  go_ret
  exact ⟨rfl, rfl⟩
theorem rounds_at (p s N : Int) (h : wrap64 (wrap64 (p + s) + 2) = N) (w : World) :
    Calls Try.prog 9 #[.int .i64 p, .int .i64 s] w fun e w' => e = .returned (.int .i64 N) ∧ w = w' := by
  subst h; exact rounds_any p s w
theorem live22 (w : World) : Calls Try.prog 7 #[] w fun e w' => e = .returned (.bool true) ∧ w = w' := by
  go_enter Try.func7, Try.ntmps7
  go_wp2
  go_ret
  exact ⟨rfl, rfl⟩
theorem ticks_at (A : Option Addr) (n cap : Nat) (ch sb cl qu close long ag wi r sq : Int) (p s N T : Int) (h : wrap64 (wrap64 (p + s) + 2) = N) (hT : wrap64 (1 + wrap64 (N * long)) = T) (w : World) :
    Calls Try.prog 10 #[.agg #[.slice A n cap, .int .i64 ch, .int .i64 sb, .int .i64 cl, .int .i64 qu, .int .i64 close, .int .i64 long, .int .i64 ag, .int .i64 wi, .int .u64 r, .int .u64 sq], .int .i64 p, .int .i64 s] w
      fun e w' => e = .returned (.int .i64 T) ∧ Below w.heap.size w w' := by
  have H := Lib.hid hT; clear hT
  have H0 := Lib.hid h; clear h
  go_enter Try.func10, Try.ntmps10
  go_wp2
  go_quiet ((go_at_call 9; exact quiet_left (rounds_at p s N H0.out _)))
  go_wp2
  go_ret
  exact ⟨by rw [← H.out]; rfl, below_drewN ((Below.refl _ _).alloc (Nat.le_refl _) _) _⟩

/-! ### BoundCounts -/
theorem i64_le {n : Int} (h : (Lit.int .i64 n).wf = true) : -9223372036854775808 ≤ n ∧ n ≤ 9223372036854775807 := bounds_i64 h
theorem prod_bd {N L : Int} (h0 : 0 ≤ N) (h1 : N ≤ 2097160) (h2 : 0 ≤ L) (h3 : L ≤ 10000) : 0 ≤ N * L ∧ N * L ≤ 20971600000 := by
  refine ⟨Int.mul_nonneg h0 h2, ?_⟩
  have := Int.mul_le_mul h1 h3 h2 (by omega)
  omega
theorem counts_sums {p s L : Int} (h1 : 0 ≤ p) (h2 : 0 ≤ s) (h3 : p ≤ 1048576) (h4 : s ≤ 1048576) (h5 : 1 ≤ L) (h6 : L ≤ 10000) :
    ∃ N T : Int, (2 ≤ N ∧ N ≤ 2097154) ∧ (0 ≤ T ∧ T ≤ 20971600001) ∧ wrap64 (wrap64 (p + s) + 2) = N ∧ wrap64 (wrap64 (p + 1 + s) + 2) = N + 1 ∧ wrap64 (wrap64 (p + (s + 1)) + 2) = N + 1 ∧
      wrap64 (1 + wrap64 (N * L)) = T ∧ wrap64 (1 + wrap64 ((N + 1) * L)) = T + L := by
  have e1 : wrap64 (p + s) = p + s := IntWalk.wrap64_in _ (by omega)
  have e2 : wrap64 (p + 1 + s) = p + 1 + s := IntWalk.wrap64_in _ (by omega)
  have e3 : wrap64 (p + (s + 1)) = p + (s + 1) := IntWalk.wrap64_in _ (by omega)
  have b1 := prod_bd (N := p + s + 2) (L := L) (by omega) (by omega) (by omega) (by omega)
  have b2 := prod_bd (N := p + s + 2 + 1) (L := L) (by omega) (by omega) (by omega) (by omega)
  have b3 : (p + s + 2 + 1) * L = (p + s + 2) * L + L := by rw [Int.add_mul, Int.one_mul]
  refine ⟨p + s + 2, 1 + (p + s + 2) * L, by omega, by omega, ?_, ?_, ?_, ?_, ?_⟩
  · rw [e1, IntWalk.wrap64_in _ (by omega)]
  · rw [e2, IntWalk.wrap64_in _ (by omega)]; omega
  · rw [e3, IntWalk.wrap64_in _ (by omega)]; omega
  · rw [IntWalk.wrap64_in ((p + s + 2) * L) (by omega), IntWalk.wrap64_in _ (by omega)]
  · rw [IntWalk.wrap64_in ((p + s + 2 + 1) * L) (by omega), IntWalk.wrap64_in _ (by omega), b3]; omega

/-- A configuration in a variable of its own. -/
def IsCfg (w : World) (b : Nat) (A : Option Addr) (n cap : Nat) (ch sb cl qu close long ag wi r sq : Int) : Prop :=
  w.cell? ⟨b, 0, none⟩ = some (.slice A n cap) ∧ w.cell? ⟨b, 1, none⟩ = some (.int .i64 ch) ∧ w.cell? ⟨b, 2, none⟩ = some (.int .i64 sb) ∧ w.cell? ⟨b, 3, none⟩ = some (.int .i64 cl) ∧ w.cell? ⟨b, 4, none⟩ = some (.int .i64 qu) ∧
  w.cell? ⟨b, 5, none⟩ = some (.int .i64 close) ∧ w.cell? ⟨b, 6, none⟩ = some (.int .i64 long) ∧ w.cell? ⟨b, 7, none⟩ = some (.int .i64 ag) ∧ w.cell? ⟨b, 8, none⟩ = some (.int .i64 wi) ∧ w.cell? ⟨b, 9, none⟩ = some (.int .u64 r) ∧ w.cell? ⟨b, 10, none⟩ = some (.int .u64 sq)
theorem IsCfg.new (w : World) (A : Option Addr) (n cap : Nat) (ch sb cl qu close long ag wi r sq : Int) (t : TypeId) :
    IsCfg (w.alloc (.cells #[.slice A n cap, .int .i64 ch, .int .i64 sb, .int .i64 cl, .int .i64 qu, .int .i64 close, .int .i64 long, .int .i64 ag, .int .i64 wi, .int .u64 r, .int .u64 sq] t)) w.heap.size A n cap ch sb cl qu close long ag wi r sq := by
  refine ⟨?_, ?_, ?_, ?_, ?_, ?_, ?_, ?_, ?_, ?_, ?_⟩ <;> (rw [World.cell?_alloc_at _ _ _ _ rfl]; rfl)
theorem IsCfg.below {w w' : World} {b B : Nat} {A : Option Addr} {n cap : Nat} {ch sb cl qu close long ag wi r sq : Int} (h : IsCfg w b A n cap ch sb cl qu close long ag wi r sq) (hb : Below B w w') (hB : b < B) : IsCfg w' b A n cap ch sb cl qu close long ag wi r sq := by
  obtain ⟨x0, x1, x2, x3, x4, x5, x6, x7, x8, x9, x10⟩ := h
  exact ⟨(hb.cell hB).trans x0, (hb.cell hB).trans x1, (hb.cell hB).trans x2, (hb.cell hB).trans x3, (hb.cell hB).trans x4, (hb.cell hB).trans x5, (hb.cell hB).trans x6, (hb.cell hB).trans x7, (hb.cell hB).trans x8, (hb.cell hB).trans x9, (hb.cell hB).trans x10⟩

set_option maxHeartbeats 1000000 in
theorem counts_any (A : Option Addr) (n cap : Nat) (ch sb cl qu close long ag wi r sq : Int) (p s : Int) (w : World) :
    Calls Try.prog 3 #[.agg #[.slice A n cap, .int .i64 ch, .int .i64 sb, .int .i64 cl, .int .i64 qu, .int .i64 close, .int .i64 long, .int .i64 ag, .int .i64 wi, .int .u64 r, .int .u64 sq], .int .i64 p, .int .i64 s] w
      fun e w' => e = .returned (.bool true) ∧ Below w.heap.size w w' := by
  by_cases hsmall : p < 0 ∨ s < 0 ∨ 1048576 < p ∨ 1048576 < s
  · go_enter Try.func3, Try.ntmps3
    go_wp2_with (go_at_call 7; refine (live22 _).mono ?_; rintro e w' ⟨rfl, rfl⟩)
    all_goals first
      | (exfalso; omega)
      | (go_ret; exact ⟨rfl, (Below.refl _ _).alloc (Nat.le_refl _) _⟩)
  · have g1 : 0 ≤ p := by omega
    have g2 : 0 ≤ s := by omega
    have g3 : p ≤ 1048576 := by omega
    have g4 : s ≤ 1048576 := by omega
    clear hsmall
    have d1 : decide (p < 0) = false := decide_eq_false (by omega)
    have d2 : decide (s < 0) = false := decide_eq_false (by omega)
    have d3 : decide (1048576 < p) = false := decide_eq_false (by omega)
    have d4 : decide (1048576 < s) = false := decide_eq_false (by omega)
    cases hok : okCfg n ch sb cl qu close long ag wi r sq with
    | false =>
      have Hk := Lib.hid hok; clear hok
      go_enter Try.func3, Try.ntmps3
      go_wp2_with (first
        | (go_at_call 7; refine (live22 _).mono ?_; rintro e w' ⟨rfl, rfl⟩)
        | (go_at_call 8; refine (r07_check_no A n cap ch sb cl qu close long ag wi r sq Hk.out _).mono ?_; rintro e w1 ⟨rfl, hb1⟩))
      go_ret
      exact ⟨rfl, ((Below.refl _ _).alloc (Nat.le_refl _) _).trans (hb1.mono (by simp))⟩
    | true =>
      have hl := okCfg_long hok
      have Hk := Lib.hid hok; clear hok
      obtain ⟨N, T, hN, hT, e1, e2, e3, e4, e5⟩ := counts_sums g1 g2 g3 g4 (L := long) (by omega) (by omega)
      have E1 := Lib.hid e1; have E2 := Lib.hid e2; have E3 := Lib.hid e3; have E4 := Lib.hid e4; have E5 := Lib.hid e5
      have l1 : 1 ≤ long := by omega
      have l2 : long ≤ 10000 := by omega
      clear e1 e2 e3 e4 e5 hl
      go_enter Try.func3, Try.ntmps3
      go_wp2_with (first
        | (go_at_call 7; refine (live22 _).mono ?_; rintro e w' ⟨rfl, rfl⟩)
        | (go_at_call 8; refine (r07_check_ok A n cap ch sb cl qu close long ag wi r sq Hk.out _).mono ?_; rintro e w1 ⟨rfl, hb1⟩
           have c1 : IsCfg w1 w.heap.size A n cap ch sb cl qu close long ag wi r sq := (IsCfg.new ..).below hb1 (by simp)
           have hb1' : Below w.heap.size w w1 := ((Below.refl _ _).alloc (Nat.le_refl _) _).trans (hb1.mono (by simp))
           clear hb1; obtain ⟨x0, x1, x2, x3, x4, x5, x6, x7, x8, x9, x10⟩ := c1)
        | (go_at_call 9; with_reducible refine (rounds_at p s N E1.out _).mono ?_; rintro e w' ⟨rfl, rfl⟩)
        | (go_at_call 10; with_reducible refine (ticks_at A n cap ch sb cl qu close long ag wi r sq p s N T E1.out E4.out _).mono ?_; rintro e w2 ⟨rfl, hb2⟩
           have c2 : IsCfg w2 w.heap.size A n cap ch sb cl qu close long ag wi r sq := (show IsCfg w1 w.heap.size A n cap ch sb cl qu close long ag wi r sq from ⟨x0, x1, x2, x3, x4, x5, x6, x7, x8, x9, x10⟩).below hb2 (World.block_lt_of_cell? _ _ x0)
           have hb2' : Below w.heap.size w w2 := hb1'.trans (hb2.mono hb1'.size)
           clear hb2 hb1' x0 x1 x2 x3 x4 x5 x6 x7 x8 x9 x10; obtain ⟨x0, x1, x2, x3, x4, x5, x6, x7, x8, x9, x10⟩ := c2))
      have k0 := cell_regrown x0; have k1 := cell_regrown x1; have k2 := cell_regrown x2; have k3 := cell_regrown x3; have k4 := cell_regrown x4; have k5 := cell_regrown x5
      have k6 := cell_regrown x6; have k7 := cell_regrown x7; have k8 := cell_regrown x8; have k9 := cell_regrown x9; have k10 := cell_regrown x10
      clear x0 x1 x2 x3 x4 x5 x6 x7 x8 x9 x10
      have cR1 := fun d os => quiet_same (rounds_at (p + 1) s (N + 1) E2.out (grow (redrawn w2 d) os))
      have cR2 := fun d os => quiet_same (rounds_at p (s + 1) (N + 1) E3.out (grow (redrawn w2 d) os))
      have cT1 := fun d os => Calls.regrown_of (ticks_at A n cap ch sb cl qu close long ag wi r sq (p + 1) s (N + 1) (T + long) E2.out E5.out (grow (redrawn w2 d) os))
      have cT2 := fun d os => Calls.regrown_of (ticks_at A n cap ch sb cl qu close long ag wi r sq p (s + 1) (N + 1) (T + long) E3.out E5.out (grow (redrawn w2 d) os))
      have t1 : (T == wrap64 (1 + wrap64 (N * long))) = true := by rw [E4.out]; simp
      refine wp_region_quiet_below (by kernel_rfl) (by kernel_rfl) ?_
      repeat (any_goals (first | go_big_quiet_step (first | with_reducible exact cR1 _ _ | with_reducible exact cR2 _ _ | with_reducible exact cT1 _ _ | with_reducible exact cT2 _ _) | quiet_step (first | with_reducible exact cR1 _ _ | with_reducible exact cR2 _ _ | with_reducible exact cT1 _ _ | with_reducible exact cT2 _ _)))
      refine wpQuiet_nil ?_
      intro _ hw'
      obtain ⟨⟨dq, osq⟩, hw''⟩ := hw'
      subst hw''
      go_wp2
      go_ret
      exact ⟨rfl, hb2'.trans ((below_regrown w2 dq osq).mono hb2'.size)⟩
end Go.Proofs.Ytigpalnmeefphaa
