/-
  Contracts of Long, of key.First, of the closure in Failed, of Failed and Sure (P22.1, P22.2).
-/
import Derived.Test.YtigpalnmeefphaaBoundB
namespace Go.Proofs.Ytigpalnmeefphaa
open Go.RowKit Go.Sort

/-- A configuration's value. -/
structure Cf where
  A : Option Addr
  n : Nat
  cap : Nat
  ch : Int
  sb : Int
  cl : Int
  qu : Int
  close : Int
  long : Int
  ag : Int
  wi : Int
  r : Int
  sq : Int
/-- A world's value. -/
structure Wd where
  now : Int
  listA : Option Addr
  listN : Nat
  listC : Nat
  fatesA : Option Addr
  fatesN : Nat
  fatesC : Nat
  node : Int
  epoch : Int
  round : Int
  chainA : Option Addr
  chainN : Nat
  chainC : Nat
  peersA : Option Addr
  peersN : Nat
  peersC : Nat
  standA : Option Addr
  standN : Nat
  standC : Nat
  start : Int
  closed : Bool
  onA : Option Addr
  onN : Nat
  onC : Nat
  backA : Option Addr
  backN : Nat
  backC : Nat
  noch : Bool
  chalt : Bool
  serversA : Option Addr
  serversN : Nat
  serversC : Nat
  deadA : Option Addr
  deadN : Nat
  deadC : Nat
  clientsA : Option Addr
  clientsN : Nat
  clientsC : Nat
  drawsA : Option Addr
  drawsN : Nat
  drawsC : Nat
  lastA : Option Addr
  lastN : Nat
  lastC : Nat
  boxesA : Option Addr
  boxesN : Nat
  boxesC : Nat
  logA : Option Addr
  logN : Nat
  logC : Nat
  halted : Bool
def okCf (c : Cf) : Bool := okCfg c.n c.ch c.sb c.cl c.qu c.close c.long c.ag c.wi c.r c.sq
def IsCf (w : World) (b : Nat) (c : Cf) : Prop := w.cell? ⟨b, 0, none⟩ = some (.slice c.A c.n c.cap) ∧ w.cell? ⟨b, 1, none⟩ = some (.int .i64 c.ch) ∧ w.cell? ⟨b, 2, none⟩ = some (.int .i64 c.sb) ∧ w.cell? ⟨b, 3, none⟩ = some (.int .i64 c.cl) ∧ w.cell? ⟨b, 4, none⟩ = some (.int .i64 c.qu) ∧ w.cell? ⟨b, 5, none⟩ = some (.int .i64 c.close) ∧ w.cell? ⟨b, 6, none⟩ = some (.int .i64 c.long) ∧ w.cell? ⟨b, 7, none⟩ = some (.int .i64 c.ag) ∧ w.cell? ⟨b, 8, none⟩ = some (.int .i64 c.wi) ∧ w.cell? ⟨b, 9, none⟩ = some (.int .u64 c.r) ∧ w.cell? ⟨b, 10, none⟩ = some (.int .u64 c.sq)
def IsWd (w : World) (b : Nat) (x : Wd) : Prop := w.cell? ⟨b, 0, none⟩ = some (.int .i64 x.now) ∧ w.cell? ⟨b, 1, none⟩ = some (.slice x.listA x.listN x.listC) ∧ w.cell? ⟨b, 2, none⟩ = some (.slice x.fatesA x.fatesN x.fatesC) ∧ w.cell? ⟨b, 3, none⟩ = some (.int .i64 x.node) ∧ w.cell? ⟨b, 4, none⟩ = some (.int .u64 x.epoch) ∧ w.cell? ⟨b, 5, none⟩ = some (.int .u64 x.round) ∧ w.cell? ⟨b, 6, none⟩ = some (.slice x.chainA x.chainN x.chainC) ∧ w.cell? ⟨b, 7, none⟩ = some (.slice x.peersA x.peersN x.peersC) ∧ w.cell? ⟨b, 8, none⟩ = some (.slice x.standA x.standN x.standC) ∧ w.cell? ⟨b, 9, none⟩ = some (.int .i64 x.start) ∧ w.cell? ⟨b, 10, none⟩ = some (.bool x.closed) ∧ w.cell? ⟨b, 11, none⟩ = some (.slice x.onA x.onN x.onC) ∧ w.cell? ⟨b, 12, none⟩ = some (.slice x.backA x.backN x.backC) ∧ w.cell? ⟨b, 13, none⟩ = some (.bool x.noch) ∧ w.cell? ⟨b, 14, none⟩ = some (.bool x.chalt) ∧ w.cell? ⟨b, 15, none⟩ = some (.slice x.serversA x.serversN x.serversC) ∧ w.cell? ⟨b, 16, none⟩ = some (.slice x.deadA x.deadN x.deadC) ∧ w.cell? ⟨b, 17, none⟩ = some (.slice x.clientsA x.clientsN x.clientsC) ∧ w.cell? ⟨b, 18, none⟩ = some (.slice x.drawsA x.drawsN x.drawsC) ∧ w.cell? ⟨b, 19, none⟩ = some (.slice x.lastA x.lastN x.lastC) ∧ w.cell? ⟨b, 20, none⟩ = some (.slice x.boxesA x.boxesN x.boxesC) ∧ w.cell? ⟨b, 21, none⟩ = some (.slice x.logA x.logN x.logC) ∧ w.cell? ⟨b, 22, none⟩ = some (.bool x.halted)
theorem IsCf.below {w w' : World} {b B : Nat} {c : Cf} (h : IsCf w b c) (hb : Below B w w') (hB : b < B) : IsCf w' b c := by
  unfold IsCf at *
  simpa only [hb.cell (p := ⟨b, _, none⟩) hB] using h
theorem IsWd.below {w w' : World} {b B : Nat} {x : Wd} (h : IsWd w b x) (hb : Below B w w') (hB : b < B) : IsWd w' b x := by
  unfold IsWd at *
  simpa only [hb.cell (p := ⟨b, _, none⟩) hB] using h
theorem IsCf.new (w : World) (c : Cf) (t : TypeId) {b : Nat} (hb : b = w.heap.size) : IsCf (w.alloc (.cells #[.slice c.A c.n c.cap, .int .i64 c.ch, .int .i64 c.sb, .int .i64 c.cl, .int .i64 c.qu, .int .i64 c.close, .int .i64 c.long, .int .i64 c.ag, .int .i64 c.wi, .int .u64 c.r, .int .u64 c.sq] t)) b c := by
  subst hb
  unfold IsCf
  refine ⟨?_, ?_, ?_, ?_, ?_, ?_, ?_, ?_, ?_, ?_, ?_⟩ <;> (rw [World.cell?_alloc_at _ _ _ _ rfl]; rfl)
theorem IsWd.new (w : World) (x : Wd) (t : TypeId) {b : Nat} (hb : b = w.heap.size) : IsWd (w.alloc (.cells #[.int .i64 x.now, .slice x.listA x.listN x.listC, .slice x.fatesA x.fatesN x.fatesC, .int .i64 x.node, .int .u64 x.epoch, .int .u64 x.round, .slice x.chainA x.chainN x.chainC, .slice x.peersA x.peersN x.peersC, .slice x.standA x.standN x.standC, .int .i64 x.start, .bool x.closed, .slice x.onA x.onN x.onC, .slice x.backA x.backN x.backC, .bool x.noch, .bool x.chalt, .slice x.serversA x.serversN x.serversC, .slice x.deadA x.deadN x.deadC, .slice x.clientsA x.clientsN x.clientsC, .slice x.drawsA x.drawsN x.drawsC, .slice x.lastA x.lastN x.lastC, .slice x.boxesA x.boxesN x.boxesC, .slice x.logA x.logN x.logC, .bool x.halted] t)) b x := by
  subst hb
  unfold IsWd
  refine ⟨?_, ?_, ?_, ?_, ?_, ?_, ?_, ?_, ?_, ?_, ?_, ?_, ?_, ?_, ?_, ?_, ?_, ?_, ?_, ?_, ?_, ?_, ?_⟩ <;> (rw [World.cell?_alloc_at _ _ _ _ rfl]; rfl)

/-! ### Long -/
def longB (c : Cf) (d : Int) : Bool := okCf c && decide (1 ≤ d ∧ d ≤ 16 ∧ 2 * d + 2 ≤ c.close ∧ c.close + 2 * (c.ch + 1) * d + 4 ≤ c.long)
theorem long_prod {a d : Int} (h1 : 1 ≤ a) (h2 : a ≤ 8) (h3 : 1 ≤ d) (h4 : d ≤ 16) : 0 ≤ 2 * (a + 1) * d ∧ 2 * (a + 1) * d ≤ 288 := by
  refine ⟨Int.mul_nonneg (by omega) (by omega), ?_⟩
  have := Int.mul_le_mul (a := 2 * (a + 1)) (b := d) (c := 18) (d := 16) (by omega) h4 (by omega) (by omega)
  omega
theorem okCf_bd {c : Cf} (h : okCf c = true) : 1 ≤ c.ch ∧ c.ch ≤ 8 ∧ 0 ≤ c.sb ∧ c.sb ≤ 8 ∧ 1 ≤ c.cl ∧ c.cl ≤ 8 ∧ 1 ≤ c.qu ∧ c.qu ≤ 64 ∧ 1 ≤ c.close ∧ c.close < c.long ∧ c.long ≤ 10000 := okCfg_long h
theorem longB_no {c : Cf} {d : Int} (h : okCf c = false) : longB c d = false := by simp [longB, h]
theorem longB_no' {c : Cf} {d : Int} (h : d < 1 ∨ 16 < d ∨ c.close < 2 * d + 2 ∨ c.long < c.close + 2 * (c.ch + 1) * d + 4) : longB c d = false := by
  unfold longB
  rw [decide_eq_false (by omega), Bool.and_false]
theorem longB_yes {c : Cf} {d : Int} (h0 : okCf c = true) (h : 1 ≤ d ∧ d ≤ 16 ∧ 2 * d + 2 ≤ c.close ∧ c.close + 2 * (c.ch + 1) * d + 4 ≤ c.long) : longB c d = true := by
  unfold longB
  rw [h0, decide_eq_true h]; rfl
set_option maxHeartbeats 1000000 in
theorem long_any (c : Cf) (d : Int) (w : World) :
    Calls Try.prog 12 #[.agg #[.slice c.A c.n c.cap, .int .i64 c.ch, .int .i64 c.sb, .int .i64 c.cl, .int .i64 c.qu, .int .i64 c.close, .int .i64 c.long, .int .i64 c.ag, .int .i64 c.wi, .int .u64 c.r, .int .u64 c.sq], .int .i64 d] w fun e w' => e = .returned (.bool (longB c d)) ∧ Below w.heap.size w w' := by
  cases hok : okCf c with
  | false =>
    have hlb := longB_no (d := d) hok
    have Hk := Lib.hid hok; have HL := Lib.hid hlb; clear hok hlb
    go_enter Try.func12, Try.ntmps12
    go_wp2_with (go_at_call 16; refine (key_check_no c.A c.n c.cap c.ch c.sb c.cl c.qu c.close c.long c.ag c.wi c.r c.sq Hk.out _).mono ?_; rintro e w1 ⟨rfl, hb1⟩)
    go_ret
    exact ⟨ret_bool HL.out.symm, ((Below.refl _ _).alloc (Nat.le_refl _) _).trans (hb1.mono (by simp))⟩
  | true =>
    have hbd := okCf_bd hok
    by_cases h1 : d < 1 ∨ 16 < d
    · have hlb := longB_no' (c := c) (d := d) (by omega)
      have d1 : ((decide (d < 1)) = true) ∨ (decide (d < 1) = false ∧ decide (16 < d) = true) := by
        rcases Int.lt_or_le d 1 with h | h
        · exact .inl (decide_eq_true h)
        · exact .inr ⟨decide_eq_false (by omega), decide_eq_true (by omega)⟩
      have Hk := Lib.hid hok; have HL := Lib.hid hlb; clear hok hlb h1 hbd
      rcases d1 with d1 | ⟨d1, d2⟩
      all_goals
        go_enter Try.func12, Try.ntmps12
        go_wp2_with (go_at_call 16; refine (key_check_ok c.A c.n c.cap c.ch c.sb c.cl c.qu c.close c.long c.ag c.wi c.r c.sq Hk.out _).mono ?_; rintro e w1 ⟨rfl, hb1⟩)
        go_ret
        exact ⟨ret_bool HL.out.symm, ((Below.refl _ _).alloc (Nat.le_refl _) _).trans (hb1.mono (by simp))⟩
    · have g1 : 1 ≤ d := by omega
      have g2 : d ≤ 16 := by omega
      have d1 : decide (d < 1) = false := decide_eq_false (by omega)
      have d2 : decide (16 < d) = false := decide_eq_false (by omega)
      clear h1
      obtain ⟨p1, p2⟩ := long_prod (a := c.ch) (d := d) (by omega) (by omega) g1 g2
      have q1 : 1 ≤ c.ch := by omega
      have q2 : c.ch ≤ 8 := by omega
      have q3 : 1 ≤ c.close := by omega
      have q4 : c.close ≤ 10000 := by omega
      have q5 : c.long ≤ 10000 := by omega
      have Hk := Lib.hid hok; clear hok hbd
      by_cases h2 : 2 * d + 2 ≤ c.close
      · have d3 : decide (2 * d + 2 ≤ c.close) = true := decide_eq_true h2
        by_cases h3 : c.close + 2 * (c.ch + 1) * d + 4 ≤ c.long
        · have d4 : decide (c.close + 2 * (c.ch + 1) * d + 4 ≤ c.long) = true := decide_eq_true h3
          have HL := Lib.hid (longB_yes Hk.out ⟨g1, g2, h2, h3⟩)
          clear h2 h3
          go_enter Try.func12, Try.ntmps12
          go_wp2_with (go_at_call 16; refine (key_check_ok c.A c.n c.cap c.ch c.sb c.cl c.qu c.close c.long c.ag c.wi c.r c.sq Hk.out _).mono ?_; rintro e w1 ⟨rfl, hb1⟩; have hc := (IsCf.new w c 25 rfl).below hb1 (by simp); obtain ⟨x0, x1, x2, x3, x4, x5, x6, x7, x8, x9, x10⟩ := hc)
          go_ret
          exact ⟨ret_bool HL.out.symm, ((Below.refl _ _).alloc (Nat.le_refl _) _).trans (hb1.mono (by simp))⟩
        · have d4 : decide (c.close + 2 * (c.ch + 1) * d + 4 ≤ c.long) = false := decide_eq_false h3
          have HL := Lib.hid (longB_no' (c := c) (d := d) (by omega))
          clear h2 h3
          go_enter Try.func12, Try.ntmps12
          go_wp2_with (go_at_call 16; refine (key_check_ok c.A c.n c.cap c.ch c.sb c.cl c.qu c.close c.long c.ag c.wi c.r c.sq Hk.out _).mono ?_; rintro e w1 ⟨rfl, hb1⟩; have hc := (IsCf.new w c 25 rfl).below hb1 (by simp); obtain ⟨x0, x1, x2, x3, x4, x5, x6, x7, x8, x9, x10⟩ := hc)
          go_ret
          exact ⟨ret_bool HL.out.symm, ((Below.refl _ _).alloc (Nat.le_refl _) _).trans (hb1.mono (by simp))⟩
      · have d3 : decide (2 * d + 2 ≤ c.close) = false := decide_eq_false h2
        have HL := Lib.hid (longB_no' (c := c) (d := d) (by omega))
        clear h2
        go_enter Try.func12, Try.ntmps12
        go_wp2_with (go_at_call 16; refine (key_check_ok c.A c.n c.cap c.ch c.sb c.cl c.qu c.close c.long c.ag c.wi c.r c.sq Hk.out _).mono ?_; rintro e w1 ⟨rfl, hb1⟩; have hc := (IsCf.new w c 25 rfl).below hb1 (by simp); obtain ⟨x0, x1, x2, x3, x4, x5, x6, x7, x8, x9, x10⟩ := hc)
        go_ret
        exact ⟨ret_bool HL.out.symm, ((Below.refl _ _).alloc (Nat.le_refl _) _).trans (hb1.mono (by simp))⟩
end Go.Proofs.Ytigpalnmeefphaa
