/-
  A store and a letter as arguments; live is true.
-/
import Derived.Test.YtcmdmmphakclmaaStoreI
namespace Go.Proofs.Ytcmdmmphakclmaa
open Go.ChangeShapes Go.WideShapes Go.ChangeAt Go.RowKit Go.Sort
set_option linter.unusedVariables false

theorem cells_u8 : Try.prog.cellsOf 5 = 1 := by kernel_rfl
theorem cells_int : Try.prog.cellsOf 3 = 1 := by kernel_rfl
theorem cells_u64 : Try.prog.cellsOf 22 = 1 := by kernel_rfl
theorem cells_bool : Try.prog.cellsOf 4 = 1 := by kernel_rfl
theorem opens_int : Opens Try.prog 3 (Rint .i64) := Opens.int Try.underlying3 cells_int
theorem opens_u64 : Opens Try.prog 22 (Rint .u64) := Opens.int Try.underlying22 cells_u64
theorem opens_u8 : Opens Try.prog 5 (Rint .u8) := Opens.int Try.underlying5 cells_u8
theorem opens_bool : Opens Try.prog 4 Rbool := Opens.bool Try.underlying4 cells_bool
theorem opens_bytes : Opens Try.prog 32 (Rsl 1 (Rint .u8)) := Opens.slice Try.underlying32 (by kernel_rfl) (by kernel_rfl) (by decide) opens_u8
abbrev RltP := Rcons Rbool (Rcons (Rint .i64) (Rcons (Rint .i64) (Rcons (Rint .u64) (Rcons (Rsl 1 (Rint .u8)) Rnil))))
theorem opens_ltP : Opens Try.prog 34 RltP := Opens.struct Try.underlying34 (by kernel_rfl) (.cons rfl opens_bool (.cons rfl opens_int (.cons rfl opens_int (.cons rfl opens_u64 (.cons rfl opens_bytes .nil)))))
theorem Opens.conv {α β : Type} {P : Program} {t : TypeId} {R : Rdr α} {Q : Rdr β} (h : Opens P t R) (g : α → β) (hsz : R.size = Q.size) (hr : ∀ w S a cs, R.rd w S a cs → Q.rd w S (g a) cs) (hf : ∀ K a, R.fit K a → Q.fit K (g a)) : Opens P t Q :=
  ⟨by rw [h.1, hsz], fun H enc w fuel cs x hx => by
    obtain ⟨a, hra, hfa⟩ := h.2 _ _ _ _ _ _ hx
    exact ⟨g a, hr _ _ _ _ hra, fun hw => hf _ _ (hfa hw)⟩⟩
theorem opens_lt : Opens Try.prog 34 Rlt :=
  opens_ltP.conv (fun a => ⟨a.1, a.2.1, a.2.2.1, a.2.2.2.1, a.2.2.2.2.1⟩) rfl
    (by
      rintro w S ⟨cv, fr, tt, sq, tx, _⟩ cs ⟨_, _, h, rfl, _, _, rfl, ⟨rfl, h1⟩, _, _, rfl, ⟨rfl, h2⟩, _, _, rfl, ⟨rfl, h3⟩, _, _, rfl, ⟨A, cap, rfl, h4, h5, h6⟩, rfl⟩
      exact ⟨A, cap, h, h1, h2, h3, h4, h5, h6⟩)
    (by
      rintro K ⟨cv, fr, tt, sq, tx, _⟩ ⟨_, _, _, _, ⟨h, _⟩, _⟩
      show tx.length ≤ K
      simpa using h)
theorem arg_agg {P : Program} {w : World} {r : Reach} {b0 : Nat} {t : TypeId} {fs : Array Field} {v : Value} (ht : P.underlying t = some (.struct fs)) (h : Value.okWide P w r b0 t v) {l : List Value} (hc : v.cells.toList = l) : v = .agg l.toArray := by
  obtain ⟨cs, rfl, _⟩ := okWide_struct ht h
  subst hc
  simp [Value.cells]
theorem arg_sl {α : Type} {R : Rdr α} {P : Program} {t e : TypeId} {bytes : Nat} (ht : P.underlying t = some (.slice e)) (ho : Opens P t (Rsl bytes R)) {H : Type} {enc : TypeId × Value → H} {w : World} {r : Reach} {b0 : Nat} {v : Value} {d : DataW H} {ps : List MemPlace}
    (hv : Value.okWide P w r b0 t v) (h : DataW.Trod enc P w 0 (fun _ => true) true t v d ps) (hz : ∀ n ∈ d.weights P t, n ≤ reachBytes) :
    ∃ (A : Option Addr) (xs : List α) (n cap : Nat), v = .slice A n cap ∧ xs.length = n ∧ n ≤ cap ∧ cap ≤ maxLen ∧ Sl R w (lo w.heap.size) A xs ∧ n * bytes ≤ reachBytes ∧ ∀ x ∈ xs, R.fit reachBytes x := by
  obtain ⟨A, n, cap, rfl⟩ := okWide_slice ht hv
  obtain ⟨xs, ⟨A', cap', hc, hl, hm, hs⟩, hf⟩ := ho.arg h
  simp only [Value.cells, List.cons.injEq, and_true, Value.slice.injEq] at hc
  obtain ⟨rfl, rfl, rfl⟩ := hc
  obtain ⟨h1, h2⟩ := hf hz
  exact ⟨A, xs, _, cap, rfl, rfl, hl, hm, hs, h1, h2⟩
theorem maxLen_le {n : Nat} (h : n ≤ maxLen) : n ≤ 9223372036854775807 := h
theorem reach_eq : reachBytes = 140737488351232 := rfl
theorem arg_lt {H : Type} {enc : TypeId × Value → H} {w : World} {r : Reach} {b0 : Nat} {v : Value} {d : DataW H} {ps : List MemPlace} (hv : Value.okWide Try.prog w r b0 34 v)
    (ht : DataW.Trod enc Try.prog w 0 (fun _ => true) true 34 v d ps) (hz : ∀ n ∈ d.weights Try.prog 34, n ≤ reachBytes) :
    ∃ (l : Lt) (T : Option Addr) (n c : Nat), v = .agg #[.bool l.cover, .int .i64 l.fr, .int .i64 l.to, .int .u64 l.sq, .slice T n c] ∧ LtAt w (lo w.heap.size) T n c l ∧ l.text.length ≤ reachBytes := by
  obtain ⟨l, ⟨T, c, hc, h1, h2, h3, h4, h5, h6⟩, hf⟩ := opens_lt.arg ht
  exact ⟨l, T, _, c, arg_agg Try.underlying34 hv hc, ⟨h1, h2, h3, rfl, h4, h5, h6⟩, hf hz⟩
abbrev RstP := Rcons (Rsl 8 (Rint .u64)) (Rcons (Rsl 24 (Rsl 56 Rlt)) Rnil)
theorem opens_lts : Opens Try.prog 23 (Rsl 56 Rlt) := Opens.slice Try.underlying23 (by kernel_rfl) (by kernel_rfl) (by decide) opens_lt
theorem opens_stP : Opens Try.prog 28 RstP := Opens.struct Try.underlying28 (by kernel_rfl)
  (.cons rfl (Opens.slice Try.underlying25 (by kernel_rfl) (by kernel_rfl) (by decide) opens_u64) (.cons rfl (Opens.slice Try.underlying26 (by kernel_rfl) (by kernel_rfl) (by decide) opens_lts) .nil))
/-- A store as an argument. -/
structure StArg (w : World) (A : Option Addr) (n cap : Nat) (B : Option Addr) (m cap' : Nat) (s : St) : Prop where
  at_ : StAt w (lo w.heap.size) A n B m s
  fit : StFit 140737488351232 s
  n64 : n ≤ 9223372036854775807
  m64 : m ≤ 9223372036854775807
theorem arg_st {H : Type} {enc : TypeId × Value → H} {w : World} {r : Reach} {b0 : Nat} {v : Value} {d : DataW H} {ps : List MemPlace} (hv : Value.okWide Try.prog w r b0 28 v)
    (ht : DataW.Trod enc Try.prog w 0 (fun _ => true) true 28 v d ps) (hz : ∀ n ∈ d.weights Try.prog 28, n ≤ reachBytes) :
    ∃ (s : St) (A : Option Addr) (n cap : Nat) (B : Option Addr) (m cap' : Nat), v = .agg #[.slice A n cap, .slice B m cap'] ∧ StArg w A n cap B m cap' s := by
  obtain ⟨⟨last, boxes, _⟩, ⟨_, _, h, ⟨A, cap, rfl, a1, a2, a3⟩, _, _, rfl, ⟨B, cap', rfl, b1, b2, b3⟩, rfl⟩, hf⟩ := opens_stP.arg ht
  obtain ⟨⟨f1, _⟩, ⟨f2, f3⟩, _⟩ := hf hz
  refine ⟨⟨last, boxes⟩, A, _, cap, B, _, cap', arg_agg Try.underlying28 hv h, ⟨⟨a3, rfl, b3, rfl⟩, ⟨f1, f2, fun b hb => (f3 b hb).1, fun b hb l hl => (f3 b hb).2 l hl⟩, maxLen_le (Nat.le_trans a1 a2), maxLen_le (Nat.le_trans b1 b2)⟩⟩

/-! ### live -/
def S0 : St := ⟨[0, 0], [[], []]⟩
def l1 : Lt := ⟨false, 0, 1, 1, []⟩
def l2 : Lt := ⟨false, 0, 1, 2, []⟩
theorem live_new : newS 2 1 = (S0, 0) := rfl
theorem live_a : putR S0 l2 = (S0, 0, 0) := rfl
theorem live_b : putR S0 l1 = (⟨[1, 0], [[], [l1]]⟩, 1, 0) := rfl
theorem live_x : putR ⟨[1, 0], [[], [l1]]⟩ l1 = (⟨[1, 0], [[], [l1]]⟩, 1, 0) := rfl
theorem fit_S0 : StFit 140737488355272 S0 := ⟨by simp [S0], by simp [S0], fun b hb => by simp [S0] at hb; simp [hb], fun b hb l hl => by simp [S0] at hb; simp [hb] at hl⟩
theorem fit_S1 : StFit 140737488355272 ⟨[1, 0], [[], [l1]]⟩ := ⟨by simp, by simp, fun b hb => by simp at hb; rcases hb with rfl | rfl <;> simp, fun b hb l hl => by simp at hb; rcases hb with rfl | rfl <;> simp at hl; subst hl; simp [l1]⟩
theorem lt_nil (w : World) (S : Nat → Prop) (cv : Bool) (fr tt sq : Int) (h1 : (Lit.int .i64 fr).wf = true) (h2 : (Lit.int .i64 tt).wf = true) (h3 : (Lit.int .u64 sq).wf = true) : LtAt w S none 0 0 ⟨cv, fr, tt, sq, []⟩ :=
  ⟨h1, h2, h3, rfl, Nat.le_refl _, by simp, Sl.nil _ _ _ _⟩
theorem put_live {A : Option Addr} {n cap : Nat} {B : Option Addr} {m cap' : Nat} {s s' : St} {l : Lt} {c : Int} {w W : World} (hp : putR s l = (s', c, 0)) (hs : StAt W (lo W.heap.size) A n B m s) (hb : Below w.heap.size w W) (hf : StFit 140737488355272 s) (hl : ∀ W S, LtAt W S none 0 0 l) (o : Obj) :
    Calls Try.prog 11 #[.agg #[.slice A n cap, .slice B m cap'], .agg #[.bool l.cover, .int .i64 l.fr, .int .i64 l.to, .int .u64 l.sq, .slice none 0 0]] (W.alloc o) fun e w' =>
      ∃ A n cap B m cap', e = .returned (.tuple #[.agg #[.slice A n cap, .slice B m cap'], .int .u8 c, .int .i64 0]) ∧ Hid (StAt w' (lo w'.heap.size) A n B m s' ∧ Below w.heap.size w w') := by
  refine (put_any A n cap B m cap' s l none 0 0 _ (hs.below ((Below.refl _ _).alloc (Nat.le_refl _) _) (by simp)) hf (hl _ _)).mono ?_
  rintro e w' ⟨A, n, cap, B, m, cap', rfl, hst, _, _, _, _, hb9⟩
  rw [hp] at hst ⊢
  exact ⟨A, n, cap, B, m, cap', rfl, hst.lo, hb.trans (((Below.refl _ _).alloc (Nat.le_refl _) _).trans (hb9.mono (by simp)) |>.mono hb.size)⟩
set_option maxHeartbeats 2000000 in
theorem live_any (w : World) : Calls Try.prog 9 #[] w fun e w' => e = .returned (.bool true) ∧ Below w.heap.size w w' := by
  go_enter Try.func9, Try.ntmps9
  go_upto_region 2 with (go_at_call 10
                         go_loud (skip
                                  refine (new_any 2 1 (by decide) (by decide) w).mono ?_
                                  rintro e W9 ⟨A, n, cap, B, m, cap', rfl, hst, hc1, hc2, hc3, hc4, hb9⟩
                                  rw [live_new] at hst ⊢
                                  have HS := Lib.hid hst.lo; have HB := Lib.hid hb9
                                  clear hst hb9))
  go_upto_region 3 with (go_at_call 11
                         go_loud (skip
                                  refine (put_live live_a HS.out HB.out fit_S0 (fun _ _ => lt_nil _ _ _ _ _ _ (by decide) (by decide) (by decide)) _).mono ?_
                                  rintro e W10 ⟨A1, n1, cap1, B1, m1, cap1', rfl, HS1⟩))
  go_upto_region 4 with (go_at_call 11
                         go_loud (skip
                                  refine (put_live live_b HS1.out.1 HS1.out.2 fit_S0 (fun _ _ => lt_nil _ _ _ _ _ _ (by decide) (by decide) (by decide)) _).mono ?_
                                  rintro e W11 ⟨A2, n2, cap2, B2, m2, cap2', rfl, HS2⟩))
  go_wp2_with (go_at_call 11
               go_loud (skip
                        refine (put_live live_x HS2.out.1 HS2.out.2 fit_S1 (fun _ _ => lt_nil _ _ _ _ _ _ (by decide) (by decide) (by decide)) _).mono ?_
                        rintro e W12 ⟨A3, n3, cap3, B3, m3, cap3', rfl, HS3⟩
                        obtain rfl : m3 = 2 := HS3.out.1.boxesN.symm
                        obtain ⟨b3, off3, T3, q3, qc3, rfl, hb3, hq3, _, _, _, x3⟩ := HS3.out.1.boxes.sub (i := 1) (x := [l1]) rfl
                        obtain rfl : q3 = 1 := hq3.symm
                        have hz3 : b3 < W12.heap.size := hb3
                        clear hb3 hq3))
  go_ret
  exact ⟨rfl, HS3.out.2.alloc HS3.out.2.size _⟩
end Go.Proofs.Ytcmdmmphakclmaa
