/-
  Ends, items, bodies as arguments; live is true.
-/
import Derived.Test.YtalieakmjkmbbaaSame
namespace Go.Proofs.Ytalieakmjkmbbaa
open Go.ChangeShapes Go.WideShapes Go.ChangeAt Go.RowKit Go.Sort
set_option linter.unusedVariables false

theorem cells_u8 : Try.prog.cellsOf 5 = 1 := by kernel_rfl
theorem cells_int : Try.prog.cellsOf 3 = 1 := by kernel_rfl
theorem opens_int : Opens Try.prog 3 (Rint .i64) := Opens.int Try.underlying3 cells_int
theorem opens_u8 : Opens Try.prog 5 (Rint .u8) := Opens.int Try.underlying5 cells_u8
theorem opens_bytes : Opens Try.prog 25 (Rsl 1 (Rint .u8)) := Opens.slice Try.underlying25 (by kernel_rfl) (by kernel_rfl) (by decide) opens_u8
theorem opens_ints : Opens Try.prog 43 (Rsl 8 (Rint .i64)) := Opens.slice Try.underlying43 (by kernel_rfl) (by kernel_rfl) (by decide) opens_int
theorem opens_bodies : Opens Try.prog 28 (Rsl 24 Rbd) := Opens.slice Try.underlying28 (by kernel_rfl) (by kernel_rfl) (by decide) opens_bytes
theorem Opens.conv {α β : Type} {P : Program} {t : TypeId} {R : Rdr α} {Q : Rdr β} (h : Opens P t R) (g : α → β) (hsz : R.size = Q.size) (hr : ∀ w S a cs, R.rd w S a cs → Q.rd w S (g a) cs) (hf : ∀ K a, R.fit K a → Q.fit K (g a)) : Opens P t Q :=
  ⟨by rw [h.1, hsz], fun H enc w fuel cs x hx => by
    obtain ⟨a, hra, hfa⟩ := h.2 _ _ _ _ _ _ hx
    exact ⟨g a, hr _ _ _ _ hra, fun hw => hf _ _ (hfa hw)⟩⟩
abbrev RitP := Rcons (Rint .i64) (Rcons (Rsl 1 (Rint .u8)) (Rcons (Rint .i64) Rnil))
theorem opens_itP : Opens Try.prog 38 RitP := Opens.struct Try.underlying38 (by kernel_rfl) (.cons rfl opens_int (.cons rfl opens_bytes (.cons rfl opens_int .nil)))
theorem opens_it : Opens Try.prog 38 Rit :=
  opens_itP.conv (fun a => ⟨a.1, a.2.1, a.2.2.1⟩) rfl
    (by
      rintro w S ⟨sq, tx, tm, _⟩ cs ⟨_, _, h, ⟨rfl, h1⟩, _, _, rfl, ⟨A, cap, rfl, h4, h5, h6⟩, _, _, rfl, ⟨rfl, h2⟩, rfl⟩
      exact ⟨A, cap, h, h1, h2, h4, h5, h6⟩)
    (by
      rintro K ⟨sq, tx, tm, _⟩ ⟨_, ⟨h, _⟩, _⟩
      show tx.length ≤ K
      simpa using h)
theorem opens_its : Opens Try.prog 22 (Rsl 40 Rit) := Opens.slice Try.underlying22 (by kernel_rfl) (by kernel_rfl) (by decide) opens_it
theorem arg_agg {P : Program} {w : World} {r : Reach} {b0 : Nat} {t : TypeId} {fs : Array Field} {v : Value} (ht : P.underlying t = some (.struct fs)) (h : Value.okWide P w r b0 t v) {l : List Value} (hc : v.cells.toList = l) : v = .agg l.toArray := by
  obtain ⟨cs, rfl, _⟩ := okWide_struct ht h
  subst hc
  simp [Value.cells]
theorem arg_sl {α : Type} {R : Rdr α} {P : Program} {t e : TypeId} {bytes : Nat} (ht : P.underlying t = some (.slice e)) (ho : Opens P t (Rsl bytes R)) {H : Type} {enc : TypeId × Value → H} {w : World} {r : Reach} {b0 : Nat} {v : Value} {d : DataW H} {ps : List MemPlace}
    (hv : Value.okWide P w r b0 t v) (h : DataW.Trod enc P w 0 (fun _ => true) true t v d ps) (hz : ∀ n ∈ d.weights P t, n ≤ reachBytes) :
    ∃ (A : Option Addr) (xs : List α) (n cap : Nat), v = .slice A n cap ∧ xs.length = n ∧ n ≤ cap ∧ cap ≤ maxLen ∧ Sl R w (lo w.heap.size) A xs ∧ n * bytes ≤ reachBytes ∧ ∀ x ∈ xs, R.fit reachBytes x := by
  obtain ⟨A, n, cap, rfl⟩ := okWide_slice ht hv
  obtain ⟨xs, ⟨A', cap', hc, hl, hm, hs⟩, hf⟩ := ho.arg h
  simp only [Value.cells, List.cons.injEq, and_true, Value.slice.injEq] at hc
  obtain ⟨rfl, rfl, rfl⟩ := hc
  obtain ⟨h1, h2⟩ := hf hz
  exact ⟨A, xs, _, cap, rfl, rfl, hl, hm, hs, h1, h2⟩
theorem reach_eq : reachBytes = 140737488351232 := rfl
abbrev RotP := Rcons (Rint .i64) (Rcons (Rsl 40 Rit) (Rcons (Rsl 24 Rbd) Rnil))
theorem opens_otP : Opens Try.prog 35 RotP := Opens.struct Try.underlying35 (by kernel_rfl) (.cons rfl opens_int (.cons rfl opens_its (.cons rfl opens_bodies .nil)))
abbrev RinP := Rcons (Rint .i64) (Rcons (Rsl 40 Rit) Rnil)
theorem opens_inP : Opens Try.prog 24 RinP := Opens.struct Try.underlying24 (by kernel_rfl) (.cons rfl opens_int (.cons rfl opens_its .nil))
/-- An end that sends, as an argument. -/
structure OtArg (w : World) (A : Option Addr) (n cap : Nat) (B : Option Addr) (m cap' : Nat) (o : Ot) : Prop where
  at_ : OutAt w (lo w.heap.size) A n B m o
  fit : OutFit o
  next : (Lit.int .i64 o.next).wf = true
  n64 : n ≤ 9223372036854775807
  m64 : m ≤ 9223372036854775807
theorem arg_ot {H : Type} {enc : TypeId × Value → H} {w : World} {r : Reach} {b0 : Nat} {v : Value} {d : DataW H} {ps : List MemPlace} (hv : Value.okWide Try.prog w r b0 35 v)
    (ht : DataW.Trod enc Try.prog w 0 (fun _ => true) true 35 v d ps) (hz : ∀ n ∈ d.weights Try.prog 35, n ≤ reachBytes) :
    ∃ (o : Ot) (A : Option Addr) (n cap : Nat) (B : Option Addr) (m cap' : Nat), v = .agg #[.int .i64 o.next, .slice A n cap, .slice B m cap'] ∧ OtArg w A n cap B m cap' o := by
  obtain ⟨⟨nx, sent, wait, _⟩, ⟨_, _, h, ⟨rfl, h1⟩, _, _, rfl, ⟨A, cap, rfl, a1, a2, a3⟩, _, _, rfl, ⟨B, cap', rfl, b1, b2, b3⟩, rfl⟩, hf⟩ := opens_otP.arg ht
  obtain ⟨_, ⟨f1, f2⟩, ⟨f3, f4⟩, _⟩ := hf hz
  rw [reach_eq] at f1 f2 f3 f4
  refine ⟨⟨nx, sent, wait⟩, A, _, cap, B, _, cap', arg_agg Try.underlying35 hv h, ⟨⟨a3, rfl, b3, rfl⟩, ⟨?_, ?_, fun x hx => ?_, fun x hx => ?_⟩, h1, maxLen_le (Nat.le_trans a1 a2), maxLen_le (Nat.le_trans b1 b2)⟩⟩
  · have h9 : sent.length * 40 ≤ 140737488351232 := f1
    show (sent.length + 1) * 40 ≤ 140737488355328; omega
  · have h9 : wait.length * 24 ≤ 140737488351232 := f3
    show (wait.length + 1) * 24 ≤ 140737488355328; omega
  · have h9 : x.body.length ≤ 140737488351232 := f2 x hx
    omega
  · have h9 : x.length * 1 ≤ 140737488351232 := (f4 x hx).1
    omega
theorem arg_in {H : Type} {enc : TypeId × Value → H} {w : World} {r : Reach} {b0 : Nat} {v : Value} {d : DataW H} {ps : List MemPlace} (hv : Value.okWide Try.prog w r b0 24 v)
    (ht : DataW.Trod enc Try.prog w 0 (fun _ => true) true 24 v d ps) (hz : ∀ n ∈ d.weights Try.prog 24, n ≤ reachBytes) :
    ∃ (e : Int) (xs : List It) (A : Option Addr) (n cap : Nat), v = .agg #[.int .i64 e, .slice A n cap] ∧ (Lit.int .i64 e).wf = true ∧ xs.length = n ∧ n ≤ cap ∧ cap ≤ maxLen ∧ Sl Rit w (lo w.heap.size) A xs ∧ n * 40 ≤ 140737488351232 ∧ ∀ x ∈ xs, x.body.length ≤ 140737488351232 := by
  obtain ⟨⟨e, xs, _⟩, ⟨_, _, h, ⟨rfl, h1⟩, _, _, rfl, ⟨A, cap, rfl, a1, a2, a3⟩, rfl⟩, hf⟩ := opens_inP.arg ht
  obtain ⟨_, ⟨f1, f2⟩, _⟩ := hf hz
  rw [reach_eq] at f1 f2
  exact ⟨e, xs, A, _, cap, arg_agg Try.underlying24 hv h, h1, rfl, a1, a2, a3, f1, fun x hx => f2 x hx⟩

theorem Sl.int {k : IntKind} {w : World} {S : Nat → Prop} {A : Option Addr} {xs : List Int} (h : Sl (Rint k) w S A xs) {i : Nat} {x : Int} (hx : xs[i]? = some x) :
    ∃ (b off : Nat), A = some ⟨b, off, none⟩ ∧ S b ∧ (Lit.int k x).wf = true ∧ w.cell? ⟨b, off + i, none⟩ = some (.int k x) := by
  obtain ⟨b, off, cs, hA, hb, ⟨rfl, hw⟩, hc⟩ := h i x hx
  exact ⟨b, off, hA, hb, hw, by simpa [Rint] using hc 0 _ rfl⟩

/-! ### live -/
theorem sl_one (w : World) (t : TypeId) (v : Int) (hv : (Lit.int .u8 v).wf = true) : Sl (Rint .u8) (w.alloc (.cells #[.int .u8 v] t)) (lo (w.alloc (.cells #[.int .u8 v] t)).heap.size) (some ⟨w.heap.size, 0, none⟩) [v] := by
  intro i x hx
  rcases i with _ | i
  · obtain rfl : v = x := by simpa using hx
    refine ⟨w.heap.size, 0, [.int .u8 v], rfl, by simp [lo], ⟨rfl, hv⟩, fun j u hj => ?_⟩
    rcases j with _ | j
    · obtain rfl : Value.int .u8 v = u := by simpa using hj
      exact (Blk.new w t #[.int .u8 v] rfl).cell 0 rfl
    · simp at hj
  · simp at hx
theorem live_1 : takeP [] 0 1 [1] 4 = ([⟨1, [1], 0⟩], [], 0) := by decide +kernel
theorem live_2 : takeP [⟨1, [1], 0⟩] 0 0 [0] 4 = ([], [[0], [1]], 2) := by decide +kernel
theorem live_3 : sendP ⟨0, [], []⟩ [7] 1 0 = (⟨1, [⟨0, [7], 0⟩], []⟩, [⟨0, [7], 0⟩]) := by rfl
theorem take_live2 {w w1 : World} (o : Obj) (A1 : Option Addr) (n1 c1 : Nat) (hn1 : [(⟨1, [1], 0⟩ : It)].length = n1) (hs1 : Sl Rit w1 (lo w1.heap.size) A1 [⟨1, [1], 0⟩]) (hb : Below w.heap.size w w1) : Calls Try.prog 10 #[.agg #[.int .i64 0, .slice A1 n1 c1], .int .i64 0, .slice (some ⟨w1.heap.size + 1, 0, none⟩) 1 1, .int .i64 4] ((w1.alloc o).alloc (.cells #[.int .u8 0] 5)) fun e w' =>
    ∃ (A : Option Addr) (n c : Nat) (T : Option Addr) (kc : Nat), e = .returned (.tuple #[.agg #[.int .i64 2, .slice A n c], .slice T 2 kc, .int .i64 2]) ∧ Hid (Sl Rbd w' (lo w'.heap.size) T [[0], [1]] ∧ Below w.heap.size w w') := by
  have h0 : Below w1.heap.size w1 ((w1.alloc o).alloc (.cells #[.int .u8 0] 5)) := ((Below.refl _ _).alloc (Nat.le_refl _) _).alloc (by simp) _
  have h1 := sl_one (w1.alloc o) 5 0 (by decide)
  rw [show (w1.alloc o).heap.size = w1.heap.size + 1 by simp] at h1
  have h2 : Sl Rit ((w1.alloc o).alloc (.cells #[.int .u8 0] 5)) (lo ((w1.alloc o).alloc (.cells #[.int .u8 0] 5)).heap.size) A1 [⟨1, [1], 0⟩] := hs1.below h0 h0.size
  generalize ((w1.alloc o).alloc (.cells #[.int .u8 0] 5)) = W at *
  have hn : n1 ≤ 3518437208880 := by subst hn1; simp
  refine (take_any W 0 [⟨1, [1], 0⟩] A1 n1 c1 0 [0] (some ⟨w1.heap.size + 1, 0, none⟩) 1 1 4 hn1 h2 rfl h1 hn (fun x hx => by simp at hx; subst hx; simp) (by decide) (by decide) (by decide) (by decide)).mono ?_
  rw [live_2]
  rintro e w2 ⟨A2, n2, c2, T2, k2, kc2, rfl, hn2, hl2, hm2, hs2, hk2, hk2', hk2'', hT2, hb2⟩
  obtain rfl : k2 = 2 := hk2.symm
  exact ⟨A2, n2, c2, T2, kc2, rfl, hT2.more (fun b hb => hb.2), hb.trans ((h0.trans (hb2.mono h0.size)).mono hb.size)⟩
theorem send_live {w w1 : World} (o : Obj) (hb : Below w.heap.size w w1) : Calls Try.prog 17 #[.agg #[.int .i64 0, .slice none 0 0, .slice none 0 0], .slice (some ⟨w1.heap.size + 1, 0, none⟩) 1 1, .int .i64 1, .int .i64 0] ((w1.alloc o).alloc (.cells #[.int .u8 7] 5)) fun e w' =>
    ∃ (A : Option Addr) (n c : Nat) (B : Option Addr) (m d : Nat) (T : Option Addr) (kc : Nat), e = .returned (.tuple #[.agg #[.int .i64 1, .slice A n c, .slice B m d], .slice T 1 kc]) ∧ Hid (Sl Rit w' (lo w'.heap.size) T [⟨0, [7], 0⟩] ∧ Below w.heap.size w w' ∧ Below w1.heap.size w1 w') := by
  have h0 : Below w1.heap.size w1 ((w1.alloc o).alloc (.cells #[.int .u8 7] 5)) := ((Below.refl _ _).alloc (Nat.le_refl _) _).alloc (by simp) _
  have h1 := sl_one (w1.alloc o) 5 7 (by decide)
  rw [show (w1.alloc o).heap.size = w1.heap.size + 1 by simp] at h1
  generalize ((w1.alloc o).alloc (.cells #[.int .u8 7] 5)) = W at *
  refine (send_any W ⟨0, [], []⟩ none 0 0 none 0 0 [7] (some ⟨w1.heap.size + 1, 0, none⟩) 1 1 1 0 ⟨Sl.nil _ _ _ _, rfl, Sl.nil _ _ _ _, rfl⟩ ⟨by simp, by simp, fun x hx => by simp at hx, fun x hx => by simp at hx⟩ rfl h1 (by decide) (by decide) (by decide) (by decide)).mono ?_
  rw [live_3]
  rintro e w3 ⟨A3, n3, cap3, B3, m3, cap3', T3, k3, kc3, rfl, ho3, _, _, _, _, hk3, hox3, hb3⟩
  obtain rfl : k3 = 1 := hk3.symm
  have h9 : Below w1.heap.size w1 w3 := h0.trans (hb3.mono h0.size)
  exact ⟨A3, n3, cap3, B3, m3, cap3', T3, kc3, rfl, hox3.sl.2.2.2.more (fun b hb => hb.2.1), hb.trans (h9.mono hb.size), h9⟩
set_option maxHeartbeats 4000000 in
set_option maxRecDepth 100000 in
theorem live_any (w : World) : Calls Try.prog 8 #[] w fun e w' => e = .returned (.bool true) ∧ Below w.heap.size w w' := by
  go_enter Try.func8, Try.ntmps8
  go_upto_region 2 with (go_at_call 10
                         go_loud (skip
                                  refine (take_any _ 0 [] none 0 0 1 [1] (some ⟨w.heap.size, 0, none⟩) 1 1 4 rfl (Sl.nil _ _ _ _) rfl (sl_one w _ 1 (by decide)) (by omega) (fun x hx => by simp at hx) (by omega) (by omega) (by omega) (by decide)).mono ?_
                                  rw [live_1]
                                  rintro e w1 ⟨A1, n1, c1, T1, k1, kc1, rfl, hn1, hl1, hm1, hs1, rfl, hk1, hk1', hT1, hb1⟩
                                  have H1 := Lib.hid (And.intro hn1 (And.intro hs1 (((Below.refl _ _).alloc (Nat.le_refl _) _).trans (hb1.mono (by simp)))))
                                  clear hn1 hs1 hb1 hl1 hm1 hk1 hk1' hT1))
  go_upto_region 3 with (go_at_call 10
                         go_loud (skip
                                  refine (take_live2 _ A1 n1 c1 H1.out.1 (H1.out.2.1.more (fun b hb => hb.2)) H1.out.2.2).mono ?_
                                  rintro e w2 ⟨A2, n2, c2, T2, kc2, rfl, H2⟩))
  go_upto_region 4 with (go_at_call 17
                         go_loud (skip
                                  refine (send_live _ H2.out.2).mono ?_
                                  rintro e w3 ⟨A3, n3, cap3, B3, m3, cap3', T3, kc3, rfl, H3⟩))
  obtain ⟨b2, off2, X2, q2, qc2, rfl, hlb2, hq2, _, _, hX2, x2⟩ := (H2.out.1.below H3.out.2.2 H3.out.2.2.size).sub (i := 0) (x := [0]) rfl
  obtain rfl : q2 = 1 := hq2.symm
  obtain ⟨b4, off4, rfl, hlb4, _, x4⟩ := hX2.int (i := 0) (x := 0) rfl
  obtain ⟨b5, off5, T5, n5, c5, rfl, hlb5, _, _, hn5, _, _, hts5, y0, y1, y2⟩ := H3.out.1.item (i := 0) (x := ⟨0, [7], 0⟩) rfl
  obtain rfl : n5 = 1 := hn5.symm
  obtain ⟨b6, off6, rfl, hlb6, _, x6⟩ := hts5.int (i := 0) (x := 7) rfl
  have g2 : b2 < w3.heap.size := hlb2
  have g4 : b4 < w3.heap.size := hlb4
  have g5 : b5 < w3.heap.size := hlb5
  have g6 : b6 < w3.heap.size := hlb6
  have HF := Lib.hid (H3.out.2.1.alloc H3.out.2.1.size)
  clear hlb2 hlb4 hlb5 hlb6 hX2 hts5 hq2 hn5 y0 y2
  simp only [Nat.add_zero, Nat.zero_mul] at x2 x4 y1 x6
  go_wp2
  go_ret
  exact ⟨rfl, HF.out _⟩
end Go.Proofs.Ytalieakmjkmbbaa
