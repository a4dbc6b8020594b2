/-
  A net as an argument; live is true.
-/
import Derived.Test.YtponbodiibkopaaDue
namespace Go.Proofs.Ytponbodiibkopaa
open Go.ChangeShapes Go.WideShapes Go.ChangeAt Go.RowKit Go.Sort
set_option linter.unusedVariables false

theorem cells_u8 : Try.prog.cellsOf 5 = 1 := by kernel_rfl
theorem cells_int : Try.prog.cellsOf 3 = 1 := by kernel_rfl
theorem opens_int : Opens Try.prog 3 (Rint .i64) := Opens.int Try.underlying3 cells_int
theorem opens_u8 : Opens Try.prog 5 (Rint .u8) := Opens.int Try.underlying5 cells_u8
theorem opens_bytes : Opens Try.prog 26 (Rsl 1 (Rint .u8)) := Opens.slice Try.underlying26 (by kernel_rfl) (by kernel_rfl) (by decide) opens_u8
theorem opens_ints : Opens Try.prog 23 (Rsl 8 (Rint .i64)) := Opens.slice Try.underlying23 (by kernel_rfl) (by kernel_rfl) (by decide) opens_int
theorem Opens.conv {α β : Type} {P : Program} {t : TypeId} {R : Rdr α} {Q : Rdr β} (h : Opens P t R) (g : α → β) (hsz : R.size = Q.size) (hr : ∀ w S a cs, R.rd w S a cs → Q.rd w S (g a) cs) (hf : ∀ K a, R.fit K a → Q.fit K (g a)) : Opens P t Q :=
  ⟨by rw [h.1, hsz], fun H enc w fuel cs x hx => by
    obtain ⟨a, hra, hfa⟩ := h.2 _ _ _ _ _ _ hx
    exact ⟨g a, hr _ _ _ _ hra, fun hw => hf _ _ (hfa hw)⟩⟩
abbrev RflP := Rcons (Rint .i64) (Rcons (Rint .i64) (Rcons (Rint .i64) (Rcons (Rsl 1 (Rint .u8)) Rnil)))
theorem opens_flP : Opens Try.prog 37 RflP := Opens.struct Try.underlying37 (by kernel_rfl) (.cons rfl opens_int (.cons rfl opens_int (.cons rfl opens_int (.cons rfl opens_bytes .nil))))
theorem opens_fl : Opens Try.prog 37 Rfl :=
  opens_flP.conv (fun a => ⟨a.1, a.2.1, a.2.2.1, a.2.2.2.1⟩) rfl
    (by
      rintro w S ⟨tm, fr, tg, bd, _⟩ cs ⟨_, _, h, ⟨rfl, h1⟩, _, _, rfl, ⟨rfl, h2⟩, _, _, rfl, ⟨rfl, h3⟩, _, _, rfl, ⟨A, cap, rfl, h4, h5, h6⟩, rfl⟩
      exact ⟨A, cap, h, h1, h2, h3, h4, h5, h6⟩)
    (by
      rintro K ⟨tm, fr, tg, bd, _⟩ ⟨_, _, _, ⟨h, _⟩, _⟩
      show bd.length ≤ K
      simpa using h)
theorem opens_fls : Opens Try.prog 22 (Rsl 48 Rfl) := Opens.slice Try.underlying22 (by kernel_rfl) (by kernel_rfl) (by decide) opens_fl
theorem arg_agg {P : Program} {w : World} {r : Reach} {b0 : Nat} {t : TypeId} {fs : Array Field} {v : Value} (ht : P.underlying t = some (.struct fs)) (h : Value.okWide P w r b0 t v) {l : List Value} (hc : v.cells.toList = l) : v = .agg l.toArray := by
  obtain ⟨cs, rfl, _⟩ := okWide_struct ht h
  subst hc
  simp [Value.cells]
theorem arg_sl {α : Type} {R : Rdr α} {P : Program} {t e : TypeId} {bytes : Nat} (ht : P.underlying t = some (.slice e)) (ho : Opens P t (Rsl bytes R)) {H : Type} {enc : TypeId × Value → H} {w : World} {r : Reach} {b0 : Nat} {v : Value} {d : DataW H} {ps : List MemPlace}
    (hv : Value.okWide P w r b0 t v) (h : DataW.Trod enc P w 0 (fun _ => true) true t v d ps) (hz : ∀ n ∈ d.weights P t, n ≤ reachBytes) :
    ∃ (A : Option Addr) (xs : List α) (n cap : Nat), v = .slice A n cap ∧ xs.length = n ∧ n ≤ cap ∧ cap ≤ maxLen ∧ Sl R w (lo w.heap.size) A xs ∧ n * bytes ≤ reachBytes ∧ ∀ x ∈ xs, R.fit reachBytes x := by
  obtain ⟨A, n, cap, rfl⟩ := okWide_slice ht hv
  obtain ⟨xs, ⟨A', cap', hc, hl, hm, hs⟩, hf⟩ := ho.arg h
  simp only [Value.cells, List.cons.injEq, and_true, Value.slice.injEq] at hc
  obtain ⟨rfl, rfl, rfl⟩ := hc
  obtain ⟨h1, h2⟩ := hf hz
  exact ⟨A, xs, _, cap, rfl, rfl, hl, hm, hs, h1, h2⟩
theorem reach_eq : reachBytes = 140737488351232 := rfl
theorem arg_bytes {H : Type} {enc : TypeId × Value → H} {w : World} {r : Reach} {b0 : Nat} {v : Value} {d : DataW H} {ps : List MemPlace} (hv : Value.okWide Try.prog w r b0 26 v) (h : DataW.Trod enc Try.prog w 0 (fun _ => true) true 26 v d ps) (hz : ∀ n ∈ d.weights Try.prog 26, n ≤ reachBytes) :
    ∃ (A : Option Addr) (xs : List Int) (n cap : Nat), v = .slice A n cap ∧ xs.length = n ∧ n ≤ cap ∧ cap ≤ maxLen ∧ Sl (Rint .u8) w (lo w.heap.size) A xs ∧ n * 1 ≤ reachBytes ∧ ∀ x ∈ xs, (Rint .u8).fit reachBytes x := arg_sl Try.underlying26 opens_bytes hv h hz
abbrev RntP := Rcons (Rsl 48 Rfl) (Rcons (Rsl 8 (Rint .i64)) Rnil)
theorem opens_ntP : Opens Try.prog 25 RntP := Opens.struct Try.underlying25 (by kernel_rfl) (.cons rfl opens_fls (.cons rfl opens_ints .nil))
/-- A net, as an argument. -/
structure NtArg (w : World) (A : Option Addr) (n c : Nat) (B : Option Addr) (m d : Nat) (x : Nt) : Prop where
  at_ : NtAt w (lo w.heap.size) A n B m x
  fit : NtFit x
  nc : n ≤ c
  cm : c ≤ maxLen
  md : m ≤ d
  dm : d ≤ maxLen
theorem NtArg.n64 {w : World} {A B : Option Addr} {n c m d : Nat} {x : Nt} (h : NtArg w A n c B m d x) : n ≤ 9223372036854775807 := maxLen_le (Nat.le_trans h.nc h.cm)
theorem NtArg.m64 {w : World} {A B : Option Addr} {n c m d : Nat} {x : Nt} (h : NtArg w A n c B m d x) : m ≤ 9223372036854775807 := maxLen_le (Nat.le_trans h.md h.dm)
theorem arg_nt {H : Type} {enc : TypeId × Value → H} {w : World} {r : Reach} {b0 : Nat} {v : Value} {d : DataW H} {ps : List MemPlace} (hv : Value.okWide Try.prog w r b0 25 v)
    (ht : DataW.Trod enc Try.prog w 0 (fun _ => true) true 25 v d ps) (hz : ∀ n ∈ d.weights Try.prog 25, n ≤ reachBytes) :
    ∃ (x : Nt) (A : Option Addr) (n c : Nat) (B : Option Addr) (m d : Nat), v = .agg #[.slice A n c, .slice B m d] ∧ NtArg w A n c B m d x := by
  obtain ⟨⟨ls, fs, _⟩, ⟨_, _, h, ⟨A, cap, rfl, a1, a2, a3⟩, _, _, rfl, ⟨B, cap', rfl, b1, b2, b3⟩, rfl⟩, hf⟩ := opens_ntP.arg ht
  obtain ⟨⟨f1, f2⟩, ⟨f3, f4⟩, _⟩ := hf hz
  rw [reach_eq] at f1 f2 f3 f4
  refine ⟨⟨ls, fs⟩, A, _, cap, B, _, cap', arg_agg Try.underlying25 hv h, ⟨⟨a3, rfl, b3, rfl⟩, ⟨?_, ?_, fun x hx => ?_⟩, a1, a2, b1, b2⟩⟩
  · have h9 : ls.length * 48 ≤ 140737488351232 := f1
    show (ls.length + 2) * 48 ≤ 140737488355328; omega
  · have h9 : fs.length * 8 ≤ 140737488351232 := f3
    show fs.length * 8 ≤ 140737488355328; omega
  · have h9 : x.body.length ≤ 140737488351232 := f2 x hx
    omega

/-! ### live -/
theorem sl_one {k : IntKind} (w : World) (t : TypeId) (v : Int) (hv : (Lit.int k v).wf = true) : Sl (Rint k) (w.alloc (.cells #[.int k v] t)) (lo (w.alloc (.cells #[.int k v] t)).heap.size) (some ⟨w.heap.size, 0, none⟩) [v] := by
  intro i x hx
  rcases i with _ | i
  · obtain rfl : v = x := by simpa using hx
    refine ⟨w.heap.size, 0, [.int k v], rfl, by simp [lo], ⟨rfl, hv⟩, fun j u hj => ?_⟩
    rcases j with _ | j
    · obtain rfl : Value.int k v = u := by simpa using hj
      exact (Blk.new w t #[.int k v] rfl).cell 0 rfl
    · simp at hj
  · simp at hx
theorem Sl.up1 {α : Type} {R : Rdr α} {w : World} {A : Option Addr} {xs : List α} (h : Sl R w (lo w.heap.size) A xs) (o : Obj) : Sl R (w.alloc o) (lo (w.alloc o).heap.size) A xs := h.below ((Below.refl _ _).alloc (Nat.le_refl _) _) (by simp)
theorem NtAt.up1 {w : World} {A B : Option Addr} {n m : Nat} {x : Nt} (h : NtAt w (lo w.heap.size) A n B m x) (o : Obj) : NtAt (w.alloc o) (lo (w.alloc o).heap.size) A n B m x := h.below ((Below.refl _ _).alloc (Nat.le_refl _) _) (by simp)
theorem sorted_short {xs : List Fl} (h : xs.length ≤ 1) : SortedK Fl.tm xs := by
  rcases xs with _ | ⟨x, _ | ⟨y, r⟩⟩
  · exact SortedK.nil
  · exact SortedK.one x
  · simp at h
/-- Due where no more than one flight is due. -/
theorem due_one (w : World) (x : Nt) (A : Option Addr) (n c : Nat) (B : Option Addr) (m d : Nat) (now : Int) (ho : NtAt w (lo w.heap.size) A n B m x) (hf : NtFit x) (hmd : m ≤ d) (hd : d ≤ maxLen) (ys : List Fl) (l : List Fl) (hK : dueL Fl.tm now x.list = ys) (hl : leftL Fl.tm now x.list = l) (h1 : ys.length ≤ 1) :
    Calls Try.prog 13 #[.agg #[.slice A n c, .slice B m d], .int .i64 now] w fun e w' => ∃ (A : Option Addr) (n c : Nat) (A2 : Option Addr) (n2 c2 : Nat) (B : Option Addr) (m d : Nat), e = .returned (.tuple #[.slice A n c, .agg #[.slice A2 n2 c2, .slice B m d]]) ∧
      ys.length = n ∧ Hid (Sl Rfl w' (lo w'.heap.size) A ys ∧ NtAt w' (lo w'.heap.size) A2 n2 B m ⟨l, x.fates⟩ ∧ m ≤ d ∧ d ≤ maxLen ∧ Below w.heap.size w w') := by
  refine (due_any w x A n c B m d now 1 ho hf hmd hd sortC_one (by rw [hK]; exact h1)).mono ?_
  rintro e w' ⟨A, n, c, A2, n2, c2, B, m, d, zs, rfl, hn, hs, h2, h3, h4, hnt, _, _, _, _, hmd, hd, hb⟩
  rw [hK] at h3 h4
  rw [hl] at hnt
  have e9 := sorted_unique h2 (sorted_short h1) h3.symm
  subst e9
  exact ⟨A, n, c, A2, n2, c2, B, m, d, rfl, hn, hs.more (fun b hb => hb.2), ⟨hnt.list.more (fun b hb => hb.2), hnt.listN, hnt.fates.more (fun b hb => hb.2), hnt.fatesN⟩, hmd, hd, hb⟩
theorem live_1 : sendN ⟨[], [18]⟩ 5 1 2 [7] = ⟨[⟨8, 1, 2, [7]⟩, ⟨9, 1, 2, [7]⟩], []⟩ := by simp [sendN, sendL, fateN, atN, wrap64]
theorem send_live (w : World) : Calls Try.prog 11 #[.agg #[.slice none 0 0, .slice (some ⟨w.heap.size, 0, none⟩) 1 1], .int .i64 5, .int .i64 1, .int .i64 2, .slice (some ⟨w.heap.size + 1, 0, none⟩) 1 1] ((w.alloc (.cells #[.int .i64 18] 3)).alloc (.cells #[.int .u8 7] 5)) fun e w' =>
    ∃ (A : Option Addr) (c : Nat) (B : Option Addr) (d : Nat), e = .returned (.agg #[.slice A 2 c, .slice B 0 d]) ∧ Hid (NtAt w' (lo w'.heap.size) A 2 B 0 ⟨[⟨8, 1, 2, [7]⟩, ⟨9, 1, 2, [7]⟩], []⟩ ∧ d ≤ maxLen ∧ Below w.heap.size w w') := by
  have h0 : Below w.heap.size w ((w.alloc (.cells #[.int .i64 18] 3)).alloc (.cells #[.int .u8 7] 5)) := ((Below.refl _ _).alloc (Nat.le_refl _) _).alloc (by simp) _
  have h1 := sl_one (k := .u8) (w.alloc (.cells #[.int .i64 18] 3)) 5 7 (by decide)
  have h2 : Sl (Rint .i64) ((w.alloc (.cells #[.int .i64 18] 3)).alloc (.cells #[.int .u8 7] 5)) (lo ((w.alloc (.cells #[.int .i64 18] 3)).alloc (.cells #[.int .u8 7] 5)).heap.size) (some ⟨w.heap.size, 0, none⟩) [18] := (sl_one (k := .i64) w 3 18 (by decide)).below ((Below.refl _ _).alloc (Nat.le_refl _) _) (by simp)
  rw [show (w.alloc (.cells #[.int .i64 18] 3)).heap.size = w.heap.size + 1 by simp] at h1
  generalize ((w.alloc (.cells #[.int .i64 18] 3)).alloc (.cells #[.int .u8 7] 5)) = W at *
  refine (send_any W ⟨[], [18]⟩ none 0 0 (some ⟨w.heap.size, 0, none⟩) 1 1 5 1 2 [7] (some ⟨w.heap.size + 1, 0, none⟩) 1 1 ⟨Sl.nil _ _ _ _, rfl, h2, rfl⟩ ⟨by simp, by simp, fun x hx => by simp at hx⟩ (by decide) (by decide) rfl h1 (by decide) (by decide) (by decide)).mono ?_
  rw [live_1]
  rintro e w3 ⟨A, n, c, B, m, d, rfl, ho, _, _, hmd, hd, hb3⟩
  obtain rfl : n = 2 := ho.listN.symm
  obtain rfl : m = 0 := ho.fatesN.symm
  exact ⟨A, c, B, d, rfl, ⟨ho.list.more (fun b hb => hb.2), rfl, ho.fates.more (fun b hb => hb.2), rfl⟩, hd, h0.trans (hb3.mono h0.size)⟩
set_option maxHeartbeats 4000000 in
set_option maxRecDepth 100000 in
theorem live_any (w : World) : Calls Try.prog 9 #[] w fun e w' => e = .returned (.bool true) ∧ Below w.heap.size w w' := by
  go_enter Try.func9, Try.ntmps9
  go_upto_region 2 with (go_at_call 11
                         go_loud (skip
                                  refine (send_live w).mono ?_
                                  rintro e w1 ⟨A1, c1, B1, d1, rfl, H1⟩
                                  have z1 := H1.out.2.2.size))
  have H1' := Lib.hid (And.intro (H1.out.1.up1 (.cells #[.slice A1 2 c1, .slice B1 0 d1] 25)) (H1.out.2.2.alloc z1 (.cells #[.slice A1 2 c1, .slice B1 0 d1] 25)))
  go_upto_region 3 with (go_at_call 13
                         go_loud (skip
                                  refine (due_one _ ⟨[⟨8, 1, 2, [7]⟩, ⟨9, 1, 2, [7]⟩], []⟩ A1 2 c1 B1 0 d1 8 H1'.out.1 ⟨by simp, by simp, fun x hx => by simp at hx; rcases hx with rfl | rfl <;> simp⟩ (Nat.zero_le _) H1.out.2.1 [⟨8, 1, 2, [7]⟩] [⟨9, 1, 2, [7]⟩] (by decide +kernel) (by decide +kernel) (by simp)).mono ?_
                                  rintro e w2 ⟨A2, n2, c2, A3, n3, c3, B3, m3, d3, rfl, hn2, H2⟩
                                  obtain rfl : n2 = 1 := hn2.symm
                                  obtain rfl : n3 = 1 := H2.out.2.1.listN.symm
                                  obtain rfl : m3 = 0 := H2.out.2.1.fatesN.symm
                                  have z2 := H2.out.2.2.2.2.size))
  have H2' := Lib.hid (And.intro (H2.out.2.1.up1 (.cells #[.slice A3 1 c3, .slice B3 0 d3] 25)) (And.intro (H2.out.1.up1 (.cells #[.slice A3 1 c3, .slice B3 0 d3] 25)) ((H1'.out.2.trans (H2.out.2.2.2.2.mono H1'.out.2.size)).alloc (H1'.out.2.trans (H2.out.2.2.2.2.mono H1'.out.2.size)).size (.cells #[.slice A3 1 c3, .slice B3 0 d3] 25))))
  go_upto_region 4 with (go_at_call 13
                         go_loud (skip
                                  refine (due_one _ ⟨[⟨9, 1, 2, [7]⟩], []⟩ A3 1 c3 B3 0 d3 9 H2'.out.1 ⟨by simp, by simp, fun x hx => by simp at hx; subst hx; simp⟩ (Nat.zero_le _) H2.out.2.2.2.1 [⟨9, 1, 2, [7]⟩] [] (by decide +kernel) (by decide +kernel) (by simp)).mono ?_
                                  rintro e w3 ⟨A4, n4, c4, A5, n5, c5, B5, m5, d5, rfl, hn4, H3⟩
                                  obtain rfl : n4 = 1 := hn4.symm
                                  obtain rfl : n5 = 0 := H3.out.2.1.listN.symm
                                  obtain rfl : m5 = 0 := H3.out.2.1.fatesN.symm
                                  have z3 := H3.out.2.2.2.2.size))
  have H3' := Lib.hid (And.intro (H3.out.1.up1 (.cells #[.slice A5 0 c5, .slice B5 0 d5] 25)) (And.intro (((H2'.out.2.1.below H3.out.2.2.2.2 H3.out.2.2.2.2.size)).up1 (.cells #[.slice A5 0 c5, .slice B5 0 d5] 25)) ((H2'.out.2.2.trans (H3.out.2.2.2.2.mono H2'.out.2.2.size)).alloc (H2'.out.2.2.trans (H3.out.2.2.2.2.mono H2'.out.2.2.size)).size (.cells #[.slice A5 0 c5, .slice B5 0 d5] 25))))
  generalize (w3.alloc (.cells #[.slice A5 0 c5, .slice B5 0 d5] 25)) = w4 at *
  obtain ⟨b5, off5, T5, n5, c5', rfl, hlb5, _, _, _, hn5, _, _, hts5, y0, y1, y2, y3⟩ := H3'.out.1.flight (i := 0) (x := ⟨9, 1, 2, [7]⟩) rfl
  obtain rfl : n5 = 1 := hn5.symm
  obtain ⟨b6, off6, T6, n6, c6', rfl, hlb6, _, _, _, hn6, _, _, hts6, x0, x1, x2, x3⟩ := H3'.out.2.1.flight (i := 0) (x := ⟨8, 1, 2, [7]⟩) rfl
  have g5 : b5 < w4.heap.size := hlb5
  have g6 : b6 < w4.heap.size := hlb6
  have HT := Lib.hid (And.intro hts5 hn5)
  simp only [Nat.add_zero, Nat.zero_mul] at x0 y0 y3
  clear hlb5 hlb6 hts5 hts6 hn5 hn6 y1 y2 x1 x2 x3
  have hss : ∀ (o : Obj), o = .cells #[.int .u8 7] 5 → Calls Try.prog 17 #[.slice T5 1 c5', .slice (some ⟨w4.heap.size, 0, none⟩) 1 1] (w4.alloc o) fun e w' => e = .returned (.bool true) ∧ w' = w4.alloc o := by
    rintro o rfl
    refine (same_any T5 [7] 1 c5' rfl _ [7] 1 1 rfl _ (HT.out.1.up1 _) (sl_one (k := .u8) w4 5 7 (by decide))).mono ?_
    rintro e w' ⟨rfl, rfl⟩
    exact ⟨rfl, rfl⟩
  have HSS := Lib.hid hss
  clear hss
  go_wp2_with (go_at_call 17; refine (HSS.out _ rfl).mono ?_; rintro e w' ⟨rfl, rfl⟩)
  go_ret
  exact ⟨rfl, H3'.out.2.2.alloc H3'.out.2.2.size _⟩
end Go.Proofs.Ytponbodiibkopaa
