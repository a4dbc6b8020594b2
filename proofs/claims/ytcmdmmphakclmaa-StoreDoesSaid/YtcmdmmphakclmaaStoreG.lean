/-
  Pop: a store's first letter for a client, taken out.
-/
import Derived.Test.YtcmdmmphakclmaaStoreF
namespace Go.Proofs.Ytcmdmmphakclmaa
open Go.RowKit Go.Sort
set_option linter.unusedVariables false
attribute [local go_sem ↓] Go.wp_at_zero Go.wp_at_succ

/-- What a clone is, when what it reads is said: its own row, and what the first one's elements lead to. -/
def ClonePostS {α : Type} (R : Rdr α) (xs : List α) (S : Nat → Prop) (w : World) (e : Ending) (w' : World) : Prop :=
  ∃ (A : Option Addr) (n cap : Nat), e = .returned (.slice A n cap) ∧ xs.length = n ∧ n ≤ cap ∧ cap ≤ maxLen ∧ Sl R w' (fun b => S b ∨ (w.heap.size ≤ b ∧ b < w'.heap.size)) A xs ∧ Below w.heap.size w w'
set_option maxHeartbeats 400000 in
theorem cloneL_s (A : Option Addr) (xs : List _) (n c : Nat) (hn : xs.length = n) (w : World) (S : Nat → Prop) (h : Sl Rlt w S A xs) (hS : ∀ b, S b → b < w.heap.size) (hz : n * 56 ≤ 140737488355328) :
    Calls Try.prog 28 #[.slice A n c] w (ClonePostS Rlt xs S w) := by
  obtain ⟨news, he, hc⟩ := h.inRow
  have HN := Lib.hid hn; clear hn
  have HSS := Lib.hid hS; clear hS
  have hnil := Lib.run_eql_slice_nil (P := Try.prog) w 23 34 A n c 0 0 Try.underlying23
  rcases A with _ | a
  · have h0 : xs = [] := by
      rcases xs with _ | ⟨x, r⟩
      · rfl
      · obtain ⟨_, _, _, hA, _⟩ := h 0 x rfl; cases hA
    go_enter Try.func28, Try.ntmps28
    go_wp2
    go_ret
    subst h0
    exact ⟨none, 0, 0, rfl, rfl, Nat.le_refl _, by simp, Sl.nil _ _ _ _, Below.refl _ _⟩
  · clear h
    go_enter Try.func28, Try.ntmps28
    go_wp2_with (at_builtin
                 refine wpList_append_own' _ rfl (.tmp 5) (.tmp 6) _ rfl ei_letters _ rfl (Own.empty Rlt S (Blk.new w _ #[] rfl) (Nat.le_refl _)) (fun b hb => ⟨Nat.lt_of_lt_of_le (HSS.out b hb) (by simp), by simp only [Value.ownBlock]; intro h; injection h with h; exact absurd (HSS.out b hb) (by simp [← h])⟩) (some a) n c rfl HN.out (hc.up ((Below.refl _ _).alloc (Nat.le_refl _) _)) (he.keep (fun p hp => World.cell?_alloc_lt w _ p (HSS.out _ hp)) fun _ h => h) (by simp; omega) (by simp [maxLen]; omega) (by simp) ?_
                 intro v1 w1 hown1 hg1 hat1
                 have hb1 : Below w.heap.size w w1 := ((Below.refl _ _).alloc (Nat.le_refl _) _).grown hg1 (by simp) (fun g hg => Nat.le_of_eq (Option.some.inj hg))
                 obtain ⟨A1, n1, c1, rfl, hn1, hl1, hm1, hs1⟩ := hown1.doneAt (S' := fun b => S b ∨ (w.heap.size ≤ b ∧ b < w1.heap.size)) (fun b hb => .inl hb) (fun g hg hl => .inr ⟨(hown1.lt hg).1, hl⟩)
                 have HN1 := Lib.hid hn1
                 clear hn1 hat1 hg1 hown1)
    go_ret
    exact ⟨A1, n1, c1, rfl, by simpa using HN1.out, hl1, hm1, by simpa using hs1, hb1⟩

theorem Sl.tail {α : Type} {R : Rdr α} {w : World} {S : Nat → Prop} {b off : Nat} {x : α} {xs : List α} (h : Sl R w S (some ⟨b, off, none⟩) (x :: xs)) : Sl R w S (some ⟨b, off + R.size, none⟩) xs := by
  intro i y hy
  obtain ⟨b', off', cs, hA, hb, hr, hc⟩ := h (i + 1) y (by simpa using hy)
  injection hA with hA; injection hA with h1 h2
  subst h1 h2
  refine ⟨b, _, cs, rfl, hb, hr, fun j v hj => ?_⟩
  have := hc j v hj
  rwa [Nat.add_mul, Nat.one_mul, show off + (i * R.size + R.size) + j = off + R.size + i * R.size + j by omega] at this

/-- The three blocks that Pop lays first. -/
def V3 (w : World) (s0 s1 : Value) : World := ((w.alloc (.cells #[s0, s1] 28)).alloc (.cells #[.slice none 0 0, .slice none 0 0] 28)).alloc (.cells #[.bool false, .int .i64 0, .int .i64 0, .int .u64 0, .slice none 0 0] 34)
theorem V3.size (w : World) (s0 s1 : Value) : (V3 w s0 s1).heap.size = w.heap.size + 3 := by simp [V3]
theorem V3.below (w : World) (s0 s1 : Value) : Below w.heap.size w (V3 w s0 s1) := (((Below.refl _ _).alloc (Nat.le_refl _) _).alloc (by simp) _).alloc (by simp; omega) _
theorem memV {w w1 : World} {s0 s1 : Value} (hb : Below (w.heap.size + 3) (V3 w s0 s1) w1) :
    Blk w1 w.heap.size 28 #[s0, s1] ∧ Blk w1 (w.heap.size + 1) 28 #[.slice none 0 0, .slice none 0 0] ∧ Blk w1 (w.heap.size + 2) 34 #[.bool false, .int .i64 0, .int .i64 0, .int .u64 0, .slice none 0 0] :=
  ⟨(((Blk.new _ _ _ rfl).alloc _).alloc _).below hb (by omega), ((Blk.new _ _ _ (by simp)).alloc _).below hb (by omega), (Blk.new _ _ _ (by simp)).below hb (by omega)⟩
def noLt : Lt := ⟨false, 0, 0, 0, []⟩
/-- A store, a letter, an error. -/
def PopRet (s : St) (l : Lt) (e : Int) (w : World) (en : Ending) (w' : World) : Prop :=
  ∃ A n cap B m cap' T tn tc, en = .returned (.tuple #[.agg #[.slice A n cap, .slice B m cap'], .agg #[.bool l.cover, .int .i64 l.fr, .int .i64 l.to, .int .u64 l.sq, .slice T tn tc], .int .i64 e]) ∧ StAt w' (mid w.heap.size w'.heap.size) A n B m s ∧ n ≤ cap ∧ cap ≤ maxLen ∧ m ≤ cap' ∧ cap' ≤ maxLen ∧
    l.text.length = tn ∧ tn ≤ tc ∧ tc ≤ maxLen ∧ Sl (Rint .u8) w' (lo w'.heap.size) T l.text ∧ Below w.heap.size w w'
set_option maxHeartbeats 1000000 in
theorem pop_bad (A : Option Addr) (n cap : Nat) (B : Option Addr) (m cap' : Nat) (s : St) (c : Int) (w : World) (hs : StAt w (lo w.heap.size) A n B m s) (hc : checkB s = false) :
    Calls Try.prog 20 #[.agg #[.slice A n cap, .slice B m cap'], .int .i64 c] w (PopRet noSt noLt 1 w) := by
  have HC := Lib.hid (show errArg (checkB s) = 1 by rw [hc]; rfl); clear hc
  have HS := Lib.hid (hs.below (V3.below w (.slice A n cap) (.slice B m cap')) (V3.below w (.slice A n cap) (.slice B m cap')).size); clear hs
  go_enter Try.func20, Try.ntmps20
  go_wp2_with (go_at_call 15
               go_loud (skip
                        refine (check_any A n cap B m cap' s _ HS.out).mono ?_; rintro e w1 ⟨rfl, hb1⟩; rw [HC.out]
                        have HBV := Lib.hid (show Below (w.heap.size + 3) (V3 w (.slice A n cap) (.slice B m cap')) w1 from (by have h9 := hb1; rw [← V3.size w (.slice A n cap) (.slice B m cap')]; exact h9))
                        obtain ⟨gS, gR, gL⟩ := memV HBV.out
                        have z1 : w.heap.size + 3 ≤ w1.heap.size := by (have h9 := HBV.out.size; rw [V3.size] at h9; omega)
                        have a0 := gS.cell 0 (v := .slice A n cap) rfl; have a1 := gS.cell 1 (v := .slice B m cap') rfl
                        have r0 := gR.cell 0 (v := .slice none 0 0) rfl; have r1 := gR.cell 1 (v := .slice none 0 0) rfl; have fR := gR.frozen
                        have r2 := gL.cell 0 (v := .bool false) rfl; have r3 := gL.cell 1 (v := .int .i64 0) rfl; have r4 := gL.cell 2 (v := .int .i64 0) rfl; have r5 := gL.cell 3 (v := .int .u64 0) rfl; have r6 := gL.cell 4 (v := .slice none 0 0) rfl; have fL := gL.frozen
                        have HB1 := Lib.hid ((V3.below w (.slice A n cap) (.slice B m cap')).trans (HBV.out.mono (by omega)))
                        have HM1 := Lib.hid (And.intro gS (And.intro gR gL))
                        clear gS gR gL hb1)
               )
  refine bodyPost_ret (v := .tuple #[.agg #[.slice none 0 0, .slice none 0 0], .agg #[.bool false, .int .i64 0, .int .i64 0, .int .u64 0, .slice none 0 0], .int .i64 1]) (by simp [results, Try.results20, go_sem, r0, r1, r2, r3, r4, r5, r6]) rfl ?_
  refine ⟨_, _, _, _, _, _, _, _, _, rfl, StAt.none _ _, by simp, by simp, by simp, by simp, rfl, by simp, by simp, Sl.nil _ _ _ _, ?_⟩
  exact ((((((HB1.out.setCell (by simp <;> omega) _).setCell (by simp <;> omega) _).setCell (by simp <;> omega) _).setCell (by simp <;> omega) _).setCell (by simp <;> omega) _).setCell (by simp <;> omega) _).setCell (by simp <;> omega) _
set_option maxHeartbeats 1000000 in
theorem pop_out1 (A : Option Addr) (n cap : Nat) (B : Option Addr) (m cap' : Nat) (s : St) (c : Int) (w : World) (hs : StAt w (lo w.heap.size) A n B m s) (hc : checkB s = true) (d1 : decide (c < 0) = true) :
    Calls Try.prog 20 #[.agg #[.slice A n cap, .slice B m cap'], .int .i64 c] w (PopRet noSt noLt 1 w) := by
  have HC := Lib.hid (show errArg (checkB s) = 0 by rw [hc]; rfl); clear hc
  have HS := Lib.hid (hs.below (V3.below w (.slice A n cap) (.slice B m cap')) (V3.below w (.slice A n cap) (.slice B m cap')).size); clear hs
  go_enter Try.func20, Try.ntmps20
  go_wp2_with (go_at_call 15
               go_loud (skip
                        refine (check_any A n cap B m cap' s _ HS.out).mono ?_; rintro e w1 ⟨rfl, hb1⟩; rw [HC.out]
                        have HBV := Lib.hid (show Below (w.heap.size + 3) (V3 w (.slice A n cap) (.slice B m cap')) w1 from (by have h9 := hb1; rw [← V3.size w (.slice A n cap) (.slice B m cap')]; exact h9))
                        obtain ⟨gS, gR, gL⟩ := memV HBV.out
                        have z1 : w.heap.size + 3 ≤ w1.heap.size := by (have h9 := HBV.out.size; rw [V3.size] at h9; omega)
                        have a0 := gS.cell 0 (v := .slice A n cap) rfl; have a1 := gS.cell 1 (v := .slice B m cap') rfl
                        have r0 := gR.cell 0 (v := .slice none 0 0) rfl; have r1 := gR.cell 1 (v := .slice none 0 0) rfl; have fR := gR.frozen
                        have r2 := gL.cell 0 (v := .bool false) rfl; have r3 := gL.cell 1 (v := .int .i64 0) rfl; have r4 := gL.cell 2 (v := .int .i64 0) rfl; have r5 := gL.cell 3 (v := .int .u64 0) rfl; have r6 := gL.cell 4 (v := .slice none 0 0) rfl; have fL := gL.frozen
                        have HB1 := Lib.hid ((V3.below w (.slice A n cap) (.slice B m cap')).trans (HBV.out.mono (by omega)))
                        have HM1 := Lib.hid (And.intro gS (And.intro gR gL))
                        clear gS gR gL hb1)
               )
  refine bodyPost_ret (v := .tuple #[.agg #[.slice none 0 0, .slice none 0 0], .agg #[.bool false, .int .i64 0, .int .i64 0, .int .u64 0, .slice none 0 0], .int .i64 1]) (by simp [results, Try.results20, go_sem, r0, r1, r2, r3, r4, r5, r6]) rfl ?_
  refine ⟨_, _, _, _, _, _, _, _, _, rfl, StAt.none _ _, by simp, by simp, by simp, by simp, rfl, by simp, by simp, Sl.nil _ _ _ _, ?_⟩
  exact ((((((HB1.out.setCell (by simp <;> omega) _).setCell (by simp <;> omega) _).setCell (by simp <;> omega) _).setCell (by simp <;> omega) _).setCell (by simp <;> omega) _).setCell (by simp <;> omega) _).setCell (by simp <;> omega) _
set_option maxHeartbeats 1000000 in
theorem pop_out2 (A : Option Addr) (n cap : Nat) (B : Option Addr) (m cap' : Nat) (s : St) (c : Nat) (w : World) (hs : StAt w (lo w.heap.size) A n B m s) (hc : checkB s = true) (d1 : decide (m ≤ c) = true) :
    Calls Try.prog 20 #[.agg #[.slice A n cap, .slice B m cap'], .int .i64 (c : Int)] w (PopRet noSt noLt 1 w) := by
  have HC := Lib.hid (show errArg (checkB s) = 0 by rw [hc]; rfl); clear hc
  have HS := Lib.hid (hs.below (V3.below w (.slice A n cap) (.slice B m cap')) (V3.below w (.slice A n cap) (.slice B m cap')).size); clear hs
  go_enter Try.func20, Try.ntmps20
  go_wp2_with (go_at_call 15
               go_loud (skip
                        refine (check_any A n cap B m cap' s _ HS.out).mono ?_; rintro e w1 ⟨rfl, hb1⟩; rw [HC.out]
                        have HBV := Lib.hid (show Below (w.heap.size + 3) (V3 w (.slice A n cap) (.slice B m cap')) w1 from (by have h9 := hb1; rw [← V3.size w (.slice A n cap) (.slice B m cap')]; exact h9))
                        obtain ⟨gS, gR, gL⟩ := memV HBV.out
                        have z1 : w.heap.size + 3 ≤ w1.heap.size := by (have h9 := HBV.out.size; rw [V3.size] at h9; omega)
                        have a0 := gS.cell 0 (v := .slice A n cap) rfl; have a1 := gS.cell 1 (v := .slice B m cap') rfl
                        have r0 := gR.cell 0 (v := .slice none 0 0) rfl; have r1 := gR.cell 1 (v := .slice none 0 0) rfl; have fR := gR.frozen
                        have r2 := gL.cell 0 (v := .bool false) rfl; have r3 := gL.cell 1 (v := .int .i64 0) rfl; have r4 := gL.cell 2 (v := .int .i64 0) rfl; have r5 := gL.cell 3 (v := .int .u64 0) rfl; have r6 := gL.cell 4 (v := .slice none 0 0) rfl; have fL := gL.frozen
                        have HB1 := Lib.hid ((V3.below w (.slice A n cap) (.slice B m cap')).trans (HBV.out.mono (by omega)))
                        have HM1 := Lib.hid (And.intro gS (And.intro gR gL))
                        clear gS gR gL hb1)
               )
  refine bodyPost_ret (v := .tuple #[.agg #[.slice none 0 0, .slice none 0 0], .agg #[.bool false, .int .i64 0, .int .i64 0, .int .u64 0, .slice none 0 0], .int .i64 1]) (by simp [results, Try.results20, go_sem, r0, r1, r2, r3, r4, r5, r6]) rfl ?_
  refine ⟨_, _, _, _, _, _, _, _, _, rfl, StAt.none _ _, by simp, by simp, by simp, by simp, rfl, by simp, by simp, Sl.nil _ _ _ _, ?_⟩
  exact ((((((HB1.out.setCell (by simp <;> omega) _).setCell (by simp <;> omega) _).setCell (by simp <;> omega) _).setCell (by simp <;> omega) _).setCell (by simp <;> omega) _).setCell (by simp <;> omega) _).setCell (by simp <;> omega) _
set_option maxHeartbeats 1000000 in
theorem pop_none (A : Option Addr) (n cap : Nat) (b off : Nat) (m cap' : Nat) (s : St) (c : Nat) (w : World) (hs : StAt w (lo w.heap.size) A n (some ⟨b, off, none⟩) m s) (hc : checkB s = true) (hcm : c < m) (d1 : decide (m ≤ c) = false) (T : Option Addr) (tc : Nat) (hbl : b < w.heap.size) (hx : w.cell? ⟨b, off + c, none⟩ = some (.slice T 0 tc)) :
    Calls Try.prog 20 #[.agg #[.slice A n cap, .slice (some ⟨b, off, none⟩) m cap'], .int .i64 (c : Int)] w (PopRet noSt noLt 6 w) := by
  have HC := Lib.hid (show errArg (checkB s) = 0 by rw [hc]; rfl); clear hc
  have HS := Lib.hid (hs.below (V3.below w (.slice A n cap) (.slice (some ⟨b, off, none⟩) m cap')) (V3.below w (.slice A n cap) (.slice (some ⟨b, off, none⟩) m cap')).size); clear hs
  go_enter Try.func20, Try.ntmps20
  go_wp2_with (go_at_call 15
               go_loud (skip
                        refine (check_any A n cap (some ⟨b, off, none⟩) m cap' s _ HS.out).mono ?_; rintro e w1 ⟨rfl, hb1⟩; rw [HC.out]
                        have HBV := Lib.hid (show Below (w.heap.size + 3) (V3 w (.slice A n cap) (.slice (some ⟨b, off, none⟩) m cap')) w1 from (by have h9 := hb1; rw [← V3.size w (.slice A n cap) (.slice (some ⟨b, off, none⟩) m cap')]; exact h9))
                        obtain ⟨gS, gR, gL⟩ := memV HBV.out
                        have z1 : w.heap.size + 3 ≤ w1.heap.size := by (have h9 := HBV.out.size; rw [V3.size] at h9; omega)
                        have a0 := gS.cell 0 (v := .slice A n cap) rfl; have a1 := gS.cell 1 (v := .slice (some ⟨b, off, none⟩) m cap') rfl
                        have r0 := gR.cell 0 (v := .slice none 0 0) rfl; have r1 := gR.cell 1 (v := .slice none 0 0) rfl; have fR := gR.frozen
                        have r2 := gL.cell 0 (v := .bool false) rfl; have r3 := gL.cell 1 (v := .int .i64 0) rfl; have r4 := gL.cell 2 (v := .int .i64 0) rfl; have r5 := gL.cell 3 (v := .int .u64 0) rfl; have r6 := gL.cell 4 (v := .slice none 0 0) rfl; have fL := gL.frozen
                        have HB1 := Lib.hid ((V3.below w (.slice A n cap) (.slice (some ⟨b, off, none⟩) m cap')).trans (HBV.out.mono (by omega)))
                        have HM1 := Lib.hid (And.intro gS (And.intro gR gL))
                        clear gS gR gL hb1)
               have x0 := (HB1.out.cell (p := ⟨b, off + c, none⟩) hbl).trans hx)
  refine bodyPost_ret (v := .tuple #[.agg #[.slice none 0 0, .slice none 0 0], .agg #[.bool false, .int .i64 0, .int .i64 0, .int .u64 0, .slice none 0 0], .int .i64 6]) (by simp [results, Try.results20, go_sem, r0, r1, r2, r3, r4, r5, r6]) rfl ?_
  refine ⟨_, _, _, _, _, _, _, _, _, rfl, StAt.none _ _, by simp, by simp, by simp, by simp, rfl, by simp, by simp, Sl.nil _ _ _ _, ?_⟩
  exact ((((((HB1.out.setCell (by simp <;> omega) _).setCell (by simp <;> omega) _).setCell (by simp <;> omega) _).setCell (by simp <;> omega) _).setCell (by simp <;> omega) _).setCell (by simp <;> omega) _).setCell (by simp <;> omega) _

theorem StAt.keep {w w' : World} {S S' : Nat → Prop} {A : Option Addr} {n : Nat} {B : Option Addr} {m : Nat} {s : St} (h : StAt w S A n B m s) (hk : ∀ p : Addr, S p.block → w'.cell? p = w.cell? p) (hs : ∀ b, S b → S' b) : StAt w' S' A n B m s :=
  ⟨h.last.keep hk hs, h.lastN, h.boxes.keep hk hs, h.boxesN⟩
theorem StAt.setc {w : World} {S : Nat → Prop} {A : Option Addr} {n : Nat} {B : Option Addr} {m : Nat} {s : St} (h : StAt w S A n B m s) {p : Addr} (hp : ¬ S p.block) (u : Value) : StAt (w.setCell p u) S A n B m s :=
  h.keep (fun q hq => World.cell?_setCell_other w p q u (fun e => hp (by subst e; exact hq))) fun _ h => h
theorem first_at {w : World} {S : Nat → Prop} {G : Nat} {l : Lt} {rest : List Lt} (h : Sl Rlt w S (some ⟨G, 0, none⟩) (l :: rest)) :
    ∃ (T : Option Addr) (tn tc : Nat), S G ∧ l.text.length = tn ∧ tn ≤ tc ∧ tc ≤ maxLen ∧ Sl (Rint .u8) w S T l.text ∧ w.cell? ⟨G, 0, none⟩ = some (.bool l.cover) ∧ w.cell? ⟨G, 1, none⟩ = some (.int .i64 l.fr) ∧ w.cell? ⟨G, 2, none⟩ = some (.int .i64 l.to) ∧ w.cell? ⟨G, 3, none⟩ = some (.int .u64 l.sq) ∧ w.cell? ⟨G, 4, none⟩ = some (.slice T tn tc) ∧ Sl Rlt w S (some ⟨G, 5, none⟩) rest := by
  have ht := h.tail
  obtain ⟨b, off, T, tn, tc, hA, hS, _, _, _, h1, h2, h3, h4, c0, c1, c2, c3, c4⟩ := h.letter (i := 0) rfl
  injection hA with hA; injection hA with e1 e2
  subst e1 e2
  exact ⟨T, tn, tc, hS, h1, h2, h3, h4, by simpa using c0, by simpa using c1, by simpa using c2, by simpa using c3, by simpa using c4, by simpa [Rlt] using ht⟩
def popIn (s : St) (c : Nat) (rest : List Lt) : St := { last := s.last, boxes := s.boxes.set c rest }
/-- The copy, with its first letter taken out. -/
theorem pop_done {w2 w5 W : World} {B1 h g c m n c2 n5 c5 : Nat} {A5 : Option Addr} {tu tb : TypeId} {s : St} {rest : List Lt} {SG : Nat → Prop} (q1 : Fill (Rint .u64) w2 NoS h tu c2 s.last) (q2 : Fill (Rfull 56 Rlt) w2 (fun b => B1 ≤ b ∧ b < w2.heap.size ∧ b ≠ g ∧ b ≠ h) g tb m s.boxes)
    (hb25 : Below w2.heap.size w2 w5) (hB1 : B1 ≤ W.heap.size) (hW2 : w2.heap.size ≤ W.heap.size) (hB1g : B1 ≤ g) (hB1h : B1 ≤ h) (hSG : ∀ b, SG b → B1 ≤ b ∧ b < w2.heap.size ∧ b ≠ g ∧ b ≠ h) (hs5 : Sl Rlt w5 (fun b => SG b ∨ (W.heap.size ≤ b ∧ b < w5.heap.size)) A5 rest) (hn5 : rest.length = n5) (hl5 : n5 ≤ c5) (hm5 : c5 ≤ maxLen)
    (hc : c < s.boxes.length) (hhg : h ≠ g) (hn : s.last.length = n) (hm : s.boxes.length = m) :
    StAt (w5.setCell ⟨g, c, none⟩ (.slice A5 n5 c5)) (fun b => B1 ≤ b ∧ b < w5.heap.size) (some ⟨h, 0, none⟩) n (some ⟨g, 0, none⟩) m (popIn s c rest) := by
  have hz := hb25.size
  have hgl := q2.lt
  have hhl := hLast_lt q1
  have a1 : Fill (Rint .u64) w5 NoS h tu c2 s.last := q1.up hb25 (fun _ h => h.elim) (fun _ h => h)
  have a2 := a1.far (p := ⟨g, c, none⟩) hhg (fun h => h) (.slice A5 n5 c5)
  have b1 : Fill (Rsl 56 Rlt) w5 (fun b => B1 ≤ b ∧ b < w5.heap.size ∧ b ≠ g ∧ b ≠ h) g tb m s.boxes :=
    ((q2.imp (Q := Rsl 56 Rlt) rfl (by rintro x cs ⟨G, rfl, hl, hs⟩; exact ⟨_, _, rfl, Nat.le_refl _, hl, hs⟩)).up hb25 (fun b h => h.2.1) (fun b h => ⟨h.1, by have := h.2.1; omega, h.2.2⟩))
  subst hn5
  have b2 := b1.put (i := c) hc (x := rest) (cs := [.slice A5 rest.length c5])
    ⟨A5, c5, rfl, hl5, hm5, hs5.more fun b hb => by
      rcases hb with hb | hb
      · have h9 := hSG b hb; exact ⟨h9.1, by have := h9.2.1; omega, h9.2.2⟩
      · exact ⟨by omega, hb.2, by omega, by omega⟩⟩ (fun h => h.2.2.1 rfl)
  rw [show c * (Rsl 56 Rlt).size = c from Nat.mul_one c] at b2
  refine ⟨?_, hn, b2.sl (fun b h => ⟨h.1, h.2.1⟩) ⟨hB1g, by omega⟩, by simp [popIn, List.length_set, hm]⟩
  exact Fill.sl (S := fun _ => False) a2 (fun _ h => h.elim) ⟨hB1h, by omega⟩
theorem pop_last {w W5 : World} {B1 K r1 r2 n m : Nat} {A B T : Option Addr} {s : St} {text : List Int} (hP : StAt W5 (fun b => B1 ≤ b ∧ b < K) A n B m s) (hT : Sl (Rint .u8) W5 (fun b => B1 ≤ b ∧ b < K) T text) (hb : Below w.heap.size w W5) (hK : W5.heap.size = K)
    (h1 : r1 < B1) (h2 : r2 < B1) (h3 : w.heap.size ≤ r1) (h4 : w.heap.size ≤ r2) (hB1 : w.heap.size ≤ B1) (u0 u1 u2 u3 u4 u5 u6 : Value) :
    StAt ((((((((W5.setCell ⟨r1, 0, none⟩ u0).setCell ⟨r1, 1, none⟩ u1).setCell ⟨r2, 0, none⟩ u2).setCell ⟨r2, 1, none⟩ u3).setCell ⟨r2, 2, none⟩ u4).setCell ⟨r2, 3, none⟩ u5).setCell ⟨r2, 4, none⟩ u6).drew)
      (mid w.heap.size ((((((((W5.setCell ⟨r1, 0, none⟩ u0).setCell ⟨r1, 1, none⟩ u1).setCell ⟨r2, 0, none⟩ u2).setCell ⟨r2, 1, none⟩ u3).setCell ⟨r2, 2, none⟩ u4).setCell ⟨r2, 3, none⟩ u5).setCell ⟨r2, 4, none⟩ u6).drew).heap.size) A n B m s ∧
    Sl (Rint .u8) ((((((((W5.setCell ⟨r1, 0, none⟩ u0).setCell ⟨r1, 1, none⟩ u1).setCell ⟨r2, 0, none⟩ u2).setCell ⟨r2, 1, none⟩ u3).setCell ⟨r2, 2, none⟩ u4).setCell ⟨r2, 3, none⟩ u5).setCell ⟨r2, 4, none⟩ u6).drew)
      (lo ((((((((W5.setCell ⟨r1, 0, none⟩ u0).setCell ⟨r1, 1, none⟩ u1).setCell ⟨r2, 0, none⟩ u2).setCell ⟨r2, 1, none⟩ u3).setCell ⟨r2, 2, none⟩ u4).setCell ⟨r2, 3, none⟩ u5).setCell ⟨r2, 4, none⟩ u6).drew).heap.size) T text ∧
    Below w.heap.size w ((((((((W5.setCell ⟨r1, 0, none⟩ u0).setCell ⟨r1, 1, none⟩ u1).setCell ⟨r2, 0, none⟩ u2).setCell ⟨r2, 1, none⟩ u3).setCell ⟨r2, 2, none⟩ u4).setCell ⟨r2, 3, none⟩ u5).setCell ⟨r2, 4, none⟩ u6).drew) := by
  have g1 : ¬ (B1 ≤ r1 ∧ r1 < K) := by omega
  have g2 : ¬ (B1 ≤ r2 ∧ r2 < K) := by omega
  have p := (((((((hP.setc (p := ⟨r1, 0, none⟩) g1 u0).setc (p := ⟨r1, 1, none⟩) g1 u1).setc (p := ⟨r2, 0, none⟩) g2 u2).setc (p := ⟨r2, 1, none⟩) g2 u3).setc (p := ⟨r2, 2, none⟩) g2 u4).setc (p := ⟨r2, 3, none⟩) g2 u5).setc (p := ⟨r2, 4, none⟩) g2 u6)
  have x := (((((((hT.set (p := ⟨r1, 0, none⟩) g1 u0).set (p := ⟨r1, 1, none⟩) g1 u1).set (p := ⟨r2, 0, none⟩) g2 u2).set (p := ⟨r2, 1, none⟩) g2 u3).set (p := ⟨r2, 2, none⟩) g2 u4).set (p := ⟨r2, 3, none⟩) g2 u5).set (p := ⟨r2, 4, none⟩) g2 u6)
  have y := (((((((hb.setCell (p := ⟨r1, 0, none⟩) h3 u0).setCell (p := ⟨r1, 1, none⟩) h3 u1).setCell (p := ⟨r2, 0, none⟩) h4 u2).setCell (p := ⟨r2, 1, none⟩) h4 u3).setCell (p := ⟨r2, 2, none⟩) h4 u4).setCell (p := ⟨r2, 3, none⟩) h4 u5).setCell (p := ⟨r2, 4, none⟩) h4 u6)
  generalize hw : ((((((W5.setCell ⟨r1, 0, none⟩ u0).setCell ⟨r1, 1, none⟩ u1).setCell ⟨r2, 0, none⟩ u2).setCell ⟨r2, 1, none⟩ u3).setCell ⟨r2, 2, none⟩ u4).setCell ⟨r2, 3, none⟩ u5).setCell ⟨r2, 4, none⟩ u6 = W at *
  have hz : W.heap.size = K := by rw [← hw]; simp [World.setCell, hK]
  exact ⟨p.keep (fun _ _ => rfl) (fun b hb => ⟨by have := hb.1; omega, by show b < W.heap.size; rw [hz]; exact hb.2⟩), x.keep (fun _ _ => rfl) (fun b hb => by show b < W.heap.size; rw [hz]; exact hb.2), y.drew⟩
set_option maxHeartbeats 2000000 in
theorem pop_ok (A : Option Addr) (n cap : Nat) (b off : Nat) (m cap' : Nat) (s : St) (c : Nat) (w : World) (hs : StAt w (lo w.heap.size) A n (some ⟨b, off, none⟩) m s) (hf : StFit 140737488355328 s) (hpos : 0 < s.last.length) (hc : checkB s = true) (hcm : c < m) (d1 : decide (m ≤ c) = false) (T : Option Addr) (q tc : Nat) (hbl : b < w.heap.size) (hx : w.cell? ⟨b, off + c, none⟩ = some (.slice T q tc))
    (l : Lt) (rest : List Lt) (hbox : s.boxes[c]? = some (l :: rest)) (hq : (l :: rest).length = q) (d2 : ((q : Int) == 0) = false) (hm8 : m ≤ 8) :
    Calls Try.prog 20 #[.agg #[.slice A n cap, .slice (some ⟨b, off, none⟩) m cap'], .int .i64 (c : Int)] w (PopRet (popIn s c rest) l 0 w) := by
  have HC := Lib.hid (show errArg (checkB s) = 0 by rw [hc]; rfl); clear hc
  have HQ1 := Lib.hid hq
  have hq1 : 1 ≤ q := by simp at hq; omega
  have hqm : q * 56 ≤ 140737488355328 := by have := hf.box _ (List.mem_of_getElem? hbox); omega
  have HBOX := Lib.hid hbox; clear hbox hq
  have HF := Lib.hid hf; have HP := Lib.hid hpos; clear hf hpos
  have e1 : (0 : Int) ≤ (c : Int) := by omega
  have e2 : (c : Int) < (m : Int) := by omega
  have e3 : (1 : Int) ≤ (q : Int) := by omega
  have HS := Lib.hid (hs.below (V3.below w (.slice A n cap) (.slice (some ⟨b, off, none⟩) m cap')) (V3.below w (.slice A n cap) (.slice (some ⟨b, off, none⟩) m cap')).size); clear hs
  go_enter Try.func20, Try.ntmps20
  go_wp2_with (first
    | (go_at_call 15
       go_loud (skip
                refine (check_any A n cap (some ⟨b, off, none⟩) m cap' s _ HS.out).mono ?_; rintro e w1 ⟨rfl, hb1⟩; rw [HC.out]
                have HBV := Lib.hid (show Below (w.heap.size + 3) (V3 w (.slice A n cap) (.slice (some ⟨b, off, none⟩) m cap')) w1 from (by have h9 := hb1; rw [← V3.size w (.slice A n cap) (.slice (some ⟨b, off, none⟩) m cap')]; exact h9))
                obtain ⟨gS, gR, gL⟩ := memV HBV.out
                have z1 : w.heap.size + 3 ≤ w1.heap.size := by (have h9 := HBV.out.size; rw [V3.size] at h9; omega)
                have a0 := gS.cell 0 (v := .slice A n cap) rfl; have a1 := gS.cell 1 (v := .slice (some ⟨b, off, none⟩) m cap') rfl
                have r0 := gR.cell 0 (v := .slice none 0 0) rfl; have r1 := gR.cell 1 (v := .slice none 0 0) rfl; have fR := gR.frozen
                have r2 := gL.cell 0 (v := .bool false) rfl; have r3 := gL.cell 1 (v := .int .i64 0) rfl; have r4 := gL.cell 2 (v := .int .i64 0) rfl; have r5 := gL.cell 3 (v := .int .u64 0) rfl; have r6 := gL.cell 4 (v := .slice none 0 0) rfl; have fL := gL.frozen
                have HB1 := Lib.hid ((V3.below w (.slice A n cap) (.slice (some ⟨b, off, none⟩) m cap')).trans (HBV.out.mono (by omega)))
                have HM1 := Lib.hid (And.intro gS (And.intro gR gL))
                clear gS gR gL hb1)
       have x0 := (HB1.out.cell (p := ⟨b, off + c, none⟩) hbl).trans hx)
    | (go_at_call 23
       go_loud (skip
                refine (copyOf_any A n cap (some ⟨b, off, none⟩) m cap' s w1 (HS.out.below (show Below _ _ w1 from by rw [V3.size]; exact HBV.out) (by rw [V3.size]; exact z1)) HF.out HP.out).mono ?_; rintro e w2 ⟨h, n2, c2, g, m2, rfl, hn2, hc2, hcm2, hm2, hmm, hH, hG, hhg, hLast, hBox, hb2⟩
                obtain rfl : n2 = n := hn2.symm.trans HS.out.lastN
                obtain rfl : m2 = m := hm2.symm.trans HS.out.boxesN
                obtain ⟨G, hGc, hGm, hGs⟩ := full_at hBox HBOX.out
                obtain ⟨T9, tn9, tc9, hGS, ht1, ht2, ht3, ht4, f0, f1, f2, f3, f4, hrest⟩ := first_at hGs
                rw [HQ1.out] at hGc
                have z2 : w.heap.size + 3 ≤ w2.heap.size := by (have := hb2.size; omega)
                have zG : G < w2.heap.size := hGS.2.1
                have zg : g < w2.heap.size := hBox.lt
                have fg := hBox.frozen
                have u0 := (HM1.out.2.1.below hb2 (by omega)).cell 0 (v := .slice none 0 0) rfl
                have u1 := (HM1.out.2.1.below hb2 (by omega)).cell 1 (v := .slice none 0 0) rfl
                have uR := (HM1.out.2.1.below hb2 (by omega)).frozen
                have HM2 := Lib.hid (HM1.out.2.2.below hb2 (by omega))
                have HX := Lib.hid (And.intro hn2 (And.intro hc2 (And.intro hcm2 (And.intro hm2 (And.intro hmm (And.intro hLast (And.intro hBox hb2)))))))
                have HQ := Lib.hid (And.intro hH (And.intro hG hhg))
                have HT := Lib.hid (And.intro ht1 (And.intro ht2 (And.intro ht3 (And.intro ht4 hrest))))
                clear hn2 hc2 hcm2 hm2 hmm hLast hBox hb2 hH hG hhg ht1 ht2 ht3 ht4 hrest hGs hGS hGm r0 r1 fR r2 r3 r4 r5 r6 fL a0 a1 x0)))
  have gN : Blk ((w2.alloc (.cells #[.slice (some ⟨h, 0, none⟩) n2 c2, .slice (some ⟨g, 0, none⟩) m2 m2] 28)).alloc (.cells #[.bool l.cover, .int .i64 l.fr, .int .i64 l.to, .int .u64 l.sq, .slice T9 tn9 tc9] 34)) w2.heap.size 28 #[.slice (some ⟨h, 0, none⟩) n2 c2, .slice (some ⟨g, 0, none⟩) m2 m2] := (Blk.new _ _ _ rfl).alloc _
  have gV : Blk ((w2.alloc (.cells #[.slice (some ⟨h, 0, none⟩) n2 c2, .slice (some ⟨g, 0, none⟩) m2 m2] 28)).alloc (.cells #[.bool l.cover, .int .i64 l.fr, .int .i64 l.to, .int .u64 l.sq, .slice T9 tn9 tc9] 34)) (w2.heap.size + 1) 34 #[.bool l.cover, .int .i64 l.fr, .int .i64 l.to, .int .u64 l.sq, .slice T9 tn9 tc9] := Blk.new _ _ _ (by simp)
  have hbW : Below w2.heap.size w2 ((w2.alloc (.cells #[.slice (some ⟨h, 0, none⟩) n2 c2, .slice (some ⟨g, 0, none⟩) m2 m2] 28)).alloc (.cells #[.bool l.cover, .int .i64 l.fr, .int .i64 l.to, .int .u64 l.sq, .slice T9 tn9 tc9] 34)) := ((Below.refl _ _).alloc (Nat.le_refl _) _).alloc (by simp) _
  have zW : ((w2.alloc (.cells #[.slice (some ⟨h, 0, none⟩) n2 c2, .slice (some ⟨g, 0, none⟩) m2 m2] 28)).alloc (.cells #[.bool l.cover, .int .i64 l.fr, .int .i64 l.to, .int .u64 l.sq, .slice T9 tn9 tc9] 34)).heap.size = w2.heap.size + 2 := by simp
  generalize (w2.alloc (.cells #[.slice (some ⟨h, 0, none⟩) n2 c2, .slice (some ⟨g, 0, none⟩) m2 m2] 28)).alloc (.cells #[.bool l.cover, .int .i64 l.fr, .int .i64 l.to, .int .u64 l.sq, .slice T9 tn9 tc9] 34) = W at *
  have n1 := gN.cell 1 (v := .slice (some ⟨g, 0, none⟩) m2 m2) rfl
  have hgc := (hbW.cell (p := ⟨g, c, none⟩) zg).trans hGc
  have HN := Lib.hid (And.intro gN gV)
  have HW := Lib.hid hbW
  obtain ⟨A0, hA0⟩ : ∃ A0 : Option Addr, (if q = 1 then some (⟨G, 0, none⟩ : Addr) else some ⟨G, 5, none⟩) = A0 := ⟨_, rfl⟩
  have HR := Lib.hid (show Sl Rlt W.drew (fun b => w1.heap.size ≤ b ∧ b < w2.heap.size ∧ b ≠ g ∧ b ≠ h) A0 rest from by
    rw [← hA0]
    split
    · rename_i hq9
      have h9 := HQ1.out
      obtain rfl : rest = [] := List.eq_nil_of_length_eq_zero (by simp at h9; omega)
      exact Sl.nil _ _ _ _
    · exact HT.out.2.2.2.2.keep (fun p hp => hbW.cell (p := p) hp.2.1) (fun _ h => h))
  have HQ2 := Lib.hid (show rest.length = q - 1 by (have h9 := HQ1.out; simp at h9; omega))
  have HZ := Lib.hid (show ∀ b, (w1.heap.size ≤ b ∧ b < w2.heap.size ∧ b ≠ g ∧ b ≠ h) → b < W.drew.heap.size from fun b hb => by have h9 := hb.2.1; simp [zW]; omega)
  clear gN gV hbW hGc f0 f1 f2 f3 f4
  refine wp_region_noPanic ?_
  refine wp_region_held_drew (S := (fun w' => w'.cell? ⟨w2.heap.size, 1, none⟩ = some (.slice (some ⟨g, 0, none⟩) m2 m2))) (by kernel_rfl) ?_ (fun hHeld0 => ?_)
  · (try dsimp only)
    (first | assumption | (go_keep; done) | (rw [World.cell?_setCell_other _ _ _ _ (by simp; try omega)]; assumption))
  refine wpAnyH_take (i := 0) (oi := _) (v := ?v1) rfl (by kernel_rfl) (by kernel_rfl) (by kernel_rfl) (fun _ _ _ h => h) (Or.inl ⟨by rfl, ?hy1⟩) (by assumption) ?rest1
  case hy1 => (intro w hSw; (try dsimp only at hSw); go_simp; try with_reducible rfl)
  try simp only [Act.put, List.setIfInBounds_toArray, List.set_cons_zero, List.set_cons_succ]
  refine wpAnyH_take (i := 1) (oi := _) (v := ?v2) rfl (by kernel_rfl) (by kernel_rfl) (by kernel_rfl) (fun _ _ _ h => h) (Or.inl ⟨by rfl, ?hy2⟩) (by assumption) ?rest2
  case hy2 => (intro w hSw; (try dsimp only at hSw); go_simp; try with_reducible rfl)
  try simp only [Act.put, List.setIfInBounds_toArray, List.set_cons_zero, List.set_cons_succ]
  refine wpAnyH_take (i := 2) (oi := _) (v := ?v3) rfl (by kernel_rfl) (by kernel_rfl) (by kernel_rfl) (fun _ _ _ h => h) (Or.inl ⟨by rfl, ?hy3⟩) (by assumption) ?rest3
  case hy3 => (intro w hSw; (try dsimp only at hSw); go_simp; try with_reducible rfl)
  try simp only [Act.put, List.setIfInBounds_toArray, List.set_cons_zero, List.set_cons_succ]
  refine wpAnyH_take (i := 3) (oi := _) (v := ?v4) rfl (by kernel_rfl) (by kernel_rfl) (by kernel_rfl) (fun _ _ _ h => h) (Or.inl ⟨by rfl, ?hy4⟩) (by assumption) ?rest4
  case hy4 => (intro w hSw; (try dsimp only at hSw); go_simp; try with_reducible rfl)
  try simp only [Act.put, List.setIfInBounds_toArray, List.set_cons_zero, List.set_cons_succ]
  refine wpAnyH_take (i := 4) (oi := _) (v := ?v5) rfl (by kernel_rfl) (by kernel_rfl) (by kernel_rfl) (fun _ _ _ h => h) (Or.inl ⟨by rfl, ?hy5⟩) (by assumption) ?rest5
  case hy5 => (intro w hSw; (try dsimp only at hSw); go_simp; try with_reducible rfl)
  try simp only [Act.put, List.setIfInBounds_toArray, List.set_cons_zero, List.set_cons_succ]
  refine wpAnyH_take (i := 5) (oi := _) (v := ?v6) rfl (by kernel_rfl) (by kernel_rfl) (by kernel_rfl) (fun _ _ _ h => h) (Or.inl ⟨by rfl, ?hy6⟩) (by assumption) ?rest6
  case hy6 => (intro w hSw; (try dsimp only at hSw); go_simp; try with_reducible rfl)
  try simp only [Act.put, List.setIfInBounds_toArray, List.set_cons_zero, List.set_cons_succ]
  refine wpAnyH_take (i := 6) (oi := _) (v := ?v7) rfl (by kernel_rfl) (by kernel_rfl) (by kernel_rfl) (fun _ _ _ h => h) (Or.inl ⟨by rfl, ?hy7⟩) (by assumption) ?rest7
  case hy7 => (intro w hSw; (try dsimp only at hSw); go_simp; try with_reducible rfl)
  try simp only [Act.put, List.setIfInBounds_toArray, List.set_cons_zero, List.set_cons_succ]
  refine wpAnyH_ready (rs := [7]) (by kernel_rfl) (by simp) ?_
  refine (AllReadyH.cons (o := _) rfl (fun K hK => ?_) AllReadyH.nil)
  go_simp
  refine hK.out _ _ ?_ (fun hHeld8 => ?_)
  · (try dsimp only)
    (first | assumption | (go_keep; done) | (rw [World.cell?_setCell_other _ _ _ _ (by simp; try omega)]; assumption))
  clear hK K hHeld0
  try simp only [Act.put, List.setIfInBounds_toArray, List.set_cons_zero, List.set_cons_succ]
  refine wpAnyH_take (i := 8) (oi := _) (v := ?v9) rfl (by kernel_rfl) (by kernel_rfl) (by kernel_rfl) (fun _ _ _ h => h) (Or.inl ⟨by rfl, ?hy9⟩) (by assumption) ?rest9
  case hy9 => (intro w hSw; (try dsimp only at hSw); go_simp; try with_reducible rfl)
  try simp only [Act.put, List.setIfInBounds_toArray, List.set_cons_zero, List.set_cons_succ]
  refine wpAnyH_ready (rs := [9]) (by kernel_rfl) (by simp) ?_
  refine (AllReadyH.cons (o := _) rfl (fun K hK => ?_) AllReadyH.nil)
  go_simp
  refine (cloneL_s A0 rest (q - 1) (q - 1) HQ2.out W.drew (fun b => w1.heap.size ≤ b ∧ b < w2.heap.size ∧ b ≠ g ∧ b ≠ h) HR.out HZ.out (by omega)).mono ?_
  rintro e w5 ⟨A5, n5, c5, rfl, hn5, hl5, hm5, hs5, hb5⟩
  have y0 : w2.heap.size + 2 ≤ w5.heap.size := by (have h9 := hb5.size; simp [zW] at h9; omega)
  have y1 : w2.heap.size + 1 < w5.heap.size := by omega
  have y2 : w2.heap.size < w5.heap.size := by omega
  have y3 : g < w5.heap.size := by omega
  have k0 := ((HN.out.1.below (Below.refl W.heap.size W).drew (by simp [zW])).below hb5 (by simp [zW])).cell 0 (v := .slice (some ⟨h, 0, none⟩) n2 c2) rfl
  have k1 := ((HN.out.1.below (Below.refl W.heap.size W).drew (by simp [zW])).below hb5 (by simp [zW])).cell 1 (v := .slice (some ⟨g, 0, none⟩) m2 m2) rfl
  have HV5 := Lib.hid ((HN.out.2.below (Below.refl W.heap.size W).drew (by simp [zW])).below hb5 (by simp [zW]))
  have kg := (hb5.cell (p := ⟨g, c, none⟩) (by simp [zW]; omega)).trans hgc
  have kf : ∀ o, w5.frozen? ⟨g, o, none⟩ = false := fun o => (hb5.frozen (p := ⟨g, o, none⟩) (by simp [zW]; omega)).trans ((HW.out.frozen (p := ⟨g, o, none⟩) zg).trans (fg o))
  have HB5 := Lib.hid hb5; have HS5 := Lib.hid hs5; have HN5 := Lib.hid (And.intro hn5 (And.intro hl5 hm5))
  clear hb5 hs5 hn5 hl5 hm5
  try dsimp only
  refine hK.out _ _ ?_ (fun hHeld10 => ?_)
  · (try dsimp only)
    (first | assumption | (go_keep; done) | (rw [World.cell?_setCell_other _ _ _ _ (by simp; try omega)]; assumption))
  clear hK K hHeld8
  try simp only [Act.put, List.setIfInBounds_toArray, List.set_cons_zero, List.set_cons_succ]
  refine wpAnyH_take (i := 10) (oi := _) (v := ?v11) rfl (by kernel_rfl) (by kernel_rfl) (by kernel_rfl) (fun _ _ _ h => h) (Or.inl ⟨by rfl, ?hy11⟩) (by assumption) ?rest11
  case hy11 => (intro w hSw; (try dsimp only at hSw); go_simp; try with_reducible rfl)
  try simp only [Act.put, List.setIfInBounds_toArray, List.set_cons_zero, List.set_cons_succ]
  refine wpAnyH_ready (rs := [11]) (by kernel_rfl) (by simp) ?_
  refine (AllReadyH.cons (o := _) rfl (fun K hK => ?_) AllReadyH.nil)
  go_simp
  refine hK.out _ _ ?_ (fun hHeld12 => ?_)
  · (try dsimp only)
    (first | assumption | (go_keep; done) | (rw [World.cell?_setCell_other _ _ _ _ (by simp; try omega)]; assumption))
  clear hK K hHeld10
  try simp only [Act.put, List.setIfInBounds_toArray, List.set_cons_zero, List.set_cons_succ]
  refine wpAnyH_done (by kernel_rfl) ?_ _
  refine NoPanic.normal ?_
  clear hHeld12
  have hb25 : Below w2.heap.size w2 w5 := HW.out.trans (((Below.refl W.heap.size W).drew.trans HB5.out).mono (by omega))
  have y5 : g ≠ w2.heap.size := by omega
  have y6 : g ≠ w2.heap.size + 1 := by omega
  have y7 : g ≠ w.heap.size + 1 := by (have h9 := HQ.out.2.1; omega)
  have y8 : g ≠ w.heap.size + 2 := by (have h9 := HQ.out.2.1; omega)
  have gR5 : Blk (w5.setCell ⟨g, c, none⟩ (.slice A5 n5 c5)) (w.heap.size + 1) 28 #[.slice none 0 0, .slice none 0 0] := ((HM1.out.2.1.below HX.out.2.2.2.2.2.2.2 (by omega)).below hb25 (by omega)).far (fun e => y7 e.symm) _
  have gL5 : Blk (w5.setCell ⟨g, c, none⟩ (.slice A5 n5 c5)) (w.heap.size + 2) 34 #[.bool false, .int .i64 0, .int .i64 0, .int .u64 0, .slice none 0 0] := (HM2.out.below hb25 (by omega)).far (fun e => y8 e.symm) _
  have gN5 : Blk (w5.setCell ⟨g, c, none⟩ (.slice A5 n5 c5)) w2.heap.size 28 #[.slice (some ⟨h, 0, none⟩) n2 c2, .slice (some ⟨g, 0, none⟩) m2 m2] := ((HN.out.1.below (Below.refl W.heap.size W).drew (by simp [zW])).below HB5.out (by simp [zW])).far (fun e => y5 e.symm) _
  have gV5 : Blk (w5.setCell ⟨g, c, none⟩ (.slice A5 n5 c5)) (w2.heap.size + 1) 34 #[.bool l.cover, .int .i64 l.fr, .int .i64 l.to, .int .u64 l.sq, .slice T9 tn9 tc9] := HV5.out.far (fun e => y6 e.symm) _
  have H25 := Lib.hid hb25
  have z5 : (w5.setCell ⟨g, c, none⟩ (.slice A5 n5 c5)).heap.size = w5.heap.size := by simp [World.setCell]
  have HPD := Lib.hid (pop_done (W := W) HX.out.2.2.2.2.2.1 HX.out.2.2.2.2.2.2.1 hb25 (by have h9 := HX.out.2.2.2.2.2.2.2.size; omega) (by omega) HQ.out.2.1 HQ.out.1 (fun b hb => hb) HS5.out HN5.out.1 HN5.out.2.1 HN5.out.2.2 (List.getElem?_eq_some_iff.1 HBOX.out).1 HQ.out.2.2 HX.out.1 HX.out.2.2.2.1)
  have HTX := Lib.hid (show Sl (Rint .u8) (w5.setCell ⟨g, c, none⟩ (.slice A5 n5 c5)) (fun b => w1.heap.size ≤ b ∧ b < w5.heap.size) T9 l.text from
    HT.out.2.2.2.1.keep (fun p hp => (World.cell?_setCell_other _ _ _ _ (fun e => by subst e; exact hp.2.2.1 rfl)).trans (hb25.cell hp.2.1)) (fun b hb => ⟨hb.1, by have := hb.2.1; omega⟩))
  have HBB := Lib.hid (show Below w.heap.size w (w5.setCell ⟨g, c, none⟩ (.slice A5 n5 c5)) from (HB1.out.trans ((HX.out.2.2.2.2.2.2.2.mono (by omega)).trans (hb25.mono (by omega)))).setCell (by have h9 := HQ.out.2.1; simp; omega) _)
  generalize w5.setCell ⟨g, c, none⟩ (.slice A5 n5 c5) = W5 at *
  clear hb25 k0 k1 kg kf n1 hgc u0 u1 uR fg hA0
  have n0 := gN5.cell 0 (v := .slice (some ⟨h, 0, none⟩) n2 c2) rfl; have n1 := gN5.cell 1 (v := .slice (some ⟨g, 0, none⟩) m2 m2) rfl
  have v0 := gV5.cell 0 (v := .bool l.cover) rfl; have v1 := gV5.cell 1 (v := .int .i64 l.fr) rfl; have v2 := gV5.cell 2 (v := .int .i64 l.to) rfl; have v3 := gV5.cell 3 (v := .int .u64 l.sq) rfl; have v4 := gV5.cell 4 (v := .slice T9 tn9 tc9) rfl
  have r0 := gR5.cell 0 (v := .slice none 0 0) rfl; have r1 := gR5.cell 1 (v := .slice none 0 0) rfl; have fR := gR5.frozen
  have r2 := gL5.cell 0 (v := .bool false) rfl; have r3 := gL5.cell 1 (v := .int .i64 0) rfl; have r4 := gL5.cell 2 (v := .int .i64 0) rfl; have r5 := gL5.cell 3 (v := .int .u64 0) rfl; have r6 := gL5.cell 4 (v := .slice none 0 0) rfl; have fL := gL5.frozen
  have y9 : w2.heap.size ≠ w.heap.size + 1 := by omega
  have y10 : w2.heap.size ≠ w.heap.size + 2 := by omega
  have y11 : w2.heap.size + 1 ≠ w.heap.size + 1 := by omega
  have y12 : w2.heap.size + 1 ≠ w.heap.size + 2 := by omega
  clear gN5 gV5 gR5 gL5
  go_wp2
  go_region
  all_goals go_wp2
  all_goals refine bodyPost_ret (v := .tuple #[.agg #[.slice (some ⟨h, 0, none⟩) n2 c2, .slice (some ⟨g, 0, none⟩) m2 m2], .agg #[.bool l.cover, .int .i64 l.fr, .int .i64 l.to, .int .u64 l.sq, .slice T9 tn9 tc9], .int .i64 0]) (by simp [results, Try.results20, go_sem, r0, r1, r2, r3, r4, r5, r6]) rfl ?_
  have HZ := pop_last (r1 := w.heap.size + 1) (r2 := w.heap.size + 1 + 1) HPD.out HTX.out HBB.out z5 (by omega) (by omega) (by omega) (by omega) (by omega) (.slice (some ⟨h, 0, none⟩) n2 c2) (.slice (some ⟨g, 0, none⟩) m2 m2) (.bool l.cover) (.int .i64 l.fr) (.int .i64 l.to) (.int .u64 l.sq) (.slice T9 tn9 tc9)
  exact ⟨_, _, _, _, _, _, _, _, _, rfl, HZ.1, HX.out.2.1, HX.out.2.2.1, Nat.le_refl _, HX.out.2.2.2.2.1, HT.out.1, HT.out.2.1, HT.out.2.2.1, HZ.2.1, HZ.2.2⟩
end Go.Proofs.Ytcmdmmphakclmaa
