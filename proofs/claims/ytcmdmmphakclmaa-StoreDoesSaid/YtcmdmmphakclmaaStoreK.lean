/-
  StoreTwice: the plain law, the walk.
-/
import Derived.Test.YtcmdmmphakclmaaStoreJ
namespace Go.Proofs.Ytcmdmmphakclmaa
open Go.RowKit Go.Sort
set_option linter.unusedVariables false

/-! ### plain -/
theorem putS_cases (s : St) (l : Lt) : (putS s l = (s, 0)) ∨ (putS s l = (s, 1)) ∨
    (keepLt l = true ∧ l.fr < s.last.length ∧ l.to < s.last.length ∧ lastOf s l.fr < l.sq ∧ l.sq - lastOf s l.fr = 1 ∧ putS s l = (putIn s l, 1)) := by
  unfold putS
  split
  · rename_i h
    split
    · exact .inr (.inl rfl)
    · rename_i h1
      split
      · rename_i h2
        exact .inr (.inr ⟨h.1, h.2.1, h.2.2, by omega, h2, rfl⟩)
      · exact .inl rfl
  · exact .inl rfl
theorem boxOf_mem {s : St} {i : Int} (h0 : 0 ≤ i) (h : i < s.boxes.length) : boxOf s i ∈ s.boxes := by
  unfold boxOf; rw [List.getD_eq_getElem?_getD, List.getElem?_eq_getElem (show i.toNat < s.boxes.length by omega)]; exact List.getElem_mem _
theorem check_putIn {s : St} {l : Lt} (hc : checkB s = true) (hk : keepLt l = true) (h1 : l.fr < s.last.length) (h2 : l.to < s.last.length) : checkB (putIn s l) = true := by
  obtain ⟨hp1, hp8, hpm⟩ := check_lens hc
  obtain ⟨_, h3, _, h4, _⟩ := keep_bounds hk
  unfold checkB at hc ⊢
  simp only [Bool.and_eq_true, decide_eq_true_eq, List.all_eq_true] at hc ⊢
  refine ⟨by simp [putIn]; omega, fun b hb => ?_⟩
  rcases List.mem_or_eq_of_mem_set hb with hb | rfl
  · exact hc.2 b hb
  · have := hc.2 _ (boxOf_mem h4 (by omega))
    unfold boxOk at this ⊢
    rw [List.all_append, this]
    simp [hk]
theorem lastOf_putIn {s : St} {l : Lt} (h0 : 0 ≤ l.fr) (h1 : l.fr < s.last.length) : lastOf (putIn s l) l.fr = l.sq := by
  simp [lastOf, putIn, List.getD_eq_getElem?_getD, show l.fr.toNat < s.last.length by omega]
theorem twice_pure {s : St} (hc : checkB s = true) (l : Lt) : ∃ a c, putR s l = (a, c, 0) ∧ putR a l = (a, c, 0) ∧ (c = 1 ∨ a = s) ∧ checkB a = true := by
  have e : putR s l = ((putS s l).1, (putS s l).2, 0) := by unfold putR; rw [if_pos hc]
  rcases putS_cases s l with h | h | ⟨h1, h2, h3, h4, h5, h6⟩
  · rw [h] at e; exact ⟨s, 0, e, e, .inr rfl, hc⟩
  · rw [h] at e; exact ⟨s, 1, e, e, .inl rfl, hc⟩
  · rw [h6] at e
    have hc2 := check_putIn hc h1 h2 h3
    obtain ⟨_, h7, _, h8, _⟩ := keep_bounds h1
    refine ⟨putIn s l, 1, e, ?_, .inl rfl, hc2⟩
    have e2 : putR (putIn s l) l = ((putS (putIn s l) l).1, (putS (putIn s l) l).2, 0) := by unfold putR; rw [if_pos hc2]
    have e3 : putS (putIn s l) l = (putIn s l, 1) := by
      unfold putS
      rw [if_pos ⟨h1, by simpa [putIn] using h2, by simpa [putIn] using h3⟩, lastOf_putIn h7 h2, if_pos (Int.le_refl _)]
    rw [e2, e3]

/-! ### the walk -/
theorem memL {w w1 : World} {s0 s1 l0 l1 l2 l3 l4 : Value} {B : Nat} (hb : Below B ((w.alloc (.cells #[s0, s1] 28)).alloc (.cells #[l0, l1, l2, l3, l4] 34)) w1) (hB : w.heap.size + 2 ≤ B) :
    Blk w1 w.heap.size 28 #[s0, s1] ∧ Blk w1 (w.heap.size + 1) 34 #[l0, l1, l2, l3, l4] :=
  ⟨((Blk.new _ _ _ rfl).alloc _).below hb (by omega), (Blk.new _ _ _ (by simp)).below hb (by omega)⟩
/-- The world behind a call, and the two arguments' variables in it. -/
def LawMem (w W : World) (s0 s1 l0 l1 l2 l3 l4 : Value) : Prop :=
  Blk W w.heap.size 28 #[s0, s1] ∧ Blk W (w.heap.size + 1) 34 #[l0, l1, l2, l3, l4] ∧ Below w.heap.size w W ∧ w.heap.size + 2 ≤ W.heap.size
theorem LawMem.start (w : World) (s0 s1 l0 l1 l2 l3 l4 : Value) : LawMem w ((w.alloc (.cells #[s0, s1] 28)).alloc (.cells #[l0, l1, l2, l3, l4] 34)) s0 s1 l0 l1 l2 l3 l4 :=
  ⟨(Blk.new _ _ _ rfl).alloc _, Blk.new _ _ _ (by simp), ((Below.refl _ _).alloc (Nat.le_refl _) _).alloc (by simp) _, by simp⟩
theorem LawMem.up {w W W' : World} {s0 s1 l0 l1 l2 l3 l4 : Value} (h : LawMem w W s0 s1 l0 l1 l2 l3 l4) (hb : Below W.heap.size W W') : LawMem w W' s0 s1 l0 l1 l2 l3 l4 := by
  obtain ⟨h1, h2, h3, h4⟩ := h
  exact ⟨h1.below hb (by omega), h2.below hb (by omega), h3.trans (hb.mono (by omega)), Nat.le_trans h4 hb.size⟩
theorem LawMem.alloc {w W : World} {s0 s1 l0 l1 l2 l3 l4 : Value} (h : LawMem w W s0 s1 l0 l1 l2 l3 l4) (o : Obj) : LawMem w (W.alloc o) s0 s1 l0 l1 l2 l3 l4 := h.up ((Below.refl _ _).alloc (Nat.le_refl _) _)
theorem LawMem.cells {w W : World} {s0 s1 l0 l1 l2 l3 l4 : Value} (h : LawMem w W s0 s1 l0 l1 l2 l3 l4) :
    W.cell? ⟨w.heap.size, 0, none⟩ = some s0 ∧ W.cell? ⟨w.heap.size, 1, none⟩ = some s1 ∧ W.cell? ⟨w.heap.size + 1, 0, none⟩ = some l0 ∧ W.cell? ⟨w.heap.size + 1, 1, none⟩ = some l1 ∧ W.cell? ⟨w.heap.size + 1, 2, none⟩ = some l2 ∧ W.cell? ⟨w.heap.size + 1, 3, none⟩ = some l3 ∧ W.cell? ⟨w.heap.size + 1, 4, none⟩ = some l4 ∧
      w.heap.size < W.heap.size ∧ w.heap.size + 1 < W.heap.size := by
  obtain ⟨h1, h2, h3, h4⟩ := h
  exact ⟨h1.cell 0 rfl, h1.cell 1 rfl, h2.cell 0 rfl, h2.cell 1 rfl, h2.cell 2 rfl, h2.cell 3 rfl, h2.cell 4 rfl, by omega, by omega⟩
set_option maxHeartbeats 2000000 in
theorem twice_walk (A : Option Addr) (n cap : Nat) (B : Option Addr) (m cap' : Nat) (s : St) (l : Lt) (T : Option Addr) (tn tc : Nat) (w : World) (hs : StArg w A n cap B m cap' s) (hl : LtAt w (lo w.heap.size) T tn tc l) (htl : l.text.length ≤ 140737488351232) :
    Calls Try.prog 4 #[.agg #[.slice A n cap, .slice B m cap'], .agg #[.bool l.cover, .int .i64 l.fr, .int .i64 l.to, .int .u64 l.sq, .slice T tn tc]] w fun e w' => e = .returned (.bool true) ∧ Below w.heap.size w w' := by
  have HS := Lib.hid hs; have HL := Lib.hid hl; have HT := Lib.hid htl; clear hs hl htl
  go_enter Try.func4, Try.ntmps4
  go_upto_region 5 with (first
    | (go_at_call 9
       go_loud (skip
                refine (live_any _).mono ?_
                rintro e w1 ⟨rfl, hb1⟩
                have HM1 := Lib.hid ((LawMem.start w (.slice A n cap) (.slice B m cap') (.bool l.cover) (.int .i64 l.fr) (.int .i64 l.to) (.int .u64 l.sq) (.slice T tn tc)).up hb1)
                obtain ⟨a0, a1, b0, b1, b2, b3, b4, z0, z1⟩ := HM1.out.cells
                clear hb1))
    | (go_at_call 14
       go_loud (skip
                refine (few_any A n cap B m cap' s _ (HS.out.at_.below HM1.out.2.2.1 HM1.out.2.2.1.size) HS.out.m64).mono ?_
                rintro e w2 ⟨⟨few, rfl⟩, hb2⟩
                have HM2 := Lib.hid (HM1.out.up hb2)
                clear a0 a1 b0 b1 b2 b3 b4 z0 z1
                obtain ⟨a0, a1, b0, b1, b2, b3, b4, z0, z1⟩ := HM2.out.cells
                clear hb2 HM1))
    )
  · go_ret
    exact ⟨rfl, HM2.out.2.2.1⟩
  · go_ret
    exact ⟨rfl, HM2.out.2.2.1⟩
  · by_cases hc : checkB s = true
    · obtain ⟨a, c, e1, e2, e3, hca⟩ := twice_pure hc l
      have HC := Lib.hid (And.intro e1 e2); clear e1 e2
      go_upto_region 8 with (go_at_call 11
                             go_loud (skip
                                      refine (put_any A n cap B m cap' s l T tn tc w2 (HS.out.at_.below HM2.out.2.2.1 HM2.out.2.2.1.size) (HS.out.fit.mono (by omega)) (HL.out.below HM2.out.2.2.1 HM2.out.2.2.1.size)).mono ?_
                                      have hfit := Lib.hid (HS.out.fit.putR (l := l) (by have := HT.out; omega))
                                      rw [HC.out.1] at hfit ⊢
                                      rintro e w3 ⟨A1, n1, cap1, B1, m1, cap1', rfl, hst1, hc1, hc2, hc3, hc4, hb3⟩
                                      have HM3 := Lib.hid (HM2.out.up hb3)
                                      clear a0 a1 b0 b1 b2 b3 b4 z0 z1
                                      obtain ⟨a0, a1, b0, b1, b2, b3, b4, z0, z1⟩ := HM3.out.cells
                                      have HA1 := Lib.hid hst1.lo
                                      have HN1 := Lib.hid (And.intro (maxLen_le (Nat.le_trans hc1 hc2)) (maxLen_le (Nat.le_trans hc3 hc4)))
                                      clear hst1 hc1 hc2 hc3 hc4 hb3))
      go_upto_region 9 with (go_at_call 11
                             go_loud (skip
                                      refine (put_any A1 n1 cap1 B1 m1 cap1' a l T tn tc _ (HA1.out.below ((Below.refl _ _).alloc (Nat.le_refl _) _) (by simp)) (hfit.out.mono (by omega)) (HL.out.below (HM3.out.alloc _).2.2.1 (HM3.out.alloc _).2.2.1.size)).mono ?_
                                      rw [HC.out.2]
                                      rintro e w5 ⟨A2, n2, cap2, B2, m2, cap2', rfl, hst2, hd1, hd2, hd3, hd4, hb5⟩
                                      have gA := ((Blk.new w3 28 #[.slice A1 n1 cap1, .slice B1 m1 cap1'] rfl).below hb5 (by simp))
                                      have x0 := gA.cell 0 (v := .slice A1 n1 cap1) rfl; have x1 := gA.cell 1 (v := .slice B1 m1 cap1') rfl
                                      have z5 : w3.heap.size < w5.heap.size := gA.lt
                                      have HGA := Lib.hid gA
                                      have HM5 := Lib.hid ((HM3.out.alloc _).up hb5)
                                      clear a0 a1 b0 b1 b2 b3 b4 z0 z1
                                      obtain ⟨a0, a1, b0, b1, b2, b3, b4, z0, z1⟩ := HM5.out.cells
                                      have HA2 := Lib.hid (And.intro (HA1.out.below (B1 := w5.heap.size) (((Below.refl _ _).alloc (Nat.le_refl _) _).trans (hb5.mono (by simp))) (by omega)) hst2.lo)
                                      clear hst2 hd1 hd2 hd3 hd4 hb5 gA))
      by_cases hc1 : c = 1
      · subst hc1
        go_wp2_with (go_at_call 16
                     go_loud (skip
                              refine (same13_any A1 n1 cap1 B1 m1 cap1' a A2 n2 cap2 B2 m2 cap2' a _ (HA2.out.1.below ((Below.refl _ _).alloc (Nat.le_refl _) _) (by simp)) (HA2.out.2.below ((Below.refl _ _).alloc (Nat.le_refl _) _) (by simp)) HN1.out.1 HN1.out.2).mono ?_
                              rw [sameSt_iff.2 rfl]
                              rintro e w7 ⟨rfl, hb7⟩))
        go_ret
        exact ⟨rfl, ((HM5.out.alloc _).up hb7).2.2.1⟩
      · obtain rfl : a = s := e3.resolve_left hc1
        have d9 : (c == 1) = false := by simpa using hc1
        have FLAG : True := trivial
        go_wp2_with (first
          | (go_at_call 16
             clear FLAG
             refine (same13_any A1 n1 cap1 B1 m1 cap1' a A2 n2 cap2 B2 m2 cap2' a _ (HA2.out.1.below ((Below.refl _ _).alloc (Nat.le_refl _) _) (by simp)) (HA2.out.2.below ((Below.refl _ _).alloc (Nat.le_refl _) _) (by simp)) HN1.out.1 HN1.out.2).mono ?_
             rw [sameSt_iff.2 rfl]
             rintro e w7 ⟨rfl, hb7⟩
             have HM7 := Lib.hid ((HM5.out.alloc _).up hb7)
             have y0 := ((HGA.out.alloc _).below hb7 (by simp; omega)).cell 0 (v := .slice A1 n1 cap1) rfl
             have y1 := ((HGA.out.alloc _).below hb7 (by simp; omega)).cell 1 (v := .slice B1 m1 cap1') rfl
             have HA7 := Lib.hid (HA2.out.1.below (B1 := w7.heap.size) (((Below.refl _ _).alloc (Nat.le_refl _) _).trans (hb7.mono (by simp))) (by have h9 := hb7.size; simp at h9; omega))
             clear a0 a1 b0 b1 b2 b3 b4 z0 z1 hb7
             obtain ⟨a0, a1, b0, b1, b2, b3, b4, z0, z1⟩ := HM7.out.cells)
          | (go_at_call 16
             refine (same13_any A1 n1 cap1 B1 m1 cap1' a A n cap B m cap' a w7 HA7.out (HS.out.at_.below HM7.out.2.2.1 HM7.out.2.2.1.size) HN1.out.1 HN1.out.2).mono ?_
             rw [sameSt_iff.2 rfl]
             rintro e w8 ⟨rfl, hb8⟩))
        go_ret
        exact ⟨rfl, (HM7.out.up hb8).2.2.1⟩
    · have e1 : putR s l = (noSt, 0, 1) := by unfold putR; rw [if_neg hc]
      have e2 : errArg (checkB s) = 1 := by rw [Bool.eq_false_iff.2 hc]; rfl
      have HC := Lib.hid (And.intro e1 e2); clear e1 e2
      go_wp2_with (first
        | (go_at_call 11
           go_loud (skip
                    refine (put_any A n cap B m cap' s l T tn tc w2 (HS.out.at_.below HM2.out.2.2.1 HM2.out.2.2.1.size) (HS.out.fit.mono (by omega)) (HL.out.below HM2.out.2.2.1 HM2.out.2.2.1.size)).mono ?_
                    rw [HC.out.1]
                    rintro e w3 ⟨A1, n1, cap1, B1, m1, cap1', rfl, hst1, hc1, hc2, hc3, hc4, hb3⟩
                    have HM3 := Lib.hid (HM2.out.up hb3)
                    clear a0 a1 b0 b1 b2 b3 b4 z0 z1
                    obtain ⟨a0, a1, b0, b1, b2, b3, b4, z0, z1⟩ := HM3.out.cells
                    have HA1 := Lib.hid hst1.lo
                    have HN1 := Lib.hid (And.intro (maxLen_le (Nat.le_trans hc1 hc2)) (maxLen_le (Nat.le_trans hc3 hc4)))
                    clear hst1 hc1 hc2 hc3 hc4 hb3))
        | (go_at_call 15
           go_loud (skip
                    refine (check_any A n cap B m cap' s _ (HS.out.at_.below (HM3.out.alloc _).2.2.1 (HM3.out.alloc _).2.2.1.size)).mono ?_
                    rw [HC.out.2]
                    rintro e w5 ⟨rfl, hb5⟩
                    have gA := ((Blk.new w3 28 #[.slice A1 n1 cap1, .slice B1 m1 cap1'] rfl).below hb5 (by simp))
                    have x0 := gA.cell 0 (v := .slice A1 n1 cap1) rfl; have x1 := gA.cell 1 (v := .slice B1 m1 cap1') rfl
                    have HM5 := Lib.hid ((HM3.out.alloc _).up hb5)
                    have HA5 := Lib.hid (HA1.out.below (B1 := w5.heap.size) (((Below.refl _ _).alloc (Nat.le_refl _) _).trans (hb5.mono (by simp))) (by have h9 := hb5.size; simp at h9; omega))
                    clear hb5 gA))
        | (go_at_call 16
           go_loud (skip
                    refine (same13_any A1 n1 cap1 B1 m1 cap1' noSt none 0 0 none 0 0 noSt w5 HA5.out (StAt.none _ _) HN1.out.1 HN1.out.2).mono ?_
                    rw [sameSt_iff.2 rfl]
                    rintro e w7 ⟨rfl, hb7⟩)))
      go_ret
      exact ⟨rfl, (HM5.out.up hb7).2.2.1⟩
end Go.Proofs.Ytcmdmmphakclmaa
