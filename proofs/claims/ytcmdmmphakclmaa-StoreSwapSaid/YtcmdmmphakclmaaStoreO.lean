/-
  StoreSwap: the walk.
-/
import Derived.Test.YtcmdmmphakclmaaSwapA
namespace Go.Proofs.Ytcmdmmphakclmaa
open Go.RowKit Go.Sort
set_option linter.unusedVariables false

/-- The three arguments' variables. -/
def LawMem3 (w W : World) (s0 s1 l0 l1 l2 l3 l4 k0 k1 k2 k3 k4 : Value) : Prop :=
  Blk W w.heap.size 28 #[s0, s1] ∧ Blk W (w.heap.size + 1) 34 #[l0, l1, l2, l3, l4] ∧ Blk W (w.heap.size + 2) 34 #[k0, k1, k2, k3, k4] ∧ Below w.heap.size w W ∧ w.heap.size + 3 ≤ W.heap.size
theorem LawMem3.start (w : World) (s0 s1 l0 l1 l2 l3 l4 k0 k1 k2 k3 k4 : Value) : LawMem3 w (((w.alloc (.cells #[s0, s1] 28)).alloc (.cells #[l0, l1, l2, l3, l4] 34)).alloc (.cells #[k0, k1, k2, k3, k4] 34)) s0 s1 l0 l1 l2 l3 l4 k0 k1 k2 k3 k4 :=
  ⟨((Blk.new _ _ _ rfl).alloc _).alloc _, (Blk.new _ _ _ (by simp)).alloc _, Blk.new _ _ _ (by simp), (((Below.refl _ _).alloc (Nat.le_refl _) _).alloc (by simp) _).alloc (by simp; omega) _, by simp⟩
theorem LawMem3.up {w W W' : World} {s0 s1 l0 l1 l2 l3 l4 k0 k1 k2 k3 k4 : Value} (h : LawMem3 w W s0 s1 l0 l1 l2 l3 l4 k0 k1 k2 k3 k4) (hb : Below W.heap.size W W') : LawMem3 w W' s0 s1 l0 l1 l2 l3 l4 k0 k1 k2 k3 k4 := by
  obtain ⟨h1, h2, h3, h4, h5⟩ := h
  exact ⟨h1.below hb (by omega), h2.below hb (by omega), h3.below hb (by omega), h4.trans (hb.mono (by omega)), Nat.le_trans h5 hb.size⟩
theorem LawMem3.alloc {w W : World} {s0 s1 l0 l1 l2 l3 l4 k0 k1 k2 k3 k4 : Value} (h : LawMem3 w W s0 s1 l0 l1 l2 l3 l4 k0 k1 k2 k3 k4) (o : Obj) : LawMem3 w (W.alloc o) s0 s1 l0 l1 l2 l3 l4 k0 k1 k2 k3 k4 := h.up ((Below.refl _ _).alloc (Nat.le_refl _) _)
theorem LawMem3.setc {w W : World} {s0 s1 l0 l1 l2 l3 l4 k0 k1 k2 k3 k4 : Value} (h : LawMem3 w W s0 s1 l0 l1 l2 l3 l4 k0 k1 k2 k3 k4) {p : Addr} (hp : w.heap.size + 3 ≤ p.block) (u : Value) : LawMem3 w (W.setCell p u) s0 s1 l0 l1 l2 l3 l4 k0 k1 k2 k3 k4 := by
  obtain ⟨h1, h2, h3, h4, h5⟩ := h
  exact ⟨h1.far (by omega) u, h2.far (by omega) u, h3.far (by omega) u, h4.setCell (by omega) u, by simpa [World.setCell] using h5⟩
theorem LawMem3.cells {w W : World} {s0 s1 l0 l1 l2 l3 l4 k0 k1 k2 k3 k4 : Value} (h : LawMem3 w W s0 s1 l0 l1 l2 l3 l4 k0 k1 k2 k3 k4) :
    W.cell? ⟨w.heap.size, 0, none⟩ = some s0 ∧ W.cell? ⟨w.heap.size, 1, none⟩ = some s1 ∧ W.cell? ⟨w.heap.size + 1, 0, none⟩ = some l0 ∧ W.cell? ⟨w.heap.size + 1, 1, none⟩ = some l1 ∧ W.cell? ⟨w.heap.size + 1, 2, none⟩ = some l2 ∧ W.cell? ⟨w.heap.size + 1, 3, none⟩ = some l3 ∧ W.cell? ⟨w.heap.size + 1, 4, none⟩ = some l4 ∧
    W.cell? ⟨w.heap.size + 2, 0, none⟩ = some k0 ∧ W.cell? ⟨w.heap.size + 2, 1, none⟩ = some k1 ∧ W.cell? ⟨w.heap.size + 2, 2, none⟩ = some k2 ∧ W.cell? ⟨w.heap.size + 2, 3, none⟩ = some k3 ∧ W.cell? ⟨w.heap.size + 2, 4, none⟩ = some k4 ∧
      w.heap.size < W.heap.size ∧ w.heap.size + 1 < W.heap.size ∧ w.heap.size + 2 < W.heap.size ∧ w.heap.size + 1 + 1 < W.heap.size := by
  obtain ⟨h1, h2, h3, h4, h5⟩ := h
  exact ⟨h1.cell 0 rfl, h1.cell 1 rfl, h2.cell 0 rfl, h2.cell 1 rfl, h2.cell 2 rfl, h2.cell 3 rfl, h2.cell 4 rfl, h3.cell 0 rfl, h3.cell 1 rfl, h3.cell 2 rfl, h3.cell 3 rfl, h3.cell 4 rfl, by omega, by omega, by omega, by omega⟩
set_option maxRecDepth 100000 in
set_option maxHeartbeats 2000000 in
theorem swap_early (A : Option Addr) (n cap : Nat) (B : Option Addr) (m cap' : Nat) (s : St) (l : Lt) (T : Option Addr) (tn tc : Nat) (l' : Lt) (T' : Option Addr) (tn' tc' : Nat) (w : World) (hs : StArg w A n cap B m cap' s) (hc : ¬ (checkB s = true)) :
    Calls Try.prog 6 #[.agg #[.slice A n cap, .slice B m cap'], .agg #[.bool l.cover, .int .i64 l.fr, .int .i64 l.to, .int .u64 l.sq, .slice T tn tc], .agg #[.bool l'.cover, .int .i64 l'.fr, .int .i64 l'.to, .int .u64 l'.sq, .slice T' tn' tc']] w
      fun e w' => e = .returned (.bool true) ∧ Below w.heap.size w w' := by
  have HC := Lib.hid (show errArg (checkB s) = 1 by rw [Bool.eq_false_iff.2 hc]; rfl); have HS := Lib.hid hs; clear hc hs
  go_enter Try.func6, Try.ntmps6
  go_wp2_with (first
    | (go_at_call 9
       go_loud (skip
                refine (live_any _).mono ?_
                rintro e w1 ⟨rfl, hb1⟩
                have HM1 := Lib.hid ((LawMem3.start w (.slice A n cap) (.slice B m cap') (.bool l.cover) (.int .i64 l.fr) (.int .i64 l.to) (.int .u64 l.sq) (.slice T tn tc) (.bool l'.cover) (.int .i64 l'.fr) (.int .i64 l'.to) (.int .u64 l'.sq) (.slice T' tn' tc')).up hb1)
                obtain ⟨a0, a1, b0, b1, b2, b3, b4, c0, c1, c2, c3, c4, z0, z1, z2, z3⟩ := HM1.out.cells
                clear hb1))
    | (go_at_call 14
       go_loud (skip
                refine (few_any A n cap B m cap' s _ (HS.out.at_.below HM1.out.2.2.2.1 HM1.out.2.2.2.1.size) HS.out.m64).mono ?_
                rintro e w2 ⟨⟨few, rfl⟩, hb2⟩
                have HM2 := Lib.hid (HM1.out.up hb2)
                clear a0 a1 b0 b1 b2 b3 b4 c0 c1 c2 c3 c4 z0 z1 z2 z3
                obtain ⟨a0, a1, b0, b1, b2, b3, b4, c0, c1, c2, c3, c4, z0, z1, z2, z3⟩ := HM2.out.cells
                clear hb2))
    | (go_at_call 15
       go_loud (skip
                refine (check_any A n cap B m cap' s _ (HS.out.at_.below HM2.out.2.2.2.1 HM2.out.2.2.2.1.size)).mono ?_
                rw [HC.out]
                rintro e w3 ⟨rfl, hb3⟩
                have HM3 := Lib.hid (HM2.out.up hb3)
                clear a0 a1 b0 b1 b2 b3 b4 c0 c1 c2 c3 c4 z0 z1 z2 z3
                obtain ⟨a0, a1, b0, b1, b2, b3, b4, c0, c1, c2, c3, c4, z0, z1, z2, z3⟩ := HM3.out.cells
                clear hb3))
    )
  all_goals go_ret
  all_goals first | exact ⟨rfl, HM3.out.2.2.2.1⟩ | exact ⟨rfl, HM2.out.2.2.2.1⟩
set_option maxRecDepth 100000 in
set_option maxHeartbeats 2000000 in
theorem swap_one (A : Option Addr) (n cap : Nat) (B : Option Addr) (m cap' : Nat) (s : St) (l : Lt) (T : Option Addr) (tn tc : Nat) (l' : Lt) (T' : Option Addr) (tn' tc' : Nat) (w : World) (hs : StArg w A n cap B m cap' s) (hc : checkB s = true) (d1 : (l.fr == l'.fr) = true) :
    Calls Try.prog 6 #[.agg #[.slice A n cap, .slice B m cap'], .agg #[.bool l.cover, .int .i64 l.fr, .int .i64 l.to, .int .u64 l.sq, .slice T tn tc], .agg #[.bool l'.cover, .int .i64 l'.fr, .int .i64 l'.to, .int .u64 l'.sq, .slice T' tn' tc']] w
      fun e w' => e = .returned (.bool true) ∧ Below w.heap.size w w' := by
  have HC := Lib.hid (show errArg (checkB s) = 0 by rw [hc]; rfl); have HS := Lib.hid hs; clear hc hs
  go_enter Try.func6, Try.ntmps6
  go_wp2_with (first
    | (go_at_call 9
       go_loud (skip
                refine (live_any _).mono ?_
                rintro e w1 ⟨rfl, hb1⟩
                have HM1 := Lib.hid ((LawMem3.start w (.slice A n cap) (.slice B m cap') (.bool l.cover) (.int .i64 l.fr) (.int .i64 l.to) (.int .u64 l.sq) (.slice T tn tc) (.bool l'.cover) (.int .i64 l'.fr) (.int .i64 l'.to) (.int .u64 l'.sq) (.slice T' tn' tc')).up hb1)
                obtain ⟨a0, a1, b0, b1, b2, b3, b4, c0, c1, c2, c3, c4, z0, z1, z2, z3⟩ := HM1.out.cells
                clear hb1))
    | (go_at_call 14
       go_loud (skip
                refine (few_any A n cap B m cap' s _ (HS.out.at_.below HM1.out.2.2.2.1 HM1.out.2.2.2.1.size) HS.out.m64).mono ?_
                rintro e w2 ⟨⟨few, rfl⟩, hb2⟩
                have HM2 := Lib.hid (HM1.out.up hb2)
                clear a0 a1 b0 b1 b2 b3 b4 c0 c1 c2 c3 c4 z0 z1 z2 z3
                obtain ⟨a0, a1, b0, b1, b2, b3, b4, c0, c1, c2, c3, c4, z0, z1, z2, z3⟩ := HM2.out.cells
                clear hb2))
    | (go_at_call 15
       go_loud (skip
                refine (check_any A n cap B m cap' s _ (HS.out.at_.below HM2.out.2.2.2.1 HM2.out.2.2.2.1.size)).mono ?_
                rw [HC.out]
                rintro e w3 ⟨rfl, hb3⟩
                have HM3 := Lib.hid (HM2.out.up hb3)
                clear a0 a1 b0 b1 b2 b3 b4 c0 c1 c2 c3 c4 z0 z1 z2 z3
                obtain ⟨a0, a1, b0, b1, b2, b3, b4, c0, c1, c2, c3, c4, z0, z1, z2, z3⟩ := HM3.out.cells
                clear hb3))
    )
  all_goals go_ret
  all_goals first | exact ⟨rfl, HM3.out.2.2.2.1⟩ | exact ⟨rfl, HM2.out.2.2.2.1⟩
set_option maxRecDepth 100000 in
set_option maxHeartbeats 4000000 in
theorem swap_main (A : Option Addr) (n cap : Nat) (B : Option Addr) (m cap' : Nat) (s : St) (l : Lt) (T : Option Addr) (tn tc : Nat) (l' : Lt) (T' : Option Addr) (tn' tc' : Nat) (w : World) (hs : StArg w A n cap B m cap' s) (hc : checkB s = true) (h : l.fr ≠ l'.fr)
    (hl : LtAt w (lo w.heap.size) T tn tc l) (htl : l.text.length ≤ 140737488351232) (hl' : LtAt w (lo w.heap.size) T' tn' tc' l') (htl' : l'.text.length ≤ 140737488351232) :
    Calls Try.prog 6 #[.agg #[.slice A n cap, .slice B m cap'], .agg #[.bool l.cover, .int .i64 l.fr, .int .i64 l.to, .int .u64 l.sq, .slice T tn tc], .agg #[.bool l'.cover, .int .i64 l'.fr, .int .i64 l'.to, .int .u64 l'.sq, .slice T' tn' tc']] w
      fun e w' => e = .returned (.bool true) ∧ Below w.heap.size w w' := by
  obtain ⟨s1, p, s2, q, t1, t2, e1, e2, e3, e4, e5⟩ := swap_pure hc h
  have d1 : (l.fr == l'.fr) = false := by simpa using h
  have HP := Lib.hid (And.intro e1 (And.intro e2 (And.intro e3 (And.intro e4 e5))))
  have HC := Lib.hid (show errArg (checkB s) = 0 by rw [hc]; rfl); have HS := Lib.hid hs
  have HL := Lib.hid hl; have HL' := Lib.hid hl'; have HTL := Lib.hid (And.intro htl htl')
  clear hc hs hl hl' e1 e2 e3 e4 e5 h htl htl'
  go_enter Try.func6, Try.ntmps6
  go_upto_region 5 with (first
    | (go_at_call 9
       go_loud (skip
                refine (live_any _).mono ?_
                rintro e w1 ⟨rfl, hb1⟩
                have HM1 := Lib.hid ((LawMem3.start w (.slice A n cap) (.slice B m cap') (.bool l.cover) (.int .i64 l.fr) (.int .i64 l.to) (.int .u64 l.sq) (.slice T tn tc) (.bool l'.cover) (.int .i64 l'.fr) (.int .i64 l'.to) (.int .u64 l'.sq) (.slice T' tn' tc')).up hb1)
                obtain ⟨a0, a1, b0, b1, b2, b3, b4, c0, c1, c2, c3, c4, z0, z1, z2, z3⟩ := HM1.out.cells
                clear hb1))
    | (go_at_call 14
       go_loud (skip
                refine (few_any A n cap B m cap' s _ (HS.out.at_.below HM1.out.2.2.2.1 HM1.out.2.2.2.1.size) HS.out.m64).mono ?_
                rintro e w2 ⟨⟨few, rfl⟩, hb2⟩
                have HM2 := Lib.hid (HM1.out.up hb2)
                clear a0 a1 b0 b1 b2 b3 b4 c0 c1 c2 c3 c4 z0 z1 z2 z3
                obtain ⟨a0, a1, b0, b1, b2, b3, b4, c0, c1, c2, c3, c4, z0, z1, z2, z3⟩ := HM2.out.cells
                clear hb2))
    | (go_at_call 15
       go_loud (skip
                refine (check_any A n cap B m cap' s _ (HS.out.at_.below HM2.out.2.2.2.1 HM2.out.2.2.2.1.size)).mono ?_
                rw [HC.out]
                rintro e w3 ⟨rfl, hb3⟩
                have HM3 := Lib.hid (HM2.out.up hb3)
                clear a0 a1 b0 b1 b2 b3 b4 c0 c1 c2 c3 c4 z0 z1 z2 z3
                obtain ⟨a0, a1, b0, b1, b2, b3, b4, c0, c1, c2, c3, c4, z0, z1, z2, z3⟩ := HM3.out.cells
                clear hb3))
    )
  all_goals (try (go_ret; first | exact ⟨rfl, HM3.out.2.2.2.1⟩ | exact ⟨rfl, HM2.out.2.2.2.1⟩))
  go_upto_region 6 with (go_at_call 11
                         go_loud (skip
                                  refine (put_any A n cap B m cap' s l T tn tc w3 (HS.out.at_.below HM3.out.2.2.2.1 HM3.out.2.2.2.1.size) (HS.out.fit.mono (by omega)) (HL.out.below HM3.out.2.2.2.1 HM3.out.2.2.2.1.size)).mono ?_
                                  have hf1 := Lib.hid (HS.out.fit.putR (l := l) (by have := HTL.out.1; omega))
                                  rw [HP.out.1] at hf1 ⊢
                                  rintro e w4 ⟨A1, n1, cap1, B1, m1, cap1', rfl, hst1, _, _, _, _, hb4⟩
                                  have HM4 := Lib.hid (HM3.out.up hb4)
                                  have HA1 := Lib.hid hst1.lo
                                  clear a0 a1 b0 b1 b2 b3 b4 c0 c1 c2 c3 c4 z0 z1 z2 z3
                                  obtain ⟨a0, a1, b0, b1, b2, b3, b4, c0, c1, c2, c3, c4, z0, z1, z2, z3⟩ := HM4.out.cells
                                  clear hst1 hb4))
  go_upto_region 7 with (go_at_call 11
                         go_loud (skip
                                  refine (put_any A1 n1 cap1 B1 m1 cap1' s1 l' T' tn' tc' _ (HA1.out.below ((Below.refl _ _).alloc (Nat.le_refl _) _) (by simp)) (hf1.out.mono (by omega)) (HL'.out.below (HM4.out.alloc _).2.2.2.1 (HM4.out.alloc _).2.2.2.1.size)).mono ?_
                                  have hf2 := Lib.hid (hf1.out.putR (l := l') (by have := HTL.out.2; omega))
                                  rw [HP.out.2.1] at hf2 ⊢
                                  rintro e w5 ⟨A2, n2, cap2, B2, m2, cap2', rfl, hst2, hd1, hd2, hd3, hd4, hb5⟩
                                  have gA := (Blk.new w4 28 #[.slice A1 n1 cap1, .slice B1 m1 cap1'] rfl).below hb5 (by simp)
                                  have x0 := gA.cell 0 (v := .slice A1 n1 cap1) rfl; have x1 := gA.cell 1 (v := .slice B1 m1 cap1') rfl; have fA := gA.frozen
                                  have HGA := Lib.hid gA
                                  have HM5 := Lib.hid ((HM4.out.alloc _).up hb5)
                                  have HA2 := Lib.hid hst2
                                  have hn63 := maxLen_le (Nat.le_trans hd1 hd2); have hm63 := maxLen_le (Nat.le_trans hd3 hd4)
                                  clear a0 a1 b0 b1 b2 b3 b4 c0 c1 c2 c3 c4 z0 z1 z2 z3
                                  obtain ⟨a0, a1, b0, b1, b2, b3, b4, c0, c1, c2, c3, c4, z0, z1, z2, z3⟩ := HM5.out.cells
                                  have zA : w.heap.size + 3 ≤ w4.heap.size := HM4.out.2.2.2.2
                                  have zA5 : w4.heap.size < w5.heap.size := gA.lt
                                  clear hst2 hb5 gA hd1 hd2 hd3 hd4))
  have zP : ((w5.setCell ⟨w4.heap.size, 0, none⟩ (.slice A2 n2 cap2)).setCell ⟨w4.heap.size, 1, none⟩ (.slice B2 m2 cap2')).heap.size = w5.heap.size := by simp [World.setCell]
  have HMP := Lib.hid (show LawMem3 w ((w5.setCell ⟨w4.heap.size, 0, none⟩ (.slice A2 n2 cap2)).setCell ⟨w4.heap.size, 1, none⟩ (.slice B2 m2 cap2')) _ _ _ _ _ _ _ _ _ _ _ _ from (HM5.out.setc (p := ⟨w4.heap.size, 0, none⟩) zA _).setc (p := ⟨w4.heap.size, 1, none⟩) zA _)
  have HGP := Lib.hid (show Blk ((w5.setCell ⟨w4.heap.size, 0, none⟩ (.slice A2 n2 cap2)).setCell ⟨w4.heap.size, 1, none⟩ (.slice B2 m2 cap2')) w4.heap.size 28 #[.slice A2 n2 cap2, .slice B2 m2 cap2'] from (HGA.out.set 0 _).set 1 _)
  have HAP := Lib.hid (show StAt ((w5.setCell ⟨w4.heap.size, 0, none⟩ (.slice A2 n2 cap2)).setCell ⟨w4.heap.size, 1, none⟩ (.slice B2 m2 cap2')) (fun b => w4.heap.size < b ∧ b < w5.heap.size) A2 n2 B2 m2 s2 from
    ((HA2.out.keep (w' := w5) (S' := fun b => w4.heap.size < b ∧ b < w5.heap.size) (fun _ _ => rfl) (fun b hb => ⟨by have := hb.1; simp at this; omega, hb.2⟩)).setc (p := ⟨w4.heap.size, 0, none⟩) (fun h => by have := h.1; dsimp only at this; omega) _).setc (p := ⟨w4.heap.size, 1, none⟩) (fun h => by have := h.1; dsimp only at this; omega) _)
  generalize ((w5.setCell ⟨w4.heap.size, 0, none⟩ (.slice A2 n2 cap2)).setCell ⟨w4.heap.size, 1, none⟩ (.slice B2 m2 cap2')) = WP at *
  clear x0 x1 fA HGA HA2 HM5 HA1
  obtain ⟨NA, hNA⟩ : ∃ NA, NA = w4.heap.size := ⟨_, rfl⟩
  simp only [← hNA] at HGP HAP zA zA5 ⊢
  clear hNA
  clear a0 a1 b0 b1 b2 b3 b4 c0 c1 c2 c3 c4 z0 z1 z2 z3
  obtain ⟨a0, a1, b0, b1, b2, b3, b4, c0, c1, c2, c3, c4, z0, z1, z2, z3⟩ := HMP.out.cells
  go_upto_region 8 with (go_at_call 11
                         go_loud (skip
                                  refine (put_any A n cap B m cap' s l' T' tn' tc' WP (HS.out.at_.below HMP.out.2.2.2.1 HMP.out.2.2.2.1.size) (HS.out.fit.mono (by omega)) (HL'.out.below HMP.out.2.2.2.1 HMP.out.2.2.2.1.size)).mono ?_
                                  have hf3 := Lib.hid (HS.out.fit.putR (l := l') (by have := HTL.out.2; omega))
                                  rw [HP.out.2.2.1] at hf3 ⊢
                                  rintro e w6 ⟨A3, n3, cap3, B3, m3, cap3', rfl, hst3, _, _, _, _, hb6⟩
                                  have HM6 := Lib.hid (HMP.out.up hb6)
                                  have HA3 := Lib.hid hst3.lo
                                  have HG6 := Lib.hid (HGP.out.below hb6 HGP.out.lt)
                                  have z56 : w5.heap.size ≤ w6.heap.size := by (have := hb6.size; omega)
                                  have HAA6 := Lib.hid (HAP.out.keep (w' := w6) (S' := fun b => NA < b ∧ b < w5.heap.size) (fun p hp => hb6.cell (by have := hp.2; omega)) (fun _ h => h))
                                  clear a0 a1 b0 b1 b2 b3 b4 c0 c1 c2 c3 c4 z0 z1 z2 z3
                                  obtain ⟨a0, a1, b0, b1, b2, b3, b4, c0, c1, c2, c3, c4, z0, z1, z2, z3⟩ := HM6.out.cells
                                  clear hst3 hb6))
  go_upto_region 9 with (go_at_call 11
                         go_loud (skip
                                  refine (put_any A3 n3 cap3 B3 m3 cap3' t1 l T tn tc _ (HA3.out.below ((Below.refl _ _).alloc (Nat.le_refl _) _) (by simp)) (hf3.out.mono (by omega)) (HL.out.below (HM6.out.alloc _).2.2.2.1 (HM6.out.alloc _).2.2.2.1.size)).mono ?_
                                  have hf4 := Lib.hid (hf3.out.putR (l := l) (by have := HTL.out.1; omega))
                                  rw [HP.out.2.2.2.1] at hf4 ⊢
                                  rintro e w7 ⟨A4, n4, cap4, B4, m4, cap4', rfl, hst4, hd1, hd2, hd3, hd4, hb7⟩
                                  have gB := (Blk.new w6 28 #[.slice A3 n3 cap3, .slice B3 m3 cap3'] rfl).below hb7 (by simp)
                                  have x0 := gB.cell 0 (v := .slice A3 n3 cap3) rfl; have x1 := gB.cell 1 (v := .slice B3 m3 cap3') rfl; have fB := gB.frozen
                                  have HGB := Lib.hid gB
                                  have HM7 := Lib.hid ((HM6.out.alloc _).up hb7)
                                  have HA4 := Lib.hid hst4
                                  have HG7 := Lib.hid ((HG6.out.alloc _).below hb7 (by have := HG6.out.lt; simp; omega))
                                  have HAA7 := Lib.hid (HAA6.out.keep (w' := w7) (S' := fun b => NA < b ∧ b < w5.heap.size) (fun p hp => (hb7.cell (by have := hp.2; simp; omega)).trans (World.cell?_alloc_lt _ _ _ (by have := hp.2; omega))) (fun _ h => h))
                                  have hn64 := maxLen_le (Nat.le_trans hd1 hd2); have hm64 := maxLen_le (Nat.le_trans hd3 hd4)
                                  clear a0 a1 b0 b1 b2 b3 b4 c0 c1 c2 c3 c4 z0 z1 z2 z3
                                  obtain ⟨a0, a1, b0, b1, b2, b3, b4, c0, c1, c2, c3, c4, z0, z1, z2, z3⟩ := HM7.out.cells
                                  have zB7 : w6.heap.size < w7.heap.size := gB.lt
                                  clear hst4 hb7 gB hd1 hd2 hd3 hd4))
  have zQ : ((w7.setCell ⟨w6.heap.size, 0, none⟩ (.slice A4 n4 cap4)).setCell ⟨w6.heap.size, 1, none⟩ (.slice B4 m4 cap4')).heap.size = w7.heap.size := by simp [World.setCell]
  have zB : w.heap.size + 3 ≤ w6.heap.size := HM6.out.2.2.2.2
  have zAB : NA < w6.heap.size := by omega
  have HMQ := Lib.hid (show LawMem3 w ((w7.setCell ⟨w6.heap.size, 0, none⟩ (.slice A4 n4 cap4)).setCell ⟨w6.heap.size, 1, none⟩ (.slice B4 m4 cap4')) _ _ _ _ _ _ _ _ _ _ _ _ from (HM7.out.setc (p := ⟨w6.heap.size, 0, none⟩) zB _).setc (p := ⟨w6.heap.size, 1, none⟩) zB _)
  have HGQ := Lib.hid (show Blk ((w7.setCell ⟨w6.heap.size, 0, none⟩ (.slice A4 n4 cap4)).setCell ⟨w6.heap.size, 1, none⟩ (.slice B4 m4 cap4')) w6.heap.size 28 #[.slice A4 n4 cap4, .slice B4 m4 cap4'] from (HGB.out.set 0 _).set 1 _)
  have HGA := Lib.hid (show Blk ((w7.setCell ⟨w6.heap.size, 0, none⟩ (.slice A4 n4 cap4)).setCell ⟨w6.heap.size, 1, none⟩ (.slice B4 m4 cap4')) NA 28 #[.slice A2 n2 cap2, .slice B2 m2 cap2'] from (HG7.out.far (p := ⟨w6.heap.size, 0, none⟩) (by simp; omega) _).far (p := ⟨w6.heap.size, 1, none⟩) (by simp; omega) _)
  have HSA := Lib.hid (show StAt ((w7.setCell ⟨w6.heap.size, 0, none⟩ (.slice A4 n4 cap4)).setCell ⟨w6.heap.size, 1, none⟩ (.slice B4 m4 cap4')) (fun b => b < w7.heap.size ∧ b ≠ NA ∧ b ≠ w6.heap.size) A2 n2 B2 m2 s2 from
    ((HAA7.out.setc (p := ⟨w6.heap.size, 0, none⟩) (fun h => by have := h.2; dsimp only at this; omega) _).setc (p := ⟨w6.heap.size, 1, none⟩) (fun h => by have := h.2; dsimp only at this; omega) _).keep (fun _ _ => rfl) (fun b hb => ⟨by have := hb.2; omega, by have := hb.1; omega, by have := hb.2; omega⟩))
  have HSB := Lib.hid (show StAt ((w7.setCell ⟨w6.heap.size, 0, none⟩ (.slice A4 n4 cap4)).setCell ⟨w6.heap.size, 1, none⟩ (.slice B4 m4 cap4')) (fun b => b < w7.heap.size ∧ b ≠ NA ∧ b ≠ w6.heap.size) A4 n4 B4 m4 t2 from
    (((HA4.out.keep (w' := w7) (S' := fun b => w6.heap.size < b ∧ b < w7.heap.size) (fun _ _ => rfl) (fun b hb => ⟨by have := hb.1; simp at this; omega, hb.2⟩)).setc (p := ⟨w6.heap.size, 0, none⟩) (fun h => by have := h.1; dsimp only at this; omega) _).setc (p := ⟨w6.heap.size, 1, none⟩) (fun h => by have := h.1; dsimp only at this; omega) _).keep (fun _ _ => rfl) (fun b hb => ⟨hb.2, by have := hb.1; omega, by have := hb.1; omega⟩))
  have HF2 := Lib.hid (And.intro (hf2.out.mono (K' := 140737488351344) (by omega)) (hf4.out.mono (K' := 140737488351344) (by omega)))
  generalize ((w7.setCell ⟨w6.heap.size, 0, none⟩ (.slice A4 n4 cap4)).setCell ⟨w6.heap.size, 1, none⟩ (.slice B4 m4 cap4')) = WQ at *
  obtain ⟨NB, hNB⟩ : ∃ NB, NB = w6.heap.size := ⟨_, rfl⟩
  clear x0 x1 fB HGB HA4 HM7 HG6 HG7 HAA6 HAA7 HA3 HMP HGP HAP
  simp only [← hNB] at HGQ HSA HSB zAB zB ⊢
  clear hNB
  obtain rfl : m4 = m2 := by rw [← HSB.out.boxesN, ← HSA.out.boxesN]; exact HP.out.2.2.2.2.2.1.symm
  clear a0 a1 b0 b1 b2 b3 b4 c0 c1 c2 c3 c4 z0 z1 z2 z3
  have x0 := HGA.out.cell 0 (v := .slice A2 n2 cap2) rfl; have x1 := HGA.out.cell 1 (v := .slice B2 m4 cap2') rfl
  have y0 := HGQ.out.cell 0 (v := .slice A4 n4 cap4) rfl; have y1 := HGQ.out.cell 1 (v := .slice B4 m4 cap4') rfl
  go_upto_block 0 with fail
  refine swap_out WQ NA NB B2 B4 m4 cap2' cap4' s2.boxes t2.boxes ⟨x1, y1, HGA.out.lt, HGQ.out.lt, (HSA.out.boxes.more fun b hb => by rw [lo, zQ]; exact hb.1), (HSB.out.boxes.more fun b hb => by rw [lo, zQ]; exact hb.1), HSA.out.boxesN, HSB.out.boxesN, fun b hb => by have := HF2.out.1.box b hb; omega, fun b hb => by have := HF2.out.2.box b hb; omega, HP.out.2.2.2.2.2.2⟩ hm63 ?_
  intro d6 d17 d18 d19 d20 d22 d24 d118 d119 d120 d121 d122 d123 d124 d125 d126 d127 d128 d129 d130 d131 d132 d133 d134 d135 d136 d137 d138 d139 d140 d141 d142 d143 d144 d145 d146 d147 d148 d149 d150 d151 d152 d153 d154 d155 d156 d157 d158 d159 d160 d161 d162 d163 d164 d165 d166 d167 w8 hb8
  clear x0 x1 y0 y1
  have gA8 := HGA.out.below hb8 HGA.out.lt; have gB8 := HGQ.out.below hb8 HGQ.out.lt
  have x0 := gA8.cell 0 (v := .slice A2 n2 cap2) rfl; have x1 := gA8.cell 1 (v := .slice B2 m4 cap2') rfl; have fA := gA8.frozen
  have y0 := gB8.cell 0 (v := .slice A4 n4 cap4) rfl; have y1 := gB8.cell 1 (v := .slice B4 m4 cap4') rfl; have fB := gB8.frozen
  have z8 := hb8.size
  have HB8 := Lib.hid hb8
  have HLA := Lib.hid (HSA.out.last.keep (w' := w8) (S' := fun b => b < w7.heap.size ∧ b ≠ NA ∧ b ≠ NB) (fun p hp => hb8.cell (by rw [zQ]; exact hp.1)) (fun _ h => h))
  have HLB := Lib.hid (HSB.out.last.keep (w' := w8) (S' := fun b => b < w7.heap.size ∧ b ≠ NA ∧ b ≠ NB) (fun p hp => hb8.cell (by rw [zQ]; exact hp.1)) (fun _ h => h))
  have hNAB : NA ≠ NB := by omega
  have hl1 : NA < w8.heap.size := gA8.lt
  have hl2 : NB < w8.heap.size := gB8.lt
  clear gA8 gB8 hb8
  have HSM := Lib.hid (show sameSt { last := s2.last, boxes := [] } { last := t2.last, boxes := [] } = true from sameSt_iff.2 (by rw [HP.out.2.2.2.2.1]))
  go_wp2_with (go_at_call 16
               go_loud (skip
                        refine (same13_any A2 n2 cap2 none 0 0 { last := s2.last, boxes := [] } A4 n4 cap4 none 0 0 { last := t2.last, boxes := [] } _ ⟨((HLA.out.set (p := ⟨NA, 1, none⟩) (fun h => h.2.1 rfl) _).set (p := ⟨NB, 1, none⟩) (fun h => h.2.2 rfl) _).more (fun b hb => by have h9 := hb.1; simp [lo, World.setCell]; omega), HSA.out.lastN, Sl.nil _ _ _ _, rfl⟩ ⟨((HLB.out.set (p := ⟨NA, 1, none⟩) (fun h => h.2.1 rfl) _).set (p := ⟨NB, 1, none⟩) (fun h => h.2.2 rfl) _).more (fun b hb => by have h9 := hb.1; simp [lo, World.setCell]; omega), HSB.out.lastN, Sl.nil _ _ _ _, rfl⟩ hn63 (by omega)).mono ?_
                        rw [HSM.out]
                        rintro e w9 ⟨rfl, hb9⟩))
  go_ret
  exact ⟨rfl, (((HMQ.out.2.2.2.1.trans (HB8.out.mono HMQ.out.2.2.2.1.size)).setCell (by simp; omega) _).setCell (by simp; omega) _).trans (hb9.mono (by have h9 := HMQ.out.2.2.2.1.size; simp [World.setCell]; omega))⟩
theorem swap_walk (A : Option Addr) (n cap : Nat) (B : Option Addr) (m cap' : Nat) (s : St) (l : Lt) (T : Option Addr) (tn tc : Nat) (l' : Lt) (T' : Option Addr) (tn' tc' : Nat) (w : World) (hs : StArg w A n cap B m cap' s)
    (hl : LtAt w (lo w.heap.size) T tn tc l) (htl : l.text.length ≤ 140737488351232) (hl' : LtAt w (lo w.heap.size) T' tn' tc' l') (htl' : l'.text.length ≤ 140737488351232) :
    Calls Try.prog 6 #[.agg #[.slice A n cap, .slice B m cap'], .agg #[.bool l.cover, .int .i64 l.fr, .int .i64 l.to, .int .u64 l.sq, .slice T tn tc], .agg #[.bool l'.cover, .int .i64 l'.fr, .int .i64 l'.to, .int .u64 l'.sq, .slice T' tn' tc']] w
      fun e w' => e = .returned (.bool true) ∧ Below w.heap.size w w' := by
  by_cases hc : checkB s = true
  · by_cases h : l.fr = l'.fr
    · exact swap_one A n cap B m cap' s l T tn tc l' T' tn' tc' w hs hc (by simpa using h)
    · exact swap_main A n cap B m cap' s l T tn tc l' T' tn' tc' w hs hc h hl htl hl' htl'
  · exact swap_early A n cap B m cap' s l T tn tc l' T' tn' tc' w hs hc
end Go.Proofs.Ytcmdmmphakclmaa
