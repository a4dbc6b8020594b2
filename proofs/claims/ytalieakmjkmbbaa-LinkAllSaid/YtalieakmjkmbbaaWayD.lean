/-
  The way's method step: a body is sent; time goes by.
-/
import Derived.Test.YtalieakmjkmbbaaWayC
namespace Go.Proofs.Ytalieakmjkmbbaa
open Go.RowKit Go.Sort
set_option linter.unusedVariables false
attribute [local go_sem ↓] Go.wp_at_zero Go.wp_at_succ

theorem sl_two (w : World) (t : TypeId) (a b : Int) (ha : (Lit.int .u8 a).wf = true) (hb : (Lit.int .u8 b).wf = true) : Sl (Rint .u8) (w.alloc (.cells #[.int .u8 a, .int .u8 b] t)) (mid w.heap.size (w.alloc (.cells #[.int .u8 a, .int .u8 b] t)).heap.size) (some ⟨w.heap.size, 0, none⟩) [a, b] := by
  intro i x hx
  have hB := Blk.new w t #[.int .u8 a, .int .u8 b] (g := w.heap.size) rfl
  rcases i with _ | _ | i
  · obtain rfl : a = x := by simpa using hx
    refine ⟨w.heap.size, 0, [.int .u8 a], rfl, ⟨Nat.le_refl _, by simp⟩, ⟨rfl, ha⟩, fun j u hj => ?_⟩
    rcases j with _ | j
    · obtain rfl : Value.int .u8 a = u := by simpa using hj
      exact hB.cell 0 rfl
    · simp at hj
  · obtain rfl : b = x := by simpa using hx
    refine ⟨w.heap.size, 0, [.int .u8 b], rfl, ⟨Nat.le_refl _, by simp⟩, ⟨rfl, hb⟩, fun j u hj => ?_⟩
    rcases j with _ | j
    · obtain rfl : Value.int .u8 b = u := by simpa using hj
      exact hB.cell 1 rfl
    · simp at hj
  · simp at hx
theorem wrap8_wf (n : Int) : (Lit.int .u8 (IntKind.u8.wrap n)).wf = true := by
  rw [IntKind.wrap_u8]
  exact WalkArith.wf_u8 ⟨by omega, by omega⟩
set_option maxRecDepth 100000 in
set_option maxHeartbeats 4000000 in
theorem step3_any (w : World) (B P : Nat) (win : Int) (s : Wy) (sn : Int) (h : WyB w B P win s) (hf : WyF s) (hBw : B ≤ w.heap.size) (hl : (againP s.o 3 (s.now + 1)).2.length ≤ 1000000) (h0 : 0 ≤ sn) (h1 : sn ≤ 9223372036854775807) (h3 : sn % 4 = 3) :
    Calls Try.prog 20 #[.pointer (some ⟨P, 0, none⟩), .int .i64 sn] w fun en w' => (∃ v, en = .returned v) ∧ WyB w' B P win ((s.again (s.now + 1)).keep (againP s.o 3 (s.now + 1)).2) ∧ Below B w w' := by
  obtain ⟨ρ, AS, nS, cS, AW, nW, cW, AH, nH, cH, AI, nI, cI, AA, nA, cA, AB, nB, cB, AT, nT, cT, hB, hM, hnI, hnA, hnB, hnT⟩ := h
  have p10 := hB.cell 10 (v := .int .i64 s.now) rfl
  have fP0 := hB.frozen
  have hP0 := hB.lt
  have hnow := hf.now
  have hn1 : s.now + 1 ≤ 9223372036854775807 := by omega
  have H := Lib.hid (And.intro hB (And.intro hM (And.intro hf (And.intro hnI (And.intro hnA (And.intro hnB hnT))))))
  have hBP := hM.hP.1
  clear hB hM hf hnI hnA hnB hnT
  go_enter Try.func20, Try.ntmps20
  go_upto_region 3 with fail
  obtain ⟨w0, hw0⟩ : ∃ w0, w.setCell ⟨P, 10, none⟩ (.int .i64 (s.now + 1)) = w0 := ⟨_, rfl⟩
  have hM := (H.out.2.1.set 10 (.int .i64 (s.now + 1))).time (s.now + 1)
  have hB := Blk.set H.out.1 10 (.int .i64 (s.now + 1))
  have hb0 := (Below.refl B w).setCell (p := ⟨P, 10, none⟩) hBP (.int .i64 (s.now + 1))
  rw [hw0] at hM hB hb0 ⊢
  have p0 := Blk.cell hB 0 (v := .int .i64 s.o.next) rfl; have p1 := Blk.cell hB 1 (v := .slice AS nS cS) rfl; have p2 := Blk.cell hB 2 (v := .slice AW nW cW) rfl; have p9 := Blk.cell hB 9 (v := .int .i64 win) rfl; have p10' := Blk.cell hB 10 (v := .int .i64 (s.now + 1)) rfl
  have hP := Blk.lt hB
  have hBw0 : B ≤ w0.heap.size := by omega
  obtain ⟨o', l, hol⟩ : ∃ o' l, againP s.o 3 (s.now + 1) = (o', l) := ⟨_, _, rfl⟩
  have HC := Lib.hid (show ∀ w', RowKit.Below w0.heap.size w0 w' → Calls Try.prog 15 #[.agg #[.int .i64 s.o.next, .slice AS nS cS, .slice AW nW cW], .int .i64 3, .int .i64 (s.now + 1)] w' (OutRet o' l w') from fun w' hb' => by
    have := again_any w' s.o AS nS cS AW nW cW 3 (s.now + 1) (hM.out.keep (fun p hp => hb'.cell hp.2.1) (fun b hb => Nat.lt_of_lt_of_le hb.2.1 hb'.size)) ⟨by have := H.out.2.2.1.sz; omega, by have := H.out.2.2.1.sz; omega, H.out.2.2.1.t1, H.out.2.2.1.t2⟩ (WalkArith.wf_i64 (by omega)) (by omega) (fun x hx => by have := H.out.2.2.1.tm x hx; omega)
    rw [hol] at this
    exact this)
  have hsA : (s.again (s.now + 1)).keep (againP s.o 3 (s.now + 1)).2 = { { { s with now := s.now + 1 } with o := o' } with items := s.items ++ l } := by simp [Wy.again, Wy.keep, hol]
  rw [hol] at hl
  replace hl : l.length ≤ 1000000 := hl
  have H0 := Lib.hid (And.intro hB (And.intro hM (And.intro H.out.2.2.1 (And.intro hb0 hsA))))
  clear hB hM hw0 hol hsA hb0 p10 fP0
  refine wy_again w0 P s.o.next (s.now + 1) win AS nS cS AW nW cW o' l hP p0 p1 p2 p9 p10' HC.out ?_
  intro d21 d22 d23 d24 d25 d26 d27 d28 d29 d30 d31 d32 E A1 n1 c1 A2 n2 c2 T t tc w1 hE hO l1 l2 l3 l4 ht hsl hb1 hwE
  have z1 := hb1.size
  have hM1 := (H0.out.2.1.up hb1).newOut (hO.keep (fun _ _ => rfl) (fun b hb => newRole_dat hBw0 hb)) l1 l2 l3 l4
  have hB1 := Blk.below H0.out.1 hb1 hP
  have x0 := hE.cell 0 (v := .int .i64 o'.next) rfl; have x1 := hE.cell 1 (v := .slice A1 n1 c1) rfl; have x2 := hE.cell 2 (v := .slice A2 n2 c2) rfl
  have q0 := Blk.cell hB1 0 (v := .int .i64 s.o.next) rfl; have q1 := Blk.cell hB1 1 (v := .slice AS nS cS) rfl; have q2 := Blk.cell hB1 2 (v := .slice AW nW cW) rfl
  have fP := Blk.frozen hB1
  have lP := Blk.lt hB1
  have hPE : P ≠ E := by omega
  have hsd : Sl Rit w1 (Dat w1 B (newRole w0 ρ)) T l := hsl.keep (fun _ _ => rfl) (fun b hb => newRole_dat hBw0 hb)
  have H1 := Lib.hid (And.intro hM1 (And.intro hB1 (And.intro hsd (And.intro ht (And.intro (hb1.mono hBw0) hb1)))))
  clear hM1 hB1 hE hO l1 l2 l3 l4 ht hsl hsd hb1
  go_upto_region 5 with fail
  obtain ⟨w2, hw2⟩ : ∃ w2, (((w1.setCell ⟨P, 0, none⟩ (.int .i64 o'.next)).setCell ⟨P, 1, none⟩ (.slice A1 n1 c1)).setCell ⟨P, 2, none⟩ (.slice A2 n2 c2)) = w2 := ⟨_, rfl⟩
  have hM2 := ((H1.out.1.set 0 (.int .i64 o'.next)).set 1 (.slice A1 n1 c1)).set 2 (.slice A2 n2 c2)
  have hB2 := Blk.set (Blk.set (Blk.set H1.out.2.1 0 (.int .i64 o'.next)) 1 (.slice A1 n1 c1)) 2 (.slice A2 n2 c2)
  have hbb2 := ((H1.out.2.2.2.2.1.setCell (p := ⟨P, 0, none⟩) hBP (.int .i64 o'.next)).setCell (p := ⟨P, 1, none⟩) hBP (.slice A1 n1 c1)).setCell (p := ⟨P, 2, none⟩) hBP (.slice A2 n2 c2)
  have hsl2 : Sl Rit w2 (Dat w2 B (newRole w0 ρ)) T l := by
    rw [← hw2]
    exact H1.out.2.2.1.keep (fun p hp => World.cell?_of_block ((Below.heap_setCell _ ⟨P, 2, none⟩ _ _ (datP H1.out.1 hp 2)).trans ((Below.heap_setCell _ ⟨P, 1, none⟩ _ _ (datP H1.out.1 hp 1)).trans (Below.heap_setCell _ ⟨P, 0, none⟩ _ _ (datP H1.out.1 hp 0))))) (fun b hb => ⟨hb.1, by simpa [World.setCell] using hb.2.1, hb.2.2⟩)
  rw [hw2] at hM2 hB2 hbb2 ⊢
  obtain ⟨cells, hel, hce⟩ := hsl2.inRow
  have p5 := Blk.cell hB2 5 (v := .slice AI nI cI) rfl
  have fP2 := Blk.frozen hB2
  have lP2 := Blk.lt hB2
  have hBw2 : B ≤ w2.heap.size := by omega
  have H2 := Lib.hid (And.intro hM2 (And.intro hB2 (And.intro hbb2 (And.intro hel (And.intro hce hw2)))))
  clear hM2 hB2 hbb2 hel hce hsl2 hw2 fP lP q0 q1 q2 x0 x1 x2 z1
  go_wp2_with (first
    | (at_builtin
       go_loud (skip
                refine wpList_append_own' _ rfl (.tmp 41) (.tmp 42) _ rfl ei_items (R := Rit) _ rfl H2.out.1.items.1 (Dat.own H2.out.1.items.2 (by omega)) T t tc (ys := l) rfl H1.out.2.2.2.1 H2.out.2.2.2.2.1 H2.out.2.2.2.1 (le40 (by have := H1.out.2.2.2.1; have := H0.out.2.2.1.items; show s.items.length + t ≤ _; omega)) (lim1 (by have := H1.out.2.2.2.1; have := H0.out.2.2.1.items; show s.items.length + t ≤ _; omega)) hBw2 ?_
                intro v' w3 ho3 hg3 hat3
                obtain ⟨ρ3, hr3, hM3⟩ := H2.out.1.moreItems ho3 hg3 hat3
                obtain ⟨A3, c3, rfl⟩ := ho3.form
                obtain ⟨n3, hn3⟩ : ∃ n3, (s.items ++ l).length = n3 := ⟨_, rfl⟩
                have hn3' : (({ { s with now := s.now + 1 } with o := o' } : Wy).items ++ l).length = n3 := hn3
                rw [hn3'] at hM3 ⊢
                have hB3 := (H2.out.1.grownP H2.out.1.items.2 (by omega) hg3).trans H2.out.2.1
                have p5' := Blk.cell hB3 5 (v := .slice AI nI cI) rfl
                have fP3 := Blk.frozen hB3
                have H3 := Lib.hid (And.intro hM3 (And.intro hB3 (And.intro hn3 (H2.out.2.2.1.grown hg3 hBw2 (fun g hg => (H2.out.1.items.1.lt hg).1)))))
                have HR3 := Lib.hid (And.intro hr3 (And.intro (frame_but H2.out.1.items.2 hg3) hg3.size))
                clear ho3 hg3 hat3 hM3 hB3 hn3 hn3' hr3)))
  go_end0
  refine ⟨⟨_, rfl⟩, ?_, (H0.out.2.2.2.1.trans H3.out.2.2.2).setCell (p := ⟨P, 5, none⟩) hBP _⟩
  rw [H0.out.2.2.2.2]
  exact ⟨ρ3, A1, n1, c1, A2, n2, c2, AH, nH, cH, A3, n3, c3, AA, nA, cA, AB, nB, cB, AT, nT, cT, Blk.set H3.out.2.1 5 _, H3.out.1.set 5 _, H3.out.2.2.1, H.out.2.2.2.2.1, H.out.2.2.2.2.2.1, H.out.2.2.2.2.2.2⟩
set_option maxRecDepth 100000 in
set_option maxHeartbeats 4000000 in
theorem step0_any (w : World) (B P : Nat) (win : Int) (s : Wy) (sn : Int) (h : WyB w B P win s) (hf : WyF s) (hBw : B ≤ w.heap.size) (h0 : 0 ≤ sn) (h1 : sn ≤ 9223372036854775807) (h3 : sn % 4 = 0) :
    Calls Try.prog 20 #[.pointer (some ⟨P, 0, none⟩), .int .i64 sn] w fun en w' => (∃ v, en = .returned v) ∧ WyB w' B P win (s.send [IntKind.u8.wrap (s.sent.length : Int), IntKind.u8.wrap (sn / 4)] win) ∧ Below B w w' := by
  obtain ⟨ρ, AS, nS, cS, AW, nW, cW, AH, nH, cH, AI, nI, cI, AA, nA, cA, AB, nB, cB, AT, nT, cT, hB, hM, hnI, hnA, hnB, hnT⟩ := h
  have p7 := hB.cell 7 (v := .slice AB nB cB) rfl
  have hP0 := hB.lt
  have hnow := hf.now
  have hBP := hM.hP.1
  obtain ⟨b0, hb0⟩ : ∃ b0, IntKind.u8.wrap (nB : Int) = b0 := ⟨_, rfl⟩
  obtain ⟨b1, hb1⟩ : ∃ b1, IntKind.u8.wrap (sn / 4) = b1 := ⟨_, rfl⟩
  have hbs : [IntKind.u8.wrap (s.sent.length : Int), IntKind.u8.wrap (sn / 4)] = [b0, b1] := by rw [hnB, hb0, hb1]
  rw [hbs]
  have hwb : (Lit.int .u8 b0).wf = true ∧ (Lit.int .u8 b1).wf = true := ⟨by rw [← hb0]; exact wrap8_wf _, by rw [← hb1]; exact wrap8_wf _⟩
  have hba : RowKit.Below w.heap.size w (w.alloc (.cells #[.int .u8 b0, .int .u8 b1] 5)) := (Below.refl _ _).alloc (Nat.le_refl _) _
  have hT := sl_two w 5 b0 b1 hwb.1 hwb.2
  have hM0 := hM.up hba
  have hB0 := hB.below hba hP0
  have hz0 : (w.alloc (.cells #[.int .u8 b0, .int .u8 b1] 5)).heap.size = w.heap.size + 1 := by simp
  have H := Lib.hid (And.intro hf (And.intro hnI (And.intro hnA (And.intro hnB (And.intro hnT hwb)))))
  clear hB hM hf hnI hnA hnB hnT hwb hbs
  go_enter Try.func20, Try.ntmps20
  go_upto_region 8 with fail
  try simp only [hb0, hb1]
  clear hb0 hb1
  generalize (w.alloc (.cells #[.int .u8 b0, .int .u8 b1] 5)) = w0 at *
  obtain ⟨ρ0, hρ0⟩ : ∃ ρ0, newRole w ρ = ρ0 := ⟨_, rfl⟩
  have hTd : Sl (Rint .u8) w0 (Dat w0 B ρ0) (some ⟨w.heap.size, 0, none⟩) [b0, b1] := by rw [← hρ0]; exact hT.keep (fun _ _ => rfl) (fun b hb => newRole_dat hBw hb)
  rw [hρ0] at hM0
  obtain ⟨ρ, rfl⟩ : ∃ ρ, ρ = ρ0 := ⟨_, rfl⟩
  have p0 := Blk.cell hB0 0 (v := .int .i64 s.o.next) rfl; have p1 := Blk.cell hB0 1 (v := .slice AS nS cS) rfl; have p2 := Blk.cell hB0 2 (v := .slice AW nW cW) rfl; have p9 := Blk.cell hB0 9 (v := .int .i64 win) rfl; have p10 := Blk.cell hB0 10 (v := .int .i64 s.now) rfl
  have hP := Blk.lt hB0
  have hBw0 : B ≤ w0.heap.size := by omega
  obtain ⟨o', l, hol⟩ : ∃ o' l, sendP s.o [b0, b1] win s.now = (o', l) := ⟨_, _, rfl⟩
  have HC := Lib.hid (show ∀ w', RowKit.Below w0.heap.size w0 w' → Calls Try.prog 17 #[.agg #[.int .i64 s.o.next, .slice AS nS cS, .slice AW nW cW], .slice (some ⟨w.heap.size, 0, none⟩) 2 2, .int .i64 win, .int .i64 s.now] w' (OutRet o' l w') from fun w' hb' => by
    have := send_any w' s.o AS nS cS AW nW cW [b0, b1] (some ⟨w.heap.size, 0, none⟩) 2 2 win s.now (hM0.out.keep (fun p hp => hb'.cell hp.2.1) (fun b hb => Nat.lt_of_lt_of_le hb.2.1 hb'.size)) ⟨by have := H.out.1.sz; omega, by have := H.out.1.sz; omega, H.out.1.t1, H.out.1.t2⟩ rfl (hTd.keep (fun p hp => hb'.cell hp.2.1) (fun b hb => Nat.lt_of_lt_of_le hb.2.1 hb'.size)) (by decide) H.out.1.x0 (by have := H.out.1.x1; omega) (WalkArith.wf_i64 (by omega))
    rw [hol] at this
    exact this)
  have hl : l.length ≤ 1000000 := by
    have h9 : (sendP s.o [b0, b1] win s.now).2.length ≤ 1 := by unfold sendP; split <;> simp
    rw [hol] at h9
    exact Nat.le_trans h9 (by decide)
  have hsA : s.send [b0, b1] win = { { { s with o := o' } with items := s.items ++ l } with sent := s.sent ++ [[b0, b1]] } := by simp [Wy.send, hol]
  have H0 := Lib.hid (And.intro hB0 (And.intro hM0 (And.intro H.out.1 (And.intro hTd (And.intro (hba.mono hBw) hsA)))))
  clear hB0 hM0 hρ0 hol hsA hT hTd hba p7
  refine wy_send w0 P (some ⟨w.heap.size, 0, none⟩) 2 2 s.o.next s.now win AS nS cS AW nW cW o' l hP p0 p1 p2 p9 p10 HC.out ?_
  intro d57 d58 d59 d60 d61 d62 d63 d64 d65 d66 d67 d68 d69 d70 d71 d72 d73 E A1 n1 c1 A2 n2 c2 T t tc w1 hE hO l1 l2 l3 l4 ht hsl hb1 hwE
  have z1 := hb1.size
  have hM1 := (H0.out.2.1.up hb1).newOut (hO.keep (fun _ _ => rfl) (fun b hb => newRole_dat hBw0 hb)) l1 l2 l3 l4
  have hB1 := Blk.below H0.out.1 hb1 hP
  have x0 := hE.cell 0 (v := .int .i64 o'.next) rfl; have x1 := hE.cell 1 (v := .slice A1 n1 c1) rfl; have x2 := hE.cell 2 (v := .slice A2 n2 c2) rfl
  have q0 := Blk.cell hB1 0 (v := .int .i64 s.o.next) rfl; have q1 := Blk.cell hB1 1 (v := .slice AS nS cS) rfl; have q2 := Blk.cell hB1 2 (v := .slice AW nW cW) rfl
  have fP := Blk.frozen hB1
  have lP := Blk.lt hB1
  have hPE : P ≠ E := by omega
  have hsd : Sl Rit w1 (Dat w1 B (newRole w0 ρ)) T l := hsl.keep (fun _ _ => rfl) (fun b hb => newRole_dat hBw0 hb)
  have H1 := Lib.hid (And.intro hM1 (And.intro hB1 (And.intro hsd (And.intro ht (And.intro (hb1.mono hBw0) hb1)))))
  clear hM1 hB1 hE hO l1 l2 l3 l4 ht hsl hsd hb1
  go_upto_region 10 with fail
  obtain ⟨w2, hw2⟩ : ∃ w2, (((w1.setCell ⟨P, 0, none⟩ (.int .i64 o'.next)).setCell ⟨P, 1, none⟩ (.slice A1 n1 c1)).setCell ⟨P, 2, none⟩ (.slice A2 n2 c2)) = w2 := ⟨_, rfl⟩
  have hM2 := ((H1.out.1.set 0 (.int .i64 o'.next)).set 1 (.slice A1 n1 c1)).set 2 (.slice A2 n2 c2)
  have hB2 := Blk.set (Blk.set (Blk.set H1.out.2.1 0 (.int .i64 o'.next)) 1 (.slice A1 n1 c1)) 2 (.slice A2 n2 c2)
  have hbb2 := ((H1.out.2.2.2.2.1.setCell (p := ⟨P, 0, none⟩) hBP (.int .i64 o'.next)).setCell (p := ⟨P, 1, none⟩) hBP (.slice A1 n1 c1)).setCell (p := ⟨P, 2, none⟩) hBP (.slice A2 n2 c2)
  have hsl2 : Sl Rit w2 (Dat w2 B (newRole w0 ρ)) T l := by
    rw [← hw2]
    exact H1.out.2.2.1.keep (fun p hp => World.cell?_of_block ((Below.heap_setCell _ ⟨P, 2, none⟩ _ _ (datP H1.out.1 hp 2)).trans ((Below.heap_setCell _ ⟨P, 1, none⟩ _ _ (datP H1.out.1 hp 1)).trans (Below.heap_setCell _ ⟨P, 0, none⟩ _ _ (datP H1.out.1 hp 0))))) (fun b hb => ⟨hb.1, by simpa [World.setCell] using hb.2.1, hb.2.2⟩)
  rw [hw2] at hM2 hB2 hbb2 ⊢
  obtain ⟨cells, hel, hce⟩ := hsl2.inRow
  have p5 := Blk.cell hB2 5 (v := .slice AI nI cI) rfl
  have fP2 := Blk.frozen hB2
  have lP2 := Blk.lt hB2
  have hBw2 : B ≤ w2.heap.size := by omega
  have H2 := Lib.hid (And.intro hM2 (And.intro hB2 (And.intro hbb2 (And.intro hel (And.intro hce hw2)))))
  clear hM2 hB2 hbb2 hel hce hsl2 hw2 fP lP q0 q1 q2 x0 x1 x2 z1
  go_upto_region 11 with (first
    | (at_builtin
       go_loud (skip
                refine wpList_append_own' _ rfl (.tmp 82) (.tmp 83) _ rfl ei_items (R := Rit) _ rfl H2.out.1.items.1 (Dat.own H2.out.1.items.2 (by omega)) T t tc (ys := l) rfl H1.out.2.2.2.1 H2.out.2.2.2.2.1 H2.out.2.2.2.1 (le40 (by have := H1.out.2.2.2.1; have := H0.out.2.2.1.items; show s.items.length + t ≤ _; omega)) (lim1 (by have := H1.out.2.2.2.1; have := H0.out.2.2.1.items; show s.items.length + t ≤ _; omega)) hBw2 ?_
                intro v' w3 ho3 hg3 hat3
                obtain ⟨ρ3, hr3, hM3⟩ := H2.out.1.moreItems ho3 hg3 hat3
                obtain ⟨A3, c3, rfl⟩ := ho3.form
                obtain ⟨n3, hn3⟩ : ∃ n3, (s.items ++ l).length = n3 := ⟨_, rfl⟩
                have hn3' : (({ s with o := o' } : Wy).items ++ l).length = n3 := hn3
                rw [hn3'] at hM3 ⊢
                have hB3 := (H2.out.1.grownP H2.out.1.items.2 (by omega) hg3).trans H2.out.2.1
                have p5' := Blk.cell hB3 5 (v := .slice AI nI cI) rfl
                have fP3 := Blk.frozen hB3
                have H3 := Lib.hid (And.intro hM3 (And.intro hB3 (And.intro hn3 (H2.out.2.2.1.grown hg3 hBw2 (fun g hg => (H2.out.1.items.1.lt hg).1)))))
                have HR3 := Lib.hid (And.intro hr3 (And.intro (frame_but H2.out.1.items.2 hg3) hg3.size))
                clear ho3 hg3 hat3 hM3 hB3 hn3 hn3' hr3)))
  obtain ⟨w4, hw4⟩ : ∃ w4, w3.setCell ⟨P, 5, none⟩ (.slice A3 n3 c3) = w4 := ⟨_, rfl⟩
  have hM4 := H3.out.1.set 5 (.slice A3 n3 c3)
  have hB4 := Blk.set H3.out.2.1 5 (.slice A3 n3 c3)
  have hbb4 := H3.out.2.2.2.setCell (p := ⟨P, 5, none⟩) hBP (.slice A3 n3 c3)
  rw [hw4] at hM4 hB4 hbb4 ⊢
  have p7 := Blk.cell hB4 7 (v := .slice AB nB cB) rfl
  have fP4 := Blk.frozen hB4
  have lP4 := Blk.lt hB4
  have hBw4 : B ≤ w4.heap.size := by omega
  have hTd2 : Sl (Rint .u8) w2 (Dat w2 B (newRole w0 ρ)) (some ⟨w.heap.size, 0, none⟩) [b0, b1] := by
    have h9 : Sl (Rint .u8) w1 (Dat w1 B (newRole w0 ρ)) (some ⟨w.heap.size, 0, none⟩) [b0, b1] := H0.out.2.2.2.1.keep (fun p hp => H1.out.2.2.2.2.2.cell hp.2.1) (fun b hb => ⟨hb.1, Nat.lt_of_lt_of_le hb.2.1 H1.out.2.2.2.2.2.size, by rw [newRole_old hb.2.1]; exact hb.2.2⟩)
    rw [← H2.out.2.2.2.2.2]
    exact h9.keep (fun p hp => World.cell?_of_block ((Below.heap_setCell _ ⟨P, 2, none⟩ _ _ (datP H1.out.1 hp 2)).trans ((Below.heap_setCell _ ⟨P, 1, none⟩ _ _ (datP H1.out.1 hp 1)).trans (Below.heap_setCell _ ⟨P, 0, none⟩ _ _ (datP H1.out.1 hp 0))))) (fun b hb => ⟨hb.1, by simpa [World.setCell] using hb.2.1, hb.2.2⟩)
  have hTd3 : Sl (Rint .u8) w3 (Dat w3 B ρ3) (some ⟨w.heap.size, 0, none⟩) [b0, b1] := hTd2.keep (fun p hp => World.cell?_of_block (HR3.out.2.1 p.block hp.2.1 (by rw [hp.2.2]; omega))) (fun b hb => ⟨hb.1, Nat.lt_of_lt_of_le hb.2.1 HR3.out.2.2, by rw [HR3.out.1 b hb.2.1]; exact hb.2.2⟩)
  have hTd4 : Sl (Rint .u8) w4 (Dat w4 B ρ3) (some ⟨w.heap.size, 0, none⟩) [b0, b1] := by
    rw [← hw4]
    exact hTd3.keep (fun p hp => World.cell?_of_block (Below.heap_setCell _ ⟨P, 5, none⟩ _ _ (datP H3.out.1 hp 5))) (fun b hb => ⟨hb.1, by simpa [World.setCell] using hb.2.1, hb.2.2⟩)
  have hba : RowKit.Below w4.heap.size w4 (w4.alloc (.cells #[.slice (some ⟨w.heap.size, 0, none⟩) 2 2] 25)) := (Below.refl _ _).alloc (Nat.le_refl _) _
  have hTd5 : Sl (Rint .u8) (w4.alloc (.cells #[.slice (some ⟨w.heap.size, 0, none⟩) 2 2] 25)) (Dat (w4.alloc (.cells #[.slice (some ⟨w.heap.size, 0, none⟩) 2 2] 25)) B (newRole w4 ρ3)) (some ⟨w.heap.size, 0, none⟩) [b0, b1] := hTd4.keep (fun p hp => hba.cell hp.2.1) (fun b hb => ⟨hb.1, Nat.lt_of_lt_of_le hb.2.1 hba.size, by rw [newRole_old hb.2.1]; exact hb.2.2⟩)
  have H4 := Lib.hid (And.intro hM4 (And.intro hB4 hbb4))
  have HA := Lib.hid (And.intro (hM4.up hba) (And.intro hba hTd5))
  clear hM4 hB4 hbb4 hw4 hTd2 hTd3 hTd4 hTd5 hba p5 p5' fP2 fP3 lP2
  go_wp2_with (first
    | (at_builtin
       go_loud (skip
                refine wpList_append_own' _ rfl (.tmp 91) (.tmp 93) _ rfl ei_bodies' (R := Rbd) _ rfl HA.out.1.sent.1 (Dat.own HA.out.1.sent.2 (by omega)) (some _) 1 1 (ys := [[b0, b1]]) rfl rfl (cellsNew (by simp)) (Elems.one (R := Rbd) (x := [b0, b1]) ⟨some ⟨w.heap.size, 0, none⟩, 2, rfl, Nat.le_refl _, by decide, HA.out.2.2⟩) (le24 (by have := H.out.1.sent; show s.sent.length + 1 ≤ _; omega)) (lim1 (by have := H.out.1.sent; show s.sent.length + 1 ≤ _; omega)) (by simp; omega) ?_
                intro v' w5 ho5 hg5 hat5
                obtain ⟨ρ5, -, hM5⟩ := HA.out.1.moreSent ho5 hg5 hat5
                obtain ⟨A5, c5, rfl⟩ := ho5.form
                obtain ⟨n5, hn5⟩ : ∃ n5, (s.sent ++ [[b0, b1]]).length = n5 := ⟨_, rfl⟩
                have hn5' : (({ { s with o := o' } with items := s.items ++ l } : Wy).sent ++ [[b0, b1]]).length = n5 := hn5
                rw [hn5'] at hM5 ⊢
                have hB5 := (HA.out.1.grownP HA.out.1.sent.2 (by omega) hg5).trans ((HA.out.2.1.block P lP4).trans H4.out.2.1)
                have p7' := Blk.cell hB5 7 (v := .slice AB nB cB) rfl
                have fP5 := Blk.frozen hB5
                have H5 := Lib.hid (And.intro hM5 (And.intro hB5 (And.intro hn5 ((H4.out.2.2.alloc hBw4 (.cells #[.slice (some ⟨w.heap.size, 0, none⟩) 2 2] 25)).grown hg5 (by simp; omega) (fun g hg => (HA.out.1.sent.1.lt hg).1)))))
                clear ho5 hg5 hat5 hM5 hB5 hn5 hn5')))
  go_end0
  refine ⟨⟨_, rfl⟩, ?_, (H0.out.2.2.2.2.1.trans H5.out.2.2.2).setCell (p := ⟨P, 7, none⟩) hBP _⟩
  rw [H0.out.2.2.2.2.2]
  exact ⟨ρ5, A1, n1, c1, A2, n2, c2, AH, nH, cH, A3, n3, c3, AA, nA, cA, A5, n5, c5, AT, nT, cT, Blk.set H5.out.2.1 7 _, H5.out.1.set 7 _, H3.out.2.2.1, H.out.2.2.1, H5.out.2.2.1, H.out.2.2.2.2.1⟩
end Go.Proofs.Ytalieakmjkmbbaa

