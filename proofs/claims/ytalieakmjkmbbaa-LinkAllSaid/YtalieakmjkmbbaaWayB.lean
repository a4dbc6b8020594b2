/-
  The way's method answer.
-/
import Derived.Test.YtalieakmjkmbbaaWayA
namespace Go.Proofs.Ytalieakmjkmbbaa
open Go.RowKit Go.Sort
set_option linter.unusedVariables false
attribute [local go_sem ↓] Go.wp_at_zero Go.wp_at_succ

/-- The way in memory, the blocks' roles named. -/
def WyBr (w : World) (B P : Nat) (win : Int) (ρ : Nat → Nat) (s : Wy) : Prop :=
  ∃ (AS : Option Addr) (nS cS : Nat) (AW : Option Addr) (nW cW : Nat) (AH : Option Addr) (nH cH : Nat) (AI : Option Addr) (nI cI : Nat) (AA : Option Addr) (nA cA : Nat) (AB : Option Addr) (nB cB : Nat) (AT : Option Addr) (nT cT : Nat),
    Blk w P 50 #[.int .i64 s.o.next, .slice AS nS cS, .slice AW nW cW, .int .i64 s.e, .slice AH nH cH, .slice AI nI cI, .slice AA nA cA, .slice AB nB cB, .slice AT nT cT, .int .i64 win, .int .i64 s.now] ∧
    WyM w B P ρ s AS nS cS AW nW cW AH nH (.slice AI nI cI) (.slice AA nA cA) (.slice AB nB cB) (.slice AT nT cT) ∧ s.items.length = nI ∧ s.acks.length = nA ∧ s.sent.length = nB ∧ s.told.length = nT
/-- The way in memory. -/
def WyB (w : World) (B P : Nat) (win : Int) (s : Wy) : Prop := ∃ ρ : Nat → Nat, WyBr w B P win ρ s
/-- What the walks want of the plain state. -/
structure WyF (s : Wy) : Prop where
  sz : s.o.sent.length + s.o.wait.length + 1 ≤ 3000000
  t1 : ∀ x ∈ s.o.sent, x.body.length ≤ 140737488355328
  t2 : ∀ x ∈ s.o.wait, x.length ≤ 140737488355328
  x0 : 0 ≤ s.o.next
  x1 : s.o.next ≤ 1000000
  now : 0 ≤ s.now ∧ s.now ≤ 1000000000
  tm : ∀ x ∈ s.o.sent, 0 ≤ x.tm ∧ x.tm ≤ 1000000000
  items : s.items.length ≤ 1000000
  acks : s.acks.length ≤ 1000000
  sent : s.sent.length ≤ 1000000
  told : s.told.length ≤ 1000000
  held : s.held.length ≤ 1000000
  t3 : ∀ x ∈ s.items, x.body.length ≤ 140737488355328
  t4 : ∀ x ∈ s.held, x.body.length ≤ 140737488355328
  e0 : 0 ≤ s.e
  e1 : s.e ≤ 1000000
  sq : ∀ x ∈ s.items, 0 ≤ x.sq ∧ x.sq ≤ 1000000
theorem Good.small {bs : List (List Int)} {nx : Nat} {x : It} (h : Good bs nx x) (ht : ∀ b ∈ bs, b.length ≤ 100) : x.body.length ≤ 100 := by
  obtain ⟨i, _, _, h3⟩ := h
  exact ht _ (List.mem_of_getElem? h3)
theorem WyI.fit {win : Int} {s : Wy} {lo nx ex : Nat} (h : WyI win s lo nx ex) (hw : win ≤ 20) (h1 : s.items.length ≤ 1000000) (h2 : s.acks.length ≤ 1000000) (h3 : s.now ≤ 1000000000) : WyF s := by
  have hle := h.nxle
  have hfew := h.few
  have hlen := h.len
  have hN := h.rowN
  have hexle := h.exle
  refine ⟨?_, fun x hx => ?_, fun x hx => ?_, by rw [h.next]; omega, by rw [h.next]; omega, ⟨h.now, h3⟩, fun x hx => ?_, h1, h2, by omega, ?_, by have := h.heldN; omega, fun x hx => ?_, fun x hx => ?_, by rw [h.exp]; omega, by rw [h.exp]; omega, fun x hx => ?_⟩
  · rw [h.wait, List.length_drop]; omega
  · have := (h.row.good x hx).small h.text; omega
  · rw [h.wait] at hx
    have := h.text x (List.mem_of_mem_drop hx); omega
  · have := h.tm x hx; omega
  · rw [h.told, List.length_take]; omega
  · have := (h.items x hx).small h.text; omega
  · have := (h.held x hx).small h.text; omega
  · obtain ⟨i, i1, i2, _⟩ := h.items x hx; omega
theorem lim1 {n : Nat} (h : n ≤ 3000000) : n ≤ maxLen := Nat.le_trans h (by decide)
theorem le24 {n : Nat} (h : n ≤ 3000000) : n * 24 ≤ 140737488355328 := Nat.le_trans (Nat.mul_le_mul_right 24 h) (by decide)
theorem le8 {n : Nat} (h : n ≤ 3000000) : n * 8 ≤ 140737488355328 := Nat.le_trans (Nat.mul_le_mul_right 8 h) (by decide)
theorem Dat.own {w : World} {B : Nat} {ρ : Nat → Nat} {v : Value} {i : Nat} (hv : ∀ g, v.ownBlock = some g → ρ g = i) (hi : i ≠ 5) : ∀ b, Dat w B ρ b → b < w.heap.size ∧ v.ownBlock ≠ some b := fun b hb => ⟨hb.2.1, fun e => hi (by rw [← hv b e]; exact hb.2.2)⟩
set_option maxRecDepth 100000 in
set_option maxHeartbeats 4000000 in
theorem answer_any (w : World) (B P : Nat) (win : Int) (s : Wy) (n : Int) (h : WyB w B P win s) (hf : WyF s) (hBw : B ≤ w.heap.size) (hl : (ackP s.o n win s.now).2.length ≤ 1000000) :
    Calls Try.prog 23 #[.pointer (some ⟨P, 0, none⟩), .int .i64 n] w fun en w' => (∃ v, en = .returned v) ∧ WyB w' B P win (s.ack n win) ∧ Below B w w' := by
  obtain ⟨ρ, AS, nS, cS, AW, nW, cW, AH, nH, cH, AI, nI, cI, AA, nA, cA, AB, nB, cB, AT, nT, cT, hB, hM, hnI, hnA, hnB, hnT⟩ := h
  have p0 := hB.cell 0 (v := .int .i64 s.o.next) rfl; have p1 := hB.cell 1 (v := .slice AS nS cS) rfl; have p2 := hB.cell 2 (v := .slice AW nW cW) rfl; have p9 := hB.cell 9 (v := .int .i64 win) rfl; have p10 := hB.cell 10 (v := .int .i64 s.now) rfl
  have hP := hB.lt
  have hBP := hM.hP.1
  have hnS := hM.out.sentN
  have hnW := hM.out.waitN
  have HC := Lib.hid (show ∀ w', RowKit.Below w.heap.size w w' → Calls Try.prog 18 #[.agg #[.int .i64 s.o.next, .slice AS nS cS, .slice AW nW cW], .int .i64 n, .int .i64 win, .int .i64 s.now] w' (OutRet (ackP s.o n win s.now).1 (ackP s.o n win s.now).2 w') from fun w' hb' =>
    ack_any w' s.o AS nS cS AW nW cW n win s.now (hM.out.keep (fun p hp => hb'.cell hp.2.1) (fun b hb => Nat.lt_of_lt_of_le hb.2.1 hb'.size)) hM.c1 hM.c2 (by have := hf.sz; omega) hf.t1 hf.t2 hf.x0 (by have := hf.x1; omega) (WalkArith.wf_i64 (by have := hf.now; omega)))
  have H0 := Lib.hid (And.intro hB (And.intro hM (And.intro hf (And.intro hnI (And.intro hnA (And.intro hnB hnT))))))
  clear hB hM hf hnI hnA hnB hnT hnS hnW
  go_enter Try.func23, Try.ntmps23
  go_upto_region 0 with fail
  obtain ⟨o', l, hol⟩ : ∃ o' l, ackP s.o n win s.now = (o', l) := ⟨_, _, rfl⟩
  rw [hol] at HC hl
  replace hl : l.length ≤ 1000000 := hl
  refine wy_ack w P n s.o.next s.now win AS nS cS AW nW cW o' l hP p0 p1 p2 p9 p10 HC.out ?_
  intro d6 d7 d8 d9 d10 d11 d12 d13 d14 d15 d16 d17 d18 d19 d20 d21 d22 E A1 n1 c1 A2 n2 c2 T t tc w1 hE hO l1 l2 l3 l4 ht hsl hb1 hwE
  have z1 := hb1.size
  have hM1 := (H0.out.2.1.up hb1).newOut (hO.keep (fun _ _ => rfl) (fun b hb => newRole_dat hBw hb)) l1 l2 l3 l4
  have hB1 := H0.out.1.below hb1 hP
  have x0 := hE.cell 0 (v := .int .i64 o'.next) rfl; have x1 := hE.cell 1 (v := .slice A1 n1 c1) rfl; have x2 := hE.cell 2 (v := .slice A2 n2 c2) rfl
  have q0 := hB1.cell 0 (v := .int .i64 s.o.next) rfl; have q1 := hB1.cell 1 (v := .slice AS nS cS) rfl; have q2 := hB1.cell 2 (v := .slice AW nW cW) rfl
  have fP := hB1.frozen
  have lP := hB1.lt
  have hPE : P ≠ E := by omega
  have hsd : Sl Rit w1 (Dat w1 B (newRole w ρ)) T l := hsl.keep (fun _ _ => rfl) (fun b hb => newRole_dat hBw hb)
  have H1 := Lib.hid (And.intro hM1 (And.intro hB1 (And.intro hsd (And.intro ht (hb1.mono hBw)))))
  clear hM1 hB1 hE hO l1 l2 l3 l4 ht hsl hsd hb1
  go_upto_region 2 with fail
  obtain ⟨w2, hw2⟩ : ∃ w2, (((w1.setCell ⟨P, 0, none⟩ (.int .i64 o'.next)).setCell ⟨P, 1, none⟩ (.slice A1 n1 c1)).setCell ⟨P, 2, none⟩ (.slice A2 n2 c2)) = w2 := ⟨_, rfl⟩
  have hM2 := ((H1.out.1.set 0 (.int .i64 o'.next)).set 1 (.slice A1 n1 c1)).set 2 (.slice A2 n2 c2)
  have hB2 := ((H1.out.2.1.set 0 (.int .i64 o'.next)).set 1 (.slice A1 n1 c1)).set 2 (.slice A2 n2 c2)
  have hbb2 := ((H1.out.2.2.2.2.setCell (p := ⟨P, 0, none⟩) hBP (.int .i64 o'.next)).setCell (p := ⟨P, 1, none⟩) hBP (.slice A1 n1 c1)).setCell (p := ⟨P, 2, none⟩) hBP (.slice A2 n2 c2)
  have hsl2 : Sl Rit w2 (Dat w2 B (newRole w ρ)) T l := by
    rw [← hw2]
    exact H1.out.2.2.1.keep (fun p hp => World.cell?_of_block ((Below.heap_setCell _ ⟨P, 2, none⟩ _ _ (by intro e9; rw [show p.block = P from e9] at hp; have := hp.2.2; rw [H1.out.1.role] at this; omega)).trans ((Below.heap_setCell _ ⟨P, 1, none⟩ _ _ (by intro e9; rw [show p.block = P from e9] at hp; have := hp.2.2; rw [H1.out.1.role] at this; omega)).trans (Below.heap_setCell _ ⟨P, 0, none⟩ _ _ (by intro e9; rw [show p.block = P from e9] at hp; have := hp.2.2; rw [H1.out.1.role] at this; omega))))) (fun b hb => ⟨hb.1, by simpa [World.setCell] using hb.2.1, hb.2.2⟩)
  rw [hw2] at hM2 hB2 hbb2 ⊢
  obtain ⟨cells, hel, hce⟩ := hsl2.inRow
  have p5 := hB2.cell 5 (v := .slice AI nI cI) rfl
  have fP2 := hB2.frozen
  have lP2 := hB2.lt
  have hBw2 : B ≤ w2.heap.size := by omega
  have H2 := Lib.hid (And.intro hM2 (And.intro hB2 (And.intro hbb2 (And.intro hel hce))))
  clear hM2 hB2 hbb2 hel hce hsl2 hw2 fP lP q0 q1 q2 x0 x1 x2 z1
  go_wp2_with (first
    | (at_builtin
       go_loud (skip
                refine wpList_append_own' _ rfl (.tmp 31) (.tmp 32) _ rfl ei_items (R := Rit) _ rfl H2.out.1.items.1 (Dat.own H2.out.1.items.2 (by omega)) T t tc (ys := l) rfl H1.out.2.2.2.1 H2.out.2.2.2.2 H2.out.2.2.2.1 (le40 (by have := H1.out.2.2.2.1; have := H0.out.2.2.1.items; show s.items.length + t ≤ _; omega)) (lim1 (by have := H1.out.2.2.2.1; have := H0.out.2.2.1.items; show s.items.length + t ≤ _; omega)) hBw2 ?_
                intro v' w3 ho3 hg3 hat3
                obtain ⟨ρ3, -, hM3⟩ := H2.out.1.moreItems ho3 hg3 hat3
                obtain ⟨A3, c3, rfl⟩ := ho3.form
                obtain ⟨n3, hn3⟩ : ∃ n3, (({ s with o := o' } : Wy).items ++ l).length = n3 := ⟨_, rfl⟩
                rw [hn3] at hM3 ⊢
                have hB3 := (H2.out.1.grownP H2.out.1.items.2 (by omega) hg3).trans H2.out.2.1
                have p5' := Blk.cell hB3 5 (v := .slice AI nI cI) rfl
                have fP3 := Blk.frozen hB3
                have H3 := Lib.hid (And.intro hM3 (And.intro hB3 (And.intro hn3 (H2.out.2.2.1.grown hg3 hBw2 (fun g hg => (H2.out.1.items.1.lt hg).1)))))
                clear ho3 hg3 hat3 hM3 hB3 hn3)))
  go_end0
  refine ⟨⟨_, rfl⟩, ?_, H3.out.2.2.2.setCell (p := ⟨P, 5, none⟩) hBP _⟩
  have hsA : s.ack n win = { { s with o := o' } with items := ({ s with o := o' } : Wy).items ++ l } := by simp [Wy.ack, hol]
  rw [hsA]
  exact ⟨ρ3, A1, n1, c1, A2, n2, c2, AH, nH, cH, A3, n3, c3, AA, nA, cA, AB, nB, cB, AT, nT, cT, (show Blk w3 P _ _ from H3.out.2.1).set 5 _, H3.out.1.set 5 _, H3.out.2.2.1, H0.out.2.2.2.2.1, H0.out.2.2.2.2.2.1, H0.out.2.2.2.2.2.2⟩
end Go.Proofs.Ytalieakmjkmbbaa
