/-
  StorePops: the plain law, the walk.
-/
import Derived.Test.YtcmdmmphakclmaaStoreK
namespace Go.Proofs.Ytcmdmmphakclmaa
open Go.RowKit Go.Sort
set_option linter.unusedVariables false

/-! ### plain -/
theorem popIn_len (s : St) (c : Nat) (rest : List Lt) : (popIn s c rest).boxes.length = s.boxes.length := by simp [popIn]
theorem popIn_box {s : St} {c : Nat} (h : c < s.boxes.length) (rest : List Lt) : boxOf (popIn s c rest) (c : Int) = rest := by
  simp [boxOf, popIn, List.getD_eq_getElem?_getD, h]
theorem popIn_popIn (s : St) (c : Nat) (a b : List Lt) : popIn (popIn s c a) c b = popIn s c b := by simp [popIn]
theorem popIn_self {s : St} {c : Nat} {box : List Lt} (h : s.boxes[c]? = some box) : popIn s c box = s := by
  obtain ⟨h1, h2⟩ := List.getElem?_eq_some_iff.1 h
  cases s
  simp only [popIn] at *
  subst h2
  simp
theorem check_popIn {s : St} {c : Nat} {box rest : List Lt} (hc : checkB s = true) (h : s.boxes[c]? = some box) (hr : ∀ y ∈ rest, y ∈ box) : checkB (popIn s c rest) = true := by
  unfold checkB at hc ⊢
  simp only [Bool.and_eq_true, decide_eq_true_eq, List.all_eq_true] at hc ⊢
  refine ⟨by simp [popIn]; omega, fun b hb => ?_⟩
  rcases List.mem_or_eq_of_mem_set hb with hb | rfl
  · exact hc.2 b hb
  · have := hc.2 _ (List.mem_of_getElem? h)
    unfold boxOk at this ⊢
    rw [List.all_eq_true] at this ⊢
    exact fun y hy => this y (hr y hy)
theorem popR_popIn {s : St} {c : Nat} {box rest : List Lt} (hc : checkB s = true) (h : s.boxes[c]? = some box) (hr : ∀ y ∈ rest, y ∈ box) : popR (popIn s c rest) (c : Int) = popB (popIn s c rest) c rest := by
  have h1 := (List.getElem?_eq_some_iff.1 h).1
  unfold popR
  rw [if_pos (check_popIn hc h hr), if_neg (by rw [popIn_len]; omega), popIn_box h1, Int.toNat_natCast]
theorem pops_step {s : St} {c k : Nat} {box : List Lt} {y : Lt} (hc : checkB s = true) (h : s.boxes[c]? = some box) (hy : box[k]? = some y) : popR (popIn s c (box.drop k)) (c : Int) = (popIn s c (box.drop (k + 1)), y, 0) := by
  obtain ⟨h1, h2⟩ := List.getElem?_eq_some_iff.1 hy
  rw [popR_popIn hc h (fun y hy => List.mem_of_mem_drop hy), List.drop_eq_getElem_cons h1, h2]
  show (popIn (popIn s c _) c (box.drop (k + 1)), y, (0 : Int)) = _
  rw [popIn_popIn]
theorem pops_end {s : St} {c : Nat} {box : List Lt} (hc : checkB s = true) (h : s.boxes[c]? = some box) : popR (popIn s c []) (c : Int) = (noSt, noLt, 6) := by
  rw [popR_popIn hc h (fun y hy => by simp at hy)]; rfl
theorem pops_back {s : St} {c : Nat} {box : List Lt} (h : s.boxes[c]? = some box) : (popIn s c []).boxes.set c box = s.boxes := by
  have := congrArg St.boxes (popIn_self h)
  simpa [popIn] using this

/-! ### the walk -/
def LawMem1 (w W : World) (s0 s1 : Value) : Prop := Blk W w.heap.size 28 #[s0, s1] ∧ Below w.heap.size w W ∧ w.heap.size + 1 ≤ W.heap.size
theorem LawMem1.start (w : World) (s0 s1 : Value) : LawMem1 w (w.alloc (.cells #[s0, s1] 28)) s0 s1 := ⟨Blk.new _ _ _ rfl, (Below.refl _ _).alloc (Nat.le_refl _) _, by simp⟩
theorem LawMem1.up {w W W' : World} {s0 s1 : Value} (h : LawMem1 w W s0 s1) (hb : Below W.heap.size W W') : LawMem1 w W' s0 s1 :=
  ⟨h.1.below hb (by have := h.2.2; omega), h.2.1.trans (hb.mono (by have := h.2.2; omega)), Nat.le_trans h.2.2 hb.size⟩
theorem LawMem1.alloc {w W : World} {s0 s1 : Value} (h : LawMem1 w W s0 s1) (o : Obj) : LawMem1 w (W.alloc o) s0 s1 := h.up ((Below.refl _ _).alloc (Nat.le_refl _) _)
theorem LawMem1.cells {w W : World} {s0 s1 : Value} (h : LawMem1 w W s0 s1) : W.cell? ⟨w.heap.size, 0, none⟩ = some s0 ∧ W.cell? ⟨w.heap.size, 1, none⟩ = some s1 ∧ w.heap.size < W.heap.size :=
  ⟨h.1.cell 0 rfl, h.1.cell 1 rfl, h.2.2⟩
set_option maxHeartbeats 1000000 in
theorem pops_bad (A : Option Addr) (n cap : Nat) (B : Option Addr) (m cap' : Nat) (s : St) (c : Int) (w : World) (hs : StArg w A n cap B m cap' s) (hc : checkB s = false) :
    Calls Try.prog 8 #[.agg #[.slice A n cap, .slice B m cap'], .int .i64 c] w fun e w' => e = .returned (.bool true) ∧ Below w.heap.size w w' := by
  have HC := Lib.hid (show errArg (checkB s) = 1 by rw [hc]; rfl); have HS := Lib.hid hs; clear hc hs
  go_enter Try.func8, Try.ntmps8
  go_wp2_with (first
        | (go_at_call 9
           go_loud (skip
                    refine (live_any _).mono ?_
                    rintro e w1 ⟨rfl, hb1⟩
                    have HM1 := Lib.hid ((LawMem1.start w (.slice A n cap) (.slice B m cap')).up hb1)
                    obtain ⟨a0, a1, z0⟩ := HM1.out.cells
                    clear hb1))
        | (go_at_call 14
           go_loud (skip
                    refine (few_any A n cap B m cap' s _ (HS.out.at_.below HM1.out.2.1 HM1.out.2.1.size) HS.out.m64).mono ?_
                    rintro e w2 ⟨⟨few, rfl⟩, hb2⟩
                    have HM2 := Lib.hid (HM1.out.up hb2)
                    clear a0 a1 z0
                    obtain ⟨a0, a1, z0⟩ := HM2.out.cells
                    clear hb2))
        | (go_at_call 15
           go_loud (skip
                    refine (check_any A n cap B m cap' s _ (HS.out.at_.below HM2.out.2.1 HM2.out.2.1.size)).mono ?_
                    rw [HC.out]
                    rintro e w3 ⟨rfl, hb3⟩
                    have HM3 := Lib.hid (HM2.out.up hb3)
                    clear a0 a1 z0
                    obtain ⟨a0, a1, z0⟩ := HM3.out.cells
                    clear hb3))
    )
  all_goals go_ret
  all_goals first | exact ⟨rfl, HM3.out.2.1⟩ | exact ⟨rfl, HM2.out.2.1⟩
set_option maxHeartbeats 1000000 in
theorem pops_out (A : Option Addr) (n cap : Nat) (B : Option Addr) (m cap' : Nat) (s : St) (c : Int) (w : World) (hs : StArg w A n cap B m cap' s) (hc : checkB s = true) (d1 : decide (c < 0) = true) :
    Calls Try.prog 8 #[.agg #[.slice A n cap, .slice B m cap'], .int .i64 c] w fun e w' => e = .returned (.bool true) ∧ Below w.heap.size w w' := by
  have HC := Lib.hid (show errArg (checkB s) = 0 by rw [hc]; rfl); have HS := Lib.hid hs; clear hc hs
  go_enter Try.func8, Try.ntmps8
  go_wp2_with (first
        | (go_at_call 9
           go_loud (skip
                    refine (live_any _).mono ?_
                    rintro e w1 ⟨rfl, hb1⟩
                    have HM1 := Lib.hid ((LawMem1.start w (.slice A n cap) (.slice B m cap')).up hb1)
                    obtain ⟨a0, a1, z0⟩ := HM1.out.cells
                    clear hb1))
        | (go_at_call 14
           go_loud (skip
                    refine (few_any A n cap B m cap' s _ (HS.out.at_.below HM1.out.2.1 HM1.out.2.1.size) HS.out.m64).mono ?_
                    rintro e w2 ⟨⟨few, rfl⟩, hb2⟩
                    have HM2 := Lib.hid (HM1.out.up hb2)
                    clear a0 a1 z0
                    obtain ⟨a0, a1, z0⟩ := HM2.out.cells
                    clear hb2))
        | (go_at_call 15
           go_loud (skip
                    refine (check_any A n cap B m cap' s _ (HS.out.at_.below HM2.out.2.1 HM2.out.2.1.size)).mono ?_
                    rw [HC.out]
                    rintro e w3 ⟨rfl, hb3⟩
                    have HM3 := Lib.hid (HM2.out.up hb3)
                    clear a0 a1 z0
                    obtain ⟨a0, a1, z0⟩ := HM3.out.cells
                    clear hb3))
    )
  all_goals go_ret
  all_goals first | exact ⟨rfl, HM3.out.2.1⟩ | exact ⟨rfl, HM2.out.2.1⟩
set_option maxHeartbeats 1000000 in
theorem pops_out2 (A : Option Addr) (n cap : Nat) (B : Option Addr) (m cap' : Nat) (s : St) (c : Nat) (w : World) (hs : StArg w A n cap B m cap' s) (hc : checkB s = true) (d1 : decide (m ≤ c) = true) :
    Calls Try.prog 8 #[.agg #[.slice A n cap, .slice B m cap'], .int .i64 (c : Int)] w fun e w' => e = .returned (.bool true) ∧ Below w.heap.size w w' := by
  have HC := Lib.hid (show errArg (checkB s) = 0 by rw [hc]; rfl); have HS := Lib.hid hs; clear hc hs
  go_enter Try.func8, Try.ntmps8
  go_wp2_with (first
        | (go_at_call 9
           go_loud (skip
                    refine (live_any _).mono ?_
                    rintro e w1 ⟨rfl, hb1⟩
                    have HM1 := Lib.hid ((LawMem1.start w (.slice A n cap) (.slice B m cap')).up hb1)
                    obtain ⟨a0, a1, z0⟩ := HM1.out.cells
                    clear hb1))
        | (go_at_call 14
           go_loud (skip
                    refine (few_any A n cap B m cap' s _ (HS.out.at_.below HM1.out.2.1 HM1.out.2.1.size) HS.out.m64).mono ?_
                    rintro e w2 ⟨⟨few, rfl⟩, hb2⟩
                    have HM2 := Lib.hid (HM1.out.up hb2)
                    clear a0 a1 z0
                    obtain ⟨a0, a1, z0⟩ := HM2.out.cells
                    clear hb2))
        | (go_at_call 15
           go_loud (skip
                    refine (check_any A n cap B m cap' s _ (HS.out.at_.below HM2.out.2.1 HM2.out.2.1.size)).mono ?_
                    rw [HC.out]
                    rintro e w3 ⟨rfl, hb3⟩
                    have HM3 := Lib.hid (HM2.out.up hb3)
                    clear a0 a1 z0
                    obtain ⟨a0, a1, z0⟩ := HM3.out.cells
                    clear hb3))
    )
  all_goals go_ret
  all_goals first | exact ⟨rfl, HM3.out.2.1⟩ | exact ⟨rfl, HM2.out.2.1⟩
theorem LawMem1.setc {w W : World} {s0 s1 : Value} (h : LawMem1 w W s0 s1) {p : Addr} (hp : w.heap.size < p.block) (u : Value) : LawMem1 w (W.setCell p u) s0 s1 :=
  ⟨h.1.far (by omega) u, h.2.1.setCell (by omega) u, by simpa [World.setCell] using h.2.2⟩
/-- The loop's relation: 'now' lies in block N and reads as s with its box cut. -/
def PopsRel (w W : World) (N : Nat) (A1 : Option Addr) (n1 : Nat) (B1 : Option Addr) (m1 : Nat) (x : St) (s0 s1 : Value) : Prop :=
  StAt W (fun b => b < W.heap.size ∧ b ≠ N) A1 n1 B1 m1 x ∧ StFit 140737488355328 x ∧ LawMem1 w W s0 s1 ∧ w.heap.size < N
theorem StAt.more {w : World} {S S' : Nat → Prop} {A : Option Addr} {n : Nat} {B : Option Addr} {m : Nat} {s : St} (h : StAt w S A n B m s) (hs : ∀ b, S b → S' b) : StAt w S' A n B m s := h.keep (fun _ _ => rfl) hs
theorem pops_same {w w5 w9 : World} {N g9 c9 n1 m1 c q qc : Nat} {tb : TypeId} {A1 B1 T : Option Addr} {s : St} {box : List Lt} (hst : StAt w5 (fun b => b < w5.heap.size ∧ b ≠ N) A1 n1 B1 m1 (popIn s c [])) (hf9 : Fill (Rsl 56 Rlt) w9 (fun b => b < w5.heap.size ∧ b ≠ N) g9 tb c9 (popIn s c []).boxes)
    (hb59 : Below w5.heap.size w5 w9) (hg9 : w5.heap.size ≤ g9) (hN : N < w5.heap.size) (hbx : s.boxes[c]? = some box) (hT : Sl Rlt w (lo w.heap.size) T box) (hbw5 : Below w.heap.size w w5) (hwN : w.heap.size < N) (hq : box.length = q) (hqc : q ≤ qc) (hqm : qc ≤ maxLen) (hm1 : s.boxes.length = m1) (u : Value) :
    StAt (((w9.setCell ⟨N, 1, none⟩ u).drew).setCell ⟨g9, c, none⟩ (.slice T q qc)) (lo (((w9.setCell ⟨N, 1, none⟩ u).drew).setCell ⟨g9, c, none⟩ (.slice T q qc)).heap.size) A1 n1 (some ⟨g9, 0, none⟩) m1 s := by
  have hz := hb59.size
  have hgl := hf9.lt
  subst hq
  have hcl : c < (popIn s c []).boxes.length := by rw [popIn_len]; exact (List.getElem?_eq_some_iff.1 hbx).1
  have hsz : (((w9.setCell ⟨N, 1, none⟩ u).drew).setCell ⟨g9, c, none⟩ (.slice T box.length qc)).heap.size = w9.heap.size := by simp [World.setCell]
  have k1 : Sl (Rint .u64) w9 (fun b => b < w5.heap.size ∧ b ≠ N) A1 s.last := hst.last.keep (fun p hp => hb59.cell hp.1) (fun _ h => h)
  have k2 := k1.set (p := ⟨N, 1, none⟩) (fun h => h.2 rfl) u
  have k3 : Sl (Rint .u64) (w9.setCell ⟨N, 1, none⟩ u).drew (fun b => b < w5.heap.size ∧ b ≠ N) A1 s.last := k2.keep (fun _ _ => rfl) (fun _ h => h)
  have k4 := k3.set (p := ⟨g9, c, none⟩) (fun h => by have := h.1; dsimp only at this; omega) (.slice T box.length qc)
  have f1 := hf9.far (p := ⟨N, 1, none⟩) (by simp; omega) (fun h => h.2 rfl) u
  have f2 : Fill (Rsl 56 Rlt) (w9.setCell ⟨N, 1, none⟩ u).drew (fun b => b < w5.heap.size ∧ b ≠ N) g9 tb c9 (popIn s c []).boxes := f1.keep rfl (fun _ _ => rfl) (fun _ h => h)
  have hT9 : Sl Rlt (w9.setCell ⟨N, 1, none⟩ u).drew (fun b => b < w5.heap.size ∧ b ≠ N) T box :=
    hT.keep (fun p hp => (World.cell?_setCell_other _ _ _ _ (fun e => by subst e; have : N < w.heap.size := hp; omega)).trans ((hb59.cell (Nat.lt_of_lt_of_le hp hbw5.size)).trans (hbw5.cell hp))) (fun b hb => ⟨Nat.lt_of_lt_of_le hb hbw5.size, by have : b < w.heap.size := hb; omega⟩)
  have f3 := f2.put (i := c) hcl (x := box) (cs := [.slice T box.length qc]) ⟨T, qc, rfl, hqc, hqm, hT9⟩ (fun h => by have := h.1; omega)
  rw [show c * (Rsl 56 Rlt).size = c from Nat.mul_one c, pops_back hbx] at f3
  exact ⟨k4.more (fun b hb => by show b < _; rw [hsz]; have := hb.1; omega), hst.lastN, f3.sl (fun b hb => by show b < _; rw [hsz]; have := hb.1; omega) (by show g9 < _; rw [hsz]; exact hgl), hm1⟩
set_option maxHeartbeats 2000000 in
theorem pops_main (A : Option Addr) (n cap : Nat) (b off : Nat) (m cap' : Nat) (s : St) (c : Nat) (w : World) (hs : StArg w A n cap (some ⟨b, off, none⟩) m cap' s) (hc : checkB s = true) (hcm : c < m) (d1 : decide (m ≤ c) = false)
    (T : Option Addr) (q qc : Nat) (box : List Lt) (hbx : s.boxes[c]? = some box) (hq : box.length = q) (hqc : q ≤ qc) (hqm : qc ≤ maxLen) (hbl : b < w.heap.size) (hT : Sl Rlt w (lo w.heap.size) T box) (hx : w.cell? ⟨b, off + c, none⟩ = some (.slice T q qc)) :
    Calls Try.prog 8 #[.agg #[.slice A n cap, .slice (some ⟨b, off, none⟩) m cap'], .int .i64 (c : Int)] w fun e w' => e = .returned (.bool true) ∧ Below w.heap.size w w' := by
  have HC := Lib.hid (show errArg (checkB s) = 0 by rw [hc]; rfl); have HS := Lib.hid hs
  have HB := Lib.hid (And.intro hc (And.intro hbx (And.intro hq (And.intro hT (And.intro hqc hqm)))))
  have hq63 := maxLen_le (Nat.le_trans hqc hqm)
  clear hc hbx hq hT hqc hqm hs
  go_enter Try.func8, Try.ntmps8
  go_upto_region 5 with (first
        | (go_at_call 9
           go_loud (skip
                    refine (live_any _).mono ?_
                    rintro e w1 ⟨rfl, hb1⟩
                    have HM1 := Lib.hid ((LawMem1.start w (.slice A n cap) (.slice (some ⟨b, off, none⟩) m cap')).up hb1)
                    obtain ⟨a0, a1, z0⟩ := HM1.out.cells
                    clear hb1))
        | (go_at_call 14
           go_loud (skip
                    refine (few_any A n cap (some ⟨b, off, none⟩) m cap' s _ (HS.out.at_.below HM1.out.2.1 HM1.out.2.1.size) HS.out.m64).mono ?_
                    rintro e w2 ⟨⟨few, rfl⟩, hb2⟩
                    have HM2 := Lib.hid (HM1.out.up hb2)
                    clear a0 a1 z0
                    obtain ⟨a0, a1, z0⟩ := HM2.out.cells
                    clear hb2))
        | (go_at_call 15
           go_loud (skip
                    refine (check_any A n cap (some ⟨b, off, none⟩) m cap' s _ (HS.out.at_.below HM2.out.2.1 HM2.out.2.1.size)).mono ?_
                    rw [HC.out]
                    rintro e w3 ⟨rfl, hb3⟩
                    have HM3 := Lib.hid (HM2.out.up hb3)
                    clear a0 a1 z0
                    obtain ⟨a0, a1, z0⟩ := HM3.out.cells
                    clear hb3))
    )
  all_goals (try (go_ret; first | exact ⟨rfl, HM3.out.2.1⟩ | exact ⟨rfl, HM2.out.2.1⟩))
  have x0 := (HM3.out.2.1.cell (p := ⟨b, off + c, none⟩) hbl).trans hx
  have zb : b < w3.heap.size := by (have h9 := HM3.out.2.2; omega)
  have zN : w.heap.size < w3.heap.size := z0
  go_wp2
  go_loopw [42] (fun i wr => ∃ k : Nat, k ≤ q ∧ i = .int .i64 k ∧ ∃ A1 n1 cap1 B1 m1 cap1', Blk wr w3.heap.size 28 #[.slice A1 n1 cap1, .slice B1 m1 cap1'] ∧ n1 ≤ 9223372036854775807 ∧ m1 ≤ 9223372036854775807 ∧
    Hid (PopsRel w wr w3.heap.size A1 n1 B1 m1 (popIn s c (box.drop k)) (.slice A n cap) (.slice (some ⟨b, off, none⟩) m cap'))) (fun i _ => q - (intOf i).toNat)
  case atStart =>
    refine ⟨0, Nat.zero_le _, rfl, A, n, cap, _, m, cap', Blk.new _ _ _ rfl, HS.out.n64, HS.out.m64, ?_, by (rw [List.drop_zero, popIn_self HB.out.2.1]; exact HS.out.fit.mono (by omega)), HM3.out.alloc _, zN⟩
    rw [List.drop_zero, popIn_self HB.out.2.1]
    exact HS.out.at_.keep (fun p hp => (World.cell?_alloc_lt _ _ _ (Nat.lt_of_lt_of_le hp (by omega))).trans (HM3.out.2.1.cell hp)) (fun b hb => ⟨Nat.lt_of_lt_of_le hb (by simp; omega), by have h9 : b < w.heap.size := hb; omega⟩)
  case round =>
    clear a0 a1 z0 x0
    obtain ⟨k, hk, rfl, A1, n1, cap1, B1, m1, cap1', gN, hn63, hm63, hH⟩ := hrel
    obtain ⟨a0, a1, z0⟩ := hH.out.2.2.1.cells
    have x0 := gN.cell 0 (v := .slice A1 n1 cap1) rfl; have x1 := gN.cell 1 (v := .slice B1 m1 cap1') rfl; have fN := gN.frozen
    have zN1 : w3.heap.size < wr.heap.size := gN.lt
    have HN := Lib.hid gN
    clear gN
    by_cases hlt : k < q
    · have hy := List.getElem?_eq_getElem (l := box) (i := k) (by rw [HB.out.2.2.1]; exact hlt)
      generalize box[k]'(by rw [HB.out.2.2.1]; exact hlt) = y at hy
      obtain ⟨b', off', T', tn, tc, rfl, _, w1', w2', w3', htn, htl, htm, hts, y0, y1, y2, y3, y4⟩ := (HB.out.2.2.2.1.below hH.out.2.2.1.2.1 hH.out.2.2.1.2.1.size).letter hy
      have HY := Lib.hid (And.intro hy (And.intro htn hts))
      clear hy htn hts w1' w2' w3' htl htm
      go_wp2_with (first
        | (go_at_call 20
           go_loud (skip
                    refine (pop_any A1 n1 cap1 B1 m1 cap1' (popIn s c (box.drop k)) (c : Int) _ ((hH.out.1.more (fun b hb => hb.1)).below ((Below.refl _ _).alloc (Nat.le_refl _) _) (by simp)) hH.out.2.1).mono ?_
                    have hft := Lib.hid (hH.out.2.1.popR (c := (c : Int)))
                    rw [pops_step HB.out.1 HB.out.2.1 HY.out.1] at hft ⊢
                    rintro e w5 ⟨A2, n2, cap2, B2, m2, cap2', T2, tn2, tc2, rfl, hst, hc1, hc2, hc3, hc4, ht1, ht2, ht3, htx, hb5⟩
                    have gV := (Blk.new wr 34 #[.bool y.cover, .int .i64 y.fr, .int .i64 y.to, .int .u64 y.sq, .slice T' tn tc] rfl).below hb5 (by simp)
                    have v0 := gV.cell 0 (v := .bool y.cover) rfl; have v1 := gV.cell 1 (v := .int .i64 y.fr) rfl; have v2 := gV.cell 2 (v := .int .i64 y.to) rfl; have v3 := gV.cell 3 (v := .int .u64 y.sq) rfl; have v4 := gV.cell 4 (v := .slice T' tn tc) rfl
                    have zV : wr.heap.size < w5.heap.size := gV.lt
                    have HN5 := Lib.hid ((HN.out.alloc (.cells #[.bool y.cover, .int .i64 y.fr, .int .i64 y.to, .int .u64 y.sq, .slice T' tn tc] 34)).below hb5 (by simp; omega))
                    have HM5 := Lib.hid ((hH.out.2.2.1.alloc _).up hb5)
                    have HST := Lib.hid hst
                    have HTX := Lib.hid (And.intro ht1 (And.intro htx (HY.out.2.2.below (B' := w5.heap.size) (((Below.refl _ _).alloc (Nat.le_refl _) _).trans (hb5.mono (by simp))) (by omega))))
                    have h63 := maxLen_le (Nat.le_trans hc1 hc2); have h64 := maxLen_le (Nat.le_trans hc3 hc4)
                    clear hst hb5 gV ht1 ht2 ht3 htx hc1 hc2 hc3 hc4 a0 a1 z0 x0 x1 fN y0 y1 y2 y3 y4))
        | (go_at_call 17
           go_loud (skip
                    refine (r10same_any y.cover y.fr y.to y.sq T2 y.text tn2 tc2 HTX.out.1 y.cover y.fr y.to y.sq T' y.text tn tc HY.out.2.1 _ (HTX.out.2.1.below (((Below.refl _ _).alloc (Nat.le_refl _) _).alloc (by simp) _) (by simp; omega)) (HTX.out.2.2.below (((Below.refl _ _).alloc (Nat.le_refl _) _).alloc (by simp) _) (by simp; omega))).mono ?_
                    rw [show same5 y.cover y.cover y.fr y.fr y.to y.to y.sq y.sq y.text y.text = true by simp [same5]]
                    rintro e w7 ⟨rfl, hb7⟩
                    have gT := ((Blk.new w5 28 #[.slice A2 n2 cap2, .slice B2 m2 cap2'] rfl).alloc (.cells #[.bool y.cover, .int .i64 y.fr, .int .i64 y.to, .int .u64 y.sq, .slice T2 tn2 tc2] 34)).below hb7 (by simp; omega)
                    have t0 := gT.cell 0 (v := .slice A2 n2 cap2) rfl; have t1 := gT.cell 1 (v := .slice B2 m2 cap2') rfl
                    have gN7 := ((HN5.out.alloc (.cells #[.slice A2 n2 cap2, .slice B2 m2 cap2'] 28)).alloc (.cells #[.bool y.cover, .int .i64 y.fr, .int .i64 y.to, .int .u64 y.sq, .slice T2 tn2 tc2] 34)).below hb7 (by simp; omega)
                    have x0 := gN7.cell 0 (v := .slice A1 n1 cap1) rfl; have x1 := gN7.cell 1 (v := .slice B1 m1 cap1') rfl; have fN := gN7.frozen
                    have zN7 : w3.heap.size ≠ w5.heap.size := by omega
                    have HN7 := Lib.hid gN7
                    have HM7 := Lib.hid (((HM5.out.alloc _).alloc _).up hb7)
                    have H57 := Lib.hid (show Below w5.heap.size w5 w7 from ((((Below.refl _ _).alloc (Nat.le_refl _) _).alloc (by simp) _).trans (hb7.mono (by simp; omega))))
                    clear hb7 gT gN7 v0 v1 v2 v3 v4)))
      go_roundw
      case measure => simp [intOf]; omega
      case rel =>
        have hz := H57.out.size
        have p1 : StAt w7 (fun b => wr.heap.size + 1 ≤ b ∧ b < w5.heap.size) A2 n2 B2 m2 (popIn s c (box.drop (k + 1))) :=
          (HST.out.keep (fun p hp => H57.out.cell hp.2) (fun b hb => ⟨by have := hb.1; simpa using this, hb.2⟩))
        have g9 : ¬ (wr.heap.size + 1 ≤ w3.heap.size ∧ w3.heap.size < w5.heap.size) := by omega
        have p2 := (p1.setc (p := ⟨w3.heap.size, 0, none⟩) g9 (.slice A2 n2 cap2)).setc (p := ⟨w3.heap.size, 1, none⟩) g9 (.slice B2 m2 cap2')
        exact ⟨k + 1, by omega, by go_num, A2, n2, cap2, B2, m2, cap2', (HN7.out.set 0 _).set 1 _, h63, h64, p2.more (fun b hb => ⟨by have := hb.2; simp [World.setCell]; omega, by have := hb.1; omega⟩), hft.out, (HM7.out.setc zN _).setc zN _, zN⟩
    · obtain rfl : k = q := by omega
      have hH' : Hid (PopsRel w wr w3.heap.size A1 n1 B1 m1 (popIn s c []) (.slice A n cap) (.slice (some ⟨b, off, none⟩) m cap')) := by
        have h9 := hH
        rw [List.drop_of_length_le (by rw [HB.out.2.2.1]; exact Nat.le_refl _)] at h9
        exact h9
      clear hH
      obtain rfl : m1 = m := by rw [← hH'.out.1.boxesN, popIn_len, HS.out.at_.boxesN]
      go_upto_region 17 with (go_at_call 20
                              go_loud (skip
                                       refine (pop_any A1 n1 cap1 B1 m1 cap1' (popIn s c []) (c : Int) _ (hH'.out.1.more (fun b hb => hb.1)) hH'.out.2.1).mono ?_
                                       rw [pops_end HB.out.1 HB.out.2.1]
                                       rintro e w5 ⟨A2, n2, cap2, B2, m2, cap2', T2, tn2, tc2, rfl, _, _, _, _, _, _, _, _, _, hb5⟩
                                       have HM5 := Lib.hid (hH'.out.2.2.1.up hb5)
                                       have gN5 := HN.out.below hb5 zN1
                                       have HST := Lib.hid (hH'.out.1.keep (S' := fun b => b < w5.heap.size ∧ b ≠ w3.heap.size) (fun p hp => hb5.cell hp.1) (fun b hb => ⟨by have := hb.1; have := hb5.size; omega, hb.2⟩))
                                       clear a0 a1 z0 x0 x1 fN
                                       obtain ⟨a0, a1, z0⟩ := HM5.out.cells
                                       have x0 := gN5.cell 0 (v := .slice A1 n1 cap1) rfl; have x1 := gN5.cell 1 (v := .slice B1 m1 cap1') rfl; have fN := gN5.frozen
                                       have zN5 : w3.heap.size < w5.heap.size := gN5.lt
                                       have HN5 := Lib.hid gN5
                                       clear hb5 gN5))
      have zb5 : b < w5.heap.size := by omega
      have hmpos : 0 < m1 := by omega
      have hx5 := (HM5.out.2.1.cell (p := ⟨b, off + c, none⟩) hbl).trans hx
      have hst5 := HST.out
      obtain ⟨news, hel, hcat⟩ := hst5.boxes.inRow
      have hlen : (popIn s c []).boxes.length = m1 := hst5.boxesN
      have hby : m1 * 24 ≤ 140737488355328 := by (have h9 := hH'.out.2.1.boxes; rw [hlen] at h9; exact h9)
      have HEL := Lib.hid (And.intro hel (And.intro hlen hby)); have HCAT := Lib.hid hcat
      clear hst5 hel hcat hlen hby
      go_upto_region 18 with (at_builtin
                              go_loud (skip
                                       refine wpList_append_own' _ rfl (.const (.slice none 0 0)) (.tmp 82) _ rfl ei_boxes (.slice none 0 0) rfl (Own.nil (Rsl 56 Rlt) _ w5.heap.size 23 (fun b => b < w5.heap.size ∧ b ≠ w3.heap.size)) (fun b hb => ⟨Nat.lt_of_lt_of_le hb.1 (by simp; omega), by simp [Value.ownBlock]⟩) B1 m1 cap1' rfl HEL.out.2.1 (HCAT.out.up (((Below.refl _ _).alloc (Nat.le_refl _) _).alloc (by simp) _)) (HEL.out.1.keep (fun p hp => (World.cell?_alloc_lt _ _ _ (by have h9 := hp.1; simp; omega)).trans (World.cell?_alloc_lt _ _ _ hp.1)) (fun _ h => h)) (by simp; exact HEL.out.2.2) (by have h9 := HEL.out.2.2; simp [maxLen]; omega) (by simp; omega) ?_
                                       intro v9 w9 hown hgr hat
                                       obtain ⟨g9, c9, hv9, hg9, hgl9, hgm9, hf9⟩ := hown.fill (by simpa [HEL.out.2.1] using hmpos)
                                       rw [List.nil_append, HEL.out.2.1] at hv9
                                       subst hv9
                                       have hb9 : Below w5.heap.size w5 w9 := (((Below.refl _ _).alloc (Nat.le_refl _) _).alloc (by simp) _).grown hgr (by simp; omega) (fun g hg => by simp [Value.ownBlock] at hg)
                                       have gN9 := HN5.out.below hb9 zN5
                                       clear a0 a1 z0 x0 x1 fN hown hgr hat
                                       have HM9 := Lib.hid (HM5.out.up hb9)
                                       obtain ⟨a0, a1, z0⟩ := HM9.out.cells
                                       have x0 := gN9.cell 0 (v := .slice A1 n1 cap1) rfl; have x1 := gN9.cell 1 (v := .slice B1 m1 cap1') rfl; have fN := gN9.frozen
                                       have hx9 := (hb9.cell (p := ⟨b, off + c, none⟩) zb5).trans hx5
                                       rw [List.nil_append] at hf9 hgl9
                                       rw [HEL.out.2.1] at hgl9
                                       have fg := hf9.frozen
                                       have hz9 := hb9.size
                                       have hgw := hf9.lt
                                       have HF9 := Lib.hid (And.intro hf9 (And.intro hgl9 (And.intro hgm9 hg9)))
                                       have HB9 := Lib.hid hb9; have HN9 := Lib.hid gN9
                                       clear hb9 gN9 hf9 hgl9 hgm9))
      have e1 : (0 : Int) ≤ (c : Int) := by omega
      have e2 : (c : Int) < (m1 : Int) := by omega
      obtain ⟨u9, hu9⟩ := HF9.out.1.cell (i := c) (by show c < c9 * 1; have := HF9.out.2.1; omega)
      have HSM := Lib.hid (pops_same HST.out HF9.out.1 HB9.out HF9.out.2.2.2 zN5 HB.out.2.1 HB.out.2.2.2.1 HM5.out.2.1 zN HB.out.2.2.1 HB.out.2.2.2.2.1 HB.out.2.2.2.2.2 HS.out.at_.boxesN (.slice (some ⟨g9, 0, none⟩) m1 c9))
      have HSS := Lib.hid (HS.out.at_.below (B1 := (((w9.setCell ⟨w3.heap.size, 1, none⟩ (.slice (some ⟨g9, 0, none⟩) m1 c9)).drew).setCell ⟨g9, c, none⟩ (.slice T k qc)).heap.size) ((((HM9.out.setc (p := ⟨w3.heap.size, 1, none⟩) zN (.slice (some ⟨g9, 0, none⟩) m1 c9)).2.1.drew).setCell (p := ⟨g9, c, none⟩) (by have := HF9.out.2.2.2; simp; omega) (.slice T k qc))) (by have := HM9.out.2.2; simp [World.setCell]; omega))
      have HBW := Lib.hid ((((HM9.out.setc (p := ⟨w3.heap.size, 1, none⟩) zN (.slice (some ⟨g9, 0, none⟩) m1 c9)).2.1.drew).setCell (p := ⟨g9, c, none⟩) (by have := HF9.out.2.2.2; simp; omega) (.slice T k qc)))
      have y1 : w3.heap.size ≠ w.heap.size := by omega
      have y2 : w3.heap.size ≠ b := by omega
      have y3 : w3.heap.size ≠ g9 := by (have := HF9.out.2.2.2; omega)
      have y4 : g9 ≠ w.heap.size := by (have := HF9.out.2.2.2; omega)
      have y5 : g9 ≠ w3.heap.size := by omega
      have y6 : g9 ≠ b := by (have := HF9.out.2.2.2; omega)
      go_region
      all_goals go_wp2_with (go_at_call 16
                             go_loud (skip
                                      refine (same13_any A1 n1 cap1 (some ⟨g9, 0, none⟩) m1 c9 s A n cap (some ⟨b, off, none⟩) m1 cap' s _ HSM.out HSS.out hn63 hm63).mono ?_
                                      rw [sameSt_iff.2 rfl]
                                      rintro e w12 ⟨rfl, hb12⟩))
      all_goals go_ret
      all_goals exact ⟨rfl, HBW.out.trans (hb12.mono HBW.out.size)⟩
theorem pops_walk (A : Option Addr) (n cap : Nat) (B : Option Addr) (m cap' : Nat) (s : St) (c : Int) (w : World) (hs : StArg w A n cap B m cap' s) :
    Calls Try.prog 8 #[.agg #[.slice A n cap, .slice B m cap'], .int .i64 c] w fun e w' => e = .returned (.bool true) ∧ Below w.heap.size w w' := by
  by_cases hc : checkB s = true
  rotate_left
  · exact pops_bad A n cap B m cap' s c w hs (by simpa using hc)
  by_cases h0 : c < 0
  · exact pops_out A n cap B m cap' s c w hs hc (decide_eq_true h0)
  obtain ⟨k, rfl⟩ : ∃ k : Nat, c = k := ⟨c.toNat, by omega⟩
  by_cases h1 : m ≤ k
  · exact pops_out2 A n cap B m cap' s k w hs hc (decide_eq_true h1)
  have hm := hs.at_.boxesN
  have hbx := List.getElem?_eq_getElem (l := s.boxes) (i := k) (by omega)
  generalize s.boxes[k]'(by omega) = box at hbx
  obtain ⟨b, off, T, q, qc, rfl, hbl, hq, hl, hm', hT, x0⟩ := hs.at_.boxes.sub hbx
  exact pops_main A n cap b off m cap' s k w hs hc (by omega) (decide_eq_false h1) T q qc box hbx hq hl hm' hbl hT x0
end Go.Proofs.Ytcmdmmphakclmaa
