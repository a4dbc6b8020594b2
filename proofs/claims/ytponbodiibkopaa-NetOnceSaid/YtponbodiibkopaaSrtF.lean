/-
  symMerge: the walk, by induction on the number of elements.
-/
import Derived.Test.YtponbodiibkopaaSrtE
namespace Go.Proofs.Ytponbodiibkopaa
open Go.RowKit Go.Sort
set_option linter.unusedVariables false

/-- symMerge's contract for K elements at most. -/
def SymC (K : Nat) : Prop := ∀ (w : World) (S : Nat → Prop) (g N n a m b : Nat) (P L R Q : List Fl), Fill Rfl w S g 37 N (P ++ (L ++ R) ++ Q) → RowS w S g → (P ++ (L ++ R) ++ Q).length = n → n ≤ 2305843009213693952 → P.length = a → a + L.length = m → m + R.length = b → SortedK Fl.tm L → SortedK Fl.tm R → 0 < L.length → 0 < R.length → L.length + R.length ≤ K →
    Calls Try.prog 28 #[.slice (some ⟨g, 0, none⟩) n N, .int .i64 (a : Nat), .int .i64 (m : Nat), .int .i64 (b : Nat), lessV] w (RowRet w S g N (PartRet P (L ++ R) Q))
set_option maxRecDepth 100000 in
set_option maxHeartbeats 4000000 in
theorem sym_left1 (w : World) (S : Nat → Prop) (g N n a m b : Nat) (P R Q : List Fl) (x : Fl) (hF : Fill Rfl w S g 37 N (P ++ ([x] ++ R) ++ Q)) (hS : RowS w S g) (hn : (P ++ ([x] ++ R) ++ Q).length = n) (hz : n ≤ 2305843009213693952) (hP : P.length = a) (hm : a + 1 = m) (hb : m + R.length = b) (hR : SortedK Fl.tm R) :
    Calls Try.prog 28 #[.slice (some ⟨g, 0, none⟩) n N, .int .i64 (a : Nat), .int .i64 (m : Nat), .int .i64 (b : Nat), lessV] w (RowRet w S g N (PartRet P ([x] ++ R) Q)) := by
  have hlen : b + Q.length = n := by rw [← hn]; simp; omega
  have d : ((m : Int) - (a : Int) == 1) = true := by simp; omega
  have hbn : b ≤ n := by omega
  have hmn : m ≤ n := by omega
  have han : a ≤ n := by omega
  have HX := Lib.hid (show Fill Rfl w S g 37 N (P ++ x :: (R ++ Q)) ∧ (P ++ x :: (R ++ Q)).length = n ∧ RowS w S g ∧ P.length = a ∧ a + 1 = m ∧ a + 1 + R.length = b ∧ SortedK Fl.tm R from ⟨by simpa using hF, by rw [← hn]; simp, hS, hP, hm, by omega, hR⟩)
  clear hF hS hn hP hm hb hR hlen
  go_enter Try.func28, Try.ntmps28
  go_upto_block 0 with fail
  refine sym_loop1 w S g N n a m b P R Q x HX.out.1 HX.out.2.2.1 HX.out.2.1 hz HX.out.2.2.2.1 HX.out.2.2.2.2.1 HX.out.2.2.2.2.2.1 HX.out.2.2.2.2.2.2 ?_
  intro d12 d31 d32 d33 d34 d35 d36 d37 d38 d39 d40 d41 d42 d43 d44 d45 d46 d47 d48 d49 d50 d51 d52 d53 w1 s i hi hO hF1 hC1
  have hs : s ≤ R.length := hO.rl
  have e : R.take s ++ (R.drop s ++ Q) = R ++ Q := by rw [← List.append_assoc, List.take_append_drop]
  have htl : (R.take s).length = s := by rw [List.length_take]; omega
  have H1 := Lib.hid (show Fill Rfl w1 S g 37 N (P ++ x :: (R.take s ++ (R.drop s ++ Q))) ∧ (P ++ x :: (R.take s ++ (R.drop s ++ Q))).length = n ∧ a + 1 + (R.take s).length = i ∧ OneS (fun y => y.tm < x.tm) (fun y => x.tm ≤ y.tm) R s s ∧ Chg g w w1 from ⟨by rw [e]; exact hF1, by rw [e]; exact HX.out.2.1, by rw [htl]; exact hi, hO, hC1⟩)
  clear hi hO hF1 hC1 hs e htl
  go_upto_block 2 with fail
  refine sym_walk1 w1 S g N n a i P (R.take s) (R.drop s ++ Q) x H1.out.1 (HX.out.2.2.1.up H1.out.2.2.2.2.bel.size) H1.out.2.1 hz HX.out.2.2.2.1 H1.out.2.2.1 ?_
  intro d13 d55 d56 d57 d58 d59 d60 d61 d62 d63 d64 d65 d66 d67 d68 d69 d70 d71 d72 d73 d74 d75 d76 w2 hF2 hC2
  have hmg := merge_left (key := Fl.tm) (x := x) (R1 := R.take s) (R2 := R.drop s) (by rw [List.take_append_drop]; exact HX.out.2.2.2.2.2.2) H1.out.2.2.2.1.lo H1.out.2.2.2.1.hi
  rw [List.take_append_drop] at hmg
  have HF := Lib.hid (show RowRet w S g N (PartRet P ([x] ++ R) Q) (.returned (.tuple #[])) w2 from ⟨rfl, _, ⟨R.take s ++ x :: R.drop s, by simp, hmg.1, hmg.2, by simp; omega⟩, hF2, H1.out.2.2.2.2.trans hC2⟩)
  clear hF2 hC2 hmg
  go_wp2
  refine bodyPost_ret (v := .tuple #[]) (by simp [results, Try.results28, go_sem]) rfl ?_
  exact HF.out
set_option maxRecDepth 100000 in
set_option maxHeartbeats 4000000 in
theorem sym_right1 (w : World) (S : Nat → Prop) (g N n a m b : Nat) (P L Q : List Fl) (y : Fl) (hF : Fill Rfl w S g 37 N (P ++ (L ++ [y]) ++ Q)) (hS : RowS w S g) (hn : (P ++ (L ++ [y]) ++ Q).length = n) (hz : n ≤ 2305843009213693952) (hP : P.length = a) (hm : a + L.length = m) (hb : m + 1 = b) (hL : SortedK Fl.tm L) (h1 : L.length ≠ 1) :
    Calls Try.prog 28 #[.slice (some ⟨g, 0, none⟩) n N, .int .i64 (a : Nat), .int .i64 (m : Nat), .int .i64 (b : Nat), lessV] w (RowRet w S g N (PartRet P (L ++ [y]) Q)) := by
  have hlen : b + Q.length = n := by rw [← hn]; simp; omega
  have d0 : ((m : Int) - (a : Int) == 1) = false := by simp; omega
  have d : ((b : Int) - (m : Int) == 1) = true := by simp; omega
  have hbn : b ≤ n := by omega
  have hmn : m ≤ n := by omega
  have han : a ≤ n := by omega
  have HX := Lib.hid (show Fill Rfl w S g 37 N (P ++ (L ++ y :: Q)) ∧ (P ++ (L ++ y :: Q)).length = n ∧ RowS w S g ∧ P.length = a ∧ a + L.length = m ∧ SortedK Fl.tm L from ⟨by simpa using hF, by rw [← hn]; simp, hS, hP, hm, hL⟩)
  clear hF hS hn hP hm hb hL hlen h1
  go_enter Try.func28, Try.ntmps28
  go_upto_block 4 with fail
  refine sym_loop4 w S g N n a m P L Q y HX.out.1 HX.out.2.2.1 HX.out.2.1 hz HX.out.2.2.2.1 HX.out.2.2.2.2.1 HX.out.2.2.2.2.2 ?_
  intro d16 d83 d84 d85 d86 d87 d88 d89 d90 d91 d92 d93 d94 d95 d96 d97 d98 d99 d100 d101 d102 d103 d104 d105 d106 w1 s i hi hO hF1 hC1
  have hs : s ≤ L.length := hO.rl
  have e : (P ++ L.take s) ++ (L.drop s ++ y :: Q) = P ++ (L ++ y :: Q) := by rw [List.append_assoc, ← List.append_assoc (L.take s), List.take_append_drop]
  have htl : (P ++ L.take s).length = i := by rw [List.length_append, List.length_take, HX.out.2.2.2.1]; omega
  have hml : i + (L.drop s).length = m := by rw [List.length_drop]; have h9 := HX.out.2.2.2.2.1; omega
  have H1 := Lib.hid (show Fill Rfl w1 S g 37 N ((P ++ L.take s) ++ (L.drop s ++ y :: Q)) ∧ ((P ++ L.take s) ++ (L.drop s ++ y :: Q)).length = n ∧ (P ++ L.take s).length = i ∧ i + (L.drop s).length = m ∧ OneS (fun x => x.tm ≤ y.tm) (fun x => y.tm < x.tm) L s s ∧ Chg g w w1 from ⟨by rw [e]; exact hF1, by rw [e]; exact HX.out.2.1, htl, hml, hO, hC1⟩)
  clear hi hO hF1 hC1 hs e htl hml
  go_upto_block 6 with fail
  refine sym_walk6 w1 S g N n i m (P ++ L.take s) (L.drop s) Q y H1.out.1 (HX.out.2.2.1.up H1.out.2.2.2.2.2.bel.size) H1.out.2.1 hz H1.out.2.2.1 H1.out.2.2.2.1 ?_
  intro d17 d108 d109 d110 d111 d112 d113 d114 d115 d116 d117 d118 d119 d120 d121 d122 d123 d124 d125 d126 d127 d128 w2 hF2 hC2
  have hmg := merge_right (key := Fl.tm) (y := y) (L1 := L.take s) (L2 := L.drop s) (by rw [List.take_append_drop]; exact HX.out.2.2.2.2.2) H1.out.2.2.2.2.1.lo H1.out.2.2.2.2.1.hi
  rw [List.take_append_drop] at hmg
  have HF := Lib.hid (show RowRet w S g N (PartRet P (L ++ [y]) Q) (.returned (.tuple #[])) w2 from ⟨rfl, _, ⟨L.take s ++ y :: L.drop s, by simp, hmg.1, hmg.2, by have h9 := H1.out.2.2.2.2.1.rl; simp; omega⟩, hF2, H1.out.2.2.2.2.2.trans hC2⟩)
  clear hF2 hC2 hmg
  go_wp2
  refine bodyPost_ret (v := .tuple #[]) (by simp [results, Try.results28, go_sem]) rfl ?_
  exact HF.out
end Go.Proofs.Ytponbodiibkopaa
