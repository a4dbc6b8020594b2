/-
  symMerge: the walk of the general case; the contract.
-/
import Derived.Test.YtponbodiibkopaaSrtF
namespace Go.Proofs.Ytponbodiibkopaa
open Go.RowKit Go.Sort
set_option linter.unusedVariables false

/-- A part of the row, sorted. -/
def PartS (w0 w : World) (S : Nat → Prop) (g N : Nat) (P Z Q A : List Fl) : Prop := SortedK Fl.tm A ∧ SameK Fl.tm Z A ∧ A.length = Z.length ∧ Fill Rfl w S g 37 N (P ++ A ++ Q) ∧ Chg g w0 w
theorem sorted_ends {L1 R1 : List Fl} (hL : SortedK Fl.tm L1) (hR : SortedK Fl.tm R1) (h : L1.length = 0 ∨ R1.length = 0) : SortedK Fl.tm (L1 ++ R1) := by
  rcases h with h | h
  · rw [List.length_eq_zero_iff.1 h]; exact hR
  · rw [List.length_eq_zero_iff.1 h]; simpa using hL
set_option maxRecDepth 100000 in
set_option maxHeartbeats 8000000 in
theorem sym_main {K : Nat} (ih : SymC K) (w : World) (S : Nat → Prop) (g N n a m b : Nat) (P L R Q : List Fl) (hF : Fill Rfl w S g 37 N (P ++ (L ++ R) ++ Q)) (hS : RowS w S g) (hn : (P ++ (L ++ R) ++ Q).length = n) (hz : n ≤ 2305843009213693952) (hP : P.length = a) (hm : a + L.length = m) (hb : m + R.length = b) (hL : SortedK Fl.tm L) (hR : SortedK Fl.tm R) (h1 : 2 ≤ L.length) (h2 : 2 ≤ R.length) (hK : L.length + R.length ≤ K + 1) :
    Calls Try.prog 28 #[.slice (some ⟨g, 0, none⟩) n N, .int .i64 (a : Nat), .int .i64 (m : Nat), .int .i64 (b : Nat), lessV] w (RowRet w S g N (PartRet P (L ++ R) Q)) := by
  have hlen : b + Q.length = n := by rw [← hn]; simp; omega
  have d0 : ((m : Int) - (a : Int) == 1) = false := by simp; omega
  have d1 : ((b : Int) - (m : Int) == 1) = false := by simp; omega
  have hbn : b ≤ n := by omega
  have hmn : m ≤ n := by omega
  have han : a ≤ n := by omega
  have ham : a < m := by omega
  have hmb : m < b := by omega
  have HI := Lib.hid ih
  have kL := keys_mono (xs := P ++ (L ++ R) ++ Q) (P := P) (Z := L) (Q := R ++ Q) (by simp) hP hm hL
  have kR := keys_mono (xs := P ++ (L ++ R) ++ Q) (P := P ++ L) (Z := R) (Q := Q) (a := m) (b := b) (by simp) (by simp <;> omega) hb hR
  have HX := Lib.hid (And.intro hS (And.intro hP (And.intro hm (And.intro hb (And.intro hL (And.intro hR (And.intro hn hK)))))))
  have HF0 := Lib.hid (And.intro hF (And.intro kL kR))
  have hne : 2 ≤ m - a := by omega
  have hne2 : 2 ≤ b - m := by omega
  clear hF hS hn hP hm hb hL hR h1 h2 hK hlen ih kL kR
  go_enter Try.func28, Try.ntmps28
  go_upto_region 25 with fail
  obtain ⟨mid, hmid⟩ : ∃ mid, mid = (a + b) / 2 := ⟨_, rfl⟩
  have hmi : ((a : Int) + (b : Int)) / 2 = (mid : Int) := by omega
  rw [hmi]
  have hmid1 : a < mid := by omega
  have hmid2 : mid < b := by omega
  have HMID := Lib.hid hmid
  clear hmi hmid
  by_cases hmm : mid < m
  · have d2 : decide (mid < m) = true := decide_eq_true hmm
    have hB := symB_right HMID.out ham hmb hmm
    have hlo : (mid : Int) + (m : Int) - (b : Int) = ((mid + m - b : Nat) : Int) := by have := HMID.out; omega
    have hp : (mid : Int) + (m : Int) - 1 = ((mid + m - 1 : Nat) : Int) := by omega
    have HB := Lib.hid (And.intro hB (And.intro hlo hp))
    clear hB hlo hp
    go_upto_block 8 with fail
    rw [HB.out.2.1, HB.out.2.2]
    refine sym_cut w S g N n a m b (mid + m - b) mid (mid + m - 1) _ HF0.out.1 HX.out.1 HX.out.2.2.2.2.2.2.1 hz HB.out.1 hbn (by omega) HF0.out.2.1 HF0.out.2.2 ?_
    intro d23 d149 d150 d151 d152 d153 d154 d155 d156 d157 d158 d159 d160 d161 d162 d163 d164 d165 d166 d167 d168 d169 d170 d171 d172 d173 d174 w1 s hSS hF1 hC1
    obtain ⟨hs1, hs0, hs3, hs4, hlt, hle⟩ := sym_right HMID.out ham hmb hmm hSS HF0.out.2.1 HF0.out.2.2
    have hs2 : s ≤ m := by omega
    obtain ⟨e, he⟩ : ∃ e, mid + m - s = e := ⟨_, rfl⟩
    rw [he] at hs3 hs4 hlt hle
    have hie : (mid : Int) + (m : Int) - (s : Int) = (e : Int) := by omega
    have hme : s ≤ mid := by omega
    have hmid' : mid + m = s + e := by omega
    have HIE := Lib.hid hie
    clear hie he
    go_upto_region 39 with fail
    rw [HIE.out]
    have hcut := cut_of (xs := P ++ (L ++ R) ++ Q) rfl HX.out.2.1 HX.out.2.2.1 HX.out.2.2.2.1 hs1 hs2 hs3 hs4 hlt hle
    obtain ⟨L1, hL1⟩ : ∃ l, L.take (s - a) = l := ⟨_, rfl⟩
    obtain ⟨L2, hL2⟩ : ∃ l, L.drop (s - a) = l := ⟨_, rfl⟩
    obtain ⟨R1, hR1⟩ : ∃ l, R.take (e - m) = l := ⟨_, rfl⟩
    obtain ⟨R2, hR2⟩ : ∃ l, R.drop (e - m) = l := ⟨_, rfl⟩
    have l1 : a + L1.length = s := by rw [← hL1, List.length_take]; have h8 := HX.out.2.2.1; omega
    have l2 : s + L2.length = m := by rw [← hL2, List.length_drop]; have h8 := HX.out.2.2.1; omega
    have l3 : m + R1.length = e := by rw [← hR1, List.length_take]; have h8 := HX.out.2.2.2.1; omega
    have l4 : e + R2.length = b := by rw [← hR2, List.length_drop]; have h8 := HX.out.2.2.2.1; omega
    rw [hL1, hL2, hR1, hR2] at hcut
    have sL := HX.out.2.2.2.2.1; have sR := HX.out.2.2.2.2.2.1
    rw [hcut.eL] at sL; rw [hcut.eR] at sR
    have HT := Lib.hid (And.intro HX.out.1 (And.intro HX.out.2.1 (And.intro sL.left (And.intro sR.left (And.intro hcut.eL (And.intro hcut.eR (And.intro (show (P ++ ((L1 ++ R1) ++ (L2 ++ R2)) ++ Q).length = n by rw [← HX.out.2.2.2.2.2.2.1, hcut.eL, hcut.eR]; simp <;> omega) (show L1.length + L2.length + R1.length + R2.length ≤ K + 1 by have h9 := HX.out.2.2.2.2.2.2.2; rw [hcut.eL, hcut.eR] at h9; simp at h9; omega))))))))
    have HC := Lib.hid (And.intro (And.intro sL.right (And.intro sR.right (And.intro sL (And.intro sR (And.intro hcut.lt hcut.le))))) (And.intro (show a + L1.length + R1.length = mid by omega) (And.intro l1 (And.intro l2 (And.intro l3 (And.intro l4 (And.intro hne (And.intro hne2 (And.intro hme hmid')))))))))
    have H1 := Lib.hid (show Fill Rfl w1 S g 37 N (P ++ L1 ++ (L2 ++ R1) ++ (R2 ++ Q)) ∧ Chg g w w1 from ⟨by have h9 := hF1; rw [hcut.eL, hcut.eR] at h9; simpa using h9, hC1⟩)
    clear hcut hL1 hL2 hR1 hR2 l1 l2 l3 l4 sL sR hF1 hC1 hlt hle
    by_cases hrot : s < m ∧ m < e
    · refine sym_r39 w1 s m e true (decide_eq_true hrot) ?_
      intro d178 d179 d180 d181 d182 d183 d184
      go_upto_region 41 with (go_at_call 29
                              go_loud (skip
                                       refine (rotate_any w1 S g N n s m e (P ++ L1) L2 R1 (R2 ++ Q) H1.out.1 (HT.out.1.up H1.out.2.bel.size) (by rw [← HT.out.2.2.2.2.2.2.1]; simp <;> omega) (by omega) (by have h8 := HC.out.2; have h7 := HT.out.2.1; simp <;> omega) (by have h8 := HC.out.2; omega) (by have h8 := HC.out.2; omega) (by have h8 := HC.out.2; omega) (by have h8 := HC.out.2; omega)).mono ?_
                                       rintro e9 w2 ⟨rfl, ys, rfl, hF2, hC2⟩
                                       have H2 := Lib.hid (show Fill Rfl w2 S g 37 N (P ++ (L1 ++ R1) ++ (L2 ++ R2) ++ Q) ∧ Chg g w w2 from ⟨by simpa using hF2, H1.out.2.trans hC2⟩)
                                       clear hF2 hC2))
      by_cases hl : a < s ∧ s < mid
      · refine sym_r41 w2 a s mid true (decide_eq_true hl) ?_
        intro d192 d193 d194 d195 d196 d197 d198
        go_upto_region 43 with (go_at_call 28
                                go_loud (skip
                                         refine (HI.out w2 S g N n a s mid P L1 R1 (L2 ++ R2 ++ Q) (by have h9 := H2.out.1; simpa using h9) (HT.out.1.up H2.out.2.bel.size) (by rw [← HT.out.2.2.2.2.2.2.1]; simp <;> omega) hz HT.out.2.1 (by have h8 := HC.out.2; omega) (by have h8 := HC.out.2; omega) HT.out.2.2.1 HT.out.2.2.2.1 (by have h8 := HC.out.2; omega) (by have h8 := HC.out.2; omega) (by have h8 := HC.out.2; have h7 := HT.out.2.2.2.2.2.2.2; omega)).mono ?_
                                         rintro e9 w3 ⟨rfl, ys, ⟨A, rfl, hA1, hA2, hA3⟩, hF3, hC3⟩
                                         have H3 := Lib.hid (show PartS w w3 S g N P (L1 ++ R1) ((L2 ++ R2) ++ Q) A from ⟨hA1, hA2, hA3, by simpa using hF3, H2.out.2.trans hC3⟩)
                                         clear hA1 hA2 hA3 hF3 hC3))
        have hln3 : (P ++ A ++ (L2 ++ R2) ++ Q).length = n := by rw [← HT.out.2.2.2.2.2.2.1]; have h9 := H3.out.2.2.1; simp at h9 ⊢; omega
        by_cases hr : mid < e ∧ e < b
        · refine sym_r43 w3 mid e b true (decide_eq_true hr) ?_
          intro d206 d207 d208 d209 d210 d211 d212
          go_wp2_with (go_at_call 28
                       go_loud (skip
                                refine (HI.out w3 S g N n mid e b (P ++ A) L2 R2 Q (by have h9 := H3.out.2.2.2.1; simpa using h9) (HT.out.1.up H3.out.2.2.2.2.bel.size) hln3 hz (by have h9 := H3.out.2.2.1; have h8 := HC.out.2.1; have h7 := HT.out.2.1; simp at h9 ⊢; omega) (by have h8 := HC.out.2; omega) (by have h8 := HC.out.2; omega) HC.out.1.1 HC.out.1.2.1 (by have h8 := HC.out.2; omega) (by have h8 := HC.out.2; omega) (by have h8 := HC.out.2; have h7 := HT.out.2.2.2.2.2.2.2; omega)).mono ?_
                                rintro e9 w4 ⟨rfl, ys, ⟨B, rfl, hB1, hB2, hB3⟩, hF4, hC4⟩
                                have hj := merge_join (key := Fl.tm) HC.out.1.2.2.1 HC.out.1.2.2.2.1 HC.out.1.2.2.2.2.1 HC.out.1.2.2.2.2.2 H3.out.1 H3.out.2.1 hB1 hB2
                                have HF := Lib.hid (show RowRet w S g N (PartRet P (L ++ R) Q) (.returned (.tuple #[])) w4 from ⟨rfl, _, ⟨A ++ B, by simp, hj.1, by rw [HT.out.2.2.2.2.1, HT.out.2.2.2.2.2.1]; exact hj.2, by have h9 := H3.out.2.2.1; rw [HT.out.2.2.2.2.1, HT.out.2.2.2.2.2.1]; simp at h9 hB3 ⊢; omega⟩, hF4, H3.out.2.2.2.2.trans hC4⟩)
                                clear hB1 hB2 hB3 hF4 hC4 hj))
          go_end0
          exact HF.out
        · refine sym_r43 w3 mid e b false (decide_eq_false hr) ?_
          intro d206 d207 d208 d209 d210 d211 d212
          have hj := merge_join (key := Fl.tm) HC.out.1.2.2.1 HC.out.1.2.2.2.1 HC.out.1.2.2.2.2.1 HC.out.1.2.2.2.2.2 H3.out.1 H3.out.2.1 (sorted_ends HC.out.1.1 HC.out.1.2.1 (by have h8 := HC.out.2; omega)) (SameK.refl _)
          have HF := Lib.hid (show RowRet w S g N (PartRet P (L ++ R) Q) (.returned (.tuple #[])) w3 from ⟨rfl, P ++ (A ++ (L2 ++ R2)) ++ Q, ⟨A ++ (L2 ++ R2), rfl, hj.1, by rw [HT.out.2.2.2.2.1, HT.out.2.2.2.2.2.1]; exact hj.2, by have h9 := H3.out.2.2.1; rw [HT.out.2.2.2.2.1, HT.out.2.2.2.2.2.1]; simp at h9 ⊢; omega⟩, by have h9 := H3.out.2.2.2.1; simpa using h9, H3.out.2.2.2.2⟩)
          clear hj
          go_wp2
          go_end0
          exact HF.out
      · refine sym_r41 w2 a s mid false (decide_eq_false hl) ?_
        intro d192 d193 d194 d195 d196 d197 d198
        obtain ⟨A, hA⟩ : ∃ A, L1 ++ R1 = A := ⟨_, rfl⟩
        have H3 := Lib.hid (show PartS w w2 S g N P (L1 ++ R1) ((L2 ++ R2) ++ Q) A from ⟨by rw [← hA]; exact sorted_ends HT.out.2.2.1 HT.out.2.2.2.1 (by have h8 := HC.out.2; omega), by rw [hA]; exact SameK.refl _, by rw [hA], by rw [← hA]; have h9 := H2.out.1; simpa using h9, H2.out.2⟩)
        clear hA
        obtain ⟨w3, rfl⟩ : ∃ w3, w3 = w2 := ⟨_, rfl⟩
        go_upto_region 43 with fail
        have hln3 : (P ++ A ++ (L2 ++ R2) ++ Q).length = n := by rw [← HT.out.2.2.2.2.2.2.1]; have h9 := H3.out.2.2.1; simp at h9 ⊢; omega
        by_cases hr : mid < e ∧ e < b
        · refine sym_r43 w3 mid e b true (decide_eq_true hr) ?_
          intro d206 d207 d208 d209 d210 d211 d212
          go_wp2_with (go_at_call 28
                       go_loud (skip
                                refine (HI.out w3 S g N n mid e b (P ++ A) L2 R2 Q (by have h9 := H3.out.2.2.2.1; simpa using h9) (HT.out.1.up H3.out.2.2.2.2.bel.size) hln3 hz (by have h9 := H3.out.2.2.1; have h8 := HC.out.2.1; have h7 := HT.out.2.1; simp at h9 ⊢; omega) (by have h8 := HC.out.2; omega) (by have h8 := HC.out.2; omega) HC.out.1.1 HC.out.1.2.1 (by have h8 := HC.out.2; omega) (by have h8 := HC.out.2; omega) (by have h8 := HC.out.2; have h7 := HT.out.2.2.2.2.2.2.2; omega)).mono ?_
                                rintro e9 w4 ⟨rfl, ys, ⟨B, rfl, hB1, hB2, hB3⟩, hF4, hC4⟩
                                have hj := merge_join (key := Fl.tm) HC.out.1.2.2.1 HC.out.1.2.2.2.1 HC.out.1.2.2.2.2.1 HC.out.1.2.2.2.2.2 H3.out.1 H3.out.2.1 hB1 hB2
                                have HF := Lib.hid (show RowRet w S g N (PartRet P (L ++ R) Q) (.returned (.tuple #[])) w4 from ⟨rfl, _, ⟨A ++ B, by simp, hj.1, by rw [HT.out.2.2.2.2.1, HT.out.2.2.2.2.2.1]; exact hj.2, by have h9 := H3.out.2.2.1; rw [HT.out.2.2.2.2.1, HT.out.2.2.2.2.2.1]; simp at h9 hB3 ⊢; omega⟩, hF4, H3.out.2.2.2.2.trans hC4⟩)
                                clear hB1 hB2 hB3 hF4 hC4 hj))
          go_end0
          exact HF.out
        · refine sym_r43 w3 mid e b false (decide_eq_false hr) ?_
          intro d206 d207 d208 d209 d210 d211 d212
          have hj := merge_join (key := Fl.tm) HC.out.1.2.2.1 HC.out.1.2.2.2.1 HC.out.1.2.2.2.2.1 HC.out.1.2.2.2.2.2 H3.out.1 H3.out.2.1 (sorted_ends HC.out.1.1 HC.out.1.2.1 (by have h8 := HC.out.2; omega)) (SameK.refl _)
          have HF := Lib.hid (show RowRet w S g N (PartRet P (L ++ R) Q) (.returned (.tuple #[])) w3 from ⟨rfl, P ++ (A ++ (L2 ++ R2)) ++ Q, ⟨A ++ (L2 ++ R2), rfl, hj.1, by rw [HT.out.2.2.2.2.1, HT.out.2.2.2.2.2.1]; exact hj.2, by have h9 := H3.out.2.2.1; rw [HT.out.2.2.2.2.1, HT.out.2.2.2.2.2.1]; simp at h9 ⊢; omega⟩, by have h9 := H3.out.2.2.2.1; simpa using h9, H3.out.2.2.2.2⟩)
          clear hj
          go_wp2
          go_end0
          exact HF.out
    · refine sym_r39 w1 s m e false (decide_eq_false hrot) ?_
      intro d178 d179 d180 d181 d182 d183 d184
      have H2 := Lib.hid (show Fill Rfl w1 S g 37 N (P ++ (L1 ++ R1) ++ (L2 ++ R2) ++ Q) ∧ Chg g w w1 from ⟨by
        have h9 := H1.out.1
        have h0 : L2.length = 0 ∨ R1.length = 0 := by have h8 := HC.out.2; omega
        rcases h0 with h0 | h0
        · rw [List.length_eq_zero_iff.1 h0] at h9 ⊢; simpa using h9
        · rw [List.length_eq_zero_iff.1 h0] at h9 ⊢; simpa using h9, H1.out.2⟩)
      obtain ⟨w2, rfl⟩ : ∃ w2, w2 = w1 := ⟨_, rfl⟩
      go_upto_region 41 with fail
      by_cases hl : a < s ∧ s < mid
      · refine sym_r41 w2 a s mid true (decide_eq_true hl) ?_
        intro d192 d193 d194 d195 d196 d197 d198
        go_upto_region 43 with (go_at_call 28
                                go_loud (skip
                                         refine (HI.out w2 S g N n a s mid P L1 R1 (L2 ++ R2 ++ Q) (by have h9 := H2.out.1; simpa using h9) (HT.out.1.up H2.out.2.bel.size) (by rw [← HT.out.2.2.2.2.2.2.1]; simp <;> omega) hz HT.out.2.1 (by have h8 := HC.out.2; omega) (by have h8 := HC.out.2; omega) HT.out.2.2.1 HT.out.2.2.2.1 (by have h8 := HC.out.2; omega) (by have h8 := HC.out.2; omega) (by have h8 := HC.out.2; have h7 := HT.out.2.2.2.2.2.2.2; omega)).mono ?_
                                         rintro e9 w3 ⟨rfl, ys, ⟨A, rfl, hA1, hA2, hA3⟩, hF3, hC3⟩
                                         have H3 := Lib.hid (show PartS w w3 S g N P (L1 ++ R1) ((L2 ++ R2) ++ Q) A from ⟨hA1, hA2, hA3, by simpa using hF3, H2.out.2.trans hC3⟩)
                                         clear hA1 hA2 hA3 hF3 hC3))
        have hln3 : (P ++ A ++ (L2 ++ R2) ++ Q).length = n := by rw [← HT.out.2.2.2.2.2.2.1]; have h9 := H3.out.2.2.1; simp at h9 ⊢; omega
        by_cases hr : mid < e ∧ e < b
        · refine sym_r43 w3 mid e b true (decide_eq_true hr) ?_
          intro d206 d207 d208 d209 d210 d211 d212
          go_wp2_with (go_at_call 28
                       go_loud (skip
                                refine (HI.out w3 S g N n mid e b (P ++ A) L2 R2 Q (by have h9 := H3.out.2.2.2.1; simpa using h9) (HT.out.1.up H3.out.2.2.2.2.bel.size) hln3 hz (by have h9 := H3.out.2.2.1; have h8 := HC.out.2.1; have h7 := HT.out.2.1; simp at h9 ⊢; omega) (by have h8 := HC.out.2; omega) (by have h8 := HC.out.2; omega) HC.out.1.1 HC.out.1.2.1 (by have h8 := HC.out.2; omega) (by have h8 := HC.out.2; omega) (by have h8 := HC.out.2; have h7 := HT.out.2.2.2.2.2.2.2; omega)).mono ?_
                                rintro e9 w4 ⟨rfl, ys, ⟨B, rfl, hB1, hB2, hB3⟩, hF4, hC4⟩
                                have hj := merge_join (key := Fl.tm) HC.out.1.2.2.1 HC.out.1.2.2.2.1 HC.out.1.2.2.2.2.1 HC.out.1.2.2.2.2.2 H3.out.1 H3.out.2.1 hB1 hB2
                                have HF := Lib.hid (show RowRet w S g N (PartRet P (L ++ R) Q) (.returned (.tuple #[])) w4 from ⟨rfl, _, ⟨A ++ B, by simp, hj.1, by rw [HT.out.2.2.2.2.1, HT.out.2.2.2.2.2.1]; exact hj.2, by have h9 := H3.out.2.2.1; rw [HT.out.2.2.2.2.1, HT.out.2.2.2.2.2.1]; simp at h9 hB3 ⊢; omega⟩, hF4, H3.out.2.2.2.2.trans hC4⟩)
                                clear hB1 hB2 hB3 hF4 hC4 hj))
          go_end0
          exact HF.out
        · refine sym_r43 w3 mid e b false (decide_eq_false hr) ?_
          intro d206 d207 d208 d209 d210 d211 d212
          have hj := merge_join (key := Fl.tm) HC.out.1.2.2.1 HC.out.1.2.2.2.1 HC.out.1.2.2.2.2.1 HC.out.1.2.2.2.2.2 H3.out.1 H3.out.2.1 (sorted_ends HC.out.1.1 HC.out.1.2.1 (by have h8 := HC.out.2; omega)) (SameK.refl _)
          have HF := Lib.hid (show RowRet w S g N (PartRet P (L ++ R) Q) (.returned (.tuple #[])) w3 from ⟨rfl, P ++ (A ++ (L2 ++ R2)) ++ Q, ⟨A ++ (L2 ++ R2), rfl, hj.1, by rw [HT.out.2.2.2.2.1, HT.out.2.2.2.2.2.1]; exact hj.2, by have h9 := H3.out.2.2.1; rw [HT.out.2.2.2.2.1, HT.out.2.2.2.2.2.1]; simp at h9 ⊢; omega⟩, by have h9 := H3.out.2.2.2.1; simpa using h9, H3.out.2.2.2.2⟩)
          clear hj
          go_wp2
          go_end0
          exact HF.out
      · refine sym_r41 w2 a s mid false (decide_eq_false hl) ?_
        intro d192 d193 d194 d195 d196 d197 d198
        obtain ⟨A, hA⟩ : ∃ A, L1 ++ R1 = A := ⟨_, rfl⟩
        have H3 := Lib.hid (show PartS w w2 S g N P (L1 ++ R1) ((L2 ++ R2) ++ Q) A from ⟨by rw [← hA]; exact sorted_ends HT.out.2.2.1 HT.out.2.2.2.1 (by have h8 := HC.out.2; omega), by rw [hA]; exact SameK.refl _, by rw [hA], by rw [← hA]; have h9 := H2.out.1; simpa using h9, H2.out.2⟩)
        clear hA
        obtain ⟨w3, rfl⟩ : ∃ w3, w3 = w2 := ⟨_, rfl⟩
        go_upto_region 43 with fail
        have hln3 : (P ++ A ++ (L2 ++ R2) ++ Q).length = n := by rw [← HT.out.2.2.2.2.2.2.1]; have h9 := H3.out.2.2.1; simp at h9 ⊢; omega
        by_cases hr : mid < e ∧ e < b
        · refine sym_r43 w3 mid e b true (decide_eq_true hr) ?_
          intro d206 d207 d208 d209 d210 d211 d212
          go_wp2_with (go_at_call 28
                       go_loud (skip
                                refine (HI.out w3 S g N n mid e b (P ++ A) L2 R2 Q (by have h9 := H3.out.2.2.2.1; simpa using h9) (HT.out.1.up H3.out.2.2.2.2.bel.size) hln3 hz (by have h9 := H3.out.2.2.1; have h8 := HC.out.2.1; have h7 := HT.out.2.1; simp at h9 ⊢; omega) (by have h8 := HC.out.2; omega) (by have h8 := HC.out.2; omega) HC.out.1.1 HC.out.1.2.1 (by have h8 := HC.out.2; omega) (by have h8 := HC.out.2; omega) (by have h8 := HC.out.2; have h7 := HT.out.2.2.2.2.2.2.2; omega)).mono ?_
                                rintro e9 w4 ⟨rfl, ys, ⟨B, rfl, hB1, hB2, hB3⟩, hF4, hC4⟩
                                have hj := merge_join (key := Fl.tm) HC.out.1.2.2.1 HC.out.1.2.2.2.1 HC.out.1.2.2.2.2.1 HC.out.1.2.2.2.2.2 H3.out.1 H3.out.2.1 hB1 hB2
                                have HF := Lib.hid (show RowRet w S g N (PartRet P (L ++ R) Q) (.returned (.tuple #[])) w4 from ⟨rfl, _, ⟨A ++ B, by simp, hj.1, by rw [HT.out.2.2.2.2.1, HT.out.2.2.2.2.2.1]; exact hj.2, by have h9 := H3.out.2.2.1; rw [HT.out.2.2.2.2.1, HT.out.2.2.2.2.2.1]; simp at h9 hB3 ⊢; omega⟩, hF4, H3.out.2.2.2.2.trans hC4⟩)
                                clear hB1 hB2 hB3 hF4 hC4 hj))
          go_end0
          exact HF.out
        · refine sym_r43 w3 mid e b false (decide_eq_false hr) ?_
          intro d206 d207 d208 d209 d210 d211 d212
          have hj := merge_join (key := Fl.tm) HC.out.1.2.2.1 HC.out.1.2.2.2.1 HC.out.1.2.2.2.2.1 HC.out.1.2.2.2.2.2 H3.out.1 H3.out.2.1 (sorted_ends HC.out.1.1 HC.out.1.2.1 (by have h8 := HC.out.2; omega)) (SameK.refl _)
          have HF := Lib.hid (show RowRet w S g N (PartRet P (L ++ R) Q) (.returned (.tuple #[])) w3 from ⟨rfl, P ++ (A ++ (L2 ++ R2)) ++ Q, ⟨A ++ (L2 ++ R2), rfl, hj.1, by rw [HT.out.2.2.2.2.1, HT.out.2.2.2.2.2.1]; exact hj.2, by have h9 := H3.out.2.2.1; rw [HT.out.2.2.2.2.1, HT.out.2.2.2.2.2.1]; simp at h9 ⊢; omega⟩, by have h9 := H3.out.2.2.2.1; simpa using h9, H3.out.2.2.2.2⟩)
          clear hj
          go_wp2
          go_end0
          exact HF.out
  · have d2 : decide (mid < m) = false := decide_eq_false hmm
    have hB := symB_left HMID.out ham hmb (show m ≤ mid by omega)
    have hp : (mid : Int) + (m : Int) - 1 = ((mid + m - 1 : Nat) : Int) := by omega
    have HB := Lib.hid (And.intro hB hp)
    clear hB hp
    go_upto_block 8 with fail
    rw [HB.out.2]
    refine sym_cut w S g N n a m b a m (mid + m - 1) _ HF0.out.1 HX.out.1 HX.out.2.2.2.2.2.2.1 hz HB.out.1 hbn (by omega) HF0.out.2.1 HF0.out.2.2 ?_
    intro d23 d149 d150 d151 d152 d153 d154 d155 d156 d157 d158 d159 d160 d161 d162 d163 d164 d165 d166 d167 d168 d169 d170 d171 d172 d173 d174 w1 s hSS hF1 hC1
    obtain ⟨hs1, hs2, hs3, hs4, hlt, hle⟩ := sym_left HMID.out ham hmb (show m ≤ mid by omega) hSS HF0.out.2.1 HF0.out.2.2
    obtain ⟨e, he⟩ : ∃ e, mid + m - s = e := ⟨_, rfl⟩
    rw [he] at hs3 hs4 hlt hle
    have hie : (mid : Int) + (m : Int) - (s : Int) = (e : Int) := by omega
    have hme : s ≤ mid := by omega
    have hmid' : mid + m = s + e := by omega
    have HIE := Lib.hid hie
    clear hie he
    go_upto_region 39 with fail
    rw [HIE.out]
    have hcut := cut_of (xs := P ++ (L ++ R) ++ Q) rfl HX.out.2.1 HX.out.2.2.1 HX.out.2.2.2.1 hs1 hs2 hs3 hs4 hlt hle
    obtain ⟨L1, hL1⟩ : ∃ l, L.take (s - a) = l := ⟨_, rfl⟩
    obtain ⟨L2, hL2⟩ : ∃ l, L.drop (s - a) = l := ⟨_, rfl⟩
    obtain ⟨R1, hR1⟩ : ∃ l, R.take (e - m) = l := ⟨_, rfl⟩
    obtain ⟨R2, hR2⟩ : ∃ l, R.drop (e - m) = l := ⟨_, rfl⟩
    have l1 : a + L1.length = s := by rw [← hL1, List.length_take]; have h8 := HX.out.2.2.1; omega
    have l2 : s + L2.length = m := by rw [← hL2, List.length_drop]; have h8 := HX.out.2.2.1; omega
    have l3 : m + R1.length = e := by rw [← hR1, List.length_take]; have h8 := HX.out.2.2.2.1; omega
    have l4 : e + R2.length = b := by rw [← hR2, List.length_drop]; have h8 := HX.out.2.2.2.1; omega
    rw [hL1, hL2, hR1, hR2] at hcut
    have sL := HX.out.2.2.2.2.1; have sR := HX.out.2.2.2.2.2.1
    rw [hcut.eL] at sL; rw [hcut.eR] at sR
    have HT := Lib.hid (And.intro HX.out.1 (And.intro HX.out.2.1 (And.intro sL.left (And.intro sR.left (And.intro hcut.eL (And.intro hcut.eR (And.intro (show (P ++ ((L1 ++ R1) ++ (L2 ++ R2)) ++ Q).length = n by rw [← HX.out.2.2.2.2.2.2.1, hcut.eL, hcut.eR]; simp <;> omega) (show L1.length + L2.length + R1.length + R2.length ≤ K + 1 by have h9 := HX.out.2.2.2.2.2.2.2; rw [hcut.eL, hcut.eR] at h9; simp at h9; omega))))))))
    have HC := Lib.hid (And.intro (And.intro sL.right (And.intro sR.right (And.intro sL (And.intro sR (And.intro hcut.lt hcut.le))))) (And.intro (show a + L1.length + R1.length = mid by omega) (And.intro l1 (And.intro l2 (And.intro l3 (And.intro l4 (And.intro hne (And.intro hne2 (And.intro hme hmid')))))))))
    have H1 := Lib.hid (show Fill Rfl w1 S g 37 N (P ++ L1 ++ (L2 ++ R1) ++ (R2 ++ Q)) ∧ Chg g w w1 from ⟨by have h9 := hF1; rw [hcut.eL, hcut.eR] at h9; simpa using h9, hC1⟩)
    clear hcut hL1 hL2 hR1 hR2 l1 l2 l3 l4 sL sR hF1 hC1 hlt hle
    by_cases hrot : s < m ∧ m < e
    · refine sym_r39 w1 s m e true (decide_eq_true hrot) ?_
      intro d178 d179 d180 d181 d182 d183 d184
      go_upto_region 41 with (go_at_call 29
                              go_loud (skip
                                       refine (rotate_any w1 S g N n s m e (P ++ L1) L2 R1 (R2 ++ Q) H1.out.1 (HT.out.1.up H1.out.2.bel.size) (by rw [← HT.out.2.2.2.2.2.2.1]; simp <;> omega) (by omega) (by have h8 := HC.out.2; have h7 := HT.out.2.1; simp <;> omega) (by have h8 := HC.out.2; omega) (by have h8 := HC.out.2; omega) (by have h8 := HC.out.2; omega) (by have h8 := HC.out.2; omega)).mono ?_
                                       rintro e9 w2 ⟨rfl, ys, rfl, hF2, hC2⟩
                                       have H2 := Lib.hid (show Fill Rfl w2 S g 37 N (P ++ (L1 ++ R1) ++ (L2 ++ R2) ++ Q) ∧ Chg g w w2 from ⟨by simpa using hF2, H1.out.2.trans hC2⟩)
                                       clear hF2 hC2))
      by_cases hl : a < s ∧ s < mid
      · refine sym_r41 w2 a s mid true (decide_eq_true hl) ?_
        intro d192 d193 d194 d195 d196 d197 d198
        go_upto_region 43 with (go_at_call 28
                                go_loud (skip
                                         refine (HI.out w2 S g N n a s mid P L1 R1 (L2 ++ R2 ++ Q) (by have h9 := H2.out.1; simpa using h9) (HT.out.1.up H2.out.2.bel.size) (by rw [← HT.out.2.2.2.2.2.2.1]; simp <;> omega) hz HT.out.2.1 (by have h8 := HC.out.2; omega) (by have h8 := HC.out.2; omega) HT.out.2.2.1 HT.out.2.2.2.1 (by have h8 := HC.out.2; omega) (by have h8 := HC.out.2; omega) (by have h8 := HC.out.2; have h7 := HT.out.2.2.2.2.2.2.2; omega)).mono ?_
                                         rintro e9 w3 ⟨rfl, ys, ⟨A, rfl, hA1, hA2, hA3⟩, hF3, hC3⟩
                                         have H3 := Lib.hid (show PartS w w3 S g N P (L1 ++ R1) ((L2 ++ R2) ++ Q) A from ⟨hA1, hA2, hA3, by simpa using hF3, H2.out.2.trans hC3⟩)
                                         clear hA1 hA2 hA3 hF3 hC3))
        have hln3 : (P ++ A ++ (L2 ++ R2) ++ Q).length = n := by rw [← HT.out.2.2.2.2.2.2.1]; have h9 := H3.out.2.2.1; simp at h9 ⊢; omega
        by_cases hr : mid < e ∧ e < b
        · refine sym_r43 w3 mid e b true (decide_eq_true hr) ?_
          intro d206 d207 d208 d209 d210 d211 d212
          go_wp2_with (go_at_call 28
                       go_loud (skip
                                refine (HI.out w3 S g N n mid e b (P ++ A) L2 R2 Q (by have h9 := H3.out.2.2.2.1; simpa using h9) (HT.out.1.up H3.out.2.2.2.2.bel.size) hln3 hz (by have h9 := H3.out.2.2.1; have h8 := HC.out.2.1; have h7 := HT.out.2.1; simp at h9 ⊢; omega) (by have h8 := HC.out.2; omega) (by have h8 := HC.out.2; omega) HC.out.1.1 HC.out.1.2.1 (by have h8 := HC.out.2; omega) (by have h8 := HC.out.2; omega) (by have h8 := HC.out.2; have h7 := HT.out.2.2.2.2.2.2.2; omega)).mono ?_
                                rintro e9 w4 ⟨rfl, ys, ⟨B, rfl, hB1, hB2, hB3⟩, hF4, hC4⟩
                                have hj := merge_join (key := Fl.tm) HC.out.1.2.2.1 HC.out.1.2.2.2.1 HC.out.1.2.2.2.2.1 HC.out.1.2.2.2.2.2 H3.out.1 H3.out.2.1 hB1 hB2
                                have HF := Lib.hid (show RowRet w S g N (PartRet P (L ++ R) Q) (.returned (.tuple #[])) w4 from ⟨rfl, _, ⟨A ++ B, by simp, hj.1, by rw [HT.out.2.2.2.2.1, HT.out.2.2.2.2.2.1]; exact hj.2, by have h9 := H3.out.2.2.1; rw [HT.out.2.2.2.2.1, HT.out.2.2.2.2.2.1]; simp at h9 hB3 ⊢; omega⟩, hF4, H3.out.2.2.2.2.trans hC4⟩)
                                clear hB1 hB2 hB3 hF4 hC4 hj))
          go_end0
          exact HF.out
        · refine sym_r43 w3 mid e b false (decide_eq_false hr) ?_
          intro d206 d207 d208 d209 d210 d211 d212
          have hj := merge_join (key := Fl.tm) HC.out.1.2.2.1 HC.out.1.2.2.2.1 HC.out.1.2.2.2.2.1 HC.out.1.2.2.2.2.2 H3.out.1 H3.out.2.1 (sorted_ends HC.out.1.1 HC.out.1.2.1 (by have h8 := HC.out.2; omega)) (SameK.refl _)
          have HF := Lib.hid (show RowRet w S g N (PartRet P (L ++ R) Q) (.returned (.tuple #[])) w3 from ⟨rfl, P ++ (A ++ (L2 ++ R2)) ++ Q, ⟨A ++ (L2 ++ R2), rfl, hj.1, by rw [HT.out.2.2.2.2.1, HT.out.2.2.2.2.2.1]; exact hj.2, by have h9 := H3.out.2.2.1; rw [HT.out.2.2.2.2.1, HT.out.2.2.2.2.2.1]; simp at h9 ⊢; omega⟩, by have h9 := H3.out.2.2.2.1; simpa using h9, H3.out.2.2.2.2⟩)
          clear hj
          go_wp2
          go_end0
          exact HF.out
      · refine sym_r41 w2 a s mid false (decide_eq_false hl) ?_
        intro d192 d193 d194 d195 d196 d197 d198
        obtain ⟨A, hA⟩ : ∃ A, L1 ++ R1 = A := ⟨_, rfl⟩
        have H3 := Lib.hid (show PartS w w2 S g N P (L1 ++ R1) ((L2 ++ R2) ++ Q) A from ⟨by rw [← hA]; exact sorted_ends HT.out.2.2.1 HT.out.2.2.2.1 (by have h8 := HC.out.2; omega), by rw [hA]; exact SameK.refl _, by rw [hA], by rw [← hA]; have h9 := H2.out.1; simpa using h9, H2.out.2⟩)
        clear hA
        obtain ⟨w3, rfl⟩ : ∃ w3, w3 = w2 := ⟨_, rfl⟩
        go_upto_region 43 with fail
        have hln3 : (P ++ A ++ (L2 ++ R2) ++ Q).length = n := by rw [← HT.out.2.2.2.2.2.2.1]; have h9 := H3.out.2.2.1; simp at h9 ⊢; omega
        by_cases hr : mid < e ∧ e < b
        · refine sym_r43 w3 mid e b true (decide_eq_true hr) ?_
          intro d206 d207 d208 d209 d210 d211 d212
          go_wp2_with (go_at_call 28
                       go_loud (skip
                                refine (HI.out w3 S g N n mid e b (P ++ A) L2 R2 Q (by have h9 := H3.out.2.2.2.1; simpa using h9) (HT.out.1.up H3.out.2.2.2.2.bel.size) hln3 hz (by have h9 := H3.out.2.2.1; have h8 := HC.out.2.1; have h7 := HT.out.2.1; simp at h9 ⊢; omega) (by have h8 := HC.out.2; omega) (by have h8 := HC.out.2; omega) HC.out.1.1 HC.out.1.2.1 (by have h8 := HC.out.2; omega) (by have h8 := HC.out.2; omega) (by have h8 := HC.out.2; have h7 := HT.out.2.2.2.2.2.2.2; omega)).mono ?_
                                rintro e9 w4 ⟨rfl, ys, ⟨B, rfl, hB1, hB2, hB3⟩, hF4, hC4⟩
                                have hj := merge_join (key := Fl.tm) HC.out.1.2.2.1 HC.out.1.2.2.2.1 HC.out.1.2.2.2.2.1 HC.out.1.2.2.2.2.2 H3.out.1 H3.out.2.1 hB1 hB2
                                have HF := Lib.hid (show RowRet w S g N (PartRet P (L ++ R) Q) (.returned (.tuple #[])) w4 from ⟨rfl, _, ⟨A ++ B, by simp, hj.1, by rw [HT.out.2.2.2.2.1, HT.out.2.2.2.2.2.1]; exact hj.2, by have h9 := H3.out.2.2.1; rw [HT.out.2.2.2.2.1, HT.out.2.2.2.2.2.1]; simp at h9 hB3 ⊢; omega⟩, hF4, H3.out.2.2.2.2.trans hC4⟩)
                                clear hB1 hB2 hB3 hF4 hC4 hj))
          go_end0
          exact HF.out
        · refine sym_r43 w3 mid e b false (decide_eq_false hr) ?_
          intro d206 d207 d208 d209 d210 d211 d212
          have hj := merge_join (key := Fl.tm) HC.out.1.2.2.1 HC.out.1.2.2.2.1 HC.out.1.2.2.2.2.1 HC.out.1.2.2.2.2.2 H3.out.1 H3.out.2.1 (sorted_ends HC.out.1.1 HC.out.1.2.1 (by have h8 := HC.out.2; omega)) (SameK.refl _)
          have HF := Lib.hid (show RowRet w S g N (PartRet P (L ++ R) Q) (.returned (.tuple #[])) w3 from ⟨rfl, P ++ (A ++ (L2 ++ R2)) ++ Q, ⟨A ++ (L2 ++ R2), rfl, hj.1, by rw [HT.out.2.2.2.2.1, HT.out.2.2.2.2.2.1]; exact hj.2, by have h9 := H3.out.2.2.1; rw [HT.out.2.2.2.2.1, HT.out.2.2.2.2.2.1]; simp at h9 ⊢; omega⟩, by have h9 := H3.out.2.2.2.1; simpa using h9, H3.out.2.2.2.2⟩)
          clear hj
          go_wp2
          go_end0
          exact HF.out
    · refine sym_r39 w1 s m e false (decide_eq_false hrot) ?_
      intro d178 d179 d180 d181 d182 d183 d184
      have H2 := Lib.hid (show Fill Rfl w1 S g 37 N (P ++ (L1 ++ R1) ++ (L2 ++ R2) ++ Q) ∧ Chg g w w1 from ⟨by
        have h9 := H1.out.1
        have h0 : L2.length = 0 ∨ R1.length = 0 := by have h8 := HC.out.2; omega
        rcases h0 with h0 | h0
        · rw [List.length_eq_zero_iff.1 h0] at h9 ⊢; simpa using h9
        · rw [List.length_eq_zero_iff.1 h0] at h9 ⊢; simpa using h9, H1.out.2⟩)
      obtain ⟨w2, rfl⟩ : ∃ w2, w2 = w1 := ⟨_, rfl⟩
      go_upto_region 41 with fail
      by_cases hl : a < s ∧ s < mid
      · refine sym_r41 w2 a s mid true (decide_eq_true hl) ?_
        intro d192 d193 d194 d195 d196 d197 d198
        go_upto_region 43 with (go_at_call 28
                                go_loud (skip
                                         refine (HI.out w2 S g N n a s mid P L1 R1 (L2 ++ R2 ++ Q) (by have h9 := H2.out.1; simpa using h9) (HT.out.1.up H2.out.2.bel.size) (by rw [← HT.out.2.2.2.2.2.2.1]; simp <;> omega) hz HT.out.2.1 (by have h8 := HC.out.2; omega) (by have h8 := HC.out.2; omega) HT.out.2.2.1 HT.out.2.2.2.1 (by have h8 := HC.out.2; omega) (by have h8 := HC.out.2; omega) (by have h8 := HC.out.2; have h7 := HT.out.2.2.2.2.2.2.2; omega)).mono ?_
                                         rintro e9 w3 ⟨rfl, ys, ⟨A, rfl, hA1, hA2, hA3⟩, hF3, hC3⟩
                                         have H3 := Lib.hid (show PartS w w3 S g N P (L1 ++ R1) ((L2 ++ R2) ++ Q) A from ⟨hA1, hA2, hA3, by simpa using hF3, H2.out.2.trans hC3⟩)
                                         clear hA1 hA2 hA3 hF3 hC3))
        have hln3 : (P ++ A ++ (L2 ++ R2) ++ Q).length = n := by rw [← HT.out.2.2.2.2.2.2.1]; have h9 := H3.out.2.2.1; simp at h9 ⊢; omega
        by_cases hr : mid < e ∧ e < b
        · refine sym_r43 w3 mid e b true (decide_eq_true hr) ?_
          intro d206 d207 d208 d209 d210 d211 d212
          go_wp2_with (go_at_call 28
                       go_loud (skip
                                refine (HI.out w3 S g N n mid e b (P ++ A) L2 R2 Q (by have h9 := H3.out.2.2.2.1; simpa using h9) (HT.out.1.up H3.out.2.2.2.2.bel.size) hln3 hz (by have h9 := H3.out.2.2.1; have h8 := HC.out.2.1; have h7 := HT.out.2.1; simp at h9 ⊢; omega) (by have h8 := HC.out.2; omega) (by have h8 := HC.out.2; omega) HC.out.1.1 HC.out.1.2.1 (by have h8 := HC.out.2; omega) (by have h8 := HC.out.2; omega) (by have h8 := HC.out.2; have h7 := HT.out.2.2.2.2.2.2.2; omega)).mono ?_
                                rintro e9 w4 ⟨rfl, ys, ⟨B, rfl, hB1, hB2, hB3⟩, hF4, hC4⟩
                                have hj := merge_join (key := Fl.tm) HC.out.1.2.2.1 HC.out.1.2.2.2.1 HC.out.1.2.2.2.2.1 HC.out.1.2.2.2.2.2 H3.out.1 H3.out.2.1 hB1 hB2
                                have HF := Lib.hid (show RowRet w S g N (PartRet P (L ++ R) Q) (.returned (.tuple #[])) w4 from ⟨rfl, _, ⟨A ++ B, by simp, hj.1, by rw [HT.out.2.2.2.2.1, HT.out.2.2.2.2.2.1]; exact hj.2, by have h9 := H3.out.2.2.1; rw [HT.out.2.2.2.2.1, HT.out.2.2.2.2.2.1]; simp at h9 hB3 ⊢; omega⟩, hF4, H3.out.2.2.2.2.trans hC4⟩)
                                clear hB1 hB2 hB3 hF4 hC4 hj))
          go_end0
          exact HF.out
        · refine sym_r43 w3 mid e b false (decide_eq_false hr) ?_
          intro d206 d207 d208 d209 d210 d211 d212
          have hj := merge_join (key := Fl.tm) HC.out.1.2.2.1 HC.out.1.2.2.2.1 HC.out.1.2.2.2.2.1 HC.out.1.2.2.2.2.2 H3.out.1 H3.out.2.1 (sorted_ends HC.out.1.1 HC.out.1.2.1 (by have h8 := HC.out.2; omega)) (SameK.refl _)
          have HF := Lib.hid (show RowRet w S g N (PartRet P (L ++ R) Q) (.returned (.tuple #[])) w3 from ⟨rfl, P ++ (A ++ (L2 ++ R2)) ++ Q, ⟨A ++ (L2 ++ R2), rfl, hj.1, by rw [HT.out.2.2.2.2.1, HT.out.2.2.2.2.2.1]; exact hj.2, by have h9 := H3.out.2.2.1; rw [HT.out.2.2.2.2.1, HT.out.2.2.2.2.2.1]; simp at h9 ⊢; omega⟩, by have h9 := H3.out.2.2.2.1; simpa using h9, H3.out.2.2.2.2⟩)
          clear hj
          go_wp2
          go_end0
          exact HF.out
      · refine sym_r41 w2 a s mid false (decide_eq_false hl) ?_
        intro d192 d193 d194 d195 d196 d197 d198
        obtain ⟨A, hA⟩ : ∃ A, L1 ++ R1 = A := ⟨_, rfl⟩
        have H3 := Lib.hid (show PartS w w2 S g N P (L1 ++ R1) ((L2 ++ R2) ++ Q) A from ⟨by rw [← hA]; exact sorted_ends HT.out.2.2.1 HT.out.2.2.2.1 (by have h8 := HC.out.2; omega), by rw [hA]; exact SameK.refl _, by rw [hA], by rw [← hA]; have h9 := H2.out.1; simpa using h9, H2.out.2⟩)
        clear hA
        obtain ⟨w3, rfl⟩ : ∃ w3, w3 = w2 := ⟨_, rfl⟩
        go_upto_region 43 with fail
        have hln3 : (P ++ A ++ (L2 ++ R2) ++ Q).length = n := by rw [← HT.out.2.2.2.2.2.2.1]; have h9 := H3.out.2.2.1; simp at h9 ⊢; omega
        by_cases hr : mid < e ∧ e < b
        · refine sym_r43 w3 mid e b true (decide_eq_true hr) ?_
          intro d206 d207 d208 d209 d210 d211 d212
          go_wp2_with (go_at_call 28
                       go_loud (skip
                                refine (HI.out w3 S g N n mid e b (P ++ A) L2 R2 Q (by have h9 := H3.out.2.2.2.1; simpa using h9) (HT.out.1.up H3.out.2.2.2.2.bel.size) hln3 hz (by have h9 := H3.out.2.2.1; have h8 := HC.out.2.1; have h7 := HT.out.2.1; simp at h9 ⊢; omega) (by have h8 := HC.out.2; omega) (by have h8 := HC.out.2; omega) HC.out.1.1 HC.out.1.2.1 (by have h8 := HC.out.2; omega) (by have h8 := HC.out.2; omega) (by have h8 := HC.out.2; have h7 := HT.out.2.2.2.2.2.2.2; omega)).mono ?_
                                rintro e9 w4 ⟨rfl, ys, ⟨B, rfl, hB1, hB2, hB3⟩, hF4, hC4⟩
                                have hj := merge_join (key := Fl.tm) HC.out.1.2.2.1 HC.out.1.2.2.2.1 HC.out.1.2.2.2.2.1 HC.out.1.2.2.2.2.2 H3.out.1 H3.out.2.1 hB1 hB2
                                have HF := Lib.hid (show RowRet w S g N (PartRet P (L ++ R) Q) (.returned (.tuple #[])) w4 from ⟨rfl, _, ⟨A ++ B, by simp, hj.1, by rw [HT.out.2.2.2.2.1, HT.out.2.2.2.2.2.1]; exact hj.2, by have h9 := H3.out.2.2.1; rw [HT.out.2.2.2.2.1, HT.out.2.2.2.2.2.1]; simp at h9 hB3 ⊢; omega⟩, hF4, H3.out.2.2.2.2.trans hC4⟩)
                                clear hB1 hB2 hB3 hF4 hC4 hj))
          go_end0
          exact HF.out
        · refine sym_r43 w3 mid e b false (decide_eq_false hr) ?_
          intro d206 d207 d208 d209 d210 d211 d212
          have hj := merge_join (key := Fl.tm) HC.out.1.2.2.1 HC.out.1.2.2.2.1 HC.out.1.2.2.2.2.1 HC.out.1.2.2.2.2.2 H3.out.1 H3.out.2.1 (sorted_ends HC.out.1.1 HC.out.1.2.1 (by have h8 := HC.out.2; omega)) (SameK.refl _)
          have HF := Lib.hid (show RowRet w S g N (PartRet P (L ++ R) Q) (.returned (.tuple #[])) w3 from ⟨rfl, P ++ (A ++ (L2 ++ R2)) ++ Q, ⟨A ++ (L2 ++ R2), rfl, hj.1, by rw [HT.out.2.2.2.2.1, HT.out.2.2.2.2.2.1]; exact hj.2, by have h9 := H3.out.2.2.1; rw [HT.out.2.2.2.2.1, HT.out.2.2.2.2.2.1]; simp at h9 ⊢; omega⟩, by have h9 := H3.out.2.2.2.1; simpa using h9, H3.out.2.2.2.2⟩)
          clear hj
          go_wp2
          go_end0
          exact HF.out
theorem symC_all : ∀ K, SymC K
  | 0 => fun w S g N n a m b P L R Q hF hS hn hz hP hm hb hL hR h1 h2 hK => by omega
  | K + 1 => fun w S g N n a m b P L R Q hF hS hn hz hP hm hb hL hR h1 h2 hK => by
    by_cases c1 : L.length = 1
    · obtain ⟨x, rfl⟩ := List.length_eq_one_iff.1 c1
      exact sym_left1 w S g N n a m b P R Q x hF hS hn hz hP (by simpa using hm) hb hR
    · by_cases c2 : R.length = 1
      · obtain ⟨y, rfl⟩ := List.length_eq_one_iff.1 c2
        exact sym_right1 w S g N n a m b P L Q y hF hS hn hz hP hm (by simpa using hb) hL c1
      · exact sym_main (symC_all K) w S g N n a m b P L R Q hF hS hn hz hP hm hb hL hR (by omega) (by omega) hK
end Go.Proofs.Ytponbodiibkopaa
