/-
  insertionSort: the walk.
-/
import Derived.Test.YtponbodiibkopaaSrtB
namespace Go.Proofs.Ytponbodiibkopaa
open Go.RowKit Go.Sort
set_option linter.unusedVariables false

theorem wrap_nat {x : Int} {i : Nat} (h : x = i) (hi : i ≤ 9223372036854775807) : IntKind.i64.wrap x = (i : Int) := by
  subst h; rw [IntKind.wrap_i64]; omega
theorem swap_adj (X Z : List Fl) (y x : Fl) {j : Nat} (hj : X.length = j) : (X ++ y :: x :: Z)[j]? = some y ∧ (X ++ y :: x :: Z)[j + 1]? = some x ∧ ((X ++ y :: x :: Z).set (j + 1) y).set j x = X ++ x :: y :: Z := by
  subst hj
  refine ⟨by simp, by rw [List.getElem?_append_right (by omega)]; simp, ?_⟩
  rw [List.set_append_right _ _ (by omega), List.set_append_right _ _ (Nat.le_refl _), Nat.sub_self, show X.length + 1 - X.length = 1 by omega]
  rfl
noncomputable def ins_r4s_code : Code := regionOf Try.f27 4
set_option maxRecDepth 100000 in
set_option maxHeartbeats 2000000 in
theorem ins_r4s {Q : Exit → Act → World → Prop} {s2 s4 s5 s6 s7 s8 s10 s11 s12 s13 s14 s15 s16 s17 s18 s19 s20 s21 s22 s23 s24 s25 s26 s27 s28 s29 s30 s31 s32 s33 s34 s35 s36 s37 s38 s39 s40 s41 s42 s43 s44 s45 s46 s47 s48 s49 s50 s51 s52 : Value} (w : World) (S : Nat → Prop) (g N n : Nat) (a i : Nat) (xs : List Fl)
    (hF : Fill Rfl w S g 37 N xs) (hS : RowS w S g) (hai : ¬ a < i)
    (hK : ∀ (d18 d19 d20 d21 d22 d23 d24 d25 d26 d27 d28 d29 d30 d31 d32 d33 : Value) (w' : World), Fill Rfl w' S g 37 N xs → Chg g w w' → Q .normal ⟨#[.slice (some ⟨g, 0, none⟩) n N, .int .i64 (a : Nat), s2, lessV, s4, s5, s6, s7, s8, .int .i64 (i : Nat), s10, s11, s12, s13, s14, s15, s16, s17, d18, d19, d20, d21, d22, d23, d24, d25, d26, d27, d28, d29, d30, d31, d32, d33, .bool false, s35, s36, s37, s38, s39, s40, s41, s42, s43, s44, s45, s46, s47, s48, s49, s50, s51, s52], []⟩ w') :
    Code.wp Try.prog ins_r4s_code Q ⟨#[.slice (some ⟨g, 0, none⟩) n N, .int .i64 (a : Nat), s2, lessV, s4, s5, s6, s7, s8, .int .i64 (i : Nat), s10, s11, s12, s13, s14, s15, s16, s17, s18, s19, s20, s21, s22, s23, s24, s25, s26, s27, s28, s29, s30, s31, s32, s33, s34, s35, s36, s37, s38, s39, s40, s41, s42, s43, s44, s45, s46, s47, s48, s49, s50, s51, s52], []⟩ w := by
  have HK := Lib.hid hK; clear hK
  have HF := Lib.hid (And.intro hF (And.intro hS hF.lt)); clear hF hS
  have d1 : decide (a < i) = false := decide_eq_false hai
  clear hai
  conv => arg 2; whnf
  refine wp_region_quiet_below (by kernel_rfl) (by kernel_rfl) ?_
  repeat (any_goals (first | go_big_quiet_step (fail) | quiet_step (fail)))
  refine wpQuiet_nil ?_
  rintro _ ⟨⟨dq, osq⟩, rfl⟩
  exact HK.out _ _ _ _ _ _ _ _ _ _ _ _ _ _ _ _ _ (HF.out.1.chg HF.out.2.1 (below_regrown w dq osq)) (Chg.ofBelow (below_regrown w dq osq) (by have := HF.out.2.2; omega))
/-- The list behind an element's way to the left. -/
def InsRet (L : List Fl) (x : Fl) (T : List Fl) : Prop := SortedK Fl.tm T ∧ SameK Fl.tm (L ++ [x]) T ∧ T.length = L.length + 1
theorem InsRet.mk' {L : List Fl} {x : Fl} {L1 L2 : List Fl} (h : InsI Fl.tm L x L1 L2) (hL : SortedK Fl.tm L) (h1 : ∀ z ∈ L1, z.tm ≤ x.tm) : InsRet L x (L1 ++ x :: L2) := by
  obtain ⟨a, b⟩ := h.stop hL h1
  exact ⟨a, b, by have := congrArg List.length h.eq; simp at this ⊢; omega⟩
noncomputable def ins_inner_code : Code := blockOf Try.f27 2
set_option maxRecDepth 100000 in
set_option maxHeartbeats 2000000 in
theorem ins_inner {Q : Exit → Act → World → Prop} {s2 s4 s5 s6 s7 s8 s10 s11 s12 s13 s14 s15 s16 s17 s18 s19 s20 s21 s22 s23 s24 s25 s26 s27 s28 s29 s30 s31 s32 s33 s34 s35 s36 s37 s38 s39 s40 s41 s42 s43 s44 s45 s46 s47 s48 s49 s50 s51 s52 : Value} (w : World) (S : Nat → Prop) (g N n : Nat) (a i0 : Nat) (P L Rest : List Fl) (x : Fl)
    (hF : Fill Rfl w S g 37 N (P ++ L ++ x :: Rest)) (hS : RowS w S g) (hn : (P ++ L ++ x :: Rest).length = n) (hz : n ≤ 4611686018427387904) (hP : P.length = a) (hi : a + L.length = i0) (hL : SortedK Fl.tm L)
    (hK : ∀ (d9 d18 d19 d20 d21 d22 d23 d24 d25 d26 d27 d28 d29 d30 d31 d32 d33 d34 d35 d36 d37 d38 d39 d40 d41 d42 d43 d44 d45 d46 d47 d48 d49 d50 d51 d52 : Value) (w' : World) (T : List Fl), InsRet L x T → Fill Rfl w' S g 37 N (P ++ T ++ Rest) → Chg g w w' → Q .normal ⟨#[.slice (some ⟨g, 0, none⟩) n N, .int .i64 (a : Nat), s2, lessV, s4, s5, s6, s7, s8, d9, s10, s11, s12, s13, s14, s15, s16, s17, d18, d19, d20, d21, d22, d23, d24, d25, d26, d27, d28, d29, d30, d31, d32, d33, d34, d35, d36, d37, d38, d39, d40, d41, d42, d43, d44, d45, d46, d47, d48, d49, d50, d51, d52], []⟩ w') :
    Code.wp Try.prog ins_inner_code Q ⟨#[.slice (some ⟨g, 0, none⟩) n N, .int .i64 (a : Nat), s2, lessV, s4, s5, s6, s7, s8, .int .i64 (i0 : Nat), s10, s11, s12, s13, s14, s15, s16, s17, s18, s19, s20, s21, s22, s23, s24, s25, s26, s27, s28, s29, s30, s31, s32, s33, s34, s35, s36, s37, s38, s39, s40, s41, s42, s43, s44, s45, s46, s47, s48, s49, s50, s51, s52], []⟩ w := by
  have HK := Lib.hid hK; clear hK
  have H0 := Lib.hid (show InsI Fl.tm L x L [] ∧ a + L.length = i0 ∧ Fill Rfl w S g 37 N (P ++ L ++ x :: ([] ++ Rest)) ∧ Chg g w w from ⟨InsI.start L x, hi, hF, Chg.refl g w⟩)
  have hlen : a + L.length + 1 + Rest.length = n := by rw [← hn]; simp [hP]; omega
  have HX := Lib.hid (And.intro hS (And.intro hP (And.intro hL hlen)))
  clear hF hS hn hP hi hL hlen
  conv => arg 2; whnf
  go_wp2
  go_loopw [9] (fun v wr => ∃ (L1 L2 : List Fl) (i : Nat), v = .int .i64 (i : Nat) ∧ Hid (InsI Fl.tm L x L1 L2 ∧ a + L1.length = i ∧ Fill Rfl wr S g 37 N (P ++ L1 ++ x :: (L2 ++ Rest)) ∧ Chg g w wr)) (fun v _ => (intOf v).toNat)
  case atStart => exact ⟨L, [], i0, rfl, H0⟩
  case round =>
    clear H0
    obtain ⟨L1, L2, i, rfl, HR⟩ := hrel
    obtain ⟨wi, rfl⟩ : ∃ wi : World, wi = wr := ⟨_, rfl⟩
    have hLl := congrArg List.length HR.out.1.eq
    rw [List.length_append] at hLl
    have hin : i < n := by have h1 := HX.out.2.2.2; have h2 := HR.out.2.1; omega
    have hSi := HX.out.1.up HR.out.2.2.2.bel.size
    rcases List.eq_nil_or_concat L1 with h0 | ⟨L1', y, h0⟩
    · have hia : ¬ a < i := by have h1 := HR.out.2.1; rw [h0] at h1; simp at h1; omega
      have HQ := Lib.hid (show InsRet L x ([] ++ x :: L2) from by rw [← h0]; exact InsRet.mk' HR.out.1 HX.out.2.2.1 (fun z hz => by rw [h0] at hz; simp at hz))
      have HFi := Lib.hid (show Fill Rfl wi S g 37 N (P ++ ([] ++ x :: L2) ++ Rest) from by have h1 := HR.out.2.2.1; rw [h0] at h1; simpa using h1)
      clear hLl h0
      go_upto_region 4 with fail
      refine ins_r4s wi S g N n a i _ HFi.out hSi hia ?_
      intro d18 d19 d20 d21 d22 d23 d24 d25 d26 d27 d28 d29 d30 d31 d32 d33 w1 hF1 hC1
      have H1 := Lib.hid (And.intro hF1 hC1); clear hF1 hC1
      go_wp2
      exact HK.out _ _ _ _ _ _ _ _ _ _ _ _ _ _ _ _ _ _ _ _ _ _ _ _ _ _ _ _ _ _ _ _ _ _ _ _ _ _ HQ.out H1.out.1 (HR.out.2.2.2.trans H1.out.2)
    · rw [List.concat_eq_append] at h0
      obtain ⟨j, hj⟩ : ∃ j, a + L1'.length = j := ⟨_, rfl⟩
      have hij : i = j + 1 := by have h1 := HR.out.2.1; rw [h0] at h1; simp at h1; omega
      have HJ := Lib.hid (And.intro hj h0)
      have hFi : Fill Rfl wi S g 37 N ((P ++ L1') ++ y :: x :: (L2 ++ Rest)) := by have h1 := HR.out.2.2.1; rw [h0] at h1; simpa using h1
      have hPl : (P ++ L1').length = j := by rw [List.length_append, HX.out.2.1]; exact hj
      have hadj := swap_adj (P ++ L1') (L2 ++ Rest) y x hPl
      have hnn : ((P ++ L1') ++ y :: x :: (L2 ++ Rest)).length = n := by
        have h1 := HX.out.2.2.2; rw [h0] at hLl; simp at hLl ⊢; rw [HX.out.2.1]; omega
      have hwj : IntKind.i64.wrap ((i : Int) - 1) = (j : Int) := wrap_nat (by omega) (by omega)
      have hai : a < i := by omega
      have HA := Lib.hid (And.intro hFi (And.intro hadj hnn))
      clear hFi hadj hnn hPl hLl h0 hj
      subst hij
      by_cases hlt : x.tm < y.tm
      · have HL := Lib.hid (show InsI Fl.tm L x L1' (y :: L2) from InsI.step (by rw [← HJ.out.2]; exact HR.out.1) hlt)
        have hq : decide (x.tm < y.tm) = true := decide_eq_true hlt
        go_upto_region 4 with fail
        refine ins_r4 wi S g N n a (j + 1) j _ x y true HA.out.1 hSi HA.out.2.2 HA.out.2.1.2.1 HA.out.2.1.1 hq hai hwj ?_
        intro d18 d19 d20 d21 d22 d23 d24 d25 d26 d27 d28 d29 d30 d31 d32 d33 w1 hF1 hC1
        have H1 := Lib.hid (And.intro hF1 hC1); clear hF1 hC1 hq hlt
        go_upto_region 6 with fail
        refine ins_r6 w1 S g N n (j + 1) j _ x y H1.out.1 hSi.not HA.out.2.2 HA.out.2.1.2.1 HA.out.2.1.1 hwj ?_
        intro d37 d38 d39 d40 d41 d42 d43 d44 d45 d46 d47 d48 d49 d50 d51 d52 w2 hF2 hC2
        rw [HA.out.2.1.2.2] at hF2
        have H2 := Lib.hid (show InsI Fl.tm L x L1' (y :: L2) ∧ a + L1'.length = j ∧ Fill Rfl w2 S g 37 N (P ++ L1' ++ x :: ((y :: L2) ++ Rest)) ∧ Chg g w w2 from ⟨HL.out, HJ.out.1, hF2, (HR.out.2.2.2.trans H1.out.2).trans hC2⟩)
        clear hF2 hC2
        go_wp2
        go_roundw
        case measure => simp [intOf]
        case rel => exact ⟨L1', y :: L2, j, rfl, H2⟩
      · have hq : decide (x.tm < y.tm) = false := decide_eq_false hlt
        have HQ := Lib.hid (show InsRet L x (L1 ++ x :: L2) from InsRet.mk' HR.out.1 HX.out.2.2.1 (fun z hz => by
          have h1 := HX.out.2.2.1
          rw [HR.out.1.eq] at h1
          have h2 := h1.left
          rw [HJ.out.2] at h2 hz
          exact le_of_last h2 (by omega) z hz))
        clear hlt
        go_upto_region 4 with fail
        refine ins_r4 wi S g N n a (j + 1) j _ x y false HA.out.1 hSi HA.out.2.2 HA.out.2.1.2.1 HA.out.2.1.1 hq hai hwj ?_
        intro d18 d19 d20 d21 d22 d23 d24 d25 d26 d27 d28 d29 d30 d31 d32 d33 w1 hF1 hC1
        have H1 := Lib.hid (show Fill Rfl w1 S g 37 N (P ++ (L1 ++ x :: L2) ++ Rest) ∧ Chg g wi w1 from ⟨by rw [HJ.out.2]; simpa using hF1, hC1⟩); clear hF1 hC1 hq
        go_wp2
        exact HK.out _ _ _ _ _ _ _ _ _ _ _ _ _ _ _ _ _ _ _ _ _ _ _ _ _ _ _ _ _ _ _ _ _ _ _ _ _ _ HQ.out H1.out.1 (HR.out.2.2.2.trans H1.out.2)
/-- What a function that sorts the part Z leaves. -/
def PartRet (P Z Q : List Fl) (ys : List Fl) : Prop := ∃ T : List Fl, ys = P ++ T ++ Q ∧ SortedK Fl.tm T ∧ SameK Fl.tm Z T ∧ T.length = Z.length
set_option maxRecDepth 100000 in
set_option maxHeartbeats 2000000 in
theorem insert_any (w : World) (S : Nat → Prop) (g N n : Nat) (a b : Nat) (P Z Q : List Fl)
    (hF : Fill Rfl w S g 37 N (P ++ Z ++ Q)) (hS : RowS w S g) (hn : (P ++ Z ++ Q).length = n) (hz : n ≤ 4611686018427387904) (hP : P.length = a) (hb : a + Z.length = b) :
    Calls Try.prog 27 #[.slice (some ⟨g, 0, none⟩) n N, .int .i64 (a : Nat), .int .i64 (b : Nat), lessV] w (RowRet w S g N (PartRet P Z Q)) := by
  have hlen : a + Z.length + Q.length = n := by rw [← hn, ← hP]; simp; omega
  by_cases h0 : Z = []
  · subst h0
    have hab : a = b := by simpa using hb
    have HF := Lib.hid (show RowRet w S g N (PartRet P [] Q) (.returned (.tuple #[])) w from ⟨rfl, _, ⟨[], rfl, SortedK.nil, SameK.refl _, rfl⟩, hF, Chg.refl _ _⟩)
    have d : decide ((a : Int) + 1 < (b : Int)) = false := decide_eq_false (by omega)
    have hw1 : IntKind.i64.wrap ((a : Int) + 1) = ((a + 1 : Nat) : Int) := wrap_nat (by simp) (by simp at hlen; omega)
    have d' : decide (a + 1 < b) = false := decide_eq_false (by omega)
    clear hF hS hn hP hb hab
    go_enter Try.func27, Try.ntmps27
    go_wp2
    go_loopw [8] (fun i wr => i = .int .i64 ((a + 1 : Nat) : Int) ∧ wr = w) (fun _ _ => 0)
    case atStart => exact ⟨by first | rfl | simp, rfl⟩
    case round =>
      obtain ⟨rfl, rfl⟩ := hrel
      go_wp2
      go_end0
      exact HF.out
  · obtain ⟨z, Z', rfl⟩ := List.exists_cons_of_ne_nil h0
    have hw1 : IntKind.i64.wrap ((a : Int) + 1) = ((a + 1 : Nat) : Int) := wrap_nat (by simp) (by simp at hlen; omega)
    have H0 := Lib.hid (show z :: Z' = [z] ++ Z' ∧ SortedK Fl.tm [z] ∧ SameK Fl.tm [z] [z] ∧ [z].length = [z].length ∧ a + [z].length = a + 1 ∧ Fill Rfl w S g 37 N (P ++ [z] ++ (Z' ++ Q)) ∧ Chg g w w from ⟨rfl, SortedK.one z, SameK.refl _, rfl, rfl, by simpa using hF, Chg.refl _ _⟩)
    have HX := Lib.hid (And.intro hS (And.intro hP (And.intro hb hlen)))
    clear hF hS hn hP hb hlen h0
    go_enter Try.func27, Try.ntmps27
    go_wp2
    go_loopw [8] (fun v wr => ∃ (L R Z1 : List Fl) (i : Nat), v = .int .i64 (i : Nat) ∧ Hid (z :: Z' = Z1 ++ R ∧ SortedK Fl.tm L ∧ SameK Fl.tm Z1 L ∧ L.length = Z1.length ∧ a + L.length = i ∧ Fill Rfl wr S g 37 N (P ++ L ++ (R ++ Q)) ∧ Chg g w wr)) (fun v _ => n - (intOf v).toNat)
    case atStart => exact ⟨[z], Z', [z], a + 1, by first | rfl | simp, Lib.hid ⟨H0.out.1, H0.out.2.1, H0.out.2.2.1, rfl, H0.out.2.2.2.2⟩⟩
    case round =>
      clear H0
      obtain ⟨L, R, Z1, i, rfl, HR⟩ := hrel
      obtain ⟨wi, rfl⟩ : ∃ wi : World, wi = wr := ⟨_, rfl⟩
      have hSi := HX.out.1.up HR.out.2.2.2.2.2.2.bel.size
      have hZl := congrArg List.length HR.out.1
      rw [List.length_append] at hZl
      rcases R with _ | ⟨x, R'⟩
      · have d : decide (i < b) = false := decide_eq_false (by have h1 := HX.out.2.2.1; have h2 := HR.out.2.2.2.2.1; have h3 := HR.out.2.2.2.1; simp at hZl h1; omega)
        have HF := Lib.hid (show RowRet w S g N (PartRet P (z :: Z') Q) (.returned (.tuple #[])) wi from ⟨rfl, _, ⟨L, by simp, HR.out.2.1, by rw [HR.out.1]; simpa using HR.out.2.2.1, by have h3 := HR.out.2.2.2.1; simp at hZl; simp; omega⟩, HR.out.2.2.2.2.2.1, HR.out.2.2.2.2.2.2⟩)
        clear hZl
        go_wp2
        go_end0
        exact HF.out
      · have hib : i < b := by have h1 := HX.out.2.2.1; have h2 := HR.out.2.2.2.2.1; have h3 := HR.out.2.2.2.1; simp at hZl h1; omega
        have d : decide (i < b) = true := decide_eq_true hib
        have hin : i < n := by have h1 := HX.out.2.2.1; have h4 := HX.out.2.2.2; omega
        have HFi := Lib.hid (show Fill Rfl wi S g 37 N (P ++ L ++ x :: (R' ++ Q)) ∧ (P ++ L ++ x :: (R' ++ Q)).length = n from ⟨by have h1 := HR.out.2.2.2.2.2.1; simpa using h1, by have h2 := HX.out.2.2.2; have h3 := HR.out.2.2.2.1; have h5 := HX.out.2.1; simp at hZl h2 ⊢; omega⟩)
        clear hZl
        go_upto_block 2 with fail
        refine ins_inner wi S g N n a i P L (R' ++ Q) x HFi.out.1 hSi HFi.out.2 hz HX.out.2.1 HR.out.2.2.2.2.1 HR.out.2.1 ?_
        intro d9 d18 d19 d20 d21 d22 d23 d24 d25 d26 d27 d28 d29 d30 d31 d32 d33 d34 d35 d36 d37 d38 d39 d40 d41 d42 d43 d44 d45 d46 d47 d48 d49 d50 d51 d52 w1 T hT hF1 hC1
        have H1 := Lib.hid (show z :: Z' = (Z1 ++ [x]) ++ R' ∧ SortedK Fl.tm T ∧ SameK Fl.tm (Z1 ++ [x]) T ∧ T.length = (Z1 ++ [x]).length ∧ a + T.length = i + 1 ∧ Fill Rfl w1 S g 37 N (P ++ T ++ (R' ++ Q)) ∧ Chg g w w1 from
          ⟨by rw [HR.out.1]; simp, hT.1, (HR.out.2.2.1.append (SameK.refl [x])).trans hT.2.1, by rw [hT.2.2, HR.out.2.2.2.1]; simp, by rw [hT.2.2]; have h2 := HR.out.2.2.2.2.1; omega, hF1, HR.out.2.2.2.2.2.2.trans hC1⟩)
        clear hT hF1 hC1
        go_wp2
        go_roundw
        case measure => simp [intOf]; omega
        case rel => exact ⟨T, R', Z1 ++ [x], i + 1, by go_num, H1⟩
end Go.Proofs.Ytponbodiibkopaa
