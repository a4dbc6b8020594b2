/-
  The stable sort's contract for any length.
-/
import Derived.Test.YtponbodiibkopaaSrtH
namespace Go.Proofs.Ytponbodiibkopaa
open Go.RowKit Go.Sort
set_option linter.unusedVariables false

def AllSorted (xs : List Fl) (ys : List Fl) : Prop := SortedK Fl.tm ys ∧ SameK Fl.tm xs ys ∧ ys.length = xs.length
set_option maxRecDepth 100000 in
set_option maxHeartbeats 4000000 in
theorem stable_any (w : World) (S : Nat → Prop) (g N n : Nat) (xs : List Fl) (hF : Fill Rfl w S g 37 N xs) (hS : RowS w S g) (hn : xs.length = n) (hz : n ≤ 1152921504606846976) :
    Calls Try.prog 25 #[.slice (some ⟨g, 0, none⟩) n N, .int .i64 (n : Nat), lessV] w (RowRet w S g N (AllSorted xs)) := by
  have HX := Lib.hid (And.intro hF (And.intro hS hn))
  clear hF hS hn
  go_enter Try.func25, Try.ntmps25
  go_upto_block 0 with fail
  refine stab_loop0 w S g N n xs HX.out.1 HX.out.2.1 HX.out.2.2 hz ?_
  intro d11 d12 d13 d14 d15 d16 d17 d18 d19 d20 d21 d22 w1 D E a t b hB hE hF1 hC1
  have H1 := Lib.hid (And.intro hB (And.intro hE (And.intro hF1 hC1)))
  clear hB hE hF1 hC1
  go_upto_block 2 with (go_at_call 27
                        go_loud (skip
                                 refine (insert_any w1 S g N n a n D E [] (by simpa using H1.out.2.2.1) (HX.out.2.1.up H1.out.2.2.2.bel.size) (by have h9 := H1.out.1.el; have h8 := H1.out.1.dl; simp; omega) (by omega) H1.out.1.dl H1.out.1.el).mono ?_
                                 rintro e w2 ⟨rfl, ys, ⟨T, rfl, hT1, hT2, hT3⟩, hF2, hC2⟩
                                 obtain ⟨q1, q2, q3⟩ := H1.out.1.last (by have h9 := H1.out.2.1; omega) hT1 hT2 hT3
                                 obtain ⟨Y, hY⟩ : ∃ Y, D ++ T = Y := ⟨_, rfl⟩
                                 rw [hY] at q1 q2 q3
                                 have H2 := Lib.hid (show BlkS Fl.tm 20 Y ∧ SameK Fl.tm xs Y ∧ Y.length = n ∧ Fill Rfl w2 S g 37 N Y ∧ Chg g w w2 from ⟨q1, q2, q3, by rw [← hY]; simpa using hF2, H1.out.2.2.2.trans hC2⟩)
                                 clear hT1 hT2 hT3 hF2 hC2 q1 q2 q3 hY))
  go_wp2
  go_loopw [6] (fun v wr => ∃ (Y : List Fl) (V : Nat), v = .int .i64 (V : Nat) ∧ Hid (0 < V ∧ V ≤ 2305843009213693952 ∧ BlkS Fl.tm V Y ∧ SameK Fl.tm xs Y ∧ Y.length = n ∧ Fill Rfl wr S g 37 N Y ∧ Chg g w wr)) (fun v _ => n - (intOf v).toNat)
  case atStart => exact ⟨Y, 20, rfl, Lib.hid ⟨by omega, by omega, H2.out⟩⟩
  case round =>
    clear H1 H2
    obtain ⟨Y, V, rfl, HR⟩ := hrel
    obtain ⟨wi, rfl⟩ : ∃ wi : World, wi = wr := ⟨_, rfl⟩
    by_cases hVn : V < n
    · have d : decide (V < n) = true := decide_eq_true hVn
      have hV0 := HR.out.1
      obtain ⟨W, hW⟩ : ∃ W, V + V = W := ⟨_, rfl⟩
      have hW2 : 2 * (V : Int) = (W : Int) := by omega
      have hW3 : (V : Int) * 2 = (W : Int) := by omega
      have HW := Lib.hid (And.intro hW (And.intro hW2 hW3))
      clear hW hW2 hW3
      go_upto_block 4 with fail
      rw [HW.out.2.1]
      refine stab_inner wi S g N n V W Y HR.out.2.2.2.2.2.1 (HX.out.2.1.up HR.out.2.2.2.2.2.2.bel.size) HR.out.2.2.2.2.1 hz hV0 hVn HW.out.1 HR.out.2.2.1 ?_
      intro d33 d34 d35 d36 d37 d38 d39 d40 d41 d42 d43 d44 d45 d46 d47 d48 w3 D3 E3 a3 t3 b3 hB3 hE3 hF3 hC3
      have hel := hB3.el
      have han : a3 ≤ n := by omega
      obtain ⟨m, hm⟩ : ∃ m, a3 + V = m := ⟨_, rfl⟩
      have hmi : (a3 : Int) + (V : Int) = (m : Int) := by omega
      have H3 := Lib.hid (And.intro hB3 (And.intro hE3 (And.intro hF3 (And.intro (HR.out.2.2.2.2.2.2.trans hC3) (And.intro hm hel)))))
      have HMI := Lib.hid hmi
      clear hB3 hE3 hF3 hC3 hel hm hmi
      go_upto_region 14 with fail
      rw [HMI.out]
      by_cases hmn : m < n
      · have d2 : decide (m < n) = true := decide_eq_true hmn
        obtain ⟨L, hL⟩ : ∃ l, E3.take V = l := ⟨_, rfl⟩
        obtain ⟨R, hR⟩ : ∃ l, E3.drop V = l := ⟨_, rfl⟩
        have hLR : L ++ R = E3 := by rw [← hL, ← hR, List.take_append_drop]
        have hLl : L.length = V := by rw [← hL, List.length_take]; have h9 := H3.out.2.2.2.2; omega
        have hRl : V + R.length = E3.length := by rw [← hLR, List.length_append, hLl]
        obtain ⟨sL, hb2⟩ := BlkS.split (by have h9 := H3.out.1.rest; rw [← hLR] at h9; exact h9) hLl
        have sR := hb2.last (by have h9 := H3.out.2.1; have h8 := HW.out.1; omega)
        have HA := Lib.hid (show Fill Rfl w3 S g 37 N (D3 ++ (L ++ R) ++ []) ∧ (D3 ++ (L ++ R) ++ []).length = n ∧ L.length = V ∧ V + R.length = E3.length ∧ SortedK Fl.tm L ∧ SortedK Fl.tm R ∧ L ++ R = E3 from ⟨by rw [hLR]; simpa using H3.out.2.2.1, by rw [hLR]; have h9 := H3.out.1.el; have h8 := H3.out.1.dl; simp; omega, hLl, hRl, sL, sR, hLR⟩)
        clear hL hR hLR hLl hRl hb2 sL sR
        go_wp2_with (go_at_call 28
                     go_loud (skip
                              refine (symC_all (L.length + R.length) w3 S g N n a3 m n D3 L R [] HA.out.1 (HX.out.2.1.up H3.out.2.2.2.1.bel.size) HA.out.2.1 (by omega) H3.out.1.dl (by have h9 := HA.out.2.2; have h8 := H3.out.2.2.2.2; omega) (by have h9 := HA.out.2.2; have h8 := H3.out.2.2.2.2; omega) HA.out.2.2.2.2.1 HA.out.2.2.2.2.2.1 (by have h9 := HA.out.2.2; omega) (by have h9 := HA.out.2.2; have h8 := H3.out.2.2.2.2; omega) (Nat.le_refl _)).mono ?_
                              rintro e w4 ⟨rfl, ys, ⟨T, rfl, hT1, hT2, hT3⟩, hF4, hC4⟩
                              rw [HA.out.2.2.2.2.2.2] at hT2 hT3
                              obtain ⟨q1, q2, q3⟩ := H3.out.1.last (by have h9 := H3.out.2.1; omega) hT1 hT2 hT3
                              have H4 := Lib.hid (show BlkS Fl.tm W (D3 ++ T) ∧ SameK Fl.tm xs (D3 ++ T) ∧ (D3 ++ T).length = n ∧ Fill Rfl w4 S g 37 N (D3 ++ T) ∧ Chg g w w4 from ⟨q1, HR.out.2.2.2.1.trans q2, q3, by simpa using hF4, H3.out.2.2.2.1.trans hC4⟩)
                              clear hT1 hT2 hT3 hF4 hC4 q1 q2 q3))
        rw [HW.out.2.2]
        go_roundw
        case measure => have := HW.out.1; simp [intOf]; omega
        case rel => exact ⟨D3 ++ T, W, rfl, Lib.hid ⟨by have := HW.out.1; omega, by have := HW.out.1; omega, H4.out⟩⟩
      · have d2 : decide (m < n) = false := decide_eq_false hmn
        have sE := H3.out.1.rest.last (by have h9 := H3.out.2.2.2.2; omega)
        obtain ⟨q1, q2, q3⟩ := H3.out.1.last (by have h9 := H3.out.2.1; omega) sE (SameK.refl _) rfl
        have H4 := Lib.hid (show BlkS Fl.tm W (D3 ++ E3) ∧ SameK Fl.tm xs (D3 ++ E3) ∧ (D3 ++ E3).length = n ∧ Fill Rfl w3 S g 37 N (D3 ++ E3) ∧ Chg g w w3 from ⟨q1, HR.out.2.2.2.1.trans q2, q3, H3.out.2.2.1, H3.out.2.2.2.1⟩)
        clear sE q1 q2 q3
        go_wp2
        rw [HW.out.2.2]
        go_roundw
        case measure => have := HW.out.1; simp [intOf]; omega
        case rel => exact ⟨D3 ++ E3, W, rfl, Lib.hid ⟨by have := HW.out.1; omega, by have := HW.out.1; omega, H4.out⟩⟩
    · have d : decide (V < n) = false := decide_eq_false hVn
      have HF := Lib.hid (show RowRet w S g N (AllSorted xs) (.returned (.tuple #[])) wi from ⟨rfl, Y, ⟨HR.out.2.2.1.last (by have h9 := HR.out.2.2.2.2.1; omega), HR.out.2.2.2.1, by rw [HR.out.2.2.2.2.1, HX.out.2.2]⟩, HR.out.2.2.2.2.2.1, HR.out.2.2.2.2.2.2⟩)
      go_wp2
      go_end0
      exact HF.out
theorem sort_row (w : World) (S : Nat → Prop) (g N n : Nat) (xs : List Fl) (hF : Fill Rfl w S g 37 N xs) (hS : RowS w S g) (hn : xs.length = n) (hz : n ≤ 1152921504606846976) :
    Calls Try.prog 22 #[.slice (some ⟨g, 0, none⟩) n N, lessV] w (RowRet w S g N (AllSorted xs)) := by
  have HX := Lib.hid (And.intro hF (And.intro hS hn))
  clear hF hS hn
  go_enter Try.func22, Try.ntmps22
  go_wp2_with (go_at_call 25
               go_loud (skip
                        refine (stable_any w S g N n xs HX.out.1 HX.out.2.1 HX.out.2.2 hz).mono ?_
                        rintro e w1 ⟨rfl, H1⟩
                        have HF := Lib.hid H1
                        clear H1))
  go_end0
  exact ⟨rfl, HF.out⟩
theorem sortC_all (K : Nat) (hK : K ≤ 1152921504606846976) : SortC K := by
  intro w B X v xs ho hl hB hX
  rcases Nat.eq_zero_or_pos xs.length with h0 | h0
  · exact sortC_one w B X v xs ho (by omega) hB hX
  · obtain ⟨S, h1, h2, h3⟩ := ho
    obtain ⟨g, cap, rfl, hg, hlc, hcm, hF⟩ := h1.fill h0
    have hgX : ¬ X g := h3 g rfl
    refine (sort_row w S g cap xs.length xs hF (fun b hb => ⟨(h2 b hb).2.1, fun e => (h2 b hb).2.2.2 (by rw [e]; rfl)⟩) rfl (by omega)).mono ?_
    rintro e w' ⟨rfl, ys, ⟨s1, s2, s3⟩, hF', hC⟩
    have hz := hC.bel.size
    refine ⟨rfl, ys, OwnX.ofFillN hF' s3 hlc hcm (fun k hk => ⟨(h2 k hk).1, by have := (h2 k hk).2.1; omega, (h2 k hk).2.2.1, fun e => (h2 k hk).2.2.2 (by rw [e]; rfl)⟩) hg hgX, s1, s2, s3, hC.bel.mono hg, fun k hk hne => hC.fr k hk (fun e => hne (by rw [e]; rfl))⟩
end Go.Proofs.Ytponbodiibkopaa
