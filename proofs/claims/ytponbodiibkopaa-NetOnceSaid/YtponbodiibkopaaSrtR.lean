/-
  swapRange and rotate: the walks.
-/
import Derived.Test.YtponbodiibkopaaSrtI
namespace Go.Proofs.Ytponbodiibkopaa
open Go.RowKit Go.Sort
set_option linter.unusedVariables false

theorem swpL_len {P S1 M S2 Q : List Fl} {c k : Nat} (h1 : S1.length = c) (h2 : S2.length = c) (hk : k ≤ c) : (swpL P S1 M S2 Q k).length = P.length + c + M.length + c + Q.length := by
  unfold swpL
  simp only [List.length_append, List.length_take, List.length_drop]
  omega
set_option maxRecDepth 100000 in
set_option maxHeartbeats 2000000 in
theorem swapRange_any (w : World) (S : Nat → Prop) (g N n : Nat) (a b c : Nat) (P S1 M S2 Q : List Fl)
    (hF : Fill Rfl w S g 37 N (P ++ S1 ++ M ++ S2 ++ Q)) (hS : RowS w S g) (hn : (P ++ S1 ++ M ++ S2 ++ Q).length = n) (hz : n ≤ 4611686018427387904) (hP : P.length = a) (hb : a + c + M.length = b) (h1 : S1.length = c) (h2 : S2.length = c) :
    Calls Try.prog 30 #[.slice (some ⟨g, 0, none⟩) n N, .int .i64 (a : Nat), .int .i64 (b : Nat), .int .i64 (c : Nat), lessV] w (RowRet w S g N (fun ys => ys = P ++ S2 ++ M ++ S1 ++ Q)) := by
  have hlen : b + c + Q.length = n := by rw [← hn]; simp; omega
  have H0 := Lib.hid (show Fill Rfl w S g 37 N (swpL P S1 M S2 Q 0) ∧ Chg g w w from ⟨by rw [swpL_zero]; exact hF, Chg.refl _ _⟩)
  have HX := Lib.hid (And.intro hS (And.intro hP (And.intro hb (And.intro h1 (And.intro h2 hlen)))))
  clear hF hS hn hP hb h1 h2
  go_enter Try.func30, Try.ntmps30
  go_wp2
  go_loopw [10] (fun v wr => ∃ k : Nat, k ≤ c ∧ v = .int .i64 (k : Nat) ∧ Hid (Fill Rfl wr S g 37 N (swpL P S1 M S2 Q k) ∧ Chg g w wr)) (fun v _ => c - (intOf v).toNat)
  case atStart => exact ⟨0, Nat.zero_le _, rfl, H0⟩
  case round =>
    clear H0
    obtain ⟨k, hk, rfl, HR⟩ := hrel
    obtain ⟨wi, rfl⟩ : ∃ wi : World, wi = wr := ⟨_, rfl⟩
    by_cases hlt : k < c
    · have hSi := HX.out.1.up HR.out.2.bel.size
      obtain ⟨x, y, hx, hy, hset⟩ := swpL_step (P := P) (M := M) (Q := Q) HX.out.2.2.2.1 HX.out.2.2.2.2.1 hlt
      obtain ⟨i, hi⟩ : ∃ i, a + k = i := ⟨_, rfl⟩
      obtain ⟨j, hj⟩ : ∃ j, b + k = j := ⟨_, rfl⟩
      have e1 : P.length + k = i := by rw [HX.out.2.1]; exact hi
      have e2 : P.length + c + M.length + k = j := by have h9 := HX.out.2.2.1; rw [HX.out.2.1]; omega
      rw [e1] at hx hset; rw [e2] at hy hset
      have hwi : IntKind.i64.wrap ((a : Int) + (k : Int)) = (i : Int) := wrap_nat (by omega) (by omega)
      have hwj : IntKind.i64.wrap ((b : Int) + (k : Int)) = (j : Int) := wrap_nat (by omega) (by omega)
      have HA := Lib.hid (And.intro hx (And.intro hy (And.intro hset (And.intro hwi (And.intro hwj (show (swpL P S1 M S2 Q k).length = n from by rw [swpL_len HX.out.2.2.2.1 HX.out.2.2.2.2.1 hk, HX.out.2.1]; have h9 := HX.out.2.2.1; have h8 := HX.out.2.2.2.2.2; omega))))))
      clear hx hy hset e1 e2 hi hj hwi hwj
      go_upto_region 3 with fail
      refine swr_r3 wi S g N n a b k i j _ x y HR.out.1 hSi.not HA.out.2.2.2.2.2 HA.out.1 HA.out.2.1 HA.out.2.2.2.1 HA.out.2.2.2.2.1 ?_
      intro d16 d17 d18 d19 d20 d21 d22 d23 d24 d25 d26 d27 d28 d29 d30 d31 d32 d33 d34 d35 d36 d37 w1 hF1 hC1
      rw [HA.out.2.2.1] at hF1
      have H1 := Lib.hid (And.intro hF1 (HR.out.2.trans hC1))
      clear hF1 hC1
      go_wp2
      go_roundw
      case measure => simp [intOf]; omega
      case rel => exact ⟨k + 1, by omega, by go_num, H1⟩
    · obtain rfl : k = c := by omega
      have HF := Lib.hid (show RowRet w S g N (fun ys => ys = P ++ S2 ++ M ++ S1 ++ Q) (.returned (.tuple #[])) wi from ⟨rfl, _, swpL_all HX.out.2.2.2.1 HX.out.2.2.2.2.1, HR.out.1, HR.out.2⟩)
      go_wp2
      go_end0
      exact HF.out
set_option maxRecDepth 100000 in
set_option maxHeartbeats 4000000 in
theorem rotate_any (w : World) (S : Nat → Prop) (g N n : Nat) (a m b : Nat) (P L R Q : List Fl)
    (hF : Fill Rfl w S g 37 N (P ++ (L ++ R) ++ Q)) (hS : RowS w S g) (hn : (P ++ (L ++ R) ++ Q).length = n) (hz : n ≤ 4611686018427387904) (hP : P.length = a) (hm : a + L.length = m) (hb : m + R.length = b) (h1 : 0 < L.length) (h2 : 0 < R.length) :
    Calls Try.prog 29 #[.slice (some ⟨g, 0, none⟩) n N, .int .i64 (a : Nat), .int .i64 (m : Nat), .int .i64 (b : Nat), lessV] w (RowRet w S g N (fun ys => ys = P ++ (R ++ L) ++ Q)) := by
  have hlen : b + Q.length = n := by rw [← hn]; simp; omega
  obtain ⟨i0, hi0⟩ : ∃ i, L.length = i := ⟨_, rfl⟩
  obtain ⟨j0, hj0⟩ : ∃ j, R.length = j := ⟨_, rfl⟩
  rw [hi0] at hm h1; rw [hj0] at hb h2
  have s1 : (m : Int) - (a : Int) = (i0 : Int) := by omega
  have s2 : (b : Int) - (m : Int) = (j0 : Int) := by omega
  have hbm : m ≤ b := by omega
  have ham : a ≤ m := by omega
  have hbn : b ≤ n := by omega
  have HI := Lib.hid (show RotI L R i0 j0 [] L R [] by have := RotI.start L R; rw [hi0, hj0] at this; exact this)
  have H0 := Lib.hid (show 0 < i0 ∧ 0 < j0 ∧ RotI L R i0 j0 [] L R [] ∧ Fill Rfl w S g 37 N (P ++ ([] ++ L ++ R ++ []) ++ Q) ∧ Chg g w w from ⟨h1, h2, HI.out, by simpa using hF, Chg.refl _ _⟩)
  have HX := Lib.hid (And.intro hS (And.intro hP (And.intro hm (And.intro hb (And.intro hlen (And.intro hi0 hj0))))))
  have HS := Lib.hid (And.intro s1 s2)
  clear hF hS hn hP hm hb hlen HI hi0 hj0 h1 h2 s1 s2
  go_enter Try.func29, Try.ntmps29
  go_wp2
  rw [HS.out.1, HS.out.2]
  go_loopw [10, 11] (fun v u wr => ∃ (i j : Nat) (D1 U V D2 : List Fl), v = .int .i64 (i : Nat) ∧ u = .int .i64 (j : Nat) ∧ Hid (0 < i ∧ 0 < j ∧ RotI L R i j D1 U V D2 ∧ Fill Rfl wr S g 37 N (P ++ (D1 ++ U ++ V ++ D2) ++ Q) ∧ Chg g w wr)) (fun v u _ => (intOf v).toNat + (intOf u).toNat)
  case atStart => exact ⟨i0, j0, [], L, R, [], rfl, rfl, H0⟩
  case round =>
    clear H0
    obtain ⟨i, j, D1, U, V, D2, rfl, rfl, HR⟩ := hrel
    obtain ⟨wi, rfl⟩ : ∃ wi : World, wi = wr := ⟨_, rfl⟩
    have hSi := HX.out.1.up HR.out.2.2.2.2.bel.size
    have hip := HR.out.1; have hjp := HR.out.2.1
    have e1 := HR.out.2.2.1.end1; have e2 := HR.out.2.2.1.end2
    have hu := HR.out.2.2.1.u; have hv := HR.out.2.2.1.v
    have g1 := HX.out.2.1; have g2 := HX.out.2.2.1; have g3 := HX.out.2.2.2.1; have g4 := HX.out.2.2.2.2.1; have g5 := HX.out.2.2.2.2.2.1; have g6 := HX.out.2.2.2.2.2.2
    have him : i ≤ m := by omega
    have hjn : m + j ≤ n := by omega
    obtain ⟨u, hu'⟩ : ∃ u, m - i = u := ⟨_, rfl⟩
    have hmi : (m : Int) - (i : Int) = (u : Int) := by omega
    have hDl : (P ++ D1).length = u := by rw [List.length_append]; omega
    have hnl : (P ++ (D1 ++ U ++ V ++ D2) ++ Q).length = n := by simp only [List.length_append]; omega
    have HM := Lib.hid (And.intro hmi (And.intro hDl (And.intro hnl (And.intro hu hv))))
    clear hmi hDl hnl hu' e1 e2 hu hv g1 g2 g3 g4 g5 g6
    by_cases hij : i = j
    · subst hij
      have d : ((i : Int) != (i : Int)) = false := by simp
      go_wp2_with (go_at_call 30
                   go_loud (skip
                            rw [HM.out.1]
                            refine (swapRange_any wi S g N n u m i (P ++ D1) U [] V (D2 ++ Q) (by have h9 := HR.out.2.2.2.1; simpa using h9) hSi (by rw [← HM.out.2.2.1]; simp) hz HM.out.2.1 (by have h9 := HM.out.1; simp; omega) HM.out.2.2.2.1 HM.out.2.2.2.2).mono ?_
                            rintro e w1 ⟨rfl, ys, rfl, hF1, hC1⟩
                            have H1 := Lib.hid (show RowRet w S g N (fun ys => ys = P ++ (R ++ L) ++ Q) (.returned (.tuple #[])) w1 from ⟨rfl, _, rfl, by rw [HR.out.2.2.1.goal]; simpa using hF1, HR.out.2.2.2.2.trans hC1⟩)
                            clear hF1 hC1))
      go_end0
      exact H1.out
    · have d : ((i : Int) != (j : Int)) = true := by simp; omega
      by_cases hgt : j < i
      · have d2 : decide (j < i) = true := decide_eq_true hgt
        obtain ⟨hr, hl, l1, l2⟩ := HR.out.2.2.1.left hgt
        have hsub : (i : Int) - (j : Int) = ((i - j : Nat) : Int) := by omega
        have HL := Lib.hid (And.intro hr (And.intro hl (And.intro l1 (And.intro l2 hsub))))
        clear hr hl l1 l2 hsub hij
        go_wp2_with (go_at_call 30
                     go_loud (skip
                              rw [HM.out.1]
                              refine (swapRange_any wi S g N n u m j (P ++ D1) (U.take j) (U.drop j) V (D2 ++ Q) (by have h9 := HR.out.2.2.2.1; rw [HL.out.2.1] at h9; simpa using h9) hSi (by rw [← HM.out.2.2.1, HL.out.2.1]; simp) hz HM.out.2.1 (by have h9 := HM.out.1; rw [HL.out.2.2.2.1]; omega) HL.out.2.2.1 HM.out.2.2.2.2).mono ?_
                              rintro e w1 ⟨rfl, ys, rfl, hF1, hC1⟩
                              have H1 := Lib.hid (show 0 < i - j ∧ 0 < j ∧ RotI L R (i - j) j (D1 ++ V) (U.drop j) (U.take j) D2 ∧ Fill Rfl w1 S g 37 N (P ++ ((D1 ++ V) ++ U.drop j ++ U.take j ++ D2) ++ Q) ∧ Chg g w w1 from ⟨by omega, hjp, HL.out.1, by simpa using hF1, HR.out.2.2.2.2.trans hC1⟩)
                              clear hF1 hC1))
        rw [HL.out.2.2.2.2]
        go_roundw
        case measure => simp [intOf]; omega
        case rel => exact ⟨i - j, j, _, _, _, _, rfl, rfl, H1⟩
      · have d2 : decide (j < i) = false := decide_eq_false hgt
        have hlt : i < j := by omega
        obtain ⟨hr, hl, l1, l2⟩ := HR.out.2.2.1.right hlt
        have hsub : (j : Int) - (i : Int) = ((j - i : Nat) : Int) := by omega
        obtain ⟨v, hv'⟩ : ∃ v, m + j - i = v := ⟨_, rfl⟩
        have hmv : (m : Int) + (j : Int) - (i : Int) = (v : Int) := by omega
        have HL := Lib.hid (And.intro hr (And.intro hl (And.intro l1 (And.intro l2 (And.intro hsub hmv)))))
        clear hr hl l1 l2 hsub hij hmv hv'
        go_wp2_with (go_at_call 30
                     go_loud (skip
                              rw [HM.out.1, HL.out.2.2.2.2.2]
                              refine (swapRange_any wi S g N n u v i (P ++ D1) U (V.take (j - i)) (V.drop (j - i)) (D2 ++ Q) (by have h9 := HR.out.2.2.2.1; rw [HL.out.2.1] at h9; simpa using h9) hSi (by rw [← HM.out.2.2.1, HL.out.2.1]; simp) hz HM.out.2.1 (by have h9 := HM.out.1; have h8 := HL.out.2.2.2.2.2; rw [HL.out.2.2.1]; omega) HM.out.2.2.2.1 HL.out.2.2.2.1).mono ?_
                              rintro e w1 ⟨rfl, ys, rfl, hF1, hC1⟩
                              have H1 := Lib.hid (show 0 < i ∧ 0 < j - i ∧ RotI L R i (j - i) D1 (V.drop (j - i)) (V.take (j - i)) (U ++ D2) ∧ Fill Rfl w1 S g 37 N (P ++ (D1 ++ V.drop (j - i) ++ V.take (j - i) ++ (U ++ D2)) ++ Q) ∧ Chg g w w1 from ⟨hip, by omega, HL.out.1, by simpa using hF1, HR.out.2.2.2.2.trans hC1⟩)
                              clear hF1 hC1))
        rw [HL.out.2.2.2.2.1]
        go_roundw
        case measure => simp [intOf]; omega
        case rel => exact ⟨i, j - i, _, _, _, _, rfl, rfl, H1⟩
end Go.Proofs.Ytponbodiibkopaa
