/-
  The stable sort: the walk; the contract for any length.
-/
import Derived.Test.YtponbodiibkopaaSrtG
namespace Go.Proofs.Ytponbodiibkopaa
open Go.RowKit Go.Sort
set_option linter.unusedVariables false

/-- Blocks of W, sorted; what follows them is still to be done. -/
structure BlkW (xs : List Fl) (n V W : Nat) (D E : List Fl) (a t : Nat) : Prop where
  dl : D.length = a
  at_ : a = t * W
  blk : BlkS Fl.tm W D
  rest : BlkS Fl.tm V E
  el : a + E.length = n
  same : SameK Fl.tm xs (D ++ E)
theorem BlkW.next {xs : List Fl} {n V W : Nat} {D Z E' : List Fl} {a t : Nat} (h : BlkW xs n V W D (Z ++ E') a t) (hr : BlkS Fl.tm V E') (hZ : Z.length = W) {T : List Fl} (hT : SortedK Fl.tm T) (hs : SameK Fl.tm Z T) (hl : T.length = Z.length) : BlkW xs n V W (D ++ T) E' (a + W) (t + 1) :=
  ⟨by rw [List.length_append, h.dl, hl, hZ], by rw [h.at_, Nat.add_mul, Nat.one_mul], h.blk.snoc (by rw [h.dl]; exact h.at_) hT (by omega), hr, by have := h.el; simp at this; omega, by
    have h1 := h.same.trans (((SameK.refl D).append hs).append (SameK.refl E') |> fun h => by simpa using h)
    simpa using h1⟩
theorem BlkW.last {xs : List Fl} {n V W : Nat} {D Z : List Fl} {a t : Nat} (h : BlkW xs n V W D Z a t) (hZ : Z.length ≤ W) {T : List Fl} (hT : SortedK Fl.tm T) (hs : SameK Fl.tm Z T) (hl : T.length = Z.length) : BlkS Fl.tm W (D ++ T) ∧ SameK Fl.tm xs (D ++ T) ∧ (D ++ T).length = n :=
  ⟨h.blk.snoc (by rw [h.dl]; exact h.at_) hT (by omega), h.same.trans ((SameK.refl D).append hs), by have := h.el; have := h.dl; simp; omega⟩
theorem blk_one (Z : List Fl) : BlkS Fl.tm 0 Z := fun k => by simp; exact SortedK.nil
noncomputable def stab_loop0_code : Code := blockOf Try.f25 0
set_option maxRecDepth 100000 in
set_option maxHeartbeats 4000000 in
theorem stab_loop0 {Q : Exit → Act → World → Prop} {s3 s4 s5 s9 s10 s11 s12 s13 s14 s15 s16 s17 s18 s19 s20 s21 s22 s23 s24 s25 s26 s27 s28 s29 s30 s31 s32 s33 s34 s35 s36 s37 s38 s39 s40 s41 s42 s43 s44 s45 s46 s47 s48 s49 s50 s51 s52 s53 s54 s55 s56 s57 s58 s59 s60 s61 s62 : Value} (w : World) (S : Nat → Prop) (g N n : Nat) (xs : List Fl) (hF : Fill Rfl w S g 37 N xs) (hS : RowS w S g) (hn : xs.length = n) (hz : n ≤ 1152921504606846976)
    (hK : ∀ (d11 d12 d13 d14 d15 d16 d17 d18 d19 d20 d21 d22 : Value) (w' : World) (D E : List Fl) (a t b : Nat), BlkW xs n 0 20 D E a t → E.length < 20 → Fill Rfl w' S g 37 N (D ++ E) → Chg g w w' → Q .normal ⟨#[.slice (some ⟨g, 0, none⟩) n N, .int .i64 (n : Nat), lessV, s3, s4, s5, .int .i64 20, .int .i64 (a : Nat), .int .i64 (b : Nat), s9, s10, d11, d12, d13, d14, d15, d16, d17, d18, d19, d20, d21, d22, s23, s24, s25, s26, s27, s28, s29, s30, s31, s32, s33, s34, s35, s36, s37, s38, s39, s40, s41, s42, s43, s44, s45, s46, s47, s48, s49, s50, s51, s52, s53, s54, s55, s56, s57, s58, s59, s60, s61, s62], []⟩ w') :
    Code.wp Try.prog stab_loop0_code Q ⟨#[.slice (some ⟨g, 0, none⟩) n N, .int .i64 (n : Nat), lessV, s3, s4, s5, .int .i64 20, .int .i64 0, .int .i64 20, s9, s10, s11, s12, s13, s14, s15, s16, s17, s18, s19, s20, s21, s22, s23, s24, s25, s26, s27, s28, s29, s30, s31, s32, s33, s34, s35, s36, s37, s38, s39, s40, s41, s42, s43, s44, s45, s46, s47, s48, s49, s50, s51, s52, s53, s54, s55, s56, s57, s58, s59, s60, s61, s62], []⟩ w := by
  have HK := Lib.hid hK; clear hK
  have H0 := Lib.hid (show BlkW xs n 0 20 [] xs 0 0 ∧ 0 + 20 = 20 ∧ Fill Rfl w S g 37 N ([] ++ xs) ∧ Chg g w w from ⟨⟨rfl, rfl, BlkS.nil 20, blk_one _, by omega, SameK.refl _⟩, rfl, hF, Chg.refl _ _⟩)
  have HX := Lib.hid (And.intro hS hn)
  clear hF hS hn
  conv => arg 2; whnf
  go_wp2
  go_loopw [7, 8] (fun v u wr => ∃ (D E : List Fl) (a t b : Nat), v = .int .i64 (a : Nat) ∧ u = .int .i64 (b : Nat) ∧ Hid (BlkW xs n 0 20 D E a t ∧ a + 20 = b ∧ Fill Rfl wr S g 37 N (D ++ E) ∧ Chg g w wr)) (fun v _ _ => n - (intOf v).toNat)
  case atStart => exact ⟨[], xs, 0, 0, 20, rfl, rfl, Lib.hid ⟨H0.out.1, rfl, H0.out.2.2⟩⟩
  case round =>
    clear H0
    obtain ⟨D, E, a, t, b, rfl, rfl, HR⟩ := hrel
    obtain ⟨wi, rfl⟩ : ∃ wi : World, wi = wr := ⟨_, rfl⟩
    have hel := HR.out.1.el
    have hab := HR.out.2.1
    have HE := Lib.hid (And.intro hel hab)
    by_cases hbn : b ≤ n
    · have d : decide (b ≤ n) = true := decide_eq_true hbn
      have hE20 : 20 ≤ E.length := by omega
      have hsp : E.take 20 ++ E.drop 20 = E := List.take_append_drop 20 E
      have htl : (E.take 20).length = 20 := by rw [List.length_take]; omega
      have HA := Lib.hid (show Fill Rfl wi S g 37 N (D ++ E.take 20 ++ E.drop 20) ∧ (D ++ E.take 20 ++ E.drop 20).length = n ∧ BlkW xs n 0 20 D (E.take 20 ++ E.drop 20) a t ∧ (E.take 20).length = 20 from ⟨by rw [List.append_assoc, hsp]; exact HR.out.2.2.1, by rw [List.append_assoc, hsp, List.length_append, HR.out.1.dl]; omega, by rw [hsp]; exact HR.out.1, htl⟩)
      clear hsp htl hel hab
      go_wp2_with (go_at_call 27
                   go_loud (skip
                            refine (insert_any wi S g N n a b D (E.take 20) (E.drop 20) HA.out.1 (HX.out.1.up HR.out.2.2.2.bel.size) HA.out.2.1 (by omega) HR.out.1.dl (by rw [HA.out.2.2.2]; exact HE.out.2)).mono ?_
                            rintro e w1 ⟨rfl, ys, ⟨T, rfl, hT1, hT2, hT3⟩, hF1, hC1⟩
                            have H1 := Lib.hid (show BlkW xs n 0 20 (D ++ T) (E.drop 20) b (t + 1) ∧ b + 20 = b + 20 ∧ Fill Rfl w1 S g 37 N ((D ++ T) ++ E.drop 20) ∧ Chg g w w1 from ⟨by rw [← HE.out.2]; exact HA.out.2.2.1.next (blk_one _) HA.out.2.2.2 hT1 hT2 hT3, rfl, hF1, HR.out.2.2.2.trans hC1⟩)
                            clear hT1 hT2 hT3 hF1 hC1))
      go_roundw
      case measure => have := HE.out.2; simp [intOf]; omega
      case rel => exact ⟨D ++ T, E.drop 20, b, t + 1, b + 20, rfl, by go_num, Lib.hid ⟨H1.out.1, rfl, H1.out.2.2⟩⟩
    · have d : decide (b ≤ n) = false := decide_eq_false hbn
      have hE : E.length < 20 := by omega
      clear hel hab
      go_wp2
      exact HK.out _ _ _ _ _ _ _ _ _ _ _ _ _ D E a t b HR.out.1 hE HR.out.2.2.1 HR.out.2.2.2
noncomputable def stab_inner_code : Code := blockOf Try.f25 4
set_option maxRecDepth 100000 in
set_option maxHeartbeats 4000000 in
theorem stab_inner {Q : Exit → Act → World → Prop} {s3 s4 s5 s9 s10 s11 s12 s13 s14 s15 s16 s17 s18 s19 s20 s21 s22 s23 s24 s25 s26 s27 s28 s29 s30 s31 s32 s33 s34 s35 s36 s37 s38 s39 s40 s41 s42 s43 s44 s45 s46 s47 s48 s49 s50 s51 s52 s53 s54 s55 s56 s57 s58 s59 s60 s61 s62 : Value} (w : World) (S : Nat → Prop) (g N n V W : Nat) (xs : List Fl) (hF : Fill Rfl w S g 37 N xs) (hS : RowS w S g) (hn : xs.length = n) (hz : n ≤ 1152921504606846976) (hV : 0 < V) (hVn : V < n) (hW : V + V = W) (hB : BlkS Fl.tm V xs)
    (hK : ∀ (d33 d34 d35 d36 d37 d38 d39 d40 d41 d42 d43 d44 d45 d46 d47 d48 : Value) (w' : World) (D E : List Fl) (a t b : Nat), BlkW xs n V W D E a t → E.length < W → Fill Rfl w' S g 37 N (D ++ E) → Chg g w w' → Q .normal ⟨#[.slice (some ⟨g, 0, none⟩) n N, .int .i64 (n : Nat), lessV, s3, s4, s5, .int .i64 (V : Nat), .int .i64 (a : Nat), .int .i64 (b : Nat), s9, s10, s11, s12, s13, s14, s15, s16, s17, s18, s19, s20, s21, s22, s23, s24, s25, s26, s27, s28, s29, s30, s31, s32, d33, d34, d35, d36, d37, d38, d39, d40, d41, d42, d43, d44, d45, d46, d47, d48, s49, s50, s51, s52, s53, s54, s55, s56, s57, s58, s59, s60, s61, s62], []⟩ w') :
    Code.wp Try.prog stab_inner_code Q ⟨#[.slice (some ⟨g, 0, none⟩) n N, .int .i64 (n : Nat), lessV, s3, s4, s5, .int .i64 (V : Nat), .int .i64 0, .int .i64 (W : Nat), s9, s10, s11, s12, s13, s14, s15, s16, s17, s18, s19, s20, s21, s22, s23, s24, s25, s26, s27, s28, s29, s30, s31, s32, s33, s34, s35, s36, s37, s38, s39, s40, s41, s42, s43, s44, s45, s46, s47, s48, s49, s50, s51, s52, s53, s54, s55, s56, s57, s58, s59, s60, s61, s62], []⟩ w := by
  have HK := Lib.hid hK; clear hK
  have H0 := Lib.hid (show BlkW xs n V W [] xs 0 0 ∧ 0 + W = W ∧ Fill Rfl w S g 37 N ([] ++ xs) ∧ Chg g w w from ⟨⟨rfl, by simp, BlkS.nil W, hB, by omega, SameK.refl _⟩, by omega, hF, Chg.refl _ _⟩)
  have hWi : IntKind.i64.wrap (2 * (V : Int)) = (W : Int) := wrap_nat (by omega) (by omega)
  have hWi2 : 2 * (V : Int) = (W : Int) := by omega
  have HX := Lib.hid (And.intro hS (And.intro hn (And.intro hW (And.intro hWi hWi2))))
  have hVV : W ≤ 2305843009213693952 := by omega
  have hW0 : 0 < W := by omega
  clear hF hS hn hW hB hWi hWi2
  conv => arg 2; whnf
  go_wp2
  go_loopw [7, 8] (fun v u wr => ∃ (D E : List Fl) (a t b : Nat), v = .int .i64 (a : Nat) ∧ u = .int .i64 (b : Nat) ∧ Hid (BlkW xs n V W D E a t ∧ a + W = b ∧ Fill Rfl wr S g 37 N (D ++ E) ∧ Chg g w wr)) (fun v _ _ => n - (intOf v).toNat)
  case atStart => exact ⟨[], xs, 0, 0, W, rfl, rfl, Lib.hid ⟨H0.out.1, by omega, H0.out.2.2⟩⟩
  case round =>
    clear H0
    obtain ⟨D, E, a, t, b, rfl, rfl, HR⟩ := hrel
    obtain ⟨wi, rfl⟩ : ∃ wi : World, wi = wr := ⟨_, rfl⟩
    have hel := HR.out.1.el
    have hab := HR.out.2.1
    have hVW := HX.out.2.2.1
    have HE := Lib.hid (And.intro hel (And.intro hab hVW))
    by_cases hbn : b ≤ n
    · have d : decide (b ≤ n) = true := decide_eq_true hbn
      obtain ⟨L, hL⟩ : ∃ l, E.take V = l := ⟨_, rfl⟩
      obtain ⟨R, hR⟩ : ∃ l, (E.drop V).take V = l := ⟨_, rfl⟩
      obtain ⟨E', hE'⟩ : ∃ l, (E.drop V).drop V = l := ⟨_, rfl⟩
      have hLl : L.length = V := by rw [← hL, List.length_take]; omega
      have hRl : R.length = V := by rw [← hR, List.length_take, List.length_drop]; omega
      have hsp : E = L ++ (R ++ E') := by rw [← hL, ← hR, ← hE', List.take_append_drop, List.take_append_drop]
      have hb1 := HR.out.1.rest
      rw [hsp] at hb1
      obtain ⟨sL, hb2⟩ := hb1.split hLl
      obtain ⟨sR, hb3⟩ := hb2.split hRl
      have haV : a + V ≤ n := by omega
      have HA := Lib.hid (show Fill Rfl wi S g 37 N (D ++ (L ++ R) ++ E') ∧ (D ++ (L ++ R) ++ E').length = n ∧ BlkW xs n V W D ((L ++ R) ++ E') a t ∧ (L ++ R).length = W ∧ BlkS Fl.tm V E' ∧ SortedK Fl.tm L ∧ SortedK Fl.tm R ∧ L.length = V ∧ R.length = V from ⟨by have h9 := HR.out.2.2.1; rw [hsp] at h9; simpa using h9, by rw [hsp] at hel; have h9 := HR.out.1.dl; simp at hel ⊢; omega, by have h9 := HR.out.1; rw [hsp] at h9; simpa using h9, by rw [List.length_append]; omega, hb3, sL, sR, hLl, hRl⟩)
      clear hsp hLl hRl hb1 hb2 hb3 sL sR hL hR hE' hel hab hVW
      go_wp2_with (go_at_call 28
                   go_loud (skip
                            refine (symC_all (L.length + R.length) wi S g N n a (a + V) b D L R E' HA.out.1 (HX.out.1.up HR.out.2.2.2.bel.size) HA.out.2.1 (by omega) HR.out.1.dl (by have h9 := HA.out.2.2.2.2.2.2.2; omega) (by have h9 := HA.out.2.2.2.2.2.2.2; have h8 := HE.out; omega) HA.out.2.2.2.2.2.1 HA.out.2.2.2.2.2.2.1 (by have h9 := HA.out.2.2.2.2.2.2.2; omega) (by have h9 := HA.out.2.2.2.2.2.2.2; omega) (Nat.le_refl _)).mono ?_
                            rintro e w1 ⟨rfl, ys, ⟨T, rfl, hT1, hT2, hT3⟩, hF1, hC1⟩
                            have H1 := Lib.hid (show BlkW xs n V W (D ++ T) E' b (t + 1) ∧ b + W = b + W ∧ Fill Rfl w1 S g 37 N ((D ++ T) ++ E') ∧ Chg g w w1 from ⟨by rw [← HE.out.2.1]; exact HA.out.2.2.1.next HA.out.2.2.2.2.1 HA.out.2.2.2.1 hT1 hT2 hT3, rfl, hF1, HR.out.2.2.2.trans hC1⟩)
                            clear hT1 hT2 hT3 hF1 hC1))
      go_roundw
      case measure => have := HE.out.2; simp [intOf]; omega
      case rel => exact ⟨D ++ T, E', b, t + 1, b + W, rfl, by have := HX.out.2.2.2; go_num, Lib.hid ⟨H1.out.1, rfl, H1.out.2.2⟩⟩
    · have d : decide (b ≤ n) = false := decide_eq_false hbn
      have hE : E.length < W := by omega
      clear hel hab hVW
      go_wp2
      exact HK.out _ _ _ _ _ _ _ _ _ _ _ _ _ _ _ _ _ D E a t b HR.out.1 hE HR.out.2.2.1 HR.out.2.2.2
end Go.Proofs.Ytponbodiibkopaa
