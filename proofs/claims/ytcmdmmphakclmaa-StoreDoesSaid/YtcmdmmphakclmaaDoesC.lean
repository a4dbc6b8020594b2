/-
  The reference's Pop.
-/
import Derived.Test.YtcmdmmphakclmaaDoesB
namespace Go.Proofs.Ytcmdmmphakclmaa
open Go.RowKit Go.Sort
set_option linter.unusedVariables false
set_option linter.unusedSimpArgs false
attribute [local go_sem ↓] Go.wp_at_zero Go.wp_at_succ

set_option maxHeartbeats 1000000 in
theorem rpop_bad (A : Option Addr) (n cap : Nat) (B : Option Addr) (m cap' : Nat) (s : St) (c : Int) (w : World) (hs : StAt w (lo w.heap.size) A n B m s) (hc : checkB s = false) :
    Calls Try.prog 21 #[.agg #[.slice A n cap, .slice B m cap'], .int .i64 c] w (PopRet noSt noLt 1 w) := by
  have HC := Lib.hid (show errArg (checkB s) = 1 by rw [hc]; rfl); clear hc
  have HS := Lib.hid (hs.below (V3.below w (.slice A n cap) (.slice B m cap')) (V3.below w (.slice A n cap) (.slice B m cap')).size); clear hs
  go_enter Try.func21, Try.ntmps21
  go_wp2_with (go_at_call 22
               go_loud (skip
                        refine (rcheck_any A n cap B m cap' s _ HS.out).mono ?_; rintro e w1 ⟨rfl, hb1⟩; rw [HC.out]
                        have HBV := Lib.hid (show Below (w.heap.size + 3) (V3 w (.slice A n cap) (.slice B m cap')) w1 from (by have h9 := hb1; rw [← V3.size w (.slice A n cap) (.slice B m cap')]; exact h9))
                        obtain ⟨gS, gR, gL⟩ := memV HBV.out
                        have z1 : w.heap.size + 3 ≤ w1.heap.size := by (have h9 := HBV.out.size; rw [V3.size] at h9; omega)
                        have a0 := gS.cell 0 (v := .slice A n cap) rfl; have a1 := gS.cell 1 (v := .slice B m cap') rfl
                        have r0 := gR.cell 0 (v := .slice none 0 0) rfl; have r1 := gR.cell 1 (v := .slice none 0 0) rfl; have fR := gR.frozen
                        have r2 := gL.cell 0 (v := .bool false) rfl; have r3 := gL.cell 1 (v := .int .i64 0) rfl; have r4 := gL.cell 2 (v := .int .i64 0) rfl; have r5 := gL.cell 3 (v := .int .u64 0) rfl; have r6 := gL.cell 4 (v := .slice none 0 0) rfl; have fL := gL.frozen
                        have HB1 := Lib.hid ((V3.below w (.slice A n cap) (.slice B m cap')).trans (HBV.out.mono (by omega)))
                        have HM1 := Lib.hid (And.intro gS (And.intro gR gL))
                        clear gS gR gL hb1)
               )
  refine bodyPost_ret (v := .tuple #[.agg #[.slice none 0 0, .slice none 0 0], .agg #[.bool false, .int .i64 0, .int .i64 0, .int .u64 0, .slice none 0 0], .int .i64 1]) (by simp [results, Try.results21, go_sem, r0, r1, r2, r3, r4, r5, r6]) rfl ?_
  refine ⟨_, _, _, _, _, _, _, _, _, rfl, StAt.none _ _, by simp, by simp, by simp, by simp, rfl, by simp, by simp, Sl.nil _ _ _ _, ?_⟩
  exact ((((((HB1.out.setCell (by simp <;> omega) _).setCell (by simp <;> omega) _).setCell (by simp <;> omega) _).setCell (by simp <;> omega) _).setCell (by simp <;> omega) _).setCell (by simp <;> omega) _).setCell (by simp <;> omega) _
set_option maxHeartbeats 1000000 in
theorem rpop_out1 (A : Option Addr) (n cap : Nat) (B : Option Addr) (m cap' : Nat) (s : St) (c : Int) (w : World) (hs : StAt w (lo w.heap.size) A n B m s) (hc : checkB s = true) (d1 : decide (c < 0) = true) :
    Calls Try.prog 21 #[.agg #[.slice A n cap, .slice B m cap'], .int .i64 c] w (PopRet noSt noLt 1 w) := by
  have HC := Lib.hid (show errArg (checkB s) = 0 by rw [hc]; rfl); clear hc
  have HS := Lib.hid (hs.below (V3.below w (.slice A n cap) (.slice B m cap')) (V3.below w (.slice A n cap) (.slice B m cap')).size); clear hs
  go_enter Try.func21, Try.ntmps21
  go_wp2_with (go_at_call 22
               go_loud (skip
                        refine (rcheck_any A n cap B m cap' s _ HS.out).mono ?_; rintro e w1 ⟨rfl, hb1⟩; rw [HC.out]
                        have HBV := Lib.hid (show Below (w.heap.size + 3) (V3 w (.slice A n cap) (.slice B m cap')) w1 from (by have h9 := hb1; rw [← V3.size w (.slice A n cap) (.slice B m cap')]; exact h9))
                        obtain ⟨gS, gR, gL⟩ := memV HBV.out
                        have z1 : w.heap.size + 3 ≤ w1.heap.size := by (have h9 := HBV.out.size; rw [V3.size] at h9; omega)
                        have a0 := gS.cell 0 (v := .slice A n cap) rfl; have a1 := gS.cell 1 (v := .slice B m cap') rfl
                        have r0 := gR.cell 0 (v := .slice none 0 0) rfl; have r1 := gR.cell 1 (v := .slice none 0 0) rfl; have fR := gR.frozen
                        have r2 := gL.cell 0 (v := .bool false) rfl; have r3 := gL.cell 1 (v := .int .i64 0) rfl; have r4 := gL.cell 2 (v := .int .i64 0) rfl; have r5 := gL.cell 3 (v := .int .u64 0) rfl; have r6 := gL.cell 4 (v := .slice none 0 0) rfl; have fL := gL.frozen
                        have HB1 := Lib.hid ((V3.below w (.slice A n cap) (.slice B m cap')).trans (HBV.out.mono (by omega)))
                        have HM1 := Lib.hid (And.intro gS (And.intro gR gL))
                        clear gS gR gL hb1)
               )
  refine bodyPost_ret (v := .tuple #[.agg #[.slice none 0 0, .slice none 0 0], .agg #[.bool false, .int .i64 0, .int .i64 0, .int .u64 0, .slice none 0 0], .int .i64 1]) (by simp [results, Try.results21, go_sem, r0, r1, r2, r3, r4, r5, r6]) rfl ?_
  refine ⟨_, _, _, _, _, _, _, _, _, rfl, StAt.none _ _, by simp, by simp, by simp, by simp, rfl, by simp, by simp, Sl.nil _ _ _ _, ?_⟩
  exact ((((((HB1.out.setCell (by simp <;> omega) _).setCell (by simp <;> omega) _).setCell (by simp <;> omega) _).setCell (by simp <;> omega) _).setCell (by simp <;> omega) _).setCell (by simp <;> omega) _).setCell (by simp <;> omega) _
set_option maxHeartbeats 1000000 in
theorem rpop_out2 (A : Option Addr) (n cap : Nat) (B : Option Addr) (m cap' : Nat) (s : St) (c : Nat) (w : World) (hs : StAt w (lo w.heap.size) A n B m s) (hc : checkB s = true) (d1 : decide (m ≤ c) = true) :
    Calls Try.prog 21 #[.agg #[.slice A n cap, .slice B m cap'], .int .i64 (c : Int)] w (PopRet noSt noLt 1 w) := by
  have HC := Lib.hid (show errArg (checkB s) = 0 by rw [hc]; rfl); clear hc
  have HS := Lib.hid (hs.below (V3.below w (.slice A n cap) (.slice B m cap')) (V3.below w (.slice A n cap) (.slice B m cap')).size); clear hs
  go_enter Try.func21, Try.ntmps21
  go_wp2_with (go_at_call 22
               go_loud (skip
                        refine (rcheck_any A n cap B m cap' s _ HS.out).mono ?_; rintro e w1 ⟨rfl, hb1⟩; rw [HC.out]
                        have HBV := Lib.hid (show Below (w.heap.size + 3) (V3 w (.slice A n cap) (.slice B m cap')) w1 from (by have h9 := hb1; rw [← V3.size w (.slice A n cap) (.slice B m cap')]; exact h9))
                        obtain ⟨gS, gR, gL⟩ := memV HBV.out
                        have z1 : w.heap.size + 3 ≤ w1.heap.size := by (have h9 := HBV.out.size; rw [V3.size] at h9; omega)
                        have a0 := gS.cell 0 (v := .slice A n cap) rfl; have a1 := gS.cell 1 (v := .slice B m cap') rfl
                        have r0 := gR.cell 0 (v := .slice none 0 0) rfl; have r1 := gR.cell 1 (v := .slice none 0 0) rfl; have fR := gR.frozen
                        have r2 := gL.cell 0 (v := .bool false) rfl; have r3 := gL.cell 1 (v := .int .i64 0) rfl; have r4 := gL.cell 2 (v := .int .i64 0) rfl; have r5 := gL.cell 3 (v := .int .u64 0) rfl; have r6 := gL.cell 4 (v := .slice none 0 0) rfl; have fL := gL.frozen
                        have HB1 := Lib.hid ((V3.below w (.slice A n cap) (.slice B m cap')).trans (HBV.out.mono (by omega)))
                        have HM1 := Lib.hid (And.intro gS (And.intro gR gL))
                        clear gS gR gL hb1)
               )
  refine bodyPost_ret (v := .tuple #[.agg #[.slice none 0 0, .slice none 0 0], .agg #[.bool false, .int .i64 0, .int .i64 0, .int .u64 0, .slice none 0 0], .int .i64 1]) (by simp [results, Try.results21, go_sem, r0, r1, r2, r3, r4, r5, r6]) rfl ?_
  refine ⟨_, _, _, _, _, _, _, _, _, rfl, StAt.none _ _, by simp, by simp, by simp, by simp, rfl, by simp, by simp, Sl.nil _ _ _ _, ?_⟩
  exact ((((((HB1.out.setCell (by simp <;> omega) _).setCell (by simp <;> omega) _).setCell (by simp <;> omega) _).setCell (by simp <;> omega) _).setCell (by simp <;> omega) _).setCell (by simp <;> omega) _).setCell (by simp <;> omega) _
set_option maxHeartbeats 1000000 in
theorem rpop_none (A : Option Addr) (n cap : Nat) (b off : Nat) (m cap' : Nat) (s : St) (c : Nat) (w : World) (hs : StAt w (lo w.heap.size) A n (some ⟨b, off, none⟩) m s) (hc : checkB s = true) (hcm : c < m) (d1 : decide (m ≤ c) = false) (T : Option Addr) (tc : Nat) (hbl : b < w.heap.size) (hx : w.cell? ⟨b, off + c, none⟩ = some (.slice T 0 tc)) :
    Calls Try.prog 21 #[.agg #[.slice A n cap, .slice (some ⟨b, off, none⟩) m cap'], .int .i64 (c : Int)] w (PopRet noSt noLt 6 w) := by
  have HC := Lib.hid (show errArg (checkB s) = 0 by rw [hc]; rfl); clear hc
  have HS := Lib.hid (hs.below (V3.below w (.slice A n cap) (.slice (some ⟨b, off, none⟩) m cap')) (V3.below w (.slice A n cap) (.slice (some ⟨b, off, none⟩) m cap')).size); clear hs
  go_enter Try.func21, Try.ntmps21
  go_wp2_with (go_at_call 22
               go_loud (skip
                        refine (rcheck_any A n cap (some ⟨b, off, none⟩) m cap' s _ HS.out).mono ?_; rintro e w1 ⟨rfl, hb1⟩; rw [HC.out]
                        have HBV := Lib.hid (show Below (w.heap.size + 3) (V3 w (.slice A n cap) (.slice (some ⟨b, off, none⟩) m cap')) w1 from (by have h9 := hb1; rw [← V3.size w (.slice A n cap) (.slice (some ⟨b, off, none⟩) m cap')]; exact h9))
                        obtain ⟨gS, gR, gL⟩ := memV HBV.out
                        have z1 : w.heap.size + 3 ≤ w1.heap.size := by (have h9 := HBV.out.size; rw [V3.size] at h9; omega)
                        have a0 := gS.cell 0 (v := .slice A n cap) rfl; have a1 := gS.cell 1 (v := .slice (some ⟨b, off, none⟩) m cap') rfl
                        have r0 := gR.cell 0 (v := .slice none 0 0) rfl; have r1 := gR.cell 1 (v := .slice none 0 0) rfl; have fR := gR.frozen
                        have r2 := gL.cell 0 (v := .bool false) rfl; have r3 := gL.cell 1 (v := .int .i64 0) rfl; have r4 := gL.cell 2 (v := .int .i64 0) rfl; have r5 := gL.cell 3 (v := .int .u64 0) rfl; have r6 := gL.cell 4 (v := .slice none 0 0) rfl; have fL := gL.frozen
                        have HB1 := Lib.hid ((V3.below w (.slice A n cap) (.slice (some ⟨b, off, none⟩) m cap')).trans (HBV.out.mono (by omega)))
                        have HM1 := Lib.hid (And.intro gS (And.intro gR gL))
                        clear gS gR gL hb1)
               have x0 := (HB1.out.cell (p := ⟨b, off + c, none⟩) hbl).trans hx)
  refine bodyPost_ret (v := .tuple #[.agg #[.slice none 0 0, .slice none 0 0], .agg #[.bool false, .int .i64 0, .int .i64 0, .int .u64 0, .slice none 0 0], .int .i64 6]) (by simp [results, Try.results21, go_sem, r0, r1, r2, r3, r4, r5, r6]) rfl ?_
  refine ⟨_, _, _, _, _, _, _, _, _, rfl, StAt.none _ _, by simp, by simp, by simp, by simp, rfl, by simp, by simp, Sl.nil _ _ _ _, ?_⟩
  exact ((((((HB1.out.setCell (by simp <;> omega) _).setCell (by simp <;> omega) _).setCell (by simp <;> omega) _).setCell (by simp <;> omega) _).setCell (by simp <;> omega) _).setCell (by simp <;> omega) _).setCell (by simp <;> omega) _


/-- What the reference's Pop leaves. -/
def RPopRet (s : St) (l : Lt) (e : Int) (w : World) (en : Ending) (w' : World) : Prop :=
  ∃ A n cap B m cap' T tn tc, en = .returned (.tuple #[.agg #[.slice A n cap, .slice B m cap'], .agg #[.bool l.cover, .int .i64 l.fr, .int .i64 l.to, .int .u64 l.sq, .slice T tn tc], .int .i64 e]) ∧ StAt w' (lo w'.heap.size) A n B m s ∧ l.text.length = tn ∧ Sl (Rint .u8) w' (lo w'.heap.size) T l.text ∧ Below w.heap.size w w'
theorem PopRet.weak {s : St} {l : Lt} {e : Int} {w : World} {en : Ending} {w' : World} (h : PopRet s l e w en w') : RPopRet s l e w en w' := by
  obtain ⟨A, n, cap, B, m, cap', T, tn, tc, h1, h2, _, _, _, _, h3, _, _, h4, h5⟩ := h
  exact ⟨A, n, cap, B, m, cap', T, tn, tc, h1, h2.keep (fun _ _ => rfl) (fun b hb => hb.2), h3, h4, h5⟩
noncomputable def rpop_r10_code : Code := regionOf Try.f21 10
set_option maxRecDepth 100000 in
set_option maxHeartbeats 2000000 in
theorem rpop_r10 {Q : Exit → Act → World → Prop} {s0 s2 s3 s4 s5 s6 s7 s9 s10 s11 s12 s13 s14 s15 s16 s17 s18 s19 s20 s21 s22 s23 s24 s25 s26 s27 s28 s29 s30 s31 s32 s33 s34 s35 s36 s37 s38 s39 s40 s41 s42 s43 s44 s45 s46 s47 s48 s49 s50 s51 s52 s53 s54 s55 s56 s57 : Value} (w : World) (H g G m d c q qc : Nat) (vL : Value) (A0 : Option Addr) (hH : Blk w H 28 #[vL, .slice (some ⟨g, 0, none⟩) m d]) (hx : w.cell? ⟨g, c, none⟩ = some (.slice (some ⟨G, 0, none⟩) q qc)) (hfr : ∀ o, w.frozen? ⟨g, o, none⟩ = false) (hg : g < w.heap.size) (hcm : c < m) (hm8 : m ≤ 8) (hq1 : 1 ≤ q) (hqq : q ≤ 2513169434916) (hA0 : (if qc = 1 then some (⟨G, 0, none⟩ : Addr) else some ⟨G, 5, none⟩) = A0)
    (hK : ∀ (d46 d47 d48 d49 d50 d51 d52 d53 d54 d55 : Value) (w' : World), w'.heap = (w.setCell ⟨g, c, none⟩ (.slice A0 (q - 1) (qc - 1))).heap → Below 0 w w' → (∀ B, B ≤ g → Below B w w') → Q .normal ⟨#[s0, .int .i64 (c : Int), s2, s3, s4, s5, s6, s7, .pointer (some ⟨H, 0, none⟩), s9, s10, s11, s12, s13, s14, s15, s16, s17, s18, s19, s20, s21, s22, s23, s24, s25, s26, s27, s28, s29, s30, s31, s32, s33, s34, s35, s36, s37, s38, s39, s40, s41, s42, s43, s44, s45, d46, d47, d48, d49, d50, d51, d52, d53, d54, d55, s56, s57], []⟩ w') :
    Code.wp Try.prog rpop_r10_code Q ⟨#[s0, .int .i64 (c : Int), s2, s3, s4, s5, s6, s7, .pointer (some ⟨H, 0, none⟩), s9, s10, s11, s12, s13, s14, s15, s16, s17, s18, s19, s20, s21, s22, s23, s24, s25, s26, s27, s28, s29, s30, s31, s32, s33, s34, s35, s36, s37, s38, s39, s40, s41, s42, s43, s44, s45, s46, s47, s48, s49, s50, s51, s52, s53, s54, s55, s56, s57], []⟩ w := by
  have HK := Lib.hid hK; clear hK
  have c1 := hH.cell 1 (v := .slice (some ⟨g, 0, none⟩) m d) rfl
  have lH := hH.lt
  have e1 : (0 : Int) ≤ (c : Int) := by omega
  have e2 : (c : Int) < (m : Int) := by omega
  have e3 : (1 : Int) ≤ (q : Int) := by omega
  clear hH
  conv => arg 2; whnf
  refine wp_region_noPanic ?_
  refine wp_region_held_drew (S := (fun w' => g < w'.heap.size)) (by kernel_rfl) ?_ (fun hHeld0 => ?_)
  · (try dsimp only)
    (first | (with_reducible assumption) | (go_keep; done) | omega | (simp; omega))
  refine wpAnyH_take (i := 0) (oi := _) (v := ?v1) rfl (by kernel_rfl) (by kernel_rfl) (by kernel_rfl) (fun _ _ _ h => h) (Or.inl ⟨by rfl, ?hy1⟩) (by with_reducible assumption) ?rest1
  case hy1 => (intro w hSw; (try dsimp only at hSw); go_simp; try with_reducible rfl)
  try simp only [Act.put, List.setIfInBounds_toArray, List.set_cons_zero, List.set_cons_succ]
  refine wpAnyH_take (i := 2) (oi := _) (v := ?v2) rfl (by kernel_rfl) (by kernel_rfl) (by kernel_rfl) (fun _ _ _ h => h) (Or.inl ⟨by rfl, ?hy2⟩) (by with_reducible assumption) ?rest2
  case hy2 => (intro w hSw; (try dsimp only at hSw); go_simp; try with_reducible rfl)
  try simp only [Act.put, List.setIfInBounds_toArray, List.set_cons_zero, List.set_cons_succ]
  refine wpAnyH_take (i := 3) (oi := _) (v := ?v3) rfl (by kernel_rfl) (by kernel_rfl) (by kernel_rfl) (fun _ _ _ h => h) (Or.inl ⟨by rfl, ?hy3⟩) (by with_reducible assumption) ?rest3
  case hy3 => (intro w hSw; (try dsimp only at hSw); go_simp; try with_reducible rfl)
  try simp only [Act.put, List.setIfInBounds_toArray, List.set_cons_zero, List.set_cons_succ]
  refine wpAnyH_take (i := 5) (oi := _) (v := ?v4) rfl (by kernel_rfl) (by kernel_rfl) (by kernel_rfl) (fun _ _ _ h => h) (Or.inl ⟨by rfl, ?hy4⟩) (by with_reducible assumption) ?rest4
  case hy4 => (intro w hSw; (try dsimp only at hSw); go_simp; try with_reducible rfl)
  try simp only [Act.put, List.setIfInBounds_toArray, List.set_cons_zero, List.set_cons_succ]
  refine wpAnyH_ready (rs := [1, 4]) (by kernel_rfl) (by simp) ?_
  refine (AllReadyH.cons (o := _) rfl (fun K hK => ?_) (AllReadyH.cons (o := _) rfl (fun K hK => ?_) AllReadyH.nil))
  · skip
    go_simp
    refine hK.out _ _ ?_ (fun hHeld5 => ?_)
    · (try dsimp only)
      (first | (with_reducible assumption) | (go_keep; done) | omega | (simp; omega))
    clear hK K hHeld0
    try simp only [Act.put, List.setIfInBounds_toArray, List.set_cons_zero, List.set_cons_succ]
    refine wpAnyH_ready (rs := [4]) (by kernel_rfl) (by simp) ?_
    refine (AllReadyH.cons (o := _) rfl (fun K hK => ?_) AllReadyH.nil)
    go_simp
    refine hK.out _ _ ?_ (fun hHeld6 => ?_)
    · (try dsimp only)
      (first | (with_reducible assumption) | (go_keep; done) | omega | (simp; omega))
    clear hK K hHeld5
    try simp only [Act.put, List.setIfInBounds_toArray, List.set_cons_zero, List.set_cons_succ]
    refine wpAnyH_take (i := 6) (oi := _) (v := ?v7) rfl (by kernel_rfl) (by kernel_rfl) (by kernel_rfl) (fun _ _ _ h => h) (Or.inl ⟨by rfl, ?hy7⟩) (by with_reducible assumption) ?rest7
    case hy7 => (intro w hSw; (try dsimp only at hSw); go_simp; try with_reducible rfl)
    try simp only [Act.put, List.setIfInBounds_toArray, List.set_cons_zero, List.set_cons_succ]
    refine wpAnyH_ready (rs := [7]) (by kernel_rfl) (by simp) ?_
    refine (AllReadyH.cons (o := _) rfl (fun K hK => ?_) AllReadyH.nil)
    go_simp
    refine hK.out _ _ ?_ (fun hHeld8 => ?_)
    · (try dsimp only)
      (first | (with_reducible assumption) | (go_keep; done) | omega | (simp; omega))
    clear hK K hHeld6
    try simp only [Act.put, List.setIfInBounds_toArray, List.set_cons_zero, List.set_cons_succ]
    refine wpAnyH_take (i := 8) (oi := _) (v := ?v9) rfl (by kernel_rfl) (by kernel_rfl) (by kernel_rfl) (fun _ _ _ h => h) (Or.inl ⟨by rfl, ?hy9⟩) (by with_reducible assumption) ?rest9
    case hy9 => (intro w hSw; (try dsimp only at hSw); go_simp; try with_reducible rfl)
    try simp only [Act.put, List.setIfInBounds_toArray, List.set_cons_zero, List.set_cons_succ]
    refine wpAnyH_take (i := 9) (oi := _) (v := ?v10) rfl (by kernel_rfl) (by kernel_rfl) (by kernel_rfl) (fun _ _ _ h => h) (Or.inl ⟨by rfl, ?hy10⟩) (by with_reducible assumption) ?rest10
    case hy10 => (intro w hSw; (try dsimp only at hSw); go_simp; try with_reducible rfl)
    try simp only [Act.put, List.setIfInBounds_toArray, List.set_cons_zero, List.set_cons_succ]
    refine wpAnyH_ready (rs := [10]) (by kernel_rfl) (by simp) ?_
    refine (AllReadyH.cons (o := _) rfl (fun K hK => ?_) AllReadyH.nil)
    go_simp
    refine hK.out _ _ ?_ (fun hHeld11 => ?_)
    · (try dsimp only)
      (first | (with_reducible assumption) | (go_keep; done) | omega | (simp; omega))
    clear hK K hHeld8
    try simp only [Act.put, List.setIfInBounds_toArray, List.set_cons_zero, List.set_cons_succ]
    refine wpAnyH_done (by kernel_rfl) ?_ _
    refine NoPanic.normal ?_
    clear hHeld11
    exact HK.out _ _ _ _ _ _ _ _ _ _ _ rfl ((((Below.refl 0 w).drew).setCell (p := ⟨g, c, none⟩) (Nat.zero_le _) _)) (fun B hB => ((Below.refl B w).drew).setCell (p := ⟨g, c, none⟩) hB _)
  · skip
    go_simp
    refine hK.out _ _ ?_ (fun hHeld12 => ?_)
    · (try dsimp only)
      (first | (with_reducible assumption) | (go_keep; done) | omega | (simp; omega))
    clear hK K hHeld0
    try simp only [Act.put, List.setIfInBounds_toArray, List.set_cons_zero, List.set_cons_succ]
    refine wpAnyH_take (i := 6) (oi := _) (v := ?v13) rfl (by kernel_rfl) (by kernel_rfl) (by kernel_rfl) (fun _ _ _ h => h) (Or.inl ⟨by rfl, ?hy13⟩) (by with_reducible assumption) ?rest13
    case hy13 => (intro w hSw; (try dsimp only at hSw); go_simp; try with_reducible rfl)
    try simp only [Act.put, List.setIfInBounds_toArray, List.set_cons_zero, List.set_cons_succ]
    refine wpAnyH_ready (rs := [1, 7]) (by kernel_rfl) (by simp) ?_
    refine (AllReadyH.cons (o := _) rfl (fun K hK => ?_) (AllReadyH.cons (o := _) rfl (fun K hK => ?_) AllReadyH.nil))
    · skip
      go_simp
      refine hK.out _ _ ?_ (fun hHeld14 => ?_)
      · (try dsimp only)
        (first | (with_reducible assumption) | (go_keep; done) | omega | (simp; omega))
      clear hK K hHeld12
      try simp only [Act.put, List.setIfInBounds_toArray, List.set_cons_zero, List.set_cons_succ]
      refine wpAnyH_ready (rs := [7]) (by kernel_rfl) (by simp) ?_
      refine (AllReadyH.cons (o := _) rfl (fun K hK => ?_) AllReadyH.nil)
      go_simp
      refine hK.out _ _ ?_ (fun hHeld15 => ?_)
      · (try dsimp only)
        (first | (with_reducible assumption) | (go_keep; done) | omega | (simp; omega))
      clear hK K hHeld14
      try simp only [Act.put, List.setIfInBounds_toArray, List.set_cons_zero, List.set_cons_succ]
      refine wpAnyH_take (i := 8) (oi := _) (v := ?v16) rfl (by kernel_rfl) (by kernel_rfl) (by kernel_rfl) (fun _ _ _ h => h) (Or.inl ⟨by rfl, ?hy16⟩) (by with_reducible assumption) ?rest16
      case hy16 => (intro w hSw; (try dsimp only at hSw); go_simp; try with_reducible rfl)
      try simp only [Act.put, List.setIfInBounds_toArray, List.set_cons_zero, List.set_cons_succ]
      refine wpAnyH_take (i := 9) (oi := _) (v := ?v17) rfl (by kernel_rfl) (by kernel_rfl) (by kernel_rfl) (fun _ _ _ h => h) (Or.inl ⟨by rfl, ?hy17⟩) (by with_reducible assumption) ?rest17
      case hy17 => (intro w hSw; (try dsimp only at hSw); go_simp; try with_reducible rfl)
      try simp only [Act.put, List.setIfInBounds_toArray, List.set_cons_zero, List.set_cons_succ]
      refine wpAnyH_ready (rs := [10]) (by kernel_rfl) (by simp) ?_
      refine (AllReadyH.cons (o := _) rfl (fun K hK => ?_) AllReadyH.nil)
      go_simp
      refine hK.out _ _ ?_ (fun hHeld18 => ?_)
      · (try dsimp only)
        (first | (with_reducible assumption) | (go_keep; done) | omega | (simp; omega))
      clear hK K hHeld15
      try simp only [Act.put, List.setIfInBounds_toArray, List.set_cons_zero, List.set_cons_succ]
      refine wpAnyH_done (by kernel_rfl) ?_ _
      refine NoPanic.normal ?_
      clear hHeld18
      exact HK.out _ _ _ _ _ _ _ _ _ _ _ rfl ((((Below.refl 0 w).drew).setCell (p := ⟨g, c, none⟩) (Nat.zero_le _) _)) (fun B hB => ((Below.refl B w).drew).setCell (p := ⟨g, c, none⟩) hB _)
    · skip
      go_simp
      refine hK.out _ _ ?_ (fun hHeld19 => ?_)
      · (try dsimp only)
        (first | (with_reducible assumption) | (go_keep; done) | omega | (simp; omega))
      clear hK K hHeld12
      try simp only [Act.put, List.setIfInBounds_toArray, List.set_cons_zero, List.set_cons_succ]
      refine wpAnyH_take (i := 8) (oi := _) (v := ?v20) rfl (by kernel_rfl) (by kernel_rfl) (by kernel_rfl) (fun _ _ _ h => h) (Or.inl ⟨by rfl, ?hy20⟩) (by with_reducible assumption) ?rest20
      case hy20 => (intro w hSw; (try dsimp only at hSw); go_simp; try with_reducible rfl)
      try simp only [Act.put, List.setIfInBounds_toArray, List.set_cons_zero, List.set_cons_succ]
      refine wpAnyH_ready (rs := [1]) (by kernel_rfl) (by simp) ?_
      refine (AllReadyH.cons (o := _) rfl (fun K hK => ?_) AllReadyH.nil)
      go_simp
      refine hK.out _ _ ?_ (fun hHeld21 => ?_)
      · (try dsimp only)
        (first | (with_reducible assumption) | (go_keep; done) | omega | (simp; omega))
      clear hK K hHeld19
      try simp only [Act.put, List.setIfInBounds_toArray, List.set_cons_zero, List.set_cons_succ]
      refine wpAnyH_take (i := 9) (oi := _) (v := ?v22) rfl (by kernel_rfl) (by kernel_rfl) (by kernel_rfl) (fun _ _ _ h => h) (Or.inl ⟨by rfl, ?hy22⟩) (by with_reducible assumption) ?rest22
      case hy22 => (intro w hSw; (try dsimp only at hSw); go_simp; try with_reducible rfl)
      try simp only [Act.put, List.setIfInBounds_toArray, List.set_cons_zero, List.set_cons_succ]
      refine wpAnyH_ready (rs := [10]) (by kernel_rfl) (by simp) ?_
      refine (AllReadyH.cons (o := _) rfl (fun K hK => ?_) AllReadyH.nil)
      go_simp
      refine hK.out _ _ ?_ (fun hHeld23 => ?_)
      · (try dsimp only)
        (first | (with_reducible assumption) | (go_keep; done) | omega | (simp; omega))
      clear hK K hHeld21
      try simp only [Act.put, List.setIfInBounds_toArray, List.set_cons_zero, List.set_cons_succ]
      refine wpAnyH_done (by kernel_rfl) ?_ _
      refine NoPanic.normal ?_
      clear hHeld23
      exact HK.out _ _ _ _ _ _ _ _ _ _ _ rfl ((((Below.refl 0 w).drew).setCell (p := ⟨g, c, none⟩) (Nat.zero_le _) _)) (fun B hB => ((Below.refl B w).drew).setCell (p := ⟨g, c, none⟩) hB _)
end Go.Proofs.Ytcmdmmphakclmaa
