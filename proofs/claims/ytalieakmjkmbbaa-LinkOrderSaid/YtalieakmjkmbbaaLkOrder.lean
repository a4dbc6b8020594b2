/-
  LinkOrder: the walk.
-/
import Derived.Test.YtalieakmjkmbbaaWayF
import Derived.Test.YtalieakmjkmbbaaLkNum
import Derived.Lib.QuietBelow
import Derived.BigQuiet
namespace Go.Proofs.Ytalieakmjkmbbaa
open Go.RowKit Go.Sort
set_option linter.unusedVariables false
attribute [local go_sem ↓] Go.wp_at_zero Go.wp_at_succ

noncomputable def ord_r12_code : Code := regionOf Try.f6 12
set_option maxRecDepth 100000 in
set_option maxHeartbeats 4000000 in
theorem ord_r12 {Q : Exit → Act → World → Prop} {s1 s2 s3 s4 s6 s7 s8 s9 s10 s11 s12 s13 s14 s15 s16 s17 s18 s19 s20 s21 s22 s23 s24 s25 s26 s27 s28 s29 s30 s31 s32 s33 s34 s35 s36 s37 s38 s39 s40 s41 s42 s43 s44 s45 s46 s47 s48 s49 s50 s51 s52 s53 s54 s55 s56 s57 s58 s59 s60 s61 s62 s63 s64 s65 s66 s67 s68 s69 s70 s71 s72 s73 s74 s75 s76 : Value} (w : World) (P : Nat) (win : Int) (AI : Option Addr) (nI cI : Nat) (AT : Option Addr) (nT cT : Nat) (AB : Option Addr) (nB cB : Nat) (AS : Option Addr) (nS cS : Nat) (hP : P < w.heap.size) (p5 : w.cell? ⟨P, 5, none⟩ = some (.slice AI nI cI)) (p8 : w.cell? ⟨P, 8, none⟩ = some (.slice AT nT cT)) (p7 : w.cell? ⟨P, 7, none⟩ = some (.slice AB nB cB)) (p1 : w.cell? ⟨P, 1, none⟩ = some (.slice AS nS cS)) (p3 : w.cell? ⟨P, 3, none⟩ = some (.int .i64 (nT : Int))) (hI : nI ≤ 5000) (hS : (nS : Int) ≤ win)
    (hC : ∀ w', RowKit.Below w.heap.size w w' → Calls Try.prog 21 #[.slice AT nT cT, .slice AB nB cB] w' fun en w2 => en = .returned (.bool true) ∧ Below w'.heap.size w' w2)
    (hK : ∀ (d35 d36 d37 d38 d39 d40 d41 d42 d43 d44 d45 d46 d47 d48 d49 d50 d51 d52 d53 d54 d55 d56 d57 d58 d59 d60 d61 d62 d63 d64 d65 d66 d67 d68 d69 d70 d71 d72 d73 d74 : Value) (w' : World), Below w.heap.size w w' → Q .normal ⟨#[.int .i64 win, s1, s2, s3, s4, .pointer (some ⟨P, 0, none⟩), s6, s7, s8, s9, s10, s11, s12, s13, s14, s15, s16, s17, s18, s19, s20, s21, s22, s23, s24, s25, s26, s27, s28, s29, s30, s31, s32, s33, s34, d35, d36, d37, d38, d39, d40, d41, d42, d43, d44, d45, d46, d47, d48, d49, d50, d51, d52, d53, d54, d55, d56, d57, d58, d59, d60, d61, d62, d63, d64, d65, d66, d67, d68, d69, d70, d71, d72, d73, d74, .bool false, s76], []⟩ w') :
    Code.wp Try.prog ord_r12_code Q ⟨#[.int .i64 win, s1, s2, s3, s4, .pointer (some ⟨P, 0, none⟩), s6, s7, s8, s9, s10, s11, s12, s13, s14, s15, s16, s17, s18, s19, s20, s21, s22, s23, s24, s25, s26, s27, s28, s29, s30, s31, s32, s33, s34, s35, s36, s37, s38, s39, s40, s41, s42, s43, s44, s45, s46, s47, s48, s49, s50, s51, s52, s53, s54, s55, s56, s57, s58, s59, s60, s61, s62, s63, s64, s65, s66, s67, s68, s69, s70, s71, s72, s73, s74, s75, s76], []⟩ w := by
  have HK := Lib.hid hK; clear hK
  have HC := Lib.hid hC; clear hC
  have d1 : decide ((5000 : Int) < (nI : Int)) = false := decide_eq_false (by omega)
  have d1' : decide (5000 < nI) = false := decide_eq_false (by omega)
  have d2 : decide (win < (nS : Int)) = false := decide_eq_false (by omega)
  have k5 := cell_regrown p5; have k8 := cell_regrown p8; have k7 := cell_regrown p7; have k1 := cell_regrown p1; have k3 := cell_regrown p3
  have CS := Lib.hid (fun d os' => Calls.regrown_of (HC.out (grow (redrawn w d) os') (below_regrown w d os')))
  conv => arg 2; whnf
  refine wp_region_quiet_below (by kernel_rfl) (by kernel_rfl) ?_
  repeat (any_goals (first | go_big_quiet_step (with_reducible exact CS.out _ _) | quiet_step (with_reducible exact CS.out _ _)))
  refine wpQuiet_nil ?_
  intro _ hw'
  obtain ⟨⟨dq, osq⟩, hw''⟩ := hw'
  subst hw''
  exact HK.out _ _ _ _ _ _ _ _ _ _ _ _ _ _ _ _ _ _ _ _ _ _ _ _ _ _ _ _ _ _ _ _ _ _ _ _ _ _ _ _ _ (below_regrown w dq osq)
theorem Own.addr {α : Type} {R : Rdr α} {w : World} {B : Nat} {e : TypeId} {S : Nat → Prop} {A : Option Addr} {n c : Nat} {xs : List α} (h : Own R w B e S (.slice A n c) xs) : (A = none ∧ c = 0) ∨ ∃ g : Nat, A = some ⟨g, 0, none⟩ := by
  obtain ⟨_, ⟨_, h1⟩, _⟩ := h
  rcases h1 with ⟨hv, _⟩ | ⟨g, cap, cur, hv, _⟩
  · injection hv with e1 e2 e3; exact .inl ⟨e1, e3⟩
  · injection hv with e1; exact .inr ⟨g, e1⟩
theorem OwnR.read {α : Type} {R : Rdr α} {w : World} {B : Nat} {ρ : Nat → Nat} {i : Nat} {e : TypeId} {A : Option Addr} {n c : Nat} {xs : List α} (h : OwnR R w B ρ i e (.slice A n c) xs) : xs.length ≤ c ∧ c ≤ maxLen ∧ Sl R w (lo w.heap.size) A xs := by
  obtain ⟨_, h2, h3, h4⟩ := h.1.slice (S' := lo w.heap.size) (fun b hb => hb.2.1) (fun g _ hlt => hlt)
  exact ⟨h2, h3, h4⟩
noncomputable def ord_loop_code : Code := blockOf Try.f6 0
set_option maxRecDepth 100000 in
set_option maxHeartbeats 4000000 in
theorem ord_loop {Q : Exit → Act → World → Prop} {s1 s2 s3 s4 s6 s7 s8 s9 s10 s11 s12 s13 s14 s15 s16 s17 s18 s19 s20 s21 s22 s23 s27 s28 s29 s30 s31 s32 s33 s34 s35 s36 s37 s38 s39 s40 s41 s42 s43 s44 s45 s46 s47 s48 s49 s50 s51 s52 s53 s54 s55 s56 s57 s58 s59 s60 s61 s62 s63 s64 s65 s66 s67 s68 s69 s70 s71 s72 s73 s74 s75 s76 : Value} (w : World) (P : Nat) (win : Int) (SA : Option Addr) (steps : List Int) (N cS : Nat) (hs : Sl (Rint .i64) w (lo P) SA steps) (hN : steps.length = N) (hN80 : N ≤ 80) (hw1 : 1 ≤ win) (hw2 : win ≤ 20) (h0 : WyB w P P win Wy.zero)
    (hK : ∀ (d4 d7 d27 d28 d29 d30 d31 d32 d33 d34 d35 d36 d37 d38 d39 d40 d41 d42 d43 d44 d45 d46 d47 d48 d49 d50 d51 d52 d53 d54 d55 d56 d57 d58 d59 d60 d61 d62 d63 d64 d65 d66 d67 d68 d69 d70 d71 d72 d73 d74 d75 d76 : Value) (w' : World), Below P w w' → Q .normal ⟨#[.int .i64 win, s1, s2, s3, d4, .pointer (some ⟨P, 0, none⟩), s6, d7, s8, s9, s10, s11, s12, s13, s14, s15, s16, s17, s18, s19, s20, s21, s22, s23, .slice SA N cS, .int .i64 N, .int .i64 N, d27, d28, d29, d30, d31, d32, d33, d34, d35, d36, d37, d38, d39, d40, d41, d42, d43, d44, d45, d46, d47, d48, d49, d50, d51, d52, d53, d54, d55, d56, d57, d58, d59, d60, d61, d62, d63, d64, d65, d66, d67, d68, d69, d70, d71, d72, d73, d74, d75, d76], []⟩ w')
    (hR : ∀ (d7 d26 d27 d28 d29 d30 d31 d32 d33 d34 d35 d36 d37 d38 d39 d40 d41 d42 d43 d44 d45 d46 d47 d48 d49 d50 d51 d52 d53 d54 d55 d56 d57 d58 d59 d60 d61 d62 d63 d64 d65 d66 d67 d68 d69 d70 d71 d72 d73 d74 d75 d76 : Value) (w' : World), Below P w w' → Q .ret ⟨#[.int .i64 win, s1, s2, s3, .bool true, .pointer (some ⟨P, 0, none⟩), s6, d7, s8, s9, s10, s11, s12, s13, s14, s15, s16, s17, s18, s19, s20, s21, s22, s23, .slice SA N cS, .int .i64 N, d26, d27, d28, d29, d30, d31, d32, d33, d34, d35, d36, d37, d38, d39, d40, d41, d42, d43, d44, d45, d46, d47, d48, d49, d50, d51, d52, d53, d54, d55, d56, d57, d58, d59, d60, d61, d62, d63, d64, d65, d66, d67, d68, d69, d70, d71, d72, d73, d74, d75, d76], []⟩ w') :
    Code.wp Try.prog ord_loop_code Q ⟨#[.int .i64 win, s1, s2, s3, s4, .pointer (some ⟨P, 0, none⟩), s6, s7, s8, s9, s10, s11, s12, s13, s14, s15, s16, s17, s18, s19, s20, s21, s22, s23, .slice SA N cS, .int .i64 N, .int .i64 0, s27, s28, s29, s30, s31, s32, s33, s34, s35, s36, s37, s38, s39, s40, s41, s42, s43, s44, s45, s46, s47, s48, s49, s50, s51, s52, s53, s54, s55, s56, s57, s58, s59, s60, s61, s62, s63, s64, s65, s66, s67, s68, s69, s70, s71, s72, s73, s74, s75, s76], []⟩ w := by
  have HK := Lib.hid hK; clear hK
  have HR := Lib.hid hR; clear hR
  have H0 := Lib.hid (And.intro h0 (And.intro hs hN)); clear h0 hs hN
  conv => arg 2; whnf
  go_wp2
  go_loopw [26] (fun i wr => ∃ k : Nat, k ≤ N ∧ i = .int .i64 k ∧ WyNext P P win k w wr) (fun i _ => N - (intOf i).toNat)
  case atStart => exact ⟨0, Nat.zero_le _, rfl, Wy.zero, 0, 0, 0, H0.out.1, WyI.zero hw1, WyK.zero, Below.refl _ _⟩
  case round =>
    obtain ⟨wr, rfl⟩ : ∃ wx : World, wx = wr := ⟨_, rfl⟩
    obtain ⟨k, hk, rfl, s, lo, nx, ex, hB, hI, hKk, hb⟩ := hrel
    by_cases hlt : k < N
    · have hx := List.getElem?_eq_getElem (l := steps) (i := k) (by rw [H0.out.2.2]; exact hlt)
      generalize steps[k]'(by rw [H0.out.2.2]; exact hlt) = sv at hx
      obtain ⟨b, off, rfl, hlb, hwf, x0⟩ := (H0.out.2.1.keep (w' := wr) (fun p hp => hb.cell hp) (fun _ h => h)).int hx
      have hbs := bounds_i64 hwf
      have hPr : P ≤ wr.heap.size := by
        obtain ⟨_, _, _, _, _, _, _, _, _, _, _, _, _, _, _, _, _, _, _, _, _, _, hB2, _⟩ := hB
        exact Nat.le_of_lt hB2.lt
      by_cases hneg : sv < 0
      · have d0 : decide (sv < 0) = true := decide_eq_true hneg
        have H := Lib.hid hb
        clear hB hI hKk hb hx hwf
        go_wp2
        exact HR.out _ _ _ _ _ _ _ _ _ _ _ _ _ _ _ _ _ _ _ _ _ _ _ _ _ _ _ _ _ _ _ _ _ _ _ _ _ _ _ _ _ _ _ _ _ _ _ _ _ _ _ _ _ H.out
      · have d0 : decide (sv < 0) = false := decide_eq_false hneg
        have HC := Lib.hid (step_any wr P P win s lo nx ex k sv hB hI hKk hw1 hw2 (by omega) hPr (by omega) (by omega))
        have H := Lib.hid hb
        clear hB hI hKk hb hx hwf
        go_upto_region 12 with (first
          | (go_at_call 20
             go_loud (skip
                      refine HC.out.mono ?_
                      rintro en w1 ⟨⟨v, rfl⟩, hN1⟩
                      have H1 := Lib.hid hN1
                      clear hN1 x0)))
        obtain ⟨s1, lo1, nx1, ex1, hB1, hI1, hK1, hb1⟩ := H1.out
        have hB1' := hB1
        obtain ⟨ρ, AS, nS, cS', AW, nW, cW, AH, nH, cH, AI, nI, cI, AA, nA, cA, AB, nB, cB, AT, nT, cT, hBk, hM, hnI, hnA, hnB, hnT⟩ := hB1'
        have hen : s1.e = (nT : Int) := by
          have h9 := hI1.told
          have h8 := congrArg List.length h9
          rw [List.length_take, hnT] at h8
          have := hI1.exle; have := hI1.nxle
          rw [hI1.exp]; omega
        have htl : s1.told = s1.sent.take nT := by
          have h9 := hI1.told
          have h7 := hI1.exp
          rw [hen] at h7
          have : nT = ex1 := by omega
          rw [this]; exact h9
        have hp3 := hBk.cell 3 (v := .int .i64 s1.e) rfl
        rw [hen] at hp3
        have hnTB : nT ≤ nB := by have := hI1.exle; have := hI1.nxle; have h7 := hI1.exp; rw [hen] at h7; omega
        obtain ⟨tc1, tc2, tc3⟩ := hM.told.read
        obtain ⟨bc1, bc2, bc3⟩ := hM.sent.read
        have HC2 := Lib.hid (show ∀ w', RowKit.Below w1.heap.size w1 w' → Calls Try.prog 21 #[.slice AT nT cT, .slice AB nB cB] w' fun en w2 => en = .returned (.bool true) ∧ Below w'.heap.size w' w2 from fun w' hb' =>
          begins_any w' AT s1.told nT cT hnT AB s1.sent nB cB hnB (tc3.below hb' hb'.size) (bc3.below hb' hb'.size) (by have := hI1.few; omega) hnTB (by omega) htl hM.sent.1.addr)
        have hnS := hM.out.sentN
        refine ord_r12 w1 P win AI nI cI AT nT cT AB nB cB AS nS cS' hBk.lt (hBk.cell 5 rfl) (hBk.cell 8 rfl) (hBk.cell 7 rfl) (hBk.cell 1 rfl) hp3 (by have := hK1.items; omega) (by have := hI1.len; omega) HC2.out ?_
        intro d35 d36 d37 d38 d39 d40 d41 d42 d43 d44 d45 d46 d47 d48 d49 d50 d51 d52 d53 d54 d55 d56 d57 d58 d59 d60 d61 d62 d63 d64 d65 d66 d67 d68 d69 d70 d71 d72 d73 d74 w2 hb2
        have hb1z := hb1.size
        have HN2 := Lib.hid (show WyNext P P win (k + 1) w w2 from ⟨s1, lo1, nx1, ex1, hB1.up hb2, hI1, hK1, (H.out.trans hb1).trans (hb2.mono (by omega))⟩)
        clear HC HC2 hB1 hI1 hK1 hb1 hb2 hBk hM hnI hnA hnB hnT hen htl hp3 tc1 tc2 tc3 bc1 bc2 bc3 hnS H1
        go_wp2
        go_roundw
        case measure => simp [intOf]; omega
        case rel => exact ⟨k + 1, by omega, by go_num, HN2.out⟩
    · obtain rfl : k = N := by omega
      have H := Lib.hid hb
      clear hB hI hKk hb
      go_wp2
      exact HK.out _ _ _ _ _ _ _ _ _ _ _ _ _ _ _ _ _ _ _ _ _ _ _ _ _ _ _ _ _ _ _ _ _ _ _ _ _ _ _ _ _ _ _ _ _ _ _ _ _ _ _ _ _ H.out
set_option maxRecDepth 100000 in
set_option maxHeartbeats 4000000 in
theorem linkOrder_walk (win : Int) (SA : Option Addr) (steps : List Int) (N cS : Nat) (w : World) (hN : steps.length = N) (hs : Sl (Rint .i64) w (lo w.heap.size) SA steps) :
    Calls Try.prog 6 #[.int .i64 win, .slice SA N cS] w fun e w' => e = .returned (.bool true) ∧ Below w.heap.size w w' := by
  have HX := Lib.hid (And.intro hN hs); clear hN hs
  go_enter Try.func6, Try.ntmps6
  go_upto_region 5 with (first
    | (go_at_call 8
       go_loud (skip
                refine (live_any _).mono ?_
                rintro e w1 ⟨rfl, hb1⟩
                have HB1 := Lib.hid hb1; clear hb1)))
  all_goals try (go_ret; exact ⟨rfl, HB1.out⟩)
  have c1 : 1 ≤ win := by omega
  have c2 : win ≤ 20 := by omega
  have c3 : N ≤ 80 := by omega
  have z1 := HB1.out.size
  have HZ := Lib.hid (WyB.zero w1 win)
  go_upto_block 0 with fail
  have hba : RowKit.Below w1.heap.size w1 (w1.alloc (.cells #[.int .i64 0, .slice none 0 0, .slice none 0 0, .int .i64 0, .slice none 0 0, .slice none 0 0, .slice none 0 0, .slice none 0 0, .slice none 0 0, .int .i64 win, .int .i64 0] 50)) := (Below.refl _ _).alloc (Nat.le_refl _) _
  generalize (w1.alloc (.cells #[.int .i64 0, .slice none 0 0, .slice none 0 0, .int .i64 0, .slice none 0 0, .slice none 0 0, .slice none 0 0, .slice none 0 0, .slice none 0 0, .int .i64 win, .int .i64 0] 50)) = w2 at *
  have HB2 := Lib.hid (HB1.out.trans (hba.mono z1))
  refine ord_loop w2 w1.heap.size win SA steps N cS (HX.out.2.keep (fun p hp => HB2.out.cell hp) (fun b hb => Nat.lt_of_lt_of_le hb z1)) HX.out.1 c3 c1 c2 HZ.out ?_ ?_
  · intro d4 d7 d27 d28 d29 d30 d31 d32 d33 d34 d35 d36 d37 d38 d39 d40 d41 d42 d43 d44 d45 d46 d47 d48 d49 d50 d51 d52 d53 d54 d55 d56 d57 d58 d59 d60 d61 d62 d63 d64 d65 d66 d67 d68 d69 d70 d71 d72 d73 d74 d75 d76 w' hb
    have H := Lib.hid (HB2.out.trans (hb.mono z1))
    clear hb hba
    go_wp2
    go_ret
    exact ⟨rfl, H.out⟩
  · intro d7 d26 d27 d28 d29 d30 d31 d32 d33 d34 d35 d36 d37 d38 d39 d40 d41 d42 d43 d44 d45 d46 d47 d48 d49 d50 d51 d52 d53 d54 d55 d56 d57 d58 d59 d60 d61 d62 d63 d64 d65 d66 d67 d68 d69 d70 d71 d72 d73 d74 d75 d76 w' hb
    have H := Lib.hid (HB2.out.trans (hb.mono z1))
    clear hb hba
    go_wp2
    go_ret
    exact ⟨rfl, H.out⟩
end Go.Proofs.Ytalieakmjkmbbaa

