/-
  StoreDoes: the last region, the walk.
-/
import Derived.Test.YtcmdmmphakclmaaDoesG
import Derived.Test.YtcmdmmphakclmaaStoreK
namespace Go.Proofs.Ytcmdmmphakclmaa
open Go.RowKit Go.Sort
set_option linter.unusedVariables false
attribute [local go_sem ↓] Go.wp_at_zero Go.wp_at_succ

noncomputable def does_r11_code : Code := regionOf Try.f7 11
set_option maxRecDepth 100000 in
set_option maxHeartbeats 8000000 in
theorem does_r11 {Q : Exit → Act → World → Prop} {s0 s1 s2 s3 s4 s5 s6 s8 s9 s10 s27 s28 s29 s30 s31 s32 s33 s34 s35 s36 s37 s38 s39 s40 s41 s42 s43 s44 s45 s46 s47 s48 s49 s50 s51 s52 s53 s54 s55 s56 s57 s58 s59 s60 s61 s62 s63 s64 s65 s66 s67 s68 s69 s70 s71 s72 s73 s74 s75 s76 s77 s78 s79 s80 s81 s82 s83 s84 s85 s86 s87 s88 s89 s90 s91 s92 s93 s94 s95 s96 s97 s98 s99 s100 s101 s102 s103 s104 s105 s106 s107 s108 s109 s110 s111 s112 s113 s114 s115 s116 s117 s118 s119 s120 s121 s122 : Value} (w : World) (P7 P11 P13 P15 P18 P21 P24 P22 P25 : Nat) (z0 z1 a0 a1 b0 b1 c0 c1 d0 d1 x0 x1 y0 y1 g0 g1 g2 g3 g4 h0 h1 h2 h3 h4 : Value) (e1 e2 e3 e4 E : Int) (kz0 : w.cell? ⟨P7, 0, none⟩ = some z0) (kz1 : w.cell? ⟨P7, 1, none⟩ = some z1) (ka0 : w.cell? ⟨P11, 0, none⟩ = some a0) (ka1 : w.cell? ⟨P11, 1, none⟩ = some a1) (kb0 : w.cell? ⟨P13, 0, none⟩ = some b0) (kb1 : w.cell? ⟨P13, 1, none⟩ = some b1) (kc0 : w.cell? ⟨P15, 0, none⟩ = some c0) (kc1 : w.cell? ⟨P15, 1, none⟩ = some c1) (kd0 : w.cell? ⟨P18, 0, none⟩ = some d0) (kd1 : w.cell? ⟨P18, 1, none⟩ = some d1) (kx0 : w.cell? ⟨P21, 0, none⟩ = some x0) (kx1 : w.cell? ⟨P21, 1, none⟩ = some x1) (ky0 : w.cell? ⟨P24, 0, none⟩ = some y0) (ky1 : w.cell? ⟨P24, 1, none⟩ = some y1) (kg0 : w.cell? ⟨P22, 0, none⟩ = some g0) (kg1 : w.cell? ⟨P22, 1, none⟩ = some g1) (kg2 : w.cell? ⟨P22, 2, none⟩ = some g2) (kg3 : w.cell? ⟨P22, 3, none⟩ = some g3) (kg4 : w.cell? ⟨P22, 4, none⟩ = some g4) (kh0 : w.cell? ⟨P25, 0, none⟩ = some h0) (kh1 : w.cell? ⟨P25, 1, none⟩ = some h1) (kh2 : w.cell? ⟨P25, 2, none⟩ = some h2) (kh3 : w.cell? ⟨P25, 3, none⟩ = some h3) (kh4 : w.cell? ⟨P25, 4, none⟩ = some h4)
    (hC1 : ∀ w', RowKit.Below w.heap.size w w' → Calls Try.prog 16 #[.agg #[a0, a1], .agg #[b0, b1]] w' fun en w2 => en = .returned (.bool true) ∧ Below w'.heap.size w' w2)
    (hC2 : ∀ w', RowKit.Below w.heap.size w w' → Calls Try.prog 16 #[.agg #[c0, c1], .agg #[d0, d1]] w' fun en w2 => en = .returned (.bool true) ∧ Below w'.heap.size w' w2)
    (hC3 : ∀ w', RowKit.Below w.heap.size w w' → Calls Try.prog 16 #[.agg #[x0, x1], .agg #[y0, y1]] w' fun en w2 => en = .returned (.bool true) ∧ Below w'.heap.size w' w2)
    (hC4 : ∀ w', RowKit.Below w.heap.size w w' → Calls Try.prog 17 #[.agg #[g0, g1, g2, g3, g4], .agg #[h0, h1, h2, h3, h4]] w' fun en w2 => en = .returned (.bool true) ∧ Below w'.heap.size w' w2)
    (hC5 : ∀ w', RowKit.Below w.heap.size w w' → Calls Try.prog 15 #[.agg #[z0, z1]] w' fun en w2 => en = .returned (.int .i64 E) ∧ Below w'.heap.size w' w2)
    (hC6 : ∀ w', RowKit.Below w.heap.size w w' → Calls Try.prog 22 #[.agg #[z0, z1]] w' fun en w2 => en = .returned (.int .i64 E) ∧ Below w'.heap.size w' w2)
    (hK : ∀ (d78 d79 d80 d81 d82 d83 d84 d85 d86 d87 d88 d89 d90 d91 d92 d93 d94 d95 d96 d97 d98 d99 d100 d101 d102 d103 d104 d105 d106 d107 d108 d109 d110 d111 d112 d113 d114 d115 d116 d117 d118 d119 d120 d121 d122 : Value) (w' : World), Below w.heap.size w w' → Q .normal ⟨#[s0, s1, s2, s3, s4, s5, s6, .pointer (some ⟨P7, 0, none⟩), s8, s9, .bool true, .pointer (some ⟨P11, 0, none⟩), .int .i64 e1, .pointer (some ⟨P13, 0, none⟩), .int .i64 e1, .pointer (some ⟨P15, 0, none⟩), .int .u8 e2, .int .i64 e3, .pointer (some ⟨P18, 0, none⟩), .int .u8 e2, .int .i64 e3, .pointer (some ⟨P21, 0, none⟩), .pointer (some ⟨P22, 0, none⟩), .int .i64 e4, .pointer (some ⟨P24, 0, none⟩), .pointer (some ⟨P25, 0, none⟩), .int .i64 e4, s27, s28, s29, s30, s31, s32, s33, s34, s35, s36, s37, s38, s39, s40, s41, s42, s43, s44, s45, s46, s47, s48, s49, s50, s51, s52, s53, s54, s55, s56, s57, s58, s59, s60, s61, s62, s63, s64, s65, s66, s67, s68, s69, s70, s71, s72, s73, s74, s75, s76, s77, d78, d79, d80, d81, d82, d83, d84, d85, d86, d87, d88, d89, d90, d91, d92, d93, d94, d95, d96, d97, d98, d99, d100, d101, d102, d103, d104, d105, d106, d107, d108, d109, d110, d111, d112, d113, d114, d115, d116, d117, d118, d119, d120, d121, d122], []⟩ w') :
    Code.wp Try.prog does_r11_code Q ⟨#[s0, s1, s2, s3, s4, s5, s6, .pointer (some ⟨P7, 0, none⟩), s8, s9, s10, .pointer (some ⟨P11, 0, none⟩), .int .i64 e1, .pointer (some ⟨P13, 0, none⟩), .int .i64 e1, .pointer (some ⟨P15, 0, none⟩), .int .u8 e2, .int .i64 e3, .pointer (some ⟨P18, 0, none⟩), .int .u8 e2, .int .i64 e3, .pointer (some ⟨P21, 0, none⟩), .pointer (some ⟨P22, 0, none⟩), .int .i64 e4, .pointer (some ⟨P24, 0, none⟩), .pointer (some ⟨P25, 0, none⟩), .int .i64 e4, s27, s28, s29, s30, s31, s32, s33, s34, s35, s36, s37, s38, s39, s40, s41, s42, s43, s44, s45, s46, s47, s48, s49, s50, s51, s52, s53, s54, s55, s56, s57, s58, s59, s60, s61, s62, s63, s64, s65, s66, s67, s68, s69, s70, s71, s72, s73, s74, s75, s76, s77, s78, s79, s80, s81, s82, s83, s84, s85, s86, s87, s88, s89, s90, s91, s92, s93, s94, s95, s96, s97, s98, s99, s100, s101, s102, s103, s104, s105, s106, s107, s108, s109, s110, s111, s112, s113, s114, s115, s116, s117, s118, s119, s120, s121, s122], []⟩ w := by
  have HK := Lib.hid hK; clear hK
  have CS1 := Lib.hid (fun d os' => Calls.regrown_of (hC1 (grow (redrawn w d) os') (below_regrown w d os')))
  have CS2 := Lib.hid (fun d os' => Calls.regrown_of (hC2 (grow (redrawn w d) os') (below_regrown w d os')))
  have CS3 := Lib.hid (fun d os' => Calls.regrown_of (hC3 (grow (redrawn w d) os') (below_regrown w d os')))
  have CS4 := Lib.hid (fun d os' => Calls.regrown_of (hC4 (grow (redrawn w d) os') (below_regrown w d os')))
  have CS5 := Lib.hid (fun d os' => Calls.regrown_of (hC5 (grow (redrawn w d) os') (below_regrown w d os')))
  have CS6 := Lib.hid (fun d os' => Calls.regrown_of (hC6 (grow (redrawn w d) os') (below_regrown w d os')))
  have jz0 := cell_regrown kz0
  have jz1 := cell_regrown kz1
  have ja0 := cell_regrown ka0
  have ja1 := cell_regrown ka1
  have jb0 := cell_regrown kb0
  have jb1 := cell_regrown kb1
  have jc0 := cell_regrown kc0
  have jc1 := cell_regrown kc1
  have jd0 := cell_regrown kd0
  have jd1 := cell_regrown kd1
  have jx0 := cell_regrown kx0
  have jx1 := cell_regrown kx1
  have jy0 := cell_regrown ky0
  have jy1 := cell_regrown ky1
  have jg0 := cell_regrown kg0
  have jg1 := cell_regrown kg1
  have jg2 := cell_regrown kg2
  have jg3 := cell_regrown kg3
  have jg4 := cell_regrown kg4
  have jh0 := cell_regrown kh0
  have jh1 := cell_regrown kh1
  have jh2 := cell_regrown kh2
  have jh3 := cell_regrown kh3
  have jh4 := cell_regrown kh4
  clear hC1 hC2 hC3 hC4 hC5 hC6
  conv => arg 2; whnf
  refine wp_region_quiet_below (by kernel_rfl) (by kernel_rfl) ?_
  repeat (any_goals (first | go_big_quiet_step (first | with_reducible exact CS1.out _ _ | with_reducible exact CS2.out _ _ | with_reducible exact CS3.out _ _ | with_reducible exact CS4.out _ _ | with_reducible exact CS5.out _ _ | with_reducible exact CS6.out _ _) | quiet_step (first | with_reducible exact CS1.out _ _ | with_reducible exact CS2.out _ _ | with_reducible exact CS3.out _ _ | with_reducible exact CS4.out _ _ | with_reducible exact CS5.out _ _ | with_reducible exact CS6.out _ _)))
  refine wpQuiet_nil ?_
  intro _ hw'
  obtain ⟨⟨dq, osq⟩, hw''⟩ := hw'
  subst hw''
  exact HK.out _ _ _ _ _ _ _ _ _ _ _ _ _ _ _ _ _ _ _ _ _ _ _ _ _ _ _ _ _ _ _ _ _ _ _ _ _ _ _ _ _ _ _ _ _ _ (below_regrown w dq osq)
set_option maxRecDepth 100000 in
set_option maxHeartbeats 8000000 in
theorem does_walk (cl sq : Int) (A : Option Addr) (n cap : Nat) (B : Option Addr) (m cap' : Nat) (s : St) (l : Lt) (T : Option Addr) (tn tc : Nat) (ci : Int) (w : World) (hcl : (Lit.int .i64 cl).wf = true) (hsq : (Lit.int .u64 sq).wf = true) (hs : StArg w A n cap B m cap' s) (hl : LtAt w (lo w.heap.size) T tn tc l) :
    Calls Try.prog 7 #[.int .i64 cl, .int .u64 sq, .agg #[.slice A n cap, .slice B m cap'], .agg #[.bool l.cover, .int .i64 l.fr, .int .i64 l.to, .int .u64 l.sq, .slice T tn tc], .int .i64 ci] w fun e w' => e = .returned (.bool true) ∧ Below w.heap.size w w' := by
  have HS := Lib.hid hs; have HL := Lib.hid hl; clear hs hl
  have HW := Lib.hid (And.intro hcl hsq); clear hcl hsq
  obtain ⟨N, eN, hN⟩ : ∃ N eN, newS cl sq = (N, eN) := ⟨_, _, rfl⟩
  obtain ⟨PS, pc, pe, hP⟩ : ∃ PS pc pe, putR s l = (PS, pc, pe) := ⟨_, _, _, rfl⟩
  obtain ⟨QS, ql, qe, hQ⟩ : ∃ QS ql qe, popR s ci = (QS, ql, qe) := ⟨_, _, _, rfl⟩
  obtain ⟨E, hE⟩ : ∃ E, errArg (checkB s) = E := ⟨_, rfl⟩
  have HP := Lib.hid (And.intro hN (And.intro hP (And.intro hQ hE)))
  clear hN hP hQ hE
  go_enter Try.func7, Try.ntmps7
  go_upto_region 5 with (first
    | (go_at_call 9
       go_loud (skip
                refine (live_any _).mono ?_
                rintro e w1 ⟨rfl, hb1⟩
                have HM1 := Lib.hid ((LawMem.start w (.slice A n cap) (.slice B m cap') (.bool l.cover) (.int .i64 l.fr) (.int .i64 l.to) (.int .u64 l.sq) (.slice T tn tc)).up hb1)
                obtain ⟨a0, a1, b0, b1, b2, b3, b4, z0, z1⟩ := HM1.out.cells
                clear hb1))
    | (go_at_call 14
       go_loud (skip
                refine (few_any A n cap B m cap' s _ (HS.out.at_.below HM1.out.2.2.1 HM1.out.2.2.1.size) HS.out.m64).mono ?_
                rintro e w2 ⟨⟨few, rfl⟩, hb2⟩
                have HM2 := Lib.hid (HM1.out.up hb2)
                clear a0 a1 b0 b1 b2 b3 b4 z0 z1
                obtain ⟨a0, a1, b0, b1, b2, b3, b4, z0, z1⟩ := HM2.out.cells
                clear hb2 HM1)))
  all_goals try (go_ret; exact ⟨rfl, HM2.out.2.2.1⟩)
  go_upto_region 6 with (first
    | (go_at_call 10
       go_loud (skip
                refine (new_any cl sq HW.out.1 HW.out.2 w2).mono ?_
                rw [HP.out.1]; rintro e w3 ⟨A1, n1, c1, B1, m1, d1, rfl, hst, hc1, hc2, hc3, hc4, hb3⟩
                have hn63a := maxLen_le (Nat.le_trans hc1 hc2); have hm63a := maxLen_le (Nat.le_trans hc3 hc4)
                have G3 := Lib.hid (And.intro hst.lo hb3)
                have HM3 := Lib.hid (HM2.out.up hb3)
                clear hst hc1 hc2 hc3 hc4 hb3
                clear a0 a1 b0 b1 b2 b3 b4 z0 z1)))
  obtain ⟨v3, hv3⟩ : ∃ v3, w3.alloc (.cells #[.slice A1 n1 c1, .slice B1 m1 d1] 28) = v3 := ⟨_, rfl⟩
  have hba : Below w3.heap.size w3 v3 := by rw [← hv3]; exact (Below.refl _ _).alloc (Nat.le_refl _) _
  have hB : Blk v3 (w3.heap.size) 28 #[.slice A1 n1 c1, .slice B1 m1 d1] := by rw [← hv3]; exact Blk.new _ _ _ rfl
  rw [hv3]
  have zbv3 := hba.size
  have Hv3 := Lib.hid (And.intro hba hB)
  have HM4 := Lib.hid (HM3.out.up hba)
  obtain ⟨a0, a1, b0, b1, b2, b3, b4, z0, z1⟩ := HM4.out.cells
  clear hba hv3 hB
  go_upto_region 7 with (first
    | (go_at_call 18
       go_loud (skip
                refine (rnew_any cl sq HW.out.1 HW.out.2 v3).mono ?_
                rw [HP.out.1]; rintro e w4 ⟨A2, n2, c2, B2, m2, d2, rfl, hst, hb4⟩
                have G4 := Lib.hid (And.intro hst hb4)
                have HM5 := Lib.hid (HM4.out.up hb4)
                clear hst hb4
                clear a0 a1 b0 b1 b2 b3 b4 z0 z1)))
  obtain ⟨v4, hv4⟩ : ∃ v4, w4.alloc (.cells #[.slice A2 n2 c2, .slice B2 m2 d2] 28) = v4 := ⟨_, rfl⟩
  have hba : Below w4.heap.size w4 v4 := by rw [← hv4]; exact (Below.refl _ _).alloc (Nat.le_refl _) _
  have hB : Blk v4 (w4.heap.size) 28 #[.slice A2 n2 c2, .slice B2 m2 d2] := by rw [← hv4]; exact Blk.new _ _ _ rfl
  rw [hv4]
  have zbv4 := hba.size
  have Hv4 := Lib.hid (And.intro hba hB)
  have HM6 := Lib.hid (HM5.out.up hba)
  obtain ⟨a0, a1, b0, b1, b2, b3, b4, z0, z1⟩ := HM6.out.cells
  clear hba hv4 hB
  go_upto_region 8 with (first
    | (go_at_call 11
       go_loud (skip
                refine (put_any A n cap B m cap' s l T tn tc v4 (HS.out.at_.below HM6.out.2.2.1 HM6.out.2.2.1.size) (HS.out.fit.mono (by omega)) (HL.out.below HM6.out.2.2.1 HM6.out.2.2.1.size)).mono ?_
                rw [HP.out.2.1]; rintro e w5 ⟨A3, n3, c3, B3, m3, d3, rfl, hst, hc1, hc2, hc3, hc4, hb5⟩
                have hn63b := maxLen_le (Nat.le_trans hc1 hc2); have hm63b := maxLen_le (Nat.le_trans hc3 hc4)
                have G5 := Lib.hid (And.intro hst.lo hb5)
                have HM7 := Lib.hid (HM6.out.up hb5)
                clear hst hc1 hc2 hc3 hc4 hb5
                clear a0 a1 b0 b1 b2 b3 b4 z0 z1)))
  obtain ⟨v5, hv5⟩ : ∃ v5, w5.alloc (.cells #[.slice A3 n3 c3, .slice B3 m3 d3] 28) = v5 := ⟨_, rfl⟩
  have hba : Below w5.heap.size w5 v5 := by rw [← hv5]; exact (Below.refl _ _).alloc (Nat.le_refl _) _
  have hB : Blk v5 (w5.heap.size) 28 #[.slice A3 n3 c3, .slice B3 m3 d3] := by rw [← hv5]; exact Blk.new _ _ _ rfl
  rw [hv5]
  have zbv5 := hba.size
  have Hv5 := Lib.hid (And.intro hba hB)
  have HM8 := Lib.hid (HM7.out.up hba)
  obtain ⟨a0, a1, b0, b1, b2, b3, b4, z0, z1⟩ := HM8.out.cells
  clear hba hv5 hB
  go_upto_region 9 with (first
    | (go_at_call 19
       go_loud (skip
                refine (rput_any A n cap B m cap' s l T tn tc v5 (HS.out.at_.below HM8.out.2.2.1 HM8.out.2.2.1.size) (HS.out.fit.mono (by omega)) (HL.out.below HM8.out.2.2.1 HM8.out.2.2.1.size)).mono ?_
                rw [HP.out.2.1]; rintro e w6 ⟨A4, n4, c4, B4, m4, d4, rfl, hst, hb6⟩
                have G6 := Lib.hid (And.intro hst hb6)
                have HM9 := Lib.hid (HM8.out.up hb6)
                clear hst hb6
                clear a0 a1 b0 b1 b2 b3 b4 z0 z1)))
  obtain ⟨v6, hv6⟩ : ∃ v6, w6.alloc (.cells #[.slice A4 n4 c4, .slice B4 m4 d4] 28) = v6 := ⟨_, rfl⟩
  have hba : Below w6.heap.size w6 v6 := by rw [← hv6]; exact (Below.refl _ _).alloc (Nat.le_refl _) _
  have hB : Blk v6 (w6.heap.size) 28 #[.slice A4 n4 c4, .slice B4 m4 d4] := by rw [← hv6]; exact Blk.new _ _ _ rfl
  rw [hv6]
  have zbv6 := hba.size
  have Hv6 := Lib.hid (And.intro hba hB)
  have HM10 := Lib.hid (HM9.out.up hba)
  obtain ⟨a0, a1, b0, b1, b2, b3, b4, z0, z1⟩ := HM10.out.cells
  clear hba hv6 hB
  go_upto_region 10 with (first
    | (go_at_call 20
       go_loud (skip
                refine (pop_any A n cap B m cap' s ci v6 (HS.out.at_.below HM10.out.2.2.1 HM10.out.2.2.1.size) (HS.out.fit.mono (by omega))).mono ?_
                rw [HP.out.2.2.1]; rintro e w7 ⟨A5, n5, c5, B5, m5, d5, T5, t5, u5, rfl, hst, hc1, hc2, hc3, hc4, ht, _, _, hT, hb7⟩
                have hn63c := maxLen_le (Nat.le_trans hc1 hc2); have hm63c := maxLen_le (Nat.le_trans hc3 hc4)
                have G7 := Lib.hid (And.intro hst.lo (And.intro ht (And.intro hT hb7)))
                have HM11 := Lib.hid (HM10.out.up hb7)
                clear hst hc1 hc2 hc3 hc4 ht hT hb7
                clear a0 a1 b0 b1 b2 b3 b4 z0 z1)))
  obtain ⟨v7, hv7⟩ : ∃ v7, (w7.alloc (.cells #[.slice A5 n5 c5, .slice B5 m5 d5] 28)).alloc (.cells #[.bool ql.cover, .int .i64 ql.fr, .int .i64 ql.to, .int .u64 ql.sq, .slice T5 t5 u5] 34) = v7 := ⟨_, rfl⟩
  have hba : Below w7.heap.size w7 v7 := by rw [← hv7]; exact ((Below.refl _ _).alloc (Nat.le_refl _) _).alloc (by simp) _
  have hB : Blk v7 (w7.heap.size) 28 #[.slice A5 n5 c5, .slice B5 m5 d5] := by rw [← hv7]; exact (Blk.new _ _ _ rfl).alloc _
  have hB2 : Blk v7 (w7.heap.size + 1) 34 #[.bool ql.cover, .int .i64 ql.fr, .int .i64 ql.to, .int .u64 ql.sq, .slice T5 t5 u5] := by rw [← hv7]; exact Blk.new _ _ _ (by simp)
  rw [hv7]
  have zbv7 := hba.size
  have Hv7 := Lib.hid (And.intro hba (And.intro hB hB2))
  have HM12 := Lib.hid (HM11.out.up hba)
  obtain ⟨a0, a1, b0, b1, b2, b3, b4, z0, z1⟩ := HM12.out.cells
  clear hba hv7 hB hB2
  go_upto_region 11 with (first
    | (go_at_call 21
       go_loud (skip
                refine (rpop_any A n cap B m cap' s ci v7 (HS.out.at_.below HM12.out.2.2.1 HM12.out.2.2.1.size) (HS.out.fit.mono (by omega))).mono ?_
                rw [HP.out.2.2.1]; rintro e w8 ⟨A6, n6, c6, B6, m6, d6, T6, t6, u6, rfl, hst, ht, hT, hb8⟩
                have G8 := Lib.hid (And.intro hst (And.intro ht (And.intro hT hb8)))
                have HM13 := Lib.hid (HM12.out.up hb8)
                clear hst ht hT hb8
                clear a0 a1 b0 b1 b2 b3 b4 z0 z1)))
  obtain ⟨v8, hv8⟩ : ∃ v8, (w8.alloc (.cells #[.slice A6 n6 c6, .slice B6 m6 d6] 28)).alloc (.cells #[.bool ql.cover, .int .i64 ql.fr, .int .i64 ql.to, .int .u64 ql.sq, .slice T6 t6 u6] 34) = v8 := ⟨_, rfl⟩
  have hba : Below w8.heap.size w8 v8 := by rw [← hv8]; exact ((Below.refl _ _).alloc (Nat.le_refl _) _).alloc (by simp) _
  have hB : Blk v8 (w8.heap.size) 28 #[.slice A6 n6 c6, .slice B6 m6 d6] := by rw [← hv8]; exact (Blk.new _ _ _ rfl).alloc _
  have hB2 : Blk v8 (w8.heap.size + 1) 34 #[.bool ql.cover, .int .i64 ql.fr, .int .i64 ql.to, .int .u64 ql.sq, .slice T6 t6 u6] := by rw [← hv8]; exact Blk.new _ _ _ (by simp)
  rw [hv8]
  have zbv8 := hba.size
  have Hv8 := Lib.hid (And.intro hba (And.intro hB hB2))
  have HM14 := Lib.hid (HM13.out.up hba)
  obtain ⟨a0, a1, b0, b1, b2, b3, b4, z0, z1⟩ := HM14.out.cells
  clear hba hv8 hB hB2
  have y4 := G4.out.2.size; have y5 := G5.out.2.size; have y6 := G6.out.2.size; have y7 := G7.out.2.2.2.size; have y8 := G8.out.2.2.2.size
  have u78 := G8.out.2.2.2.trans (Hv8.out.1.mono G8.out.2.2.2.size)
  have u67 := (G7.out.2.2.2.trans (Hv7.out.1.mono G7.out.2.2.2.size)).trans (u78.mono (by omega))
  have u56 := (G6.out.2.trans (Hv6.out.1.mono G6.out.2.size)).trans (u67.mono (by omega))
  have u45 := (G5.out.2.trans (Hv5.out.1.mono G5.out.2.size)).trans (u56.mono (by omega))
  have u34 := (G4.out.2.trans (Hv4.out.1.mono G4.out.2.size)).trans (u45.mono (by omega))
  have q11 := Hv3.out.2.below u34 Hv3.out.2.lt; have q13 := Hv4.out.2.below u45 Hv4.out.2.lt; have q15 := Hv5.out.2.below u56 Hv5.out.2.lt; have q18 := Hv6.out.2.below u67 Hv6.out.2.lt
  have q21 := Hv7.out.2.1.below u78 Hv7.out.2.1.lt; have q22 := Hv7.out.2.2.below u78 Hv7.out.2.2.lt
  have sN1 := (G3.out.1.below Hv3.out.1 zbv3).below u34 u34.size
  have sN2 := (G4.out.1.below Hv4.out.1 zbv4).below u45 u45.size
  have sP1 := (G5.out.1.below Hv5.out.1 zbv5).below u56 u56.size
  have sP2 := (G6.out.1.below Hv6.out.1 zbv6).below u67 u67.size
  have sQ1 := (G7.out.1.below Hv7.out.1 zbv7).below u78 u78.size
  have sQ2 := G8.out.1.below Hv8.out.1 zbv8
  have sT1 := (G7.out.2.2.1.below Hv7.out.1 zbv7).below u78 u78.size
  have sT2 := G8.out.2.2.1.below Hv8.out.1 zbv8
  have sS := HS.out.at_.below HM14.out.2.2.1 HM14.out.2.2.1.size
  have hC1 : ∀ w', RowKit.Below v8.heap.size v8 w' → Calls Try.prog 16 #[.agg #[.slice A1 n1 c1, .slice B1 m1 d1], .agg #[.slice A2 n2 c2, .slice B2 m2 d2]] w' fun en w2 => en = .returned (.bool true) ∧ Below w'.heap.size w' w2 := fun w' hb => by
    have := same13_any A1 n1 c1 B1 m1 d1 N A2 n2 c2 B2 m2 d2 N w' (sN1.below hb hb.size) (sN2.below hb hb.size) hn63a hm63a
    rw [sameSt_iff.2 rfl] at this
    exact this
  have hC2 : ∀ w', RowKit.Below v8.heap.size v8 w' → Calls Try.prog 16 #[.agg #[.slice A3 n3 c3, .slice B3 m3 d3], .agg #[.slice A4 n4 c4, .slice B4 m4 d4]] w' fun en w2 => en = .returned (.bool true) ∧ Below w'.heap.size w' w2 := fun w' hb => by
    have := same13_any A3 n3 c3 B3 m3 d3 PS A4 n4 c4 B4 m4 d4 PS w' (sP1.below hb hb.size) (sP2.below hb hb.size) hn63b hm63b
    rw [sameSt_iff.2 rfl] at this
    exact this
  have hC3 : ∀ w', RowKit.Below v8.heap.size v8 w' → Calls Try.prog 16 #[.agg #[.slice A5 n5 c5, .slice B5 m5 d5], .agg #[.slice A6 n6 c6, .slice B6 m6 d6]] w' fun en w2 => en = .returned (.bool true) ∧ Below w'.heap.size w' w2 := fun w' hb => by
    have := same13_any A5 n5 c5 B5 m5 d5 QS A6 n6 c6 B6 m6 d6 QS w' (sQ1.below hb hb.size) (sQ2.below hb hb.size) hn63c hm63c
    rw [sameSt_iff.2 rfl] at this
    exact this
  have hC4 : ∀ w', RowKit.Below v8.heap.size v8 w' → Calls Try.prog 17 #[.agg #[.bool ql.cover, .int .i64 ql.fr, .int .i64 ql.to, .int .u64 ql.sq, .slice T5 t5 u5], .agg #[.bool ql.cover, .int .i64 ql.fr, .int .i64 ql.to, .int .u64 ql.sq, .slice T6 t6 u6]] w' fun en w2 => en = .returned (.bool true) ∧ Below w'.heap.size w' w2 := fun w' hb => by
    have := r10same_any ql.cover ql.fr ql.to ql.sq T5 ql.text t5 u5 G7.out.2.1 ql.cover ql.fr ql.to ql.sq T6 ql.text t6 u6 G8.out.2.1 w' (sT1.below hb hb.size) (sT2.below hb hb.size)
    rw [show same5 ql.cover ql.cover ql.fr ql.fr ql.to ql.to ql.sq ql.sq ql.text ql.text = true by simp [same5]] at this
    exact this
  have hC5 : ∀ w', RowKit.Below v8.heap.size v8 w' → Calls Try.prog 15 #[.agg #[.slice A n cap, .slice B m cap']] w' fun en w2 => en = .returned (.int .i64 E) ∧ Below w'.heap.size w' w2 := fun w' hb => by
    have := check_any A n cap B m cap' s w' (sS.below hb hb.size)
    rw [HP.out.2.2.2] at this
    exact this
  have hC6 : ∀ w', RowKit.Below v8.heap.size v8 w' → Calls Try.prog 22 #[.agg #[.slice A n cap, .slice B m cap']] w' fun en w2 => en = .returned (.int .i64 E) ∧ Below w'.heap.size w' w2 := fun w' hb => by
    have := rcheck_any A n cap B m cap' s w' (sS.below hb hb.size)
    rw [HP.out.2.2.2] at this
    exact this
  refine does_r11 v8 w.heap.size w3.heap.size w4.heap.size w5.heap.size w6.heap.size w7.heap.size w8.heap.size (w7.heap.size + 1) (w8.heap.size + 1) (.slice A n cap) (.slice B m cap') (.slice A1 n1 c1) (.slice B1 m1 d1) (.slice A2 n2 c2) (.slice B2 m2 d2) (.slice A3 n3 c3) (.slice B3 m3 d3) (.slice A4 n4 c4) (.slice B4 m4 d4) (.slice A5 n5 c5) (.slice B5 m5 d5) (.slice A6 n6 c6) (.slice B6 m6 d6) (.bool ql.cover) (.int .i64 ql.fr) (.int .i64 ql.to) (.int .u64 ql.sq) (.slice T5 t5 u5) (.bool ql.cover) (.int .i64 ql.fr) (.int .i64 ql.to) (.int .u64 ql.sq) (.slice T6 t6 u6) eN pc pe qe E a0 a1 (q11.cell 0 rfl) (q11.cell 1 rfl) (q13.cell 0 rfl) (q13.cell 1 rfl) (q15.cell 0 rfl) (q15.cell 1 rfl) (q18.cell 0 rfl) (q18.cell 1 rfl) (q21.cell 0 rfl) (q21.cell 1 rfl) (Hv8.out.2.1.cell 0 rfl) (Hv8.out.2.1.cell 1 rfl) (q22.cell 0 rfl) (q22.cell 1 rfl) (q22.cell 2 rfl) (q22.cell 3 rfl) (q22.cell 4 rfl) (Hv8.out.2.2.cell 0 rfl) (Hv8.out.2.2.cell 1 rfl) (Hv8.out.2.2.cell 2 rfl) (Hv8.out.2.2.cell 3 rfl) (Hv8.out.2.2.cell 4 rfl) hC1 hC2 hC3 hC4 hC5 hC6 ?_
  intro d78 d79 d80 d81 d82 d83 d84 d85 d86 d87 d88 d89 d90 d91 d92 d93 d94 d95 d96 d97 d98 d99 d100 d101 d102 d103 d104 d105 d106 d107 d108 d109 d110 d111 d112 d113 d114 d115 d116 d117 d118 d119 d120 d121 d122 w9 hb9
  have HZ := Lib.hid (HM14.out.up hb9)
  clear hC1 hC2 hC3 hC4 hC5 hC6 a0 a1 b0 b1 b2 b3 b4 z0 z1
  go_wp2
  go_ret
  exact ⟨rfl, HZ.out.2.2.1⟩
end Go.Proofs.Ytcmdmmphakclmaa

