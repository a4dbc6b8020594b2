/-
  NetBlind: the walk.
-/
import Derived.Test.YtponbodiibkopaaNetAp
namespace Go.Proofs.Ytponbodiibkopaa
open Go.RowKit Go.Sort
set_option linter.unusedVariables false

theorem sendN_times (x : Nt) (now fr tgt fr' tgt' : Int) (b b' : List Int) : (sendN x now fr tgt b).list.map Fl.tm = (sendN x now fr' tgt' b').list.map Fl.tm ∧ (sendN x now fr tgt b).fates = (sendN x now fr' tgt' b').fates := by
  unfold sendN
  exact ⟨by rw [List.map_append, List.map_append, sendL_times now (fateN x) fr tgt fr' tgt' b b'], rfl⟩
noncomputable def blind_loop_code : Code := blockOf Try.f8 0
set_option maxRecDepth 100000 in
set_option maxHeartbeats 2000000 in
theorem blind_loop {Q : Exit → Act → World → Prop} {s0 s1 s2 s3 s4 s5 s6 s7 s8 s9 s10 s11 s12 s15 s16 s17 s18 s19 s20 s21 s22 s23 s24 s25 s26 s27 s28 s29 s30 s31 s32 s33 s34 s35 s36 s37 s38 s39 s40 s41 s42 s43 s44 s45 s46 s47 s48 s49 s50 s51 s52 s53 s54 s55 s56 s57 s58 s59 s62 s63 s64 s65 s66 s67 s68 s69 s70 s71 s72 s73 s74 s75 s76 s77 : Value} (w : World) (E F : Nat) (A1 A2 : Option Addr) (n c1 c2 : Nat) (v1 v2 : Value) (xs ys : List Fl)
    (hE : Blk w E 25 #[.slice A1 n c1, v1]) (hF : Blk w F 25 #[.slice A2 n c2, v2]) (hn : xs.length = n) (hm : ys.length = n) (hx : Sl Rfl w (lo w.heap.size) A1 xs) (hy : Sl Rfl w (lo w.heap.size) A2 ys) (hz : n ≤ 9223372036854775807) (heq : xs.map Fl.tm = ys.map Fl.tm)
    (hK : ∀ (d12 d15 d62 d63 d64 d65 d66 d67 d68 d69 d70 d71 d72 d73 d74 d75 d76 d77 : Value) (w' : World), Below w.heap.size w w' → Q .normal ⟨#[s0, s1, s2, s3, s4, s5, s6, s7, s8, s9, s10, s11, d12, .pointer (some ⟨E, 0, none⟩), .pointer (some ⟨F, 0, none⟩), d15, s16, s17, s18, s19, s20, s21, s22, s23, s24, s25, s26, s27, s28, s29, s30, s31, s32, s33, s34, s35, s36, s37, s38, s39, s40, s41, s42, s43, s44, s45, s46, s47, s48, s49, s50, s51, s52, s53, s54, s55, s56, s57, s58, s59, .int .i64 (n : Nat), .int .i64 (n : Nat), d62, d63, d64, d65, d66, d67, d68, d69, d70, d71, d72, d73, d74, d75, d76, d77], []⟩ w') :
    Code.wp Try.prog blind_loop_code Q ⟨#[s0, s1, s2, s3, s4, s5, s6, s7, s8, s9, s10, s11, s12, .pointer (some ⟨E, 0, none⟩), .pointer (some ⟨F, 0, none⟩), s15, s16, s17, s18, s19, s20, s21, s22, s23, s24, s25, s26, s27, s28, s29, s30, s31, s32, s33, s34, s35, s36, s37, s38, s39, s40, s41, s42, s43, s44, s45, s46, s47, s48, s49, s50, s51, s52, s53, s54, s55, s56, s57, s58, s59, .int .i64 (n : Nat), .int .i64 0, s62, s63, s64, s65, s66, s67, s68, s69, s70, s71, s72, s73, s74, s75, s76, s77], []⟩ w := by
  have HK := Lib.hid hK; clear hK
  have HX := Lib.hid (And.intro hn (And.intro hm (And.intro hx (And.intro hy (And.intro heq (And.intro hE hF))))))
  clear hn hm hx hy heq hE hF
  conv => arg 2; whnf
  go_wp2
  go_loopw [61] (fun i wr => ∃ j : Nat, j ≤ n ∧ i = .int .i64 j ∧ Below w.heap.size w wr) (fun i _ => n - (intOf i).toNat)
  case atStart => exact ⟨0, Nat.zero_le _, rfl, Below.refl _ _⟩
  case round =>
    obtain ⟨j, hj, rfl, hbel⟩ := hrel
    by_cases hlt : j < n
    · have hx := List.getElem?_eq_getElem (l := xs) (i := j) (by rw [HX.out.1]; exact hlt)
      have hy := List.getElem?_eq_getElem (l := ys) (i := j) (by rw [HX.out.2.1]; exact hlt)
      generalize xs[j]'(by rw [HX.out.1]; exact hlt) = x at hx
      generalize ys[j]'(by rw [HX.out.2.1]; exact hlt) = y at hy
      have htm : x.tm = y.tm := by
        have h9 := congrArg (fun l : List Int => l[j]?) HX.out.2.2.2.2.1
        simp only [List.getElem?_map, hx, hy, Option.map_some] at h9
        exact Option.some.inj h9
      obtain ⟨b1, o1, T1, n1, k1, rfl, _, _, _, _, _, _, _, _, x0, _, _, _⟩ := (HX.out.2.2.1.below hbel hbel.size).flight hx
      obtain ⟨b2, o2, T2, n2, k2, rfl, _, _, _, _, _, _, _, _, y0, _, _, _⟩ := (HX.out.2.2.2.1.below hbel hbel.size).flight hy
      rw [← htm] at y0
      obtain ⟨tm, htm'⟩ : ∃ tm, x.tm = tm := ⟨_, rfl⟩
      rw [htm'] at x0 y0
      have hne : (tm != tm) = false := by simp
      have z0 := cell_regrown x0; have z1 := cell_regrown y0
      have z2 := cell_regrown ((HX.out.2.2.2.2.2.1.below hbel HX.out.2.2.2.2.2.1.lt).cell 0 (v := .slice (some ⟨b1, o1, none⟩) n c1) rfl)
      have z3 := cell_regrown ((HX.out.2.2.2.2.2.2.below hbel HX.out.2.2.2.2.2.2.lt).cell 0 (v := .slice (some ⟨b2, o2, none⟩) n c2) rfl)
      clear hx hy htm htm' x0 y0
      go_wp2
      refine wp_region_quiet_below (by kernel_rfl) (by kernel_rfl) ?_
      repeat (any_goals (first | go_big_quiet_step (fail) | quiet_step (fail)))
      refine wpQuiet_nil ?_
      intro _ hw'
      obtain ⟨⟨dq, osq⟩, hw''⟩ := hw'
      subst hw''
      have hbq := hbel.trans ((below_regrown wr dq osq).mono hbel.size)
      go_wp2
      go_roundw
      case measure => simp [intOf]; omega
      case rel => exact ⟨j + 1, by omega, by go_num, hbq⟩
    · obtain rfl : j = n := by omega
      have HB := Lib.hid hbel; clear hbel
      go_wp2
      exact HK.out _ _ _ _ _ _ _ _ _ _ _ _ _ _ _ _ _ _ _ HB.out
set_option maxRecDepth 100000 in
set_option maxHeartbeats 4000000 in
theorem netBlind_walk (x : Nt) (A : Option Addr) (n c : Nat) (B : Option Addr) (m d : Nat) (now fr tgt : Int) (T : Option Addr) (body : List Int) (k kc : Nat) (U : Option Addr) (body2 : List Int) (k2 kc2 : Nat) (w : World) (hs : NtArg w A n c B m d x) (hfr : (Lit.int .i64 fr).wf = true) (htg : (Lit.int .i64 tgt).wf = true) (hk : body.length = k) (hT : Sl (Rint .u8) w (lo w.heap.size) T body) (hk2 : body2.length = k2) (hU : Sl (Rint .u8) w (lo w.heap.size) U body2) :
    Calls Try.prog 8 #[.agg #[.slice A n c, .slice B m d], .int .i64 now, .slice T k kc, .slice U k2 kc2, .int .i64 fr, .int .i64 tgt] w fun e w' => e = .returned (.bool true) ∧ Below w.heap.size w w' := by
  have HS := Lib.hid hs; clear hs
  have hn64 := HS.out.n64; have hm64 := HS.out.m64
  have HT := Lib.hid (And.intro hk (And.intro hT (And.intro hk2 hU))); clear hk hT hk2 hU
  have HW := Lib.hid (And.intro hfr htg); clear hfr htg
  have HP := Lib.hid (sendN_times x now fr tgt tgt fr body body2)
  go_enter Try.func8, Try.ntmps8
  go_upto_region 5 with (first
    | (go_at_call 9
       go_loud (skip
                refine (live_any _).mono ?_
                rintro e w1 ⟨rfl, hb1⟩
                have HM1 := Lib.hid ((Law1.start w 25 #[.slice A n c, .slice B m d]).up hb1)
                have a0 := HM1.out.1.cell 0 (v := .slice A n c) rfl; have a1 := HM1.out.1.cell 1 (v := .slice B m d) rfl
                clear hb1))
    | (go_at_call 10
       go_loud (skip
                refine (few_any _ x A n c B m d (HS.out.at_.below HM1.out.2.1 HM1.out.2.1.size) HS.out.n64).mono ?_
                rintro e w2 ⟨⟨few, rfl⟩, hb2⟩
                have HM2 := Lib.hid (HM1.out.up hb2)
                clear a0 a1
                have a0 := HM2.out.1.cell 0 (v := .slice A n c) rfl; have a1 := HM2.out.1.cell 1 (v := .slice B m d) rfl
                clear hb2 HM1))
    )
  all_goals try (go_ret; exact ⟨rfl, HM2.out.2.1⟩)
  have hk3 : k ≤ 300 := by omega
  have hk4 : k2 ≤ 300 := by omega
  go_upto_region 6 with (go_at_call 11
                         go_loud (skip
                                  refine (send_any w2 x A n c B m d now fr tgt body T k kc (HS.out.at_.below HM2.out.2.1 HM2.out.2.1.size) HS.out.fit HS.out.md HS.out.dm HT.out.1 (HT.out.2.1.below HM2.out.2.1 HM2.out.2.1.size) (by omega) HW.out.1 HW.out.2).mono ?_
                                  rintro e w3 ⟨A1, n1, c1, B1, m1, d1, rfl, hnt, hc1, hcm1, hmd1, hdm1, hb3⟩
                                  have hn1z := maxLen_le (Nat.le_trans hc1 hcm1); have hm1z := maxLen_le (Nat.le_trans hmd1 hdm1)
                                  have HM3 := Lib.hid (HM2.out.up hb3)
                                  have zw3 := HM3.out.2.2
                                  clear a0 a1
                                  have H3 := Lib.hid hnt
                                  clear hnt hb3))
  have HM4 := Lib.hid (HM3.out.alloc (.cells #[.slice A1 n1 c1, .slice B1 m1 d1] 25))
  have H4 := Lib.hid (And.intro (Blk.new w3 25 #[.slice A1 n1 c1, .slice B1 m1 d1] (g := w3.heap.size) rfl) (And.intro ((H3.out.list.more (fun b hb => hb.2)).up1 (.cells #[.slice A1 n1 c1, .slice B1 m1 d1] 25)) ((H3.out.fates.more (fun b hb => hb.2)).up1 (.cells #[.slice A1 n1 c1, .slice B1 m1 d1] 25))))
  generalize (w3.alloc (.cells #[.slice A1 n1 c1, .slice B1 m1 d1] 25)) = w4 at *
  have a0 := HM4.out.1.cell 0 (v := .slice A n c) rfl; have a1 := HM4.out.1.cell 1 (v := .slice B m d) rfl
  go_upto_region 7 with (go_at_call 11
                         go_loud (skip
                                  refine (send_any w4 x A n c B m d now tgt fr body2 U k2 kc2 (HS.out.at_.below HM4.out.2.1 HM4.out.2.1.size) HS.out.fit HS.out.md HS.out.dm HT.out.2.2.1 (HT.out.2.2.2.below HM4.out.2.1 HM4.out.2.1.size) (by omega) HW.out.2 HW.out.1).mono ?_
                                  rintro e w5 ⟨A2, n2, c2, B2, m2, d2, rfl, hnt, hc2, hcm2, hmd2, hdm2, hb5⟩
                                  obtain rfl : n1 = n2 := by rw [← H3.out.listN, ← hnt.listN]; have h9 := congrArg List.length HP.out.1; simpa using h9
                                  obtain rfl : m1 = m2 := by rw [← H3.out.fatesN, ← hnt.fatesN, HP.out.2]
                                  have HM5 := Lib.hid (HM4.out.up hb5)
                                  have zw5 := HM5.out.2.2
                                  clear a0 a1
                                  have H5 := Lib.hid (And.intro hnt (And.intro (H4.out.1.below hb5 H4.out.1.lt) (And.intro (H4.out.2.1.below hb5 hb5.size) (H4.out.2.2.below hb5 hb5.size))))
                                  have z5 := H4.out.1.lt
                                  have z6 := hb5.size
                                  clear hnt hb5))
  have HM6 := Lib.hid (HM5.out.alloc (.cells #[.slice A2 n1 c2, .slice B2 m1 d2] 25))
  have H6 := Lib.hid (And.intro (Blk.new w5 25 #[.slice A2 n1 c2, .slice B2 m1 d2] (g := w5.heap.size) rfl) (And.intro ((H5.out.1.list.more (fun b hb => hb.2)).up1 (.cells #[.slice A2 n1 c2, .slice B2 m1 d2] 25)) (And.intro ((H5.out.1.fates.more (fun b hb => hb.2)).up1 (.cells #[.slice A2 n1 c2, .slice B2 m1 d2] 25)) (And.intro (H5.out.2.1.alloc (.cells #[.slice A2 n1 c2, .slice B2 m1 d2] 25)) (And.intro (H5.out.2.2.1.up1 (.cells #[.slice A2 n1 c2, .slice B2 m1 d2] 25)) (H5.out.2.2.2.up1 (.cells #[.slice A2 n1 c2, .slice B2 m1 d2] 25)))))))
  generalize (w5.alloc (.cells #[.slice A2 n1 c2, .slice B2 m1 d2] 25)) = w6 at *
  have e0 := H6.out.2.2.2.1.cell 0 (v := .slice A1 n1 c1) rfl; have e1 := H6.out.2.2.2.1.cell 1 (v := .slice B1 m1 d1) rfl
  have f0 := H6.out.1.cell 0 (v := .slice A2 n1 c2) rfl; have f1 := H6.out.1.cell 1 (v := .slice B2 m1 d2) rfl
  go_upto_block 0 with (go_at_call 18
                        go_loud (skip
                                 refine (sameInts_any B1 _ m1 d1 H3.out.fatesN B2 _ m1 d2 H5.out.1.fatesN w6 H6.out.2.2.2.2.2 H6.out.2.2.1 hm1z).mono ?_
                                 rintro e w7 ⟨rfl, hb7⟩
                                 rw [decide_eq_true HP.out.2]
                                 have HM7 := Lib.hid (HM6.out.up hb7)
                                 have H7 := Lib.hid (And.intro (H6.out.1.below hb7 H6.out.1.lt) (And.intro (H6.out.2.1.below hb7 hb7.size) (And.intro (H6.out.2.2.2.1.below hb7 H6.out.2.2.2.1.lt) (H6.out.2.2.2.2.1.below hb7 hb7.size))))
                                 clear e0 e1 f0 f1
                                 have e0 := H7.out.2.2.1.cell 0 (v := .slice A1 n1 c1) rfl
                                 clear hb7))
  refine blind_loop w7 w3.heap.size w5.heap.size A1 A2 n1 c1 c2 _ _ _ _ H7.out.2.2.1 H7.out.1 H3.out.listN H5.out.1.listN H7.out.2.2.2 H7.out.2.1 hn1z HP.out.1 ?_
  intro d12 d15 d62 d63 d64 d65 d66 d67 d68 d69 d70 d71 d72 d73 d74 d75 d76 d77 w8 hb8
  have HM8 := Lib.hid (HM7.out.up hb8)
  clear hb8
  go_wp2
  go_ret
  exact ⟨rfl, HM8.out.2.1⟩
end Go.Proofs.Ytponbodiibkopaa
