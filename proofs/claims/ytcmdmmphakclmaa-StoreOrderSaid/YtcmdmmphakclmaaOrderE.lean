/-
  StoreOrder: a letter's round, walked.
-/
import Derived.Test.YtcmdmmphakclmaaOrderD
namespace Go.Proofs.Ytcmdmmphakclmaa
open Go.RowKit Go.Sort
set_option linter.unusedVariables false

noncomputable def order_round_code : Code := blockOf Try.f3 1
set_option maxRecDepth 100000 in
set_option maxHeartbeats 4000000 in
theorem order_round {Q : Exit → Act → World → Prop} {s2 s3 s4 s5 s6 s8 s10 s11 s12 s13 s14 s15 s16 s17 s18 s19 s20 s21 s22 s23 s24 s25 s26 s27 s28 s29 s30 s31 s32 s33 s34 s35 s36 s37 s38 s39 s40 s41 s42 s43 s44 s45 s46 s47 s48 s49 s50 s51 s52 s53 s54 s55 s56 s57 s58 s59 s60 s61 s62 s63 s64 s66 s68 s69 s70 s71 s72 s73 s74 s75 s76 s77 s78 s79 s80 s81 s82 s83 s84 s85 s86 s87 s88 s89 s90 s91 s92 s93 s94 s95 s96 s97 s98 s99 s100 s101 s102 s103 s104 s105 s106 s107 s108 s109 s110 s111 s112 s113 s114 s115 s116 s117 s118 s119 s120 s121 s122 s123 s124 s125 s126 s127 s128 s129 s130 s131 s132 s133 s134 s135 s136 s137 s138 s139 s140 s141 s142 s143 s144 s145 s146 s147 s148 s149 s150 s151 s152 s153 s154 s155 s156 s157 s158 s159 s160 s161 s162 s163 s164 s165 s166 s167 s168 s169 s170 s171 s172 s173 s174 s175 s176 s177 s178 s179 s180 s181 s182 s183 s184 s185 s186 s187 s188 s189 s190 s191 s192 s193 s194 s195 s196 s197 s198 s199 s200 s201 s202 s203 s204 s205 s206 s207 s208 s209 s210 s211 s212 s213 s214 s215 s216 s217 s218 s219 s220 s221 s222 s223 : Value} (w0 w : World) (NS NW n : Nat) (sq : Int) (k : Nat) (A B : Option Addr) (cA cB : Nat) (s : St) (vs : List Value) (want : List (List Lt)) (TL : Option Addr) (ql cl : Nat) (ls : List Lt) (x : Lt)
    (hw : OrdW w0 w NS NW n sq (400 + 56 * k) k A B cA cB s vs want) (hls : Sl Rlt w0 (lo w0.heap.size) TL ls) (hql : ls.length = ql) (hkq : k < ql) (hq60 : ql ≤ 60) (hx : ls[k]? = some x) (h1 : 1 ≤ n) (h8 : n ≤ 8) (hsq : 1 ≤ sq) (hsq2 : sq < 18446744073709551616)
    (hK : ∀ (d6 d11 d12 d13 d14 d15 d69 d70 d71 d72 d73 d74 d75 d76 d77 d78 d79 d80 d81 d82 d83 d84 d85 d86 d87 d88 d89 d90 d91 d92 d93 d94 d95 d96 d97 d98 d99 d100 d101 d102 d103 d104 d105 d106 d107 d108 d109 d110 d111 d112 d113 d114 d115 d116 d117 d118 d119 d120 d121 d122 d123 d124 d125 d126 d127 d128 d129 d130 d131 d132 d133 d134 d135 d136 d137 d138 d139 d140 d141 d142 d143 d144 d145 d146 d147 d148 d149 d150 d151 d152 d153 d154 d155 d156 d157 d158 d159 : Value) (w' : World) A' B' cA' cB' s' vs' want', OrdW w0 w' NS NW n sq (400 + 56 * (k + 1)) (k + 1) A' B' cA' cB' s' vs' want' → Q .normal ⟨#[.int .i64 n, .int .u64 sq, s2, s3, s4, s5, d6, .pointer (some ⟨NS, 0, none⟩), s8, .slice (some ⟨NW, 0, none⟩) n n, s10, d11, d12, d13, d14, d15, s16, s17, s18, s19, s20, s21, s22, s23, s24, s25, s26, s27, s28, s29, s30, s31, s32, s33, s34, s35, s36, s37, s38, s39, s40, s41, s42, s43, s44, s45, s46, s47, s48, s49, s50, s51, s52, s53, s54, s55, s56, s57, s58, s59, s60, s61, s62, s63, s64, .slice TL ql cl, s66, .int .i64 k, s68, d69, d70, d71, d72, d73, d74, d75, d76, d77, d78, d79, d80, d81, d82, d83, d84, d85, d86, d87, d88, d89, d90, d91, d92, d93, d94, d95, d96, d97, d98, d99, d100, d101, d102, d103, d104, d105, d106, d107, d108, d109, d110, d111, d112, d113, d114, d115, d116, d117, d118, d119, d120, d121, d122, d123, d124, d125, d126, d127, d128, d129, d130, d131, d132, d133, d134, d135, d136, d137, d138, d139, d140, d141, d142, d143, d144, d145, d146, d147, d148, d149, d150, d151, d152, d153, d154, d155, d156, d157, d158, d159, s160, s161, s162, s163, s164, s165, s166, s167, s168, s169, s170, s171, s172, s173, s174, s175, s176, s177, s178, s179, s180, s181, s182, s183, s184, s185, s186, s187, s188, s189, s190, s191, s192, s193, s194, s195, s196, s197, s198, s199, s200, s201, s202, s203, s204, s205, s206, s207, s208, s209, s210, s211, s212, s213, s214, s215, s216, s217, s218, s219, s220, s221, s222, s223], []⟩ w')
    (hR : ∀ (d11 d12 d13 d14 d15 d69 d70 d71 d72 d73 d74 d75 d76 d77 d78 d79 d80 d81 d82 d83 d84 d85 d86 d87 d88 d89 d90 d91 d92 d93 d94 d95 d96 d97 d98 d99 d100 d101 d102 d103 d104 d105 d106 d107 d108 d109 d110 d111 d112 d113 d114 d115 d116 d117 d118 d119 d120 d121 d122 d123 d124 d125 d126 d127 d128 d129 d130 d131 d132 d133 d134 d135 d136 d137 d138 d139 d140 d141 d142 d143 d144 d145 d146 d147 d148 d149 d150 d151 d152 d153 d154 d155 d156 d157 d158 d159 : Value) (w' : World), Below w0.heap.size w0 w' → Q .ret ⟨#[.int .i64 n, .int .u64 sq, s2, s3, s4, s5, .bool true, .pointer (some ⟨NS, 0, none⟩), s8, .slice (some ⟨NW, 0, none⟩) n n, s10, d11, d12, d13, d14, d15, s16, s17, s18, s19, s20, s21, s22, s23, s24, s25, s26, s27, s28, s29, s30, s31, s32, s33, s34, s35, s36, s37, s38, s39, s40, s41, s42, s43, s44, s45, s46, s47, s48, s49, s50, s51, s52, s53, s54, s55, s56, s57, s58, s59, s60, s61, s62, s63, s64, .slice TL ql cl, s66, .int .i64 k, s68, d69, d70, d71, d72, d73, d74, d75, d76, d77, d78, d79, d80, d81, d82, d83, d84, d85, d86, d87, d88, d89, d90, d91, d92, d93, d94, d95, d96, d97, d98, d99, d100, d101, d102, d103, d104, d105, d106, d107, d108, d109, d110, d111, d112, d113, d114, d115, d116, d117, d118, d119, d120, d121, d122, d123, d124, d125, d126, d127, d128, d129, d130, d131, d132, d133, d134, d135, d136, d137, d138, d139, d140, d141, d142, d143, d144, d145, d146, d147, d148, d149, d150, d151, d152, d153, d154, d155, d156, d157, d158, d159, s160, s161, s162, s163, s164, s165, s166, s167, s168, s169, s170, s171, s172, s173, s174, s175, s176, s177, s178, s179, s180, s181, s182, s183, s184, s185, s186, s187, s188, s189, s190, s191, s192, s193, s194, s195, s196, s197, s198, s199, s200, s201, s202, s203, s204, s205, s206, s207, s208, s209, s210, s211, s212, s213, s214, s215, s216, s217, s218, s219, s220, s221, s222, s223], []⟩ w') :
    Code.wp Try.prog order_round_code Q ⟨#[.int .i64 n, .int .u64 sq, s2, s3, s4, s5, s6, .pointer (some ⟨NS, 0, none⟩), s8, .slice (some ⟨NW, 0, none⟩) n n, s10, s11, s12, s13, s14, s15, s16, s17, s18, s19, s20, s21, s22, s23, s24, s25, s26, s27, s28, s29, s30, s31, s32, s33, s34, s35, s36, s37, s38, s39, s40, s41, s42, s43, s44, s45, s46, s47, s48, s49, s50, s51, s52, s53, s54, s55, s56, s57, s58, s59, s60, s61, s62, s63, s64, .slice TL ql cl, s66, .int .i64 k, s68, s69, s70, s71, s72, s73, s74, s75, s76, s77, s78, s79, s80, s81, s82, s83, s84, s85, s86, s87, s88, s89, s90, s91, s92, s93, s94, s95, s96, s97, s98, s99, s100, s101, s102, s103, s104, s105, s106, s107, s108, s109, s110, s111, s112, s113, s114, s115, s116, s117, s118, s119, s120, s121, s122, s123, s124, s125, s126, s127, s128, s129, s130, s131, s132, s133, s134, s135, s136, s137, s138, s139, s140, s141, s142, s143, s144, s145, s146, s147, s148, s149, s150, s151, s152, s153, s154, s155, s156, s157, s158, s159, s160, s161, s162, s163, s164, s165, s166, s167, s168, s169, s170, s171, s172, s173, s174, s175, s176, s177, s178, s179, s180, s181, s182, s183, s184, s185, s186, s187, s188, s189, s190, s191, s192, s193, s194, s195, s196, s197, s198, s199, s200, s201, s202, s203, s204, s205, s206, s207, s208, s209, s210, s211, s212, s213, s214, s215, s216, s217, s218, s219, s220, s221, s222, s223], []⟩ w := by
  have HK := Lib.hid hK; have HR := Lib.hid hR; clear hK hR
  obtain ⟨b', off', T, tn, tc, rfl, hlx, w1', w2', w3', htn, htl, htm, hts, l0, l1, l2, l3, l4⟩ := hls.letter hx
  have y0 := (hw.bel.cell (p := ⟨b', off' + k * 5, none⟩) hlx).trans l0; have y1 := (hw.bel.cell (p := ⟨b', off' + k * 5 + 1, none⟩) hlx).trans l1; have y2 := (hw.bel.cell (p := ⟨b', off' + k * 5 + 2, none⟩) hlx).trans l2; have y3 := (hw.bel.cell (p := ⟨b', off' + k * 5 + 3, none⟩) hlx).trans l3; have y4 := (hw.bel.cell (p := ⟨b', off' + k * 5 + 4, none⟩) hlx).trans l4
  have hxb := bounds_u64 w3'
  have HLB := Lib.hid (show LtAt w (lo w0.heap.size) T tn tc x from ⟨w1', w2', w3', htn, htl, htm, hts.keep (fun p hp => hw.bel.cell hp) (fun _ h => h)⟩)
  have hb0 := hw.bel.size
  have HLX := Lib.hid (show LtAt w (lo w.heap.size) T tn tc x from ⟨w1', w2', w3', htn, htl, htm, (HLB.out.text).more fun b hb => Nat.lt_of_lt_of_le hb hb0⟩)
  have HLX0 := Lib.hid hxb
  have HTN := Lib.hid htn
  obtain ⟨s', c, e1, e2, e3, e4⟩ := ord_step hw.inv x
  have HS := Lib.hid (show StAt w (lo w.heap.size) A n B n s from hw.st.keep' (fun _ _ => rfl) (fun b hb => hb.1))
  have HP := Lib.hid (And.intro e1 (And.intro e2 (And.intro e3 e4)))
  have a0 := hw.a0; have a1 := hw.a1
  have lS := hw.lS
  have HW := Lib.hid hw
  clear hw hls hql hx l0 l1 l2 l3 l4 w1' w2' w3' htn htl htm hts e1 e2 e3 e4 hlx
  conv => arg 2; whnf
  by_cases h300 : tn ≤ 300
  rotate_left
  · have hgt : decide ((300 : Int) < (tn : Int)) = true := decide_eq_true (by omega)
    clear HP
    go_wp2
    exact HR.out _ _ _ _ _ _ _ _ _ _ _ _ _ _ _ _ _ _ _ _ _ _ _ _ _ _ _ _ _ _ _ _ _ _ _ _ _ _ _ _ _ _ _ _ _ _ _ _ _ _ _ _ _ _ _ _ _ _ _ _ _ _ _ _ _ _ _ _ _ _ _ _ _ _ _ _ _ _ _ _ _ _ _ _ _ _ _ _ _ _ _ _ _ _ _ _ _ (HW.out.bel.alloc hb0 _)
  · have HF := Lib.hid (show StFit (400 + 56 * (k + 1)) s' from by have h9 := HW.out.fit.putR (l := x) (by rw [HTN.out]; omega); rw [HP.out.1] at h9; exact h9.mono (by omega))
    have hlt300 : decide ((300 : Int) < (tn : Int)) = false := decide_eq_false (by omega)
    go_upto_region 19 with (go_at_call 11
                            go_loud (skip
                                     refine (put_any A n cA B n cB s x T tn tc _ (HS.out.below ((Below.refl _ _).alloc (Nat.le_refl _) _) (by simp)) (HW.out.fit.mono (by omega)) (HLX.out.below ((Below.refl _ _).alloc (Nat.le_refl _) _) (by simp))).mono ?_
                                     rw [HP.out.1]
                                     rintro e w2 ⟨A', n', cA', B', m', cB', rfl, hst, _, _, _, _, hb2⟩
                                     obtain rfl : n' = n := by rw [← hst.lastN]; exact HP.out.2.2.2.nL
                                     obtain rfl : m' = n' := by rw [← hst.boxesN, (check_lens HP.out.2.2.2.chk).2.2]; exact HP.out.2.2.2.nL
                                     have gX := (Blk.new w 34 #[.bool x.cover, .int .i64 x.fr, .int .i64 x.to, .int .u64 x.sq, .slice T tn tc] rfl).below hb2 (by simp)
                                     have x0 := gX.cell 0 (v := .bool x.cover) rfl; have x1 := gX.cell 1 (v := .int .i64 x.fr) rfl; have x2 := gX.cell 2 (v := .int .i64 x.to) rfl; have x3 := gX.cell 3 (v := .int .u64 x.sq) rfl; have x4 := gX.cell 4 (v := .slice T tn tc) rfl
                                     have zX := gX.lt
                                     have b02 : RowKit.Below w.heap.size w w2 := ((Below.refl _ _).alloc (Nat.le_refl _) _).trans (hb2.mono (by simp))
                                     have H2 := Lib.hid (And.intro hst b02)
                                     clear hst hb2 gX b02 a0 a1 y0 y1 y2 y3 y4))
    obtain ⟨w3, hw3⟩ : ∃ w3, w2.alloc (.cells #[.slice A' m' cA', .slice B' m' cB'] 28) = w3 := ⟨_, rfl⟩
    have gT := Blk.new w2 28 #[.slice A' m' cA', .slice B' m' cB'] (g := w2.heap.size) rfl
    have b23 : RowKit.Below w2.heap.size w2 (w2.alloc (.cells #[.slice A' m' cA', .slice B' m' cB'] 28)) := (Below.refl _ _).alloc (Nat.le_refl _) _
    have z23 : (w2.alloc (.cells #[.slice A' m' cA', .slice B' m' cB'] 28)).heap.size = w2.heap.size + 1 := by simp
    rw [hw3] at gT b23 z23 ⊢
    clear hw3
    have c3 : LtCells w3 w.heap.size x T tn tc := ⟨(b23.cell (p := ⟨w.heap.size, 0, none⟩) zX).trans x0, (b23.cell (p := ⟨w.heap.size, 1, none⟩) zX).trans x1, (b23.cell (p := ⟨w.heap.size, 2, none⟩) zX).trans x2, (b23.cell (p := ⟨w.heap.size, 3, none⟩) zX).trans x3, (b23.cell (p := ⟨w.heap.size, 4, none⟩) zX).trans x4⟩
    clear x0 x1 x2 x3 x4
    have H3 := Lib.hid (And.intro c3 (And.intro gT (H2.out.2.trans (b23.mono H2.out.2.size))))
    have H3s := Lib.hid (H2.out.1.keep' (w' := w3) (S' := mid (w.heap.size + 1) w2.heap.size) (fun p hp => b23.cell hp.2) (fun b hb => ⟨by have := hb.1; simp at this; exact this, hb.2⟩))
    have zX3 : w.heap.size < w3.heap.size := by omega
    clear c3 gT b23 H2
    refine order_r19 w3 m' w.heap.size x T tn tc H3.out.1 zX3 HLX0.out.1 HLX.out.len ?_
    intro d98 d99 d100 d101 d102 d103 d104 d105 d106 d107 d108 d109 d110 d111 d112 d113 d114 d115 d116 d117 w4 hb4
    have H4 := Lib.hid (And.intro (show RowKit.Below w.heap.size w w4 from H3.out.2.2.trans (hb4.mono (by omega))) (And.intro (H3.out.2.1.below hb4 (by omega)) (H3s.out.keep' (w' := w4) (S' := mid (w.heap.size + 1) w2.heap.size) (fun p hp => hb4.cell (by have : p.block < w2.heap.size := hp.2; omega)) (fun _ h => h))))
    have HC4 := Lib.hid (show LtCells w4 w.heap.size x T tn tc from ⟨(hb4.cell (p := ⟨w.heap.size, 0, none⟩) zX3).trans H3.out.1.1, (hb4.cell (p := ⟨w.heap.size, 1, none⟩) zX3).trans H3.out.1.2.1, (hb4.cell (p := ⟨w.heap.size, 2, none⟩) zX3).trans H3.out.1.2.2.1, (hb4.cell (p := ⟨w.heap.size, 3, none⟩) zX3).trans H3.out.1.2.2.2.1, (hb4.cell (p := ⟨w.heap.size, 4, none⟩) zX3).trans H3.out.1.2.2.2.2⟩)
    have z34 := hb4.size
    clear hb4 H3 H3s
    by_cases hi : ordIs m' x = true
    rotate_left
    · have hi' : ordIs m' x = false := by simpa using hi
      have HY := Lib.hid (show ordYes m' sq want x = false by unfold ordYes; rw [hi']; rfl)
      obtain rfl : c = 0 := HP.out.2.2.1 hi'
      rw [hi']
      clear hi hi'
      go_upto_region 20 with fail
      refine order_r20_no w4 ?_
      intro d118 d119 d120 d121 d122 d123 d124 d125 d126 d127 d128 d129 d130 d131 d132 d133 d134 d135 d136 d137 w5 hb5
      have zT5 : w2.heap.size < w5.heap.size := by (have := hb5.size; omega)
      have H5 := Lib.hid (And.intro (show RowKit.Below w.heap.size w w5 from H4.out.1.trans (hb5.mono (by omega))) (And.intro (H4.out.2.1.below hb5 (by omega)) (H4.out.2.2.keep' (w' := w5) (S' := mid (w.heap.size + 1) w2.heap.size) (fun p hp => hb5.cell (by have : p.block < w2.heap.size := hp.2; omega)) (fun _ h => h))))
      clear hb5
      have t0 := H5.out.2.1.cell 0 (v := .slice A' m' cA') rfl; have t1 := H5.out.2.1.cell 1 (v := .slice B' m' cB') rfl
      have HW5 := Lib.hid (HW.out.keep H5.out.1)
      have a0 := HW5.out.a0; have a1 := HW5.out.a1; have fS := HW5.out.fS
      have lS5 := HW5.out.lS
      go_wp2
      have hn : ordNext m' sq want x = want := by unfold ordNext; rw [HY.out]; rfl
      exact HK.out _ _ _ _ _ _ _ _ _ _ _ _ _ _ _ _ _ _ _ _ _ _ _ _ _ _ _ _ _ _ _ _ _ _ _ _ _ _ _ _ _ _ _ _ _ _ _ _ _ _ _ _ _ _ _ _ _ _ _ _ _ _ _ _ _ _ _ _ _ _ _ _ _ _ _ _ _ _ _ _ _ _ _ _ _ _ _ _ _ _ _ _ _ _ _ _ _ _ _ _ _ _ _ _ _ (HW5.out.fin H5.out.2.2 (by have := HW.out.lS; omega) (by have := HW.out.hw.lt; omega) (by omega) (fun f v g hv hg => by have := (HW.out.hw.own_lt hv hg).2; omega) HW5.out.hw (fun _ _ _ _ => rfl) (Nat.le_refl _) (fun _ _ h => h) (Below.refl _ _) HF.out (by have h9 := HP.out.2.2.2; rw [hn] at h9; exact h9) (fun xs hxs => by have := HW.out.len xs hxs; omega))
    · have hii := hi
      unfold ordIs at hii
      simp only [Bool.and_eq_true, decide_eq_true_eq] at hii
      obtain ⟨hkk, hf, ht⟩ := hii
      obtain ⟨_, f0, _, t0, _⟩ := keep_bounds hkk
      obtain ⟨f, hff⟩ : ∃ f : Nat, x.fr = f := ⟨x.fr.toNat, by omega⟩
      have hfn : f < m' := by omega
      have HW4 := Lib.hid (HW.out.keep H4.out.1)
      have hw1 := List.getElem?_eq_getElem (l := want) (i := f) (by rw [HW.out.hw.nW]; exact hfn)
      generalize want[f]'(by rw [HW.out.hw.nW]; exact hfn) = xs at hw1
      have hv1 := List.getElem?_eq_getElem (l := vs) (i := f) (by rw [HW.out.hw.nV]; exact hfn)
      generalize vs[f]'(by rw [HW.out.hw.nV]; exact hfn) = v at hv1
      have hx1 := List.getElem?_eq_getElem (l := s.last) (i := f) (by rw [HW.out.inv.nL]; exact hfn)
      generalize s.last[f]'(by rw [HW.out.inv.nL]; exact hfn) = z at hx1
      obtain ⟨_, _, _, _, hzw, _⟩ := HW.out.st.last.int hx1
      have hzb := bounds_u64 hzw
      have hze := HW.out.inv.last f z xs hx1 hw1
      obtain ⟨vA, vc, hvA⟩ := (HW4.out.hw.own f v xs hv1 hw1).form
      have hvc := HW4.out.hw.cell f v hv1
      have hxk : xs.length ≤ k := HW.out.len _ (List.mem_of_getElem? hw1)
      have hwo : wantOf want x.fr = xs := by unfold wantOf; rw [hff, Int.toNat_natCast, List.getD_eq_getElem?_getD, hw1]; rfl
      have HYD := Lib.hid (show ordYes m' sq want x = decide (x.sq = sq + (xs.length : Int)) by unfold ordYes; rw [hi, hwo, Bool.true_and])
      have HV := Lib.hid (And.intro hv1 (And.intro hw1 (And.intro hff hwo)))
      rw [hvA] at hvc
      rw [hi]
      clear hi hkk hf ht f0 t0 hw1 hv1 hx1 hzw hff hwo
      go_upto_region 20 with fail
      refine order_r20 w4 m' w.heap.size NW f xs.length vc x sq T vA tn tc HC4.out HV.out.2.2.1 hfn h8 hvc hsq hsq2 (by omega) (by omega) HLX0.out.1 (by have := HLX0.out.2; omega) ?_
      intro d118 d119 d120 d121 d122 d123 d124 d125 d126 d127 d128 d129 d130 d131 d132 d133 d134 d135 d136 d137 w5 hb5
      have zT5 : w2.heap.size < w5.heap.size := by (have := hb5.size; omega)
      have H5 := Lib.hid (And.intro (show RowKit.Below w.heap.size w w5 from H4.out.1.trans (hb5.mono (by omega))) (And.intro (H4.out.2.1.below hb5 (by omega)) (H4.out.2.2.keep' (w' := w5) (S' := mid (w.heap.size + 1) w2.heap.size) (fun p hp => hb5.cell (by have : p.block < w2.heap.size := hp.2; omega)) (fun _ h => h))))
      have HC5 := Lib.hid (show LtCells w5 w.heap.size x T tn tc from ⟨(hb5.cell (p := ⟨w.heap.size, 0, none⟩) (by show w.heap.size < _; omega)).trans HC4.out.1, (hb5.cell (p := ⟨w.heap.size, 1, none⟩) (by show w.heap.size < _; omega)).trans HC4.out.2.1, (hb5.cell (p := ⟨w.heap.size, 2, none⟩) (by show w.heap.size < _; omega)).trans HC4.out.2.2.1, (hb5.cell (p := ⟨w.heap.size, 3, none⟩) (by show w.heap.size < _; omega)).trans HC4.out.2.2.2.1, (hb5.cell (p := ⟨w.heap.size, 4, none⟩) (by show w.heap.size < _; omega)).trans HC4.out.2.2.2.2⟩)
      have z45 := hb5.size
      clear hb5 hvc
      by_cases hy : x.sq = sq + (xs.length : Int)
      rotate_left
      · have HY := Lib.hid (show ordYes m' sq want x = false by rw [HYD.out, decide_eq_false hy])
        rw [decide_eq_false hy]
        clear hy hze HYD
        have t0 := H5.out.2.1.cell 0 (v := .slice A' m' cA') rfl; have t1 := H5.out.2.1.cell 1 (v := .slice B' m' cB') rfl
        have HW5 := Lib.hid (HW.out.keep H5.out.1)
        have a0 := HW5.out.a0; have a1 := HW5.out.a1; have fS := HW5.out.fS
        have lS5 := HW5.out.lS
        go_wp2
        have hn : ordNext m' sq want x = want := by unfold ordNext; rw [HY.out]; rfl
        exact HK.out _ _ _ _ _ _ _ _ _ _ _ _ _ _ _ _ _ _ _ _ _ _ _ _ _ _ _ _ _ _ _ _ _ _ _ _ _ _ _ _ _ _ _ _ _ _ _ _ _ _ _ _ _ _ _ _ _ _ _ _ _ _ _ _ _ _ _ _ _ _ _ _ _ _ _ _ _ _ _ _ _ _ _ _ _ _ _ _ _ _ _ _ _ _ _ _ _ _ _ _ _ _ _ _ _ (HW5.out.fin H5.out.2.2 (by have := HW.out.lS; omega) (by have := HW.out.hw.lt; omega) (by omega) (fun f v g hv hg => by have := (HW.out.hw.own_lt hv hg).2; omega) HW5.out.hw (fun _ _ _ _ => rfl) (Nat.le_refl _) (fun _ _ h => h) (Below.refl _ _) HF.out (by have h9 := HP.out.2.2.2; rw [hn] at h9; exact h9) (fun xs hxs => by have := HW.out.len xs hxs; omega))
      · have HY := Lib.hid (show ordYes m' sq want x = true by rw [HYD.out, decide_eq_true hy])
        obtain rfl : c = 1 := HP.out.2.1 HY.out
        rw [decide_eq_true hy]
        clear hy hze HYD
        have HW5 := Lib.hid (HW.out.keep H5.out.1)
        have HLB5 := Lib.hid (show LtAt w5 (lo w0.heap.size) T tn tc x from ⟨HLB.out.fr, HLB.out.to_, HLB.out.sq, HLB.out.len, HLB.out.le, HLB.out.cap, HLB.out.text.keep (fun p hp => H5.out.1.cell (Nat.lt_of_lt_of_le hp hb0)) (fun _ h => h)⟩)
        have hNWl := HW.out.hw.lt
        go_upto_region 21 with fail
        refine order_r21 w5 w0.heap.size m' w.heap.size NW f x T tn tc vs want v xs HC5.out (by omega) (by omega) (fun f' v' hv' e => by have := (HW.out.hw.own_lt hv' e).2; omega) HV.out.2.2.1 hfn h8 HW5.out.hw HV.out.1 HV.out.2.1 (by omega) HLB5.out ?_
        intro d139 d140 d141 d142 d143 d144 d145 d146 d147 d148 d149 d150 w6 v1 hw6 hsame hz6 hor hbel6
        have hN6 := hsame w2.heap.size zT5 (by omega) (fun f' v' hv' e => by have := (HW.out.hw.own_lt hv' e).2; omega)
        have hS6 := hsame NS HW5.out.lS HW5.out.neq HW5.out.noS
        have t0 := (World.cell?_of_block (a := ⟨w2.heap.size, 0, none⟩) hN6).trans (H5.out.2.1.cell 0 (v := .slice A' m' cA') rfl)
        have t1 := (World.cell?_of_block (a := ⟨w2.heap.size, 1, none⟩) hN6).trans (H5.out.2.1.cell 1 (v := .slice B' m' cB') rfl)
        have a0 := (World.cell?_of_block (a := ⟨NS, 0, none⟩) hS6).trans HW5.out.a0
        have a1 := (World.cell?_of_block (a := ⟨NS, 1, none⟩) hS6).trans HW5.out.a1
        have fS : ∀ o, w6.frozen? ⟨NS, o, none⟩ = false := fun o => by (have h9 := HW5.out.fS o; unfold World.frozen? at h9 ⊢; rw [hS6]; exact h9)
        have lS6 : NS < w6.heap.size := by (have := HW5.out.lS; omega)
        have zT6 : w2.heap.size < w6.heap.size := by omega
        have H6 := Lib.hid (And.intro hw6 (And.intro hsame (And.intro hor hbel6)))
        clear hw6 hsame hor hbel6 hN6 hS6
        go_wp2
        have hn : ordNext m' sq want x = want.set f (xs ++ [x]) := by unfold ordNext; rw [HY.out, if_pos rfl, HV.out.2.2.2, HV.out.2.2.1, Int.toNat_natCast]
        exact HK.out _ _ _ _ _ _ _ _ _ _ _ _ _ _ _ _ _ _ _ _ _ _ _ _ _ _ _ _ _ _ _ _ _ _ _ _ _ _ _ _ _ _ _ _ _ _ _ _ _ _ _ _ _ _ _ _ _ _ _ _ _ _ _ _ _ _ _ _ _ _ _ _ _ _ _ _ _ _ _ _ _ _ _ _ _ _ _ _ _ _ _ _ _ _ _ _ _ _ _ _ _ _ _ _ _ (HW5.out.fin H5.out.2.2 (by have := HW.out.lS; omega) (by omega) (by omega) (fun f v g hv hg => by have := (HW.out.hw.own_lt hv hg).2; omega) H6.out.1 H6.out.2.1 hz6 (fun b hb hno => hno.set HV.out.1 H6.out.2.2.1 hb) H6.out.2.2.2 HF.out (by have h9 := HP.out.2.2.2; rw [hn] at h9; exact h9) (by have h9 := ordNext_len (n := m') (sq := sq) (x := x) HW.out.len; rw [hn] at h9; exact h9))
end Go.Proofs.Ytcmdmmphakclmaa
