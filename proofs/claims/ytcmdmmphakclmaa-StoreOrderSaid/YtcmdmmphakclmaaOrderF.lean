/-
  StoreOrder: the loop over the letters, the whole walk.
-/
import Derived.Test.YtcmdmmphakclmaaOrderA
import Derived.Test.YtcmdmmphakclmaaOrderE
namespace Go.Proofs.Ytcmdmmphakclmaa
open Go.ChangeShapes Go.WideShapes Go.ChangeAt Go.RowKit Go.Sort
set_option linter.unusedVariables false

def OrdR (w0 wr : World) (NS NW n : Nat) (sq : Int) (k : Nat) : Prop := ∃ A B cA cB s vs want, OrdW w0 wr NS NW n sq (400 + 56 * k) k A B cA cB s vs want
noncomputable def order_loop_code : Code := blockOf Try.f3 0
set_option maxRecDepth 100000 in
set_option maxHeartbeats 4000000 in
theorem order_loop {Q : Exit → Act → World → Prop} {s2 s3 s4 s5 s6 s8 s10 s11 s12 s13 s14 s15 s16 s17 s18 s19 s20 s21 s22 s23 s24 s25 s26 s27 s28 s29 s30 s31 s32 s33 s34 s35 s36 s37 s38 s39 s40 s41 s42 s43 s44 s45 s46 s47 s48 s49 s50 s51 s52 s53 s54 s55 s56 s57 s58 s59 s60 s61 s62 s63 s64 s68 s69 s70 s71 s72 s73 s74 s75 s76 s77 s78 s79 s80 s81 s82 s83 s84 s85 s86 s87 s88 s89 s90 s91 s92 s93 s94 s95 s96 s97 s98 s99 s100 s101 s102 s103 s104 s105 s106 s107 s108 s109 s110 s111 s112 s113 s114 s115 s116 s117 s118 s119 s120 s121 s122 s123 s124 s125 s126 s127 s128 s129 s130 s131 s132 s133 s134 s135 s136 s137 s138 s139 s140 s141 s142 s143 s144 s145 s146 s147 s148 s149 s150 s151 s152 s153 s154 s155 s156 s157 s158 s159 s160 s161 s162 s163 s164 s165 s166 s167 s168 s169 s170 s171 s172 s173 s174 s175 s176 s177 s178 s179 s180 s181 s182 s183 s184 s185 s186 s187 s188 s189 s190 s191 s192 s193 s194 s195 s196 s197 s198 s199 s200 s201 s202 s203 s204 s205 s206 s207 s208 s209 s210 s211 s212 s213 s214 s215 s216 s217 s218 s219 s220 s221 s222 s223 : Value} (w0 w : World) (NS NW n : Nat) (sq : Int) (TL : Option Addr) (ql cl : Nat) (ls : List Lt)
    (hw : OrdR w0 w NS NW n sq 0) (hls : Sl Rlt w0 (lo w0.heap.size) TL ls) (hql : ls.length = ql) (hq60 : ql ≤ 60) (h1 : 1 ≤ n) (h8 : n ≤ 8) (hsq : 1 ≤ sq) (hsq2 : sq < 18446744073709551616)
    (hK : ∀ (d6 d11 d12 d13 d14 d15 d67 d68 d69 d70 d71 d72 d73 d74 d75 d76 d77 d78 d79 d80 d81 d82 d83 d84 d85 d86 d87 d88 d89 d90 d91 d92 d93 d94 d95 d96 d97 d98 d99 d100 d101 d102 d103 d104 d105 d106 d107 d108 d109 d110 d111 d112 d113 d114 d115 d116 d117 d118 d119 d120 d121 d122 d123 d124 d125 d126 d127 d128 d129 d130 d131 d132 d133 d134 d135 d136 d137 d138 d139 d140 d141 d142 d143 d144 d145 d146 d147 d148 d149 d150 d151 d152 d153 d154 d155 d156 d157 d158 d159 d160 : Value) (w' : World), OrdR w0 w' NS NW n sq ql → Q .normal ⟨#[.int .i64 n, .int .u64 sq, s2, s3, s4, s5, d6, .pointer (some ⟨NS, 0, none⟩), s8, .slice (some ⟨NW, 0, none⟩) n n, s10, d11, d12, d13, d14, d15, s16, s17, s18, s19, s20, s21, s22, s23, s24, s25, s26, s27, s28, s29, s30, s31, s32, s33, s34, s35, s36, s37, s38, s39, s40, s41, s42, s43, s44, s45, s46, s47, s48, s49, s50, s51, s52, s53, s54, s55, s56, s57, s58, s59, s60, s61, s62, s63, s64, .slice TL ql cl, .int .i64 ql, d67, d68, d69, d70, d71, d72, d73, d74, d75, d76, d77, d78, d79, d80, d81, d82, d83, d84, d85, d86, d87, d88, d89, d90, d91, d92, d93, d94, d95, d96, d97, d98, d99, d100, d101, d102, d103, d104, d105, d106, d107, d108, d109, d110, d111, d112, d113, d114, d115, d116, d117, d118, d119, d120, d121, d122, d123, d124, d125, d126, d127, d128, d129, d130, d131, d132, d133, d134, d135, d136, d137, d138, d139, d140, d141, d142, d143, d144, d145, d146, d147, d148, d149, d150, d151, d152, d153, d154, d155, d156, d157, d158, d159, d160, s161, s162, s163, s164, s165, s166, s167, s168, s169, s170, s171, s172, s173, s174, s175, s176, s177, s178, s179, s180, s181, s182, s183, s184, s185, s186, s187, s188, s189, s190, s191, s192, s193, s194, s195, s196, s197, s198, s199, s200, s201, s202, s203, s204, s205, s206, s207, s208, s209, s210, s211, s212, s213, s214, s215, s216, s217, s218, s219, s220, s221, s222, s223], []⟩ w')
    (hR : ∀ (d11 d12 d13 d14 d15 d67 d68 d69 d70 d71 d72 d73 d74 d75 d76 d77 d78 d79 d80 d81 d82 d83 d84 d85 d86 d87 d88 d89 d90 d91 d92 d93 d94 d95 d96 d97 d98 d99 d100 d101 d102 d103 d104 d105 d106 d107 d108 d109 d110 d111 d112 d113 d114 d115 d116 d117 d118 d119 d120 d121 d122 d123 d124 d125 d126 d127 d128 d129 d130 d131 d132 d133 d134 d135 d136 d137 d138 d139 d140 d141 d142 d143 d144 d145 d146 d147 d148 d149 d150 d151 d152 d153 d154 d155 d156 d157 d158 d159 d160 : Value) (w' : World), Below w0.heap.size w0 w' → Q .ret ⟨#[.int .i64 n, .int .u64 sq, s2, s3, s4, s5, .bool true, .pointer (some ⟨NS, 0, none⟩), s8, .slice (some ⟨NW, 0, none⟩) n n, s10, d11, d12, d13, d14, d15, s16, s17, s18, s19, s20, s21, s22, s23, s24, s25, s26, s27, s28, s29, s30, s31, s32, s33, s34, s35, s36, s37, s38, s39, s40, s41, s42, s43, s44, s45, s46, s47, s48, s49, s50, s51, s52, s53, s54, s55, s56, s57, s58, s59, s60, s61, s62, s63, s64, .slice TL ql cl, .int .i64 ql, d67, d68, d69, d70, d71, d72, d73, d74, d75, d76, d77, d78, d79, d80, d81, d82, d83, d84, d85, d86, d87, d88, d89, d90, d91, d92, d93, d94, d95, d96, d97, d98, d99, d100, d101, d102, d103, d104, d105, d106, d107, d108, d109, d110, d111, d112, d113, d114, d115, d116, d117, d118, d119, d120, d121, d122, d123, d124, d125, d126, d127, d128, d129, d130, d131, d132, d133, d134, d135, d136, d137, d138, d139, d140, d141, d142, d143, d144, d145, d146, d147, d148, d149, d150, d151, d152, d153, d154, d155, d156, d157, d158, d159, d160, s161, s162, s163, s164, s165, s166, s167, s168, s169, s170, s171, s172, s173, s174, s175, s176, s177, s178, s179, s180, s181, s182, s183, s184, s185, s186, s187, s188, s189, s190, s191, s192, s193, s194, s195, s196, s197, s198, s199, s200, s201, s202, s203, s204, s205, s206, s207, s208, s209, s210, s211, s212, s213, s214, s215, s216, s217, s218, s219, s220, s221, s222, s223], []⟩ w') :
    Code.wp Try.prog order_loop_code Q ⟨#[.int .i64 n, .int .u64 sq, s2, s3, s4, s5, s6, .pointer (some ⟨NS, 0, none⟩), s8, .slice (some ⟨NW, 0, none⟩) n n, s10, s11, s12, s13, s14, s15, s16, s17, s18, s19, s20, s21, s22, s23, s24, s25, s26, s27, s28, s29, s30, s31, s32, s33, s34, s35, s36, s37, s38, s39, s40, s41, s42, s43, s44, s45, s46, s47, s48, s49, s50, s51, s52, s53, s54, s55, s56, s57, s58, s59, s60, s61, s62, s63, s64, .slice TL ql cl, .int .i64 ql, .int .i64 0, s68, s69, s70, s71, s72, s73, s74, s75, s76, s77, s78, s79, s80, s81, s82, s83, s84, s85, s86, s87, s88, s89, s90, s91, s92, s93, s94, s95, s96, s97, s98, s99, s100, s101, s102, s103, s104, s105, s106, s107, s108, s109, s110, s111, s112, s113, s114, s115, s116, s117, s118, s119, s120, s121, s122, s123, s124, s125, s126, s127, s128, s129, s130, s131, s132, s133, s134, s135, s136, s137, s138, s139, s140, s141, s142, s143, s144, s145, s146, s147, s148, s149, s150, s151, s152, s153, s154, s155, s156, s157, s158, s159, s160, s161, s162, s163, s164, s165, s166, s167, s168, s169, s170, s171, s172, s173, s174, s175, s176, s177, s178, s179, s180, s181, s182, s183, s184, s185, s186, s187, s188, s189, s190, s191, s192, s193, s194, s195, s196, s197, s198, s199, s200, s201, s202, s203, s204, s205, s206, s207, s208, s209, s210, s211, s212, s213, s214, s215, s216, s217, s218, s219, s220, s221, s222, s223], []⟩ w := by
  have HK := Lib.hid hK; have HR := Lib.hid hR; clear hK hR
  have HL := Lib.hid (And.intro hls hql); clear hls hql
  conv => arg 2; whnf
  go_wp2
  go_loopw [67] (fun i wr => ∃ k : Nat, k ≤ ql ∧ i = .int .i64 k ∧ OrdR w0 wr NS NW n sq k) (fun i _ => ql - (intOf i).toNat)
  case atStart => exact ⟨0, Nat.zero_le _, rfl, hw⟩
  case round =>
    clear hw
    obtain ⟨k, hk, rfl, hO⟩ := hrel
    obtain ⟨wr, rfl⟩ : ∃ wx : World, wx = wr := ⟨_, rfl⟩
    by_cases hlt : k < ql
    · obtain ⟨A, B, cA, cB, s, vs, want, hO⟩ := hO
      have hx := List.getElem?_eq_getElem (l := ls) (i := k) (by rw [HL.out.2]; exact hlt)
      have HX := Lib.hid (And.intro hO hx)
      clear hO hx
      go_upto_block 1 with fail
      refine order_round w0 wr NS NW n sq k A B cA cB s vs want TL ql cl ls _ HX.out.1 HL.out.1 HL.out.2 hlt hq60 HX.out.2 h1 h8 hsq hsq2 ?_ ?_
      · intro d6 d11 d12 d13 d14 d15 d69 d70 d71 d72 d73 d74 d75 d76 d77 d78 d79 d80 d81 d82 d83 d84 d85 d86 d87 d88 d89 d90 d91 d92 d93 d94 d95 d96 d97 d98 d99 d100 d101 d102 d103 d104 d105 d106 d107 d108 d109 d110 d111 d112 d113 d114 d115 d116 d117 d118 d119 d120 d121 d122 d123 d124 d125 d126 d127 d128 d129 d130 d131 d132 d133 d134 d135 d136 d137 d138 d139 d140 d141 d142 d143 d144 d145 d146 d147 d148 d149 d150 d151 d152 d153 d154 d155 d156 d157 d158 d159 w1 A' B' cA' cB' s' vs' want' hO'
        have HO := Lib.hid hO'; clear hO'
        go_wp2
        go_roundw
        case measure => simp [intOf]; omega
        case rel => exact ⟨k + 1, by omega, by go_num, ⟨_, _, _, _, _, _, _, HO.out⟩⟩
      · intro d11 d12 d13 d14 d15 d69 d70 d71 d72 d73 d74 d75 d76 d77 d78 d79 d80 d81 d82 d83 d84 d85 d86 d87 d88 d89 d90 d91 d92 d93 d94 d95 d96 d97 d98 d99 d100 d101 d102 d103 d104 d105 d106 d107 d108 d109 d110 d111 d112 d113 d114 d115 d116 d117 d118 d119 d120 d121 d122 d123 d124 d125 d126 d127 d128 d129 d130 d131 d132 d133 d134 d135 d136 d137 d138 d139 d140 d141 d142 d143 d144 d145 d146 d147 d148 d149 d150 d151 d152 d153 d154 d155 d156 d157 d158 d159 w1 hb1
        have HB1 := Lib.hid hb1; clear hb1
        try go_wp2
        exact HR.out _ _ _ _ _ _ _ _ _ _ _ _ _ _ _ _ _ _ _ _ _ _ _ _ _ _ _ _ _ _ _ _ _ _ _ _ _ _ _ _ _ _ _ _ _ _ _ _ _ _ _ _ _ _ _ _ _ _ _ _ _ _ _ _ _ _ _ _ _ _ _ _ _ _ _ _ _ _ _ _ _ _ _ _ _ _ _ _ _ _ _ _ _ _ _ _ _ _ _ _ HB1.out
    · obtain rfl : k = ql := by omega
      have HO := Lib.hid hO; clear hO
      go_wp2
      exact HK.out _ _ _ _ _ _ _ _ _ _ _ _ _ _ _ _ _ _ _ _ _ _ _ _ _ _ _ _ _ _ _ _ _ _ _ _ _ _ _ _ _ _ _ _ _ _ _ _ _ _ _ _ _ _ _ _ _ _ _ _ _ _ _ _ _ _ _ _ _ _ _ _ _ _ _ _ _ _ _ _ _ _ _ _ _ _ _ _ _ _ _ _ _ _ _ _ _ _ _ _ _ HO.out
theorem Want.sl {w : World} {base NW n : Nat} {vs : List Value} {want : List (List Lt)} (h : Want w base NW n vs want) (hb : base ≤ w.heap.size) : Sl (Rsl 56 Rlt) w (lo w.heap.size) (some ⟨NW, 0, none⟩) want := by
  intro i xs hx
  have hv := List.getElem?_eq_getElem (l := vs) (i := i) (by have := (List.getElem?_eq_some_iff.1 hx).1; rw [h.nV, ← h.nW]; exact this)
  have hc := h.cell i _ hv
  obtain ⟨A, m, cap, e, hm, hl, hcm, hs⟩ := (h.own i _ xs hv hx).done (fun b hb' => Nat.lt_of_lt_of_le hb' hb)
  subst hm
  refine ⟨NW, 0, [.slice A xs.length cap], rfl, h.lt, ⟨A, cap, rfl, hl, hcm, hs⟩, fun j v hj => ?_⟩
  rcases j with _ | j
  · simp at hj; subst hj
    rw [e] at hc
    simpa [Rsl] using hc
  · simp at hj
theorem OrdW.out {w0 w : World} {NS NW n : Nat} {sq : Int} {k : Nat} {A B : Option Addr} {cA cB : Nat} {s : St} {vs : List Value} {want : List (List Lt)} (h : OrdW w0 w NS NW n sq (400 + 56 * k) k A B cA cB s vs want) (hk : k ≤ 60) : OrdOut w NS A B n cA cB s (some ⟨NW, 0, none⟩) want sq :=
  ⟨h.a0, h.a1, h.lS, h.st.last.more fun b hb => hb.1, h.st.lastN, h.st.boxes.more fun b hb => hb.1, h.st.boxesN, h.hw.sl h.bel.size, h.hw.nW, fun b hb => by have := h.fit.box b hb; omega, fun b hb => by have := h.len b hb; omega, h.inv.last, h.inv.box⟩
set_option maxRecDepth 100000 in
set_option maxHeartbeats 2000000 in
theorem order_bad (c sq : Int) (TL : Option Addr) (ql cl : Nat) (w : World) (hcw : (Lit.int .i64 c).wf = true) (hsw : (Lit.int .u64 sq).wf = true) (hb : ¬ (1 ≤ c ∧ c ≤ 8 ∧ sq ≠ 0)) :
    Calls Try.prog 3 #[.int .i64 c, .int .u64 sq, .slice TL ql cl] w fun e w' => e = .returned (.bool true) ∧ Below w.heap.size w w' := by
  have HWF := Lib.hid (And.intro hcw hsw); clear hcw hsw
  have HN := Lib.hid (show newS c sq = (noSt, 1) by unfold newS; rw [if_neg hb])
  by_cases h1 : c < 1
  · have d1 : decide (c < 1) = true := decide_eq_true h1
    clear h1 hb
    go_enter Try.func3, Try.ntmps3
    go_wp2_with (first
      | (go_at_call 9
         go_loud (skip
                  refine (live_any _).mono ?_
                  rintro e w1 ⟨rfl, hb1⟩
                  have HB1 := Lib.hid hb1
                  clear hb1))
      | (go_at_call 10
         go_loud (skip
                  refine (new_any c sq HWF.out.1 HWF.out.2 w1).mono ?_
                  rw [HN.out]
                  rintro e w2 ⟨A, n', cA, B, m', cB, rfl, hst, _, _, _, _, hb2⟩
                  obtain rfl : 0 = n' := by rw [← hst.lastN]; simp [noSt]
                  obtain rfl : 0 = m' := by rw [← hst.boxesN]; simp [noSt]
                  have H2 := Lib.hid (And.intro hst (HB1.out.trans (hb2.mono HB1.out.size)))
                  clear hst hb2))
      )
    all_goals go_ret
    all_goals first | exact ⟨rfl, H2.out.2.alloc H2.out.2.size _⟩ | exact ⟨rfl, HB1.out⟩
  · have d1 : decide (c < 1) = false := decide_eq_false h1
    by_cases h2 : 8 < c
    · have d2 : decide (8 < c) = true := decide_eq_true h2
      clear h1 h2 hb
      go_enter Try.func3, Try.ntmps3
      go_wp2_with (first
        | (go_at_call 9
           go_loud (skip
                    refine (live_any _).mono ?_
                    rintro e w1 ⟨rfl, hb1⟩
                    have HB1 := Lib.hid hb1
                    clear hb1))
        | (go_at_call 10
           go_loud (skip
                    refine (new_any c sq HWF.out.1 HWF.out.2 w1).mono ?_
                    rw [HN.out]
                    rintro e w2 ⟨A, n', cA, B, m', cB, rfl, hst, _, _, _, _, hb2⟩
                    obtain rfl : 0 = n' := by rw [← hst.lastN]; simp [noSt]
                    obtain rfl : 0 = m' := by rw [← hst.boxesN]; simp [noSt]
                    have H2 := Lib.hid (And.intro hst (HB1.out.trans (hb2.mono HB1.out.size)))
                    clear hst hb2))
        )
      all_goals go_ret
      all_goals first | exact ⟨rfl, H2.out.2.alloc H2.out.2.size _⟩ | exact ⟨rfl, HB1.out⟩
    · have d2 : decide (8 < c) = false := decide_eq_false h2
      have hq0 : sq = 0 := by omega
      have d3 : (sq == 0) = true := by simpa using hq0
      clear h1 h2 hb hq0
      go_enter Try.func3, Try.ntmps3
      go_wp2_with (first
        | (go_at_call 9
           go_loud (skip
                    refine (live_any _).mono ?_
                    rintro e w1 ⟨rfl, hb1⟩
                    have HB1 := Lib.hid hb1
                    clear hb1))
        | (go_at_call 10
           go_loud (skip
                    refine (new_any c sq HWF.out.1 HWF.out.2 w1).mono ?_
                    rw [HN.out]
                    rintro e w2 ⟨A, n', cA, B, m', cB, rfl, hst, _, _, _, _, hb2⟩
                    obtain rfl : 0 = n' := by rw [← hst.lastN]; simp [noSt]
                    obtain rfl : 0 = m' := by rw [← hst.boxesN]; simp [noSt]
                    have H2 := Lib.hid (And.intro hst (HB1.out.trans (hb2.mono HB1.out.size)))
                    clear hst hb2))
        )
      all_goals go_ret
      all_goals first | exact ⟨rfl, H2.out.2.alloc H2.out.2.size _⟩ | exact ⟨rfl, HB1.out⟩
theorem replicate_get {α : Type} {n i : Nat} {x y : α} (h : (List.replicate n x)[i]? = some y) : y = x := by
  rw [List.getElem?_replicate] at h
  split at h
  · exact (Option.some.inj h).symm
  · cases h
set_option maxRecDepth 100000 in
set_option maxHeartbeats 4000000 in
theorem order_main (n : Nat) (sq : Int) (TL : Option Addr) (ql cl : Nat) (ls : List Lt) (w : World) (hsw : (Lit.int .u64 sq).wf = true) (h1 : 1 ≤ n) (h8 : n ≤ 8) (hs0 : sq ≠ 0) (hls : Sl Rlt w (lo w.heap.size) TL ls) (hql : ls.length = ql) :
    Calls Try.prog 3 #[.int .i64 (n : Int), .int .u64 sq, .slice TL ql cl] w fun e w' => e = .returned (.bool true) ∧ Below w.heap.size w w' := by
  have hsb := bounds_u64 hsw
  have HWF := Lib.hid (And.intro (show (Lit.int .i64 (n : Int)).wf = true from WalkArith.wf_i64 ⟨by omega, by omega⟩) hsw); clear hsw
  have HN := Lib.hid (show newS (n : Int) sq = ({ last := List.replicate n (sq - 1), boxes := List.replicate n [] }, 0) by unfold newS; rw [if_pos ⟨by omega, by omega, hs0⟩, Int.toNat_natCast])
  have HLS := Lib.hid (And.intro hls hql); clear hls hql
  have hsq : 1 ≤ sq := by omega
  have d1 : decide ((n : Int) < 1) = false := decide_eq_false (by omega)
  have d2 : decide ((8 : Int) < (n : Int)) = false := decide_eq_false (by omega)
  have d3 : (sq == 0) = false := by simpa using hs0
  clear hs0
  obtain ⟨arr2, ha2, hmake2⟩ := make_one (P := Try.prog) (t := 26) (e := 23) (bytes := 24) (.slice none 0 0) rfl Try.underlying26 (by kernel_rfl) n (by omega) (by omega)
  have HA := Lib.hid ha2; clear ha2
  by_cases h60 : 60 < ql
  · have d4 : decide ((60 : Int) < (ql : Int)) = true := decide_eq_true (by omega)
    go_enter Try.func3, Try.ntmps3
    go_wp2_with (first
      | (go_at_call 9
         go_loud (skip
                  refine (live_any _).mono ?_
                  rintro e w1 ⟨rfl, hb1⟩
                  have HB1 := Lib.hid hb1
                  clear hb1))
      | (go_at_call 10
         go_loud (skip
                  refine (new_any (n:Int) sq HWF.out.1 HWF.out.2 w1).mono ?_
                  rw [HN.out]
                  rintro e w2 ⟨A, n', cA, B, m', cB, rfl, hst, _, _, _, _, hb2⟩
                  obtain rfl : n = n' := by rw [← hst.lastN]; simp [noSt]
                  obtain rfl : n = m' := by rw [← hst.boxesN]; simp [noSt]
                  have H2 := Lib.hid (And.intro hst (HB1.out.trans (hb2.mono HB1.out.size)))
                  clear hst hb2))
      )
    go_ret
    exact ⟨rfl, HB1.out⟩
  have d4 : decide ((60 : Int) < (ql : Int)) = false := decide_eq_false (by omega)
  go_enter Try.func3, Try.ntmps3
  go_upto_block 0 with (first
    | (go_at_call 9
       go_loud (skip
                refine (live_any _).mono ?_
                rintro e w1 ⟨rfl, hb1⟩
                have HB1 := Lib.hid hb1
                clear hb1))
    | (go_at_call 10
       go_loud (skip
                refine (new_any (n:Int) sq HWF.out.1 HWF.out.2 w1).mono ?_
                rw [HN.out]
                rintro e w2 ⟨A, n', cA, B, m', cB, rfl, hst, _, _, _, _, hb2⟩
                obtain rfl : n = n' := by rw [← hst.lastN]; simp [noSt]
                obtain rfl : n = m' := by rw [← hst.boxesN]; simp [noSt]
                have H2 := Lib.hid (And.intro hst (HB1.out.trans (hb2.mono HB1.out.size)))
                clear hst hb2))
    )
  have hO : OrdR w ((w2.alloc (.cells #[.slice A n cA, .slice B n cB] 28)).alloc (.cells arr2 23)) w2.heap.size (w2.heap.size + 1) n sq 0 := by
    have gS := (Blk.new w2 28 #[.slice A n cA, .slice B n cB] rfl).alloc (.cells arr2 23)
    have gW := Blk.new (w2.alloc (.cells #[.slice A n cA, .slice B n cB] 28)) 23 arr2 (g := w2.heap.size + 1) (by simp)
    have hz := H2.out.2.size
    have hnil : ∀ (b f : Nat) (v : Value), (List.replicate n (Value.slice none 0 0))[f]? = some v → v.ownBlock ≠ some b := fun b f v hv => by rw [replicate_get hv]; simp [Value.ownBlock]
    refine ⟨A, B, cA, cB, _, List.replicate n (.slice none 0 0), List.replicate n [], gS.cell 0 rfl, gS.cell 1 rfl, gS.frozen, gS.lt, hz, by omega, fun f v hv => hnil _ f v hv, ?_, ⟨by simp; omega, by simp; omega, fun b hb => by rw [List.eq_of_mem_replicate hb]; simp, fun b hb l hl => by rw [List.eq_of_mem_replicate hb] at hl; cases hl⟩, ⟨by simp, by simp, fun f v hv => ?_, fun f v xs hv hx => ?_, fun f f' v v' g _ h1 _ hg => absurd hg (hnil g f v h1), gW.frozen, gW.lt, by omega, fun f v hv => hnil _ f v hv⟩, OrdInv.start n sq h1 h8, fun xs hxs => by rw [List.eq_of_mem_replicate hxs]; simp, (H2.out.2.alloc hz _).alloc (by simp; omega) _⟩
    · exact H2.out.1.keep' (fun p hp => (World.cell?_alloc_lt _ _ _ (by have : p.block < w2.heap.size := hp.2; simp; omega)).trans (World.cell?_alloc_lt _ _ _ hp.2)) (fun b hb => ⟨by have := hb.2; simp; omega, by have := hb.2; omega, by have := hb.2; omega, fun f v hv => hnil _ f v hv⟩)
    · refine gW.cell f ?_
      rw [← Array.getElem?_toList, HA.out]; exact hv
    · rw [replicate_get hv, replicate_get hx]; exact Own.nil _ _ _ _ _
  have HO := Lib.hid hO; clear hO
  refine order_loop w _ w2.heap.size (w2.heap.size + 1) n sq TL ql cl ls HO.out HLS.out.1 HLS.out.2 (by omega) h1 h8 hsq (by omega) ?_ ?_
  · intro d6 d11 d12 d13 d14 d15 d67 d68 d69 d70 d71 d72 d73 d74 d75 d76 d77 d78 d79 d80 d81 d82 d83 d84 d85 d86 d87 d88 d89 d90 d91 d92 d93 d94 d95 d96 d97 d98 d99 d100 d101 d102 d103 d104 d105 d106 d107 d108 d109 d110 d111 d112 d113 d114 d115 d116 d117 d118 d119 d120 d121 d122 d123 d124 d125 d126 d127 d128 d129 d130 d131 d132 d133 d134 d135 d136 d137 d138 d139 d140 d141 d142 d143 d144 d145 d146 d147 d148 d149 d150 d151 d152 d153 d154 d155 d156 d157 d158 d159 d160 w3 hO3
    obtain ⟨A', B', cA', cB', s', vs', want', hO3⟩ := hO3
    have HO3 := Lib.hid (And.intro (hO3.out (by omega)) hO3.bel); clear hO3
    go_upto_block 2 with fail
    refine order_out w3 w2.heap.size A' B' n cA' cB' s' _ n want' sq HO3.out.1 h8 hsq (by omega) ?_
    intro d6 d16 d17 d18 d19 d20 d21 d23 d25 d163 d164 d165 d166 d167 d168 d169 d170 d171 d172 d173 d174 d175 d176 d177 d178 d179 d180 d181 d182 d183 d184 d185 d186 d187 d188 d189 d190 d191 d192 d193 d194 d195 d196 d197 d198 d199 d200 d201 d202 d203 d204 d205 d206 d207 d208 d209 d210 d211 d212 d213 d214 d215 d216 d217 d218 d219 d220 d221 d222 d223 w4 hb4
    have HB4 := Lib.hid hb4; clear hb4
    go_wp2
    go_ret
    exact ⟨rfl, HO3.out.2.trans (HB4.out.mono HO3.out.2.size)⟩
  · intro d11 d12 d13 d14 d15 d67 d68 d69 d70 d71 d72 d73 d74 d75 d76 d77 d78 d79 d80 d81 d82 d83 d84 d85 d86 d87 d88 d89 d90 d91 d92 d93 d94 d95 d96 d97 d98 d99 d100 d101 d102 d103 d104 d105 d106 d107 d108 d109 d110 d111 d112 d113 d114 d115 d116 d117 d118 d119 d120 d121 d122 d123 d124 d125 d126 d127 d128 d129 d130 d131 d132 d133 d134 d135 d136 d137 d138 d139 d140 d141 d142 d143 d144 d145 d146 d147 d148 d149 d150 d151 d152 d153 d154 d155 d156 d157 d158 d159 d160 w3 hb3
    have HB3 := Lib.hid hb3; clear hb3
    go_ret
    exact ⟨rfl, HB3.out⟩
theorem order_walk (c sq : Int) (TL : Option Addr) (ql cl : Nat) (ls : List Lt) (w : World) (hcw : (Lit.int .i64 c).wf = true) (hsw : (Lit.int .u64 sq).wf = true) (hls : Sl Rlt w (lo w.heap.size) TL ls) (hql : ls.length = ql) :
    Calls Try.prog 3 #[.int .i64 c, .int .u64 sq, .slice TL ql cl] w fun e w' => e = .returned (.bool true) ∧ Below w.heap.size w w' := by
  by_cases h : 1 ≤ c ∧ c ≤ 8 ∧ sq ≠ 0
  · obtain ⟨n, rfl⟩ : ∃ n : Nat, c = n := ⟨c.toNat, by omega⟩
    exact order_main n sq TL ql cl ls w hsw (by omega) (by omega) h.2.2 hls hql
  · exact order_bad c sq TL ql cl w hcw hsw h
theorem arg_lts {H : Type} {enc : TypeId × Value → H} {w : World} {r : Reach} {b0 : Nat} {v : Value} {d : DataW H} {ps : List MemPlace} (hv : Value.okWide Try.prog w r b0 23 v)
    (ht : DataW.Trod enc Try.prog w 0 (fun _ => true) true 23 v d ps) (hz : ∀ n ∈ d.weights Try.prog 23, n ≤ reachBytes) : ∃ (A : Option Addr) (n cap : Nat) (ls : List Lt), v = .slice A n cap ∧ Sl Rlt w (lo w.heap.size) A ls ∧ ls.length = n := by
  obtain ⟨A, xs, n, cap, rfl, rfl, _, _, hs, _⟩ := arg_sl Try.underlying23 opens_lts hv ht hz
  exact ⟨A, _, cap, xs, rfl, hs, rfl⟩
end Go.Proofs.Ytcmdmmphakclmaa
