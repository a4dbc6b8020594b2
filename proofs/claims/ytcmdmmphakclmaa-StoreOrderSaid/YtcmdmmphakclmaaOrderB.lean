/-
  StoreOrder: pieces of a letter's round: whether it may be put in, whether it is its sender's next one, and the list of those.
-/
import Derived.Test.YtcmdmmphakclmaaPieces
import Derived.Test.YtcmdmmphakclmaaOrderP
import Derived.Deep.RegionHeld3
namespace Go.Proofs.Ytcmdmmphakclmaa
open Go.RowKit Go.Sort
set_option linter.unusedVariables false
attribute [local go_sem ↓] Go.wp_at_zero Go.wp_at_succ

/-- A letter's five cells. -/
def LtCells (w : World) (X : Nat) (x : Lt) (T : Option Addr) (tn tc : Nat) : Prop :=
  w.cell? ⟨X, 0, none⟩ = some (.bool x.cover) ∧ w.cell? ⟨X, 1, none⟩ = some (.int .i64 x.fr) ∧ w.cell? ⟨X, 2, none⟩ = some (.int .i64 x.to) ∧ w.cell? ⟨X, 3, none⟩ = some (.int .u64 x.sq) ∧ w.cell? ⟨X, 4, none⟩ = some (.slice T tn tc)
theorem ordIs_eq {n : Nat} {x : Lt} {tn : Nat} (h : x.text.length = tn) : ordIs n x = (keepL x.cover x.fr x.to x.sq tn && (decide (x.fr < n) && decide (x.to < n))) := by unfold ordIs keepLt; rw [h]
noncomputable def order_r19_code : Code := regionOf Try.f3 19
set_option maxRecDepth 100000 in
set_option maxHeartbeats 2000000 in
theorem order_r19 {Q : Exit → Act → World → Prop} {s1 s2 s3 s4 s5 s6 s7 s8 s9 s10 s12 s13 s14 s15 s16 s17 s18 s19 s20 s21 s22 s23 s24 s25 s26 s27 s28 s29 s30 s31 s32 s33 s34 s35 s36 s37 s38 s39 s40 s41 s42 s43 s44 s45 s46 s47 s48 s49 s50 s51 s52 s53 s54 s55 s56 s57 s58 s59 s60 s61 s62 s63 s64 s65 s66 s67 s68 s69 s70 s71 s72 s73 s74 s75 s76 s77 s78 s79 s80 s81 s82 s83 s84 s85 s86 s87 s88 s89 s90 s91 s92 s93 s94 s95 s96 s97 s98 s99 s100 s101 s102 s103 s104 s105 s106 s107 s108 s109 s110 s111 s112 s113 s114 s115 s116 s117 s118 s119 s120 s121 s122 s123 s124 s125 s126 s127 s128 s129 s130 s131 s132 s133 s134 s135 s136 s137 s138 s139 s140 s141 s142 s143 s144 s145 s146 s147 s148 s149 s150 s151 s152 s153 s154 s155 s156 s157 s158 s159 s160 s161 s162 s163 s164 s165 s166 s167 s168 s169 s170 s171 s172 s173 s174 s175 s176 s177 s178 s179 s180 s181 s182 s183 s184 s185 s186 s187 s188 s189 s190 s191 s192 s193 s194 s195 s196 s197 s198 s199 s200 s201 s202 s203 s204 s205 s206 s207 s208 s209 s210 s211 s212 s213 s214 s215 s216 s217 s218 s219 s220 s221 s222 s223 : Value} (w : World) (n X : Nat) (x : Lt) (T : Option Addr) (tn tc : Nat) (hc : LtCells w X x T tn tc) (hX : X < w.heap.size) (hq : 0 ≤ x.sq) (ht : x.text.length = tn)
    (hK : ∀ (d98 d99 d100 d101 d102 d103 d104 d105 d106 d107 d108 d109 d110 d111 d112 d113 d114 d115 d116 d117 : Value) (w' : World), Below w.heap.size w w' → Q .normal ⟨#[.int .i64 n, s1, s2, s3, s4, s5, s6, s7, s8, s9, s10, .pointer (some ⟨X, 0, none⟩), s12, s13, s14, .bool (ordIs n x), s16, s17, s18, s19, s20, s21, s22, s23, s24, s25, s26, s27, s28, s29, s30, s31, s32, s33, s34, s35, s36, s37, s38, s39, s40, s41, s42, s43, s44, s45, s46, s47, s48, s49, s50, s51, s52, s53, s54, s55, s56, s57, s58, s59, s60, s61, s62, s63, s64, s65, s66, s67, s68, s69, s70, s71, s72, s73, s74, s75, s76, s77, s78, s79, s80, s81, s82, s83, s84, s85, s86, s87, s88, s89, s90, s91, s92, s93, s94, s95, s96, s97, d98, d99, d100, d101, d102, d103, d104, d105, d106, d107, d108, d109, d110, d111, d112, d113, d114, d115, d116, d117, s118, s119, s120, s121, s122, s123, s124, s125, s126, s127, s128, s129, s130, s131, s132, s133, s134, s135, s136, s137, s138, s139, s140, s141, s142, s143, s144, s145, s146, s147, s148, s149, s150, s151, s152, s153, s154, s155, s156, s157, s158, s159, s160, s161, s162, s163, s164, s165, s166, s167, s168, s169, s170, s171, s172, s173, s174, s175, s176, s177, s178, s179, s180, s181, s182, s183, s184, s185, s186, s187, s188, s189, s190, s191, s192, s193, s194, s195, s196, s197, s198, s199, s200, s201, s202, s203, s204, s205, s206, s207, s208, s209, s210, s211, s212, s213, s214, s215, s216, s217, s218, s219, s220, s221, s222, s223], []⟩ w') :
    Code.wp Try.prog order_r19_code Q ⟨#[.int .i64 n, s1, s2, s3, s4, s5, s6, s7, s8, s9, s10, .pointer (some ⟨X, 0, none⟩), s12, s13, s14, s15, s16, s17, s18, s19, s20, s21, s22, s23, s24, s25, s26, s27, s28, s29, s30, s31, s32, s33, s34, s35, s36, s37, s38, s39, s40, s41, s42, s43, s44, s45, s46, s47, s48, s49, s50, s51, s52, s53, s54, s55, s56, s57, s58, s59, s60, s61, s62, s63, s64, s65, s66, s67, s68, s69, s70, s71, s72, s73, s74, s75, s76, s77, s78, s79, s80, s81, s82, s83, s84, s85, s86, s87, s88, s89, s90, s91, s92, s93, s94, s95, s96, s97, s98, s99, s100, s101, s102, s103, s104, s105, s106, s107, s108, s109, s110, s111, s112, s113, s114, s115, s116, s117, s118, s119, s120, s121, s122, s123, s124, s125, s126, s127, s128, s129, s130, s131, s132, s133, s134, s135, s136, s137, s138, s139, s140, s141, s142, s143, s144, s145, s146, s147, s148, s149, s150, s151, s152, s153, s154, s155, s156, s157, s158, s159, s160, s161, s162, s163, s164, s165, s166, s167, s168, s169, s170, s171, s172, s173, s174, s175, s176, s177, s178, s179, s180, s181, s182, s183, s184, s185, s186, s187, s188, s189, s190, s191, s192, s193, s194, s195, s196, s197, s198, s199, s200, s201, s202, s203, s204, s205, s206, s207, s208, s209, s210, s211, s212, s213, s214, s215, s216, s217, s218, s219, s220, s221, s222, s223], []⟩ w := by
  have HK := Lib.hid hK; clear hK
  have HX := Lib.hid hq; clear hq
  obtain ⟨x0, x1, x2, x3, x4⟩ := hc
  have HI := Lib.hid (ordIs_eq (n := n) ht)
  obtain ⟨cv, hcv⟩ : ∃ cv, x.cover = cv := ⟨_, rfl⟩
  rw [hcv] at x0
  obtain ⟨E, hE⟩ : ∃ E, errLet false x.fr x.to x.sq tn = E := ⟨_, rfl⟩
  have HE := Lib.hid hE
  have HCV := Lib.hid hcv; clear hcv hE ht
  cases cv with
  | true =>
    have HF := Lib.hid (show ordIs n x = false by rw [HI.out, HCV.out]; rfl)
    clear HI
    rw [HF.out] at HK
    conv => arg 2; whnf
    go_wp2
    exact HK.out _ _ _ _ _ _ _ _ _ _ _ _ _ _ _ _ _ _ _ _ _ (Below.refl _ _)
  | false =>
    by_cases hE0 : E = 0
    rotate_left
    · have d3 : (E == 0) = false := by simpa using hE0
      have HF := Lib.hid (show ordIs n x = false by rw [HI.out, HCV.out]; unfold keepL; rw [HE.out, decide_eq_false hE0]; rfl)
      clear HI
      rw [HF.out] at HK
      conv => arg 2; whnf
      go_wp2_with (go_at_call 12
                   refine (r10check_any false x.fr x.to x.sq HX.out T tn tc _).mono ?_
                   rw [HE.out]
                   rintro e w1 ⟨rfl, hb1⟩
                   have x1' := (hb1.cell (p := ⟨X, 1, none⟩) hX).trans x1
                   have x2' := (hb1.cell (p := ⟨X, 2, none⟩) hX).trans x2
                   have hX1 : X < w1.heap.size := Nat.lt_of_lt_of_le hX hb1.size
                   have HB1 := Lib.hid hb1
                   clear x0 x1 x2 x3 x4 hb1)
      exact HK.out _ _ _ _ _ _ _ _ _ _ _ _ _ _ _ _ _ _ _ _ _ HB1.out
    · subst hE0
      by_cases h1 : x.fr < (n : Int)
      rotate_left
      · have d4 : decide (x.fr < (n : Int)) = false := decide_eq_false h1
        have HF := Lib.hid (show ordIs n x = false by rw [HI.out, d4, Bool.false_and, Bool.and_false])
        clear HI h1
        rw [HF.out] at HK
        conv => arg 2; whnf
        go_wp2_with (go_at_call 12
                     refine (r10check_any false x.fr x.to x.sq HX.out T tn tc _).mono ?_
                     rw [HE.out]
                     rintro e w1 ⟨rfl, hb1⟩
                     have x1' := (hb1.cell (p := ⟨X, 1, none⟩) hX).trans x1
                     have x2' := (hb1.cell (p := ⟨X, 2, none⟩) hX).trans x2
                     have hX1 : X < w1.heap.size := Nat.lt_of_lt_of_le hX hb1.size
                     have HB1 := Lib.hid hb1
                     clear x0 x1 x2 x3 x4 hb1)
        exact HK.out _ _ _ _ _ _ _ _ _ _ _ _ _ _ _ _ _ _ _ _ _ HB1.out
      · by_cases h2 : x.to < (n : Int)
        rotate_left
        · have d5 : decide (x.to < (n : Int)) = false := decide_eq_false h2
          have d4 : decide (x.fr < (n : Int)) = true := decide_eq_true h1
          have HF := Lib.hid (show ordIs n x = false by rw [HI.out, d5, Bool.and_false, Bool.and_false])
          clear HI h1 h2
          rw [HF.out] at HK
          conv => arg 2; whnf
          go_wp2_with (go_at_call 12
                       refine (r10check_any false x.fr x.to x.sq HX.out T tn tc _).mono ?_
                       rw [HE.out]
                       rintro e w1 ⟨rfl, hb1⟩
                       have x1' := (hb1.cell (p := ⟨X, 1, none⟩) hX).trans x1
                       have x2' := (hb1.cell (p := ⟨X, 2, none⟩) hX).trans x2
                       have hX1 : X < w1.heap.size := Nat.lt_of_lt_of_le hX hb1.size
                       have HB1 := Lib.hid hb1
                       clear x0 x1 x2 x3 x4 hb1)
          exact HK.out _ _ _ _ _ _ _ _ _ _ _ _ _ _ _ _ _ _ _ _ _ HB1.out
        · have d5 : decide (x.to < (n : Int)) = true := decide_eq_true h2
          have d4 : decide (x.fr < (n : Int)) = true := decide_eq_true h1
          have HF := Lib.hid (show ordIs n x = true by rw [HI.out, HCV.out, d4, d5]; unfold keepL; rw [HE.out]; rfl)
          clear HI h1 h2
          rw [HF.out] at HK
          conv => arg 2; whnf
          go_wp2_with (go_at_call 12
                       refine (r10check_any false x.fr x.to x.sq HX.out T tn tc _).mono ?_
                       rw [HE.out]
                       rintro e w1 ⟨rfl, hb1⟩
                       have x1' := (hb1.cell (p := ⟨X, 1, none⟩) hX).trans x1
                       have x2' := (hb1.cell (p := ⟨X, 2, none⟩) hX).trans x2
                       have hX1 : X < w1.heap.size := Nat.lt_of_lt_of_le hX hb1.size
                       have HB1 := Lib.hid hb1
                       clear x0 x1 x2 x3 x4 hb1)
          exact HK.out _ _ _ _ _ _ _ _ _ _ _ _ _ _ _ _ _ _ _ _ _ HB1.out
noncomputable def order_r20_code : Code := regionOf Try.f3 20
set_option maxRecDepth 100000 in
set_option maxHeartbeats 2000000 in
theorem order_r20_no {Q : Exit → Act → World → Prop} {s0 s1 s2 s3 s4 s5 s6 s7 s8 s9 s10 s11 s12 s13 s14 s16 s17 s18 s19 s20 s21 s22 s23 s24 s25 s26 s27 s28 s29 s30 s31 s32 s33 s34 s35 s36 s37 s38 s39 s40 s41 s42 s43 s44 s45 s46 s47 s48 s49 s50 s51 s52 s53 s54 s55 s56 s57 s58 s59 s60 s61 s62 s63 s64 s65 s66 s67 s68 s69 s70 s71 s72 s73 s74 s75 s76 s77 s78 s79 s80 s81 s82 s83 s84 s85 s86 s87 s88 s89 s90 s91 s92 s93 s94 s95 s96 s97 s98 s99 s100 s101 s102 s103 s104 s105 s106 s107 s108 s109 s110 s111 s112 s113 s114 s115 s116 s117 s118 s119 s120 s121 s122 s123 s124 s125 s126 s127 s128 s129 s130 s131 s132 s133 s134 s135 s136 s137 s138 s139 s140 s141 s142 s143 s144 s145 s146 s147 s148 s149 s150 s151 s152 s153 s154 s155 s156 s157 s158 s159 s160 s161 s162 s163 s164 s165 s166 s167 s168 s169 s170 s171 s172 s173 s174 s175 s176 s177 s178 s179 s180 s181 s182 s183 s184 s185 s186 s187 s188 s189 s190 s191 s192 s193 s194 s195 s196 s197 s198 s199 s200 s201 s202 s203 s204 s205 s206 s207 s208 s209 s210 s211 s212 s213 s214 s215 s216 s217 s218 s219 s220 s221 s222 s223 : Value} (w : World)
    (hK : ∀ (d118 d119 d120 d121 d122 d123 d124 d125 d126 d127 d128 d129 d130 d131 d132 d133 d134 d135 d136 d137 : Value) (w' : World), Below w.heap.size w w' → Q .normal ⟨#[s0, s1, s2, s3, s4, s5, s6, s7, s8, s9, s10, s11, s12, s13, s14, .bool false, s16, s17, s18, s19, s20, s21, s22, s23, s24, s25, s26, s27, s28, s29, s30, s31, s32, s33, s34, s35, s36, s37, s38, s39, s40, s41, s42, s43, s44, s45, s46, s47, s48, s49, s50, s51, s52, s53, s54, s55, s56, s57, s58, s59, s60, s61, s62, s63, s64, s65, s66, s67, s68, s69, s70, s71, s72, s73, s74, s75, s76, s77, s78, s79, s80, s81, s82, s83, s84, s85, s86, s87, s88, s89, s90, s91, s92, s93, s94, s95, s96, s97, s98, s99, s100, s101, s102, s103, s104, s105, s106, s107, s108, s109, s110, s111, s112, s113, s114, s115, s116, s117, d118, d119, d120, d121, d122, d123, d124, d125, d126, d127, d128, d129, d130, d131, d132, d133, d134, d135, d136, d137, .bool false, s139, s140, s141, s142, s143, s144, s145, s146, s147, s148, s149, s150, s151, s152, s153, s154, s155, s156, s157, s158, s159, s160, s161, s162, s163, s164, s165, s166, s167, s168, s169, s170, s171, s172, s173, s174, s175, s176, s177, s178, s179, s180, s181, s182, s183, s184, s185, s186, s187, s188, s189, s190, s191, s192, s193, s194, s195, s196, s197, s198, s199, s200, s201, s202, s203, s204, s205, s206, s207, s208, s209, s210, s211, s212, s213, s214, s215, s216, s217, s218, s219, s220, s221, s222, s223], []⟩ w') :
    Code.wp Try.prog order_r20_code Q ⟨#[s0, s1, s2, s3, s4, s5, s6, s7, s8, s9, s10, s11, s12, s13, s14, .bool false, s16, s17, s18, s19, s20, s21, s22, s23, s24, s25, s26, s27, s28, s29, s30, s31, s32, s33, s34, s35, s36, s37, s38, s39, s40, s41, s42, s43, s44, s45, s46, s47, s48, s49, s50, s51, s52, s53, s54, s55, s56, s57, s58, s59, s60, s61, s62, s63, s64, s65, s66, s67, s68, s69, s70, s71, s72, s73, s74, s75, s76, s77, s78, s79, s80, s81, s82, s83, s84, s85, s86, s87, s88, s89, s90, s91, s92, s93, s94, s95, s96, s97, s98, s99, s100, s101, s102, s103, s104, s105, s106, s107, s108, s109, s110, s111, s112, s113, s114, s115, s116, s117, s118, s119, s120, s121, s122, s123, s124, s125, s126, s127, s128, s129, s130, s131, s132, s133, s134, s135, s136, s137, s138, s139, s140, s141, s142, s143, s144, s145, s146, s147, s148, s149, s150, s151, s152, s153, s154, s155, s156, s157, s158, s159, s160, s161, s162, s163, s164, s165, s166, s167, s168, s169, s170, s171, s172, s173, s174, s175, s176, s177, s178, s179, s180, s181, s182, s183, s184, s185, s186, s187, s188, s189, s190, s191, s192, s193, s194, s195, s196, s197, s198, s199, s200, s201, s202, s203, s204, s205, s206, s207, s208, s209, s210, s211, s212, s213, s214, s215, s216, s217, s218, s219, s220, s221, s222, s223], []⟩ w := by
  have HK := Lib.hid hK; clear hK
  conv => arg 2; whnf
  refine wp_region_quiet_below (by kernel_rfl) (by kernel_rfl) ?_
  repeat (any_goals (first | go_big_quiet_step (fail) | quiet_step (fail)))
  refine wpQuiet_nil ?_
  intro _ hw'
  obtain ⟨⟨dq, osq⟩, hw''⟩ := hw'
  subst hw''
  exact HK.out _ _ _ _ _ _ _ _ _ _ _ _ _ _ _ _ _ _ _ _ _ (below_regrown _ _ _)
set_option maxRecDepth 100000 in
set_option maxHeartbeats 2000000 in
theorem order_r20 {Q : Exit → Act → World → Prop} {s0 s2 s3 s4 s5 s6 s7 s8 s10 s12 s13 s14 s16 s17 s18 s19 s20 s21 s22 s23 s24 s25 s26 s27 s28 s29 s30 s31 s32 s33 s34 s35 s36 s37 s38 s39 s40 s41 s42 s43 s44 s45 s46 s47 s48 s49 s50 s51 s52 s53 s54 s55 s56 s57 s58 s59 s60 s61 s62 s63 s64 s65 s66 s67 s68 s69 s70 s71 s72 s73 s74 s75 s76 s77 s78 s79 s80 s81 s82 s83 s84 s85 s86 s87 s88 s89 s90 s91 s92 s93 s94 s95 s96 s97 s98 s99 s100 s101 s102 s103 s104 s105 s106 s107 s108 s109 s110 s111 s112 s113 s114 s115 s116 s117 s118 s119 s120 s121 s122 s123 s124 s125 s126 s127 s128 s129 s130 s131 s132 s133 s134 s135 s136 s137 s138 s139 s140 s141 s142 s143 s144 s145 s146 s147 s148 s149 s150 s151 s152 s153 s154 s155 s156 s157 s158 s159 s160 s161 s162 s163 s164 s165 s166 s167 s168 s169 s170 s171 s172 s173 s174 s175 s176 s177 s178 s179 s180 s181 s182 s183 s184 s185 s186 s187 s188 s189 s190 s191 s192 s193 s194 s195 s196 s197 s198 s199 s200 s201 s202 s203 s204 s205 s206 s207 s208 s209 s210 s211 s212 s213 s214 s215 s216 s217 s218 s219 s220 s221 s222 s223 : Value} (w : World) (n X NW f k kc : Nat) (x : Lt) (sq : Int) (T : Option Addr) (A : Option Addr) (tn tc : Nat) (hc : LtCells w X x T tn tc) (hf : x.fr = (f : Int)) (hfn : f < n) (hn : n ≤ 8) (hw : w.cell? ⟨NW, f, none⟩ = some (.slice A k kc))
    (hsq : 1 ≤ sq) (hsq2 : sq < 18446744073709551616) (hk : sq - 1 + (k : Int) < 18446744073709551616) (hk2 : k ≤ 60) (hx1 : 0 ≤ x.sq) (hx2 : x.sq < 18446744073709551616)
    (hK : ∀ (d118 d119 d120 d121 d122 d123 d124 d125 d126 d127 d128 d129 d130 d131 d132 d133 d134 d135 d136 d137 : Value) (w' : World), Below w.heap.size w w' → Q .normal ⟨#[s0, .int .u64 sq, s2, s3, s4, s5, s6, s7, s8, .slice (some ⟨NW, 0, none⟩) n n, s10, .pointer (some ⟨X, 0, none⟩), s12, s13, s14, .bool true, s16, s17, s18, s19, s20, s21, s22, s23, s24, s25, s26, s27, s28, s29, s30, s31, s32, s33, s34, s35, s36, s37, s38, s39, s40, s41, s42, s43, s44, s45, s46, s47, s48, s49, s50, s51, s52, s53, s54, s55, s56, s57, s58, s59, s60, s61, s62, s63, s64, s65, s66, s67, s68, s69, s70, s71, s72, s73, s74, s75, s76, s77, s78, s79, s80, s81, s82, s83, s84, s85, s86, s87, s88, s89, s90, s91, s92, s93, s94, s95, s96, s97, s98, s99, s100, s101, s102, s103, s104, s105, s106, s107, s108, s109, s110, s111, s112, s113, s114, s115, s116, s117, d118, d119, d120, d121, d122, d123, d124, d125, d126, d127, d128, d129, d130, d131, d132, d133, d134, d135, d136, d137, .bool (decide (x.sq = sq + (k : Int))), s139, s140, s141, s142, s143, s144, s145, s146, s147, s148, s149, s150, s151, s152, s153, s154, s155, s156, s157, s158, s159, s160, s161, s162, s163, s164, s165, s166, s167, s168, s169, s170, s171, s172, s173, s174, s175, s176, s177, s178, s179, s180, s181, s182, s183, s184, s185, s186, s187, s188, s189, s190, s191, s192, s193, s194, s195, s196, s197, s198, s199, s200, s201, s202, s203, s204, s205, s206, s207, s208, s209, s210, s211, s212, s213, s214, s215, s216, s217, s218, s219, s220, s221, s222, s223], []⟩ w') :
    Code.wp Try.prog order_r20_code Q ⟨#[s0, .int .u64 sq, s2, s3, s4, s5, s6, s7, s8, .slice (some ⟨NW, 0, none⟩) n n, s10, .pointer (some ⟨X, 0, none⟩), s12, s13, s14, .bool true, s16, s17, s18, s19, s20, s21, s22, s23, s24, s25, s26, s27, s28, s29, s30, s31, s32, s33, s34, s35, s36, s37, s38, s39, s40, s41, s42, s43, s44, s45, s46, s47, s48, s49, s50, s51, s52, s53, s54, s55, s56, s57, s58, s59, s60, s61, s62, s63, s64, s65, s66, s67, s68, s69, s70, s71, s72, s73, s74, s75, s76, s77, s78, s79, s80, s81, s82, s83, s84, s85, s86, s87, s88, s89, s90, s91, s92, s93, s94, s95, s96, s97, s98, s99, s100, s101, s102, s103, s104, s105, s106, s107, s108, s109, s110, s111, s112, s113, s114, s115, s116, s117, s118, s119, s120, s121, s122, s123, s124, s125, s126, s127, s128, s129, s130, s131, s132, s133, s134, s135, s136, s137, s138, s139, s140, s141, s142, s143, s144, s145, s146, s147, s148, s149, s150, s151, s152, s153, s154, s155, s156, s157, s158, s159, s160, s161, s162, s163, s164, s165, s166, s167, s168, s169, s170, s171, s172, s173, s174, s175, s176, s177, s178, s179, s180, s181, s182, s183, s184, s185, s186, s187, s188, s189, s190, s191, s192, s193, s194, s195, s196, s197, s198, s199, s200, s201, s202, s203, s204, s205, s206, s207, s208, s209, s210, s211, s212, s213, s214, s215, s216, s217, s218, s219, s220, s221, s222, s223], []⟩ w := by
  have HK := Lib.hid hK; clear hK
  obtain ⟨x0, x1, x2, x3, x4⟩ := hc
  rw [hf] at x1
  have k1 := cell_regrown x1; have k3 := cell_regrown x3; have kw := cell_regrown hw
  obtain ⟨q, hq⟩ : ∃ q, x.sq = q := ⟨_, rfl⟩
  rw [hq] at k3 HK hx1 hx2
  have e0 : (0 : Int) ≤ (f : Int) := by omega
  have e1 : (f : Int) < (n : Int) := by omega
  clear x0 x1 x2 x3 x4 hw hf hq
  by_cases hov : sq + (k : Int) < 18446744073709551616
  · by_cases hqk : q = sq + (k : Int)
    · have d1 : (q == sq + (k : Int)) = true := by simpa using hqk
      have d2 : decide (sq ≤ q) = true := decide_eq_true (by omega)
      rw [decide_eq_true hqk] at HK
      clear hqk
      conv => arg 2; whnf
      refine wp_region_quiet_below (by kernel_rfl) (by kernel_rfl) ?_
      repeat (any_goals (first | go_big_quiet_step (fail) | quiet_step (fail)))
      refine wpQuiet_nil ?_
      intro _ hw'
      obtain ⟨⟨dq, osq⟩, hw''⟩ := hw'
      subst hw''
      exact HK.out _ _ _ _ _ _ _ _ _ _ _ _ _ _ _ _ _ _ _ _ _ (below_regrown _ _ _)
    · have d1 : (q == sq + (k : Int)) = false := by simpa using hqk
      rw [decide_eq_false hqk] at HK
      clear hqk
      conv => arg 2; whnf
      refine wp_region_quiet_below (by kernel_rfl) (by kernel_rfl) ?_
      repeat (any_goals (first | go_big_quiet_step (fail) | quiet_step (fail)))
      refine wpQuiet_nil ?_
      intro _ hw'
      obtain ⟨⟨dq, osq⟩, hw''⟩ := hw'
      subst hw''
      exact HK.out _ _ _ _ _ _ _ _ _ _ _ _ _ _ _ _ _ _ _ _ _ (below_regrown _ _ _)
  · have hz : IntKind.u64.wrap (sq + (k : Int)) = 0 := by
      obtain h9 : sq + (k : Int) = 18446744073709551616 := by omega
      rw [h9]; rfl
    rw [decide_eq_false (by omega)] at HK
    by_cases hq0 : q = 0
    · have d1 : (q == 0) = true := by simpa using hq0
      have d2 : decide (sq ≤ q) = false := decide_eq_false (by omega)
      clear hq0
      conv => arg 2; whnf
      refine wp_region_quiet_below (by kernel_rfl) (by kernel_rfl) ?_
      repeat (any_goals (first | go_big_quiet_step (fail) | quiet_step (fail)))
      refine wpQuiet_nil ?_
      intro _ hw'
      obtain ⟨⟨dq, osq⟩, hw''⟩ := hw'
      subst hw''
      exact HK.out _ _ _ _ _ _ _ _ _ _ _ _ _ _ _ _ _ _ _ _ _ (below_regrown _ _ _)
    · have d1 : (q == 0) = false := by simpa using hq0
      clear hq0
      conv => arg 2; whnf
      refine wp_region_quiet_below (by kernel_rfl) (by kernel_rfl) ?_
      repeat (any_goals (first | go_big_quiet_step (fail) | quiet_step (fail)))
      refine wpQuiet_nil ?_
      intro _ hw'
      obtain ⟨⟨dq, osq⟩, hw''⟩ := hw'
      subst hw''
      exact HK.out _ _ _ _ _ _ _ _ _ _ _ _ _ _ _ _ _ _ _ _ _ (below_regrown _ _ _)
end Go.Proofs.Ytcmdmmphakclmaa
