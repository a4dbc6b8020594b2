/-
  symMerge: one element's walk; the search of the cut.
-/
import Derived.Test.YtponbodiibkopaaSrtC
namespace Go.Proofs.Ytponbodiibkopaa
open Go.RowKit Go.Sort
set_option linter.unusedVariables false

theorem swap_adj2 (X Z : List Fl) (x y : Fl) {k : Nat} (hk : X.length = k) : (X ++ x :: y :: Z)[k]? = some x ∧ (X ++ x :: y :: Z)[k + 1]? = some y ∧ ((X ++ x :: y :: Z).set k y).set (k + 1) x = X ++ y :: x :: Z := by
  subst hk
  refine ⟨by simp, by rw [List.getElem?_append_right (by omega)]; simp, ?_⟩
  rw [List.set_append_right _ _ (Nat.le_refl _), List.set_append_right _ _ (by omega), Nat.sub_self, show X.length + 1 - X.length = 1 by omega]
  rfl
noncomputable def sym_walk1_code : Code := blockOf Try.f28 2
set_option maxRecDepth 100000 in
set_option maxHeartbeats 4000000 in
theorem sym_walk1 {Q : Exit → Act → World → Prop} {s1 s2 s3 s4 s5 s6 s7 s8 s9 s11 s12 s14 s15 s16 s17 s18 s19 s20 s21 s22 s23 s24 s25 s26 s27 s28 s29 s30 s31 s32 s33 s34 s35 s36 s37 s38 s39 s40 s41 s42 s43 s44 s45 s46 s47 s48 s49 s50 s51 s52 s53 s54 s55 s56 s57 s58 s59 s60 s61 s62 s63 s64 s65 s66 s67 s68 s69 s70 s71 s72 s73 s74 s75 s76 s77 s78 s79 s80 s81 s82 s83 s84 s85 s86 s87 s88 s89 s90 s91 s92 s93 s94 s95 s96 s97 s98 s99 s100 s101 s102 s103 s104 s105 s106 s107 s108 s109 s110 s111 s112 s113 s114 s115 s116 s117 s118 s119 s120 s121 s122 s123 s124 s125 s126 s127 s128 s129 s130 s131 s132 s133 s134 s135 s136 s137 s138 s139 s140 s141 s142 s143 s144 s145 s146 s147 s148 s149 s150 s151 s152 s153 s154 s155 s156 s157 s158 s159 s160 s161 s162 s163 s164 s165 s166 s167 s168 s169 s170 s171 s172 s173 s174 s175 s176 s177 s178 s179 s180 s181 s182 s183 s184 s185 s186 s187 s188 s189 s190 s191 s192 s193 s194 s195 s196 s197 s198 s199 s200 s201 s202 s203 s204 s205 s206 s207 s208 s209 s210 s211 s212 s213 s214 s215 s216 s217 s218 s219 : Value} (w : World) (S : Nat → Prop) (g N n : Nat) (a i : Nat) (P R W : List Fl) (x : Fl)
    (hF : Fill Rfl w S g 37 N (P ++ x :: (R ++ W))) (hS : RowS w S g) (hn : (P ++ x :: (R ++ W)).length = n) (hz : n ≤ 2305843009213693952) (hP : P.length = a) (hi : a + 1 + R.length = i)
    (hK : ∀ (d13 d55 d56 d57 d58 d59 d60 d61 d62 d63 d64 d65 d66 d67 d68 d69 d70 d71 d72 d73 d74 d75 d76 : Value) (w' : World), Fill Rfl w' S g 37 N (P ++ (R ++ x :: W)) → Chg g w w' → Q .normal ⟨#[.slice (some ⟨g, 0, none⟩) n N, s1, s2, s3, s4, s5, s6, s7, s8, s9, .int .i64 (i : Nat), s11, s12, d13, s14, s15, s16, s17, s18, s19, s20, s21, s22, s23, s24, s25, s26, s27, s28, s29, s30, s31, s32, s33, s34, s35, s36, s37, s38, s39, s40, s41, s42, s43, s44, s45, s46, s47, s48, s49, s50, s51, s52, s53, s54, d55, d56, d57, d58, d59, d60, d61, d62, d63, d64, d65, d66, d67, d68, d69, d70, d71, d72, d73, d74, d75, d76, s77, s78, s79, s80, s81, s82, s83, s84, s85, s86, s87, s88, s89, s90, s91, s92, s93, s94, s95, s96, s97, s98, s99, s100, s101, s102, s103, s104, s105, s106, s107, s108, s109, s110, s111, s112, s113, s114, s115, s116, s117, s118, s119, s120, s121, s122, s123, s124, s125, s126, s127, s128, s129, s130, s131, s132, s133, s134, s135, s136, s137, s138, s139, s140, s141, s142, s143, s144, s145, s146, s147, s148, s149, s150, s151, s152, s153, s154, s155, s156, s157, s158, s159, s160, s161, s162, s163, s164, s165, s166, s167, s168, s169, s170, s171, s172, s173, s174, s175, s176, s177, s178, s179, s180, s181, s182, s183, s184, s185, s186, s187, s188, s189, s190, s191, s192, s193, s194, s195, s196, s197, s198, s199, s200, s201, s202, s203, s204, s205, s206, s207, s208, s209, s210, s211, s212, s213, s214, s215, s216, s217, s218, s219], []⟩ w') :
    Code.wp Try.prog sym_walk1_code Q ⟨#[.slice (some ⟨g, 0, none⟩) n N, s1, s2, s3, s4, s5, s6, s7, s8, s9, .int .i64 (i : Nat), s11, s12, .int .i64 (a : Nat), s14, s15, s16, s17, s18, s19, s20, s21, s22, s23, s24, s25, s26, s27, s28, s29, s30, s31, s32, s33, s34, s35, s36, s37, s38, s39, s40, s41, s42, s43, s44, s45, s46, s47, s48, s49, s50, s51, s52, s53, s54, s55, s56, s57, s58, s59, s60, s61, s62, s63, s64, s65, s66, s67, s68, s69, s70, s71, s72, s73, s74, s75, s76, s77, s78, s79, s80, s81, s82, s83, s84, s85, s86, s87, s88, s89, s90, s91, s92, s93, s94, s95, s96, s97, s98, s99, s100, s101, s102, s103, s104, s105, s106, s107, s108, s109, s110, s111, s112, s113, s114, s115, s116, s117, s118, s119, s120, s121, s122, s123, s124, s125, s126, s127, s128, s129, s130, s131, s132, s133, s134, s135, s136, s137, s138, s139, s140, s141, s142, s143, s144, s145, s146, s147, s148, s149, s150, s151, s152, s153, s154, s155, s156, s157, s158, s159, s160, s161, s162, s163, s164, s165, s166, s167, s168, s169, s170, s171, s172, s173, s174, s175, s176, s177, s178, s179, s180, s181, s182, s183, s184, s185, s186, s187, s188, s189, s190, s191, s192, s193, s194, s195, s196, s197, s198, s199, s200, s201, s202, s203, s204, s205, s206, s207, s208, s209, s210, s211, s212, s213, s214, s215, s216, s217, s218, s219], []⟩ w := by
  have HK := Lib.hid hK; clear hK
  have hlen : i + W.length = n := by rw [← hn]; simp; omega
  have H0 := Lib.hid (show R = [] ++ R ∧ a + 0 = a ∧ Fill Rfl w S g 37 N (P ++ ([] ++ x :: (R ++ W))) ∧ Chg g w w from ⟨rfl, rfl, hF, Chg.refl _ _⟩)
  obtain ⟨i1, hi1⟩ : ∃ i1, a + R.length = i1 := ⟨_, rfl⟩
  have hii := Lib.hid (show i = i1 + 1 by omega)
  have hin : i ≤ n := by omega
  have HX := Lib.hid (And.intro hS (And.intro hP (And.intro hi1 (And.intro hn hlen))))
  clear hF hS hn hP hi hlen hi1
  conv => arg 2; whnf
  go_wp2
  go_loopw [13] (fun v wr => ∃ (U V : List Fl) (k : Nat), v = .int .i64 (k : Nat) ∧ Hid (R = U ++ V ∧ a + U.length = k ∧ Fill Rfl wr S g 37 N (P ++ (U ++ x :: (V ++ W))) ∧ Chg g w wr)) (fun v _ => n - (intOf v).toNat)
  case atStart => exact ⟨[], R, a, rfl, Lib.hid ⟨rfl, by simp, H0.out.2.2⟩⟩
  case round =>
    clear H0
    obtain ⟨U, V, k, rfl, HR⟩ := hrel
    obtain ⟨wi, rfl⟩ : ∃ wi : World, wi = wr := ⟨_, rfl⟩
    have hRl := congrArg List.length HR.out.1
    rw [List.length_append] at hRl
    rcases V with _ | ⟨y, V'⟩
    · have hk : ¬ k < i1 := by have h1 := HR.out.2.1; have h2 := HX.out.2.2.1; simp at hRl; omega
      have d : decide ((k : Int) < (i : Int) - 1) = false := decide_eq_false (by have := hii.out; omega)
      have HF := Lib.hid (show Fill Rfl wi S g 37 N (P ++ (R ++ x :: W)) from by have h1 := HR.out.2.2.1; rw [HR.out.1]; simpa using h1)
      clear hRl
      go_wp2
      exact HK.out _ _ _ _ _ _ _ _ _ _ _ _ _ _ _ _ _ _ _ _ _ _ _ _ HF.out HR.out.2.2.2
    · have hk : k < i1 := by have h1 := HR.out.2.1; have h2 := HX.out.2.2.1; simp at hRl; omega
      have d : decide ((k : Int) < (i : Int) - 1) = true := decide_eq_true (by have := hii.out; omega)
      have hi1n : i1 < n := by have h1 := HX.out.2.2.2.2; have := hii.out; omega
      have hPl : (P ++ U).length = k := by rw [List.length_append, HX.out.2.1]; exact HR.out.2.1
      have hadj := swap_adj2 (P ++ U) (V' ++ W) x y hPl
      have hFi : Fill Rfl wi S g 37 N ((P ++ U) ++ x :: y :: (V' ++ W)) := by have h1 := HR.out.2.2.1; simpa using h1
      have hnn : ((P ++ U) ++ x :: y :: (V' ++ W)).length = n := by have h1 := HX.out.2.2.2.1; rw [← h1, HR.out.1]; simp; omega
      have hwj : IntKind.i64.wrap ((k : Int) + 1) = ((k + 1 : Nat) : Int) := wrap_nat (by simp) (by omega)
      have hSi := HX.out.1.up HR.out.2.2.2.bel.size
      have HA := Lib.hid (And.intro hFi (And.intro hadj (And.intro hnn hwj)))
      clear hFi hadj hnn hwj hPl hRl
      go_upto_region 11 with fail
      refine sym_r11 wi S g N n k (k + 1) _ x y HA.out.1 hSi.not HA.out.2.2.1 HA.out.2.1.1 HA.out.2.1.2.1 HA.out.2.2.2 ?_
      intro d61 d62 d63 d64 d65 d66 d67 d68 d69 d70 d71 d72 d73 d74 d75 d76 w1 hF1 hC1
      rw [HA.out.2.1.2.2] at hF1
      have H1 := Lib.hid (show R = (U ++ [y]) ++ V' ∧ a + (U ++ [y]).length = k + 1 ∧ Fill Rfl w1 S g 37 N (P ++ ((U ++ [y]) ++ x :: (V' ++ W))) ∧ Chg g w w1 from ⟨by rw [HR.out.1]; simp, by have h1 := HR.out.2.1; simp; omega, by simpa using hF1, HR.out.2.2.2.trans hC1⟩)
      clear hF1 hC1
      go_wp2
      go_roundw
      case measure => simp [intOf]; omega
      case rel => exact ⟨U ++ [y], V', k + 1, by go_num, H1⟩
noncomputable def sym_walk6_code : Code := blockOf Try.f28 6
set_option maxRecDepth 100000 in
set_option maxHeartbeats 4000000 in
theorem sym_walk6 {Q : Exit → Act → World → Prop} {s1 s2 s3 s4 s5 s6 s7 s8 s9 s10 s11 s12 s13 s15 s16 s18 s19 s20 s21 s22 s23 s24 s25 s26 s27 s28 s29 s30 s31 s32 s33 s34 s35 s36 s37 s38 s39 s40 s41 s42 s43 s44 s45 s46 s47 s48 s49 s50 s51 s52 s53 s54 s55 s56 s57 s58 s59 s60 s61 s62 s63 s64 s65 s66 s67 s68 s69 s70 s71 s72 s73 s74 s75 s76 s77 s78 s79 s80 s81 s82 s83 s84 s85 s86 s87 s88 s89 s90 s91 s92 s93 s94 s95 s96 s97 s98 s99 s100 s101 s102 s103 s104 s105 s106 s107 s108 s109 s110 s111 s112 s113 s114 s115 s116 s117 s118 s119 s120 s121 s122 s123 s124 s125 s126 s127 s128 s129 s130 s131 s132 s133 s134 s135 s136 s137 s138 s139 s140 s141 s142 s143 s144 s145 s146 s147 s148 s149 s150 s151 s152 s153 s154 s155 s156 s157 s158 s159 s160 s161 s162 s163 s164 s165 s166 s167 s168 s169 s170 s171 s172 s173 s174 s175 s176 s177 s178 s179 s180 s181 s182 s183 s184 s185 s186 s187 s188 s189 s190 s191 s192 s193 s194 s195 s196 s197 s198 s199 s200 s201 s202 s203 s204 s205 s206 s207 s208 s209 s210 s211 s212 s213 s214 s215 s216 s217 s218 s219 : Value} (w : World) (S : Nat → Prop) (g N n : Nat) (i m : Nat) (P L W : List Fl) (y : Fl)
    (hF : Fill Rfl w S g 37 N (P ++ (L ++ y :: W))) (hS : RowS w S g) (hn : (P ++ (L ++ y :: W)).length = n) (hz : n ≤ 2305843009213693952) (hP : P.length = i) (hm : i + L.length = m)
    (hK : ∀ (d17 d108 d109 d110 d111 d112 d113 d114 d115 d116 d117 d118 d119 d120 d121 d122 d123 d124 d125 d126 d127 d128 : Value) (w' : World), Fill Rfl w' S g 37 N (P ++ y :: (L ++ W)) → Chg g w w' → Q .normal ⟨#[.slice (some ⟨g, 0, none⟩) n N, s1, s2, s3, s4, s5, s6, s7, s8, s9, s10, s11, s12, s13, .int .i64 (i : Nat), s15, s16, d17, s18, s19, s20, s21, s22, s23, s24, s25, s26, s27, s28, s29, s30, s31, s32, s33, s34, s35, s36, s37, s38, s39, s40, s41, s42, s43, s44, s45, s46, s47, s48, s49, s50, s51, s52, s53, s54, s55, s56, s57, s58, s59, s60, s61, s62, s63, s64, s65, s66, s67, s68, s69, s70, s71, s72, s73, s74, s75, s76, s77, s78, s79, s80, s81, s82, s83, s84, s85, s86, s87, s88, s89, s90, s91, s92, s93, s94, s95, s96, s97, s98, s99, s100, s101, s102, s103, s104, s105, s106, s107, d108, d109, d110, d111, d112, d113, d114, d115, d116, d117, d118, d119, d120, d121, d122, d123, d124, d125, d126, d127, d128, s129, s130, s131, s132, s133, s134, s135, s136, s137, s138, s139, s140, s141, s142, s143, s144, s145, s146, s147, s148, s149, s150, s151, s152, s153, s154, s155, s156, s157, s158, s159, s160, s161, s162, s163, s164, s165, s166, s167, s168, s169, s170, s171, s172, s173, s174, s175, s176, s177, s178, s179, s180, s181, s182, s183, s184, s185, s186, s187, s188, s189, s190, s191, s192, s193, s194, s195, s196, s197, s198, s199, s200, s201, s202, s203, s204, s205, s206, s207, s208, s209, s210, s211, s212, s213, s214, s215, s216, s217, s218, s219], []⟩ w') :
    Code.wp Try.prog sym_walk6_code Q ⟨#[.slice (some ⟨g, 0, none⟩) n N, s1, s2, s3, s4, s5, s6, s7, s8, s9, s10, s11, s12, s13, .int .i64 (i : Nat), s15, s16, .int .i64 (m : Nat), s18, s19, s20, s21, s22, s23, s24, s25, s26, s27, s28, s29, s30, s31, s32, s33, s34, s35, s36, s37, s38, s39, s40, s41, s42, s43, s44, s45, s46, s47, s48, s49, s50, s51, s52, s53, s54, s55, s56, s57, s58, s59, s60, s61, s62, s63, s64, s65, s66, s67, s68, s69, s70, s71, s72, s73, s74, s75, s76, s77, s78, s79, s80, s81, s82, s83, s84, s85, s86, s87, s88, s89, s90, s91, s92, s93, s94, s95, s96, s97, s98, s99, s100, s101, s102, s103, s104, s105, s106, s107, s108, s109, s110, s111, s112, s113, s114, s115, s116, s117, s118, s119, s120, s121, s122, s123, s124, s125, s126, s127, s128, s129, s130, s131, s132, s133, s134, s135, s136, s137, s138, s139, s140, s141, s142, s143, s144, s145, s146, s147, s148, s149, s150, s151, s152, s153, s154, s155, s156, s157, s158, s159, s160, s161, s162, s163, s164, s165, s166, s167, s168, s169, s170, s171, s172, s173, s174, s175, s176, s177, s178, s179, s180, s181, s182, s183, s184, s185, s186, s187, s188, s189, s190, s191, s192, s193, s194, s195, s196, s197, s198, s199, s200, s201, s202, s203, s204, s205, s206, s207, s208, s209, s210, s211, s212, s213, s214, s215, s216, s217, s218, s219], []⟩ w := by
  have HK := Lib.hid hK; clear hK
  have hlen : m + 1 + W.length = n := by rw [← hn]; simp; omega
  have H0 := Lib.hid (show L = L ++ [] ∧ i + L.length = m ∧ Fill Rfl w S g 37 N (P ++ (L ++ y :: ([] ++ W))) ∧ Chg g w w from ⟨by simp, hm, hF, Chg.refl _ _⟩)
  have HX := Lib.hid (And.intro hS (And.intro hP (And.intro hm (And.intro hn hlen))))
  clear hF hS hn hP hm hlen
  conv => arg 2; whnf
  go_wp2
  go_loopw [17] (fun v wr => ∃ (U V : List Fl) (k : Nat), v = .int .i64 (k : Nat) ∧ Hid (L = U ++ V ∧ i + U.length = k ∧ Fill Rfl wr S g 37 N (P ++ (U ++ y :: (V ++ W))) ∧ Chg g w wr)) (fun v _ => (intOf v).toNat)
  case atStart => exact ⟨L, [], m, rfl, Lib.hid ⟨by simp, H0.out.2.1, H0.out.2.2.1, H0.out.2.2.2⟩⟩
  case round =>
    clear H0
    obtain ⟨U, V, k, rfl, HR⟩ := hrel
    obtain ⟨wi, rfl⟩ : ∃ wi : World, wi = wr := ⟨_, rfl⟩
    have hLl := congrArg List.length HR.out.1
    rw [List.length_append] at hLl
    have hkm : k ≤ m := by have h1 := HR.out.2.1; have h2 := HX.out.2.2.1; omega
    have hmn : m < n := by have h1 := HX.out.2.2.2.2; omega
    rcases List.eq_nil_or_concat U with h0 | ⟨U', z, h0⟩
    · have hk : ¬ i < k := by have h1 := HR.out.2.1; rw [h0] at h1; simp at h1; omega
      have d : decide (i < k) = false := decide_eq_false hk
      have HF := Lib.hid (show Fill Rfl wi S g 37 N (P ++ y :: (L ++ W)) from by have h1 := HR.out.2.2.1; rw [HR.out.1, h0]; rw [h0] at h1; simpa using h1)
      clear hLl h0
      go_wp2
      exact HK.out _ _ _ _ _ _ _ _ _ _ _ _ _ _ _ _ _ _ _ _ _ _ _ HF.out HR.out.2.2.2
    · rw [List.concat_eq_append] at h0
      obtain ⟨j, hj⟩ : ∃ j, i + U'.length = j := ⟨_, rfl⟩
      have hkj : k = j + 1 := by have h1 := HR.out.2.1; rw [h0] at h1; simp at h1; omega
      have d : decide (i < k) = true := decide_eq_true (by omega)
      have hPl : (P ++ U').length = j := by rw [List.length_append, HX.out.2.1]; exact hj
      have hadj := swap_adj (P ++ U') (V ++ W) z y hPl
      rw [← hkj] at hadj
      have hFi : Fill Rfl wi S g 37 N ((P ++ U') ++ z :: y :: (V ++ W)) := by have h1 := HR.out.2.2.1; rw [h0] at h1; simpa using h1
      have hnn : ((P ++ U') ++ z :: y :: (V ++ W)).length = n := by have h1 := HX.out.2.2.2.1; rw [← h1, HR.out.1, h0]; simp; omega
      have hwj : IntKind.i64.wrap ((k : Int) - 1) = (j : Int) := wrap_nat (by omega) (by omega)
      have hSi := HX.out.1.up HR.out.2.2.2.bel.size
      have HA := Lib.hid (And.intro hFi (And.intro hadj (And.intro hnn (And.intro hwj (And.intro hj h0)))))
      have HKJ := Lib.hid hkj
      clear hFi hadj hnn hwj hPl hLl hj h0 hkj
      go_upto_region 23 with fail
      refine sym_r23 wi S g N n k j _ y z HA.out.1 hSi.not HA.out.2.2.1 HA.out.2.1.2.1 HA.out.2.1.1 HA.out.2.2.2.1 ?_
      intro d113 d114 d115 d116 d117 d118 d119 d120 d121 d122 d123 d124 d125 d126 d127 d128 w1 hF1 hC1
      rw [HA.out.2.1.2.2] at hF1
      have H1 := Lib.hid (show L = U' ++ (z :: V) ∧ i + U'.length = j ∧ Fill Rfl w1 S g 37 N (P ++ (U' ++ y :: ((z :: V) ++ W))) ∧ Chg g w w1 from ⟨by rw [HR.out.1, HA.out.2.2.2.2.2]; simp, HA.out.2.2.2.2.1, by simpa using hF1, HR.out.2.2.2.trans hC1⟩)
      clear hF1 hC1
      go_wp2
      go_roundw
      case measure => have := HKJ.out; simp [intOf]; omega
      case rel => exact ⟨U', z :: V, j, by have := HKJ.out; go_num, H1⟩
/-- The key at a place. -/
def keyAt (xs : List Fl) (c : Nat) : Int := ((xs[c]?).map Fl.tm).getD 0
theorem keyAt_eq {xs : List Fl} {c : Nat} {x : Fl} (h : xs[c]? = some x) : keyAt xs c = x.tm := by simp [keyAt, h]
noncomputable def sym_cut_code : Code := blockOf Try.f28 8
set_option maxRecDepth 100000 in
set_option maxHeartbeats 4000000 in
theorem sym_cut {Q : Exit → Act → World → Prop} {s1 s2 s3 s5 s6 s7 s8 s9 s10 s11 s12 s13 s14 s15 s16 s17 s18 s19 s23 s24 s25 s26 s27 s28 s29 s30 s31 s32 s33 s34 s35 s36 s37 s38 s39 s40 s41 s42 s43 s44 s45 s46 s47 s48 s49 s50 s51 s52 s53 s54 s55 s56 s57 s58 s59 s60 s61 s62 s63 s64 s65 s66 s67 s68 s69 s70 s71 s72 s73 s74 s75 s76 s77 s78 s79 s80 s81 s82 s83 s84 s85 s86 s87 s88 s89 s90 s91 s92 s93 s94 s95 s96 s97 s98 s99 s100 s101 s102 s103 s104 s105 s106 s107 s108 s109 s110 s111 s112 s113 s114 s115 s116 s117 s118 s119 s120 s121 s122 s123 s124 s125 s126 s127 s128 s129 s130 s131 s132 s133 s134 s135 s136 s137 s138 s139 s140 s141 s142 s143 s144 s145 s146 s147 s148 s149 s150 s151 s152 s153 s154 s155 s156 s157 s158 s159 s160 s161 s162 s163 s164 s165 s166 s167 s168 s169 s170 s171 s172 s173 s174 s175 s176 s177 s178 s179 s180 s181 s182 s183 s184 s185 s186 s187 s188 s189 s190 s191 s192 s193 s194 s195 s196 s197 s198 s199 s200 s201 s202 s203 s204 s205 s206 s207 s208 s209 s210 s211 s212 s213 s214 s215 s216 s217 s218 s219 : Value} (w : World) (S : Nat → Prop) (g N n : Nat) (a m b lo0 hi0 p : Nat) (xs : List Fl)
    (hF : Fill Rfl w S g 37 N xs) (hS : RowS w S g) (hn : xs.length = n) (hz : n ≤ 2305843009213693952) (hB : SymB a m b lo0 hi0 p) (hb : b ≤ n) (hm : m ≤ b)
    (hL : ∀ i j, a ≤ i → i ≤ j → j < m → keyAt xs i ≤ keyAt xs j) (hR : ∀ i j, m ≤ i → i ≤ j → j < b → keyAt xs i ≤ keyAt xs j)
    (hK : ∀ (d23 d149 d150 d151 d152 d153 d154 d155 d156 d157 d158 d159 d160 d161 d162 d163 d164 d165 d166 d167 d168 d169 d170 d171 d172 d173 d174 : Value) (w' : World) (s : Nat), SymS (keyAt xs) lo0 hi0 p s s → Fill Rfl w' S g 37 N xs → Chg g w w' → Q .normal ⟨#[.slice (some ⟨g, 0, none⟩) n N, s1, s2, s3, lessV, s5, s6, s7, s8, s9, s10, s11, s12, s13, s14, s15, s16, s17, s18, s19, .int .i64 (s : Nat), .int .i64 (s : Nat), .int .i64 (p : Nat), d23, s24, s25, s26, s27, s28, s29, s30, s31, s32, s33, s34, s35, s36, s37, s38, s39, s40, s41, s42, s43, s44, s45, s46, s47, s48, s49, s50, s51, s52, s53, s54, s55, s56, s57, s58, s59, s60, s61, s62, s63, s64, s65, s66, s67, s68, s69, s70, s71, s72, s73, s74, s75, s76, s77, s78, s79, s80, s81, s82, s83, s84, s85, s86, s87, s88, s89, s90, s91, s92, s93, s94, s95, s96, s97, s98, s99, s100, s101, s102, s103, s104, s105, s106, s107, s108, s109, s110, s111, s112, s113, s114, s115, s116, s117, s118, s119, s120, s121, s122, s123, s124, s125, s126, s127, s128, s129, s130, s131, s132, s133, s134, s135, s136, s137, s138, s139, s140, s141, s142, s143, s144, s145, s146, s147, s148, d149, d150, d151, d152, d153, d154, d155, d156, d157, d158, d159, d160, d161, d162, d163, d164, d165, d166, d167, d168, d169, d170, d171, d172, d173, d174, s175, s176, s177, s178, s179, s180, s181, s182, s183, s184, s185, s186, s187, s188, s189, s190, s191, s192, s193, s194, s195, s196, s197, s198, s199, s200, s201, s202, s203, s204, s205, s206, s207, s208, s209, s210, s211, s212, s213, s214, s215, s216, s217, s218, s219], []⟩ w') :
    Code.wp Try.prog sym_cut_code Q ⟨#[.slice (some ⟨g, 0, none⟩) n N, s1, s2, s3, lessV, s5, s6, s7, s8, s9, s10, s11, s12, s13, s14, s15, s16, s17, s18, s19, .int .i64 (lo0 : Nat), .int .i64 (hi0 : Nat), .int .i64 (p : Nat), s23, s24, s25, s26, s27, s28, s29, s30, s31, s32, s33, s34, s35, s36, s37, s38, s39, s40, s41, s42, s43, s44, s45, s46, s47, s48, s49, s50, s51, s52, s53, s54, s55, s56, s57, s58, s59, s60, s61, s62, s63, s64, s65, s66, s67, s68, s69, s70, s71, s72, s73, s74, s75, s76, s77, s78, s79, s80, s81, s82, s83, s84, s85, s86, s87, s88, s89, s90, s91, s92, s93, s94, s95, s96, s97, s98, s99, s100, s101, s102, s103, s104, s105, s106, s107, s108, s109, s110, s111, s112, s113, s114, s115, s116, s117, s118, s119, s120, s121, s122, s123, s124, s125, s126, s127, s128, s129, s130, s131, s132, s133, s134, s135, s136, s137, s138, s139, s140, s141, s142, s143, s144, s145, s146, s147, s148, s149, s150, s151, s152, s153, s154, s155, s156, s157, s158, s159, s160, s161, s162, s163, s164, s165, s166, s167, s168, s169, s170, s171, s172, s173, s174, s175, s176, s177, s178, s179, s180, s181, s182, s183, s184, s185, s186, s187, s188, s189, s190, s191, s192, s193, s194, s195, s196, s197, s198, s199, s200, s201, s202, s203, s204, s205, s206, s207, s208, s209, s210, s211, s212, s213, s214, s215, s216, s217, s218, s219], []⟩ w := by
  have HK := Lib.hid hK; clear hK
  have H0 := Lib.hid (show SymS (keyAt xs) lo0 hi0 p lo0 hi0 ∧ Fill Rfl w S g 37 N xs ∧ Chg g w w from ⟨SymS.start hB.le, hF, Chg.refl _ _⟩)
  have HX := Lib.hid (And.intro hS (And.intro hB (And.intro hn (And.intro hL hR))))
  clear hF hS hn hB hL hR
  conv => arg 2; whnf
  go_wp2
  go_loopw [20, 21] (fun v u wr => ∃ (s r : Nat), v = .int .i64 (s : Nat) ∧ u = .int .i64 (r : Nat) ∧ Hid (SymS (keyAt xs) lo0 hi0 p s r ∧ Fill Rfl wr S g 37 N xs ∧ Chg g w wr)) (fun v u _ => (intOf u).toNat - (intOf v).toNat)
  case atStart => exact ⟨lo0, hi0, rfl, rfl, H0⟩
  case round =>
    clear H0
    obtain ⟨s, r, rfl, rfl, HR⟩ := hrel
    obtain ⟨wi, rfl⟩ : ∃ wi : World, wi = wr := ⟨_, rfl⟩
    by_cases hlt : s < r
    · have d : decide (s < r) = true := decide_eq_true hlt
      have hrn : r ≤ n := by have h1 := HR.out.1.h3; have h2 := HX.out.2.1.hm; omega
      go_upto_region 35 with fail
      obtain ⟨c, hc⟩ : ∃ c, (s + r) / 2 = c := ⟨_, rfl⟩
      have hic : ((s : Int) + (r : Int)) / 2 = (c : Int) := by omega
      have hsc : s ≤ c := by omega
      have hcr : c < r := by omega
      obtain ⟨q1, q2, q3⟩ := HX.out.2.1.pm c (by have h1 := HR.out.1.h1; omega) (by have h1 := HR.out.1.h3; omega)
      have hcl : c < xs.length := by rw [HX.out.2.2.1]; omega
      have hpl : p - c < xs.length := by rw [HX.out.2.2.1]; omega
      have hy := List.getElem?_eq_getElem (l := xs) (i := c) hcl
      have hx := List.getElem?_eq_getElem (l := xs) (i := p - c) hpl
      generalize xs[c]'hcl = y at hy
      generalize xs[p - c]'hpl = x at hx
      have k1 := keyAt_eq hx; have k2 := keyAt_eq hy
      obtain ⟨i, hi⟩ : ∃ i, p - c = i := ⟨_, rfl⟩
      have hwi : IntKind.i64.wrap ((p : Int) - (c : Int)) = (i : Int) := wrap_nat (by omega) (by omega)
      rw [hi] at hx
      have hSi := HX.out.1.up HR.out.2.2.bel.size
      have HY := Lib.hid (And.intro hx (And.intro hy (And.intro k1 (And.intro k2 (And.intro hwi hic)))))
      have HH := Lib.hid (And.intro hsc hcr)
      clear hx hy k1 k2 hi hwi hic hc hcl hpl q1 q2 q3 hsc hcr
      rw [HY.out.2.2.2.2.2]
      by_cases hq : x.tm < y.tm
      · refine sym_r35 wi S g N n p i c xs x y true HR.out.2.1 hSi HX.out.2.2.1 HY.out.1 HY.out.2.1 (decide_eq_true hq) HY.out.2.2.2.2.1 ?_
        intro d158 d159 d160 d161 d162 d163 d164 d165 d166 d167 d168 d169 d170 w1 hF1 hC1
        have H1 := Lib.hid (show SymS (keyAt xs) lo0 hi0 p s c ∧ Fill Rfl w1 S g 37 N xs ∧ Chg g w w1 from ⟨HR.out.1.down HX.out.2.1 HX.out.2.2.2.1 HX.out.2.2.2.2 HH.out.1 HH.out.2 (by rw [HY.out.2.2.1, HY.out.2.2.2.1]; exact hq), hF1, HR.out.2.2.trans hC1⟩)
        have hcr' := HH.out.2; have hsc' := HH.out.1
        clear hF1 hC1
        go_wp2
        go_roundw
        case measure => simp [intOf]; omega
        case rel => exact ⟨s, c, rfl, rfl, H1⟩
      · refine sym_r35 wi S g N n p i c xs x y false HR.out.2.1 hSi HX.out.2.2.1 HY.out.1 HY.out.2.1 (decide_eq_false hq) HY.out.2.2.2.2.1 ?_
        intro d158 d159 d160 d161 d162 d163 d164 d165 d166 d167 d168 d169 d170 w1 hF1 hC1
        have H1 := Lib.hid (show SymS (keyAt xs) lo0 hi0 p (c + 1) r ∧ Fill Rfl w1 S g 37 N xs ∧ Chg g w w1 from ⟨HR.out.1.up HX.out.2.1 HX.out.2.2.2.1 HX.out.2.2.2.2 HH.out.1 HH.out.2 (by rw [HY.out.2.2.1, HY.out.2.2.2.1]; omega), hF1, HR.out.2.2.trans hC1⟩)
        have hcr' := HH.out.2; have hsc' := HH.out.1
        clear hF1 hC1
        go_wp2
        go_roundw
        case measure => simp [intOf]; omega
        case rel => exact ⟨c + 1, r, by go_num, rfl, H1⟩
    · have d : decide (s < r) = false := decide_eq_false hlt
      have hsr : s = r := by have h1 := HR.out.1.h2; omega
      subst hsr
      go_wp2
      exact HK.out _ _ _ _ _ _ _ _ _ _ _ _ _ _ _ _ _ _ _ _ _ _ _ _ _ _ _ _ s HR.out.1 HR.out.2.1 HR.out.2.2
end Go.Proofs.Ytponbodiibkopaa
