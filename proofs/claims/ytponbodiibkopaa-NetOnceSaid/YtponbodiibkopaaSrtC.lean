/-
  symMerge: its searches and its walks of one element.
-/
import Derived.Test.YtponbodiibkopaaSrtR
namespace Go.Proofs.Ytponbodiibkopaa
open Go.RowKit Go.Sort
set_option linter.unusedVariables false

/-- The search of one element's place: what is known left of s and right of r. -/
structure OneS (low high : Fl → Prop) (R : List Fl) (s r : Nat) : Prop where
  le : s ≤ r
  rl : r ≤ R.length
  lo : ∀ y ∈ R.take s, low y
  hi : ∀ y ∈ R.drop r, high y
theorem OneS.start (low high : Fl → Prop) (R : List Fl) : OneS low high R 0 R.length := ⟨Nat.zero_le _, Nat.le_refl _, fun y h => by simp at h, fun y h => by simp at h⟩
theorem sorted_le {R : List Fl} (hR : SortedK Fl.tm R) {i j : Nat} {x y : Fl} (hx : R[i]? = some x) (hy : R[j]? = some y) (hij : i ≤ j) : x.tm ≤ y.tm := by
  rcases Nat.lt_or_eq_of_le hij with h | h
  · obtain ⟨hi, rfl⟩ := List.getElem?_eq_some_iff.1 hx
    obtain ⟨hj, rfl⟩ := List.getElem?_eq_some_iff.1 hy
    exact List.pairwise_iff_getElem.1 hR i j hi hj h
  · subst h; rw [hx] at hy; rw [Option.some.inj hy]; exact Int.le_refl _
theorem OneS.up {low high : Fl → Prop} {R : List Fl} {s r c : Nat} (h : OneS low high R s r) (hR : SortedK Fl.tm R) {z : Fl} (hz : R[c]? = some z) (hcr : c < r) (hsc : s ≤ c) (hlow : ∀ y : Fl, y.tm ≤ z.tm → low y) : OneS low high R (c + 1) r :=
  ⟨by omega, h.rl, fun y hy => by
    obtain ⟨i, hi⟩ := List.mem_iff_getElem?.1 hy
    have hic : i < c + 1 := by
      have := (List.getElem?_eq_some_iff.1 hi).1
      rw [List.length_take] at this; omega
    rw [List.getElem?_take, if_pos hic] at hi
    exact hlow y (sorted_le hR hi hz (by omega)), h.hi⟩
theorem OneS.down {low high : Fl → Prop} {R : List Fl} {s r c : Nat} (h : OneS low high R s r) (hR : SortedK Fl.tm R) {z : Fl} (hz : R[c]? = some z) (hsc : s ≤ c) (hcr : c < r) (hhigh : ∀ y : Fl, z.tm ≤ y.tm → high y) : OneS low high R s c :=
  ⟨hsc, by have := h.rl; omega, h.lo, fun y hy => by
    obtain ⟨i, hi⟩ := List.mem_iff_getElem?.1 hy
    rw [List.getElem?_drop] at hi
    exact hhigh y (sorted_le hR hz hi (by omega))⟩
noncomputable def sym_loop1_code : Code := blockOf Try.f28 0
set_option maxRecDepth 100000 in
set_option maxHeartbeats 4000000 in
theorem sym_loop1 {Q : Exit → Act → World → Prop} {s2 s3 s5 s6 s7 s8 s9 s12 s13 s14 s15 s16 s17 s18 s19 s20 s21 s22 s23 s24 s25 s26 s27 s28 s29 s30 s31 s32 s33 s34 s35 s36 s37 s38 s39 s40 s41 s42 s43 s44 s45 s46 s47 s48 s49 s50 s51 s52 s53 s54 s55 s56 s57 s58 s59 s60 s61 s62 s63 s64 s65 s66 s67 s68 s69 s70 s71 s72 s73 s74 s75 s76 s77 s78 s79 s80 s81 s82 s83 s84 s85 s86 s87 s88 s89 s90 s91 s92 s93 s94 s95 s96 s97 s98 s99 s100 s101 s102 s103 s104 s105 s106 s107 s108 s109 s110 s111 s112 s113 s114 s115 s116 s117 s118 s119 s120 s121 s122 s123 s124 s125 s126 s127 s128 s129 s130 s131 s132 s133 s134 s135 s136 s137 s138 s139 s140 s141 s142 s143 s144 s145 s146 s147 s148 s149 s150 s151 s152 s153 s154 s155 s156 s157 s158 s159 s160 s161 s162 s163 s164 s165 s166 s167 s168 s169 s170 s171 s172 s173 s174 s175 s176 s177 s178 s179 s180 s181 s182 s183 s184 s185 s186 s187 s188 s189 s190 s191 s192 s193 s194 s195 s196 s197 s198 s199 s200 s201 s202 s203 s204 s205 s206 s207 s208 s209 s210 s211 s212 s213 s214 s215 s216 s217 s218 s219 : Value} (w : World) (S : Nat → Prop) (g N n : Nat) (a m b : Nat) (P R Qs : List Fl) (x : Fl)
    (hF : Fill Rfl w S g 37 N (P ++ x :: (R ++ Qs))) (hS : RowS w S g) (hn : (P ++ x :: (R ++ Qs)).length = n) (hz : n ≤ 2305843009213693952) (hP : P.length = a) (hm : a + 1 = m) (hb : a + 1 + R.length = b) (hR : SortedK Fl.tm R)
    (hK : ∀ (d12 d31 d32 d33 d34 d35 d36 d37 d38 d39 d40 d41 d42 d43 d44 d45 d46 d47 d48 d49 d50 d51 d52 d53 : Value) (w' : World) (s i : Nat), a + 1 + s = i → OneS (fun y => y.tm < x.tm) (fun y => x.tm ≤ y.tm) R s s → Fill Rfl w' S g 37 N (P ++ x :: (R ++ Qs)) → Chg g w w' → Q .normal ⟨#[.slice (some ⟨g, 0, none⟩) n N, .int .i64 (a : Nat), s2, s3, lessV, s5, s6, s7, s8, s9, .int .i64 (i : Nat), .int .i64 (i : Nat), d12, s13, s14, s15, s16, s17, s18, s19, s20, s21, s22, s23, s24, s25, s26, s27, s28, s29, s30, d31, d32, d33, d34, d35, d36, d37, d38, d39, d40, d41, d42, d43, d44, d45, d46, d47, d48, d49, d50, d51, d52, d53, s54, s55, s56, s57, s58, s59, s60, s61, s62, s63, s64, s65, s66, s67, s68, s69, s70, s71, s72, s73, s74, s75, s76, s77, s78, s79, s80, s81, s82, s83, s84, s85, s86, s87, s88, s89, s90, s91, s92, s93, s94, s95, s96, s97, s98, s99, s100, s101, s102, s103, s104, s105, s106, s107, s108, s109, s110, s111, s112, s113, s114, s115, s116, s117, s118, s119, s120, s121, s122, s123, s124, s125, s126, s127, s128, s129, s130, s131, s132, s133, s134, s135, s136, s137, s138, s139, s140, s141, s142, s143, s144, s145, s146, s147, s148, s149, s150, s151, s152, s153, s154, s155, s156, s157, s158, s159, s160, s161, s162, s163, s164, s165, s166, s167, s168, s169, s170, s171, s172, s173, s174, s175, s176, s177, s178, s179, s180, s181, s182, s183, s184, s185, s186, s187, s188, s189, s190, s191, s192, s193, s194, s195, s196, s197, s198, s199, s200, s201, s202, s203, s204, s205, s206, s207, s208, s209, s210, s211, s212, s213, s214, s215, s216, s217, s218, s219], []⟩ w') :
    Code.wp Try.prog sym_loop1_code Q ⟨#[.slice (some ⟨g, 0, none⟩) n N, .int .i64 (a : Nat), s2, s3, lessV, s5, s6, s7, s8, s9, .int .i64 (m : Nat), .int .i64 (b : Nat), s12, s13, s14, s15, s16, s17, s18, s19, s20, s21, s22, s23, s24, s25, s26, s27, s28, s29, s30, s31, s32, s33, s34, s35, s36, s37, s38, s39, s40, s41, s42, s43, s44, s45, s46, s47, s48, s49, s50, s51, s52, s53, s54, s55, s56, s57, s58, s59, s60, s61, s62, s63, s64, s65, s66, s67, s68, s69, s70, s71, s72, s73, s74, s75, s76, s77, s78, s79, s80, s81, s82, s83, s84, s85, s86, s87, s88, s89, s90, s91, s92, s93, s94, s95, s96, s97, s98, s99, s100, s101, s102, s103, s104, s105, s106, s107, s108, s109, s110, s111, s112, s113, s114, s115, s116, s117, s118, s119, s120, s121, s122, s123, s124, s125, s126, s127, s128, s129, s130, s131, s132, s133, s134, s135, s136, s137, s138, s139, s140, s141, s142, s143, s144, s145, s146, s147, s148, s149, s150, s151, s152, s153, s154, s155, s156, s157, s158, s159, s160, s161, s162, s163, s164, s165, s166, s167, s168, s169, s170, s171, s172, s173, s174, s175, s176, s177, s178, s179, s180, s181, s182, s183, s184, s185, s186, s187, s188, s189, s190, s191, s192, s193, s194, s195, s196, s197, s198, s199, s200, s201, s202, s203, s204, s205, s206, s207, s208, s209, s210, s211, s212, s213, s214, s215, s216, s217, s218, s219], []⟩ w := by
  have HK := Lib.hid hK; clear hK
  have hlen : b + Qs.length = n := by rw [← hn]; simp; omega
  have H0 := Lib.hid (show OneS (fun y => y.tm < x.tm) (fun y => x.tm ≤ y.tm) R 0 R.length ∧ a + 1 + R.length = b ∧ Fill Rfl w S g 37 N (P ++ x :: (R ++ Qs)) ∧ Chg g w w from ⟨OneS.start _ _ _, hb, hF, Chg.refl _ _⟩)
  have HX := Lib.hid (And.intro hS (And.intro hP (And.intro hb (And.intro hR (And.intro hn hlen)))))
  have HM := Lib.hid hm
  clear hF hS hn hP hb hR hlen hm
  conv => arg 2; whnf
  go_wp2
  go_loopw [10, 11] (fun v u wr => ∃ (s r i j : Nat), v = .int .i64 (i : Nat) ∧ u = .int .i64 (j : Nat) ∧ Hid (OneS (fun y => y.tm < x.tm) (fun y => x.tm ≤ y.tm) R s r ∧ a + 1 + s = i ∧ a + 1 + r = j ∧ Fill Rfl wr S g 37 N (P ++ x :: (R ++ Qs)) ∧ Chg g w wr)) (fun v u _ => (intOf u).toNat - (intOf v).toNat)
  case atStart => exact ⟨0, R.length, m, b, rfl, rfl, Lib.hid ⟨H0.out.1, HM.out, H0.out.2.1, H0.out.2.2⟩⟩
  case round =>
    clear H0
    obtain ⟨s, r, i, j, rfl, rfl, HR⟩ := hrel
    obtain ⟨wi, rfl⟩ : ∃ wi : World, wi = wr := ⟨_, rfl⟩
    by_cases hlt : i < j
    · have d : decide (i < j) = true := decide_eq_true hlt
      have hji : j ≤ n := by have h1 := HX.out.2.2.2.2.2; have h2 := HX.out.2.2.1; have h3 := HR.out.2.2.1; have h4 := HR.out.1.rl; omega
      go_upto_region 5 with fail
      obtain ⟨h, hh⟩ : ∃ h, (i + j) / 2 = h := ⟨_, rfl⟩
      have hih : ((i : Int) + (j : Int)) / 2 = (h : Int) := by omega
      obtain ⟨c, hc⟩ : ∃ c, h = a + 1 + c := ⟨h - (a + 1), by have h1 := HR.out.2.1; omega⟩
      have hsc : s ≤ c := by have h1 := HR.out.2.1; omega
      have hcr : c < r := by have h1 := HR.out.2.2.1; omega
      have hcl : c < R.length := by have h1 := HR.out.1.rl; omega
      have hzz := List.getElem?_eq_getElem (l := R) (i := c) hcl
      generalize R[c]'hcl = z at hzz
      have hx : (P ++ x :: (R ++ Qs))[a]? = some x := by rw [← HX.out.2.1]; simp
      have hy : (P ++ x :: (R ++ Qs))[h]? = some z := by
        rw [List.getElem?_append_right (by rw [HX.out.2.1]; omega), HX.out.2.1, show h - a = c + 1 by omega, List.getElem?_cons_succ, List.getElem?_append_left hcl]; exact hzz
      have hSi := HX.out.1.up HR.out.2.2.2.2.bel.size
      have HY := Lib.hid (And.intro hx (And.intro hy (And.intro hzz (And.intro hsc hcr))))
      have HH := Lib.hid (And.intro hih hc)
      clear hx hy hzz hcr hcl hih hc hsc
      rw [HH.out.1]
      by_cases hq : z.tm < x.tm
      · refine sym_r5 wi S g N n h a _ z x true HR.out.2.2.2.1 hSi HX.out.2.2.2.2.1 HY.out.2.1 HY.out.1 (decide_eq_true hq) ?_
        intro d40 d41 d42 d43 d44 d45 d46 d47 d48 d49 w1 hF1 hC1
        have H1 := Lib.hid (show OneS (fun y => y.tm < x.tm) (fun y => x.tm ≤ y.tm) R (c + 1) r ∧ a + 1 + (c + 1) = h + 1 ∧ a + 1 + r = j ∧ Fill Rfl w1 S g 37 N (P ++ x :: (R ++ Qs)) ∧ Chg g w w1 from ⟨HR.out.1.up HX.out.2.2.2.1 HY.out.2.2.1 HY.out.2.2.2.2 HY.out.2.2.2.1 (fun y hy => by omega), by have h1 := HH.out.2; omega, HR.out.2.2.1, hF1, HR.out.2.2.2.2.trans hC1⟩)
        clear hF1 hC1
        go_wp2
        go_roundw
        case measure => simp [intOf]; omega
        case rel => exact ⟨c + 1, r, h + 1, j, by go_num, rfl, H1⟩
      · refine sym_r5 wi S g N n h a _ z x false HR.out.2.2.2.1 hSi HX.out.2.2.2.2.1 HY.out.2.1 HY.out.1 (decide_eq_false hq) ?_
        intro d40 d41 d42 d43 d44 d45 d46 d47 d48 d49 w1 hF1 hC1
        have H1 := Lib.hid (show OneS (fun y => y.tm < x.tm) (fun y => x.tm ≤ y.tm) R s c ∧ a + 1 + s = i ∧ a + 1 + c = h ∧ Fill Rfl w1 S g 37 N (P ++ x :: (R ++ Qs)) ∧ Chg g w w1 from ⟨HR.out.1.down HX.out.2.2.2.1 HY.out.2.2.1 HY.out.2.2.2.1 HY.out.2.2.2.2 (fun y hy => by omega), HR.out.2.1, HH.out.2.symm, hF1, HR.out.2.2.2.2.trans hC1⟩)
        clear hF1 hC1
        go_wp2
        go_roundw
        case measure => simp [intOf]; omega
        case rel => exact ⟨s, c, i, h, rfl, rfl, H1⟩
    · have d : decide (i < j) = false := decide_eq_false hlt
      have hsr : s = r := by have h1 := HR.out.1.le; have h2 := HR.out.2.1; have h3 := HR.out.2.2.1; omega
      subst hsr
      have hij : i = j := by have h2 := HR.out.2.1; have h3 := HR.out.2.2.1; omega
      subst hij
      go_wp2
      exact HK.out _ _ _ _ _ _ _ _ _ _ _ _ _ _ _ _ _ _ _ _ _ _ _ _ _ s _ HR.out.2.1 HR.out.1 HR.out.2.2.2.1 HR.out.2.2.2.2
noncomputable def sym_loop4_code : Code := blockOf Try.f28 4
set_option maxRecDepth 100000 in
set_option maxHeartbeats 4000000 in
theorem sym_loop4 {Q : Exit → Act → World → Prop} {s1 s3 s5 s6 s7 s8 s9 s10 s11 s12 s13 s16 s17 s18 s19 s20 s21 s22 s23 s24 s25 s26 s27 s28 s29 s30 s31 s32 s33 s34 s35 s36 s37 s38 s39 s40 s41 s42 s43 s44 s45 s46 s47 s48 s49 s50 s51 s52 s53 s54 s55 s56 s57 s58 s59 s60 s61 s62 s63 s64 s65 s66 s67 s68 s69 s70 s71 s72 s73 s74 s75 s76 s77 s78 s79 s80 s81 s82 s83 s84 s85 s86 s87 s88 s89 s90 s91 s92 s93 s94 s95 s96 s97 s98 s99 s100 s101 s102 s103 s104 s105 s106 s107 s108 s109 s110 s111 s112 s113 s114 s115 s116 s117 s118 s119 s120 s121 s122 s123 s124 s125 s126 s127 s128 s129 s130 s131 s132 s133 s134 s135 s136 s137 s138 s139 s140 s141 s142 s143 s144 s145 s146 s147 s148 s149 s150 s151 s152 s153 s154 s155 s156 s157 s158 s159 s160 s161 s162 s163 s164 s165 s166 s167 s168 s169 s170 s171 s172 s173 s174 s175 s176 s177 s178 s179 s180 s181 s182 s183 s184 s185 s186 s187 s188 s189 s190 s191 s192 s193 s194 s195 s196 s197 s198 s199 s200 s201 s202 s203 s204 s205 s206 s207 s208 s209 s210 s211 s212 s213 s214 s215 s216 s217 s218 s219 : Value} (w : World) (S : Nat → Prop) (g N n : Nat) (a m : Nat) (P L Qs : List Fl) (y : Fl)
    (hF : Fill Rfl w S g 37 N (P ++ (L ++ y :: Qs))) (hS : RowS w S g) (hn : (P ++ (L ++ y :: Qs)).length = n) (hz : n ≤ 2305843009213693952) (hP : P.length = a) (hm : a + L.length = m) (hL : SortedK Fl.tm L)
    (hK : ∀ (d16 d83 d84 d85 d86 d87 d88 d89 d90 d91 d92 d93 d94 d95 d96 d97 d98 d99 d100 d101 d102 d103 d104 d105 d106 : Value) (w' : World) (s i : Nat), a + s = i → OneS (fun x => x.tm ≤ y.tm) (fun x => y.tm < x.tm) L s s → Fill Rfl w' S g 37 N (P ++ (L ++ y :: Qs)) → Chg g w w' → Q .normal ⟨#[.slice (some ⟨g, 0, none⟩) n N, s1, .int .i64 (m : Nat), s3, lessV, s5, s6, s7, s8, s9, s10, s11, s12, s13, .int .i64 (i : Nat), .int .i64 (i : Nat), d16, s17, s18, s19, s20, s21, s22, s23, s24, s25, s26, s27, s28, s29, s30, s31, s32, s33, s34, s35, s36, s37, s38, s39, s40, s41, s42, s43, s44, s45, s46, s47, s48, s49, s50, s51, s52, s53, s54, s55, s56, s57, s58, s59, s60, s61, s62, s63, s64, s65, s66, s67, s68, s69, s70, s71, s72, s73, s74, s75, s76, s77, s78, s79, s80, s81, s82, d83, d84, d85, d86, d87, d88, d89, d90, d91, d92, d93, d94, d95, d96, d97, d98, d99, d100, d101, d102, d103, d104, d105, d106, s107, s108, s109, s110, s111, s112, s113, s114, s115, s116, s117, s118, s119, s120, s121, s122, s123, s124, s125, s126, s127, s128, s129, s130, s131, s132, s133, s134, s135, s136, s137, s138, s139, s140, s141, s142, s143, s144, s145, s146, s147, s148, s149, s150, s151, s152, s153, s154, s155, s156, s157, s158, s159, s160, s161, s162, s163, s164, s165, s166, s167, s168, s169, s170, s171, s172, s173, s174, s175, s176, s177, s178, s179, s180, s181, s182, s183, s184, s185, s186, s187, s188, s189, s190, s191, s192, s193, s194, s195, s196, s197, s198, s199, s200, s201, s202, s203, s204, s205, s206, s207, s208, s209, s210, s211, s212, s213, s214, s215, s216, s217, s218, s219], []⟩ w') :
    Code.wp Try.prog sym_loop4_code Q ⟨#[.slice (some ⟨g, 0, none⟩) n N, s1, .int .i64 (m : Nat), s3, lessV, s5, s6, s7, s8, s9, s10, s11, s12, s13, .int .i64 (a : Nat), .int .i64 (m : Nat), s16, s17, s18, s19, s20, s21, s22, s23, s24, s25, s26, s27, s28, s29, s30, s31, s32, s33, s34, s35, s36, s37, s38, s39, s40, s41, s42, s43, s44, s45, s46, s47, s48, s49, s50, s51, s52, s53, s54, s55, s56, s57, s58, s59, s60, s61, s62, s63, s64, s65, s66, s67, s68, s69, s70, s71, s72, s73, s74, s75, s76, s77, s78, s79, s80, s81, s82, s83, s84, s85, s86, s87, s88, s89, s90, s91, s92, s93, s94, s95, s96, s97, s98, s99, s100, s101, s102, s103, s104, s105, s106, s107, s108, s109, s110, s111, s112, s113, s114, s115, s116, s117, s118, s119, s120, s121, s122, s123, s124, s125, s126, s127, s128, s129, s130, s131, s132, s133, s134, s135, s136, s137, s138, s139, s140, s141, s142, s143, s144, s145, s146, s147, s148, s149, s150, s151, s152, s153, s154, s155, s156, s157, s158, s159, s160, s161, s162, s163, s164, s165, s166, s167, s168, s169, s170, s171, s172, s173, s174, s175, s176, s177, s178, s179, s180, s181, s182, s183, s184, s185, s186, s187, s188, s189, s190, s191, s192, s193, s194, s195, s196, s197, s198, s199, s200, s201, s202, s203, s204, s205, s206, s207, s208, s209, s210, s211, s212, s213, s214, s215, s216, s217, s218, s219], []⟩ w := by
  have HK := Lib.hid hK; clear hK
  have hlen : m + 1 + Qs.length = n := by rw [← hn]; simp; omega
  have H0 := Lib.hid (show OneS (fun x => x.tm ≤ y.tm) (fun x => y.tm < x.tm) L 0 L.length ∧ a + 0 = a ∧ a + L.length = m ∧ Fill Rfl w S g 37 N (P ++ (L ++ y :: Qs)) ∧ Chg g w w from ⟨OneS.start _ _ _, rfl, hm, hF, Chg.refl _ _⟩)
  have HX := Lib.hid (And.intro hS (And.intro hP (And.intro hm (And.intro hL (And.intro hn hlen)))))
  clear hF hS hn hP hm hL hlen
  conv => arg 2; whnf
  go_wp2
  go_loopw [14, 15] (fun v u wr => ∃ (s r i j : Nat), v = .int .i64 (i : Nat) ∧ u = .int .i64 (j : Nat) ∧ Hid (OneS (fun x => x.tm ≤ y.tm) (fun x => y.tm < x.tm) L s r ∧ a + s = i ∧ a + r = j ∧ Fill Rfl wr S g 37 N (P ++ (L ++ y :: Qs)) ∧ Chg g w wr)) (fun v u _ => (intOf u).toNat - (intOf v).toNat)
  case atStart => exact ⟨0, L.length, a, m, rfl, rfl, Lib.hid ⟨H0.out.1, rfl, H0.out.2.2.1, H0.out.2.2.2⟩⟩
  case round =>
    clear H0
    obtain ⟨s, r, i, j, rfl, rfl, HR⟩ := hrel
    obtain ⟨wi, rfl⟩ : ∃ wi : World, wi = wr := ⟨_, rfl⟩
    by_cases hlt : i < j
    · have d : decide (i < j) = true := decide_eq_true hlt
      have hji : j ≤ n := by have h1 := HX.out.2.2.2.2.2; have h2 := HX.out.2.2.1; have h3 := HR.out.2.2.1; have h4 := HR.out.1.rl; omega
      go_upto_region 17 with fail
      obtain ⟨h, hh⟩ : ∃ h, (i + j) / 2 = h := ⟨_, rfl⟩
      have hih : ((i : Int) + (j : Int)) / 2 = (h : Int) := by omega
      obtain ⟨c, hc⟩ : ∃ c, h = a + c := ⟨h - a, by have h1 := HR.out.2.1; omega⟩
      have hsc : s ≤ c := by have h1 := HR.out.2.1; omega
      have hcr : c < r := by have h1 := HR.out.2.2.1; omega
      have hcl : c < L.length := by have h1 := HR.out.1.rl; omega
      have hzz := List.getElem?_eq_getElem (l := L) (i := c) hcl
      generalize L[c]'hcl = z at hzz
      have hx : (P ++ (L ++ y :: Qs))[m]? = some y := by have h1 := HX.out.2.2.1; rw [← h1, ← HX.out.2.1]; simp
      have hy : (P ++ (L ++ y :: Qs))[h]? = some z := by
        rw [List.getElem?_append_right (by rw [HX.out.2.1]; omega), HX.out.2.1, show h - a = c by omega, List.getElem?_append_left hcl]; exact hzz
      have hSi := HX.out.1.up HR.out.2.2.2.2.bel.size
      have HY := Lib.hid (And.intro hx (And.intro hy (And.intro hzz (And.intro hsc hcr))))
      have HH := Lib.hid (And.intro hih hc)
      clear hx hy hzz hcr hcl hih hc hsc
      rw [HH.out.1]
      by_cases hq : y.tm < z.tm
      · refine sym_r17 wi S g N n m h _ y z true HR.out.2.2.2.1 hSi HX.out.2.2.2.2.1 HY.out.1 HY.out.2.1 (decide_eq_true hq) ?_
        intro d92 d93 d94 d95 d96 d97 d98 d99 d100 d101 d102 w1 hF1 hC1
        have H1 := Lib.hid (show OneS (fun x => x.tm ≤ y.tm) (fun x => y.tm < x.tm) L s c ∧ a + s = i ∧ a + c = h ∧ Fill Rfl w1 S g 37 N (P ++ (L ++ y :: Qs)) ∧ Chg g w w1 from ⟨HR.out.1.down HX.out.2.2.2.1 HY.out.2.2.1 HY.out.2.2.2.1 HY.out.2.2.2.2 (fun x hx => by omega), HR.out.2.1, HH.out.2.symm, hF1, HR.out.2.2.2.2.trans hC1⟩)
        clear hF1 hC1
        go_wp2
        go_roundw
        case measure => simp [intOf]; omega
        case rel => exact ⟨s, c, i, h, rfl, rfl, H1⟩
      · refine sym_r17 wi S g N n m h _ y z false HR.out.2.2.2.1 hSi HX.out.2.2.2.2.1 HY.out.1 HY.out.2.1 (decide_eq_false hq) ?_
        intro d92 d93 d94 d95 d96 d97 d98 d99 d100 d101 d102 w1 hF1 hC1
        have H1 := Lib.hid (show OneS (fun x => x.tm ≤ y.tm) (fun x => y.tm < x.tm) L (c + 1) r ∧ a + (c + 1) = h + 1 ∧ a + r = j ∧ Fill Rfl w1 S g 37 N (P ++ (L ++ y :: Qs)) ∧ Chg g w w1 from ⟨HR.out.1.up HX.out.2.2.2.1 HY.out.2.2.1 HY.out.2.2.2.2 HY.out.2.2.2.1 (fun x hx => by omega), by have h1 := HH.out.2; omega, HR.out.2.2.1, hF1, HR.out.2.2.2.2.trans hC1⟩)
        clear hF1 hC1
        go_wp2
        go_roundw
        case measure => simp [intOf]; omega
        case rel => exact ⟨c + 1, r, h + 1, j, by go_num, rfl, H1⟩
    · have d : decide (i < j) = false := decide_eq_false hlt
      have hsr : s = r := by have h1 := HR.out.1.le; have h2 := HR.out.2.1; have h3 := HR.out.2.2.1; omega
      subst hsr
      have hij : i = j := by have h2 := HR.out.2.1; have h3 := HR.out.2.2.1; omega
      subst hij
      go_wp2
      exact HK.out _ _ _ _ _ _ _ _ _ _ _ _ _ _ _ _ _ _ _ _ _ _ _ _ _ _ s _ HR.out.2.1 HR.out.1 HR.out.2.2.2.1 HR.out.2.2.2.2
end Go.Proofs.Ytponbodiibkopaa
