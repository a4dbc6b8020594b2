/-
  The stable sort: two elements are compared (the drawn regions).
-/
import Derived.Test.YtponbodiibkopaaSrtA
import Derived.Lib.QuietBelow
import Derived.BigGuardPart
namespace Go.Proofs.Ytponbodiibkopaa
open Go.RowKit Go.Sort
set_option linter.unusedVariables false

noncomputable def sym_r5_code : Code := regionOf Try.f28 5
set_option maxRecDepth 100000 in
set_option maxHeartbeats 2000000 in
theorem sym_r5 {Q : Exit → Act → World → Prop} {s2 s3 s5 s6 s7 s8 s9 s10 s11 s13 s14 s15 s16 s17 s18 s19 s20 s21 s22 s23 s24 s25 s26 s27 s28 s29 s30 s31 s32 s33 s34 s35 s36 s37 s38 s39 s40 s41 s42 s43 s44 s45 s46 s47 s48 s49 s50 s51 s52 s53 s54 s55 s56 s57 s58 s59 s60 s61 s62 s63 s64 s65 s66 s67 s68 s69 s70 s71 s72 s73 s74 s75 s76 s77 s78 s79 s80 s81 s82 s83 s84 s85 s86 s87 s88 s89 s90 s91 s92 s93 s94 s95 s96 s97 s98 s99 s100 s101 s102 s103 s104 s105 s106 s107 s108 s109 s110 s111 s112 s113 s114 s115 s116 s117 s118 s119 s120 s121 s122 s123 s124 s125 s126 s127 s128 s129 s130 s131 s132 s133 s134 s135 s136 s137 s138 s139 s140 s141 s142 s143 s144 s145 s146 s147 s148 s149 s150 s151 s152 s153 s154 s155 s156 s157 s158 s159 s160 s161 s162 s163 s164 s165 s166 s167 s168 s169 s170 s171 s172 s173 s174 s175 s176 s177 s178 s179 s180 s181 s182 s183 s184 s185 s186 s187 s188 s189 s190 s191 s192 s193 s194 s195 s196 s197 s198 s199 s200 s201 s202 s203 s204 s205 s206 s207 s208 s209 s210 s211 s212 s213 s214 s215 s216 s217 s218 s219 : Value} (w : World) (S : Nat → Prop) (g N n : Nat) ( i j : Nat) (xs : List Fl) (x y : Fl) (q : Bool)
    (hF : Fill Rfl w S g 37 N xs) (hS : RowS w S g) (hn : xs.length = n) (hx : xs[i]? = some x) (hy : xs[j]? = some y) (hq : decide (x.tm < y.tm) = q) 
    (hK : ∀ (d40 d41 d42 d43 d44 d45 d46 d47 d48 d49 : Value) (w' : World), Fill Rfl w' S g 37 N xs → Chg g w w' → Q .normal ⟨#[.slice (some ⟨g, 0, none⟩) n N, .int .i64 (j : Nat), s2, s3, lessV, s5, s6, s7, s8, s9, s10, s11, .int .i64 (i : Nat), s13, s14, s15, s16, s17, s18, s19, s20, s21, s22, s23, s24, s25, s26, s27, s28, s29, s30, s31, s32, s33, s34, s35, s36, s37, s38, s39, d40, d41, d42, d43, d44, d45, d46, d47, d48, d49, .bool q, s51, s52, s53, s54, s55, s56, s57, s58, s59, s60, s61, s62, s63, s64, s65, s66, s67, s68, s69, s70, s71, s72, s73, s74, s75, s76, s77, s78, s79, s80, s81, s82, s83, s84, s85, s86, s87, s88, s89, s90, s91, s92, s93, s94, s95, s96, s97, s98, s99, s100, s101, s102, s103, s104, s105, s106, s107, s108, s109, s110, s111, s112, s113, s114, s115, s116, s117, s118, s119, s120, s121, s122, s123, s124, s125, s126, s127, s128, s129, s130, s131, s132, s133, s134, s135, s136, s137, s138, s139, s140, s141, s142, s143, s144, s145, s146, s147, s148, s149, s150, s151, s152, s153, s154, s155, s156, s157, s158, s159, s160, s161, s162, s163, s164, s165, s166, s167, s168, s169, s170, s171, s172, s173, s174, s175, s176, s177, s178, s179, s180, s181, s182, s183, s184, s185, s186, s187, s188, s189, s190, s191, s192, s193, s194, s195, s196, s197, s198, s199, s200, s201, s202, s203, s204, s205, s206, s207, s208, s209, s210, s211, s212, s213, s214, s215, s216, s217, s218, s219], []⟩ w') :
    Code.wp Try.prog sym_r5_code Q ⟨#[.slice (some ⟨g, 0, none⟩) n N, .int .i64 (j : Nat), s2, s3, lessV, s5, s6, s7, s8, s9, s10, s11, .int .i64 (i : Nat), s13, s14, s15, s16, s17, s18, s19, s20, s21, s22, s23, s24, s25, s26, s27, s28, s29, s30, s31, s32, s33, s34, s35, s36, s37, s38, s39, s40, s41, s42, s43, s44, s45, s46, s47, s48, s49, s50, s51, s52, s53, s54, s55, s56, s57, s58, s59, s60, s61, s62, s63, s64, s65, s66, s67, s68, s69, s70, s71, s72, s73, s74, s75, s76, s77, s78, s79, s80, s81, s82, s83, s84, s85, s86, s87, s88, s89, s90, s91, s92, s93, s94, s95, s96, s97, s98, s99, s100, s101, s102, s103, s104, s105, s106, s107, s108, s109, s110, s111, s112, s113, s114, s115, s116, s117, s118, s119, s120, s121, s122, s123, s124, s125, s126, s127, s128, s129, s130, s131, s132, s133, s134, s135, s136, s137, s138, s139, s140, s141, s142, s143, s144, s145, s146, s147, s148, s149, s150, s151, s152, s153, s154, s155, s156, s157, s158, s159, s160, s161, s162, s163, s164, s165, s166, s167, s168, s169, s170, s171, s172, s173, s174, s175, s176, s177, s178, s179, s180, s181, s182, s183, s184, s185, s186, s187, s188, s189, s190, s191, s192, s193, s194, s195, s196, s197, s198, s199, s200, s201, s202, s203, s204, s205, s206, s207, s208, s209, s210, s211, s212, s213, s214, s215, s216, s217, s218, s219], []⟩ w := by
  have HK := Lib.hid hK; clear hK
  have hI : i < n := by rw [← hn]; exact (List.getElem?_eq_some_iff.1 hx).1
  have hJ : j < n := by rw [← hn]; exact (List.getElem?_eq_some_iff.1 hy).1
  obtain ⟨Tx, nx, cx, _, x0, x1, x2, x3⟩ := hF.fl hx
  obtain ⟨Ty, ny, cy, _, y0, y1, y2, y3⟩ := hF.fl hy
  obtain ⟨v, hv⟩ : ∃ v, cmpI x.tm y.tm = v := ⟨_, rfl⟩
  have hvq : decide (v < 0) = q := by rw [← hv, ← hq]; simp only [cmpI_lt]
  have CS := Lib.hid (fun d os => Calls.regrown_of ((less_any (grow (redrawn w d) os) x.tm y.tm (.int .i64 x.fr) (.int .i64 x.tgt) (.slice Tx nx cx) (.int .i64 y.fr) (.int .i64 y.tgt) (.slice Ty ny cy)).mono (fun e w' h => (⟨by rw [h.1, hv], h.2⟩ : e = .returned (.int .i64 v) ∧ Below (grow (redrawn w d) os).heap.size (grow (redrawn w d) os) w'))))
  have HF := Lib.hid (And.intro hF (And.intro hS hF.lt))
  have k0 := cell_regrown x0; have k1 := cell_regrown x1; have k2 := cell_regrown x2; have k3 := cell_regrown x3
  have l0 := cell_regrown y0; have l1 := cell_regrown y1; have l2 := cell_regrown y2; have l3 := cell_regrown y3
  obtain ⟨xt, hxt⟩ : ∃ xt, x.tm = xt := ⟨_, rfl⟩
  clear hx hy hn hF hS hv hq x0 x1 x2 x3 y0 y1 y2 y3 hxt
  conv => arg 2; whnf
  refine wp_region_quiet_below (by kernel_rfl) (by kernel_rfl) ?_
  repeat (any_goals (first | go_big_quiet_step (with_reducible exact CS.out _ _) | quiet_step (with_reducible exact CS.out _ _)))
  refine wpQuiet_nil ?_
  rintro _ ⟨⟨dq, osq⟩, rfl⟩
  exact HK.out _ _ _ _ _ _ _ _ _ _ _ (HF.out.1.chg HF.out.2.1 (below_regrown w dq osq)) (Chg.ofBelow (below_regrown w dq osq) (by have := HF.out.2.2; omega))
noncomputable def sym_r17_code : Code := regionOf Try.f28 17
set_option maxRecDepth 100000 in
set_option maxHeartbeats 2000000 in
theorem sym_r17 {Q : Exit → Act → World → Prop} {s1 s3 s5 s6 s7 s8 s9 s10 s11 s12 s13 s14 s15 s17 s18 s19 s20 s21 s22 s23 s24 s25 s26 s27 s28 s29 s30 s31 s32 s33 s34 s35 s36 s37 s38 s39 s40 s41 s42 s43 s44 s45 s46 s47 s48 s49 s50 s51 s52 s53 s54 s55 s56 s57 s58 s59 s60 s61 s62 s63 s64 s65 s66 s67 s68 s69 s70 s71 s72 s73 s74 s75 s76 s77 s78 s79 s80 s81 s82 s83 s84 s85 s86 s87 s88 s89 s90 s91 s92 s93 s94 s95 s96 s97 s98 s99 s100 s101 s102 s103 s104 s105 s106 s107 s108 s109 s110 s111 s112 s113 s114 s115 s116 s117 s118 s119 s120 s121 s122 s123 s124 s125 s126 s127 s128 s129 s130 s131 s132 s133 s134 s135 s136 s137 s138 s139 s140 s141 s142 s143 s144 s145 s146 s147 s148 s149 s150 s151 s152 s153 s154 s155 s156 s157 s158 s159 s160 s161 s162 s163 s164 s165 s166 s167 s168 s169 s170 s171 s172 s173 s174 s175 s176 s177 s178 s179 s180 s181 s182 s183 s184 s185 s186 s187 s188 s189 s190 s191 s192 s193 s194 s195 s196 s197 s198 s199 s200 s201 s202 s203 s204 s205 s206 s207 s208 s209 s210 s211 s212 s213 s214 s215 s216 s217 s218 s219 : Value} (w : World) (S : Nat → Prop) (g N n : Nat) ( i j : Nat) (xs : List Fl) (x y : Fl) (q : Bool)
    (hF : Fill Rfl w S g 37 N xs) (hS : RowS w S g) (hn : xs.length = n) (hx : xs[i]? = some x) (hy : xs[j]? = some y) (hq : decide (x.tm < y.tm) = q) 
    (hK : ∀ (d92 d93 d94 d95 d96 d97 d98 d99 d100 d101 d102 : Value) (w' : World), Fill Rfl w' S g 37 N xs → Chg g w w' → Q .normal ⟨#[.slice (some ⟨g, 0, none⟩) n N, s1, .int .i64 (i : Nat), s3, lessV, s5, s6, s7, s8, s9, s10, s11, s12, s13, s14, s15, .int .i64 (j : Nat), s17, s18, s19, s20, s21, s22, s23, s24, s25, s26, s27, s28, s29, s30, s31, s32, s33, s34, s35, s36, s37, s38, s39, s40, s41, s42, s43, s44, s45, s46, s47, s48, s49, s50, s51, s52, s53, s54, s55, s56, s57, s58, s59, s60, s61, s62, s63, s64, s65, s66, s67, s68, s69, s70, s71, s72, s73, s74, s75, s76, s77, s78, s79, s80, s81, s82, s83, s84, s85, s86, s87, s88, s89, s90, s91, d92, d93, d94, d95, d96, d97, d98, d99, d100, d101, d102, .bool (!q), s104, s105, s106, s107, s108, s109, s110, s111, s112, s113, s114, s115, s116, s117, s118, s119, s120, s121, s122, s123, s124, s125, s126, s127, s128, s129, s130, s131, s132, s133, s134, s135, s136, s137, s138, s139, s140, s141, s142, s143, s144, s145, s146, s147, s148, s149, s150, s151, s152, s153, s154, s155, s156, s157, s158, s159, s160, s161, s162, s163, s164, s165, s166, s167, s168, s169, s170, s171, s172, s173, s174, s175, s176, s177, s178, s179, s180, s181, s182, s183, s184, s185, s186, s187, s188, s189, s190, s191, s192, s193, s194, s195, s196, s197, s198, s199, s200, s201, s202, s203, s204, s205, s206, s207, s208, s209, s210, s211, s212, s213, s214, s215, s216, s217, s218, s219], []⟩ w') :
    Code.wp Try.prog sym_r17_code Q ⟨#[.slice (some ⟨g, 0, none⟩) n N, s1, .int .i64 (i : Nat), s3, lessV, s5, s6, s7, s8, s9, s10, s11, s12, s13, s14, s15, .int .i64 (j : Nat), s17, s18, s19, s20, s21, s22, s23, s24, s25, s26, s27, s28, s29, s30, s31, s32, s33, s34, s35, s36, s37, s38, s39, s40, s41, s42, s43, s44, s45, s46, s47, s48, s49, s50, s51, s52, s53, s54, s55, s56, s57, s58, s59, s60, s61, s62, s63, s64, s65, s66, s67, s68, s69, s70, s71, s72, s73, s74, s75, s76, s77, s78, s79, s80, s81, s82, s83, s84, s85, s86, s87, s88, s89, s90, s91, s92, s93, s94, s95, s96, s97, s98, s99, s100, s101, s102, s103, s104, s105, s106, s107, s108, s109, s110, s111, s112, s113, s114, s115, s116, s117, s118, s119, s120, s121, s122, s123, s124, s125, s126, s127, s128, s129, s130, s131, s132, s133, s134, s135, s136, s137, s138, s139, s140, s141, s142, s143, s144, s145, s146, s147, s148, s149, s150, s151, s152, s153, s154, s155, s156, s157, s158, s159, s160, s161, s162, s163, s164, s165, s166, s167, s168, s169, s170, s171, s172, s173, s174, s175, s176, s177, s178, s179, s180, s181, s182, s183, s184, s185, s186, s187, s188, s189, s190, s191, s192, s193, s194, s195, s196, s197, s198, s199, s200, s201, s202, s203, s204, s205, s206, s207, s208, s209, s210, s211, s212, s213, s214, s215, s216, s217, s218, s219], []⟩ w := by
  have HK := Lib.hid hK; clear hK
  have hI : i < n := by rw [← hn]; exact (List.getElem?_eq_some_iff.1 hx).1
  have hJ : j < n := by rw [← hn]; exact (List.getElem?_eq_some_iff.1 hy).1
  obtain ⟨Tx, nx, cx, _, x0, x1, x2, x3⟩ := hF.fl hx
  obtain ⟨Ty, ny, cy, _, y0, y1, y2, y3⟩ := hF.fl hy
  obtain ⟨v, hv⟩ : ∃ v, cmpI x.tm y.tm = v := ⟨_, rfl⟩
  have hvq : decide (v < 0) = q := by rw [← hv, ← hq]; simp only [cmpI_lt]
  have CS := Lib.hid (fun d os => Calls.regrown_of ((less_any (grow (redrawn w d) os) x.tm y.tm (.int .i64 x.fr) (.int .i64 x.tgt) (.slice Tx nx cx) (.int .i64 y.fr) (.int .i64 y.tgt) (.slice Ty ny cy)).mono (fun e w' h => (⟨by rw [h.1, hv], h.2⟩ : e = .returned (.int .i64 v) ∧ Below (grow (redrawn w d) os).heap.size (grow (redrawn w d) os) w'))))
  have HF := Lib.hid (And.intro hF (And.intro hS hF.lt))
  have k0 := cell_regrown x0; have k1 := cell_regrown x1; have k2 := cell_regrown x2; have k3 := cell_regrown x3
  have l0 := cell_regrown y0; have l1 := cell_regrown y1; have l2 := cell_regrown y2; have l3 := cell_regrown y3
  obtain ⟨xt, hxt⟩ : ∃ xt, x.tm = xt := ⟨_, rfl⟩
  clear hx hy hn hF hS hv hq x0 x1 x2 x3 y0 y1 y2 y3 hxt
  conv => arg 2; whnf
  refine wp_region_quiet_below (by kernel_rfl) (by kernel_rfl) ?_
  repeat (any_goals (first | go_big_quiet_step (with_reducible exact CS.out _ _) | quiet_step (with_reducible exact CS.out _ _)))
  refine wpQuiet_nil ?_
  rintro _ ⟨⟨dq, osq⟩, rfl⟩
  exact HK.out _ _ _ _ _ _ _ _ _ _ _ _ (HF.out.1.chg HF.out.2.1 (below_regrown w dq osq)) (Chg.ofBelow (below_regrown w dq osq) (by have := HF.out.2.2; omega))
noncomputable def sym_r35_code : Code := regionOf Try.f28 35
set_option maxRecDepth 100000 in
set_option maxHeartbeats 2000000 in
theorem sym_r35 {Q : Exit → Act → World → Prop} {s1 s2 s3 s5 s6 s7 s8 s9 s10 s11 s12 s13 s14 s15 s16 s17 s18 s19 s20 s21 s24 s25 s26 s27 s28 s29 s30 s31 s32 s33 s34 s35 s36 s37 s38 s39 s40 s41 s42 s43 s44 s45 s46 s47 s48 s49 s50 s51 s52 s53 s54 s55 s56 s57 s58 s59 s60 s61 s62 s63 s64 s65 s66 s67 s68 s69 s70 s71 s72 s73 s74 s75 s76 s77 s78 s79 s80 s81 s82 s83 s84 s85 s86 s87 s88 s89 s90 s91 s92 s93 s94 s95 s96 s97 s98 s99 s100 s101 s102 s103 s104 s105 s106 s107 s108 s109 s110 s111 s112 s113 s114 s115 s116 s117 s118 s119 s120 s121 s122 s123 s124 s125 s126 s127 s128 s129 s130 s131 s132 s133 s134 s135 s136 s137 s138 s139 s140 s141 s142 s143 s144 s145 s146 s147 s148 s149 s150 s151 s152 s153 s154 s155 s156 s157 s158 s159 s160 s161 s162 s163 s164 s165 s166 s167 s168 s169 s170 s171 s172 s173 s174 s175 s176 s177 s178 s179 s180 s181 s182 s183 s184 s185 s186 s187 s188 s189 s190 s191 s192 s193 s194 s195 s196 s197 s198 s199 s200 s201 s202 s203 s204 s205 s206 s207 s208 s209 s210 s211 s212 s213 s214 s215 s216 s217 s218 s219 : Value} (w : World) (S : Nat → Prop) (g N n : Nat) (p i j : Nat) (xs : List Fl) (x y : Fl) (q : Bool)
    (hF : Fill Rfl w S g 37 N xs) (hS : RowS w S g) (hn : xs.length = n) (hx : xs[i]? = some x) (hy : xs[j]? = some y) (hq : decide (x.tm < y.tm) = q) (hwi : IntKind.i64.wrap ((p : Int) - (j : Int)) = (i : Int))
    (hK : ∀ (d158 d159 d160 d161 d162 d163 d164 d165 d166 d167 d168 d169 d170 : Value) (w' : World), Fill Rfl w' S g 37 N xs → Chg g w w' → Q .normal ⟨#[.slice (some ⟨g, 0, none⟩) n N, s1, s2, s3, lessV, s5, s6, s7, s8, s9, s10, s11, s12, s13, s14, s15, s16, s17, s18, s19, s20, s21, .int .i64 (p : Nat), .int .i64 (j : Nat), s24, s25, s26, s27, s28, s29, s30, s31, s32, s33, s34, s35, s36, s37, s38, s39, s40, s41, s42, s43, s44, s45, s46, s47, s48, s49, s50, s51, s52, s53, s54, s55, s56, s57, s58, s59, s60, s61, s62, s63, s64, s65, s66, s67, s68, s69, s70, s71, s72, s73, s74, s75, s76, s77, s78, s79, s80, s81, s82, s83, s84, s85, s86, s87, s88, s89, s90, s91, s92, s93, s94, s95, s96, s97, s98, s99, s100, s101, s102, s103, s104, s105, s106, s107, s108, s109, s110, s111, s112, s113, s114, s115, s116, s117, s118, s119, s120, s121, s122, s123, s124, s125, s126, s127, s128, s129, s130, s131, s132, s133, s134, s135, s136, s137, s138, s139, s140, s141, s142, s143, s144, s145, s146, s147, s148, s149, s150, s151, s152, s153, s154, s155, s156, s157, d158, d159, d160, d161, d162, d163, d164, d165, d166, d167, d168, d169, d170, .bool (!q), s172, s173, s174, s175, s176, s177, s178, s179, s180, s181, s182, s183, s184, s185, s186, s187, s188, s189, s190, s191, s192, s193, s194, s195, s196, s197, s198, s199, s200, s201, s202, s203, s204, s205, s206, s207, s208, s209, s210, s211, s212, s213, s214, s215, s216, s217, s218, s219], []⟩ w') :
    Code.wp Try.prog sym_r35_code Q ⟨#[.slice (some ⟨g, 0, none⟩) n N, s1, s2, s3, lessV, s5, s6, s7, s8, s9, s10, s11, s12, s13, s14, s15, s16, s17, s18, s19, s20, s21, .int .i64 (p : Nat), .int .i64 (j : Nat), s24, s25, s26, s27, s28, s29, s30, s31, s32, s33, s34, s35, s36, s37, s38, s39, s40, s41, s42, s43, s44, s45, s46, s47, s48, s49, s50, s51, s52, s53, s54, s55, s56, s57, s58, s59, s60, s61, s62, s63, s64, s65, s66, s67, s68, s69, s70, s71, s72, s73, s74, s75, s76, s77, s78, s79, s80, s81, s82, s83, s84, s85, s86, s87, s88, s89, s90, s91, s92, s93, s94, s95, s96, s97, s98, s99, s100, s101, s102, s103, s104, s105, s106, s107, s108, s109, s110, s111, s112, s113, s114, s115, s116, s117, s118, s119, s120, s121, s122, s123, s124, s125, s126, s127, s128, s129, s130, s131, s132, s133, s134, s135, s136, s137, s138, s139, s140, s141, s142, s143, s144, s145, s146, s147, s148, s149, s150, s151, s152, s153, s154, s155, s156, s157, s158, s159, s160, s161, s162, s163, s164, s165, s166, s167, s168, s169, s170, s171, s172, s173, s174, s175, s176, s177, s178, s179, s180, s181, s182, s183, s184, s185, s186, s187, s188, s189, s190, s191, s192, s193, s194, s195, s196, s197, s198, s199, s200, s201, s202, s203, s204, s205, s206, s207, s208, s209, s210, s211, s212, s213, s214, s215, s216, s217, s218, s219], []⟩ w := by
  have HK := Lib.hid hK; clear hK
  have hI : i < n := by rw [← hn]; exact (List.getElem?_eq_some_iff.1 hx).1
  have hJ : j < n := by rw [← hn]; exact (List.getElem?_eq_some_iff.1 hy).1
  obtain ⟨Tx, nx, cx, _, x0, x1, x2, x3⟩ := hF.fl hx
  obtain ⟨Ty, ny, cy, _, y0, y1, y2, y3⟩ := hF.fl hy
  obtain ⟨v, hv⟩ : ∃ v, cmpI x.tm y.tm = v := ⟨_, rfl⟩
  have hvq : decide (v < 0) = q := by rw [← hv, ← hq]; simp only [cmpI_lt]
  have CS := Lib.hid (fun d os => Calls.regrown_of ((less_any (grow (redrawn w d) os) x.tm y.tm (.int .i64 x.fr) (.int .i64 x.tgt) (.slice Tx nx cx) (.int .i64 y.fr) (.int .i64 y.tgt) (.slice Ty ny cy)).mono (fun e w' h => (⟨by rw [h.1, hv], h.2⟩ : e = .returned (.int .i64 v) ∧ Below (grow (redrawn w d) os).heap.size (grow (redrawn w d) os) w'))))
  have HF := Lib.hid (And.intro hF (And.intro hS hF.lt))
  have k0 := cell_regrown x0; have k1 := cell_regrown x1; have k2 := cell_regrown x2; have k3 := cell_regrown x3
  have l0 := cell_regrown y0; have l1 := cell_regrown y1; have l2 := cell_regrown y2; have l3 := cell_regrown y3
  obtain ⟨xt, hxt⟩ : ∃ xt, x.tm = xt := ⟨_, rfl⟩
  clear hx hy hn hF hS hv hq x0 x1 x2 x3 y0 y1 y2 y3 hxt
  conv => arg 2; whnf
  refine wp_region_quiet_below (by kernel_rfl) (by kernel_rfl) ?_
  repeat (any_goals (first | go_big_quiet_step (with_reducible exact CS.out _ _) | quiet_step (with_reducible exact CS.out _ _)))
  refine wpQuiet_nil ?_
  rintro _ ⟨⟨dq, osq⟩, rfl⟩
  exact HK.out _ _ _ _ _ _ _ _ _ _ _ _ _ _ (HF.out.1.chg HF.out.2.1 (below_regrown w dq osq)) (Chg.ofBelow (below_regrown w dq osq) (by have := HF.out.2.2; omega))
noncomputable def ins_r4_code : Code := regionOf Try.f27 4
set_option maxRecDepth 100000 in
set_option maxHeartbeats 2000000 in
theorem ins_r4 {Q : Exit → Act → World → Prop} {s2 s4 s5 s6 s7 s8 s10 s11 s12 s13 s14 s15 s16 s17 s18 s19 s20 s21 s22 s23 s24 s25 s26 s27 s28 s29 s30 s31 s32 s33 s34 s35 s36 s37 s38 s39 s40 s41 s42 s43 s44 s45 s46 s47 s48 s49 s50 s51 s52 : Value} (w : World) (S : Nat → Prop) (g N n : Nat) (a i j : Nat) (xs : List Fl) (x y : Fl) (q : Bool)
    (hF : Fill Rfl w S g 37 N xs) (hS : RowS w S g) (hn : xs.length = n) (hx : xs[i]? = some x) (hy : xs[j]? = some y) (hq : decide (x.tm < y.tm) = q) (hai : a < i) (hwj : IntKind.i64.wrap ((i : Int) - 1) = (j : Int))
    (hK : ∀ (d18 d19 d20 d21 d22 d23 d24 d25 d26 d27 d28 d29 d30 d31 d32 d33 : Value) (w' : World), Fill Rfl w' S g 37 N xs → Chg g w w' → Q .normal ⟨#[.slice (some ⟨g, 0, none⟩) n N, .int .i64 (a : Nat), s2, lessV, s4, s5, s6, s7, s8, .int .i64 (i : Nat), s10, s11, s12, s13, s14, s15, s16, s17, d18, d19, d20, d21, d22, d23, d24, d25, d26, d27, d28, d29, d30, d31, d32, d33, .bool q, s35, s36, s37, s38, s39, s40, s41, s42, s43, s44, s45, s46, s47, s48, s49, s50, s51, s52], []⟩ w') :
    Code.wp Try.prog ins_r4_code Q ⟨#[.slice (some ⟨g, 0, none⟩) n N, .int .i64 (a : Nat), s2, lessV, s4, s5, s6, s7, s8, .int .i64 (i : Nat), s10, s11, s12, s13, s14, s15, s16, s17, s18, s19, s20, s21, s22, s23, s24, s25, s26, s27, s28, s29, s30, s31, s32, s33, s34, s35, s36, s37, s38, s39, s40, s41, s42, s43, s44, s45, s46, s47, s48, s49, s50, s51, s52], []⟩ w := by
  have HK := Lib.hid hK; clear hK
  have hI : i < n := by rw [← hn]; exact (List.getElem?_eq_some_iff.1 hx).1
  have hJ : j < n := by rw [← hn]; exact (List.getElem?_eq_some_iff.1 hy).1
  obtain ⟨Tx, nx, cx, _, x0, x1, x2, x3⟩ := hF.fl hx
  obtain ⟨Ty, ny, cy, _, y0, y1, y2, y3⟩ := hF.fl hy
  obtain ⟨v, hv⟩ : ∃ v, cmpI x.tm y.tm = v := ⟨_, rfl⟩
  have hvq : decide (v < 0) = q := by rw [← hv, ← hq]; simp only [cmpI_lt]
  have CS := Lib.hid (fun d os => Calls.regrown_of ((less_any (grow (redrawn w d) os) x.tm y.tm (.int .i64 x.fr) (.int .i64 x.tgt) (.slice Tx nx cx) (.int .i64 y.fr) (.int .i64 y.tgt) (.slice Ty ny cy)).mono (fun e w' h => (⟨by rw [h.1, hv], h.2⟩ : e = .returned (.int .i64 v) ∧ Below (grow (redrawn w d) os).heap.size (grow (redrawn w d) os) w'))))
  have HF := Lib.hid (And.intro hF (And.intro hS hF.lt))
  have k0 := cell_regrown x0; have k1 := cell_regrown x1; have k2 := cell_regrown x2; have k3 := cell_regrown x3
  have l0 := cell_regrown y0; have l1 := cell_regrown y1; have l2 := cell_regrown y2; have l3 := cell_regrown y3
  obtain ⟨xt, hxt⟩ : ∃ xt, x.tm = xt := ⟨_, rfl⟩
  clear hx hy hn hF hS hv hq x0 x1 x2 x3 y0 y1 y2 y3 hxt
  conv => arg 2; whnf
  refine wp_region_quiet_below (by kernel_rfl) (by kernel_rfl) ?_
  repeat (any_goals (first | go_big_quiet_step (with_reducible exact CS.out _ _) | quiet_step (with_reducible exact CS.out _ _)))
  refine wpQuiet_nil ?_
  rintro _ ⟨⟨dq, osq⟩, rfl⟩
  exact HK.out _ _ _ _ _ _ _ _ _ _ _ _ _ _ _ _ _ (HF.out.1.chg HF.out.2.1 (below_regrown w dq osq)) (Chg.ofBelow (below_regrown w dq osq) (by have := HF.out.2.2; omega))
end Go.Proofs.Ytponbodiibkopaa
