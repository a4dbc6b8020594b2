/-
  symMerge: the walk, by induction on the number of elements.
-/
import Derived.Test.YtponbodiibkopaaSrtD
namespace Go.Proofs.Ytponbodiibkopaa
open Go.RowKit Go.Sort
set_option linter.unusedVariables false

/-! ### plain -/
theorem keys_mono {xs : List Fl} {P Z Q : List Fl} {a b : Nat} (hx : xs = P ++ Z ++ Q) (hP : P.length = a) (hb : a + Z.length = b) (hZ : SortedK Fl.tm Z) : ∀ i j, a ≤ i → i ≤ j → j < b → keyAt xs i ≤ keyAt xs j := fun i j h1 h2 h3 => by
  have get : ∀ k, a ≤ k → k < b → xs[k]? = Z[k - a]? := fun k k1 k2 => by
    rw [hx, List.getElem?_append_left (by rw [List.length_append]; omega), List.getElem?_append_right (by omega), hP]
  have hi : i - a < Z.length := by omega
  have hj : j - a < Z.length := by omega
  rw [keyAt_eq ((get i h1 (by omega)).trans (List.getElem?_eq_getElem hi)), keyAt_eq ((get j (by omega) h3).trans (List.getElem?_eq_getElem hj))]
  exact sorted_le hZ (List.getElem?_eq_getElem hi) (List.getElem?_eq_getElem hj) (by omega)
/-- The two runs, cut. -/
structure SymCut (L R L1 L2 R1 R2 : List Fl) : Prop where
  eL : L = L1 ++ L2
  eR : R = R1 ++ R2
  lt : ∀ x ∈ L2, ∀ y ∈ R1, y.tm < x.tm
  le : ∀ x ∈ L1, ∀ y ∈ R2, x.tm ≤ y.tm
theorem cut_of {xs P L R Q : List Fl} {a m b s e : Nat} (hx : xs = P ++ (L ++ R) ++ Q) (hP : P.length = a) (hm : a + L.length = m) (hb : m + R.length = b) (h1 : a ≤ s) (h2 : s ≤ m) (h3 : m ≤ e) (h4 : e ≤ b)
    (hlt : ∀ i j, s ≤ i → i < m → m ≤ j → j < e → keyAt xs j < keyAt xs i) (hle : ∀ i j, a ≤ i → i < s → e ≤ j → j < b → keyAt xs i ≤ keyAt xs j) : SymCut L R (L.take (s - a)) (L.drop (s - a)) (R.take (e - m)) (R.drop (e - m)) := by
  have gL : ∀ {k : Nat} {x : Fl}, L[k]? = some x → keyAt xs (a + k) = x.tm := fun {k x} h => keyAt_eq (by
    have hk := (List.getElem?_eq_some_iff.1 h).1
    rw [hx, List.append_assoc, List.getElem?_append_right (by omega), hP, Nat.add_sub_cancel_left, List.append_assoc, List.getElem?_append_left hk]; exact h)
  have gR : ∀ {k : Nat} {x : Fl}, R[k]? = some x → keyAt xs (m + k) = x.tm := fun {k x} h => keyAt_eq (by
    have hk := (List.getElem?_eq_some_iff.1 h).1
    rw [hx, List.append_assoc, List.getElem?_append_right (by omega), hP, List.append_assoc, List.getElem?_append_right (by omega), show m + k - a - L.length = k by omega, List.getElem?_append_left hk]; exact h)
  have mt : ∀ {Z : List Fl} {c : Nat} {x : Fl}, x ∈ Z.take c → ∃ k, k < c ∧ Z[k]? = some x := fun {Z c x} h => by
    obtain ⟨k, hk⟩ := List.mem_iff_getElem?.1 h
    have := (List.getElem?_eq_some_iff.1 hk).1
    rw [List.length_take] at this
    exact ⟨k, by omega, by rw [List.getElem?_take, if_pos (by omega)] at hk; exact hk⟩
  have md : ∀ {Z : List Fl} {c : Nat} {x : Fl}, x ∈ Z.drop c → ∃ k, c ≤ k ∧ k < Z.length ∧ Z[k]? = some x := fun {Z c x} h => by
    obtain ⟨k, hk⟩ := List.mem_iff_getElem?.1 h
    rw [List.getElem?_drop] at hk
    exact ⟨c + k, by omega, (List.getElem?_eq_some_iff.1 hk).1, hk⟩
  refine ⟨by rw [List.take_append_drop], by rw [List.take_append_drop], fun x hx y hy => ?_, fun x hx y hy => ?_⟩
  · obtain ⟨i, i1, i2, i3⟩ := md hx; obtain ⟨j, j1, j2⟩ := mt hy
    rw [← gL i3, ← gR j2]; exact hlt _ _ (by omega) (by omega) (by omega) (by omega)
  · obtain ⟨i, i1, i2⟩ := mt hx; obtain ⟨j, j1, j2, j3⟩ := md hy
    rw [← gL i2, ← gR j3]; exact hle _ _ (by omega) (by omega) (by omega) (by omega)
/-! ### the tests of the end -/
noncomputable def sym_r39_code : Code := regionOf Try.f28 39
set_option maxRecDepth 100000 in
set_option maxHeartbeats 2000000 in
theorem sym_r39 {Q : Exit → Act → World → Prop} {s0 s1 s3 s4 s5 s6 s7 s8 s9 s10 s11 s12 s13 s14 s15 s16 s17 s18 s19 s21 s22 s23 s25 s26 s27 s28 s29 s30 s31 s32 s33 s34 s35 s36 s37 s38 s39 s40 s41 s42 s43 s44 s45 s46 s47 s48 s49 s50 s51 s52 s53 s54 s55 s56 s57 s58 s59 s60 s61 s62 s63 s64 s65 s66 s67 s68 s69 s70 s71 s72 s73 s74 s75 s76 s77 s78 s79 s80 s81 s82 s83 s84 s85 s86 s87 s88 s89 s90 s91 s92 s93 s94 s95 s96 s97 s98 s99 s100 s101 s102 s103 s104 s105 s106 s107 s108 s109 s110 s111 s112 s113 s114 s115 s116 s117 s118 s119 s120 s121 s122 s123 s124 s125 s126 s127 s128 s129 s130 s131 s132 s133 s134 s135 s136 s137 s138 s139 s140 s141 s142 s143 s144 s145 s146 s147 s148 s149 s150 s151 s152 s153 s154 s155 s156 s157 s158 s159 s160 s161 s162 s163 s164 s165 s166 s167 s168 s169 s170 s171 s172 s173 s174 s175 s176 s177 s178 s179 s180 s181 s182 s183 s184 s185 s186 s187 s188 s189 s190 s191 s192 s193 s194 s195 s196 s197 s198 s199 s200 s201 s202 s203 s204 s205 s206 s207 s208 s209 s210 s211 s212 s213 s214 s215 s216 s217 s218 s219 : Value} (w : World) (a b c : Nat) (q : Bool) (hq : decide (a < b ∧ b < c) = q)
    (hK : ∀ (d178 d179 d180 d181 d182 d183 d184 : Value), Q .normal ⟨#[s0, s1, .int .i64 (b : Nat), s3, s4, s5, s6, s7, s8, s9, s10, s11, s12, s13, s14, s15, s16, s17, s18, s19, .int .i64 (a : Nat), s21, s22, s23, .int .i64 (c : Nat), s25, s26, s27, s28, s29, s30, s31, s32, s33, s34, s35, s36, s37, s38, s39, s40, s41, s42, s43, s44, s45, s46, s47, s48, s49, s50, s51, s52, s53, s54, s55, s56, s57, s58, s59, s60, s61, s62, s63, s64, s65, s66, s67, s68, s69, s70, s71, s72, s73, s74, s75, s76, s77, s78, s79, s80, s81, s82, s83, s84, s85, s86, s87, s88, s89, s90, s91, s92, s93, s94, s95, s96, s97, s98, s99, s100, s101, s102, s103, s104, s105, s106, s107, s108, s109, s110, s111, s112, s113, s114, s115, s116, s117, s118, s119, s120, s121, s122, s123, s124, s125, s126, s127, s128, s129, s130, s131, s132, s133, s134, s135, s136, s137, s138, s139, s140, s141, s142, s143, s144, s145, s146, s147, s148, s149, s150, s151, s152, s153, s154, s155, s156, s157, s158, s159, s160, s161, s162, s163, s164, s165, s166, s167, s168, s169, s170, s171, s172, s173, s174, s175, s176, s177, d178, d179, d180, d181, d182, d183, d184, .bool q, s186, s187, s188, s189, s190, s191, s192, s193, s194, s195, s196, s197, s198, s199, s200, s201, s202, s203, s204, s205, s206, s207, s208, s209, s210, s211, s212, s213, s214, s215, s216, s217, s218, s219], []⟩ w) :
    Code.wp Try.prog sym_r39_code Q ⟨#[s0, s1, .int .i64 (b : Nat), s3, s4, s5, s6, s7, s8, s9, s10, s11, s12, s13, s14, s15, s16, s17, s18, s19, .int .i64 (a : Nat), s21, s22, s23, .int .i64 (c : Nat), s25, s26, s27, s28, s29, s30, s31, s32, s33, s34, s35, s36, s37, s38, s39, s40, s41, s42, s43, s44, s45, s46, s47, s48, s49, s50, s51, s52, s53, s54, s55, s56, s57, s58, s59, s60, s61, s62, s63, s64, s65, s66, s67, s68, s69, s70, s71, s72, s73, s74, s75, s76, s77, s78, s79, s80, s81, s82, s83, s84, s85, s86, s87, s88, s89, s90, s91, s92, s93, s94, s95, s96, s97, s98, s99, s100, s101, s102, s103, s104, s105, s106, s107, s108, s109, s110, s111, s112, s113, s114, s115, s116, s117, s118, s119, s120, s121, s122, s123, s124, s125, s126, s127, s128, s129, s130, s131, s132, s133, s134, s135, s136, s137, s138, s139, s140, s141, s142, s143, s144, s145, s146, s147, s148, s149, s150, s151, s152, s153, s154, s155, s156, s157, s158, s159, s160, s161, s162, s163, s164, s165, s166, s167, s168, s169, s170, s171, s172, s173, s174, s175, s176, s177, s178, s179, s180, s181, s182, s183, s184, s185, s186, s187, s188, s189, s190, s191, s192, s193, s194, s195, s196, s197, s198, s199, s200, s201, s202, s203, s204, s205, s206, s207, s208, s209, s210, s211, s212, s213, s214, s215, s216, s217, s218, s219], []⟩ w := by
  have HK := Lib.hid hK; clear hK
  conv => arg 2; whnf
  by_cases h1 : a < b
  · by_cases h2 : b < c
    · have d1 : decide (a < b) = true := decide_eq_true h1
      have d2 : decide (b < c) = true := decide_eq_true h2
      obtain rfl : true = q := by rw [← hq]; exact (decide_eq_true ⟨h1, h2⟩).symm
      clear h1 h2 hq
      go_wp2
      exact HK.out _ _ _ _ _ _ _
    · have d1 : decide (a < b) = true := decide_eq_true h1
      have d2 : decide (b < c) = false := decide_eq_false h2
      obtain rfl : false = q := by rw [← hq]; exact (decide_eq_false (fun h => h2 h.2)).symm
      clear h1 h2 hq
      go_wp2
      exact HK.out _ _ _ _ _ _ _
  · have d1 : decide (a < b) = false := decide_eq_false h1
    obtain rfl : false = q := by rw [← hq]; exact (decide_eq_false (fun h => h1 h.1)).symm
    clear h1 hq
    go_wp2
    exact HK.out _ _ _ _ _ _ _
noncomputable def sym_r41_code : Code := regionOf Try.f28 41
set_option maxRecDepth 100000 in
set_option maxHeartbeats 2000000 in
theorem sym_r41 {Q : Exit → Act → World → Prop} {s0 s2 s3 s4 s5 s6 s7 s8 s9 s10 s11 s12 s13 s14 s15 s16 s17 s19 s21 s22 s23 s24 s25 s26 s27 s28 s29 s30 s31 s32 s33 s34 s35 s36 s37 s38 s39 s40 s41 s42 s43 s44 s45 s46 s47 s48 s49 s50 s51 s52 s53 s54 s55 s56 s57 s58 s59 s60 s61 s62 s63 s64 s65 s66 s67 s68 s69 s70 s71 s72 s73 s74 s75 s76 s77 s78 s79 s80 s81 s82 s83 s84 s85 s86 s87 s88 s89 s90 s91 s92 s93 s94 s95 s96 s97 s98 s99 s100 s101 s102 s103 s104 s105 s106 s107 s108 s109 s110 s111 s112 s113 s114 s115 s116 s117 s118 s119 s120 s121 s122 s123 s124 s125 s126 s127 s128 s129 s130 s131 s132 s133 s134 s135 s136 s137 s138 s139 s140 s141 s142 s143 s144 s145 s146 s147 s148 s149 s150 s151 s152 s153 s154 s155 s156 s157 s158 s159 s160 s161 s162 s163 s164 s165 s166 s167 s168 s169 s170 s171 s172 s173 s174 s175 s176 s177 s178 s179 s180 s181 s182 s183 s184 s185 s186 s187 s188 s189 s190 s191 s192 s193 s194 s195 s196 s197 s198 s199 s200 s201 s202 s203 s204 s205 s206 s207 s208 s209 s210 s211 s212 s213 s214 s215 s216 s217 s218 s219 : Value} (w : World) (a b c : Nat) (q : Bool) (hq : decide (a < b ∧ b < c) = q)
    (hK : ∀ (d192 d193 d194 d195 d196 d197 d198 : Value), Q .normal ⟨#[s0, .int .i64 (a : Nat), s2, s3, s4, s5, s6, s7, s8, s9, s10, s11, s12, s13, s14, s15, s16, s17, .int .i64 (c : Nat), s19, .int .i64 (b : Nat), s21, s22, s23, s24, s25, s26, s27, s28, s29, s30, s31, s32, s33, s34, s35, s36, s37, s38, s39, s40, s41, s42, s43, s44, s45, s46, s47, s48, s49, s50, s51, s52, s53, s54, s55, s56, s57, s58, s59, s60, s61, s62, s63, s64, s65, s66, s67, s68, s69, s70, s71, s72, s73, s74, s75, s76, s77, s78, s79, s80, s81, s82, s83, s84, s85, s86, s87, s88, s89, s90, s91, s92, s93, s94, s95, s96, s97, s98, s99, s100, s101, s102, s103, s104, s105, s106, s107, s108, s109, s110, s111, s112, s113, s114, s115, s116, s117, s118, s119, s120, s121, s122, s123, s124, s125, s126, s127, s128, s129, s130, s131, s132, s133, s134, s135, s136, s137, s138, s139, s140, s141, s142, s143, s144, s145, s146, s147, s148, s149, s150, s151, s152, s153, s154, s155, s156, s157, s158, s159, s160, s161, s162, s163, s164, s165, s166, s167, s168, s169, s170, s171, s172, s173, s174, s175, s176, s177, s178, s179, s180, s181, s182, s183, s184, s185, s186, s187, s188, s189, s190, s191, d192, d193, d194, d195, d196, d197, d198, .bool q, s200, s201, s202, s203, s204, s205, s206, s207, s208, s209, s210, s211, s212, s213, s214, s215, s216, s217, s218, s219], []⟩ w) :
    Code.wp Try.prog sym_r41_code Q ⟨#[s0, .int .i64 (a : Nat), s2, s3, s4, s5, s6, s7, s8, s9, s10, s11, s12, s13, s14, s15, s16, s17, .int .i64 (c : Nat), s19, .int .i64 (b : Nat), s21, s22, s23, s24, s25, s26, s27, s28, s29, s30, s31, s32, s33, s34, s35, s36, s37, s38, s39, s40, s41, s42, s43, s44, s45, s46, s47, s48, s49, s50, s51, s52, s53, s54, s55, s56, s57, s58, s59, s60, s61, s62, s63, s64, s65, s66, s67, s68, s69, s70, s71, s72, s73, s74, s75, s76, s77, s78, s79, s80, s81, s82, s83, s84, s85, s86, s87, s88, s89, s90, s91, s92, s93, s94, s95, s96, s97, s98, s99, s100, s101, s102, s103, s104, s105, s106, s107, s108, s109, s110, s111, s112, s113, s114, s115, s116, s117, s118, s119, s120, s121, s122, s123, s124, s125, s126, s127, s128, s129, s130, s131, s132, s133, s134, s135, s136, s137, s138, s139, s140, s141, s142, s143, s144, s145, s146, s147, s148, s149, s150, s151, s152, s153, s154, s155, s156, s157, s158, s159, s160, s161, s162, s163, s164, s165, s166, s167, s168, s169, s170, s171, s172, s173, s174, s175, s176, s177, s178, s179, s180, s181, s182, s183, s184, s185, s186, s187, s188, s189, s190, s191, s192, s193, s194, s195, s196, s197, s198, s199, s200, s201, s202, s203, s204, s205, s206, s207, s208, s209, s210, s211, s212, s213, s214, s215, s216, s217, s218, s219], []⟩ w := by
  have HK := Lib.hid hK; clear hK
  conv => arg 2; whnf
  by_cases h1 : a < b
  · by_cases h2 : b < c
    · have d1 : decide (a < b) = true := decide_eq_true h1
      have d2 : decide (b < c) = true := decide_eq_true h2
      obtain rfl : true = q := by rw [← hq]; exact (decide_eq_true ⟨h1, h2⟩).symm
      clear h1 h2 hq
      go_wp2
      exact HK.out _ _ _ _ _ _ _
    · have d1 : decide (a < b) = true := decide_eq_true h1
      have d2 : decide (b < c) = false := decide_eq_false h2
      obtain rfl : false = q := by rw [← hq]; exact (decide_eq_false (fun h => h2 h.2)).symm
      clear h1 h2 hq
      go_wp2
      exact HK.out _ _ _ _ _ _ _
  · have d1 : decide (a < b) = false := decide_eq_false h1
    obtain rfl : false = q := by rw [← hq]; exact (decide_eq_false (fun h => h1 h.1)).symm
    clear h1 hq
    go_wp2
    exact HK.out _ _ _ _ _ _ _
noncomputable def sym_r43_code : Code := regionOf Try.f28 43
set_option maxRecDepth 100000 in
set_option maxHeartbeats 2000000 in
theorem sym_r43 {Q : Exit → Act → World → Prop} {s0 s1 s2 s4 s5 s6 s7 s8 s9 s10 s11 s12 s13 s14 s15 s16 s17 s19 s20 s21 s22 s23 s25 s26 s27 s28 s29 s30 s31 s32 s33 s34 s35 s36 s37 s38 s39 s40 s41 s42 s43 s44 s45 s46 s47 s48 s49 s50 s51 s52 s53 s54 s55 s56 s57 s58 s59 s60 s61 s62 s63 s64 s65 s66 s67 s68 s69 s70 s71 s72 s73 s74 s75 s76 s77 s78 s79 s80 s81 s82 s83 s84 s85 s86 s87 s88 s89 s90 s91 s92 s93 s94 s95 s96 s97 s98 s99 s100 s101 s102 s103 s104 s105 s106 s107 s108 s109 s110 s111 s112 s113 s114 s115 s116 s117 s118 s119 s120 s121 s122 s123 s124 s125 s126 s127 s128 s129 s130 s131 s132 s133 s134 s135 s136 s137 s138 s139 s140 s141 s142 s143 s144 s145 s146 s147 s148 s149 s150 s151 s152 s153 s154 s155 s156 s157 s158 s159 s160 s161 s162 s163 s164 s165 s166 s167 s168 s169 s170 s171 s172 s173 s174 s175 s176 s177 s178 s179 s180 s181 s182 s183 s184 s185 s186 s187 s188 s189 s190 s191 s192 s193 s194 s195 s196 s197 s198 s199 s200 s201 s202 s203 s204 s205 s206 s207 s208 s209 s210 s211 s212 s213 s214 s215 s216 s217 s218 s219 : Value} (w : World) (a b c : Nat) (q : Bool) (hq : decide (a < b ∧ b < c) = q)
    (hK : ∀ (d206 d207 d208 d209 d210 d211 d212 : Value), Q .normal ⟨#[s0, s1, s2, .int .i64 (c : Nat), s4, s5, s6, s7, s8, s9, s10, s11, s12, s13, s14, s15, s16, s17, .int .i64 (a : Nat), s19, s20, s21, s22, s23, .int .i64 (b : Nat), s25, s26, s27, s28, s29, s30, s31, s32, s33, s34, s35, s36, s37, s38, s39, s40, s41, s42, s43, s44, s45, s46, s47, s48, s49, s50, s51, s52, s53, s54, s55, s56, s57, s58, s59, s60, s61, s62, s63, s64, s65, s66, s67, s68, s69, s70, s71, s72, s73, s74, s75, s76, s77, s78, s79, s80, s81, s82, s83, s84, s85, s86, s87, s88, s89, s90, s91, s92, s93, s94, s95, s96, s97, s98, s99, s100, s101, s102, s103, s104, s105, s106, s107, s108, s109, s110, s111, s112, s113, s114, s115, s116, s117, s118, s119, s120, s121, s122, s123, s124, s125, s126, s127, s128, s129, s130, s131, s132, s133, s134, s135, s136, s137, s138, s139, s140, s141, s142, s143, s144, s145, s146, s147, s148, s149, s150, s151, s152, s153, s154, s155, s156, s157, s158, s159, s160, s161, s162, s163, s164, s165, s166, s167, s168, s169, s170, s171, s172, s173, s174, s175, s176, s177, s178, s179, s180, s181, s182, s183, s184, s185, s186, s187, s188, s189, s190, s191, s192, s193, s194, s195, s196, s197, s198, s199, s200, s201, s202, s203, s204, s205, d206, d207, d208, d209, d210, d211, d212, .bool q, s214, s215, s216, s217, s218, s219], []⟩ w) :
    Code.wp Try.prog sym_r43_code Q ⟨#[s0, s1, s2, .int .i64 (c : Nat), s4, s5, s6, s7, s8, s9, s10, s11, s12, s13, s14, s15, s16, s17, .int .i64 (a : Nat), s19, s20, s21, s22, s23, .int .i64 (b : Nat), s25, s26, s27, s28, s29, s30, s31, s32, s33, s34, s35, s36, s37, s38, s39, s40, s41, s42, s43, s44, s45, s46, s47, s48, s49, s50, s51, s52, s53, s54, s55, s56, s57, s58, s59, s60, s61, s62, s63, s64, s65, s66, s67, s68, s69, s70, s71, s72, s73, s74, s75, s76, s77, s78, s79, s80, s81, s82, s83, s84, s85, s86, s87, s88, s89, s90, s91, s92, s93, s94, s95, s96, s97, s98, s99, s100, s101, s102, s103, s104, s105, s106, s107, s108, s109, s110, s111, s112, s113, s114, s115, s116, s117, s118, s119, s120, s121, s122, s123, s124, s125, s126, s127, s128, s129, s130, s131, s132, s133, s134, s135, s136, s137, s138, s139, s140, s141, s142, s143, s144, s145, s146, s147, s148, s149, s150, s151, s152, s153, s154, s155, s156, s157, s158, s159, s160, s161, s162, s163, s164, s165, s166, s167, s168, s169, s170, s171, s172, s173, s174, s175, s176, s177, s178, s179, s180, s181, s182, s183, s184, s185, s186, s187, s188, s189, s190, s191, s192, s193, s194, s195, s196, s197, s198, s199, s200, s201, s202, s203, s204, s205, s206, s207, s208, s209, s210, s211, s212, s213, s214, s215, s216, s217, s218, s219], []⟩ w := by
  have HK := Lib.hid hK; clear hK
  conv => arg 2; whnf
  by_cases h1 : a < b
  · by_cases h2 : b < c
    · have d1 : decide (a < b) = true := decide_eq_true h1
      have d2 : decide (b < c) = true := decide_eq_true h2
      obtain rfl : true = q := by rw [← hq]; exact (decide_eq_true ⟨h1, h2⟩).symm
      clear h1 h2 hq
      go_wp2
      exact HK.out _ _ _ _ _ _ _
    · have d1 : decide (a < b) = true := decide_eq_true h1
      have d2 : decide (b < c) = false := decide_eq_false h2
      obtain rfl : false = q := by rw [← hq]; exact (decide_eq_false (fun h => h2 h.2)).symm
      clear h1 h2 hq
      go_wp2
      exact HK.out _ _ _ _ _ _ _
  · have d1 : decide (a < b) = false := decide_eq_false h1
    obtain rfl : false = q := by rw [← hq]; exact (decide_eq_false (fun h => h1 h.1)).symm
    clear h1 hq
    go_wp2
    exact HK.out _ _ _ _ _ _ _
end Go.Proofs.Ytponbodiibkopaa
