/-
  NetOnce: what arrives at one time.
-/
import Derived.Test.YtponbodiibkopaaOnceA
namespace Go.Proofs.Ytponbodiibkopaa
open Go.RowKit Go.Sort
set_option linter.unusedVariables false

noncomputable def once_r24_code : Code := regionOf Try.f4 24
set_option maxRecDepth 100000 in
set_option maxHeartbeats 2000000 in
theorem once_r24 {Q : Exit → Act → World → Prop} {s0 s2 s3 s4 s5 s6 s7 s8 s10 s11 s12 s14 s15 s16 s17 s18 s19 s20 s21 s22 s23 s24 s25 s26 s27 s28 s29 s30 s31 s32 s33 s34 s35 s36 s37 s38 s39 s40 s41 s42 s43 s44 s45 s46 s47 s48 s49 s50 s51 s52 s53 s54 s55 s56 s57 s58 s59 s60 s61 s62 s63 s64 s65 s66 s67 s68 s69 s70 s71 s72 s73 s74 s75 s76 s77 s78 s79 s80 s81 s82 s83 s84 s85 s86 s87 s88 s89 s90 s91 s92 s93 s94 s95 s96 s97 s98 s99 s100 s101 s102 s103 s104 s105 s106 s107 s108 s109 s110 s111 s112 s113 s114 s115 s116 s117 s118 s119 s120 s121 s122 s123 s124 s125 s126 s127 s128 s129 s130 s131 s132 s133 s134 s135 s136 s137 s138 s139 s140 s141 s142 s143 s144 s145 s146 s147 s148 s149 s150 s151 s152 s153 s154 s155 s156 s157 s158 s159 s160 s161 s162 s163 s164 s165 s166 s167 s168 s169 s170 s171 s172 s173 : Value} (w : World) (D i N bc n c : Nat) (now tg : Int) (bs : List (List Int)) (BA T : Option Addr) (y : List Int) (h0 : w.cell? ⟨D, 0, none⟩ = some (.int .i64 now)) (h1 : w.cell? ⟨D, 1, none⟩ = some (.int .i64 (i : Nat))) (h3 : w.cell? ⟨D, 3, none⟩ = some (.slice T n c))
    (hN : bs.length = N) (hbs : Sl Rbd w (lo w.heap.size) BA bs) (hi : bs[i]? = some y) (hN40 : N ≤ 40) (hn : y.length = n) (hT : Sl (Rint .u8) w (lo w.heap.size) T y)
    (hK : ∀ (d79 d80 d81 d82 d83 d84 d85 d86 d87 d88 d89 d90 d91 d92 d93 d94 d95 d96 d97 d98 d99 d100 d101 d102 d103 d104 : Value) (w' : World), Below w.heap.size w w' → Q .normal ⟨#[s0, .slice BA N bc, s2, s3, s4, s5, s6, s7, s8, .int .i64 now, s10, s11, s12, .pointer (some ⟨D, 0, none⟩), s14, s15, s16, s17, s18, s19, s20, s21, s22, s23, s24, s25, s26, s27, s28, s29, s30, s31, s32, s33, s34, s35, s36, s37, s38, s39, s40, s41, s42, s43, s44, s45, s46, s47, s48, s49, s50, s51, s52, s53, s54, s55, s56, s57, s58, s59, s60, s61, s62, s63, s64, s65, s66, s67, s68, s69, s70, s71, s72, s73, s74, s75, s76, s77, s78, d79, d80, d81, d82, d83, d84, d85, d86, d87, d88, d89, d90, d91, d92, d93, d94, d95, d96, d97, d98, d99, d100, d101, d102, d103, d104, .bool false, s106, s107, s108, s109, s110, s111, s112, s113, s114, s115, s116, s117, s118, s119, s120, s121, s122, s123, s124, s125, s126, s127, s128, s129, s130, s131, s132, s133, s134, s135, s136, s137, s138, s139, s140, s141, s142, s143, s144, s145, s146, s147, s148, s149, s150, s151, s152, s153, s154, s155, s156, s157, s158, s159, s160, s161, s162, s163, s164, s165, s166, s167, s168, s169, s170, s171, s172, s173], []⟩ w') :
    Code.wp Try.prog once_r24_code Q ⟨#[s0, .slice BA N bc, s2, s3, s4, s5, s6, s7, s8, .int .i64 now, s10, s11, s12, .pointer (some ⟨D, 0, none⟩), s14, s15, s16, s17, s18, s19, s20, s21, s22, s23, s24, s25, s26, s27, s28, s29, s30, s31, s32, s33, s34, s35, s36, s37, s38, s39, s40, s41, s42, s43, s44, s45, s46, s47, s48, s49, s50, s51, s52, s53, s54, s55, s56, s57, s58, s59, s60, s61, s62, s63, s64, s65, s66, s67, s68, s69, s70, s71, s72, s73, s74, s75, s76, s77, s78, s79, s80, s81, s82, s83, s84, s85, s86, s87, s88, s89, s90, s91, s92, s93, s94, s95, s96, s97, s98, s99, s100, s101, s102, s103, s104, s105, s106, s107, s108, s109, s110, s111, s112, s113, s114, s115, s116, s117, s118, s119, s120, s121, s122, s123, s124, s125, s126, s127, s128, s129, s130, s131, s132, s133, s134, s135, s136, s137, s138, s139, s140, s141, s142, s143, s144, s145, s146, s147, s148, s149, s150, s151, s152, s153, s154, s155, s156, s157, s158, s159, s160, s161, s162, s163, s164, s165, s166, s167, s168, s169, s170, s171, s172, s173], []⟩ w := by
  have HK := Lib.hid hK; clear hK
  have hiN : i < N := by rw [← hN]; exact (List.getElem?_eq_some_iff.1 hi).1
  obtain ⟨b', off', T', tn', tc', rfl, hlb, htn', _, _, hts, y0⟩ := hbs.sub hi
  have k0 := cell_regrown h0; have k1 := cell_regrown h1; have k3 := cell_regrown h3; have l0 := cell_regrown y0
  have CS := Lib.hid (fun d os => Calls.regrown_of ((same_any T y n c hn T' y tn' tc' htn' (grow (redrawn w d) os) (hT.below (below_regrown w d os) (below_regrown w d os).size) (hts.below (below_regrown w d os) (below_regrown w d os).size)).mono (fun e w' h => (⟨by rw [h.1]; simp, by rw [h.2]; exact Below.refl _ _⟩ : e = .returned (.bool true) ∧ Below (grow (redrawn w d) os).heap.size (grow (redrawn w d) os) w'))))
  have d1 : decide ((i : Int) < 0) = false := decide_eq_false (by omega)
  have d2 : decide (N ≤ i) = false := decide_eq_false (by omega)
  have d3 : (now != now) = false := by simp
  clear h0 h1 h3 hN hbs hi hn hT hts y0 htn' hlb
  conv => arg 2; whnf
  refine wp_region_quiet_below (by kernel_rfl) (by kernel_rfl) ?_
  repeat (any_goals (first | go_big_quiet_step (with_reducible exact CS.out _ _) | quiet_step (with_reducible exact CS.out _ _)))
  refine wpQuiet_nil ?_
  rintro _ ⟨⟨dq, osq⟩, rfl⟩
  exact HK.out _ _ _ _ _ _ _ _ _ _ _ _ _ _ _ _ _ _ _ _ _ _ _ _ _ _ _ (below_regrown w dq osq)
noncomputable def once_r29_code : Code := regionOf Try.f4 29
set_option maxRecDepth 100000 in
set_option maxHeartbeats 2000000 in
theorem once_r29 {Q : Exit → Act → World → Prop} {s0 s1 s2 s3 s4 s5 s6 s7 s10 s11 s12 s15 s16 s17 s18 s19 s20 s21 s22 s23 s24 s25 s26 s27 s28 s29 s30 s31 s32 s33 s34 s35 s36 s37 s38 s39 s40 s41 s42 s43 s44 s45 s46 s47 s48 s49 s50 s51 s52 s53 s54 s55 s56 s57 s58 s59 s60 s61 s62 s63 s64 s65 s66 s67 s68 s69 s70 s71 s72 s73 s74 s75 s76 s77 s78 s79 s80 s81 s82 s83 s84 s85 s86 s87 s88 s89 s90 s91 s92 s93 s94 s95 s96 s97 s98 s99 s100 s101 s102 s103 s104 s105 s106 s107 s108 s109 s110 s111 s112 s113 s114 s115 s116 s117 s118 s119 s120 s121 s122 s123 s124 s125 s126 s127 s128 s129 s130 s131 s132 s133 s134 s135 s136 s137 s138 s139 s140 s141 s142 s143 s144 s145 s146 s147 s148 s149 s150 s151 s152 s153 s154 s155 s156 s157 s158 s159 s160 s161 s162 s163 s164 s165 s166 s167 s168 s169 s170 s171 s172 s173 : Value} (w : World) (D M i N v : Nat) (now f : Int) (h1 : w.cell? ⟨D, 1, none⟩ = some (.int .i64 (i : Nat))) (hM : w.cell? ⟨M, i, none⟩ = some (.int .i64 (v : Nat))) (hi : i < N) (hN40 : N ≤ 40) (hv : v ≤ 1000) (hf : 0 ≤ f) (hf2 : f ≤ 9223372036854775807) (hnow : now = i + 1 + f % 16 + v)
    (hK : ∀ (d116 d117 d118 d119 d120 d121 d122 d123 d124 d125 d126 d127 d128 d129 d130 d131 d132 : Value) (w' : World), Below w.heap.size w w' → Q .normal ⟨#[s0, s1, s2, s3, s4, s5, s6, s7, .slice (some ⟨M, 0, none⟩) N N, .int .i64 now, s10, s11, s12, .pointer (some ⟨D, 0, none⟩), .int .i64 f, s15, s16, s17, s18, s19, s20, s21, s22, s23, s24, s25, s26, s27, s28, s29, s30, s31, s32, s33, s34, s35, s36, s37, s38, s39, s40, s41, s42, s43, s44, s45, s46, s47, s48, s49, s50, s51, s52, s53, s54, s55, s56, s57, s58, s59, s60, s61, s62, s63, s64, s65, s66, s67, s68, s69, s70, s71, s72, s73, s74, s75, s76, s77, s78, s79, s80, s81, s82, s83, s84, s85, s86, s87, s88, s89, s90, s91, s92, s93, s94, s95, s96, s97, s98, s99, s100, s101, s102, s103, s104, s105, s106, s107, s108, s109, s110, s111, s112, s113, s114, s115, d116, d117, d118, d119, d120, d121, d122, d123, d124, d125, d126, d127, d128, d129, d130, d131, d132, .bool false, s134, s135, s136, s137, s138, s139, s140, s141, s142, s143, s144, s145, s146, s147, s148, s149, s150, s151, s152, s153, s154, s155, s156, s157, s158, s159, s160, s161, s162, s163, s164, s165, s166, s167, s168, s169, s170, s171, s172, s173], []⟩ w') :
    Code.wp Try.prog once_r29_code Q ⟨#[s0, s1, s2, s3, s4, s5, s6, s7, .slice (some ⟨M, 0, none⟩) N N, .int .i64 now, s10, s11, s12, .pointer (some ⟨D, 0, none⟩), .int .i64 f, s15, s16, s17, s18, s19, s20, s21, s22, s23, s24, s25, s26, s27, s28, s29, s30, s31, s32, s33, s34, s35, s36, s37, s38, s39, s40, s41, s42, s43, s44, s45, s46, s47, s48, s49, s50, s51, s52, s53, s54, s55, s56, s57, s58, s59, s60, s61, s62, s63, s64, s65, s66, s67, s68, s69, s70, s71, s72, s73, s74, s75, s76, s77, s78, s79, s80, s81, s82, s83, s84, s85, s86, s87, s88, s89, s90, s91, s92, s93, s94, s95, s96, s97, s98, s99, s100, s101, s102, s103, s104, s105, s106, s107, s108, s109, s110, s111, s112, s113, s114, s115, s116, s117, s118, s119, s120, s121, s122, s123, s124, s125, s126, s127, s128, s129, s130, s131, s132, s133, s134, s135, s136, s137, s138, s139, s140, s141, s142, s143, s144, s145, s146, s147, s148, s149, s150, s151, s152, s153, s154, s155, s156, s157, s158, s159, s160, s161, s162, s163, s164, s165, s166, s167, s168, s169, s170, s171, s172, s173], []⟩ w := by
  have HK := Lib.hid hK; clear hK
  have k1 := cell_regrown h1; have l0 := cell_regrown hM
  have d1 : decide (f < 0) = false := decide_eq_false (by omega)
  have d3 : (now != (i : Int) + 1 + f % 16 + (v : Int)) = false := by simp; omega
  have hz40 : i ≤ 40 := by omega
  clear h1 hM hnow
  conv => arg 2; whnf
  refine wp_region_quiet_below (by kernel_rfl) (by kernel_rfl) ?_
  repeat (any_goals (first | go_big_quiet_step (fail) | quiet_step (fail)))
  refine wpQuiet_nil ?_
  rintro _ ⟨⟨dq, osq⟩, rfl⟩
  exact HK.out _ _ _ _ _ _ _ _ _ _ _ _ _ _ _ _ _ _ (below_regrown w dq osq)
end Go.Proofs.Ytponbodiibkopaa
