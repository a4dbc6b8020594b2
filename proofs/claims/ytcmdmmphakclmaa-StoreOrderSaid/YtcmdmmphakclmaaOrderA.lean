/-
  StoreOrder: the loops behind the letters: of each sender's letters those for each receiver are those that stand in the box.
-/
import Derived.Test.YtcmdmmphakclmaaPieces
import Derived.Test.YtcmdmmphakclmaaStoreJ
namespace Go.Proofs.Ytcmdmmphakclmaa
open Go.RowKit Go.Sort
set_option linter.unusedVariables false

noncomputable def order_f1_code : Code := blockOf Try.f3 6
set_option maxRecDepth 100000 in
set_option maxHeartbeats 1000000 in
theorem order_f1 {Q : Exit → Act → World → Prop} {s0 s1 s2 s3 s4 s5 s6 s7 s8 s9 s10 s11 s12 s13 s14 s15 s17 s18 s19 s21 s22 s23 s24 s25 s26 s27 s28 s29 s30 s31 s32 s33 s34 s35 s36 s37 s38 s39 s40 s41 s42 s43 s44 s45 s46 s47 s48 s49 s50 s51 s52 s53 s54 s55 s56 s57 s58 s59 s60 s61 s62 s63 s64 s65 s66 s67 s68 s69 s70 s71 s72 s73 s74 s75 s76 s77 s78 s79 s80 s81 s82 s83 s84 s85 s86 s87 s88 s89 s90 s91 s92 s93 s94 s95 s96 s97 s98 s99 s100 s101 s102 s103 s104 s105 s106 s107 s108 s109 s110 s111 s112 s113 s114 s115 s116 s117 s118 s119 s120 s121 s122 s123 s124 s125 s126 s127 s128 s129 s130 s131 s132 s133 s134 s135 s136 s137 s138 s139 s140 s141 s142 s143 s144 s145 s146 s147 s148 s149 s150 s151 s152 s153 s154 s155 s156 s157 s158 s159 s160 s161 s162 s163 s164 s165 s166 s167 s168 s169 s170 s171 s172 s173 s174 s175 s176 s177 s178 s179 s180 s181 s182 s183 s184 s185 s186 s187 s191 s192 s193 s194 s195 s196 s197 s198 s199 s200 s201 s202 s203 s204 s205 s206 s207 s208 s209 s210 s211 s212 s213 s214 s215 s216 s217 s218 s219 s220 s221 s222 s223 : Value} (key : Int) (w : World) (T : Option Addr) (q qc : Nat) (bx : List Lt) (hq : bx.length = q) (hT : Sl Rlt w (lo w.heap.size) T bx) (hq56 : q * 56 ≤ 140737488351344)
    (hK : ∀ (d23 d190 d191 d192 d193 d194 d195 d196 d197 d198 d199 d200 d201 d202 vx : Value) (w' : World), Own Rlt w' w.heap.size 34 (lo w.heap.size) vx (bx.filter (fun z => decide (z.fr = key))) → Below w.heap.size w w' → Q .normal ⟨#[s0, s1, s2, s3, s4, s5, s6, s7, s8, s9, s10, s11, s12, s13, s14, s15, .int .i64 key, s17, s18, s19, vx, s21, s22, d23, s24, s25, s26, s27, s28, s29, s30, s31, s32, s33, s34, s35, s36, s37, s38, s39, s40, s41, s42, s43, s44, s45, s46, s47, s48, s49, s50, s51, s52, s53, s54, s55, s56, s57, s58, s59, s60, s61, s62, s63, s64, s65, s66, s67, s68, s69, s70, s71, s72, s73, s74, s75, s76, s77, s78, s79, s80, s81, s82, s83, s84, s85, s86, s87, s88, s89, s90, s91, s92, s93, s94, s95, s96, s97, s98, s99, s100, s101, s102, s103, s104, s105, s106, s107, s108, s109, s110, s111, s112, s113, s114, s115, s116, s117, s118, s119, s120, s121, s122, s123, s124, s125, s126, s127, s128, s129, s130, s131, s132, s133, s134, s135, s136, s137, s138, s139, s140, s141, s142, s143, s144, s145, s146, s147, s148, s149, s150, s151, s152, s153, s154, s155, s156, s157, s158, s159, s160, s161, s162, s163, s164, s165, s166, s167, s168, s169, s170, s171, s172, s173, s174, s175, s176, s177, s178, s179, s180, s181, s182, s183, s184, s185, s186, s187, .slice T q qc, .int .i64 q, d190, d191, d192, d193, d194, d195, d196, d197, d198, d199, d200, d201, d202, s203, s204, s205, s206, s207, s208, s209, s210, s211, s212, s213, s214, s215, s216, s217, s218, s219, s220, s221, s222, s223], []⟩ w') :
    Code.wp Try.prog order_f1_code Q ⟨#[s0, s1, s2, s3, s4, s5, s6, s7, s8, s9, s10, s11, s12, s13, s14, s15, .int .i64 key, s17, s18, s19, .slice none 0 0, s21, s22, s23, s24, s25, s26, s27, s28, s29, s30, s31, s32, s33, s34, s35, s36, s37, s38, s39, s40, s41, s42, s43, s44, s45, s46, s47, s48, s49, s50, s51, s52, s53, s54, s55, s56, s57, s58, s59, s60, s61, s62, s63, s64, s65, s66, s67, s68, s69, s70, s71, s72, s73, s74, s75, s76, s77, s78, s79, s80, s81, s82, s83, s84, s85, s86, s87, s88, s89, s90, s91, s92, s93, s94, s95, s96, s97, s98, s99, s100, s101, s102, s103, s104, s105, s106, s107, s108, s109, s110, s111, s112, s113, s114, s115, s116, s117, s118, s119, s120, s121, s122, s123, s124, s125, s126, s127, s128, s129, s130, s131, s132, s133, s134, s135, s136, s137, s138, s139, s140, s141, s142, s143, s144, s145, s146, s147, s148, s149, s150, s151, s152, s153, s154, s155, s156, s157, s158, s159, s160, s161, s162, s163, s164, s165, s166, s167, s168, s169, s170, s171, s172, s173, s174, s175, s176, s177, s178, s179, s180, s181, s182, s183, s184, s185, s186, s187, .slice T q qc, .int .i64 q, .int .i64 0, s191, s192, s193, s194, s195, s196, s197, s198, s199, s200, s201, s202, s203, s204, s205, s206, s207, s208, s209, s210, s211, s212, s213, s214, s215, s216, s217, s218, s219, s220, s221, s222, s223], []⟩ w := by
  have HK := Lib.hid hK; clear hK
  have HB := Lib.hid (And.intro hq hT); clear hq hT
  have hq5' : q ≤ 9223372036854775807 := by omega
  conv => arg 2; whnf
  go_wp2
  go_loopw [20, 190] (fun vx i wi => ∃ i0 : Nat, i0 ≤ q ∧ i = .int .i64 i0 ∧ Hid (Own Rlt wi w.heap.size 34 (lo w.heap.size) vx ((bx.take i0).filter (fun z => decide (z.fr = key)))) ∧ Below w.heap.size w wi) (fun _ i _ => q - (intOf i).toNat)
  case atStart => exact ⟨0, Nat.zero_le _, rfl, Own.nil _ _ _ _ _, Below.refl _ _⟩
  case round =>
    obtain ⟨wi, rfl⟩ : ∃ wi : World, wi = wr := ⟨_, rfl⟩
    obtain ⟨i0, hi0, rfl, hown, hbi⟩ := hrel
    by_cases hlt3 : i0 < q
    · have hy := List.getElem?_eq_getElem (l := bx) (i := i0) (by rw [HB.out.1]; exact hlt3)
      generalize bx[i0]'(by rw [HB.out.1]; exact hlt3) = y at hy
      obtain ⟨b', off', T7, tn7, tc7, rfl, _, w1', w2', w3', htn, htl, htm, hts, y0, y1, y2, y3, y4⟩ := (HB.out.2.below hbi (Nat.le_refl _)).letter hy
      have HY := Lib.hid (And.intro (filter_take (p := fun z : Lt => decide (z.fr = key)) hy) (And.intro htn (And.intro hts (And.intro w1' (And.intro w2' (And.intro w3' (And.intro htl htm)))))))
      have hzi := hbi.size
      clear hy htn hts w1' w2' w3' htl htm
      by_cases hfr : y.fr = key
      · have d7 : (y.fr == key) = true := by simpa using hfr
        have hyes := Lib.hid (show (bx.take (i0 + 1)).filter (fun z => decide (z.fr = key)) = (bx.take i0).filter (fun z => decide (z.fr = key)) ++ [y] by rw [HY.out.1]; simp [hfr])
        have hlen := filter_len (fun z : Lt => decide (z.fr = key)) bx i0
        clear hfr
        obtain ⟨vA, vc, hvA⟩ := hown.out.form
        subst hvA
        generalize hxs : (bx.take i0).filter (fun z => decide (z.fr = key)) = xs at hown hlen hyes
        clear hxs
        obtain ⟨xn, hxn⟩ : ∃ xn, xs.length = xn := ⟨_, rfl⟩
        rw [hxn] at hlen
        have HN := Lib.hid hxn; clear hxn
        go_wp2_with (at_builtin
                     go_loud (skip
                              refine wpList_append_own' _ rfl (.tmp 198) (.tmp 200) _ rfl ei_letters _ rfl ((hown.out.alloc (fun b hb => Nat.lt_of_lt_of_le hb hzi) (.cells #[.bool y.cover, .int .i64 y.fr, .int .i64 y.to, .int .u64 y.sq, .slice T7 tn7 tc7] 34)).alloc (fun b hb => Nat.lt_of_lt_of_le hb (by simp <;> omega)) _) (fun b hb => ⟨Nat.lt_of_lt_of_le hb (by simp <;> omega), fun e => by have h8 := (hown.out.lt e).1; have h9 : b < w.heap.size := hb; omega⟩) (some _) 1 1 rfl rfl (cellsNew (by simp)) (newLetter HY.out.2.1 HY.out.2.2.2.1 HY.out.2.2.2.2.1 HY.out.2.2.2.2.2.1 HY.out.2.2.2.2.2.2.1 HY.out.2.2.2.2.2.2.2 (HY.out.2.2.1.keep (fun p hp => (World.cell?_alloc_lt _ _ _ (Nat.lt_of_lt_of_le hp (by simp <;> omega))).trans (World.cell?_alloc_lt _ _ _ (Nat.lt_of_lt_of_le hp hzi))) (fun _ h => h))) (by rw [HN.out]; omega) (by rw [HN.out]; simp only [maxLen]; omega) (by simp <;> omega) ?_
                              intro v1 w1 hown1 hg1 hat1
                              have hb1 : RowKit.Below w.heap.size w w1 := (((hbi.alloc hzi _).alloc (by simp <;> omega) _)).grown hg1 (by simp <;> omega) (fun g hg => (hown.out.lt hg).1)
                              have HO1 := Lib.hid hown1; have HB1 := Lib.hid hb1
                              clear hown1 hg1 hat1 hb1))
        go_roundw
        case measure => simp [intOf]; omega
        case rel => exact ⟨i0 + 1, by omega, by go_num, by rw [hyes.out]; exact HO1.out, HB1.out⟩
      · have d7 : (y.fr == key) = false := by simpa using hfr
        have hno := Lib.hid (show (bx.take (i0 + 1)).filter (fun z => decide (z.fr = key)) = (bx.take i0).filter (fun z => decide (z.fr = key)) by rw [HY.out.1]; simp [hfr])
        clear hfr
        go_wp2
        go_roundw
        case measure => simp [intOf]; omega
        case rel => exact ⟨i0 + 1, by omega, by go_num, by rw [hno.out]; exact hown.out.alloc (fun b hb => Nat.lt_of_lt_of_le hb hzi) _, hbi.alloc hzi _⟩
    · have hfin := hown.out
      rw [List.take_of_length_le (by rw [HB.out.1]; omega)] at hfin
      have HF := Lib.hid hfin; clear hfin hown
      go_wp2
      exact HK.out _ _ _ _ _ _ _ _ _ _ _ _ _ _ _ _ HF.out hbi
noncomputable def order_f2_code : Code := blockOf Try.f3 8
set_option maxRecDepth 100000 in
set_option maxHeartbeats 1000000 in
theorem order_f2 {Q : Exit → Act → World → Prop} {s0 s1 s2 s3 s4 s5 s6 s7 s8 s9 s10 s11 s12 s13 s14 s15 s16 s17 s19 s20 s22 s23 s24 s25 s26 s27 s28 s29 s30 s31 s32 s33 s34 s35 s36 s37 s38 s39 s40 s41 s42 s43 s44 s45 s46 s47 s48 s49 s50 s51 s52 s53 s54 s55 s56 s57 s58 s59 s60 s61 s62 s63 s64 s65 s66 s67 s68 s69 s70 s71 s72 s73 s74 s75 s76 s77 s78 s79 s80 s81 s82 s83 s84 s85 s86 s87 s88 s89 s90 s91 s92 s93 s94 s95 s96 s97 s98 s99 s100 s101 s102 s103 s104 s105 s106 s107 s108 s109 s110 s111 s112 s113 s114 s115 s116 s117 s118 s119 s120 s121 s122 s123 s124 s125 s126 s127 s128 s129 s130 s131 s132 s133 s134 s135 s136 s137 s138 s139 s140 s141 s142 s143 s144 s145 s146 s147 s148 s149 s150 s151 s152 s153 s154 s155 s156 s157 s158 s159 s160 s161 s162 s163 s164 s165 s166 s167 s168 s169 s170 s171 s172 s173 s174 s175 s176 s177 s178 s179 s180 s181 s182 s183 s184 s185 s186 s187 s188 s189 s190 s191 s192 s193 s194 s195 s196 s197 s198 s199 s200 s201 s202 s206 s207 s208 s209 s210 s211 s212 s213 s214 s215 s216 s217 s218 s219 s220 s221 s222 s223 : Value} (key : Int) (w : World) (T : Option Addr) (q qc : Nat) (bx : List Lt) (hq : bx.length = q) (hT : Sl Rlt w (lo w.heap.size) T bx) (hq56 : q * 56 ≤ 140737488351344)
    (hK : ∀ (d25 d205 d206 d207 d208 d209 d210 d211 d212 d213 d214 d215 d216 d217 vx : Value) (w' : World), Own Rlt w' w.heap.size 34 (lo w.heap.size) vx (bx.filter (fun z => decide (z.to = key))) → Below w.heap.size w w' → Q .normal ⟨#[s0, s1, s2, s3, s4, s5, s6, s7, s8, s9, s10, s11, s12, s13, s14, s15, s16, s17, .int .i64 key, s19, s20, vx, s22, s23, s24, d25, s26, s27, s28, s29, s30, s31, s32, s33, s34, s35, s36, s37, s38, s39, s40, s41, s42, s43, s44, s45, s46, s47, s48, s49, s50, s51, s52, s53, s54, s55, s56, s57, s58, s59, s60, s61, s62, s63, s64, s65, s66, s67, s68, s69, s70, s71, s72, s73, s74, s75, s76, s77, s78, s79, s80, s81, s82, s83, s84, s85, s86, s87, s88, s89, s90, s91, s92, s93, s94, s95, s96, s97, s98, s99, s100, s101, s102, s103, s104, s105, s106, s107, s108, s109, s110, s111, s112, s113, s114, s115, s116, s117, s118, s119, s120, s121, s122, s123, s124, s125, s126, s127, s128, s129, s130, s131, s132, s133, s134, s135, s136, s137, s138, s139, s140, s141, s142, s143, s144, s145, s146, s147, s148, s149, s150, s151, s152, s153, s154, s155, s156, s157, s158, s159, s160, s161, s162, s163, s164, s165, s166, s167, s168, s169, s170, s171, s172, s173, s174, s175, s176, s177, s178, s179, s180, s181, s182, s183, s184, s185, s186, s187, s188, s189, s190, s191, s192, s193, s194, s195, s196, s197, s198, s199, s200, s201, s202, .slice T q qc, .int .i64 q, d205, d206, d207, d208, d209, d210, d211, d212, d213, d214, d215, d216, d217, s218, s219, s220, s221, s222, s223], []⟩ w') :
    Code.wp Try.prog order_f2_code Q ⟨#[s0, s1, s2, s3, s4, s5, s6, s7, s8, s9, s10, s11, s12, s13, s14, s15, s16, s17, .int .i64 key, s19, s20, .slice none 0 0, s22, s23, s24, s25, s26, s27, s28, s29, s30, s31, s32, s33, s34, s35, s36, s37, s38, s39, s40, s41, s42, s43, s44, s45, s46, s47, s48, s49, s50, s51, s52, s53, s54, s55, s56, s57, s58, s59, s60, s61, s62, s63, s64, s65, s66, s67, s68, s69, s70, s71, s72, s73, s74, s75, s76, s77, s78, s79, s80, s81, s82, s83, s84, s85, s86, s87, s88, s89, s90, s91, s92, s93, s94, s95, s96, s97, s98, s99, s100, s101, s102, s103, s104, s105, s106, s107, s108, s109, s110, s111, s112, s113, s114, s115, s116, s117, s118, s119, s120, s121, s122, s123, s124, s125, s126, s127, s128, s129, s130, s131, s132, s133, s134, s135, s136, s137, s138, s139, s140, s141, s142, s143, s144, s145, s146, s147, s148, s149, s150, s151, s152, s153, s154, s155, s156, s157, s158, s159, s160, s161, s162, s163, s164, s165, s166, s167, s168, s169, s170, s171, s172, s173, s174, s175, s176, s177, s178, s179, s180, s181, s182, s183, s184, s185, s186, s187, s188, s189, s190, s191, s192, s193, s194, s195, s196, s197, s198, s199, s200, s201, s202, .slice T q qc, .int .i64 q, .int .i64 0, s206, s207, s208, s209, s210, s211, s212, s213, s214, s215, s216, s217, s218, s219, s220, s221, s222, s223], []⟩ w := by
  have HK := Lib.hid hK; clear hK
  have HB := Lib.hid (And.intro hq hT); clear hq hT
  have hq5' : q ≤ 9223372036854775807 := by omega
  conv => arg 2; whnf
  go_wp2
  go_loopw [21, 205] (fun vx i wi => ∃ i0 : Nat, i0 ≤ q ∧ i = .int .i64 i0 ∧ Hid (Own Rlt wi w.heap.size 34 (lo w.heap.size) vx ((bx.take i0).filter (fun z => decide (z.to = key)))) ∧ Below w.heap.size w wi) (fun _ i _ => q - (intOf i).toNat)
  case atStart => exact ⟨0, Nat.zero_le _, rfl, Own.nil _ _ _ _ _, Below.refl _ _⟩
  case round =>
    obtain ⟨wi, rfl⟩ : ∃ wi : World, wi = wr := ⟨_, rfl⟩
    obtain ⟨i0, hi0, rfl, hown, hbi⟩ := hrel
    by_cases hlt3 : i0 < q
    · have hy := List.getElem?_eq_getElem (l := bx) (i := i0) (by rw [HB.out.1]; exact hlt3)
      generalize bx[i0]'(by rw [HB.out.1]; exact hlt3) = y at hy
      obtain ⟨b', off', T7, tn7, tc7, rfl, _, w1', w2', w3', htn, htl, htm, hts, y0, y1, y2, y3, y4⟩ := (HB.out.2.below hbi (Nat.le_refl _)).letter hy
      have HY := Lib.hid (And.intro (filter_take (p := fun z : Lt => decide (z.to = key)) hy) (And.intro htn (And.intro hts (And.intro w1' (And.intro w2' (And.intro w3' (And.intro htl htm)))))))
      have hzi := hbi.size
      clear hy htn hts w1' w2' w3' htl htm
      by_cases hfr : y.to = key
      · have d7 : (y.to == key) = true := by simpa using hfr
        have hyes := Lib.hid (show (bx.take (i0 + 1)).filter (fun z => decide (z.to = key)) = (bx.take i0).filter (fun z => decide (z.to = key)) ++ [y] by rw [HY.out.1]; simp [hfr])
        have hlen := filter_len (fun z : Lt => decide (z.to = key)) bx i0
        clear hfr
        obtain ⟨vA, vc, hvA⟩ := hown.out.form
        subst hvA
        generalize hxs : (bx.take i0).filter (fun z => decide (z.to = key)) = xs at hown hlen hyes
        clear hxs
        obtain ⟨xn, hxn⟩ : ∃ xn, xs.length = xn := ⟨_, rfl⟩
        rw [hxn] at hlen
        have HN := Lib.hid hxn; clear hxn
        go_wp2_with (at_builtin
                     go_loud (skip
                              refine wpList_append_own' _ rfl (.tmp 213) (.tmp 215) _ rfl ei_letters _ rfl ((hown.out.alloc (fun b hb => Nat.lt_of_lt_of_le hb hzi) (.cells #[.bool y.cover, .int .i64 y.fr, .int .i64 y.to, .int .u64 y.sq, .slice T7 tn7 tc7] 34)).alloc (fun b hb => Nat.lt_of_lt_of_le hb (by simp <;> omega)) _) (fun b hb => ⟨Nat.lt_of_lt_of_le hb (by simp <;> omega), fun e => by have h8 := (hown.out.lt e).1; have h9 : b < w.heap.size := hb; omega⟩) (some _) 1 1 rfl rfl (cellsNew (by simp)) (newLetter HY.out.2.1 HY.out.2.2.2.1 HY.out.2.2.2.2.1 HY.out.2.2.2.2.2.1 HY.out.2.2.2.2.2.2.1 HY.out.2.2.2.2.2.2.2 (HY.out.2.2.1.keep (fun p hp => (World.cell?_alloc_lt _ _ _ (Nat.lt_of_lt_of_le hp (by simp <;> omega))).trans (World.cell?_alloc_lt _ _ _ (Nat.lt_of_lt_of_le hp hzi))) (fun _ h => h))) (by rw [HN.out]; omega) (by rw [HN.out]; simp only [maxLen]; omega) (by simp <;> omega) ?_
                              intro v1 w1 hown1 hg1 hat1
                              have hb1 : RowKit.Below w.heap.size w w1 := (((hbi.alloc hzi _).alloc (by simp <;> omega) _)).grown hg1 (by simp <;> omega) (fun g hg => (hown.out.lt hg).1)
                              have HO1 := Lib.hid hown1; have HB1 := Lib.hid hb1
                              clear hown1 hg1 hat1 hb1))
        go_roundw
        case measure => simp [intOf]; omega
        case rel => exact ⟨i0 + 1, by omega, by go_num, by rw [hyes.out]; exact HO1.out, HB1.out⟩
      · have d7 : (y.to == key) = false := by simpa using hfr
        have hno := Lib.hid (show (bx.take (i0 + 1)).filter (fun z => decide (z.to = key)) = (bx.take i0).filter (fun z => decide (z.to = key)) by rw [HY.out.1]; simp [hfr])
        clear hfr
        go_wp2
        go_roundw
        case measure => simp [intOf]; omega
        case rel => exact ⟨i0 + 1, by omega, by go_num, by rw [hno.out]; exact hown.out.alloc (fun b hb => Nat.lt_of_lt_of_le hb hzi) _, hbi.alloc hzi _⟩
    · have hfin := hown.out
      rw [List.take_of_length_le (by rw [HB.out.1]; omega)] at hfin
      have HF := Lib.hid hfin; clear hfin hown
      go_wp2
      exact HK.out _ _ _ _ _ _ _ _ _ _ _ _ _ _ _ _ HF.out hbi
/-- What the loop over the receivers reads. -/
structure OrdIn (w : World) (B : Option Addr) (n : Nat) (boxes : List (List Lt)) (TA : Option Addr) (qa : Nat) (all : List Lt) (f : Int) : Prop where
  hB : Sl (Rsl 56 Rlt) w (lo w.heap.size) B boxes
  nB : boxes.length = n
  hA : Sl Rlt w (lo w.heap.size) TA all
  nA : all.length = qa
  zB : ∀ b ∈ boxes, b.length * 56 ≤ 140737488351344
  zA : qa * 56 ≤ 140737488351344
  eq : ∀ (t : Nat) b, boxes[t]? = some b → b.filter (fun z => decide (z.fr = f)) = all.filter (fun z => decide (z.to = (t : Int)))
theorem OrdIn.below {w w' : World} {B : Option Addr} {n : Nat} {boxes : List (List Lt)} {TA : Option Addr} {qa : Nat} {all : List Lt} {f : Int} (h : OrdIn w B n boxes TA qa all f) (hb : Below w.heap.size w w') : OrdIn w' B n boxes TA qa all f :=
  ⟨h.hB.below hb hb.size, h.nB, h.hA.below hb hb.size, h.nA, h.zB, h.zA, h.eq⟩
noncomputable def order_mid_code : Code := blockOf Try.f3 4
set_option maxRecDepth 100000 in
set_option maxHeartbeats 2000000 in
theorem order_mid {Q : Exit → Act → World → Prop} {s0 s1 s2 s3 s4 s5 s6 s7 s8 s9 s10 s11 s12 s13 s14 s15 s18 s19 s20 s21 s22 s23 s24 s25 s26 s27 s28 s29 s30 s31 s32 s33 s34 s35 s36 s37 s38 s39 s40 s41 s42 s43 s44 s45 s46 s47 s48 s49 s50 s51 s52 s53 s54 s55 s56 s57 s58 s59 s60 s61 s62 s63 s64 s65 s66 s67 s68 s69 s70 s71 s72 s73 s74 s75 s76 s77 s78 s79 s80 s81 s82 s83 s84 s85 s86 s87 s88 s89 s90 s91 s92 s93 s94 s95 s96 s97 s98 s99 s100 s101 s102 s103 s104 s105 s106 s107 s108 s109 s110 s111 s112 s113 s114 s115 s116 s117 s118 s119 s120 s121 s122 s123 s124 s125 s126 s127 s128 s129 s130 s131 s132 s133 s134 s135 s136 s137 s138 s139 s140 s141 s142 s143 s144 s145 s146 s147 s148 s149 s150 s151 s152 s153 s154 s155 s156 s157 s158 s159 s160 s161 s162 s163 s164 s165 s166 s167 s168 s169 s170 s171 s172 s173 s174 s175 s176 s177 s178 s179 s180 s184 s185 s186 s187 s188 s189 s190 s191 s192 s193 s194 s195 s196 s197 s198 s199 s200 s201 s202 s203 s204 s205 s206 s207 s208 s209 s210 s211 s212 s213 s214 s215 s216 s217 s218 s219 s220 s221 s222 s223 : Value} (w : World) (B : Option Addr) (n cB : Nat) (boxes : List (List Lt)) (TA : Option Addr) (qa ca : Nat) (all : List Lt) (f : Int) (hw : OrdIn w B n boxes TA qa all f) (hn : n ≤ 9223372036854775807)
    (hK : ∀ (d6 d18 d19 d20 d21 d23 d25 d183 d184 d185 d186 d187 d188 d189 d190 d191 d192 d193 d194 d195 d196 d197 d198 d199 d200 d201 d202 d203 d204 d205 d206 d207 d208 d209 d210 d211 d212 d213 d214 d215 d216 d217 d218 d219 d220 d221 d222 : Value) (w' : World), Below w.heap.size w w' → Q .normal ⟨#[s0, s1, s2, s3, s4, s5, d6, s7, s8, s9, s10, s11, s12, s13, s14, s15, .int .i64 f, .slice TA qa ca, d18, d19, d20, d21, s22, d23, s24, d25, s26, s27, s28, s29, s30, s31, s32, s33, s34, s35, s36, s37, s38, s39, s40, s41, s42, s43, s44, s45, s46, s47, s48, s49, s50, s51, s52, s53, s54, s55, s56, s57, s58, s59, s60, s61, s62, s63, s64, s65, s66, s67, s68, s69, s70, s71, s72, s73, s74, s75, s76, s77, s78, s79, s80, s81, s82, s83, s84, s85, s86, s87, s88, s89, s90, s91, s92, s93, s94, s95, s96, s97, s98, s99, s100, s101, s102, s103, s104, s105, s106, s107, s108, s109, s110, s111, s112, s113, s114, s115, s116, s117, s118, s119, s120, s121, s122, s123, s124, s125, s126, s127, s128, s129, s130, s131, s132, s133, s134, s135, s136, s137, s138, s139, s140, s141, s142, s143, s144, s145, s146, s147, s148, s149, s150, s151, s152, s153, s154, s155, s156, s157, s158, s159, s160, s161, s162, s163, s164, s165, s166, s167, s168, s169, s170, s171, s172, s173, s174, s175, s176, s177, s178, s179, s180, .slice B n cB, .int .i64 n, d183, d184, d185, d186, d187, d188, d189, d190, d191, d192, d193, d194, d195, d196, d197, d198, d199, d200, d201, d202, d203, d204, d205, d206, d207, d208, d209, d210, d211, d212, d213, d214, d215, d216, d217, d218, d219, d220, d221, d222, s223], []⟩ w') :
    Code.wp Try.prog order_mid_code Q ⟨#[s0, s1, s2, s3, s4, s5, s6, s7, s8, s9, s10, s11, s12, s13, s14, s15, .int .i64 f, .slice TA qa ca, s18, s19, s20, s21, s22, s23, s24, s25, s26, s27, s28, s29, s30, s31, s32, s33, s34, s35, s36, s37, s38, s39, s40, s41, s42, s43, s44, s45, s46, s47, s48, s49, s50, s51, s52, s53, s54, s55, s56, s57, s58, s59, s60, s61, s62, s63, s64, s65, s66, s67, s68, s69, s70, s71, s72, s73, s74, s75, s76, s77, s78, s79, s80, s81, s82, s83, s84, s85, s86, s87, s88, s89, s90, s91, s92, s93, s94, s95, s96, s97, s98, s99, s100, s101, s102, s103, s104, s105, s106, s107, s108, s109, s110, s111, s112, s113, s114, s115, s116, s117, s118, s119, s120, s121, s122, s123, s124, s125, s126, s127, s128, s129, s130, s131, s132, s133, s134, s135, s136, s137, s138, s139, s140, s141, s142, s143, s144, s145, s146, s147, s148, s149, s150, s151, s152, s153, s154, s155, s156, s157, s158, s159, s160, s161, s162, s163, s164, s165, s166, s167, s168, s169, s170, s171, s172, s173, s174, s175, s176, s177, s178, s179, s180, .slice B n cB, .int .i64 n, .int .i64 0, s184, s185, s186, s187, s188, s189, s190, s191, s192, s193, s194, s195, s196, s197, s198, s199, s200, s201, s202, s203, s204, s205, s206, s207, s208, s209, s210, s211, s212, s213, s214, s215, s216, s217, s218, s219, s220, s221, s222, s223], []⟩ w := by
  have HK := Lib.hid hK; clear hK
  have HW := Lib.hid hw; clear hw
  conv => arg 2; whnf
  go_wp2
  go_loopw [183] (fun i wr => ∃ k : Nat, k ≤ n ∧ i = .int .i64 k ∧ Below w.heap.size w wr) (fun i _ => n - (intOf i).toNat)
  case atStart => exact ⟨0, Nat.zero_le _, rfl, Below.refl _ _⟩
  case round =>
    obtain ⟨k, hk, rfl, hbel⟩ := hrel
    obtain ⟨wr, rfl⟩ : ∃ wx : World, wx = wr := ⟨_, rfl⟩
    by_cases hlt : k < n
    · have HR := Lib.hid (HW.out.below hbel)
      have hb1 := List.getElem?_eq_getElem (l := boxes) (i := k) (by rw [HW.out.nB]; exact hlt)
      generalize boxes[k]'(by rw [HW.out.nB]; exact hlt) = bx at hb1
      obtain ⟨bb, ob, T5, q5, c5, rfl, hlb, hq5, _, _, hT5, cb⟩ := HR.out.hB.sub hb1
      have HX := Lib.hid (And.intro hq5 (And.intro hT5 (And.intro (HW.out.eq k bx hb1) (show q5 * 56 ≤ 140737488351344 by have := HW.out.zB _ (List.mem_of_getElem? hb1); omega))))
      clear hq5 hT5 hb1
      go_upto_block 6 with fail
      refine order_f1 f wr T5 q5 c5 bx HX.out.1 HX.out.2.1 HX.out.2.2.2 ?_
      intro d23 d190 d191 d192 d193 d194 d195 d196 d197 d198 d199 d200 d201 d202 vx w1 hown1 hb1
      obtain ⟨A1, n1, c1, rfl, hn1, hl1, hm1, hs1⟩ := hown1.done (fun b hb => Nat.lt_of_lt_of_le hb hb1.size)
      have HR1 := Lib.hid (HR.out.below hb1)
      have H1 := Lib.hid (And.intro hn1 (And.intro hs1 (And.intro hb1 (maxLen_le (Nat.le_trans hl1 hm1)))))
      clear hown1 hb1 hn1 hl1 hm1 hs1 cb
      go_upto_block 8 with fail
      refine order_f2 (k : Int) w1 TA qa ca all HR1.out.nA HR1.out.hA HR1.out.zA ?_
      intro d25 d205 d206 d207 d208 d209 d210 d211 d212 d213 d214 d215 d216 d217 vy w2 hown2 hb2
      obtain ⟨A2, n2, c2, rfl, hn2, hl2, hm2, hs2⟩ := hown2.done (fun b hb => Nat.lt_of_lt_of_le hb hb2.size)
      have H2 := Lib.hid (And.intro hn2 (And.intro hs2 hb2))
      clear hown2 hb2 hn2 hl2 hm2 hs2
      go_wp2_with (go_at_call 13
                   go_loud (skip
                            refine (sameAll_any A1 _ n1 c1 H1.out.1 A2 _ n2 c2 H2.out.1 w2 (H1.out.2.1.below H2.out.2.2 H2.out.2.2.size) H2.out.2.1 H1.out.2.2.2).mono ?_
                            rw [decide_eq_true HX.out.2.2.1]
                            rintro e w3 ⟨rfl, hb3⟩))
      go_roundw
      case measure => simp [intOf]; omega
      case rel => exact ⟨k + 1, by omega, by go_num, hbel.trans ((H1.out.2.2.1.trans ((H2.out.2.2.trans (hb3.mono H2.out.2.2.size)).mono H1.out.2.2.1.size)).mono hbel.size)⟩
    · go_wp2
      exact HK.out _ _ _ _ _ _ _ _ _ _ _ _ _ _ _ _ _ _ _ _ _ _ _ _ _ _ _ _ _ _ _ _ _ _ _ _ _ _ _ _ _ _ _ _ _ _ _ _ hbel
/-- What the loop over the senders reads. -/
structure OrdOut (w : World) (NS : Nat) (A B : Option Addr) (n cA cB : Nat) (s : St) (TW : Option Addr) (want : List (List Lt)) (sq : Int) : Prop where
  a0 : w.cell? ⟨NS, 0, none⟩ = some (.slice A n cA)
  a1 : w.cell? ⟨NS, 1, none⟩ = some (.slice B n cB)
  lN : NS < w.heap.size
  hL : Sl (Rint .u64) w (lo w.heap.size) A s.last
  nL : s.last.length = n
  hB : Sl (Rsl 56 Rlt) w (lo w.heap.size) B s.boxes
  nB : s.boxes.length = n
  hW : Sl (Rsl 56 Rlt) w (lo w.heap.size) TW want
  nW : want.length = n
  zB : ∀ b ∈ s.boxes, b.length * 56 ≤ 140737488351344
  zW : ∀ b ∈ want, b.length * 56 ≤ 140737488351344
  eqL : ∀ (f : Nat) x xs, s.last[f]? = some x → want[f]? = some xs → x = sq - 1 + xs.length
  eqB : ∀ (f t : Nat) xs b, want[f]? = some xs → s.boxes[t]? = some b → b.filter (fun z => decide (z.fr = (f : Int))) = xs.filter (fun z => decide (z.to = (t : Int)))
theorem OrdOut.below {w w' : World} {NS : Nat} {A B : Option Addr} {n cA cB : Nat} {s : St} {TW : Option Addr} {want : List (List Lt)} {sq : Int} (h : OrdOut w NS A B n cA cB s TW want sq) (hb : Below w.heap.size w w') : OrdOut w' NS A B n cA cB s TW want sq := by
  have hz := hb.size; have h1 := h.lN
  exact ⟨(hb.cell (p := ⟨NS, 0, none⟩) h1).trans h.a0, (hb.cell (p := ⟨NS, 1, none⟩) h1).trans h.a1, by omega, h.hL.below hb hz, h.nL, h.hB.below hb hz, h.nB, h.hW.below hb hz, h.nW, h.zB, h.zW, h.eqL, h.eqB⟩
noncomputable def order_out_code : Code := blockOf Try.f3 2
set_option maxRecDepth 100000 in
set_option maxHeartbeats 2000000 in
theorem order_out {Q : Exit → Act → World → Prop} {s0 s2 s3 s4 s5 s6 s8 s9 s10 s11 s12 s13 s14 s15 s16 s17 s18 s19 s20 s21 s22 s23 s24 s25 s26 s27 s28 s29 s30 s31 s32 s33 s34 s35 s36 s37 s38 s39 s40 s41 s42 s43 s44 s45 s46 s47 s48 s49 s50 s51 s52 s53 s54 s55 s56 s57 s58 s59 s60 s61 s62 s63 s64 s65 s66 s67 s68 s69 s70 s71 s72 s73 s74 s75 s76 s77 s78 s79 s80 s81 s82 s83 s84 s85 s86 s87 s88 s89 s90 s91 s92 s93 s94 s95 s96 s97 s98 s99 s100 s101 s102 s103 s104 s105 s106 s107 s108 s109 s110 s111 s112 s113 s114 s115 s116 s117 s118 s119 s120 s121 s122 s123 s124 s125 s126 s127 s128 s129 s130 s131 s132 s133 s134 s135 s136 s137 s138 s139 s140 s141 s142 s143 s144 s145 s146 s147 s148 s149 s150 s151 s152 s153 s154 s155 s156 s157 s158 s159 s160 s164 s165 s166 s167 s168 s169 s170 s171 s172 s173 s174 s175 s176 s177 s178 s179 s180 s181 s182 s183 s184 s185 s186 s187 s188 s189 s190 s191 s192 s193 s194 s195 s196 s197 s198 s199 s200 s201 s202 s203 s204 s205 s206 s207 s208 s209 s210 s211 s212 s213 s214 s215 s216 s217 s218 s219 s220 s221 s222 s223 : Value} (w : World) (NS : Nat) (A B : Option Addr) (n cA cB : Nat) (s : St) (TW : Option Addr) (cW : Nat) (want : List (List Lt)) (sq : Int) (hw : OrdOut w NS A B n cA cB s TW want sq) (hn : n ≤ 8) (hsq : 1 ≤ sq) (hsq2 : sq < 18446744073709551616)
    (hK : ∀ (d6 d16 d17 d18 d19 d20 d21 d23 d25 d163 d164 d165 d166 d167 d168 d169 d170 d171 d172 d173 d174 d175 d176 d177 d178 d179 d180 d181 d182 d183 d184 d185 d186 d187 d188 d189 d190 d191 d192 d193 d194 d195 d196 d197 d198 d199 d200 d201 d202 d203 d204 d205 d206 d207 d208 d209 d210 d211 d212 d213 d214 d215 d216 d217 d218 d219 d220 d221 d222 d223 : Value) (w' : World), Below w.heap.size w w' → Q .normal ⟨#[s0, .int .u64 sq, s2, s3, s4, s5, d6, .pointer (some ⟨NS, 0, none⟩), s8, s9, s10, s11, s12, s13, s14, s15, d16, d17, d18, d19, d20, d21, s22, d23, s24, d25, s26, s27, s28, s29, s30, s31, s32, s33, s34, s35, s36, s37, s38, s39, s40, s41, s42, s43, s44, s45, s46, s47, s48, s49, s50, s51, s52, s53, s54, s55, s56, s57, s58, s59, s60, s61, s62, s63, s64, s65, s66, s67, s68, s69, s70, s71, s72, s73, s74, s75, s76, s77, s78, s79, s80, s81, s82, s83, s84, s85, s86, s87, s88, s89, s90, s91, s92, s93, s94, s95, s96, s97, s98, s99, s100, s101, s102, s103, s104, s105, s106, s107, s108, s109, s110, s111, s112, s113, s114, s115, s116, s117, s118, s119, s120, s121, s122, s123, s124, s125, s126, s127, s128, s129, s130, s131, s132, s133, s134, s135, s136, s137, s138, s139, s140, s141, s142, s143, s144, s145, s146, s147, s148, s149, s150, s151, s152, s153, s154, s155, s156, s157, s158, s159, s160, .slice TW n cW, .int .i64 n, d163, d164, d165, d166, d167, d168, d169, d170, d171, d172, d173, d174, d175, d176, d177, d178, d179, d180, d181, d182, d183, d184, d185, d186, d187, d188, d189, d190, d191, d192, d193, d194, d195, d196, d197, d198, d199, d200, d201, d202, d203, d204, d205, d206, d207, d208, d209, d210, d211, d212, d213, d214, d215, d216, d217, d218, d219, d220, d221, d222, d223], []⟩ w') :
    Code.wp Try.prog order_out_code Q ⟨#[s0, .int .u64 sq, s2, s3, s4, s5, s6, .pointer (some ⟨NS, 0, none⟩), s8, s9, s10, s11, s12, s13, s14, s15, s16, s17, s18, s19, s20, s21, s22, s23, s24, s25, s26, s27, s28, s29, s30, s31, s32, s33, s34, s35, s36, s37, s38, s39, s40, s41, s42, s43, s44, s45, s46, s47, s48, s49, s50, s51, s52, s53, s54, s55, s56, s57, s58, s59, s60, s61, s62, s63, s64, s65, s66, s67, s68, s69, s70, s71, s72, s73, s74, s75, s76, s77, s78, s79, s80, s81, s82, s83, s84, s85, s86, s87, s88, s89, s90, s91, s92, s93, s94, s95, s96, s97, s98, s99, s100, s101, s102, s103, s104, s105, s106, s107, s108, s109, s110, s111, s112, s113, s114, s115, s116, s117, s118, s119, s120, s121, s122, s123, s124, s125, s126, s127, s128, s129, s130, s131, s132, s133, s134, s135, s136, s137, s138, s139, s140, s141, s142, s143, s144, s145, s146, s147, s148, s149, s150, s151, s152, s153, s154, s155, s156, s157, s158, s159, s160, .slice TW n cW, .int .i64 n, .int .i64 0, s164, s165, s166, s167, s168, s169, s170, s171, s172, s173, s174, s175, s176, s177, s178, s179, s180, s181, s182, s183, s184, s185, s186, s187, s188, s189, s190, s191, s192, s193, s194, s195, s196, s197, s198, s199, s200, s201, s202, s203, s204, s205, s206, s207, s208, s209, s210, s211, s212, s213, s214, s215, s216, s217, s218, s219, s220, s221, s222, s223], []⟩ w := by
  have HK := Lib.hid hK; clear hK
  have HW := Lib.hid hw; clear hw
  conv => arg 2; whnf
  go_wp2
  go_loopw [163] (fun i wr => ∃ k : Nat, k ≤ n ∧ i = .int .i64 k ∧ Below w.heap.size w wr) (fun i _ => n - (intOf i).toNat)
  case atStart => exact ⟨0, Nat.zero_le _, rfl, Below.refl _ _⟩
  case round =>
    obtain ⟨k, hk, rfl, hbel⟩ := hrel
    obtain ⟨wr, rfl⟩ : ∃ wx : World, wx = wr := ⟨_, rfl⟩
    by_cases hlt : k < n
    · have HR := Lib.hid (HW.out.below hbel)
      have a0 := HR.out.a0; have a1 := HR.out.a1
      have hw1 := List.getElem?_eq_getElem (l := want) (i := k) (by rw [HW.out.nW]; exact hlt)
      generalize want[k]'(by rw [HW.out.nW]; exact hlt) = all at hw1
      have hx1 := List.getElem?_eq_getElem (l := s.last) (i := k) (by rw [HW.out.nL]; exact hlt)
      generalize s.last[k]'(by rw [HW.out.nL]; exact hlt) = x at hx1
      obtain ⟨bw, ow, TA, qa, ca, rfl, hlw, hqa, _, _, hTA, cw⟩ := HR.out.hW.sub hw1
      obtain ⟨bl, ol, rfl, hll, hxw, cl⟩ := HR.out.hL.int hx1
      have hxe := HW.out.eqL k x all hx1 hw1
      have hxb := bounds_u64 hxw
      have hzw : qa * 56 ≤ 140737488351344 := by (have h9 := HW.out.zW _ (List.mem_of_getElem? hw1); omega)
      rw [hqa] at hxe
      have HI := Lib.hid (show OrdIn wr B n s.boxes TA qa all (k : Int) from ⟨HR.out.hB, HR.out.nB, hTA, hqa, HR.out.zB, hzw, fun t b hb => HR.out.eqB k t all b hw1 hb⟩)
      clear hw1 hx1 hqa hTA hxw
      subst hxe
      go_upto_block 4 with fail
      refine order_mid wr B n cB s.boxes TA qa ca all (k : Int) HI.out (by omega) ?_
      intro d6 d18 d19 d20 d21 d23 d25 d183 d184 d185 d186 d187 d188 d189 d190 d191 d192 d193 d194 d195 d196 d197 d198 d199 d200 d201 d202 d203 d204 d205 d206 d207 d208 d209 d210 d211 d212 d213 d214 d215 d216 d217 d218 d219 d220 d221 d222 w1 hb1
      clear a0 a1 cw cl
      go_wp2
      go_roundw
      case measure => simp [intOf]; omega
      case rel => exact ⟨k + 1, by omega, by go_num, hbel.trans (hb1.mono hbel.size)⟩
    · go_wp2
      exact HK.out _ _ _ _ _ _ _ _ _ _ _ _ _ _ _ _ _ _ _ _ _ _ _ _ _ _ _ _ _ _ _ _ _ _ _ _ _ _ _ _ _ _ _ _ _ _ _ _ _ _ _ _ _ _ _ _ _ _ _ _ _ _ _ _ _ _ _ _ _ _ _ hbel
end Go.Proofs.Ytcmdmmphakclmaa
