/-
  StoreSwap: the two loops that pick a sender's letters out of a box.
-/
import Derived.Test.YtcmdmmphakclmaaPieces
import Derived.Test.YtcmdmmphakclmaaStoreN
namespace Go.Proofs.Ytcmdmmphakclmaa
open Go.RowKit Go.Sort
set_option linter.unusedVariables false

noncomputable def swap_f1_code : Code := blockOf Try.f6 4
set_option maxRecDepth 100000 in
set_option maxHeartbeats 1000000 in
theorem swap_f1 {Q : Exit → Act → World → Prop} {s0 s1 s2 s3 s4 s5 s6 s7 s8 s9 s10 s11 s12 s13 s14 s15 s16 s17 s20 s21 s22 s23 s24 s25 s26 s27 s28 s29 s30 s31 s32 s33 s34 s35 s36 s37 s38 s39 s40 s41 s42 s43 s44 s45 s46 s47 s48 s49 s50 s51 s52 s53 s54 s55 s56 s57 s58 s59 s60 s61 s62 s63 s64 s65 s66 s67 s68 s69 s70 s71 s72 s73 s74 s75 s76 s77 s78 s79 s80 s81 s82 s83 s84 s85 s86 s87 s88 s89 s90 s91 s92 s93 s94 s95 s96 s97 s98 s99 s100 s101 s102 s103 s104 s105 s106 s107 s108 s109 s110 s111 s112 s113 s114 s115 s116 s117 s118 s119 s120 s121 s122 s123 s124 s125 s126 s127 s131 s132 s133 s134 s135 s136 s137 s138 s139 s140 s141 s142 s143 s144 s145 s146 s147 s148 s149 s150 s151 s152 s153 s154 s155 s156 s157 s158 s159 s160 s161 s162 s163 s164 s165 s166 s167 s168 s169 s170 s171 s172 : Value} (key : Int) (w : World) (T : Option Addr) (q qc : Nat) (bx : List Lt) (hq : bx.length = q) (hT : Sl Rlt w (lo w.heap.size) T bx) (hq56 : q * 56 ≤ 140737488351344)
    (hK : ∀ (d22 d130 d131 d132 d133 d134 d135 d136 d137 d138 d139 d140 d141 d142 vx : Value) (w' : World), Own Rlt w' w.heap.size 34 (lo w.heap.size) vx (bx.filter (fun z => decide (z.fr = key))) → Below w.heap.size w w' → Q .normal ⟨#[s0, s1, s2, s3, s4, s5, s6, s7, s8, s9, s10, s11, s12, s13, s14, s15, s16, s17, .int .i64 key, vx, s20, s21, d22, s23, s24, s25, s26, s27, s28, s29, s30, s31, s32, s33, s34, s35, s36, s37, s38, s39, s40, s41, s42, s43, s44, s45, s46, s47, s48, s49, s50, s51, s52, s53, s54, s55, s56, s57, s58, s59, s60, s61, s62, s63, s64, s65, s66, s67, s68, s69, s70, s71, s72, s73, s74, s75, s76, s77, s78, s79, s80, s81, s82, s83, s84, s85, s86, s87, s88, s89, s90, s91, s92, s93, s94, s95, s96, s97, s98, s99, s100, s101, s102, s103, s104, s105, s106, s107, s108, s109, s110, s111, s112, s113, s114, s115, s116, s117, s118, s119, s120, s121, s122, s123, s124, s125, s126, s127, .slice T q qc, .int .i64 q, d130, d131, d132, d133, d134, d135, d136, d137, d138, d139, d140, d141, d142, s143, s144, s145, s146, s147, s148, s149, s150, s151, s152, s153, s154, s155, s156, s157, s158, s159, s160, s161, s162, s163, s164, s165, s166, s167, s168, s169, s170, s171, s172], []⟩ w') :
    Code.wp Try.prog swap_f1_code Q ⟨#[s0, s1, s2, s3, s4, s5, s6, s7, s8, s9, s10, s11, s12, s13, s14, s15, s16, s17, .int .i64 key, .slice none 0 0, s20, s21, s22, s23, s24, s25, s26, s27, s28, s29, s30, s31, s32, s33, s34, s35, s36, s37, s38, s39, s40, s41, s42, s43, s44, s45, s46, s47, s48, s49, s50, s51, s52, s53, s54, s55, s56, s57, s58, s59, s60, s61, s62, s63, s64, s65, s66, s67, s68, s69, s70, s71, s72, s73, s74, s75, s76, s77, s78, s79, s80, s81, s82, s83, s84, s85, s86, s87, s88, s89, s90, s91, s92, s93, s94, s95, s96, s97, s98, s99, s100, s101, s102, s103, s104, s105, s106, s107, s108, s109, s110, s111, s112, s113, s114, s115, s116, s117, s118, s119, s120, s121, s122, s123, s124, s125, s126, s127, .slice T q qc, .int .i64 q, .int .i64 0, s131, s132, s133, s134, s135, s136, s137, s138, s139, s140, s141, s142, s143, s144, s145, s146, s147, s148, s149, s150, s151, s152, s153, s154, s155, s156, s157, s158, s159, s160, s161, s162, s163, s164, s165, s166, s167, s168, s169, s170, s171, s172], []⟩ w := by
  have HK := Lib.hid hK; clear hK
  have HB := Lib.hid (And.intro hq hT); clear hq hT
  have hq5' : q ≤ 9223372036854775807 := by omega
  conv => arg 2; whnf
  go_wp2
  go_loopw [19, 130] (fun vx i wi => ∃ i0 : Nat, i0 ≤ q ∧ i = .int .i64 i0 ∧ Hid (Own Rlt wi w.heap.size 34 (lo w.heap.size) vx ((bx.take i0).filter (fun z => decide (z.fr = key)))) ∧ Below w.heap.size w wi) (fun _ i _ => q - (intOf i).toNat)
  case atStart => exact ⟨0, Nat.zero_le _, rfl, Own.nil _ _ _ _ _, Below.refl _ _⟩
  case round =>
    obtain ⟨wi, rfl⟩ : ∃ wi : World, wi = wr := ⟨_, rfl⟩
    obtain ⟨i0, hi0, rfl, hown, hbi⟩ := hrel
    by_cases hlt3 : i0 < q
    · have hy := List.getElem?_eq_getElem (l := bx) (i := i0) (by rw [HB.out.1]; exact hlt3)
      generalize bx[i0]'(by rw [HB.out.1]; exact hlt3) = y at hy
      obtain ⟨b', off', T7, tn7, tc7, rfl, _, w1', w2', w3', htn, htl, htm, hts, y0, y1, y2, y3, y4⟩ := (HB.out.2.below hbi (Nat.le_refl _)).letter hy
      have HY := Lib.hid (And.intro (filter_take (p := fun z : Lt => decide (z.fr = key)) hy) (And.intro htn (And.intro hts (And.intro w1' (And.intro w2' (And.intro w3' (And.intro htl htm)))))))
      have hzi := hbi.size
      clear hy htn hts w1' w2' w3' htl htm
      by_cases hfr : y.fr = key
      · have d7 : (y.fr == key) = true := by simpa using hfr
        have hyes := Lib.hid (show (bx.take (i0 + 1)).filter (fun z => decide (z.fr = key)) = (bx.take i0).filter (fun z => decide (z.fr = key)) ++ [y] by rw [HY.out.1]; simp [hfr])
        have hlen := filter_len (fun z : Lt => decide (z.fr = key)) bx i0
        clear hfr
        obtain ⟨vA, vc, hvA⟩ := hown.out.form
        subst hvA
        generalize hxs : (bx.take i0).filter (fun z => decide (z.fr = key)) = xs at hown hlen hyes
        clear hxs
        obtain ⟨xn, hxn⟩ : ∃ xn, xs.length = xn := ⟨_, rfl⟩
        rw [hxn] at hlen
        have HN := Lib.hid hxn; clear hxn
        go_wp2_with (at_builtin
                     go_loud (skip
                              refine wpList_append_own' _ rfl (.tmp 138) (.tmp 140) _ rfl ei_letters _ rfl ((hown.out.alloc (fun b hb => Nat.lt_of_lt_of_le hb hzi) (.cells #[.bool y.cover, .int .i64 y.fr, .int .i64 y.to, .int .u64 y.sq, .slice T7 tn7 tc7] 34)).alloc (fun b hb => Nat.lt_of_lt_of_le hb (by simp <;> omega)) _) (fun b hb => ⟨Nat.lt_of_lt_of_le hb (by simp <;> omega), fun e => by have h8 := (hown.out.lt e).1; have h9 : b < w.heap.size := hb; omega⟩) (some _) 1 1 rfl rfl (cellsNew (by simp)) (newLetter HY.out.2.1 HY.out.2.2.2.1 HY.out.2.2.2.2.1 HY.out.2.2.2.2.2.1 HY.out.2.2.2.2.2.2.1 HY.out.2.2.2.2.2.2.2 (HY.out.2.2.1.keep (fun p hp => (World.cell?_alloc_lt _ _ _ (Nat.lt_of_lt_of_le hp (by simp <;> omega))).trans (World.cell?_alloc_lt _ _ _ (Nat.lt_of_lt_of_le hp hzi))) (fun _ h => h))) (by rw [HN.out]; omega) (by rw [HN.out]; simp only [maxLen]; omega) (by simp <;> omega) ?_
                              intro v1 w1 hown1 hg1 hat1
                              have hb1 : RowKit.Below w.heap.size w w1 := (((hbi.alloc hzi _).alloc (by simp <;> omega) _)).grown hg1 (by simp <;> omega) (fun g hg => (hown.out.lt hg).1)
                              have HO1 := Lib.hid hown1; have HB1 := Lib.hid hb1
                              clear hown1 hg1 hat1 hb1))
        go_roundw
        case measure => simp [intOf]; omega
        case rel => exact ⟨i0 + 1, by omega, by go_num, by rw [hyes.out]; exact HO1.out, HB1.out⟩
      · have d7 : (y.fr == key) = false := by simpa using hfr
        have hno := Lib.hid (show (bx.take (i0 + 1)).filter (fun z => decide (z.fr = key)) = (bx.take i0).filter (fun z => decide (z.fr = key)) by rw [HY.out.1]; simp [hfr])
        clear hfr
        go_wp2
        go_roundw
        case measure => simp [intOf]; omega
        case rel => exact ⟨i0 + 1, by omega, by go_num, by rw [hno.out]; exact hown.out.alloc (fun b hb => Nat.lt_of_lt_of_le hb hzi) _, hbi.alloc hzi _⟩
    · have hfin := hown.out
      rw [List.take_of_length_le (by rw [HB.out.1]; omega)] at hfin
      have HF := Lib.hid hfin; clear hfin hown
      go_wp2
      exact HK.out _ _ _ _ _ _ _ _ _ _ _ _ _ _ _ _ HF.out hbi
noncomputable def swap_f2_code : Code := blockOf Try.f6 6
set_option maxRecDepth 100000 in
set_option maxHeartbeats 1000000 in
theorem swap_f2 {Q : Exit → Act → World → Prop} {s0 s1 s2 s3 s4 s5 s6 s7 s8 s9 s10 s11 s12 s13 s14 s15 s16 s17 s19 s21 s22 s23 s24 s25 s26 s27 s28 s29 s30 s31 s32 s33 s34 s35 s36 s37 s38 s39 s40 s41 s42 s43 s44 s45 s46 s47 s48 s49 s50 s51 s52 s53 s54 s55 s56 s57 s58 s59 s60 s61 s62 s63 s64 s65 s66 s67 s68 s69 s70 s71 s72 s73 s74 s75 s76 s77 s78 s79 s80 s81 s82 s83 s84 s85 s86 s87 s88 s89 s90 s91 s92 s93 s94 s95 s96 s97 s98 s99 s100 s101 s102 s103 s104 s105 s106 s107 s108 s109 s110 s111 s112 s113 s114 s115 s116 s117 s118 s119 s120 s121 s122 s123 s124 s125 s126 s127 s128 s129 s130 s131 s132 s133 s134 s135 s136 s137 s138 s139 s140 s141 s142 s143 s144 s145 s146 s150 s151 s152 s153 s154 s155 s156 s157 s158 s159 s160 s161 s162 s163 s164 s165 s166 s167 s168 s169 s170 s171 s172 : Value} (key : Int) (w : World) (T : Option Addr) (q qc : Nat) (bx : List Lt) (hq : bx.length = q) (hT : Sl Rlt w (lo w.heap.size) T bx) (hq56 : q * 56 ≤ 140737488351344)
    (hK : ∀ (d24 d149 d150 d151 d152 d153 d154 d155 d156 d157 d158 d159 d160 d161 vx : Value) (w' : World), Own Rlt w' w.heap.size 34 (lo w.heap.size) vx (bx.filter (fun z => decide (z.fr = key))) → Below w.heap.size w w' → Q .normal ⟨#[s0, s1, s2, s3, s4, s5, s6, s7, s8, s9, s10, s11, s12, s13, s14, s15, s16, s17, .int .i64 key, s19, vx, s21, s22, s23, d24, s25, s26, s27, s28, s29, s30, s31, s32, s33, s34, s35, s36, s37, s38, s39, s40, s41, s42, s43, s44, s45, s46, s47, s48, s49, s50, s51, s52, s53, s54, s55, s56, s57, s58, s59, s60, s61, s62, s63, s64, s65, s66, s67, s68, s69, s70, s71, s72, s73, s74, s75, s76, s77, s78, s79, s80, s81, s82, s83, s84, s85, s86, s87, s88, s89, s90, s91, s92, s93, s94, s95, s96, s97, s98, s99, s100, s101, s102, s103, s104, s105, s106, s107, s108, s109, s110, s111, s112, s113, s114, s115, s116, s117, s118, s119, s120, s121, s122, s123, s124, s125, s126, s127, s128, s129, s130, s131, s132, s133, s134, s135, s136, s137, s138, s139, s140, s141, s142, s143, s144, s145, s146, .slice T q qc, .int .i64 q, d149, d150, d151, d152, d153, d154, d155, d156, d157, d158, d159, d160, d161, s162, s163, s164, s165, s166, s167, s168, s169, s170, s171, s172], []⟩ w') :
    Code.wp Try.prog swap_f2_code Q ⟨#[s0, s1, s2, s3, s4, s5, s6, s7, s8, s9, s10, s11, s12, s13, s14, s15, s16, s17, .int .i64 key, s19, .slice none 0 0, s21, s22, s23, s24, s25, s26, s27, s28, s29, s30, s31, s32, s33, s34, s35, s36, s37, s38, s39, s40, s41, s42, s43, s44, s45, s46, s47, s48, s49, s50, s51, s52, s53, s54, s55, s56, s57, s58, s59, s60, s61, s62, s63, s64, s65, s66, s67, s68, s69, s70, s71, s72, s73, s74, s75, s76, s77, s78, s79, s80, s81, s82, s83, s84, s85, s86, s87, s88, s89, s90, s91, s92, s93, s94, s95, s96, s97, s98, s99, s100, s101, s102, s103, s104, s105, s106, s107, s108, s109, s110, s111, s112, s113, s114, s115, s116, s117, s118, s119, s120, s121, s122, s123, s124, s125, s126, s127, s128, s129, s130, s131, s132, s133, s134, s135, s136, s137, s138, s139, s140, s141, s142, s143, s144, s145, s146, .slice T q qc, .int .i64 q, .int .i64 0, s150, s151, s152, s153, s154, s155, s156, s157, s158, s159, s160, s161, s162, s163, s164, s165, s166, s167, s168, s169, s170, s171, s172], []⟩ w := by
  have HK := Lib.hid hK; clear hK
  have HB := Lib.hid (And.intro hq hT); clear hq hT
  have hq5' : q ≤ 9223372036854775807 := by omega
  conv => arg 2; whnf
  go_wp2
  go_loopw [20, 149] (fun vx i wi => ∃ i0 : Nat, i0 ≤ q ∧ i = .int .i64 i0 ∧ Hid (Own Rlt wi w.heap.size 34 (lo w.heap.size) vx ((bx.take i0).filter (fun z => decide (z.fr = key)))) ∧ Below w.heap.size w wi) (fun _ i _ => q - (intOf i).toNat)
  case atStart => exact ⟨0, Nat.zero_le _, rfl, Own.nil _ _ _ _ _, Below.refl _ _⟩
  case round =>
    obtain ⟨wi, rfl⟩ : ∃ wi : World, wi = wr := ⟨_, rfl⟩
    obtain ⟨i0, hi0, rfl, hown, hbi⟩ := hrel
    by_cases hlt3 : i0 < q
    · have hy := List.getElem?_eq_getElem (l := bx) (i := i0) (by rw [HB.out.1]; exact hlt3)
      generalize bx[i0]'(by rw [HB.out.1]; exact hlt3) = y at hy
      obtain ⟨b', off', T7, tn7, tc7, rfl, _, w1', w2', w3', htn, htl, htm, hts, y0, y1, y2, y3, y4⟩ := (HB.out.2.below hbi (Nat.le_refl _)).letter hy
      have HY := Lib.hid (And.intro (filter_take (p := fun z : Lt => decide (z.fr = key)) hy) (And.intro htn (And.intro hts (And.intro w1' (And.intro w2' (And.intro w3' (And.intro htl htm)))))))
      have hzi := hbi.size
      clear hy htn hts w1' w2' w3' htl htm
      by_cases hfr : y.fr = key
      · have d7 : (y.fr == key) = true := by simpa using hfr
        have hyes := Lib.hid (show (bx.take (i0 + 1)).filter (fun z => decide (z.fr = key)) = (bx.take i0).filter (fun z => decide (z.fr = key)) ++ [y] by rw [HY.out.1]; simp [hfr])
        have hlen := filter_len (fun z : Lt => decide (z.fr = key)) bx i0
        clear hfr
        obtain ⟨vA, vc, hvA⟩ := hown.out.form
        subst hvA
        generalize hxs : (bx.take i0).filter (fun z => decide (z.fr = key)) = xs at hown hlen hyes
        clear hxs
        obtain ⟨xn, hxn⟩ : ∃ xn, xs.length = xn := ⟨_, rfl⟩
        rw [hxn] at hlen
        have HN := Lib.hid hxn; clear hxn
        go_wp2_with (at_builtin
                     go_loud (skip
                              refine wpList_append_own' _ rfl (.tmp 157) (.tmp 159) _ rfl ei_letters _ rfl ((hown.out.alloc (fun b hb => Nat.lt_of_lt_of_le hb hzi) (.cells #[.bool y.cover, .int .i64 y.fr, .int .i64 y.to, .int .u64 y.sq, .slice T7 tn7 tc7] 34)).alloc (fun b hb => Nat.lt_of_lt_of_le hb (by simp <;> omega)) _) (fun b hb => ⟨Nat.lt_of_lt_of_le hb (by simp <;> omega), fun e => by have h8 := (hown.out.lt e).1; have h9 : b < w.heap.size := hb; omega⟩) (some _) 1 1 rfl rfl (cellsNew (by simp)) (newLetter HY.out.2.1 HY.out.2.2.2.1 HY.out.2.2.2.2.1 HY.out.2.2.2.2.2.1 HY.out.2.2.2.2.2.2.1 HY.out.2.2.2.2.2.2.2 (HY.out.2.2.1.keep (fun p hp => (World.cell?_alloc_lt _ _ _ (Nat.lt_of_lt_of_le hp (by simp <;> omega))).trans (World.cell?_alloc_lt _ _ _ (Nat.lt_of_lt_of_le hp hzi))) (fun _ h => h))) (by rw [HN.out]; omega) (by rw [HN.out]; simp only [maxLen]; omega) (by simp <;> omega) ?_
                              intro v1 w1 hown1 hg1 hat1
                              have hb1 : RowKit.Below w.heap.size w w1 := (((hbi.alloc hzi _).alloc (by simp <;> omega) _)).grown hg1 (by simp <;> omega) (fun g hg => (hown.out.lt hg).1)
                              have HO1 := Lib.hid hown1; have HB1 := Lib.hid hb1
                              clear hown1 hg1 hat1 hb1))
        go_roundw
        case measure => simp [intOf]; omega
        case rel => exact ⟨i0 + 1, by omega, by go_num, by rw [hyes.out]; exact HO1.out, HB1.out⟩
      · have d7 : (y.fr == key) = false := by simpa using hfr
        have hno := Lib.hid (show (bx.take (i0 + 1)).filter (fun z => decide (z.fr = key)) = (bx.take i0).filter (fun z => decide (z.fr = key)) by rw [HY.out.1]; simp [hfr])
        clear hfr
        go_wp2
        go_roundw
        case measure => simp [intOf]; omega
        case rel => exact ⟨i0 + 1, by omega, by go_num, by rw [hno.out]; exact hown.out.alloc (fun b hb => Nat.lt_of_lt_of_le hb hzi) _, hbi.alloc hzi _⟩
    · have hfin := hown.out
      rw [List.take_of_length_le (by rw [HB.out.1]; omega)] at hfin
      have HF := Lib.hid hfin; clear hfin hown
      go_wp2
      exact HK.out _ _ _ _ _ _ _ _ _ _ _ _ _ _ _ _ HF.out hbi
/-- What a round of the middle loop reads. -/
structure SwapIn (w : World) (NA NB ba oa bb ob k m : Nat) (cA cB : Nat) (T5 : Option Addr) (q5 c5 : Nat) (x5 : List Lt) (T6 : Option Addr) (q6 c6 : Nat) (x6 : List Lt) : Prop where
  a1 : w.cell? ⟨NA, 1, none⟩ = some (.slice (some ⟨ba, oa, none⟩) m cA)
  b1 : w.cell? ⟨NB, 1, none⟩ = some (.slice (some ⟨bb, ob, none⟩) m cB)
  a2 : w.cell? ⟨ba, oa + k, none⟩ = some (.slice T5 q5 c5)
  b2 : w.cell? ⟨bb, ob + k, none⟩ = some (.slice T6 q6 c6)
  lA : NA < w.heap.size
  lB : NB < w.heap.size
  la : ba < w.heap.size
  lb : bb < w.heap.size
  n5 : x5.length = q5
  n6 : x6.length = q6
  h5 : Sl Rlt w (lo w.heap.size) T5 x5
  h6 : Sl Rlt w (lo w.heap.size) T6 x6
  z5 : q5 * 56 ≤ 140737488351344
  z6 : q6 * 56 ≤ 140737488351344
  eq : ∀ f : Int, x5.filter (fun z => decide (z.fr = f)) = x6.filter (fun z => decide (z.fr = f))
theorem SwapIn.below {w w' : World} {NA NB ba oa bb ob k m cA cB : Nat} {T5 : Option Addr} {q5 c5 : Nat} {x5 : List Lt} {T6 : Option Addr} {q6 c6 : Nat} {x6 : List Lt} (h : SwapIn w NA NB ba oa bb ob k m cA cB T5 q5 c5 x5 T6 q6 c6 x6) (hb : Below w.heap.size w w') :
    SwapIn w' NA NB ba oa bb ob k m cA cB T5 q5 c5 x5 T6 q6 c6 x6 := by
  have hz := hb.size
  have h1 := h.lA; have h2 := h.lB; have h3 := h.la; have h4 := h.lb
  exact ⟨(hb.cell (p := ⟨NA, 1, none⟩) h1).trans h.a1, (hb.cell (p := ⟨NB, 1, none⟩) h2).trans h.b1, (hb.cell (p := ⟨ba, oa + k, none⟩) h3).trans h.a2, (hb.cell (p := ⟨bb, ob + k, none⟩) h4).trans h.b2, by omega, by omega, by omega, by omega, h.n5, h.n6, h.h5.below hb hz, h.h6.below hb hz, h.z5, h.z6, h.eq⟩
noncomputable def swap_mid_code : Code := blockOf Try.f6 2
set_option maxRecDepth 100000 in
set_option maxHeartbeats 2000000 in
theorem swap_mid {Q : Exit → Act → World → Prop} {s0 s1 s2 s3 s4 s5 s6 s8 s9 s10 s11 s13 s14 s15 s16 s18 s19 s20 s21 s22 s23 s24 s25 s26 s27 s28 s29 s30 s31 s32 s33 s34 s35 s36 s37 s38 s39 s40 s41 s42 s43 s44 s45 s46 s47 s48 s49 s50 s51 s52 s53 s54 s55 s56 s57 s58 s59 s60 s61 s62 s63 s64 s65 s66 s67 s68 s69 s70 s71 s72 s73 s74 s75 s76 s77 s78 s79 s80 s81 s82 s83 s84 s85 s86 s87 s88 s89 s90 s91 s92 s93 s94 s95 s96 s97 s98 s99 s100 s101 s102 s103 s104 s105 s106 s107 s108 s109 s110 s111 s112 s113 s114 s115 s116 s117 s118 s119 s120 s122 s123 s124 s125 s126 s127 s128 s129 s130 s131 s132 s133 s134 s135 s136 s137 s138 s139 s140 s141 s142 s143 s144 s145 s146 s147 s148 s149 s150 s151 s152 s153 s154 s155 s156 s157 s158 s159 s160 s161 s162 s163 s164 s165 s166 s167 s168 s169 s170 s171 s172 : Value} (w : World) (NA NB ba oa bb ob k m : Nat) (cA cB : Nat) (T5 : Option Addr) (q5 c5 : Nat) (x5 : List Lt) (T6 : Option Addr) (q6 c6 : Nat) (x6 : List Lt)
    (hw : SwapIn w NA NB ba oa bb ob k m cA cB T5 q5 c5 x5 T6 q6 c6 x6) (hkm : k < m)
    (hK : ∀ (d6 d18 d19 d20 d22 d24 d121 d122 d123 d124 d125 d126 d127 d128 d129 d130 d131 d132 d133 d134 d135 d136 d137 d138 d139 d140 d141 d142 d143 d144 d145 d146 d147 d148 d149 d150 d151 d152 d153 d154 d155 d156 d157 d158 d159 d160 d161 d162 d163 d164 d165 d166 : Value) (w' : World), Below w.heap.size w w' → Q .normal ⟨#[s0, s1, s2, s3, s4, s5, d6, .pointer (some ⟨NA, 0, none⟩), s8, s9, s10, s11, .pointer (some ⟨NB, 0, none⟩), s13, s14, s15, s16, .int .i64 k, d18, d19, d20, s21, d22, s23, d24, s25, s26, s27, s28, s29, s30, s31, s32, s33, s34, s35, s36, s37, s38, s39, s40, s41, s42, s43, s44, s45, s46, s47, s48, s49, s50, s51, s52, s53, s54, s55, s56, s57, s58, s59, s60, s61, s62, s63, s64, s65, s66, s67, s68, s69, s70, s71, s72, s73, s74, s75, s76, s77, s78, s79, s80, s81, s82, s83, s84, s85, s86, s87, s88, s89, s90, s91, s92, s93, s94, s95, s96, s97, s98, s99, s100, s101, s102, s103, s104, s105, s106, s107, s108, s109, s110, s111, s112, s113, s114, s115, s116, s117, s118, s119, s120, d121, d122, d123, d124, d125, d126, d127, d128, d129, d130, d131, d132, d133, d134, d135, d136, d137, d138, d139, d140, d141, d142, d143, d144, d145, d146, d147, d148, d149, d150, d151, d152, d153, d154, d155, d156, d157, d158, d159, d160, d161, d162, d163, d164, d165, d166, s167, s168, s169, s170, s171, s172], []⟩ w') :
    Code.wp Try.prog swap_mid_code Q ⟨#[s0, s1, s2, s3, s4, s5, s6, .pointer (some ⟨NA, 0, none⟩), s8, s9, s10, s11, .pointer (some ⟨NB, 0, none⟩), s13, s14, s15, s16, .int .i64 k, s18, s19, s20, s21, s22, s23, s24, s25, s26, s27, s28, s29, s30, s31, s32, s33, s34, s35, s36, s37, s38, s39, s40, s41, s42, s43, s44, s45, s46, s47, s48, s49, s50, s51, s52, s53, s54, s55, s56, s57, s58, s59, s60, s61, s62, s63, s64, s65, s66, s67, s68, s69, s70, s71, s72, s73, s74, s75, s76, s77, s78, s79, s80, s81, s82, s83, s84, s85, s86, s87, s88, s89, s90, s91, s92, s93, s94, s95, s96, s97, s98, s99, s100, s101, s102, s103, s104, s105, s106, s107, s108, s109, s110, s111, s112, s113, s114, s115, s116, s117, s118, s119, s120, .int .i64 0, s122, s123, s124, s125, s126, s127, s128, s129, s130, s131, s132, s133, s134, s135, s136, s137, s138, s139, s140, s141, s142, s143, s144, s145, s146, s147, s148, s149, s150, s151, s152, s153, s154, s155, s156, s157, s158, s159, s160, s161, s162, s163, s164, s165, s166, s167, s168, s169, s170, s171, s172], []⟩ w := by
  have HK := Lib.hid hK; clear hK
  have HW := Lib.hid hw; clear hw
  conv => arg 2; whnf
  go_wp2
  go_loopw [121] (fun i wr => ∃ j : Nat, j ≤ 8 ∧ i = .int .i64 j ∧ Below w.heap.size w wr) (fun i _ => 8 - (intOf i).toNat)
  case atStart => exact ⟨0, Nat.zero_le _, rfl, Below.refl _ _⟩
  case round =>
    obtain ⟨j, hj, rfl, hbel⟩ := hrel
    obtain ⟨wr, rfl⟩ : ∃ wx : World, wx = wr := ⟨_, rfl⟩
    by_cases hlt : j < 8
    · have HR := Lib.hid (HW.out.below hbel)
      have a1 := HR.out.a1; have a2 := HR.out.a2
      go_upto_block 4 with fail
      refine swap_f1 (j : Int) wr T5 q5 c5 x5 HR.out.n5 HR.out.h5 HR.out.z5 ?_
      intro d22 d130 d131 d132 d133 d134 d135 d136 d137 d138 d139 d140 d141 d142 vx w1 hown1 hb1
      obtain ⟨A1, n1, c1, rfl, hn1, hl1, hm1, hs1⟩ := hown1.done (fun b hb => Nat.lt_of_lt_of_le hb hb1.size)
      have HR1 := Lib.hid (HR.out.below hb1)
      have H1 := Lib.hid (And.intro hn1 (And.intro hs1 (And.intro hb1 (maxLen_le (Nat.le_trans hl1 hm1)))))
      clear hown1 hb1 hn1 hl1 hm1 hs1 a1 a2
      have b1 := HR1.out.b1; have b2 := HR1.out.b2
      go_upto_block 6 with fail
      refine swap_f2 (j : Int) w1 T6 q6 c6 x6 HR1.out.n6 HR1.out.h6 HR1.out.z6 ?_
      intro d24 d149 d150 d151 d152 d153 d154 d155 d156 d157 d158 d159 d160 d161 vy w2 hown2 hb2
      obtain ⟨A2, n2, c2, rfl, hn2, hl2, hm2, hs2⟩ := hown2.done (fun b hb => Nat.lt_of_lt_of_le hb hb2.size)
      have H2 := Lib.hid (And.intro hn2 (And.intro hs2 hb2))
      clear hown2 hb2 hn2 hl2 hm2 hs2 b1 b2
      have HE := Lib.hid (HW.out.eq (j : Int))
      go_wp2_with (go_at_call 13
                   go_loud (skip
                            refine (sameAll_any A1 _ n1 c1 H1.out.1 A2 _ n2 c2 H2.out.1 w2 (H1.out.2.1.below H2.out.2.2 H2.out.2.2.size) H2.out.2.1 H1.out.2.2.2).mono ?_
                            rw [decide_eq_true HE.out]
                            rintro e w3 ⟨rfl, hb3⟩))
      go_roundw
      case measure => simp [intOf]; omega
      case rel => exact ⟨j + 1, by omega, by go_num, hbel.trans ((H1.out.2.2.1.trans ((H2.out.2.2.trans (hb3.mono H2.out.2.2.size)).mono H1.out.2.2.1.size)).mono hbel.size)⟩
    · go_wp2
      exact HK.out _ _ _ _ _ _ _ _ _ _ _ _ _ _ _ _ _ _ _ _ _ _ _ _ _ _ _ _ _ _ _ _ _ _ _ _ _ _ _ _ _ _ _ _ _ _ _ _ _ _ _ _ _ hbel
/-- What the outer loop reads. -/
structure SwapOut (w : World) (NA NB : Nat) (B2 B4 : Option Addr) (m cA cB : Nat) (xs ys : List (List Lt)) : Prop where
  a1 : w.cell? ⟨NA, 1, none⟩ = some (.slice B2 m cA)
  b1 : w.cell? ⟨NB, 1, none⟩ = some (.slice B4 m cB)
  lA : NA < w.heap.size
  lB : NB < w.heap.size
  hA : Sl (Rsl 56 Rlt) w (lo w.heap.size) B2 xs
  hB : Sl (Rsl 56 Rlt) w (lo w.heap.size) B4 ys
  nA : xs.length = m
  nB : ys.length = m
  zA : ∀ b ∈ xs, b.length * 56 ≤ 140737488351344
  zB : ∀ b ∈ ys, b.length * 56 ≤ 140737488351344
  eq : ∀ (t : Nat) (f : Int), (xs.getD t []).filter (fun z => decide (z.fr = f)) = (ys.getD t []).filter (fun z => decide (z.fr = f))
theorem SwapOut.below {w w' : World} {NA NB m cA cB : Nat} {B2 B4 : Option Addr} {xs ys : List (List Lt)} (h : SwapOut w NA NB B2 B4 m cA cB xs ys) (hb : Below w.heap.size w w') : SwapOut w' NA NB B2 B4 m cA cB xs ys := by
  have hz := hb.size
  have h1 := h.lA; have h2 := h.lB
  exact ⟨(hb.cell (p := ⟨NA, 1, none⟩) h1).trans h.a1, (hb.cell (p := ⟨NB, 1, none⟩) h2).trans h.b1, by omega, by omega, h.hA.below hb hz, h.hB.below hb hz, h.nA, h.nB, h.zA, h.zB, h.eq⟩
theorem SwapOut.round {w : World} {NA NB m cA cB : Nat} {B2 B4 : Option Addr} {xs ys : List (List Lt)} (h : SwapOut w NA NB B2 B4 m cA cB xs ys) {k : Nat} (hk : k < m) :
    ∃ ba oa bb ob T5 q5 c5 x5 T6 q6 c6 x6, SwapIn w NA NB ba oa bb ob k m cA cB T5 q5 c5 x5 T6 q6 c6 x6 := by
  have hb1 := List.getElem?_eq_getElem (l := xs) (i := k) (by rw [h.nA]; exact hk)
  have hb2 := List.getElem?_eq_getElem (l := ys) (i := k) (by rw [h.nB]; exact hk)
  obtain ⟨ba, oa, T5, q5, c5, hba, hla, hq5, _, _, hT5, ca⟩ := h.hA.sub hb1
  obtain ⟨bb, ob, T6, q6, c6, hbb, hlb, hq6, _, _, hT6, cb⟩ := h.hB.sub hb2
  refine ⟨ba, oa, bb, ob, T5, q5, c5, _, T6, q6, c6, _, by rw [← hba]; exact h.a1, by rw [← hbb]; exact h.b1, ca, cb, h.lA, h.lB, hla, hlb, hq5, hq6, hT5, hT6, ?_, ?_, fun f => ?_⟩
  · have := h.zA _ (List.mem_of_getElem? hb1); omega
  · have := h.zB _ (List.mem_of_getElem? hb2); omega
  · have := h.eq k f
    rw [List.getD_eq_getElem?_getD, List.getD_eq_getElem?_getD, hb1, hb2] at this
    exact this
noncomputable def swap_out_code : Code := blockOf Try.f6 0
set_option maxRecDepth 100000 in
set_option maxHeartbeats 2000000 in
theorem swap_out {Q : Exit → Act → World → Prop} {s0 s1 s2 s3 s4 s5 s6 s8 s9 s10 s11 s13 s14 s15 s16 s17 s18 s19 s20 s21 s22 s23 s24 s25 s26 s27 s28 s29 s30 s31 s32 s33 s34 s35 s36 s37 s38 s39 s40 s41 s42 s43 s44 s45 s46 s47 s48 s49 s50 s51 s52 s53 s54 s55 s56 s57 s58 s59 s60 s61 s62 s63 s64 s65 s66 s67 s68 s69 s70 s71 s72 s73 s74 s75 s76 s77 s78 s79 s80 s81 s82 s83 s84 s85 s86 s87 s88 s89 s90 s91 s92 s93 s94 s95 s96 s97 s98 s99 s100 s101 s102 s103 s104 s105 s106 s107 s108 s109 s110 s111 s112 s113 s114 s115 s116 s119 s120 s121 s122 s123 s124 s125 s126 s127 s128 s129 s130 s131 s132 s133 s134 s135 s136 s137 s138 s139 s140 s141 s142 s143 s144 s145 s146 s147 s148 s149 s150 s151 s152 s153 s154 s155 s156 s157 s158 s159 s160 s161 s162 s163 s164 s165 s166 s167 s168 s169 s170 s171 s172 : Value} (w : World) (NA NB : Nat) (B2 B4 : Option Addr) (m cA cB : Nat) (xs ys : List (List Lt)) (hw : SwapOut w NA NB B2 B4 m cA cB xs ys) (hm : m ≤ 9223372036854775807)
    (hK : ∀ (d6 d17 d18 d19 d20 d22 d24 d118 d119 d120 d121 d122 d123 d124 d125 d126 d127 d128 d129 d130 d131 d132 d133 d134 d135 d136 d137 d138 d139 d140 d141 d142 d143 d144 d145 d146 d147 d148 d149 d150 d151 d152 d153 d154 d155 d156 d157 d158 d159 d160 d161 d162 d163 d164 d165 d166 d167 : Value) (w' : World), Below w.heap.size w w' → Q .normal ⟨#[s0, s1, s2, s3, s4, s5, d6, .pointer (some ⟨NA, 0, none⟩), s8, s9, s10, s11, .pointer (some ⟨NB, 0, none⟩), s13, s14, s15, s16, d17, d18, d19, d20, s21, d22, s23, d24, s25, s26, s27, s28, s29, s30, s31, s32, s33, s34, s35, s36, s37, s38, s39, s40, s41, s42, s43, s44, s45, s46, s47, s48, s49, s50, s51, s52, s53, s54, s55, s56, s57, s58, s59, s60, s61, s62, s63, s64, s65, s66, s67, s68, s69, s70, s71, s72, s73, s74, s75, s76, s77, s78, s79, s80, s81, s82, s83, s84, s85, s86, s87, s88, s89, s90, s91, s92, s93, s94, s95, s96, s97, s98, s99, s100, s101, s102, s103, s104, s105, s106, s107, s108, s109, s110, s111, s112, s113, s114, s115, s116, .int .i64 m, d118, d119, d120, d121, d122, d123, d124, d125, d126, d127, d128, d129, d130, d131, d132, d133, d134, d135, d136, d137, d138, d139, d140, d141, d142, d143, d144, d145, d146, d147, d148, d149, d150, d151, d152, d153, d154, d155, d156, d157, d158, d159, d160, d161, d162, d163, d164, d165, d166, d167, s168, s169, s170, s171, s172], []⟩ w') :
    Code.wp Try.prog swap_out_code Q ⟨#[s0, s1, s2, s3, s4, s5, s6, .pointer (some ⟨NA, 0, none⟩), s8, s9, s10, s11, .pointer (some ⟨NB, 0, none⟩), s13, s14, s15, s16, s17, s18, s19, s20, s21, s22, s23, s24, s25, s26, s27, s28, s29, s30, s31, s32, s33, s34, s35, s36, s37, s38, s39, s40, s41, s42, s43, s44, s45, s46, s47, s48, s49, s50, s51, s52, s53, s54, s55, s56, s57, s58, s59, s60, s61, s62, s63, s64, s65, s66, s67, s68, s69, s70, s71, s72, s73, s74, s75, s76, s77, s78, s79, s80, s81, s82, s83, s84, s85, s86, s87, s88, s89, s90, s91, s92, s93, s94, s95, s96, s97, s98, s99, s100, s101, s102, s103, s104, s105, s106, s107, s108, s109, s110, s111, s112, s113, s114, s115, s116, .int .i64 m, .int .i64 0, s119, s120, s121, s122, s123, s124, s125, s126, s127, s128, s129, s130, s131, s132, s133, s134, s135, s136, s137, s138, s139, s140, s141, s142, s143, s144, s145, s146, s147, s148, s149, s150, s151, s152, s153, s154, s155, s156, s157, s158, s159, s160, s161, s162, s163, s164, s165, s166, s167, s168, s169, s170, s171, s172], []⟩ w := by
  have HK := Lib.hid hK; clear hK
  have HW := Lib.hid hw; clear hw
  conv => arg 2; whnf
  go_wp2
  go_loopw [118] (fun i wr => ∃ k : Nat, k ≤ m ∧ i = .int .i64 k ∧ Below w.heap.size w wr) (fun i _ => m - (intOf i).toNat)
  case atStart => exact ⟨0, Nat.zero_le _, rfl, Below.refl _ _⟩
  case round =>
    obtain ⟨k, hk, rfl, hbel⟩ := hrel
    obtain ⟨wr, rfl⟩ : ∃ wx : World, wx = wr := ⟨_, rfl⟩
    by_cases hlt : k < m
    · obtain ⟨ba, oa, bb, ob, T5, q5, c5, x5, T6, q6, c6, x6, hI⟩ := (HW.out.below hbel).round hlt
      have HI := Lib.hid hI; clear hI
      go_upto_block 2 with fail
      refine swap_mid wr NA NB ba oa bb ob k m cA cB T5 q5 c5 x5 T6 q6 c6 x6 HI.out hlt ?_
      intro d6 d18 d19 d20 d22 d24 d121 d122 d123 d124 d125 d126 d127 d128 d129 d130 d131 d132 d133 d134 d135 d136 d137 d138 d139 d140 d141 d142 d143 d144 d145 d146 d147 d148 d149 d150 d151 d152 d153 d154 d155 d156 d157 d158 d159 d160 d161 d162 d163 d164 d165 d166 w1 hb1
      go_wp2
      go_roundw
      case measure => simp [intOf]; omega
      case rel => exact ⟨k + 1, by omega, by go_num, hbel.trans (hb1.mono hbel.size)⟩
    · go_wp2
      exact HK.out _ _ _ _ _ _ _ _ _ _ _ _ _ _ _ _ _ _ _ _ _ _ _ _ _ _ _ _ _ _ _ _ _ _ _ _ _ _ _ _ _ _ _ _ _ _ _ _ _ _ _ _ _ _ _ _ _ _ hbel
end Go.Proofs.Ytcmdmmphakclmaa
