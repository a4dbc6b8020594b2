/-
  NetOnce: the flights of one time.
-/
import Derived.Test.YtponbodiibkopaaOnceB
namespace Go.Proofs.Ytponbodiibkopaa
open Go.RowKit Go.Sort
set_option linter.unusedVariables false

noncomputable def once_in_code : Code := blockOf Try.f4 4
set_option maxRecDepth 100000 in
set_option maxHeartbeats 8000000 in
theorem once_in {Q : Exit → Act → World → Prop} {s2 s3 s4 s5 s6 s7 s10 s11 s12 s13 s14 s15 s16 s17 s18 s19 s20 s21 s22 s23 s24 s25 s26 s27 s28 s29 s30 s31 s32 s33 s34 s35 s36 s37 s38 s39 s40 s41 s42 s43 s44 s45 s46 s47 s48 s49 s50 s51 s52 s53 s54 s55 s56 s57 s58 s59 s60 s61 s62 s63 s64 s65 s66 s67 s68 s69 s70 s71 s72 s76 s77 s78 s79 s80 s81 s82 s83 s84 s85 s86 s87 s88 s89 s90 s91 s92 s93 s94 s95 s96 s97 s98 s99 s100 s101 s102 s103 s104 s105 s106 s107 s108 s109 s110 s111 s112 s113 s114 s115 s116 s117 s118 s119 s120 s121 s122 s123 s124 s125 s126 s127 s128 s129 s130 s131 s132 s133 s134 s135 s136 s137 s138 s139 s140 s141 s142 s143 s144 s145 s146 s147 s148 s149 s150 s151 s152 s153 s154 s155 s156 s157 s158 s159 s160 s161 s162 s163 s164 s165 s166 s167 s168 s169 s170 s171 s172 s173 : Value} (w : World) (W M : Nat) (fs : List Int) (bs : List (List Int)) (FA : Option Addr) (F fc : Nat) (BA : Option Addr) (N bc : Nat) (A : Option Addr) (n c : Nat) (now : Int) (hF : fs.length = F) (hfs : Sl (Rint .i64) w (lo W) FA fs) (hN : bs.length = N) (hbs : Sl Rbd w (lo W) BA bs) (hWM : W ≤ M) (hn : (atT now (allF fs bs N)).length = n) (hl : Sl Rfl w (fun b => b < w.heap.size ∧ b ≠ M) A (atT now (allF fs bs N))) (hM : Blk w M 3 (mtArr (metP fs bs N now 0) N)) (hN40 : N ≤ 40) (hF100 : F ≤ 100) (hnow : now ≤ 100) (hn100 : n ≤ 1000)
    (hK : ∀ (d4 d13 d14 d76 d77 d78 d79 d80 d81 d82 d83 d84 d85 d86 d87 d88 d89 d90 d91 d92 d93 d94 d95 d96 d97 d98 d99 d100 d101 d102 d103 d104 d105 d106 d107 d108 d109 d110 d111 d112 d113 d114 d115 d116 d117 d118 d119 d120 d121 d122 d123 d124 d125 d126 d127 d128 d129 d130 d131 d132 d133 d134 d135 d136 d137 d138 d139 d140 d141 : Value) (w' : World), Blk w' M 3 (mtArr (metP fs bs N now n) N) → (∀ k, k < w.heap.size → k ≠ M → w'.heap[k]? = w.heap[k]?) → Below M w w' → Q .normal ⟨#[.slice FA F fc, .slice BA N bc, s2, s3, d4, s5, s6, s7, .slice (some ⟨M, 0, none⟩) N N, .int .i64 now, s10, s11, s12, d13, d14, s15, s16, s17, s18, s19, s20, s21, s22, s23, s24, s25, s26, s27, s28, s29, s30, s31, s32, s33, s34, s35, s36, s37, s38, s39, s40, s41, s42, s43, s44, s45, s46, s47, s48, s49, s50, s51, s52, s53, s54, s55, s56, s57, s58, s59, s60, s61, s62, s63, s64, s65, s66, s67, s68, s69, s70, s71, s72, .slice A n c, .int .i64 (n : Nat), .int .i64 (n : Nat), d76, d77, d78, d79, d80, d81, d82, d83, d84, d85, d86, d87, d88, d89, d90, d91, d92, d93, d94, d95, d96, d97, d98, d99, d100, d101, d102, d103, d104, d105, d106, d107, d108, d109, d110, d111, d112, d113, d114, d115, d116, d117, d118, d119, d120, d121, d122, d123, d124, d125, d126, d127, d128, d129, d130, d131, d132, d133, d134, d135, d136, d137, d138, d139, d140, d141, s142, s143, s144, s145, s146, s147, s148, s149, s150, s151, s152, s153, s154, s155, s156, s157, s158, s159, s160, s161, s162, s163, s164, s165, s166, s167, s168, s169, s170, s171, s172, s173], []⟩ w') :
    Code.wp Try.prog once_in_code Q ⟨#[.slice FA F fc, .slice BA N bc, s2, s3, s4, s5, s6, s7, .slice (some ⟨M, 0, none⟩) N N, .int .i64 now, s10, s11, s12, s13, s14, s15, s16, s17, s18, s19, s20, s21, s22, s23, s24, s25, s26, s27, s28, s29, s30, s31, s32, s33, s34, s35, s36, s37, s38, s39, s40, s41, s42, s43, s44, s45, s46, s47, s48, s49, s50, s51, s52, s53, s54, s55, s56, s57, s58, s59, s60, s61, s62, s63, s64, s65, s66, s67, s68, s69, s70, s71, s72, .slice A n c, .int .i64 (n : Nat), .int .i64 0, s76, s77, s78, s79, s80, s81, s82, s83, s84, s85, s86, s87, s88, s89, s90, s91, s92, s93, s94, s95, s96, s97, s98, s99, s100, s101, s102, s103, s104, s105, s106, s107, s108, s109, s110, s111, s112, s113, s114, s115, s116, s117, s118, s119, s120, s121, s122, s123, s124, s125, s126, s127, s128, s129, s130, s131, s132, s133, s134, s135, s136, s137, s138, s139, s140, s141, s142, s143, s144, s145, s146, s147, s148, s149, s150, s151, s152, s153, s154, s155, s156, s157, s158, s159, s160, s161, s162, s163, s164, s165, s166, s167, s168, s169, s170, s171, s172, s173], []⟩ w := by
  have HK := Lib.hid hK; clear hK
  have H0 := Lib.hid (show Blk w M 3 (mtArr (metP fs bs N now 0) N) ∧ (∀ b, b < w.heap.size → b ≠ M → w.heap[b]? = w.heap[b]?) ∧ Below M w w from ⟨hM, fun _ _ _ => rfl, Below.refl _ _⟩)
  have hMl := hM.lt
  have HX := Lib.hid (And.intro hF (And.intro hfs (And.intro hN (And.intro hbs (And.intro hn hl)))))
  clear hF hfs hN hbs hn hl hM
  conv => arg 2; whnf
  go_wp2
  go_loopw [75] (fun v wr => ∃ j : Nat, j ≤ n ∧ v = .int .i64 (j : Nat) ∧ Hid (Blk wr M 3 (mtArr (metP fs bs N now j) N) ∧ (∀ b, b < w.heap.size → b ≠ M → wr.heap[b]? = w.heap[b]?) ∧ Below M w wr)) (fun v _ => n - (intOf v).toNat)
  case atStart => exact ⟨0, Nat.zero_le _, rfl, Lib.hid ⟨H0.out.1, fun _ _ _ => rfl, H0.out.2.2⟩⟩
  case round =>
    clear H0
    obtain ⟨j, hj, rfl, HR⟩ := hrel
    obtain ⟨wi, rfl⟩ : ∃ wx : World, wx = wr := ⟨_, rfl⟩
    have hzi := HR.out.2.2.size
    by_cases hlt : j < n
    · have hy := List.getElem?_eq_getElem (l := atT now (allF fs bs N)) (i := j) (by rw [HX.out.2.2.2.2.1]; exact hlt)
      generalize (atT now (allF fs bs N))[j]'(by rw [HX.out.2.2.2.2.1]; exact hlt) = y at hy
      obtain ⟨i, hiN, hfr, hbody, htm, hfate, hnw, hstep⟩ := met_step (by omega) hy
      obtain ⟨yt, yf, yg, yb⟩ := y
      dsimp only at hfr hbody htm
      have htm := htm.symm
      subst hfr htm
      obtain ⟨b', off', T, tn, tc, rfl, hlb, w1', w2', w3', htn, hl', hm', hts, y0, y1, y2, y3⟩ := (HX.out.2.2.2.2.2.keep (w' := wi) (S' := lo wi.heap.size) (fun p hp => World.cell?_of_block (HR.out.2.1 _ hp.1 hp.2)) (fun b hb => by have := hb.1; show b < _; omega)).flight hy
      dsimp only at y0 y1 y2 y3 htn hts
      have hlb' : b' < wi.heap.size := hlb
      have hbi : bs[i]? = some yb := by
        have hi9 := List.getElem?_eq_getElem (l := bs) (i := i) (by rw [HX.out.2.2.1]; exact hiN)
        rw [hi9, hbody, List.getD_eq_getElem?_getD, hi9]; rfl
      have hMi := HR.out.1.lt
      obtain ⟨wb, hwb⟩ : ∃ wb, wi.alloc (.cells #[.int .i64 now, .int .i64 (i : Nat), .int .i64 yg, .slice T tn tc] 37) = wb := ⟨_, rfl⟩
      have hbb : Below wi.heap.size wi wb := by rw [← hwb]; exact (Below.refl _ _).alloc (Nat.le_refl _) _
      have gD : Blk wb wi.heap.size 37 #[.int .i64 now, .int .i64 (i : Nat), .int .i64 yg, .slice T tn tc] := by rw [← hwb]; exact Blk.new _ _ _ rfl
      have hzb : wb.heap.size = wi.heap.size + 1 := by rw [← hwb]; simp
      have hkW : ∀ (p : Addr), p.block < W → wb.cell? p = w.cell? p := fun p hp => (hbb.cell (by omega)).trans (World.cell?_of_block (HR.out.2.1 _ (by omega) (by omega)))
      have HB := Lib.hid (And.intro gD (And.intro (HR.out.1.below hbb hMi) (And.intro (HX.out.2.2.2.1.keep (w' := wb) (S' := lo wb.heap.size) (fun p hp => hkW p hp) (fun b hb => by have h8 : b < W := hb; show b < _; omega)) (And.intro (hts.below hbb hbb.size) (And.intro htn (And.intro hbb (HX.out.2.1.keep (w' := wb) (S' := lo W) (fun p hp => hkW p hp) (fun _ h => h))))))))
      have HY := Lib.hid (And.intro hbi (And.intro hiN (And.intro hbody (And.intro hy (And.intro hfate (And.intro hnw hstep))))))
      clear hy hiN hbody hfate hnw hstep hbi w1' w2' w3' htn hts hl' hm' gD hbb hkW hlb
      go_upto_region 24 with fail
      try rw [hwb]
      refine once_r24 wb wi.heap.size i N bc tn tc now yg bs BA T yb (HB.out.1.cell 0 (v := .int .i64 now) rfl) (HB.out.1.cell 1 (v := .int .i64 (i : Nat)) rfl) (HB.out.1.cell 3 (v := .slice T tn tc) rfl) HX.out.2.2.1 HB.out.2.2.1 HY.out.1 hN40 HB.out.2.2.2.2.1 HB.out.2.2.2.1 ?_
      intro d79 d80 d81 d82 d83 d84 d85 d86 d87 d88 d89 d90 d91 d92 d93 d94 d95 d96 d97 d98 d99 d100 d101 d102 d103 d104 w1 hb1
      have hz1 := hb1.size
      have H1 := Lib.hid (show Below wi.heap.size wi w1 ∧ Blk w1 wi.heap.size 37 #[.int .i64 now, .int .i64 (i : Nat), .int .i64 yg, .slice T tn tc] ∧ Blk w1 M 3 (mtArr (metP fs bs N now j) N) ∧ Sl (Rint .i64) w1 (lo W) FA fs from ⟨HB.out.2.2.2.2.2.1.trans (hb1.mono (by omega)), HB.out.1.below hb1 HB.out.1.lt, HB.out.2.1.below hb1 HB.out.2.1.lt, HB.out.2.2.2.2.2.2.keep (fun p hp => hb1.cell (by have h8 : p.block < W := hp; omega)) (fun _ h => h)⟩)
      clear hb1 hwb
      have k1 := H1.out.2.1.cell 1 (v := .int .i64 (i : Nat)) rfl
      by_cases hiF : i < F
      · have d4 : decide (i < F) = true := decide_eq_true hiF
        have hfi := List.getElem?_eq_getElem (l := fs) (i := i) (by rw [HX.out.1]; exact hiF)
        generalize fs[i]'(by rw [HX.out.1]; exact hiF) = f at hfi
        have hfo : fateOf fs i = f := by unfold fateOf; rw [List.getD_eq_getElem?_getD, hfi]; rfl
        obtain ⟨bF, offF, hFA, hlF, hwF, f0⟩ := H1.out.2.2.2.int hfi
        subst hFA
        have hlF' : bF < W := hlF
        have hbd := bounds_i64 hwF
        have HFO := Lib.hid hfo
        clear hfi hwF hlF hfo
        go_upto_region 29 with fail
        rw [← HFO.out]
        have hbd2 : fateOf fs i ≤ 9223372036854775807 := by rw [HFO.out]; omega
        have hnw1 := HY.out.2.2.2.2.2.1
        have hf1 := HY.out.2.2.2.2.1
        have HNW := Lib.hid (And.intro hnw1 (And.intro hf1 hbd2))
        clear hnw1 hf1 hbd2
        have hvv : metP fs bs N now j i ≤ 1000 := by have h9 := HY.out.2.2.2.2.2.1; omega
        refine once_r29 w1 wi.heap.size M i N (metP fs bs N now j i) now _ (H1.out.2.1.cell 1 (v := .int .i64 (i : Nat)) rfl) (H1.out.2.2.1.cell i (mtArr_get HY.out.2.1)) HY.out.2.1 hN40 hvv HNW.out.2.1 HNW.out.2.2 HNW.out.1 ?_
        intro d116 d117 d118 d119 d120 d121 d122 d123 d124 d125 d126 d127 d128 d129 d130 d131 d132 w2 hb2
        have hz2 := hb2.size
        have hlMx := H1.out.2.2.1.lt
        have hlDx := H1.out.2.1.lt
        have gD := H1.out.2.1.below hb2 hlDx
        have gM := H1.out.2.2.1.below hb2 hlMx
        have k1 := gD.cell 1 (v := .int .i64 (i : Nat)) rfl
        have m0 := gM.cell i (mtArr_get HY.out.2.1)
        have fM := gM.frozen
        have hiN := HY.out.2.1
        have H2 := Lib.hid (show Blk (w2.setCell ⟨M, i, none⟩ (.int .i64 ((metP fs bs N now j i : Nat) + 1))) M 3 (mtArr (metP fs bs N now (j + 1)) N) ∧ (∀ b, b < w.heap.size → b ≠ M → (w2.setCell ⟨M, i, none⟩ (.int .i64 ((metP fs bs N now j i : Nat) + 1))).heap[b]? = w.heap[b]?) ∧ Below M w (w2.setCell ⟨M, i, none⟩ (.int .i64 ((metP fs bs N now j i : Nat) + 1))) from
          ⟨by
            have h9 := gM.set i (.int .i64 ((metP fs bs N now j i : Nat) + 1))
            rwa [mtArr_set (g' := metP fs bs N now (j + 1)) HY.out.2.1 (by rw [HY.out.2.2.2.2.2.2 i, if_pos rfl]; push_cast; rfl) (fun j' hj' => by rw [HY.out.2.2.2.2.2.2 j', if_neg hj'])] at h9,
          fun b hb hne => (Below.heap_setCell w2 ⟨M, i, none⟩ _ b hne).trans ((hb2.block b (by have := H1.out.1.size; omega)).trans ((H1.out.1.block b (by omega)).trans (HR.out.2.1 b hb hne))),
          ((HR.out.2.2.trans (H1.out.1.mono (by omega))).trans (hb2.mono (by have := H1.out.1.size; omega))).setCell (p := ⟨M, i, none⟩) (Nat.le_refl _) _⟩)
        clear hb2 gD gM
        obtain ⟨vv, hvv2⟩ : ∃ vv, metP fs bs N now j i = vv := ⟨_, rfl⟩
        rw [hvv2] at m0 hvv H2
        clear hvv2
        go_wp2
        go_roundw
        case measure => simp [intOf]; omega
        case rel => exact ⟨j + 1, by omega, by go_num, H2⟩
      · have d4 : decide (i < F) = false := decide_eq_false hiF
        have hfo : (0 : Int) = fateOf fs i := by unfold fateOf; rw [List.getD_eq_getElem?_getD, List.getElem?_eq_none (by rw [HX.out.1]; omega)]; rfl
        have HFO := Lib.hid hfo
        clear hfo
        have hbd2 : fateOf fs i ≤ 9223372036854775807 := by rw [← HFO.out]; omega
        go_upto_region 29 with fail
        have hnw1 := HY.out.2.2.2.2.2.1
        rw [← HFO.out] at hnw1
        have HNW := Lib.hid hnw1
        clear hnw1 hbd2
        have hp0 : (0 : Int) ≤ 0 := by omega
        have hp1 : (0 : Int) ≤ 9223372036854775807 := by omega
        have hvv : metP fs bs N now j i ≤ 1000 := by have h9 := HY.out.2.2.2.2.2.1; omega
        refine once_r29 w1 wi.heap.size M i N (metP fs bs N now j i) now 0 (H1.out.2.1.cell 1 (v := .int .i64 (i : Nat)) rfl) (H1.out.2.2.1.cell i (mtArr_get HY.out.2.1)) HY.out.2.1 hN40 hvv hp0 hp1 HNW.out ?_
        intro d116 d117 d118 d119 d120 d121 d122 d123 d124 d125 d126 d127 d128 d129 d130 d131 d132 w2 hb2
        have hz2 := hb2.size
        have hlMx := H1.out.2.2.1.lt
        have hlDx := H1.out.2.1.lt
        have gD := H1.out.2.1.below hb2 hlDx
        have gM := H1.out.2.2.1.below hb2 hlMx
        have k1 := gD.cell 1 (v := .int .i64 (i : Nat)) rfl
        have m0 := gM.cell i (mtArr_get HY.out.2.1)
        have fM := gM.frozen
        have hiN := HY.out.2.1
        have H2 := Lib.hid (show Blk (w2.setCell ⟨M, i, none⟩ (.int .i64 ((metP fs bs N now j i : Nat) + 1))) M 3 (mtArr (metP fs bs N now (j + 1)) N) ∧ (∀ b, b < w.heap.size → b ≠ M → (w2.setCell ⟨M, i, none⟩ (.int .i64 ((metP fs bs N now j i : Nat) + 1))).heap[b]? = w.heap[b]?) ∧ Below M w (w2.setCell ⟨M, i, none⟩ (.int .i64 ((metP fs bs N now j i : Nat) + 1))) from
          ⟨by
            have h9 := gM.set i (.int .i64 ((metP fs bs N now j i : Nat) + 1))
            rwa [mtArr_set (g' := metP fs bs N now (j + 1)) HY.out.2.1 (by rw [HY.out.2.2.2.2.2.2 i, if_pos rfl]; push_cast; rfl) (fun j' hj' => by rw [HY.out.2.2.2.2.2.2 j', if_neg hj'])] at h9,
          fun b hb hne => (Below.heap_setCell w2 ⟨M, i, none⟩ _ b hne).trans ((hb2.block b (by have := H1.out.1.size; omega)).trans ((H1.out.1.block b (by omega)).trans (HR.out.2.1 b hb hne))),
          ((HR.out.2.2.trans (H1.out.1.mono (by omega))).trans (hb2.mono (by have := H1.out.1.size; omega))).setCell (p := ⟨M, i, none⟩) (Nat.le_refl _) _⟩)
        clear hb2 gD gM
        obtain ⟨vv, hvv2⟩ : ∃ vv, metP fs bs N now j i = vv := ⟨_, rfl⟩
        rw [hvv2] at m0 hvv H2
        clear hvv2
        go_wp2
        go_roundw
        case measure => simp [intOf]; omega
        case rel => exact ⟨j + 1, by omega, by go_num, H2⟩
    · obtain rfl : j = n := by omega
      go_wp2
      exact HK.out _ _ _ _ _ _ _ _ _ _ _ _ _ _ _ _ _ _ _ _ _ _ _ _ _ _ _ _ _ _ _ _ _ _ _ _ _ _ _ _ _ _ _ _ _ _ _ _ _ _ _ _ _ _ _ _ _ _ _ _ _ _ _ _ _ _ _ _ _ _ HR.out.1 HR.out.2.1 HR.out.2.2
end Go.Proofs.Ytponbodiibkopaa
