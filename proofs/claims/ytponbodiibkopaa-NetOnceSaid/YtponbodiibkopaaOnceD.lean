/-
  NetOnce: the times; the count at the end.
-/
import Derived.Test.YtponbodiibkopaaOnceC
namespace Go.Proofs.Ytponbodiibkopaa
open Go.RowKit Go.Sort
set_option linter.unusedVariables false

theorem OnW.over {W : Nat} {w0 wr w' : World} {E M : Nat} {A : Option Addr} {n c : Nat} {B : Option Addr} {m d : Nat} {x : Nt} (h : OnW W w0 wr E M A n c B m d x) (hk : ∀ k, k < wr.heap.size → k ≠ M → w'.heap[k]? = wr.heap[k]?) (hb : Below M wr w') (hWM : W ≤ M) (hEM : E ≠ M) : OnW W w0 w' E M A n c B m d x := by
  have hz := hb.size
  exact ⟨(hk E h.blk.lt hEM).trans h.blk, h.net.keep (fun p hp => World.cell?_of_block (hk _ hp.1 hp.2.2)) (fun b hb => ⟨by have := hb.1; omega, hb.2⟩), h.fit, h.nc, h.cm, h.md, h.dm, h.bel.trans (hb.mono hWM)⟩
theorem mtArr_congr {g g' : Nat → Nat} {N : Nat} (h : ∀ i, i < N → g i = g' i) : mtArr g N = mtArr g' N := by
  unfold mtArr
  congr 1
  refine List.map_congr_left fun i hi => ?_
  rw [h i (List.mem_range.1 hi)]
theorem fit_from {fs : List Int} {bs : List (List Int)} {N : Nat} (t : Int) (h : NtFit ⟨allF fs bs N, fs.drop N⟩) : NtFit ⟨fromT t (allF fs bs N), fs.drop N⟩ :=
  ⟨by have h1 := h.list; have h2 : (fromT t (allF fs bs N)).length ≤ (allF fs bs N).length := List.length_filter_le _ _; show ((fromT t (allF fs bs N)).length + 2) * 48 ≤ _; exact Nat.le_trans (Nat.mul_le_mul_right 48 (by dsimp only; omega)) h1, h.fates, fun f hf => h.text f (List.mem_filter.1 hf).1⟩
noncomputable def once_time_code : Code := blockOf Try.f4 2
set_option maxRecDepth 100000 in
set_option maxHeartbeats 8000000 in
theorem once_time {Q : Exit → Act → World → Prop} {s2 s3 s4 s6 s7 s9 s10 s11 s12 s13 s14 s15 s16 s17 s18 s19 s20 s21 s22 s23 s24 s25 s26 s27 s28 s29 s30 s31 s32 s33 s34 s35 s36 s37 s38 s39 s40 s41 s42 s43 s44 s45 s46 s47 s48 s49 s50 s51 s52 s53 s54 s55 s56 s57 s58 s59 s60 s61 s64 s65 s66 s67 s68 s69 s70 s71 s72 s73 s74 s75 s76 s77 s78 s79 s80 s81 s82 s83 s84 s85 s86 s87 s88 s89 s90 s91 s92 s93 s94 s95 s96 s97 s98 s99 s100 s101 s102 s103 s104 s105 s106 s107 s108 s109 s110 s111 s112 s113 s114 s115 s116 s117 s118 s119 s120 s121 s122 s123 s124 s125 s126 s127 s128 s129 s130 s131 s132 s133 s134 s135 s136 s137 s138 s139 s140 s141 s142 s143 s144 s145 s146 s147 s148 s149 s150 s151 s152 s153 s154 s155 s156 s157 s158 s159 s160 s161 s162 s163 s164 s165 s166 s167 s168 s169 s170 s171 s172 s173 : Value} (w0 w : World) (W E M : Nat) (fs : List Int) (bs : List (List Int)) (FA : Option Addr) (F fc : Nat) (BA : Option Addr) (N bc TT : Nat) (A : Option Addr) (n c : Nat) (B : Option Addr) (m d : Nat) (hF : fs.length = F) (hfs : Sl (Rint .i64) w0 (lo W) FA fs) (hN : bs.length = N) (hbs : Sl Rbd w0 (lo W) BA bs) (hWE : W ≤ E) (hWM : W ≤ M) (hEM : E ≠ M)
    (hE : OnW W w0 w E M A n c B m d ⟨allF fs bs N, fs.drop N⟩) (hM : Blk w M 3 (mtArr (fun _ => 0) N)) (hN40 : N ≤ 40) (hF100 : F ≤ 100) (hT : N + 20 = TT)
    (hK : ∀ (d4 d9 d10 d11 d12 d13 d14 d64 d65 d66 d67 d68 d69 d70 d71 d72 d73 d74 d75 d76 d77 d78 d79 d80 d81 d82 d83 d84 d85 d86 d87 d88 d89 d90 d91 d92 d93 d94 d95 d96 d97 d98 d99 d100 d101 d102 d103 d104 d105 d106 d107 d108 d109 d110 d111 d112 d113 d114 d115 d116 d117 d118 d119 d120 d121 d122 d123 d124 d125 d126 d127 d128 d129 d130 d131 d132 d133 d134 d135 d136 d137 d138 d139 d140 d141 d142 : Value) (A : Option Addr) (c : Nat) (B : Option Addr) (m d : Nat) (w' : World), Blk w' E 25 #[.slice A 0 c, .slice B m d] → Blk w' M 3 (mtArr (fun i => (partI fs bs i).length) N) → Below W w0 w' → Q .normal ⟨#[.slice FA F fc, .slice BA N bc, s2, s3, d4, .pointer (some ⟨E, 0, none⟩), s6, s7, .slice (some ⟨M, 0, none⟩) N N, d9, d10, d11, d12, d13, d14, s15, s16, s17, s18, s19, s20, s21, s22, s23, s24, s25, s26, s27, s28, s29, s30, s31, s32, s33, s34, s35, s36, s37, s38, s39, s40, s41, s42, s43, s44, s45, s46, s47, s48, s49, s50, s51, s52, s53, s54, s55, s56, s57, s58, s59, s60, s61, .int .i64 (TT : Nat), .int .i64 (TT : Nat), d64, d65, d66, d67, d68, d69, d70, d71, d72, d73, d74, d75, d76, d77, d78, d79, d80, d81, d82, d83, d84, d85, d86, d87, d88, d89, d90, d91, d92, d93, d94, d95, d96, d97, d98, d99, d100, d101, d102, d103, d104, d105, d106, d107, d108, d109, d110, d111, d112, d113, d114, d115, d116, d117, d118, d119, d120, d121, d122, d123, d124, d125, d126, d127, d128, d129, d130, d131, d132, d133, d134, d135, d136, d137, d138, d139, d140, d141, d142, s143, s144, s145, s146, s147, s148, s149, s150, s151, s152, s153, s154, s155, s156, s157, s158, s159, s160, s161, s162, s163, s164, s165, s166, s167, s168, s169, s170, s171, s172, s173], []⟩ w') :
    Code.wp Try.prog once_time_code Q ⟨#[.slice FA F fc, .slice BA N bc, s2, s3, s4, .pointer (some ⟨E, 0, none⟩), s6, s7, .slice (some ⟨M, 0, none⟩) N N, s9, s10, s11, s12, s13, s14, s15, s16, s17, s18, s19, s20, s21, s22, s23, s24, s25, s26, s27, s28, s29, s30, s31, s32, s33, s34, s35, s36, s37, s38, s39, s40, s41, s42, s43, s44, s45, s46, s47, s48, s49, s50, s51, s52, s53, s54, s55, s56, s57, s58, s59, s60, s61, .int .i64 (TT : Nat), .int .i64 0, s64, s65, s66, s67, s68, s69, s70, s71, s72, s73, s74, s75, s76, s77, s78, s79, s80, s81, s82, s83, s84, s85, s86, s87, s88, s89, s90, s91, s92, s93, s94, s95, s96, s97, s98, s99, s100, s101, s102, s103, s104, s105, s106, s107, s108, s109, s110, s111, s112, s113, s114, s115, s116, s117, s118, s119, s120, s121, s122, s123, s124, s125, s126, s127, s128, s129, s130, s131, s132, s133, s134, s135, s136, s137, s138, s139, s140, s141, s142, s143, s144, s145, s146, s147, s148, s149, s150, s151, s152, s153, s154, s155, s156, s157, s158, s159, s160, s161, s162, s163, s164, s165, s166, s167, s168, s169, s170, s171, s172, s173], []⟩ w := by
  have HK := Lib.hid hK; clear hK
  have H0 := Lib.hid (show OnW W w0 w E M A n c B m d ⟨fromT 0 (allF fs bs N), fs.drop N⟩ ∧ Blk w M 3 (mtArr (metP fs bs N 0 0) N) from ⟨by rw [from_zero (by omega)]; exact hE, by rw [mtArr_congr (g' := fun _ => 0) (fun i hi => by unfold metP; rw [met_zero (by omega)]; simp)]; exact hM⟩)
  have HX := Lib.hid (And.intro hF (And.intro hfs (And.intro hN (And.intro hbs (And.intro hE.fit hT)))))
  have hT60 : TT ≤ 60 := by omega
  clear hE hM hF hfs hN hbs hT
  conv => arg 2; whnf
  go_wp2
  go_loopw [63] (fun v wr => ∃ (t : Nat) (A : Option Addr) (n c : Nat) (B : Option Addr) (m d : Nat), t ≤ TT ∧ v = .int .i64 (t : Nat) ∧ Hid (OnW W w0 wr E M A n c B m d ⟨fromT t (allF fs bs N), fs.drop N⟩ ∧ Blk wr M 3 (mtArr (metP fs bs N t 0) N))) (fun v _ => TT - (intOf v).toNat)
  case atStart => exact ⟨0, _, _, _, _, _, _, Nat.zero_le _, rfl, H0⟩
  case round =>
    clear H0
    obtain ⟨t, A, n, c, B, m, d, ht, rfl, HA⟩ := hrel
    obtain ⟨wi, rfl⟩ : ∃ wx : World, wx = wr := ⟨_, rfl⟩
    by_cases hlt : t < TT
    · have dt : decide (t < TT) = true := decide_eq_true hlt
      have hlE := HA.out.1.blk.lt
      have hlM := HA.out.2.lt
      have e0 := HA.out.1.blk.cell 0 (v := .slice A n c) rfl; have e1 := HA.out.1.blk.cell 1 (v := .slice B m d) rfl; have fE := HA.out.1.blk.frozen
      have hal := allF_len fs bs N
      have hdl : (dueL Fl.tm (t : Int) (fromT t (allF fs bs N))).length ≤ 1152921504606846976 := by
        have h1 := dueL_le (t : Int) (fromT t (allF fs bs N))
        have h2 : (fromT (t : Int) (allF fs bs N)).length ≤ (allF fs bs N).length := List.length_filter_le _ _
        omega
      have HD := Lib.hid hdl
      clear hdl hal
      go_upto_region 21 with (go_at_call 13
                              go_loud (skip
                                       refine (due_any wi ⟨fromT t (allF fs bs N), fs.drop N⟩ A n c B m d t _ HA.out.1.arg.at_ HA.out.1.fit HA.out.1.md HA.out.1.dm (sortC_all _ HD.out) (Nat.le_refl _)).mono ?_
                                       rintro e w3 ⟨A3, n3, c3, A4, n4, c4, B4, m4, dF4, ys, rfl, hn3, hs3, s1, s2, s3, hnt, q1, q2, q3, q4, q5, q6, hb3⟩
                                       have hat := due_at ⟨s1, s2, s3⟩
                                       have hz3 := hb3.size
                                       have gE := HA.out.1.blk.below hb3 hlE
                                       have hlE3 := gE.lt
                                       clear e0 e1 fE
                                       have e0 := gE.cell 0 (v := .slice A n c) rfl; have e1 := gE.cell 1 (v := .slice B m d) rfl; have fE := gE.frozen
                                       have H3 := Lib.hid (And.intro hat (And.intro hn3 (And.intro hs3 (And.intro hnt (And.intro q3 (And.intro q4 (And.intro q5 (And.intro q6 (And.intro hb3 (And.intro q1 q2))))))))))
                                       clear hat hn3 hs3 s1 s2 s3 hnt q1 q2 q3 q4 q5 q6 hb3 gE))
      have hbx : Below wi.heap.size wi (w3.alloc (.cells #[.slice A4 n4 c4, .slice B4 m4 dF4] 25)) := H3.out.2.2.2.2.2.2.2.2.1.alloc (by omega) _
      have hleft : leftL Fl.tm (t : Int) (fromT t (allF fs bs N)) = fromT ((t + 1 : Nat) : Int) (allF fs bs N) := by rw [left_from]; congr 1
      have hW4 := HA.out.1.put hbx (A' := A4) (n' := n4) (c' := c4) (B' := B4) (m' := m4) (d' := dF4) (x' := ⟨fromT ((t + 1 : Nat) : Int) (allF fs bs N), fs.drop N⟩) (by rw [← hleft]; exact H3.out.2.2.2.1.keep (fun p hp => World.cell?_alloc_lt _ _ _ hp.2) (fun b hb => ⟨by have := hb.2; simp; omega, by have := hb.1; omega, by have := hb.1; omega⟩)) (fit_from _ HX.out.2.2.2.2.1) H3.out.2.2.2.2.1 H3.out.2.2.2.2.2.1 H3.out.2.2.2.2.2.2.1 H3.out.2.2.2.2.2.2.2.1 hWE
      obtain ⟨w4, hw4⟩ : ∃ w4, ((w3.alloc (.cells #[.slice A4 n4 c4, .slice B4 m4 dF4] 25)).setCell ⟨E, 0, none⟩ (.slice A4 n4 c4)).setCell ⟨E, 1, none⟩ (.slice B4 m4 dF4) = w4 := ⟨_, rfl⟩
      rw [hw4] at hW4
      have hcm : ((w3.setCell ⟨E, 0, none⟩ (.slice A4 n4 c4)).setCell ⟨E, 1, none⟩ (.slice B4 m4 dF4)).alloc (.cells #[.slice A4 n4 c4, .slice B4 m4 dF4] 25) = w4 := by
        rw [← hw4]; simp [go_sem, hlE3]
      have hz4 : w4.heap.size = w3.heap.size + 1 := by rw [← hw4]; simp [World.setCell]
      have hk4 : ∀ k, k < w3.heap.size → k ≠ E → w4.heap[k]? = w3.heap[k]? := fun k hk hne => by rw [← hw4]; exact (Below.heap_setCell _ ⟨E, 1, none⟩ _ k hne).trans ((Below.heap_setCell _ ⟨E, 0, none⟩ _ k hne).trans (Below.heap_alloc w3 _ k hk))
      have hM4 : Blk w4 M 3 (mtArr (metP fs bs N t 0) N) := (hk4 M (by omega) (fun e => hEM e.symm)).trans (HA.out.2.below H3.out.2.2.2.2.2.2.2.2.1 hlM)
      have hs4 : Sl Rfl w4 (fun b => b < w4.heap.size ∧ b ≠ M) A3 (atT t (allF fs bs N)) := by
        have h9 := H3.out.2.2.1
        rw [H3.out.1] at h9
        exact h9.keep (fun p hp => World.cell?_of_block (hk4 _ hp.2 (by have := hp.1; omega))) (fun b hb => ⟨by have := hb.2; omega, by have := hb.1; omega⟩)
      have hn4 : (atT t (allF fs bs N)).length = n3 := by rw [← H3.out.2.1, H3.out.1]
      have hn1000 : n3 ≤ 1000 := by
        rw [← hn4]
        have h1 := allF_len fs bs N
        have h2 : (atT (t : Int) (allF fs bs N)).length ≤ (allF fs bs N).length := List.length_filter_le _ _
        omega
      have hfs4 : Sl (Rint .i64) w4 (lo W) FA fs := HX.out.2.1.keep (fun p hp => hW4.bel.cell hp) (fun _ h => h)
      have hbs4 : Sl Rbd w4 (lo W) BA bs := HX.out.2.2.2.1.keep (fun p hp => hW4.bel.cell hp) (fun _ h => h)
      have H4 := Lib.hid (And.intro hW4 (And.intro hM4 (And.intro hs4 (And.intro hn4 (And.intro hfs4 hbs4)))))
      clear hW4 hM4 hs4 hn4 hfs4 hbs4 hk4 hbx hleft e0 e1 fE
      go_upto_block 4 with fail
      try rw [hcm]
      refine once_in w4 W M fs bs FA F fc BA N bc A3 n3 c3 t HX.out.1 H4.out.2.2.2.2.1 HX.out.2.2.1 H4.out.2.2.2.2.2 hWM H4.out.2.2.2.1 H4.out.2.2.1 H4.out.2.1 hN40 hF100 (by omega) hn1000 ?_
      intro d4 d13 d14 d76 d77 d78 d79 d80 d81 d82 d83 d84 d85 d86 d87 d88 d89 d90 d91 d92 d93 d94 d95 d96 d97 d98 d99 d100 d101 d102 d103 d104 d105 d106 d107 d108 d109 d110 d111 d112 d113 d114 d115 d116 d117 d118 d119 d120 d121 d122 d123 d124 d125 d126 d127 d128 d129 d130 d131 d132 d133 d134 d135 d136 d137 d138 d139 d140 d141 w5 hM5 hk5 hb5
      have H5 := Lib.hid (show OnW W w0 w5 E M A4 n4 c4 B4 m4 dF4 ⟨fromT ((t + 1 : Nat) : Int) (allF fs bs N), fs.drop N⟩ ∧ Blk w5 M 3 (mtArr (metP fs bs N ((t + 1 : Nat) : Int) 0) N) from
        ⟨H4.out.1.over hk5 hb5 hWM hEM, by
          rw [mtArr_congr (g' := metP fs bs N t n3) (fun i hi => by have h9 := met_next (fs := fs) (bs := bs) (N := N) (now := (t : Int)) (j := n3) (by omega) hi (by rw [H4.out.2.2.2.1]; exact Nat.le_refl _); exact h9.symm)]; exact hM5⟩)
      clear hM5 hk5 hb5 hw4 hcm
      go_wp2
      go_roundw
      case measure => simp [intOf]; omega
      case rel => exact ⟨t + 1, _, _, _, _, _, _, by omega, by go_num, H5⟩
    · obtain rfl : t = TT := by omega
      have dt : decide (t < t) = false := by simp
      have hend : fromT ((t : Nat) : Int) (allF fs bs N) = [] := by
        have h9 := from_end (fs := fs) (bs := bs) (k := N) (by omega)
        rw [show ((N : Int) + 20) = ((t : Nat) : Int) by have := HX.out.2.2.2.2.2; omega] at h9
        exact h9
      have hn0 : n = 0 := by rw [← HA.out.1.net.listN]; rw [hend]; rfl
      subst hn0
      have HM9 := Lib.hid (show Blk wi M 3 (mtArr (fun i => (partI fs bs i).length) N) from by
        rw [mtArr_congr (g' := metP fs bs N t 0) (fun i hi => by unfold metP; rw [met_end (by omega) (by have := HX.out.2.2.2.2.2; omega)]; simp)]; exact HA.out.2)
      go_wp2
      exact HK.out _ _ _ _ _ _ _ _ _ _ _ _ _ _ _ _ _ _ _ _ _ _ _ _ _ _ _ _ _ _ _ _ _ _ _ _ _ _ _ _ _ _ _ _ _ _ _ _ _ _ _ _ _ _ _ _ _ _ _ _ _ _ _ _ _ _ _ _ _ _ _ _ _ _ _ _ _ _ _ _ _ _ _ _ _ _ A c B m d _ HA.out.1.blk HM9.out HA.out.1.bel
end Go.Proofs.Ytponbodiibkopaa
