/-
  The reference's Take: its main loop, the walk.
-/
import Derived.Test.YtalieakmjkmbbaaRTakeB
namespace Go.Proofs.Ytalieakmjkmbbaa
open Go.RowKit Go.Sort Go.Maps
set_option linter.unusedVariables false

/-- What holds at the main loop's head. -/
structure RkW (w wr : World) (V W H R : Nat) (e : Int) (v vT : Value) (cur : List It) (told : List (List Int)) : Prop where
  hH : Blk wr H 24 #[.int .i64 e, v]
  own : Own Rit wr W 38 (lo V) v cur
  ownT : Own Rbd wr W 25 (lo V) vT told
  neH : v.ownBlock ≠ some H
  neT : vT.ownBlock ≠ some H
  neV : ∀ g, v.ownBlock = some g → vT.ownBlock ≠ some g
  hR : Blk wr R 24 #[.int .i64 0, .slice none 0 0]
  bel : Below W w wr
theorem RkW.up {w wr w2 : World} {V W H R : Nat} {e : Int} {v vT : Value} {cur : List It} {told : List (List Int)} (h : RkW w wr V W H R e v vT cur told) (hb : Below wr.heap.size wr w2) (hW : W ≤ wr.heap.size) (hVW : V ≤ W) : RkW w w2 V W H R e v vT cur told :=
  ⟨h.hH.below hb h.hH.lt, h.own.keep (fun g hg => hb.block g (h.own.lt hg).2) (fun p hp => hb.cell (by have : p.block < V := hp; omega)) (fun _ h => h), h.ownT.keep (fun g hg => hb.block g (h.ownT.lt hg).2) (fun p hp => hb.cell (by have : p.block < V := hp; omega)) (fun _ h => h), h.neH, h.neT, h.neV, h.hR.below hb h.hR.lt, h.bel.trans (hb.mono hW)⟩
/-- One more told. -/
theorem RkW.tell {w wr w2 w3 : World} {V W H R : Nat} {e : Int} {v vT vT' : Value} {cur : List It} {told told' : List (List Int)} (h : RkW w wr V W H R e v vT cur told) (hb : Below wr.heap.size wr w2) (hW : W ≤ wr.heap.size) (hVW : V ≤ W) (hg : w2.grownBy w3 vT.ownBlock) (ho : Own Rbd w3 W 25 (lo V) vT' told') (hv : vT'.ownBlock = vT.ownBlock ∨ vT'.ownBlock = some w2.heap.size) (hR : R < W) :
    RkW w w3 V W H R e v vT' cur told' := by
  have h2 := h.up hb hW hVW
  have z2 := hb.size
  have hk : ∀ k, k < w2.heap.size → vT.ownBlock ≠ some k → w3.heap[k]? = w2.heap[k]? := fun k hk hne => hg.block k hk (fun e => hne e.symm)
  have hH := h2.hH.lt
  have hRl := h2.hR.lt
  have hlow : ∀ k, k < W → vT.ownBlock ≠ some k := fun k hk e9 => by have := (h2.ownT.lt e9).1; omega
  have hs := h2.own
  refine ⟨(hk H hH h2.neT).trans h2.hH, h2.own.keep (fun g hg' => hk g (h2.own.lt hg').2 (h2.neV g hg')) (fun p hp => World.cell?_of_block (hk p.block (by have : p.block < V := hp; omega) (hlow _ (by have : p.block < V := hp; omega)))) (fun _ h => h), ho, h2.neH, ?_, fun g hg' => ?_, (hk R hRl (hlow R hR)).trans h2.hR, h2.bel.grown hg (by omega) (fun g hg' => (h2.ownT.lt hg').1)⟩
  · rcases hv with e9 | e9
    · rw [e9]; exact h2.neT
    · rw [e9]; intro e8; have := Option.some.inj e8; omega
  · have hgl := (h2.own.lt hg').2
    rcases hv with e9 | e9
    · rw [e9]; exact h2.neV g hg'
    · rw [e9]; intro e8; have := Option.some.inj e8; omega
/-- One held less, and the next number. -/
theorem RkW.less {w wr w3 : World} {V W H R : Nat} {e e' : Int} {v v' vT : Value} {cur cur' : List It} {told : List (List Int)} (h : RkW w wr V W H R e v vT cur told) (hHb : Blk w3 H 24 #[.int .i64 e, v']) (ho : Own Rit w3 W 38 (lo V) v' cur') (hv : ∀ k, v'.ownBlock = some k → wr.heap.size ≤ k) (hk : ∀ k, k < wr.heap.size → k ≠ H → w3.heap[k]? = wr.heap[k]?) (hb3 : Below W wr w3) (hWH : W ≤ H) (hR : R < W) (hVR : V ≤ R) :
    RkW w (w3.setCell ⟨H, 0, none⟩ (.int .i64 e')) V W H R e' v' vT cur' told := by
  have hH := h.hH.lt
  have hRl := h.hR.lt
  have hT := h.ownT
  have hne : ∀ g, v'.ownBlock = some g → g ≠ H := fun g hg e9 => by have := hv g hg; omega
  refine ⟨hHb.set 0 _, ho.keep (fun g hg => Below.heap_setCell w3 ⟨H, 0, none⟩ _ g (hne g hg)) (fun p hp => World.cell?_setCell_other w3 ⟨H, 0, none⟩ p _ (fun e9 => by have h8 := congrArg Addr.block e9; have h9 : p.block < V := hp; simp at h8; omega)) (fun _ h => h), ?_, fun e9 => hne H e9 rfl, h.neT, fun g hg e9 => ?_, ?_, (h.bel.trans hb3).setCell (p := ⟨H, 0, none⟩) hWH _⟩
  · refine h.ownT.keep (fun g hg => (Below.heap_setCell w3 ⟨H, 0, none⟩ _ g (fun e9 => h.neT (by rw [hg]; exact congrArg some e9))).trans (hk g (h.ownT.lt hg).2 (fun e9 => h.neT (by rw [hg, e9])))) (fun p hp => ?_) (fun _ h => h)
    have h9 : p.block < V := hp
    exact World.cell?_of_block ((Below.heap_setCell w3 ⟨H, 0, none⟩ _ p.block (by show p.block ≠ H; omega)).trans (hk _ (by omega) (by omega)))
  · have := (h.ownT.lt e9).2
    have := hv g hg
    omega
  · exact (Below.heap_setCell w3 ⟨H, 0, none⟩ _ R (by show R ≠ H; omega)).trans ((hk R hRl (by omega)).trans h.hR)
noncomputable def rt_main_code : Code := blockOf Try.f11 2
set_option maxRecDepth 100000 in
set_option maxHeartbeats 4000000 in
theorem rt_main {Q : Exit → Act → World → Prop} {s0 s1 s2 s3 s4 s5 s6 s7 s9 s10 s12 s13 s14 s16 s17 s18 s19 s20 s21 s22 s23 s24 s25 s26 s27 s28 s29 s30 s31 s32 s33 s34 s35 s36 s37 s38 s39 s40 s41 s42 s43 s44 s45 s46 s47 s48 s49 s50 s51 s52 s53 s54 s55 s56 s57 s58 s59 s60 s61 s62 s63 s64 s65 s66 s67 s68 s69 s70 s71 s72 s73 s74 s75 s76 s77 s78 s79 s80 s81 s82 s83 s84 s85 s86 s87 s88 s89 s90 s91 s92 s93 s94 s95 s96 s97 s98 s99 s100 s101 s102 s103 s104 s105 s106 s107 s108 s109 s110 s111 s112 s113 : Value} (w : World) (V W H R n : Nat) (e0 : Int) (v : Value) (xs : List It) (hA : RkW w w V W H R e0 v (.slice none 0 0) xs []) (hn : xs.length = n) (hz : n ≤ 3518437208883) (hWH : W ≤ H) (hRW : R < W) (hVR : V ≤ R) (h1 : -9223372036854775808 ≤ e0) (h2 : e0 ≤ 9223372036854775807)
    (hK : ∀ (d16 d17 d18 d64 d65 d66 d67 d68 d69 d70 d71 d72 d73 d74 d75 d76 d77 d78 d79 d80 d81 d82 d83 d84 d85 d86 d87 d88 d89 d90 d91 d92 d93 d94 d95 d96 d97 d98 d99 d100 d101 d102 d103 d104 d105 d106 d107 d108 d109 d110 d111 d112 d113 : Value) (e : Int) (A : Option Addr) (m c : Nat) (vT : Value) (cur : List It) (told : List (List Int)) (wr w' : World), takeGo n xs e0 = (cur, told, e) → RkW w wr V W H R e (.slice A m c) vT cur told → cur.length = m → Blk w' R 24 #[.int .i64 e, .slice A m c] → (∀ k, k < wr.heap.size → k ≠ R → w'.heap[k]? = wr.heap[k]?) → Below R wr w' →
      Q .ret ⟨#[s0, s1, s2, s3, s4, s5, s6, s7, .pointer (some ⟨R, 0, none⟩), vT, .int .i64 e, .pointer (some ⟨H, 0, none⟩), s12, s13, s14, vT, d16, d17, d18, s19, s20, s21, s22, s23, s24, s25, s26, s27, s28, s29, s30, s31, s32, s33, s34, s35, s36, s37, s38, s39, s40, s41, s42, s43, s44, s45, s46, s47, s48, s49, s50, s51, s52, s53, s54, s55, s56, s57, s58, s59, s60, s61, s62, s63, d64, d65, d66, d67, d68, d69, d70, d71, d72, d73, d74, d75, d76, d77, d78, d79, d80, d81, d82, d83, d84, d85, d86, d87, d88, d89, d90, d91, d92, d93, d94, d95, d96, d97, d98, d99, d100, d101, d102, d103, d104, d105, d106, d107, d108, d109, d110, d111, d112, d113], []⟩ w') :
    Code.wp Try.prog rt_main_code Q ⟨#[s0, s1, s2, s3, s4, s5, s6, s7, .pointer (some ⟨R, 0, none⟩), s9, s10, .pointer (some ⟨H, 0, none⟩), s12, s13, s14, .slice none 0 0, s16, s17, s18, s19, s20, s21, s22, s23, s24, s25, s26, s27, s28, s29, s30, s31, s32, s33, s34, s35, s36, s37, s38, s39, s40, s41, s42, s43, s44, s45, s46, s47, s48, s49, s50, s51, s52, s53, s54, s55, s56, s57, s58, s59, s60, s61, s62, s63, s64, s65, s66, s67, s68, s69, s70, s71, s72, s73, s74, s75, s76, s77, s78, s79, s80, s81, s82, s83, s84, s85, s86, s87, s88, s89, s90, s91, s92, s93, s94, s95, s96, s97, s98, s99, s100, s101, s102, s103, s104, s105, s106, s107, s108, s109, s110, s111, s112, s113], []⟩ w := by
  have HK := Lib.hid hK; clear hK
  obtain ⟨A0, c0, rfl⟩ := hA.own.form
  have H0 := Lib.hid (And.intro hA hn)
  clear hA hn
  conv => arg 2; whnf
  go_wp2
  go_loopw [15] (fun vT wr => ∃ r e cur told A c, expAt e0 r = e ∧ RkW w wr V W H R e (.slice A cur.length c) vT cur told ∧ RkP xs e0 r cur told) (fun vT _ => n + 1 - lenOf vT)
  case atStart => exact ⟨0, e0, xs, [], A0, c0, rfl, H0.out.1, RkP.start xs e0⟩
  case round =>
    obtain ⟨wr, rfl⟩ : ∃ wx : World, wx = wr := ⟨_, rfl⟩
    obtain ⟨r, e, cur, told, A, c, he, hA, hP⟩ := hrel
    obtain ⟨tA, tc, rfl⟩ := hA.ownT.form
    rw [hP.tl] at hA ⊢
    obtain ⟨N, hN⟩ : ∃ N, cur.length = N := ⟨_, rfl⟩
    rw [hN] at hA
    have hwf := expAt_wf h1 h2 r
    rw [he] at hwf
    have hNn : N + r = n := by (have h9 := hP.cnt; rw [hN, H0.out.2] at h9; exact h9)
    have c1 := hA.hH.cell 1 (v := .slice A N c) rfl
    have hlH := hA.hH.lt
    have hWr : W ≤ wr.heap.size := by omega
    have HA := Lib.hid (And.intro hA (And.intro hP (And.intro he (And.intro hN hwf))))
    clear hA hP he hN hwf
    go_upto_block 4 with fail
    refine rt_find wr V W H _ e A N c cur HA.out.2.2.2.1 HA.out.1.own (by omega) (by omega) HA.out.1.hH ?_
    intro d17 d18 d68 d69 d70 d71 d72 d73 d74 d75 d76 d77 d78 d79 d80 d81 d82 w2 hb2
    have hA2 := HA.out.1.up hb2 hWr (by omega)
    have hz2 := hb2.size
    have hlH2 : H < w2.heap.size := by omega
    obtain ⟨o, ho⟩ : ∃ o, firstF cur e = o := ⟨_, rfl⟩
    rw [ho]
    cases o with
    | none =>
      have HA2 := Lib.hid hA2
      have HS := Lib.hid (HA.out.2.1.stop (firstF_none (by rw [HA.out.2.2.1]; exact ho)))
      clear hA2 ho hb2 c1
      simp only [Option.getD_none]
      go_upto_region 19 with fail
      refine rt_r19 w2 R R H e A N c _ HA2.out.hH HA2.out.hR (Nat.le_refl _) (by omega) ?_
      intro d85 d86 d87 d88 w3 hR3 hf3 hb3
      have H3 := Lib.hid (And.intro hR3 (And.intro hf3 hb3))
      clear hR3 hf3 hb3
      go_wp2
      exact HK.out _ _ _ _ _ _ _ _ _ _ _ _ _ _ _ _ _ _ _ _ _ _ _ _ _ _ _ _ _ _ _ _ _ _ _ _ _ _ _ _ _ _ _ _ _ _ _ _ _ _ _ _ _ e A N c _ cur told w2 w3 (by rw [← HA.out.2.2.1, ← H0.out.2]; exact HS.out) HA2.out HA.out.2.2.2.1 H3.out.1 H3.out.2.1 H3.out.2.2
    | some v' =>
      obtain ⟨p, rfl, hp⟩ := firstF_some ho
      rw [← HA.out.2.2.1] at hp
      obtain ⟨y, hy, hrn, hpl, hP'⟩ := HA.out.2.1.step hp
      obtain ⟨g, T', tn', tc', rfl, w1, w2', htn', hl', hm', hts', y0, y1, y2, hWg, hgl, _, hNc⟩ := hA2.own.item hy
      rw [HA.out.2.2.2.1] at hpl
      rw [H0.out.2] at hrn
      have d1 := hA2.hH.cell 1 (v := .slice (some ⟨g, 0, none⟩) N c) rfl
      have hgH : g ≠ H := fun e9 => hA2.neH (by rw [e9]; rfl)
      have hbT := hA2.bel
      have HA2 := Lib.hid (And.intro hA2 (And.intro hP' (And.intro htn' (And.intro hl' (And.intro hm' hts')))))
      clear hA2 hP' htn' hl' hm' hts' ho hb2 c1 hy hp w1 w2' hbT
      simp only [Option.getD_some]
      have hlow : ∀ k, k < W → (Value.slice tA r tc).ownBlock ≠ some k := fun k hk e9 => by have := (HA2.out.1.ownT.lt e9).1; omega
      have HL := Lib.hid hlow
      clear hlow
      go_upto_region 21 with (at_builtin
                              go_loud (skip
                                       refine wpList_append_own' _ rfl (.tmp 89) (.tmp 96) _ rfl ei_bodies' _ rfl (HA2.out.1.ownT.alloc (fun b hb => by have : b < V := hb; omega) _) (fun b hb => ⟨by have : b < V := hb; simp; omega, HL.out b (by have : b < V := hb; omega)⟩) (some _) 1 1 (ys := [y.body]) rfl rfl (cellsNew (by simp)) (Elems.one (R := Rbd) (x := y.body) ⟨T', tc', by rw [HA2.out.2.2.1], by rw [HA2.out.2.2.1]; exact HA2.out.2.2.2.1, HA2.out.2.2.2.2.1, HA2.out.2.2.2.2.2.keep (fun q hq => World.cell?_alloc_lt _ _ _ (by have : q.block < V := hq; omega)) (fun _ h => h)⟩) (by rw [HA.out.2.1.tl]; exact lim24 (by omega)) (by rw [HA.out.2.1.tl]; simp only [maxLen]; omega) (by simp; omega) ?_
                                       intro vT' w5 hox hg1 hat1
                                       have HT := Lib.hid (HA2.out.1.tell ((Below.refl _ _).alloc (Nat.le_refl _) _) (by omega) (by omega) hg1 hox hat1 hRW)
                                       have HTL := Lib.hid (show ∃ qA qc, vT' = .slice qA (r + 1) qc from by
                                         obtain ⟨qA, qc, hq⟩ := hox.form
                                         rw [List.length_append, HA.out.2.1.tl] at hq
                                         exact ⟨qA, qc, hq⟩)
                                       clear hox hg1 hat1))
      refine rt_r21 w5 V W H g p N c e cur HT.out.hH HT.out.own HA.out.2.2.2.1 hpl hNc hgH hWH (by omega) (by omega) ?_
      intro d98 d99 d100 d101 d102 d103 d104 d105 d106 d107 d108 d109 A2 c2 w6 hH6 ho6 hv6 hk6 hb6
      have e0' := hH6.cell 0 (v := .int .i64 e) rfl
      have fE := hH6.frozen
      have HL6 := HT.out.less (e' := wrap64 (e + 1)) hH6 ho6 hv6 hk6 hb6 hWH hRW hVR
      have H6 := Lib.hid HL6
      clear hH6 ho6 hv6 hk6 hb6 HL6 d1 y0 y1 y2
      obtain ⟨qA, qc, rfl⟩ := HTL.out
      go_wp2
      go_roundw
      case measure => simp [lenOf]; omega
      case rel =>
        have h9 : (cur.take p ++ cur.drop (p + 1)).length = N - 1 := by have := HA.out.2.2.2.1; rw [List.length_append, List.length_take, List.length_drop]; omega
        refine ⟨r + 1, _, _, _, A2, c2, by show succE (expAt e0 r) = _; rw [HA.out.2.2.1], ?_, HA2.out.2.1⟩
        rw [h9]
        exact H6.out
end Go.Proofs.Ytalieakmjkmbbaa
