/-
  LinkNumbers: the loop over the items that are told.
-/
import Derived.Test.YtalieakmjkmbbaaNumA
namespace Go.Proofs.Ytalieakmjkmbbaa
open Go.RowKit Go.Sort
set_option linter.unusedVariables false

noncomputable def num_loop2_code : Code := blockOf Try.f5 2
set_option maxRecDepth 100000 in
set_option maxHeartbeats 4000000 in
theorem num_loop2 {Q : Exit → Act → World → Prop} {s1 s2 s3 s4 s5 s6 s7 s10 s11 s12 s13 s14 s15 s16 s17 s18 s19 s20 s21 s22 s23 s24 s25 s26 s27 s28 s29 s30 s31 s32 s33 s34 s35 s36 s37 s38 s39 s40 s41 s42 s43 s44 s45 s46 s47 s48 s49 s50 s51 s52 s53 s54 s55 s56 s57 s58 s59 s60 s61 s62 s63 s64 s65 s66 s67 s68 s69 s70 s71 s72 s73 s77 s78 s79 s80 s81 s82 s83 s84 s85 s86 s87 s88 s89 s90 s91 s92 s93 s94 s95 s96 s97 s98 s99 s100 s101 s102 s103 s104 s105 s106 s107 s108 s109 s110 s111 s112 s113 s114 s115 s116 s117 s118 s119 s120 s121 s122 s123 s124 s125 s126 s127 s128 s129 s130 s131 s132 s133 s134 s135 s136 : Value} (w : World) (bs : List (List Int)) (BA : Option Addr) (N cB nx k c : Nat) (T : Option Addr) (tc : Nat) (hbs : Sl Rbd w (lo w.heap.size) BA bs) (hN : bs.length = N) (hk : k + 1 ≤ N) (hc : nx + c ≤ k + 1) (hN4 : N ≤ 40)
    (hT : Sl Rit w (lo w.heap.size) T (numL nx k (((bs.take (k + 1)).drop nx).take c)))
    (hK : ∀ (d6 d16 d77 d78 d79 d80 d81 d82 d83 d84 d85 d86 d87 d88 d89 d90 d91 d92 d93 d94 d95 d96 d97 d98 d99 d100 d101 d102 d103 d104 d105 d106 d107 d108 : Value) (w' : World), Below w.heap.size w w' → Q .normal ⟨#[.slice BA N cB, s1, s2, s3, s4, s5, d6, s7, .int .i64 ((nx + c : Nat) : Int), .int .i64 k, s10, s11, s12, s13, s14, s15, d16, s17, s18, s19, s20, s21, s22, s23, s24, s25, s26, s27, s28, s29, s30, s31, s32, s33, s34, s35, s36, s37, s38, s39, s40, s41, s42, s43, s44, s45, s46, s47, s48, s49, s50, s51, s52, s53, s54, s55, s56, s57, s58, s59, s60, s61, s62, s63, s64, s65, s66, s67, s68, s69, s70, s71, s72, s73, .slice T c tc, .int .i64 c, .int .i64 c, d77, d78, d79, d80, d81, d82, d83, d84, d85, d86, d87, d88, d89, d90, d91, d92, d93, d94, d95, d96, d97, d98, d99, d100, d101, d102, d103, d104, d105, d106, d107, d108, s109, s110, s111, s112, s113, s114, s115, s116, s117, s118, s119, s120, s121, s122, s123, s124, s125, s126, s127, s128, s129, s130, s131, s132, s133, s134, s135, s136], []⟩ w') :
    Code.wp Try.prog num_loop2_code Q ⟨#[.slice BA N cB, s1, s2, s3, s4, s5, s6, s7, .int .i64 nx, .int .i64 k, s10, s11, s12, s13, s14, s15, s16, s17, s18, s19, s20, s21, s22, s23, s24, s25, s26, s27, s28, s29, s30, s31, s32, s33, s34, s35, s36, s37, s38, s39, s40, s41, s42, s43, s44, s45, s46, s47, s48, s49, s50, s51, s52, s53, s54, s55, s56, s57, s58, s59, s60, s61, s62, s63, s64, s65, s66, s67, s68, s69, s70, s71, s72, s73, .slice T c tc, .int .i64 c, .int .i64 0, s77, s78, s79, s80, s81, s82, s83, s84, s85, s86, s87, s88, s89, s90, s91, s92, s93, s94, s95, s96, s97, s98, s99, s100, s101, s102, s103, s104, s105, s106, s107, s108, s109, s110, s111, s112, s113, s114, s115, s116, s117, s118, s119, s120, s121, s122, s123, s124, s125, s126, s127, s128, s129, s130, s131, s132, s133, s134, s135, s136], []⟩ w := by
  have HK := Lib.hid hK; clear hK
  have HX := Lib.hid (And.intro hbs (And.intro hN hT)); clear hbs hN hT
  conv => arg 2; whnf
  go_wp2
  go_loopw [8, 76] (fun q i wr => ∃ j : Nat, j ≤ c ∧ i = .int .i64 j ∧ q = .int .i64 ((nx + j : Nat) : Int) ∧ Below w.heap.size w wr) (fun _ i _ => c - (intOf i).toNat)
  case atStart => exact ⟨0, Nat.zero_le _, rfl, rfl, Below.refl _ _⟩
  case round =>
    obtain ⟨j, hj, rfl, rfl, hbel0⟩ := hrel
    by_cases hlt : j < c
    · obtain ⟨b, hb, hL⟩ := num_get (bs := bs) (k := k + 1) (nx := nx) (c := c) (j := j) (by rw [HX.out.2.1]; exact hk) hc hlt (k : Int)
      obtain ⟨p, hp⟩ : ∃ p, nx + j = p := ⟨_, rfl⟩
      rw [show ((nx : Int) + (j : Int)) = (p : Int) by omega] at hL
      rw [hp] at hb ⊢
      have hpN : p < N := by omega
      obtain ⟨b', off', T', tn', tc', rfl, hlb, w1', w2', htn', hl', hm', hts', y0, y1, y2⟩ := (HX.out.2.2.below hbel0 hbel0.size).item hL
      obtain ⟨bb, boff, X, xn, xc, rfl, hlbb, hxn, _, _, hX, x0⟩ := (HX.out.1.below hbel0 hbel0.size).sub hb
      dsimp only at y0 y1 y2 htn' hts'
      have hb1 : RowKit.Below wr.heap.size wr (wr.alloc (.cells #[.int .i64 p, .slice T' tn' tc', .int .i64 k] 38)) := (Below.refl _ _).alloc (Nat.le_refl _) _
      have i0 := (Blk.new wr 38 #[.int .i64 p, .slice T' tn' tc', .int .i64 k] rfl).cell 0 (v := .int .i64 p) rfl
      have i1 := (Blk.new wr 38 #[.int .i64 p, .slice T' tn' tc', .int .i64 k] rfl).cell 1 (v := .slice T' tn' tc') rfl
      have i2 := (Blk.new wr 38 #[.int .i64 p, .slice T' tn' tc', .int .i64 k] rfl).cell 2 (v := .int .i64 k) rfl
      have x0' := (World.cell?_alloc_lt wr (.cells #[.int .i64 p, .slice T' tn' tc', .int .i64 k] 38) ⟨bb, boff + p, none⟩ hlbb).trans x0
      have hts2 := hts'.below hb1 hb1.size
      have hX2 := hX.below hb1 hb1.size
      have hbel : RowKit.Below w.heap.size w (wr.alloc (.cells #[.int .i64 p, .slice T' tn' tc', .int .i64 k] 38)) := hbel0.trans (hb1.mono hbel0.size)
      have d1 : decide (N ≤ p) = false := decide_eq_false (by omega)
      have HB := Lib.hid (And.intro hts2 (And.intro hX2 (And.intro htn' (And.intro hxn (And.intro hbel hp)))))
      have HI := Lib.hid (And.intro i0 (And.intro i1 (And.intro i2 x0')))
      clear hts2 hX2 htn' hxn hbel hts' hX hb1 hL hb w1' w2' hl' hm' hbel0 i0 i1 i2 x0' x0 hp
      go_upto_region 21 with fail
      clear y0 y1 y2
      generalize (wr.alloc (.cells #[.int .i64 p, .slice T' tn' tc', .int .i64 k] 38)) = wq at *
      have cS := fun d os => Calls.regrown_of ((same_any T' b tn' tc' HB.out.2.2.1 X b xn xc HB.out.2.2.2.1 (grow (redrawn wq d) os)
          (HB.out.1.below (below_regrown wq d os) (below_regrown wq d os).size) (HB.out.2.1.below (below_regrown wq d os) (below_regrown wq d os).size)).mono (fun e w' h => (⟨h.1, by rw [h.2]; exact Below.refl _ _⟩ : e = .returned (.bool (decide (b = b))) ∧ Below (grow (redrawn wq d) os).heap.size (grow (redrawn wq d) os) w')))
      rw [show decide (b = b) = true from decide_eq_true rfl] at cS
      have CS := Lib.hid cS; clear cS
      have k0 := cell_regrown HI.out.1; have k1 := cell_regrown HI.out.2.1; have k2 := cell_regrown HI.out.2.2.1; have k3 := cell_regrown HI.out.2.2.2
      refine wp_region_quiet_below (by kernel_rfl) (by kernel_rfl) ?_
      repeat (any_goals (first | go_big_quiet_step (with_reducible exact CS.out _ _) | quiet_step (with_reducible exact CS.out _ _)))
      refine wpQuiet_nil ?_
      intro _ hw'
      obtain ⟨⟨dq, osq⟩, hw''⟩ := hw'
      subst hw''
      have HBQ := Lib.hid (HB.out.2.2.2.2.1.trans ((below_regrown wq dq osq).mono HB.out.2.2.2.2.1.size))
      go_wp2
      go_roundw
      case measure => simp [intOf]; omega
      case rel => exact ⟨j + 1, by omega, by go_num, by have := HB.out.2.2.2.2.2; rw [show nx + (j + 1) = p + 1 by omega]; go_num, HBQ.out⟩
    · obtain rfl : j = c := by omega
      have HB := Lib.hid hbel0; clear hbel0
      go_wp2
      exact HK.out _ _ _ _ _ _ _ _ _ _ _ _ _ _ _ _ _ _ _ _ _ _ _ _ _ _ _ _ _ _ _ _ _ _ _ HB.out
end Go.Proofs.Ytalieakmjkmbbaa
