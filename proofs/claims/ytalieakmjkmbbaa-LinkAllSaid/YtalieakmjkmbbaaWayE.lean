/-
  The way's method step: an item comes; an answer comes.
-/
import Derived.Test.YtalieakmjkmbbaaWayD
import Derived.Test.YtalieakmjkmbbaaRTakeB
namespace Go.Proofs.Ytalieakmjkmbbaa
open Go.RowKit Go.Sort
set_option linter.unusedVariables false
set_option linter.unusedSimpArgs false
attribute [local go_sem ↓] Go.wp_at_zero Go.wp_at_succ

noncomputable def step_r14_code : Code := regionOf Try.f20 14
set_option maxRecDepth 100000 in
set_option maxHeartbeats 4000000 in
theorem step_r14 {Q : Exit → Act → World → Prop} {s1 s2 s3 s5 s6 s7 s8 s9 s10 s11 s12 s13 s14 s15 s16 s17 s18 s19 s20 s21 s22 s23 s24 s25 s26 s27 s28 s29 s30 s31 s32 s33 s34 s35 s36 s37 s38 s39 s40 s41 s42 s43 s44 s45 s46 s47 s48 s49 s50 s51 s52 s53 s54 s55 s56 s57 s58 s59 s60 s61 s62 s63 s64 s65 s66 s67 s68 s69 s70 s71 s72 s73 s74 s75 s76 s77 s78 s79 s80 s81 s82 s83 s84 s85 s86 s87 s88 s89 s90 s91 s92 s93 s94 s95 s96 s97 s98 s99 s100 s101 s102 s103 s104 s105 s106 s107 s108 s109 s110 s111 s112 s113 s114 s115 s116 s117 s118 s119 s120 s121 s122 s123 s124 s125 s126 s127 s128 s129 s130 s131 s132 s133 s134 s135 s136 s137 s138 s139 s140 s141 s142 : Value} (w : World) (P g nL cL jn : Nat) (k : Int) (R : World → Prop) (sq tm : Int) (T : Option Addr) (tn tc : Nat) (hP : P < w.heap.size) (p5 : w.cell? ⟨P, 5, none⟩ = some (.slice (some ⟨g, 0, none⟩) nL cL)) (y0 : w.cell? ⟨g, jn * 3, none⟩ = some (.int .i64 sq)) (y1 : w.cell? ⟨g, jn * 3 + 1, none⟩ = some (.slice T tn tc)) (y2 : w.cell? ⟨g, jn * 3 + 2, none⟩ = some (.int .i64 tm)) (hk : 0 ≤ k) (hk2 : k ≤ 9223372036854775807) (hnL : 0 < nL) (hnL2 : nL ≤ 1000000) (hj : k % nL = jn) (hjn : jn < nL)
    (hC : ∀ w', RowKit.Below w.heap.size w w' → Calls Try.prog 22 #[.pointer (some ⟨P, 0, none⟩), .agg #[.int .i64 sq, .slice T tn tc, .int .i64 tm]] w' fun en w2 => (∃ v, en = .returned v) ∧ R w2) (hR : ∀ w', R w' → P < w'.heap.size)
    (hK : ∀ (d105 d106 d107 d108 d109 d110 d111 d112 d113 d114 d115 d116 d117 d118 d119 : Value) (w' : World), R w' → Q .normal ⟨#[.pointer (some ⟨P, 0, none⟩), s1, s2, s3, .int .i64 k, s5, s6, s7, s8, s9, s10, s11, s12, s13, s14, s15, s16, s17, s18, s19, s20, s21, s22, s23, s24, s25, s26, s27, s28, s29, s30, s31, s32, s33, s34, s35, s36, s37, s38, s39, s40, s41, s42, s43, s44, s45, s46, s47, s48, s49, s50, s51, s52, s53, s54, s55, s56, s57, s58, s59, s60, s61, s62, s63, s64, s65, s66, s67, s68, s69, s70, s71, s72, s73, s74, s75, s76, s77, s78, s79, s80, s81, s82, s83, s84, s85, s86, s87, s88, s89, s90, s91, s92, s93, s94, s95, s96, s97, s98, s99, s100, s101, s102, s103, s104, d105, d106, d107, d108, d109, d110, d111, d112, d113, d114, d115, d116, d117, d118, d119, s120, s121, s122, s123, s124, s125, s126, s127, s128, s129, s130, s131, s132, s133, s134, s135, s136, s137, s138, s139, s140, s141, s142], []⟩ w') :
    Code.wp Try.prog step_r14_code Q ⟨#[.pointer (some ⟨P, 0, none⟩), s1, s2, s3, .int .i64 k, s5, s6, s7, s8, s9, s10, s11, s12, s13, s14, s15, s16, s17, s18, s19, s20, s21, s22, s23, s24, s25, s26, s27, s28, s29, s30, s31, s32, s33, s34, s35, s36, s37, s38, s39, s40, s41, s42, s43, s44, s45, s46, s47, s48, s49, s50, s51, s52, s53, s54, s55, s56, s57, s58, s59, s60, s61, s62, s63, s64, s65, s66, s67, s68, s69, s70, s71, s72, s73, s74, s75, s76, s77, s78, s79, s80, s81, s82, s83, s84, s85, s86, s87, s88, s89, s90, s91, s92, s93, s94, s95, s96, s97, s98, s99, s100, s101, s102, s103, s104, s105, s106, s107, s108, s109, s110, s111, s112, s113, s114, s115, s116, s117, s118, s119, s120, s121, s122, s123, s124, s125, s126, s127, s128, s129, s130, s131, s132, s133, s134, s135, s136, s137, s138, s139, s140, s141, s142], []⟩ w := by
  have HK := Lib.hid hK; clear hK
  have HC := Lib.hid hC; clear hC
  have HR := Lib.hid hR; clear hR
  have ht3 : k.tmod (nL : Int) = (jn : Int) := by rw [Int.tmod_eq_emod_of_nonneg hk]; exact hj
  have ht1 : IntKind.i64.wrap (k.tmod (nL : Int)) = (jn : Int) := by rw [ht3, IntKind.wrap_i64]; omega
  have hnz : ¬ (nL : Int) = 0 := by omega
  have hnz2 : ¬ nL = 0 := by omega
  conv => arg 2; whnf
  refine wp_region_noPanic ?_
  refine wp_region_held_drew (S := (fun w' => P < w'.heap.size)) (by kernel_rfl) ?_ (fun hHeld0 => ?_)
  · (try dsimp only)
    (first | (with_reducible assumption) | (go_keep; done) | omega | (simp; omega))
  refine wpAnyH_take (i := 0) (oi := _) (v := ?v1) rfl (by kernel_rfl) (by kernel_rfl) (by kernel_rfl) (fun _ _ _ h => h) (Or.inl ⟨by rfl, ?hy1⟩) (by with_reducible assumption) ?rest1
  case hy1 => (intro w hSw; (try dsimp only at hSw); go_simp; try with_reducible rfl)
  try simp only [Act.put, List.setIfInBounds_toArray, List.set_cons_zero, List.set_cons_succ]
  refine wpAnyH_take (i := 1) (oi := _) (v := ?v2) rfl (by kernel_rfl) (by kernel_rfl) (by kernel_rfl) (fun _ _ _ h => h) (Or.inl ⟨by rfl, ?hy2⟩) (by with_reducible assumption) ?rest2
  case hy2 => (intro w hSw; (try dsimp only at hSw); go_simp; try with_reducible rfl)
  try simp only [Act.put, List.setIfInBounds_toArray, List.set_cons_zero, List.set_cons_succ]
  refine wpAnyH_take (i := 2) (oi := _) (v := ?v3) rfl (by kernel_rfl) (by kernel_rfl) (by kernel_rfl) (fun _ _ _ h => h) (Or.inl ⟨by rfl, ?hy3⟩) (by with_reducible assumption) ?rest3
  case hy3 => (intro w hSw; (try dsimp only at hSw); go_simp; try with_reducible rfl)
  try simp only [Act.put, List.setIfInBounds_toArray, List.set_cons_zero, List.set_cons_succ]
  refine wpAnyH_take (i := 3) (oi := _) (v := ?v4) rfl (by kernel_rfl) (by kernel_rfl) (by kernel_rfl) (fun _ _ _ h => h) (Or.inl ⟨by rfl, ?hy4⟩) (by with_reducible assumption) ?rest4
  case hy4 => (intro w hSw; (try dsimp only at hSw); go_simp; try with_reducible rfl)
  try simp only [Act.put, List.setIfInBounds_toArray, List.set_cons_zero, List.set_cons_succ]
  refine wpAnyH_take (i := 5) (oi := _) (v := ?v5) rfl (by kernel_rfl) (by kernel_rfl) (by kernel_rfl) (fun _ _ _ h => h) (Or.inl ⟨by rfl, ?hy5⟩) (by with_reducible assumption) ?rest5
  case hy5 => (intro w hSw; (try dsimp only at hSw); go_simp; try with_reducible rfl)
  try simp only [Act.put, List.setIfInBounds_toArray, List.set_cons_zero, List.set_cons_succ]
  refine wpAnyH_take (i := 6) (oi := _) (v := ?v6) rfl (by kernel_rfl) (by kernel_rfl) (by kernel_rfl) (fun _ _ _ h => h) (Or.inl ⟨by rfl, ?hy6⟩) (by with_reducible assumption) ?rest6
  case hy6 => (intro w hSw; (try dsimp only at hSw); go_simp; try with_reducible rfl)
  try simp only [Act.put, List.setIfInBounds_toArray, List.set_cons_zero, List.set_cons_succ]
  refine wpAnyH_take (i := 7) (oi := _) (v := ?v7) rfl (by kernel_rfl) (by kernel_rfl) (by kernel_rfl) (fun _ _ _ h => h) (Or.inl ⟨by rfl, ?hy7⟩) (by with_reducible assumption) ?rest7
  case hy7 => (intro w hSw; (try dsimp only at hSw); go_simp; try with_reducible rfl)
  try simp only [Act.put, List.setIfInBounds_toArray, List.set_cons_zero, List.set_cons_succ]
  refine wpAnyH_take (i := 8) (oi := _) (v := ?v8) rfl (by kernel_rfl) (by kernel_rfl) (by kernel_rfl) (fun _ _ _ h => h) (Or.inl ⟨by rfl, ?hy8⟩) (by with_reducible assumption) ?rest8
  case hy8 => (intro w hSw; (try dsimp only at hSw); go_simp; try with_reducible rfl)
  try simp only [Act.put, List.setIfInBounds_toArray, List.set_cons_zero, List.set_cons_succ]
  refine wpAnyH_ready (rs := [4, 9]) (by kernel_rfl) (by simp) ?_
  refine (AllReadyH.cons (o := _) rfl (fun K hK => ?_) (AllReadyH.cons (o := _) rfl (fun K hK => ?_) AllReadyH.nil))
  · skip
    go_simp
    refine hK.out _ _ ?_ (fun hHeld9 => ?_)
    · (try dsimp only)
      (first | (with_reducible assumption) | (go_keep; done) | omega | (simp; omega))
    clear hK K hHeld0
    try simp only [Act.put, List.setIfInBounds_toArray, List.set_cons_zero, List.set_cons_succ]
    refine wpAnyH_ready (rs := [9]) (by kernel_rfl) (by simp) ?_
    refine (AllReadyH.cons (o := _) rfl (fun K hK => ?_) AllReadyH.nil)
    go_simp
    refine hK.out _ _ ?_ (fun hHeld10 => ?_)
    · (try dsimp only)
      (first | (with_reducible assumption) | (go_keep; done) | omega | (simp; omega))
    clear hK K hHeld9
    try simp only [Act.put, List.setIfInBounds_toArray, List.set_cons_zero, List.set_cons_succ]
    refine wpAnyH_take (i := 10) (oi := _) (v := ?v11) rfl (by kernel_rfl) (by kernel_rfl) (by kernel_rfl) (fun _ _ _ h => h) (Or.inl ⟨by rfl, ?hy11⟩) (by with_reducible assumption) ?rest11
    case hy11 => (intro w hSw; (try dsimp only at hSw); go_simp; try with_reducible rfl)
    try simp only [Act.put, List.setIfInBounds_toArray, List.set_cons_zero, List.set_cons_succ]
    refine wpAnyH_take (i := 11) (oi := _) (v := ?v12) rfl (by kernel_rfl) (by kernel_rfl) (by kernel_rfl) (fun _ _ _ h => h) (Or.inl ⟨by rfl, ?hy12⟩) (by with_reducible assumption) ?rest12
    case hy12 => (intro w hSw; (try dsimp only at hSw); go_simp; try with_reducible rfl)
    try simp only [Act.put, List.setIfInBounds_toArray, List.set_cons_zero, List.set_cons_succ]
    refine wpAnyH_take (i := 12) (oi := _) (v := ?v13) rfl (by kernel_rfl) (by kernel_rfl) (by kernel_rfl) (fun _ _ _ h => h) (Or.inl ⟨by rfl, ?hy13⟩) (by with_reducible assumption) ?rest13
    case hy13 => (intro w hSw; (try dsimp only at hSw); go_simp; try with_reducible rfl)
    try simp only [Act.put, List.setIfInBounds_toArray, List.set_cons_zero, List.set_cons_succ]
    refine wpAnyH_ready (rs := [13]) (by kernel_rfl) (by simp) ?_
    refine (AllReadyH.cons (o := _) rfl (fun K hK => ?_) AllReadyH.nil)
    go_simp
    refine hK.out _ _ ?_ (fun hHeld14 => ?_)
    · (try dsimp only)
      (first | (with_reducible assumption) | (go_keep; done) | omega | (simp; omega))
    clear hK K hHeld10
    try simp only [Act.put, List.setIfInBounds_toArray, List.set_cons_zero, List.set_cons_succ]
    refine wpAnyH_ready (rs := [14]) (by kernel_rfl) (by simp) ?_
    refine (AllReadyH.cons (o := _) rfl (fun K hK => ?_) AllReadyH.nil)
    go_simp
    refine (HC.out _ (Below.refl _ _).drew).mono ?_
    rintro en w1 ⟨⟨v, rfl⟩, hR1⟩
    have z1 := HR.out w1 hR1
    have H1 := Lib.hid hR1
    clear hR1
    try dsimp only
    refine hK.out _ _ ?_ (fun hHeld15 => ?_)
    · (try dsimp only)
      (first | (with_reducible assumption) | (go_keep; done) | omega | (simp; omega))
    clear hK K hHeld14
    try simp only [Act.put, List.setIfInBounds_toArray, List.set_cons_zero, List.set_cons_succ]
    refine wpAnyH_done (by kernel_rfl) ?_ _
    refine NoPanic.normal ?_
    clear hHeld15
    exact HK.out _ _ _ _ _ _ _ _ _ _ _ _ _ _ _ _ H1.out
  · skip
    go_simp
    refine hK.out _ _ ?_ (fun hHeld16 => ?_)
    · (try dsimp only)
      (first | (with_reducible assumption) | (go_keep; done) | omega | (simp; omega))
    clear hK K hHeld0
    try simp only [Act.put, List.setIfInBounds_toArray, List.set_cons_zero, List.set_cons_succ]
    refine wpAnyH_take (i := 10) (oi := _) (v := ?v17) rfl (by kernel_rfl) (by kernel_rfl) (by kernel_rfl) (fun _ _ _ h => h) (Or.inl ⟨by rfl, ?hy17⟩) (by with_reducible assumption) ?rest17
    case hy17 => (intro w hSw; (try dsimp only at hSw); go_simp; try with_reducible rfl)
    try simp only [Act.put, List.setIfInBounds_toArray, List.set_cons_zero, List.set_cons_succ]
    refine wpAnyH_take (i := 11) (oi := _) (v := ?v18) rfl (by kernel_rfl) (by kernel_rfl) (by kernel_rfl) (fun _ _ _ h => h) (Or.inl ⟨by rfl, ?hy18⟩) (by with_reducible assumption) ?rest18
    case hy18 => (intro w hSw; (try dsimp only at hSw); go_simp; try with_reducible rfl)
    try simp only [Act.put, List.setIfInBounds_toArray, List.set_cons_zero, List.set_cons_succ]
    refine wpAnyH_ready (rs := [4]) (by kernel_rfl) (by simp) ?_
    refine (AllReadyH.cons (o := _) rfl (fun K hK => ?_) AllReadyH.nil)
    go_simp
    refine hK.out _ _ ?_ (fun hHeld19 => ?_)
    · (try dsimp only)
      (first | (with_reducible assumption) | (go_keep; done) | omega | (simp; omega))
    clear hK K hHeld16
    try simp only [Act.put, List.setIfInBounds_toArray, List.set_cons_zero, List.set_cons_succ]
    refine wpAnyH_take (i := 12) (oi := _) (v := ?v20) rfl (by kernel_rfl) (by kernel_rfl) (by kernel_rfl) (fun _ _ _ h => h) (Or.inl ⟨by rfl, ?hy20⟩) (by with_reducible assumption) ?rest20
    case hy20 => (intro w hSw; (try dsimp only at hSw); go_simp; try with_reducible rfl)
    try simp only [Act.put, List.setIfInBounds_toArray, List.set_cons_zero, List.set_cons_succ]
    refine wpAnyH_ready (rs := [13]) (by kernel_rfl) (by simp) ?_
    refine (AllReadyH.cons (o := _) rfl (fun K hK => ?_) AllReadyH.nil)
    go_simp
    refine hK.out _ _ ?_ (fun hHeld21 => ?_)
    · (try dsimp only)
      (first | (with_reducible assumption) | (go_keep; done) | omega | (simp; omega))
    clear hK K hHeld19
    try simp only [Act.put, List.setIfInBounds_toArray, List.set_cons_zero, List.set_cons_succ]
    refine wpAnyH_ready (rs := [14]) (by kernel_rfl) (by simp) ?_
    refine (AllReadyH.cons (o := _) rfl (fun K hK => ?_) AllReadyH.nil)
    go_simp
    refine (HC.out _ (Below.refl _ _).drew).mono ?_
    rintro en w1 ⟨⟨v, rfl⟩, hR1⟩
    have z1 := HR.out w1 hR1
    have H1 := Lib.hid hR1
    clear hR1
    try dsimp only
    refine hK.out _ _ ?_ (fun hHeld22 => ?_)
    · (try dsimp only)
      (first | (with_reducible assumption) | (go_keep; done) | omega | (simp; omega))
    clear hK K hHeld21
    try simp only [Act.put, List.setIfInBounds_toArray, List.set_cons_zero, List.set_cons_succ]
    refine wpAnyH_done (by kernel_rfl) ?_ _
    refine NoPanic.normal ?_
    clear hHeld22
    exact HK.out _ _ _ _ _ _ _ _ _ _ _ _ _ _ _ _ H1.out
noncomputable def step_r17_code : Code := regionOf Try.f20 17
set_option maxRecDepth 100000 in
set_option maxHeartbeats 4000000 in
theorem step_r17 {Q : Exit → Act → World → Prop} {s1 s2 s3 s5 s6 s7 s8 s9 s10 s11 s12 s13 s14 s15 s16 s17 s18 s19 s20 s21 s22 s23 s24 s25 s26 s27 s28 s29 s30 s31 s32 s33 s34 s35 s36 s37 s38 s39 s40 s41 s42 s43 s44 s45 s46 s47 s48 s49 s50 s51 s52 s53 s54 s55 s56 s57 s58 s59 s60 s61 s62 s63 s64 s65 s66 s67 s68 s69 s70 s71 s72 s73 s74 s75 s76 s77 s78 s79 s80 s81 s82 s83 s84 s85 s86 s87 s88 s89 s90 s91 s92 s93 s94 s95 s96 s97 s98 s99 s100 s101 s102 s103 s104 s105 s106 s107 s108 s109 s110 s111 s112 s113 s114 s115 s116 s117 s118 s119 s120 s121 s122 s123 s124 s125 s126 s127 s128 s129 s130 s131 s132 s133 s134 s135 s136 s137 s138 s139 s140 s141 s142 : Value} (w : World) (P g nL cL jn : Nat) (k : Int) (R : World → Prop) (n : Int) (hP : P < w.heap.size) (p5 : w.cell? ⟨P, 6, none⟩ = some (.slice (some ⟨g, 0, none⟩) nL cL)) (y0 : w.cell? ⟨g, jn, none⟩ = some (.int .i64 n)) (hk : 0 ≤ k) (hk2 : k ≤ 9223372036854775807) (hnL : 0 < nL) (hnL2 : nL ≤ 1000000) (hj : k % nL = jn) (hjn : jn < nL)
    (hC : ∀ w', RowKit.Below w.heap.size w w' → Calls Try.prog 23 #[.pointer (some ⟨P, 0, none⟩), .int .i64 n] w' fun en w2 => (∃ v, en = .returned v) ∧ R w2) (hR : ∀ w', R w' → P < w'.heap.size)
    (hK : ∀ (d128 d129 d130 d131 d132 d133 d134 d135 d136 d137 d138 d139 d140 d141 d142 : Value) (w' : World), R w' → Q .normal ⟨#[.pointer (some ⟨P, 0, none⟩), s1, s2, s3, .int .i64 k, s5, s6, s7, s8, s9, s10, s11, s12, s13, s14, s15, s16, s17, s18, s19, s20, s21, s22, s23, s24, s25, s26, s27, s28, s29, s30, s31, s32, s33, s34, s35, s36, s37, s38, s39, s40, s41, s42, s43, s44, s45, s46, s47, s48, s49, s50, s51, s52, s53, s54, s55, s56, s57, s58, s59, s60, s61, s62, s63, s64, s65, s66, s67, s68, s69, s70, s71, s72, s73, s74, s75, s76, s77, s78, s79, s80, s81, s82, s83, s84, s85, s86, s87, s88, s89, s90, s91, s92, s93, s94, s95, s96, s97, s98, s99, s100, s101, s102, s103, s104, s105, s106, s107, s108, s109, s110, s111, s112, s113, s114, s115, s116, s117, s118, s119, s120, s121, s122, s123, s124, s125, s126, s127, d128, d129, d130, d131, d132, d133, d134, d135, d136, d137, d138, d139, d140, d141, d142], []⟩ w') :
    Code.wp Try.prog step_r17_code Q ⟨#[.pointer (some ⟨P, 0, none⟩), s1, s2, s3, .int .i64 k, s5, s6, s7, s8, s9, s10, s11, s12, s13, s14, s15, s16, s17, s18, s19, s20, s21, s22, s23, s24, s25, s26, s27, s28, s29, s30, s31, s32, s33, s34, s35, s36, s37, s38, s39, s40, s41, s42, s43, s44, s45, s46, s47, s48, s49, s50, s51, s52, s53, s54, s55, s56, s57, s58, s59, s60, s61, s62, s63, s64, s65, s66, s67, s68, s69, s70, s71, s72, s73, s74, s75, s76, s77, s78, s79, s80, s81, s82, s83, s84, s85, s86, s87, s88, s89, s90, s91, s92, s93, s94, s95, s96, s97, s98, s99, s100, s101, s102, s103, s104, s105, s106, s107, s108, s109, s110, s111, s112, s113, s114, s115, s116, s117, s118, s119, s120, s121, s122, s123, s124, s125, s126, s127, s128, s129, s130, s131, s132, s133, s134, s135, s136, s137, s138, s139, s140, s141, s142], []⟩ w := by
  have HK := Lib.hid hK; clear hK
  have HC := Lib.hid hC; clear hC
  have HR := Lib.hid hR; clear hR
  have ht3 : k.tmod (nL : Int) = (jn : Int) := by rw [Int.tmod_eq_emod_of_nonneg hk]; exact hj
  have ht1 : IntKind.i64.wrap (k.tmod (nL : Int)) = (jn : Int) := by rw [ht3, IntKind.wrap_i64]; omega
  have hnz : ¬ (nL : Int) = 0 := by omega
  have hnz2 : ¬ nL = 0 := by omega
  conv => arg 2; whnf
  refine wp_region_noPanic ?_
  refine wp_region_held_drew (S := (fun w' => P < w'.heap.size)) (by kernel_rfl) ?_ (fun hHeld0 => ?_)
  · (try dsimp only)
    (first | (with_reducible assumption) | (go_keep; done) | omega | (simp; omega))
  refine wpAnyH_take (i := 0) (oi := _) (v := ?v1) rfl (by kernel_rfl) (by kernel_rfl) (by kernel_rfl) (fun _ _ _ h => h) (Or.inl ⟨by rfl, ?hy1⟩) (by with_reducible assumption) ?rest1
  case hy1 => (intro w hSw; (try dsimp only at hSw); go_simp; try with_reducible rfl)
  try simp only [Act.put, List.setIfInBounds_toArray, List.set_cons_zero, List.set_cons_succ]
  refine wpAnyH_take (i := 1) (oi := _) (v := ?v2) rfl (by kernel_rfl) (by kernel_rfl) (by kernel_rfl) (fun _ _ _ h => h) (Or.inl ⟨by rfl, ?hy2⟩) (by with_reducible assumption) ?rest2
  case hy2 => (intro w hSw; (try dsimp only at hSw); go_simp; try with_reducible rfl)
  try simp only [Act.put, List.setIfInBounds_toArray, List.set_cons_zero, List.set_cons_succ]
  refine wpAnyH_take (i := 2) (oi := _) (v := ?v3) rfl (by kernel_rfl) (by kernel_rfl) (by kernel_rfl) (fun _ _ _ h => h) (Or.inl ⟨by rfl, ?hy3⟩) (by with_reducible assumption) ?rest3
  case hy3 => (intro w hSw; (try dsimp only at hSw); go_simp; try with_reducible rfl)
  try simp only [Act.put, List.setIfInBounds_toArray, List.set_cons_zero, List.set_cons_succ]
  refine wpAnyH_take (i := 3) (oi := _) (v := ?v4) rfl (by kernel_rfl) (by kernel_rfl) (by kernel_rfl) (fun _ _ _ h => h) (Or.inl ⟨by rfl, ?hy4⟩) (by with_reducible assumption) ?rest4
  case hy4 => (intro w hSw; (try dsimp only at hSw); go_simp; try with_reducible rfl)
  try simp only [Act.put, List.setIfInBounds_toArray, List.set_cons_zero, List.set_cons_succ]
  refine wpAnyH_take (i := 5) (oi := _) (v := ?v5) rfl (by kernel_rfl) (by kernel_rfl) (by kernel_rfl) (fun _ _ _ h => h) (Or.inl ⟨by rfl, ?hy5⟩) (by with_reducible assumption) ?rest5
  case hy5 => (intro w hSw; (try dsimp only at hSw); go_simp; try with_reducible rfl)
  try simp only [Act.put, List.setIfInBounds_toArray, List.set_cons_zero, List.set_cons_succ]
  refine wpAnyH_take (i := 6) (oi := _) (v := ?v6) rfl (by kernel_rfl) (by kernel_rfl) (by kernel_rfl) (fun _ _ _ h => h) (Or.inl ⟨by rfl, ?hy6⟩) (by with_reducible assumption) ?rest6
  case hy6 => (intro w hSw; (try dsimp only at hSw); go_simp; try with_reducible rfl)
  try simp only [Act.put, List.setIfInBounds_toArray, List.set_cons_zero, List.set_cons_succ]
  refine wpAnyH_take (i := 7) (oi := _) (v := ?v7) rfl (by kernel_rfl) (by kernel_rfl) (by kernel_rfl) (fun _ _ _ h => h) (Or.inl ⟨by rfl, ?hy7⟩) (by with_reducible assumption) ?rest7
  case hy7 => (intro w hSw; (try dsimp only at hSw); go_simp; try with_reducible rfl)
  try simp only [Act.put, List.setIfInBounds_toArray, List.set_cons_zero, List.set_cons_succ]
  refine wpAnyH_take (i := 8) (oi := _) (v := ?v8) rfl (by kernel_rfl) (by kernel_rfl) (by kernel_rfl) (fun _ _ _ h => h) (Or.inl ⟨by rfl, ?hy8⟩) (by with_reducible assumption) ?rest8
  case hy8 => (intro w hSw; (try dsimp only at hSw); go_simp; try with_reducible rfl)
  try simp only [Act.put, List.setIfInBounds_toArray, List.set_cons_zero, List.set_cons_succ]
  refine wpAnyH_ready (rs := [4, 9]) (by kernel_rfl) (by simp) ?_
  refine (AllReadyH.cons (o := _) rfl (fun K hK => ?_) (AllReadyH.cons (o := _) rfl (fun K hK => ?_) AllReadyH.nil))
  · skip
    go_simp
    refine hK.out _ _ ?_ (fun hHeld9 => ?_)
    · (try dsimp only)
      (first | (with_reducible assumption) | (go_keep; done) | omega | (simp; omega))
    clear hK K hHeld0
    try simp only [Act.put, List.setIfInBounds_toArray, List.set_cons_zero, List.set_cons_succ]
    refine wpAnyH_ready (rs := [9]) (by kernel_rfl) (by simp) ?_
    refine (AllReadyH.cons (o := _) rfl (fun K hK => ?_) AllReadyH.nil)
    go_simp
    refine hK.out _ _ ?_ (fun hHeld10 => ?_)
    · (try dsimp only)
      (first | (with_reducible assumption) | (go_keep; done) | omega | (simp; omega))
    clear hK K hHeld9
    try simp only [Act.put, List.setIfInBounds_toArray, List.set_cons_zero, List.set_cons_succ]
    refine wpAnyH_take (i := 10) (oi := _) (v := ?v11) rfl (by kernel_rfl) (by kernel_rfl) (by kernel_rfl) (fun _ _ _ h => h) (Or.inl ⟨by rfl, ?hy11⟩) (by with_reducible assumption) ?rest11
    case hy11 => (intro w hSw; (try dsimp only at hSw); go_simp; try with_reducible rfl)
    try simp only [Act.put, List.setIfInBounds_toArray, List.set_cons_zero, List.set_cons_succ]
    refine wpAnyH_take (i := 11) (oi := _) (v := ?v12) rfl (by kernel_rfl) (by kernel_rfl) (by kernel_rfl) (fun _ _ _ h => h) (Or.inl ⟨by rfl, ?hy12⟩) (by with_reducible assumption) ?rest12
    case hy12 => (intro w hSw; (try dsimp only at hSw); go_simp; try with_reducible rfl)
    try simp only [Act.put, List.setIfInBounds_toArray, List.set_cons_zero, List.set_cons_succ]
    refine wpAnyH_take (i := 12) (oi := _) (v := ?v13) rfl (by kernel_rfl) (by kernel_rfl) (by kernel_rfl) (fun _ _ _ h => h) (Or.inl ⟨by rfl, ?hy13⟩) (by with_reducible assumption) ?rest13
    case hy13 => (intro w hSw; (try dsimp only at hSw); go_simp; try with_reducible rfl)
    try simp only [Act.put, List.setIfInBounds_toArray, List.set_cons_zero, List.set_cons_succ]
    refine wpAnyH_ready (rs := [13]) (by kernel_rfl) (by simp) ?_
    refine (AllReadyH.cons (o := _) rfl (fun K hK => ?_) AllReadyH.nil)
    go_simp
    refine hK.out _ _ ?_ (fun hHeld14 => ?_)
    · (try dsimp only)
      (first | (with_reducible assumption) | (go_keep; done) | omega | (simp; omega))
    clear hK K hHeld10
    try simp only [Act.put, List.setIfInBounds_toArray, List.set_cons_zero, List.set_cons_succ]
    refine wpAnyH_ready (rs := [14]) (by kernel_rfl) (by simp) ?_
    refine (AllReadyH.cons (o := _) rfl (fun K hK => ?_) AllReadyH.nil)
    go_simp
    refine (HC.out _ (Below.refl _ _).drew).mono ?_
    rintro en w1 ⟨⟨v, rfl⟩, hR1⟩
    have z1 := HR.out w1 hR1
    have H1 := Lib.hid hR1
    clear hR1
    try dsimp only
    refine hK.out _ _ ?_ (fun hHeld15 => ?_)
    · (try dsimp only)
      (first | (with_reducible assumption) | (go_keep; done) | omega | (simp; omega))
    clear hK K hHeld14
    try simp only [Act.put, List.setIfInBounds_toArray, List.set_cons_zero, List.set_cons_succ]
    refine wpAnyH_done (by kernel_rfl) ?_ _
    refine NoPanic.normal ?_
    clear hHeld15
    exact HK.out _ _ _ _ _ _ _ _ _ _ _ _ _ _ _ _ H1.out
  · skip
    go_simp
    refine hK.out _ _ ?_ (fun hHeld16 => ?_)
    · (try dsimp only)
      (first | (with_reducible assumption) | (go_keep; done) | omega | (simp; omega))
    clear hK K hHeld0
    try simp only [Act.put, List.setIfInBounds_toArray, List.set_cons_zero, List.set_cons_succ]
    refine wpAnyH_take (i := 10) (oi := _) (v := ?v17) rfl (by kernel_rfl) (by kernel_rfl) (by kernel_rfl) (fun _ _ _ h => h) (Or.inl ⟨by rfl, ?hy17⟩) (by with_reducible assumption) ?rest17
    case hy17 => (intro w hSw; (try dsimp only at hSw); go_simp; try with_reducible rfl)
    try simp only [Act.put, List.setIfInBounds_toArray, List.set_cons_zero, List.set_cons_succ]
    refine wpAnyH_take (i := 11) (oi := _) (v := ?v18) rfl (by kernel_rfl) (by kernel_rfl) (by kernel_rfl) (fun _ _ _ h => h) (Or.inl ⟨by rfl, ?hy18⟩) (by with_reducible assumption) ?rest18
    case hy18 => (intro w hSw; (try dsimp only at hSw); go_simp; try with_reducible rfl)
    try simp only [Act.put, List.setIfInBounds_toArray, List.set_cons_zero, List.set_cons_succ]
    refine wpAnyH_ready (rs := [4]) (by kernel_rfl) (by simp) ?_
    refine (AllReadyH.cons (o := _) rfl (fun K hK => ?_) AllReadyH.nil)
    go_simp
    refine hK.out _ _ ?_ (fun hHeld19 => ?_)
    · (try dsimp only)
      (first | (with_reducible assumption) | (go_keep; done) | omega | (simp; omega))
    clear hK K hHeld16
    try simp only [Act.put, List.setIfInBounds_toArray, List.set_cons_zero, List.set_cons_succ]
    refine wpAnyH_take (i := 12) (oi := _) (v := ?v20) rfl (by kernel_rfl) (by kernel_rfl) (by kernel_rfl) (fun _ _ _ h => h) (Or.inl ⟨by rfl, ?hy20⟩) (by with_reducible assumption) ?rest20
    case hy20 => (intro w hSw; (try dsimp only at hSw); go_simp; try with_reducible rfl)
    try simp only [Act.put, List.setIfInBounds_toArray, List.set_cons_zero, List.set_cons_succ]
    refine wpAnyH_ready (rs := [13]) (by kernel_rfl) (by simp) ?_
    refine (AllReadyH.cons (o := _) rfl (fun K hK => ?_) AllReadyH.nil)
    go_simp
    refine hK.out _ _ ?_ (fun hHeld21 => ?_)
    · (try dsimp only)
      (first | (with_reducible assumption) | (go_keep; done) | omega | (simp; omega))
    clear hK K hHeld19
    try simp only [Act.put, List.setIfInBounds_toArray, List.set_cons_zero, List.set_cons_succ]
    refine wpAnyH_ready (rs := [14]) (by kernel_rfl) (by simp) ?_
    refine (AllReadyH.cons (o := _) rfl (fun K hK => ?_) AllReadyH.nil)
    go_simp
    refine (HC.out _ (Below.refl _ _).drew).mono ?_
    rintro en w1 ⟨⟨v, rfl⟩, hR1⟩
    have z1 := HR.out w1 hR1
    have H1 := Lib.hid hR1
    clear hR1
    try dsimp only
    refine hK.out _ _ ?_ (fun hHeld22 => ?_)
    · (try dsimp only)
      (first | (with_reducible assumption) | (go_keep; done) | omega | (simp; omega))
    clear hK K hHeld21
    try simp only [Act.put, List.setIfInBounds_toArray, List.set_cons_zero, List.set_cons_succ]
    refine wpAnyH_done (by kernel_rfl) ?_ _
    refine NoPanic.normal ?_
    clear hHeld22
    exact HK.out _ _ _ _ _ _ _ _ _ _ _ _ _ _ _ _ H1.out
theorem OwnR.one {w : World} {B : Nat} {ρ : Nat → Nat} {i : Nat} {e : TypeId} {A : Option Addr} {n c : Nat} {xs : List Int} (h : OwnR (Rint .i64) w B ρ i e (.slice A n c) xs) {j : Nat} {x : Int} (hx : xs[j]? = some x) : ∃ g : Nat, A = some ⟨g, 0, none⟩ ∧ w.cell? ⟨g, j, none⟩ = some (.int .i64 x) := by
  obtain ⟨cells, hel, hce⟩ := h.1.cells
  obtain ⟨cs, ⟨rfl, _⟩, hc⟩ := hel.2 j x hx
  have h9 := hc 0 _ rfl
  obtain ⟨b, off, hA, hcell⟩ := hce _ _ h9
  obtain ⟨g, hg⟩ : ∃ g, A = some ⟨g, 0, none⟩ := by
    obtain ⟨_, ⟨_, h1⟩, _⟩ := h.1
    rcases h1 with ⟨hv, _⟩ | ⟨g, cap, cur, hv, _⟩
    · injection hv with e1; rw [e1] at hA; cases hA
    · injection hv with e1; exact ⟨g, e1⟩
  rw [hg] at hA
  injection hA with e; injection e with e1 e2
  subst e1 e2
  exact ⟨_, hg, by simpa [Rint] using hcell⟩
/-- One of the items, or nothing. -/
def Wy.one (s : Wy) (k : Nat) (win : Int) : Wy := match s.items[k % s.items.length]? with
  | some x => s.come x win
  | none => s
def Wy.back (s : Wy) (k : Nat) (win : Int) : Wy := match s.acks[k % s.acks.length]? with
  | some n => s.ack n win
  | none => s
set_option maxRecDepth 100000 in
set_option maxHeartbeats 4000000 in
theorem step1_any (w : World) (B P : Nat) (win : Int) (s : Wy) (sn : Nat) (h : WyB w B P win s) (hf : WyF s) (hBw : B ≤ w.heap.size) (h1 : (sn : Int) ≤ 9223372036854775807) (h3 : (sn : Int) % 4 = 1)
    (hl : ∀ x ∈ s.items, (takeP s.held s.e x.sq x.body win).2.1.length ≤ 1000000 ∧ (Lit.int .i64 (takeP s.held s.e x.sq x.body win).2.2).wf = true) :
    Calls Try.prog 20 #[.pointer (some ⟨P, 0, none⟩), .int .i64 sn] w fun en w' => (∃ v, en = .returned v) ∧ WyB w' B P win (s.one (sn / 4) win) ∧ Below B w w' := by
  have hW := h
  obtain ⟨ρ, AS, nS, cS, AW, nW, cW, AH, nH, cH, AI, nI, cI, AA, nA, cA, AB, nB, cB, AT, nT, cT, hB, hM, hnI, hnA, hnB, hnT⟩ := h
  have p5 := hB.cell 5 (v := .slice AI nI cI) rfl
  have hP := hB.lt
  obtain ⟨k, hk⟩ : ∃ k, sn / 4 = k := ⟨_, rfl⟩
  have hk4 : (sn : Int) / 4 = (k : Int) := by omega
  rw [hk]
  by_cases hz : nI = 0
  · subst hz
    have hs : s.one k win = s := by
      obtain hi : s.items = [] := List.eq_nil_of_length_eq_zero hnI
      simp [Wy.one, hi]
    rw [hs]
    have H := Lib.hid (And.intro hW hB)
    clear hW hB hM hf hnI hnA hnB hnT hk hl hs
    go_enter Try.func20, Try.ntmps20
    go_wp2
    go_end0
    exact ⟨⟨_, rfl⟩, H.out.1, Below.refl _ _⟩
  · obtain ⟨jn, hj⟩ : ∃ jn, k % nI = jn := ⟨_, rfl⟩
    have hjn : jn < nI := by rw [← hj]; exact Nat.mod_lt _ (by omega)
    have hx := List.getElem?_eq_getElem (l := s.items) (i := jn) (by rw [hnI]; exact hjn)
    generalize s.items[jn]'(by rw [hnI]; exact hjn) = x at hx
    have hxm := List.mem_of_getElem? hx
    obtain ⟨g, T, tn, tc, rfl, w1, w2, htn, hlt, hmt, hts, y0, y1, y2, _, _, _, _⟩ := hM.items.1.item hx
    have hs : s.one k win = s.come x win := by simp only [Wy.one, hnI, hj, hx]
    rw [hs]
    have hji : (k : Int) % (nI : Int) = (jn : Int) := by rw [← hj]; omega
    have hnI2 : nI ≤ 1000000 := by have := hf.items; omega
    have hpos : 0 < nI := by omega
    have HC := Lib.hid (show ∀ w', RowKit.Below w.heap.size w w' → Calls Try.prog 22 #[.pointer (some ⟨P, 0, none⟩), .agg #[.int .i64 x.sq, .slice T tn tc, .int .i64 x.tm]] w' fun en w2 => (∃ v, en = .returned v) ∧ (WyB w2 B P win (s.come x win) ∧ Below B w w2) from fun w' hb' =>
      (come_any w' B P win s x T tn tc (hW.up hb') hf (by have := hb'.size; omega) htn (hts.keep (fun p hp => hb'.cell hp.2.1) (fun b hb => Nat.lt_of_lt_of_le hb.2.1 hb'.size)) (by have := hf.t3 x hxm; omega) w1 (hl x hxm).1 (hl x hxm).2).mono fun en w2 ⟨e1, e2, e3⟩ => ⟨e1, e2, (hb'.mono hBw).trans e3⟩)
    have H := Lib.hid hB
    clear hW hB hM hf hnI hnA hnB hnT hk hl hs hx hxm w1 w2 htn hlt hmt hts hj
    go_enter Try.func20, Try.ntmps20
    go_upto_region 14 with fail
    refine step_r14 w P g nI cI jn k (fun w2 => WyB w2 B P win (s.come x win) ∧ Below B w w2) x.sq x.tm T tn tc hP p5 y0 y1 y2 (by omega) (by omega) hpos hnI2 hji hjn HC.out (fun w2 hw2 => by
      obtain ⟨_, _, _, _, _, _, _, _, _, _, _, _, _, _, _, _, _, _, _, _, _, _, hB2, _⟩ := hw2.1
      exact hB2.lt) ?_
    intro d105 d106 d107 d108 d109 d110 d111 d112 d113 d114 d115 d116 d117 d118 d119 w2 hR
    have H2 := Lib.hid hR
    clear hR
    go_wp2
    go_end0
    exact ⟨⟨_, rfl⟩, H2.out.1, H2.out.2⟩
set_option maxRecDepth 100000 in
set_option maxHeartbeats 4000000 in
theorem step2_any (w : World) (B P : Nat) (win : Int) (s : Wy) (sn : Nat) (h : WyB w B P win s) (hf : WyF s) (hBw : B ≤ w.heap.size) (h1 : (sn : Int) ≤ 9223372036854775807) (h3 : (sn : Int) % 4 = 2)
    (hl : ∀ n ∈ s.acks, (ackP s.o n win s.now).2.length ≤ 1000000) :
    Calls Try.prog 20 #[.pointer (some ⟨P, 0, none⟩), .int .i64 sn] w fun en w' => (∃ v, en = .returned v) ∧ WyB w' B P win (s.back (sn / 4) win) ∧ Below B w w' := by
  have hW := h
  obtain ⟨ρ, AS, nS, cS, AW, nW, cW, AH, nH, cH, AI, nI, cI, AA, nA, cA, AB, nB, cB, AT, nT, cT, hB, hM, hnI, hnA, hnB, hnT⟩ := h
  have p6 := hB.cell 6 (v := .slice AA nA cA) rfl
  have hP := hB.lt
  obtain ⟨k, hk⟩ : ∃ k, sn / 4 = k := ⟨_, rfl⟩
  have hk4 : (sn : Int) / 4 = (k : Int) := by omega
  rw [hk]
  by_cases hz : nA = 0
  · subst hz
    have hs : s.back k win = s := by
      obtain hi : s.acks = [] := List.eq_nil_of_length_eq_zero hnA
      simp [Wy.back, hi]
    rw [hs]
    have H := Lib.hid (And.intro hW hB)
    clear hW hB hM hf hnI hnA hnB hnT hk hl hs
    go_enter Try.func20, Try.ntmps20
    go_wp2
    go_end0
    exact ⟨⟨_, rfl⟩, H.out.1, Below.refl _ _⟩
  · obtain ⟨jn, hj⟩ : ∃ jn, k % nA = jn := ⟨_, rfl⟩
    have hjn : jn < nA := by rw [← hj]; exact Nat.mod_lt _ (by omega)
    have hx := List.getElem?_eq_getElem (l := s.acks) (i := jn) (by rw [hnA]; exact hjn)
    generalize s.acks[jn]'(by rw [hnA]; exact hjn) = n at hx
    have hxm := List.mem_of_getElem? hx
    obtain ⟨g, rfl, y0⟩ := hM.acks.one hx
    have hs : s.back k win = s.ack n win := by simp only [Wy.back, hnA, hj, hx]
    rw [hs]
    have hji : (k : Int) % (nA : Int) = (jn : Int) := by rw [← hj]; omega
    have hnA2 : nA ≤ 1000000 := by have := hf.acks; omega
    have hpos : 0 < nA := by omega
    have HC := Lib.hid (show ∀ w', RowKit.Below w.heap.size w w' → Calls Try.prog 23 #[.pointer (some ⟨P, 0, none⟩), .int .i64 n] w' fun en w2 => (∃ v, en = .returned v) ∧ (WyB w2 B P win (s.ack n win) ∧ Below B w w2) from fun w' hb' =>
      (answer_any w' B P win s n (hW.up hb') hf (by have := hb'.size; omega) (hl n hxm)).mono fun en w2 ⟨e1, e2, e3⟩ => ⟨e1, e2, (hb'.mono hBw).trans e3⟩)
    have H := Lib.hid hB
    clear hW hB hM hf hnI hnA hnB hnT hk hl hs hx hxm hj
    go_enter Try.func20, Try.ntmps20
    go_upto_region 17 with fail
    refine step_r17 w P g nA cA jn k (fun w2 => WyB w2 B P win (s.ack n win) ∧ Below B w w2) n hP p6 y0 (by omega) (by omega) hpos hnA2 hji hjn HC.out (fun w2 hw2 => by
      obtain ⟨_, _, _, _, _, _, _, _, _, _, _, _, _, _, _, _, _, _, _, _, _, _, hB2, _⟩ := hw2.1
      exact hB2.lt) ?_
    intro d128 d129 d130 d131 d132 d133 d134 d135 d136 d137 d138 d139 d140 d141 d142 w2 hR
    have H2 := Lib.hid hR
    clear hR
    go_wp2
    go_end0
    exact ⟨⟨_, rfl⟩, H2.out.1, H2.out.2⟩
end Go.Proofs.Ytalieakmjkmbbaa

