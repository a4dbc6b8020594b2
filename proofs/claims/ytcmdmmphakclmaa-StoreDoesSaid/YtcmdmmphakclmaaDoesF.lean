/-
  The reference's Put: the ways behind the tests, the whole.
-/
import Derived.Test.YtcmdmmphakclmaaDoesE
namespace Go.Proofs.Ytcmdmmphakclmaa
open Go.RowKit Go.Sort
set_option linter.unusedVariables false
set_option linter.unusedSimpArgs false
attribute [local go_sem ↓] Go.wp_at_zero Go.wp_at_succ

noncomputable def rput_r7_code : Code := regionOf Try.f19 7
set_option maxRecDepth 100000 in
set_option maxHeartbeats 2000000 in
theorem rput_r7 {Q : Exit → Act → World → Prop} {s0 s1 s4 s5 s6 s7 s8 s9 s10 s11 s12 s13 s14 s15 s16 s17 s18 s19 s20 s21 s22 s23 s24 s25 s26 s27 s28 s29 s30 s31 s32 s33 s34 s35 s36 s37 s38 s39 s40 s41 s42 s43 s44 s45 s46 s47 s48 s49 s50 s51 s52 s53 s54 s55 s56 s57 s58 s59 s60 s61 s62 s63 s64 s65 s66 s67 s68 s69 s70 s71 s72 s73 s74 s75 s76 s77 s78 s79 s80 s81 s82 s83 s84 : Value} (w : World) (Sx X b off n cap f : Nat) (sq x : Int) (p0 : w.cell? ⟨Sx, 0, none⟩ = some (.slice (some ⟨b, off, none⟩) n cap)) (q1 : w.cell? ⟨X, 1, none⟩ = some (.int .i64 (f : Int))) (q3 : w.cell? ⟨X, 3, none⟩ = some (.int .u64 sq)) (hx : w.cell? ⟨b, off + f, none⟩ = some (.int .u64 x)) (hfn : f < n) 
    (hK : ∀ (d41 d42 d43 d44 d45 d46 d47 d48 : Value) (w' : World), Below w.heap.size w w' → Q .normal ⟨#[s0, s1, .pointer (some ⟨Sx, 0, none⟩), .pointer (some ⟨X, 0, none⟩), s4, s5, s6, s7, s8, s9, s10, s11, s12, s13, s14, s15, s16, s17, s18, s19, s20, s21, s22, s23, s24, s25, s26, s27, s28, s29, s30, s31, s32, s33, s34, s35, s36, s37, s38, s39, s40, d41, d42, d43, d44, d45, d46, d47, d48, .bool (decide (sq ≤ x)), s50, s51, s52, s53, s54, s55, s56, s57, s58, s59, s60, s61, s62, s63, s64, s65, s66, s67, s68, s69, s70, s71, s72, s73, s74, s75, s76, s77, s78, s79, s80, s81, s82, s83, s84], []⟩ w') :
    Code.wp Try.prog rput_r7_code Q ⟨#[s0, s1, .pointer (some ⟨Sx, 0, none⟩), .pointer (some ⟨X, 0, none⟩), s4, s5, s6, s7, s8, s9, s10, s11, s12, s13, s14, s15, s16, s17, s18, s19, s20, s21, s22, s23, s24, s25, s26, s27, s28, s29, s30, s31, s32, s33, s34, s35, s36, s37, s38, s39, s40, s41, s42, s43, s44, s45, s46, s47, s48, s49, s50, s51, s52, s53, s54, s55, s56, s57, s58, s59, s60, s61, s62, s63, s64, s65, s66, s67, s68, s69, s70, s71, s72, s73, s74, s75, s76, s77, s78, s79, s80, s81, s82, s83, s84], []⟩ w := by
  have HK := Lib.hid hK; clear hK
  have e1 : (0 : Int) ≤ (f : Int) := by omega
  have e2 : (f : Int) < (n : Int) := by omega
  have k0 := cell_regrown p0; have k1 := cell_regrown q1; have k3 := cell_regrown q3; have k4 := cell_regrown hx
  conv => arg 2; whnf
  refine wp_region_quiet_below (by kernel_rfl) (by kernel_rfl) ?_
  repeat (any_goals (first | go_big_quiet_step (fail) | quiet_step (fail)))
  refine wpQuiet_nil ?_
  intro _ hw'
  obtain ⟨⟨dq, osq⟩, hw''⟩ := hw'
  subst hw''
  exact HK.out _ _ _ _ _ _ _ _ _ (below_regrown w dq osq)
noncomputable def rput_r9_code : Code := regionOf Try.f19 9
set_option maxRecDepth 100000 in
set_option maxHeartbeats 2000000 in
theorem rput_r9 {Q : Exit → Act → World → Prop} {s0 s1 s4 s5 s6 s7 s8 s9 s10 s11 s12 s13 s14 s15 s16 s17 s18 s19 s20 s21 s22 s23 s24 s25 s26 s27 s28 s29 s30 s31 s32 s33 s34 s35 s36 s37 s38 s39 s40 s41 s42 s43 s44 s45 s46 s47 s48 s49 s50 s51 s52 s53 s54 s55 s56 s57 s58 s59 s60 s61 s62 s63 s64 s65 s66 s67 s68 s69 s70 s71 s72 s73 s74 s75 s76 s77 s78 s79 s80 s81 s82 s83 s84 : Value} (w : World) (Sx X b off n cap f : Nat) (sq x : Int) (p0 : w.cell? ⟨Sx, 0, none⟩ = some (.slice (some ⟨b, off, none⟩) n cap)) (q1 : w.cell? ⟨X, 1, none⟩ = some (.int .i64 (f : Int))) (q3 : w.cell? ⟨X, 3, none⟩ = some (.int .u64 sq)) (hx : w.cell? ⟨b, off + f, none⟩ = some (.int .u64 x)) (hfn : f < n) (hs1 : 1 ≤ sq) (hs2 : sq ≤ 18446744073709551615)
    (hK : ∀ (d51 d52 d53 d54 d55 d56 d57 d58 d59 : Value) (w' : World), Below w.heap.size w w' → Q .normal ⟨#[s0, s1, .pointer (some ⟨Sx, 0, none⟩), .pointer (some ⟨X, 0, none⟩), s4, s5, s6, s7, s8, s9, s10, s11, s12, s13, s14, s15, s16, s17, s18, s19, s20, s21, s22, s23, s24, s25, s26, s27, s28, s29, s30, s31, s32, s33, s34, s35, s36, s37, s38, s39, s40, s41, s42, s43, s44, s45, s46, s47, s48, s49, s50, d51, d52, d53, d54, d55, d56, d57, d58, d59, .bool (sq - 1 != x), s61, s62, s63, s64, s65, s66, s67, s68, s69, s70, s71, s72, s73, s74, s75, s76, s77, s78, s79, s80, s81, s82, s83, s84], []⟩ w') :
    Code.wp Try.prog rput_r9_code Q ⟨#[s0, s1, .pointer (some ⟨Sx, 0, none⟩), .pointer (some ⟨X, 0, none⟩), s4, s5, s6, s7, s8, s9, s10, s11, s12, s13, s14, s15, s16, s17, s18, s19, s20, s21, s22, s23, s24, s25, s26, s27, s28, s29, s30, s31, s32, s33, s34, s35, s36, s37, s38, s39, s40, s41, s42, s43, s44, s45, s46, s47, s48, s49, s50, s51, s52, s53, s54, s55, s56, s57, s58, s59, s60, s61, s62, s63, s64, s65, s66, s67, s68, s69, s70, s71, s72, s73, s74, s75, s76, s77, s78, s79, s80, s81, s82, s83, s84], []⟩ w := by
  have HK := Lib.hid hK; clear hK
  have e1 : (0 : Int) ≤ (f : Int) := by omega
  have e2 : (f : Int) < (n : Int) := by omega
  have k0 := cell_regrown p0; have k1 := cell_regrown q1; have k3 := cell_regrown q3; have k4 := cell_regrown hx
  conv => arg 2; whnf
  refine wp_region_quiet_below (by kernel_rfl) (by kernel_rfl) ?_
  repeat (any_goals (first | go_big_quiet_step (fail) | quiet_step (fail)))
  refine wpQuiet_nil ?_
  intro _ hw'
  obtain ⟨⟨dq, osq⟩, hw''⟩ := hw'
  subst hw''
  exact HK.out _ _ _ _ _ _ _ _ _ _ (below_regrown w dq osq)
noncomputable def rput_r12_code : Code := regionOf Try.f19 12
set_option maxRecDepth 100000 in
set_option maxHeartbeats 4000000 in
theorem rput_r12 {Q : Exit → Act → World → Prop} {s0 s1 s2 s4 s5 s6 s7 s9 s10 s11 s12 s13 s14 s15 s16 s17 s18 s19 s20 s21 s22 s23 s24 s25 s26 s27 s28 s29 s30 s31 s32 s33 s34 s35 s36 s37 s38 s39 s40 s41 s42 s43 s44 s45 s46 s47 s48 s49 s50 s51 s52 s53 s54 s55 s56 s57 s58 s59 s60 s61 s62 s63 s64 s65 s66 s67 s68 s69 s70 s71 s72 s73 s74 s75 s76 s77 s78 s79 s80 s81 s82 s83 s84 : Value} (w : World) (W V H X g m d t q qc : Nat) (vL : Value) (AB : Option Addr) (l : Lt) (T : Option Addr) (tn tc : Nat) (bx : List Lt) (hH : Blk w H 28 #[vL, .slice (some ⟨g, 0, none⟩) m d]) (hX : Blk w X 34 #[.bool l.cover, .int .i64 l.fr, .int .i64 (t : Int), .int .u64 l.sq, .slice T tn tc]) (hto : l.to = (t : Int))
    (hg : w.cell? ⟨g, t, none⟩ = some (.slice AB q qc)) (hgf : ∀ o, w.frozen? ⟨g, o, none⟩ = false) (hgl : g < w.heap.size) (hgH : H ≠ g) (hgX : X ≠ g) (htm : t < m) (hm8 : m ≤ 8) (hO : Own Rlt w W 34 (lo V) (.slice AB q qc) bx) (hq : bx.length = q) (hq2 : q ≤ 2513169434915) (hVW : V ≤ W) (hW : W ≤ w.heap.size) (hl : LtAt w (lo V) T tn tc l) (hne : ∀ k, (Value.slice AB q qc).ownBlock = some k → k ≠ H ∧ k ≠ X ∧ k ≠ g)
    (hK : ∀ (d70 d71 d72 d73 d74 d75 d76 d77 d78 d79 d80 d81 d82 d83 : Value) (A' : Option Addr) (c' : Nat) (w5 : World), Own Rlt w5 W 34 (lo V) (.slice A' (q + 1) c') (bx ++ [l]) → (∀ k, k < w.heap.size → (Value.slice AB q qc).ownBlock ≠ some k → w5.heap[k]? = w.heap[k]?) → Below W w w5 → (∀ k, (Value.slice A' (q + 1) c').ownBlock = some k → k ≠ g) →
      Q .normal ⟨#[s0, s1, s2, .pointer (some ⟨X, 0, none⟩), s4, s5, s6, s7, .pointer (some ⟨H, 0, none⟩), s9, s10, s11, s12, s13, s14, s15, s16, s17, s18, s19, s20, s21, s22, s23, s24, s25, s26, s27, s28, s29, s30, s31, s32, s33, s34, s35, s36, s37, s38, s39, s40, s41, s42, s43, s44, s45, s46, s47, s48, s49, s50, s51, s52, s53, s54, s55, s56, s57, s58, s59, s60, s61, s62, s63, s64, s65, s66, s67, s68, s69, d70, d71, d72, d73, d74, d75, d76, d77, d78, d79, d80, d81, d82, d83, s84], []⟩ (w5.setCell ⟨g, t, none⟩ (.slice A' (q + 1) c'))) :
    Code.wp Try.prog rput_r12_code Q ⟨#[s0, s1, s2, .pointer (some ⟨X, 0, none⟩), s4, s5, s6, s7, .pointer (some ⟨H, 0, none⟩), s9, s10, s11, s12, s13, s14, s15, s16, s17, s18, s19, s20, s21, s22, s23, s24, s25, s26, s27, s28, s29, s30, s31, s32, s33, s34, s35, s36, s37, s38, s39, s40, s41, s42, s43, s44, s45, s46, s47, s48, s49, s50, s51, s52, s53, s54, s55, s56, s57, s58, s59, s60, s61, s62, s63, s64, s65, s66, s67, s68, s69, s70, s71, s72, s73, s74, s75, s76, s77, s78, s79, s80, s81, s82, s83, s84], []⟩ w := by
  have HK := Lib.hid hK; clear hK
  have h1 := hH.cell 1 (v := .slice (some ⟨g, 0, none⟩) m d) rfl
  have x0 := hX.cell 0 (v := .bool l.cover) rfl; have x1 := hX.cell 1 (v := .int .i64 l.fr) rfl; have x2 := hX.cell 2 (v := .int .i64 (t : Int)) rfl; have x3 := hX.cell 3 (v := .int .u64 l.sq) rfl; have x4 := hX.cell 4 (v := .slice T tn tc) rfl
  have lH := hH.lt; have lX := hX.lt
  have e1 : (0 : Int) ≤ (t : Int) := by omega
  have e2 : (t : Int) < (m : Int) := by omega
  have HB := Lib.hid (And.intro hO (And.intro hq (And.intro hl (And.intro hne (And.intro hto hgf)))))
  clear hO hq hl hne hH hX hto hgf
  conv => arg 2; whnf
  refine wp_region_noPanic ?_
  refine wp_region_held_drew (S := (fun w' => w'.cell? ⟨H, 1, none⟩ = some (.slice (some ⟨g, 0, none⟩) m d) ∧ w'.cell? ⟨X, 0, none⟩ = some (.bool l.cover) ∧ w'.cell? ⟨X, 1, none⟩ = some (.int .i64 l.fr) ∧ w'.cell? ⟨X, 2, none⟩ = some (.int .i64 (t : Int)) ∧ w'.cell? ⟨X, 3, none⟩ = some (.int .u64 l.sq) ∧ w'.cell? ⟨X, 4, none⟩ = some (.slice T tn tc))) (by kernel_rfl) ?_ (fun hHeld0 => ?_)
  · (try dsimp only)
    (first | (with_reducible assumption) | (go_keep; done) | (refine ⟨?_, ?_, ?_, ?_, ?_, ?_⟩ <;> (first | (with_reducible assumption) | (simp [go_sem, *]; done) | (simp (disch := (simp; try omega)) [*, World.cell?_alloc_past, World.cell?_setCell_other]; done) | (rw [World.cell?_setCell_other _ _ _ _ (by simp; try omega)]; assumption))))
  refine wpAnyH_take (i := 0) (oi := _) (v := ?v1) rfl (by kernel_rfl) (by kernel_rfl) (by kernel_rfl) (fun _ _ _ h => h) (Or.inl ⟨by rfl, ?hy1⟩) (by with_reducible assumption) ?rest1
  case hy1 => (intro w hSw; (try dsimp only at hSw); go_simp; try with_reducible rfl)
  try simp only [Act.put, List.setIfInBounds_toArray, List.set_cons_zero, List.set_cons_succ]
  refine wpAnyH_take (i := 1) (oi := _) (v := ?v2) rfl (by kernel_rfl) (by kernel_rfl) (by kernel_rfl) (fun _ _ _ h => h) (Or.inl ⟨by rfl, ?hy2⟩) (by with_reducible assumption) ?rest2
  case hy2 => (intro w hSw; (try dsimp only at hSw); go_simp; try with_reducible rfl)
  try simp only [Act.put, List.setIfInBounds_toArray, List.set_cons_zero, List.set_cons_succ]
  refine wpAnyH_take (i := 2) (oi := _) (v := ?v3) rfl (by kernel_rfl) (by kernel_rfl) (by kernel_rfl) (fun _ _ _ h => h) (Or.inl ⟨by rfl, ?hy3⟩) (by with_reducible assumption) ?rest3
  case hy3 => (intro w hSw; (try dsimp only at hSw); go_simp; try with_reducible rfl)
  try simp only [Act.put, List.setIfInBounds_toArray, List.set_cons_zero, List.set_cons_succ]
  refine wpAnyH_take (i := 3) (oi := _) (v := ?v4) rfl (by kernel_rfl) (by kernel_rfl) (by kernel_rfl) (fun _ _ _ h => h) (Or.inl ⟨by rfl, ?hy4⟩) (by with_reducible assumption) ?rest4
  case hy4 => (intro w hSw; (try dsimp only at hSw); go_simp; try with_reducible rfl)
  try simp only [Act.put, List.setIfInBounds_toArray, List.set_cons_zero, List.set_cons_succ]
  refine wpAnyH_take (i := 4) (oi := _) (v := ?v5) rfl (by kernel_rfl) (by kernel_rfl) (by kernel_rfl) (fun _ _ _ h => h) (Or.inl ⟨by rfl, ?hy5⟩) (by with_reducible assumption) ?rest5
  case hy5 => (intro w hSw; (try dsimp only at hSw); go_simp; try with_reducible rfl)
  try simp only [Act.put, List.setIfInBounds_toArray, List.set_cons_zero, List.set_cons_succ]
  refine wpAnyH_take (i := 5) (oi := _) (v := ?v6) rfl (by kernel_rfl) (by kernel_rfl) (by kernel_rfl) (fun _ _ _ h => h) (Or.inl ⟨by rfl, ?hy6⟩) (by with_reducible assumption) ?rest6
  case hy6 => (intro w hSw; (try dsimp only at hSw); go_simp; try with_reducible rfl)
  try simp only [Act.put, List.setIfInBounds_toArray, List.set_cons_zero, List.set_cons_succ]
  refine wpAnyH_take (i := 6) (oi := _) (v := ?v7) rfl (by kernel_rfl) (by kernel_rfl) (by kernel_rfl) (fun _ _ _ h => h) (Or.inl ⟨by rfl, ?hy7⟩) (by with_reducible assumption) ?rest7
  case hy7 => (intro w hSw; (try dsimp only at hSw); go_simp; try with_reducible rfl)
  try simp only [Act.put, List.setIfInBounds_toArray, List.set_cons_zero, List.set_cons_succ]
  refine wpAnyH_take (i := 7) (oi := _) (v := ?v8) rfl (by kernel_rfl) (by kernel_rfl) (by kernel_rfl) (fun _ _ _ h => h) (Or.inl ⟨by rfl, ?hy8⟩) (by with_reducible assumption) ?rest8
  case hy8 => (intro w hSw; (try dsimp only at hSw); go_simp; try with_reducible rfl)
  try simp only [Act.put, List.setIfInBounds_toArray, List.set_cons_zero, List.set_cons_succ]
  refine wpAnyH_take (i := 8) (oi := _) (v := ?v9) rfl (by kernel_rfl) (by kernel_rfl) (by kernel_rfl) (fun _ _ _ h => h) (Or.inl ⟨by rfl, ?hy9⟩) (by with_reducible assumption) ?rest9
  case hy9 => (intro w hSw; (try dsimp only at hSw); go_simp; try with_reducible rfl)
  try simp only [Act.put, List.setIfInBounds_toArray, List.set_cons_zero, List.set_cons_succ]
  refine wpAnyH_take (i := 10) (oi := _) (v := ?v10) rfl (by kernel_rfl) (by kernel_rfl) (by kernel_rfl) (fun _ _ _ h => h) (Or.inl ⟨by rfl, ?hy10⟩) (by with_reducible assumption) ?rest10
  case hy10 => (intro w hSw; (try dsimp only at hSw); go_simp; try with_reducible rfl)
  try simp only [Act.put, List.setIfInBounds_toArray, List.set_cons_zero, List.set_cons_succ]
  refine wpAnyH_ready (rs := [9, 11]) (by kernel_rfl) (by simp) ?_
  refine (AllReadyH.cons (o := _) rfl (fun K hK => ?_) (AllReadyH.cons (o := _) rfl (fun K hK => ?_) AllReadyH.nil))
  · skip
    go_simp
    refine hK.out _ _ ?_ (fun hHeld11 => ?_)
    · (try dsimp only)
      (first | (with_reducible assumption) | (go_keep; done) | (refine ⟨?_, ?_, ?_, ?_, ?_, ?_⟩ <;> (first | (with_reducible assumption) | (simp [go_sem, *]; done) | (simp (disch := (simp; try omega)) [*, World.cell?_alloc_past, World.cell?_setCell_other]; done) | (rw [World.cell?_setCell_other _ _ _ _ (by simp; try omega)]; assumption))))
    clear hK K hHeld0
    try simp only [Act.put, List.setIfInBounds_toArray, List.set_cons_zero, List.set_cons_succ]
    refine wpAnyH_ready (rs := [11]) (by kernel_rfl) (by simp) ?_
    refine (AllReadyH.cons (o := _) rfl (fun K hK => ?_) AllReadyH.nil)
    go_simp
    refine hK.out _ _ ?_ (fun hHeld12 => ?_)
    · (try dsimp only)
      (first | (with_reducible assumption) | (go_keep; done) | (refine ⟨?_, ?_, ?_, ?_, ?_, ?_⟩ <;> (first | (with_reducible assumption) | (simp [go_sem, *]; done) | (simp (disch := (simp; try omega)) [*, World.cell?_alloc_past, World.cell?_setCell_other]; done) | (rw [World.cell?_setCell_other _ _ _ _ (by simp; try omega)]; assumption))))
    clear hK K hHeld11
    try simp only [Act.put, List.setIfInBounds_toArray, List.set_cons_zero, List.set_cons_succ]
    refine wpAnyH_ready (rs := [12]) (by kernel_rfl) (by simp) ?_
    refine (AllReadyH.cons (o := _) rfl (fun K hK => ?_) AllReadyH.nil)
    refine step_append_own' rfl (.tmp 79) (.tmp 81) 23 rfl ei_letters (R := Rlt) (S := lo V) (base := W) (.slice AB q qc) (by rfl) ((HB.out.1.alloc (fun b hb => by have : b < V := hb; omega) (.cells #[.bool l.cover, .int .i64 l.fr, .int .i64 (t : Int), .int .u64 l.sq, .slice T tn tc] 34)).keep (w' := (w.alloc (.cells #[.bool l.cover, .int .i64 l.fr, .int .i64 (t : Int), .int .u64 l.sq, .slice T tn tc] 34)).drew) (fun _ _ => rfl) (fun _ _ => rfl) (fun _ h => h)) (fun b hb => ⟨by have : b < V := hb; simp; omega, fun e9 => by have : b < V := hb; have h9 := (HB.out.1.lt e9).1; omega⟩) (some ⟨w.heap.size, 0, none⟩) 1 1 (ys := [l]) (by rfl) rfl ((cellsNew rfl).up ((Below.refl _ _).drew)) (Elems.one (R := Rlt) (x := l) ⟨T, tc, by rw [HB.out.2.2.2.2.1, HB.out.2.2.1.len], HB.out.2.2.1.fr, HB.out.2.2.1.to_, HB.out.2.2.1.sq, by rw [HB.out.2.2.1.len]; exact HB.out.2.2.1.le, HB.out.2.2.1.cap, HB.out.2.2.1.text.keep (fun p hp => Below.cell (B := w.heap.size) (((Below.refl w.heap.size w).alloc (Nat.le_refl _) _).drew) (by have : p.block < V := hp; omega)) (fun _ h => h)⟩) (by rw [HB.out.2.1]; exact dlim56 (by omega)) (by rw [HB.out.2.1]; simp [maxLen]; omega) (by simp; omega) ?_
    intro v1 w5 hox hg1 hat1
    obtain ⟨A', c', rfl⟩ := hox.form
    rw [show (bx ++ [l]).length = q + 1 by rw [List.length_append, HB.out.2.1]; rfl] at hox hat1 ⊢
    have hk5 : ∀ k, k < w.heap.size → (Value.slice AB q qc).ownBlock ≠ some k → w5.heap[k]? = w.heap[k]? := fun k hk hne => (hg1.block k (by simp; omega) (fun e9 => hne e9.symm)).trans (Below.heap_alloc w _ k hk)
    have hbW : Below W w w5 := (((Below.refl W w).alloc hW _).drew).grown hg1 (by simp; omega) (fun g' hg' => (HB.out.1.lt hg').1)
    have nH : (Value.slice AB q qc).ownBlock ≠ some H := fun e9 => (HB.out.2.2.2.1 H e9).1 rfl
    have nX : (Value.slice AB q qc).ownBlock ≠ some X := fun e9 => (HB.out.2.2.2.1 X e9).2.1 rfl
    have nG : (Value.slice AB q qc).ownBlock ≠ some g := fun e9 => (HB.out.2.2.2.1 g e9).2.2 rfl
    have f1 : w5.cell? ⟨H, 1, none⟩ = some (.slice (some ⟨g, 0, none⟩) m d) := (World.cell?_of_block (a := ⟨H, 1, none⟩) (hk5 H lH nH)).trans h1
    have f2 : w5.cell? ⟨X, 0, none⟩ = some (.bool l.cover) := (World.cell?_of_block (a := ⟨X, 0, none⟩) (hk5 X lX nX)).trans x0
    have f3 : w5.cell? ⟨X, 1, none⟩ = some (.int .i64 l.fr) := (World.cell?_of_block (a := ⟨X, 1, none⟩) (hk5 X lX nX)).trans x1
    have f4 : w5.cell? ⟨X, 2, none⟩ = some (.int .i64 (t : Int)) := (World.cell?_of_block (a := ⟨X, 2, none⟩) (hk5 X lX nX)).trans x2
    have f5 : w5.cell? ⟨X, 3, none⟩ = some (.int .u64 l.sq) := (World.cell?_of_block (a := ⟨X, 3, none⟩) (hk5 X lX nX)).trans x3
    have f6 : w5.cell? ⟨X, 4, none⟩ = some (.slice T tn tc) := (World.cell?_of_block (a := ⟨X, 4, none⟩) (hk5 X lX nX)).trans x4
    have f7 : w5.cell? ⟨g, t, none⟩ = some (.slice AB q qc) := (World.cell?_of_block (a := ⟨g, t, none⟩) (hk5 g hgl nG)).trans hg
    have f8 : ∀ o, w5.frozen? ⟨g, o, none⟩ = false := fun o => by have h9 := HB.out.2.2.2.2.2 o; unfold World.frozen? at h9 ⊢; rw [hk5 g hgl nG]; exact h9
    have hgl5 : g < w5.heap.size := by have := hbW.size; omega
    have H5 := Lib.hid (And.intro hox (And.intro hk5 (And.intro hbW (show ∀ k, (Value.slice A' (q + 1) c').ownBlock = some k → k ≠ g from fun k hk e9 => by
      rcases hat1 with h9 | h9
      · rw [h9] at hk; exact (HB.out.2.2.2.1 k hk).2.2 e9
      · rw [h9] at hk; have := Option.some.inj hk; simp at this; omega))))
    clear hox hg1 hat1 hk5 hbW
    refine hK.out _ _ ?_ (fun hHeld13 => ?_)
    · (try dsimp only)
      (first | (with_reducible assumption) | (go_keep; done) | (refine ⟨?_, ?_, ?_, ?_, ?_, ?_⟩ <;> (first | (with_reducible assumption) | (simp [go_sem, *]; done) | (simp (disch := (simp; try omega)) [*, World.cell?_alloc_past, World.cell?_setCell_other]; done) | (rw [World.cell?_setCell_other _ _ _ _ (by simp; try omega)]; assumption))))
    clear hK K hHeld12
    try simp only [Act.put, List.setIfInBounds_toArray, List.set_cons_zero, List.set_cons_succ]
    refine wpAnyH_take (i := 13) (oi := _) (v := ?v14) rfl (by kernel_rfl) (by kernel_rfl) (by kernel_rfl) (fun _ _ _ h => h) (Or.inl ⟨by rfl, ?hy14⟩) (by with_reducible assumption) ?rest14
    case hy14 => (intro w hSw; (try dsimp only at hSw); go_simp; try with_reducible rfl)
    try simp only [Act.put, List.setIfInBounds_toArray, List.set_cons_zero, List.set_cons_succ]
    refine wpAnyH_ready (rs := [14]) (by kernel_rfl) (by simp) ?_
    refine (AllReadyH.cons (o := _) rfl (fun K hK => ?_) AllReadyH.nil)
    go_simp
    refine hK.out _ _ ?_ (fun hHeld15 => ?_)
    · (try dsimp only)
      (first | (with_reducible assumption) | (go_keep; done) | (refine ⟨?_, ?_, ?_, ?_, ?_, ?_⟩ <;> (first | (with_reducible assumption) | (simp [go_sem, *]; done) | (simp (disch := (simp; try omega)) [*, World.cell?_alloc_past, World.cell?_setCell_other]; done) | (rw [World.cell?_setCell_other _ _ _ _ (by simp; try omega)]; assumption))))
    clear hK K hHeld13
    try simp only [Act.put, List.setIfInBounds_toArray, List.set_cons_zero, List.set_cons_succ]
    refine wpAnyH_done (by kernel_rfl) ?_ _
    refine NoPanic.normal ?_
    clear hHeld15
    exact HK.out _ _ _ _ _ _ _ _ _ _ _ _ _ _ A' c' w5 H5.out.1 H5.out.2.1 H5.out.2.2.1 H5.out.2.2.2
  · skip
    go_simp
    refine hK.out _ _ ?_ (fun hHeld16 => ?_)
    · (try dsimp only)
      (first | (with_reducible assumption) | (go_keep; done) | (refine ⟨?_, ?_, ?_, ?_, ?_, ?_⟩ <;> (first | (with_reducible assumption) | (simp [go_sem, *]; done) | (simp (disch := (simp; try omega)) [*, World.cell?_alloc_past, World.cell?_setCell_other]; done) | (rw [World.cell?_setCell_other _ _ _ _ (by simp; try omega)]; assumption))))
    clear hK K hHeld0
    try simp only [Act.put, List.setIfInBounds_toArray, List.set_cons_zero, List.set_cons_succ]
    refine wpAnyH_ready (rs := [9]) (by kernel_rfl) (by simp) ?_
    refine (AllReadyH.cons (o := _) rfl (fun K hK => ?_) AllReadyH.nil)
    go_simp
    refine hK.out _ _ ?_ (fun hHeld17 => ?_)
    · (try dsimp only)
      (first | (with_reducible assumption) | (go_keep; done) | (refine ⟨?_, ?_, ?_, ?_, ?_, ?_⟩ <;> (first | (with_reducible assumption) | (simp [go_sem, *]; done) | (simp (disch := (simp; try omega)) [*, World.cell?_alloc_past, World.cell?_setCell_other]; done) | (rw [World.cell?_setCell_other _ _ _ _ (by simp; try omega)]; assumption))))
    clear hK K hHeld16
    try simp only [Act.put, List.setIfInBounds_toArray, List.set_cons_zero, List.set_cons_succ]
    refine wpAnyH_ready (rs := [12]) (by kernel_rfl) (by simp) ?_
    refine (AllReadyH.cons (o := _) rfl (fun K hK => ?_) AllReadyH.nil)
    refine step_append_own' rfl (.tmp 79) (.tmp 81) 23 rfl ei_letters (R := Rlt) (S := lo V) (base := W) (.slice AB q qc) (by rfl) ((HB.out.1.alloc (fun b hb => by have : b < V := hb; omega) (.cells #[.bool l.cover, .int .i64 l.fr, .int .i64 (t : Int), .int .u64 l.sq, .slice T tn tc] 34)).keep (w' := (w.alloc (.cells #[.bool l.cover, .int .i64 l.fr, .int .i64 (t : Int), .int .u64 l.sq, .slice T tn tc] 34)).drew) (fun _ _ => rfl) (fun _ _ => rfl) (fun _ h => h)) (fun b hb => ⟨by have : b < V := hb; simp; omega, fun e9 => by have : b < V := hb; have h9 := (HB.out.1.lt e9).1; omega⟩) (some ⟨w.heap.size, 0, none⟩) 1 1 (ys := [l]) (by rfl) rfl ((cellsNew rfl).up ((Below.refl _ _).drew)) (Elems.one (R := Rlt) (x := l) ⟨T, tc, by rw [HB.out.2.2.2.2.1, HB.out.2.2.1.len], HB.out.2.2.1.fr, HB.out.2.2.1.to_, HB.out.2.2.1.sq, by rw [HB.out.2.2.1.len]; exact HB.out.2.2.1.le, HB.out.2.2.1.cap, HB.out.2.2.1.text.keep (fun p hp => Below.cell (B := w.heap.size) (((Below.refl w.heap.size w).alloc (Nat.le_refl _) _).drew) (by have : p.block < V := hp; omega)) (fun _ h => h)⟩) (by rw [HB.out.2.1]; exact dlim56 (by omega)) (by rw [HB.out.2.1]; simp [maxLen]; omega) (by simp; omega) ?_
    intro v1 w5 hox hg1 hat1
    obtain ⟨A', c', rfl⟩ := hox.form
    rw [show (bx ++ [l]).length = q + 1 by rw [List.length_append, HB.out.2.1]; rfl] at hox hat1 ⊢
    have hk5 : ∀ k, k < w.heap.size → (Value.slice AB q qc).ownBlock ≠ some k → w5.heap[k]? = w.heap[k]? := fun k hk hne => (hg1.block k (by simp; omega) (fun e9 => hne e9.symm)).trans (Below.heap_alloc w _ k hk)
    have hbW : Below W w w5 := (((Below.refl W w).alloc hW _).drew).grown hg1 (by simp; omega) (fun g' hg' => (HB.out.1.lt hg').1)
    have nH : (Value.slice AB q qc).ownBlock ≠ some H := fun e9 => (HB.out.2.2.2.1 H e9).1 rfl
    have nX : (Value.slice AB q qc).ownBlock ≠ some X := fun e9 => (HB.out.2.2.2.1 X e9).2.1 rfl
    have nG : (Value.slice AB q qc).ownBlock ≠ some g := fun e9 => (HB.out.2.2.2.1 g e9).2.2 rfl
    have f1 : w5.cell? ⟨H, 1, none⟩ = some (.slice (some ⟨g, 0, none⟩) m d) := (World.cell?_of_block (a := ⟨H, 1, none⟩) (hk5 H lH nH)).trans h1
    have f2 : w5.cell? ⟨X, 0, none⟩ = some (.bool l.cover) := (World.cell?_of_block (a := ⟨X, 0, none⟩) (hk5 X lX nX)).trans x0
    have f3 : w5.cell? ⟨X, 1, none⟩ = some (.int .i64 l.fr) := (World.cell?_of_block (a := ⟨X, 1, none⟩) (hk5 X lX nX)).trans x1
    have f4 : w5.cell? ⟨X, 2, none⟩ = some (.int .i64 (t : Int)) := (World.cell?_of_block (a := ⟨X, 2, none⟩) (hk5 X lX nX)).trans x2
    have f5 : w5.cell? ⟨X, 3, none⟩ = some (.int .u64 l.sq) := (World.cell?_of_block (a := ⟨X, 3, none⟩) (hk5 X lX nX)).trans x3
    have f6 : w5.cell? ⟨X, 4, none⟩ = some (.slice T tn tc) := (World.cell?_of_block (a := ⟨X, 4, none⟩) (hk5 X lX nX)).trans x4
    have f7 : w5.cell? ⟨g, t, none⟩ = some (.slice AB q qc) := (World.cell?_of_block (a := ⟨g, t, none⟩) (hk5 g hgl nG)).trans hg
    have f8 : ∀ o, w5.frozen? ⟨g, o, none⟩ = false := fun o => by have h9 := HB.out.2.2.2.2.2 o; unfold World.frozen? at h9 ⊢; rw [hk5 g hgl nG]; exact h9
    have hgl5 : g < w5.heap.size := by have := hbW.size; omega
    have H5 := Lib.hid (And.intro hox (And.intro hk5 (And.intro hbW (show ∀ k, (Value.slice A' (q + 1) c').ownBlock = some k → k ≠ g from fun k hk e9 => by
      rcases hat1 with h9 | h9
      · rw [h9] at hk; exact (HB.out.2.2.2.1 k hk).2.2 e9
      · rw [h9] at hk; have := Option.some.inj hk; simp at this; omega))))
    clear hox hg1 hat1 hk5 hbW
    refine hK.out _ _ ?_ (fun hHeld18 => ?_)
    · (try dsimp only)
      (first | (with_reducible assumption) | (go_keep; done) | (refine ⟨?_, ?_, ?_, ?_, ?_, ?_⟩ <;> (first | (with_reducible assumption) | (simp [go_sem, *]; done) | (simp (disch := (simp; try omega)) [*, World.cell?_alloc_past, World.cell?_setCell_other]; done) | (rw [World.cell?_setCell_other _ _ _ _ (by simp; try omega)]; assumption))))
    clear hK K hHeld17
    try simp only [Act.put, List.setIfInBounds_toArray, List.set_cons_zero, List.set_cons_succ]
    refine wpAnyH_take (i := 13) (oi := _) (v := ?v19) rfl (by kernel_rfl) (by kernel_rfl) (by kernel_rfl) (fun _ _ _ h => h) (Or.inl ⟨by rfl, ?hy19⟩) (by with_reducible assumption) ?rest19
    case hy19 => (intro w hSw; (try dsimp only at hSw); go_simp; try with_reducible rfl)
    try simp only [Act.put, List.setIfInBounds_toArray, List.set_cons_zero, List.set_cons_succ]
    refine wpAnyH_ready (rs := [14]) (by kernel_rfl) (by simp) ?_
    refine (AllReadyH.cons (o := _) rfl (fun K hK => ?_) AllReadyH.nil)
    go_simp
    refine hK.out _ _ ?_ (fun hHeld20 => ?_)
    · (try dsimp only)
      (first | (with_reducible assumption) | (go_keep; done) | (refine ⟨?_, ?_, ?_, ?_, ?_, ?_⟩ <;> (first | (with_reducible assumption) | (simp [go_sem, *]; done) | (simp (disch := (simp; try omega)) [*, World.cell?_alloc_past, World.cell?_setCell_other]; done) | (rw [World.cell?_setCell_other _ _ _ _ (by simp; try omega)]; assumption))))
    clear hK K hHeld18
    try simp only [Act.put, List.setIfInBounds_toArray, List.set_cons_zero, List.set_cons_succ]
    refine wpAnyH_done (by kernel_rfl) ?_ _
    refine NoPanic.normal ?_
    clear hHeld20
    exact HK.out _ _ _ _ _ _ _ _ _ _ _ _ _ _ A' c' w5 H5.out.1 H5.out.2.1 H5.out.2.2.1 H5.out.2.2.2
end Go.Proofs.Ytcmdmmphakclmaa
