/-
  The reference's Pop: its last region, the good way, the whole.
-/
import Derived.Test.YtcmdmmphakclmaaDoesC
namespace Go.Proofs.Ytcmdmmphakclmaa
open Go.RowKit Go.Sort
set_option linter.unusedVariables false
set_option linter.unusedSimpArgs false
attribute [local go_sem ↓] Go.wp_at_zero Go.wp_at_succ

theorem r11_fin {w : World} {B R L : Nat} {tR tL : TypeId} {z0 z1 y0 y1 y2 y3 y4 : Value} (hR : Blk w R tR #[z0, z1]) (hL : Blk w L tL #[y0, y1, y2, y3, y4]) (hRL : R ≠ L) (hBR : B ≤ R) (hBL : B ≤ L) (a b v0 v1 v2 v3 v4 : Value) :
    ∃ w', (((((((w.setCell ⟨R, 0, none⟩ a).setCell ⟨R, 1, none⟩ b).setCell ⟨L, 0, none⟩ v0).setCell ⟨L, 1, none⟩ v1).setCell ⟨L, 2, none⟩ v2).setCell ⟨L, 3, none⟩ v3).setCell ⟨L, 4, none⟩ v4).drew = w' ∧ Blk w' R tR #[a, b] ∧ Blk w' L tL #[v0, v1, v2, v3, v4] ∧ (∀ k, k ≠ R → k ≠ L → w'.heap[k]? = w.heap[k]?) ∧ Below B w w' ∧ w'.heap.size = w.heap.size := by
  have hLR := hRL.symm
  have h1 : Blk (((((((w.setCell ⟨R, 0, none⟩ a).setCell ⟨R, 1, none⟩ b).setCell ⟨L, 0, none⟩ v0).setCell ⟨L, 1, none⟩ v1).setCell ⟨L, 2, none⟩ v2).setCell ⟨L, 3, none⟩ v3).setCell ⟨L, 4, none⟩ v4) R tR #[a, b] := Blk.far (Blk.far (Blk.far (Blk.far (Blk.far ((hR.set 0 a).set 1 b) hRL v0) hRL v1) hRL v2) hRL v3) hRL v4
  have h2 : Blk (((((((w.setCell ⟨R, 0, none⟩ a).setCell ⟨R, 1, none⟩ b).setCell ⟨L, 0, none⟩ v0).setCell ⟨L, 1, none⟩ v1).setCell ⟨L, 2, none⟩ v2).setCell ⟨L, 3, none⟩ v3).setCell ⟨L, 4, none⟩ v4) L tL #[v0, v1, v2, v3, v4] := ((((((hL.far hLR a).far hLR b).set 0 v0).set 1 v1).set 2 v2).set 3 v3).set 4 v4
  have h3 : ∀ k, k ≠ R → k ≠ L → (((((((w.setCell ⟨R, 0, none⟩ a).setCell ⟨R, 1, none⟩ b).setCell ⟨L, 0, none⟩ v0).setCell ⟨L, 1, none⟩ v1).setCell ⟨L, 2, none⟩ v2).setCell ⟨L, 3, none⟩ v3).setCell ⟨L, 4, none⟩ v4).heap[k]? = w.heap[k]? := fun k hk1 hk2 => (Below.heap_setCell _ ⟨L, 4, none⟩ _ k hk2).trans ((Below.heap_setCell _ ⟨L, 3, none⟩ _ k hk2).trans ((Below.heap_setCell _ ⟨L, 2, none⟩ _ k hk2).trans ((Below.heap_setCell _ ⟨L, 1, none⟩ _ k hk2).trans ((Below.heap_setCell _ ⟨L, 0, none⟩ _ k hk2).trans ((Below.heap_setCell _ ⟨R, 1, none⟩ _ k hk1).trans (Below.heap_setCell _ ⟨R, 0, none⟩ _ k hk1))))))
  have h4 : Below B w (((((((w.setCell ⟨R, 0, none⟩ a).setCell ⟨R, 1, none⟩ b).setCell ⟨L, 0, none⟩ v0).setCell ⟨L, 1, none⟩ v1).setCell ⟨L, 2, none⟩ v2).setCell ⟨L, 3, none⟩ v3).setCell ⟨L, 4, none⟩ v4) := (((((((Below.refl B w).setCell (p := ⟨R, 0, none⟩) hBR a).setCell (p := ⟨R, 1, none⟩) hBR b).setCell (p := ⟨L, 0, none⟩) hBL v0).setCell (p := ⟨L, 1, none⟩) hBL v1).setCell (p := ⟨L, 2, none⟩) hBL v2).setCell (p := ⟨L, 3, none⟩) hBL v3).setCell (p := ⟨L, 4, none⟩) hBL v4
  have h5 : (((((((w.setCell ⟨R, 0, none⟩ a).setCell ⟨R, 1, none⟩ b).setCell ⟨L, 0, none⟩ v0).setCell ⟨L, 1, none⟩ v1).setCell ⟨L, 2, none⟩ v2).setCell ⟨L, 3, none⟩ v3).setCell ⟨L, 4, none⟩ v4).heap.size = w.heap.size := by simp [World.setCell]
  generalize (((((((w.setCell ⟨R, 0, none⟩ a).setCell ⟨R, 1, none⟩ b).setCell ⟨L, 0, none⟩ v0).setCell ⟨L, 1, none⟩ v1).setCell ⟨L, 2, none⟩ v2).setCell ⟨L, 3, none⟩ v3).setCell ⟨L, 4, none⟩ v4) = X at h1 h2 h3 h4 h5 ⊢
  exact ⟨X.drew, rfl, h1, h2, h3, h4.drew, h5⟩
noncomputable def rpop_r11_code : Code := regionOf Try.f21 11
set_option maxRecDepth 100000 in
set_option maxHeartbeats 4000000 in
theorem rpop_r11 {Q : Exit → Act → World → Prop} {s0 s1 s2 s3 s6 s7 s10 s11 s12 s13 s14 s15 s16 s17 s18 s19 s20 s21 s22 s23 s24 s25 s26 s27 s28 s29 s30 s31 s32 s33 s34 s35 s36 s37 s38 s39 s40 s41 s42 s43 s44 s45 s46 s47 s48 s49 s50 s51 s52 s53 s54 s55 s56 s57 : Value} (w : World) (B H N R L : Nat) (A1 : Option Addr) (n1 c1 : Nat) (A2 : Option Addr) (n2 c2 : Nat) (l : Lt) (T : Option Addr) (tn tc : Nat) (hH : Blk w H 28 #[.slice A1 n1 c1, .slice A2 n2 c2]) (hN : Blk w N 34 #[.bool l.cover, .int .i64 l.fr, .int .i64 l.to, .int .u64 l.sq, .slice T tn tc])
    (hR : Blk w R 28 #[.slice none 0 0, .slice none 0 0]) (hL : Blk w L 34 #[.bool false, .int .i64 0, .int .i64 0, .int .u64 0, .slice none 0 0]) (hHR : H ≠ R) (hNL : N ≠ L) (hRL : R ≠ L) (hNR : N ≠ R) (hHL : H ≠ L) (hBR : B ≤ R) (hBL : B ≤ L)
    (hK : ∀ (d56 d57 : Value) (w' : World), Blk w' R 28 #[.slice A1 n1 c1, .slice A2 n2 c2] → Blk w' L 34 #[.bool l.cover, .int .i64 l.fr, .int .i64 l.to, .int .u64 l.sq, .slice T tn tc] → (∀ k, k ≠ R → k ≠ L → w'.heap[k]? = w.heap[k]?) → Below B w w' → w'.heap.size = w.heap.size →
      Q .normal ⟨#[s0, s1, s2, s3, .pointer (some ⟨R, 0, none⟩), .pointer (some ⟨L, 0, none⟩), .int .i64 0, s7, .pointer (some ⟨H, 0, none⟩), .pointer (some ⟨N, 0, none⟩), s10, s11, s12, s13, s14, s15, s16, s17, s18, s19, s20, s21, s22, s23, s24, s25, s26, s27, s28, s29, s30, s31, s32, s33, s34, s35, s36, s37, s38, s39, s40, s41, s42, s43, s44, s45, s46, s47, s48, s49, s50, s51, s52, s53, s54, s55, d56, d57], []⟩ w') :
    Code.wp Try.prog rpop_r11_code Q ⟨#[s0, s1, s2, s3, .pointer (some ⟨R, 0, none⟩), .pointer (some ⟨L, 0, none⟩), s6, s7, .pointer (some ⟨H, 0, none⟩), .pointer (some ⟨N, 0, none⟩), s10, s11, s12, s13, s14, s15, s16, s17, s18, s19, s20, s21, s22, s23, s24, s25, s26, s27, s28, s29, s30, s31, s32, s33, s34, s35, s36, s37, s38, s39, s40, s41, s42, s43, s44, s45, s46, s47, s48, s49, s50, s51, s52, s53, s54, s55, s56, s57], []⟩ w := by
  have HK := Lib.hid hK; clear hK
  have HB := Lib.hid (And.intro hR hL)
  have h0 := hH.cell 0 (v := .slice A1 n1 c1) rfl; have h1 := hH.cell 1 (v := .slice A2 n2 c2) rfl
  have n0 := hN.cell 0 (v := .bool l.cover) rfl; have n1' := hN.cell 1 (v := .int .i64 l.fr) rfl; have n2' := hN.cell 2 (v := .int .i64 l.to) rfl; have n3 := hN.cell 3 (v := .int .u64 l.sq) rfl; have n4 := hN.cell 4 (v := .slice T tn tc) rfl
  have r0 := hR.cell 0 (v := .slice none 0 0) rfl; have r1 := hR.cell 1 (v := .slice none 0 0) rfl; have fR := hR.frozen
  have m0 := hL.cell 0 (v := .bool false) rfl; have m1 := hL.cell 1 (v := .int .i64 0) rfl; have m2 := hL.cell 2 (v := .int .i64 0) rfl; have m3 := hL.cell 3 (v := .int .u64 0) rfl; have m4 := hL.cell 4 (v := .slice none 0 0) rfl; have fL := hL.frozen
  have lH := hH.lt; have lN := hN.lt; have lR := hR.lt; have lL := hL.lt
  have hRH := hHR.symm; have hLN := hNL.symm; have hLR := hRL.symm; have hRN := hNR.symm; have hLH := hHL.symm
  clear hH hN hR hL
  conv => arg 2; whnf
  refine wp_region_noPanic ?_
  refine wp_region_held_drew (S := (fun w' => R < w'.heap.size)) (by kernel_rfl) ?_ (fun hHeld0 => ?_)
  · (try dsimp only)
    (first | (with_reducible assumption) | (go_keep; done) | omega | (simp; omega) | (simp [World.setCell]; omega))
  refine wpAnyH_ready (rs := [0, 1]) (by kernel_rfl) (by simp) ?_
  refine (AllReadyH.cons (o := _) rfl (fun K hK => ?_) (AllReadyH.cons (o := _) rfl (fun K hK => ?_) AllReadyH.nil))
  · skip
    go_simp
    refine hK.out _ _ ?_ (fun hHeld1 => ?_)
    · (try dsimp only)
      (first | (with_reducible assumption) | (go_keep; done) | omega | (simp; omega) | (simp [World.setCell]; omega))
    clear hK K hHeld0
    try simp only [Act.put, List.setIfInBounds_toArray, List.set_cons_zero, List.set_cons_succ]
    refine wpAnyH_ready (rs := [1, 2]) (by kernel_rfl) (by simp) ?_
    refine (AllReadyH.cons (o := _) rfl (fun K hK => ?_) (AllReadyH.cons (o := _) rfl (fun K hK => ?_) AllReadyH.nil))
    · skip
      go_simp
      refine hK.out _ _ ?_ (fun hHeld2 => ?_)
      · (try dsimp only)
        (first | (with_reducible assumption) | (go_keep; done) | omega | (simp; omega) | (simp [World.setCell]; omega))
      clear hK K hHeld1
      try simp only [Act.put, List.setIfInBounds_toArray, List.set_cons_zero, List.set_cons_succ]
      refine wpAnyH_ready (rs := [2]) (by kernel_rfl) (by simp) ?_
      refine (AllReadyH.cons (o := _) rfl (fun K hK => ?_) AllReadyH.nil)
      go_simp
      refine hK.out _ _ ?_ (fun hHeld3 => ?_)
      · (try dsimp only)
        (first | (with_reducible assumption) | (go_keep; done) | omega | (simp; omega) | (simp [World.setCell]; omega))
      clear hK K hHeld2
      try simp only [Act.put, List.setIfInBounds_toArray, List.set_cons_zero, List.set_cons_succ]
      refine wpAnyH_ready (rs := [3]) (by kernel_rfl) (by simp) ?_
      refine (AllReadyH.cons (o := _) rfl (fun K hK => ?_) AllReadyH.nil)
      go_simp
      refine hK.out _ _ ?_ (fun hHeld4 => ?_)
      · (try dsimp only)
        (first | (with_reducible assumption) | (go_keep; done) | omega | (simp; omega) | (simp [World.setCell]; omega))
      clear hK K hHeld3
      try simp only [Act.put, List.setIfInBounds_toArray, List.set_cons_zero, List.set_cons_succ]
      refine wpAnyH_take (i := 4) (oi := _) (v := ?v5) rfl (by kernel_rfl) (by kernel_rfl) (by kernel_rfl) (fun _ _ _ h => h) (Or.inl ⟨by rfl, ?hy5⟩) (by with_reducible assumption) ?rest5
      case hy5 => (intro w hSw; (try dsimp only at hSw); go_simp; try with_reducible rfl)
      try simp only [Act.put, List.setIfInBounds_toArray, List.set_cons_zero, List.set_cons_succ]
      refine wpAnyH_done (by kernel_rfl) ?_ _
      refine NoPanic.normal ?_
      clear hHeld4
      obtain ⟨w', hw', HF1, HF2, HF3, HF4, HF5⟩ := r11_fin (w := w) HB.out.1 HB.out.2 hRL hBR hBL (.slice A1 n1 c1) (.slice A2 n2 c2) (.bool l.cover) (.int .i64 l.fr) (.int .i64 l.to) (.int .u64 l.sq) (.slice T tn tc)
      rw [hw']
      exact HK.out _ _ w' HF1 HF2 HF3 HF4 HF5
    · skip
      go_simp
      refine hK.out _ _ ?_ (fun hHeld6 => ?_)
      · (try dsimp only)
        (first | (with_reducible assumption) | (go_keep; done) | omega | (simp; omega) | (simp [World.setCell]; omega))
      clear hK K hHeld1
      try simp only [Act.put, List.setIfInBounds_toArray, List.set_cons_zero, List.set_cons_succ]
      refine wpAnyH_ready (rs := [1]) (by kernel_rfl) (by simp) ?_
      refine (AllReadyH.cons (o := _) rfl (fun K hK => ?_) AllReadyH.nil)
      go_simp
      refine hK.out _ _ ?_ (fun hHeld7 => ?_)
      · (try dsimp only)
        (first | (with_reducible assumption) | (go_keep; done) | omega | (simp; omega) | (simp [World.setCell]; omega))
      clear hK K hHeld6
      try simp only [Act.put, List.setIfInBounds_toArray, List.set_cons_zero, List.set_cons_succ]
      refine wpAnyH_ready (rs := [3]) (by kernel_rfl) (by simp) ?_
      refine (AllReadyH.cons (o := _) rfl (fun K hK => ?_) AllReadyH.nil)
      go_simp
      refine hK.out _ _ ?_ (fun hHeld8 => ?_)
      · (try dsimp only)
        (first | (with_reducible assumption) | (go_keep; done) | omega | (simp; omega) | (simp [World.setCell]; omega))
      clear hK K hHeld7
      try simp only [Act.put, List.setIfInBounds_toArray, List.set_cons_zero, List.set_cons_succ]
      refine wpAnyH_take (i := 4) (oi := _) (v := ?v9) rfl (by kernel_rfl) (by kernel_rfl) (by kernel_rfl) (fun _ _ _ h => h) (Or.inl ⟨by rfl, ?hy9⟩) (by with_reducible assumption) ?rest9
      case hy9 => (intro w hSw; (try dsimp only at hSw); go_simp; try with_reducible rfl)
      try simp only [Act.put, List.setIfInBounds_toArray, List.set_cons_zero, List.set_cons_succ]
      refine wpAnyH_done (by kernel_rfl) ?_ _
      refine NoPanic.normal ?_
      clear hHeld8
      obtain ⟨w', hw', HF1, HF2, HF3, HF4, HF5⟩ := r11_fin (w := w) HB.out.1 HB.out.2 hRL hBR hBL (.slice A1 n1 c1) (.slice A2 n2 c2) (.bool l.cover) (.int .i64 l.fr) (.int .i64 l.to) (.int .u64 l.sq) (.slice T tn tc)
      rw [hw']
      exact HK.out _ _ w' HF1 HF2 HF3 HF4 HF5
  · skip
    go_simp
    refine hK.out _ _ ?_ (fun hHeld10 => ?_)
    · (try dsimp only)
      (first | (with_reducible assumption) | (go_keep; done) | omega | (simp; omega) | (simp [World.setCell]; omega))
    clear hK K hHeld0
    try simp only [Act.put, List.setIfInBounds_toArray, List.set_cons_zero, List.set_cons_succ]
    refine wpAnyH_ready (rs := [0]) (by kernel_rfl) (by simp) ?_
    refine (AllReadyH.cons (o := _) rfl (fun K hK => ?_) AllReadyH.nil)
    go_simp
    refine hK.out _ _ ?_ (fun hHeld11 => ?_)
    · (try dsimp only)
      (first | (with_reducible assumption) | (go_keep; done) | omega | (simp; omega) | (simp [World.setCell]; omega))
    clear hK K hHeld10
    try simp only [Act.put, List.setIfInBounds_toArray, List.set_cons_zero, List.set_cons_succ]
    refine wpAnyH_ready (rs := [2]) (by kernel_rfl) (by simp) ?_
    refine (AllReadyH.cons (o := _) rfl (fun K hK => ?_) AllReadyH.nil)
    go_simp
    refine hK.out _ _ ?_ (fun hHeld12 => ?_)
    · (try dsimp only)
      (first | (with_reducible assumption) | (go_keep; done) | omega | (simp; omega) | (simp [World.setCell]; omega))
    clear hK K hHeld11
    try simp only [Act.put, List.setIfInBounds_toArray, List.set_cons_zero, List.set_cons_succ]
    refine wpAnyH_ready (rs := [3]) (by kernel_rfl) (by simp) ?_
    refine (AllReadyH.cons (o := _) rfl (fun K hK => ?_) AllReadyH.nil)
    go_simp
    refine hK.out _ _ ?_ (fun hHeld13 => ?_)
    · (try dsimp only)
      (first | (with_reducible assumption) | (go_keep; done) | omega | (simp; omega) | (simp [World.setCell]; omega))
    clear hK K hHeld12
    try simp only [Act.put, List.setIfInBounds_toArray, List.set_cons_zero, List.set_cons_succ]
    refine wpAnyH_take (i := 4) (oi := _) (v := ?v14) rfl (by kernel_rfl) (by kernel_rfl) (by kernel_rfl) (fun _ _ _ h => h) (Or.inl ⟨by rfl, ?hy14⟩) (by with_reducible assumption) ?rest14
    case hy14 => (intro w hSw; (try dsimp only at hSw); go_simp; try with_reducible rfl)
    try simp only [Act.put, List.setIfInBounds_toArray, List.set_cons_zero, List.set_cons_succ]
    refine wpAnyH_done (by kernel_rfl) ?_ _
    refine NoPanic.normal ?_
    clear hHeld13
    obtain ⟨w', hw', HF1, HF2, HF3, HF4, HF5⟩ := r11_fin (w := w) HB.out.1 HB.out.2 hRL hBR hBL (.slice A1 n1 c1) (.slice A2 n2 c2) (.bool l.cover) (.int .i64 l.fr) (.int .i64 l.to) (.int .u64 l.sq) (.slice T tn tc)
    rw [hw']
    exact HK.out _ _ w' HF1 HF2 HF3 HF4 HF5
set_option maxRecDepth 100000 in
set_option maxHeartbeats 4000000 in
theorem rpop_ok (A : Option Addr) (n cap : Nat) (b off : Nat) (m cap' : Nat) (s : St) (c : Nat) (w : World) (hs : StAt w (lo w.heap.size) A n (some ⟨b, off, none⟩) m s) (hf : StFit 140737488355328 s) (hc : checkB s = true) (hcm : c < m) (d1 : decide (m ≤ c) = false) (T : Option Addr) (q tc : Nat) (hbl : b < w.heap.size) (hx : w.cell? ⟨b, off + c, none⟩ = some (.slice T q tc))
    (l : Lt) (rest : List Lt) (hbox : s.boxes[c]? = some (l :: rest)) (hq : (l :: rest).length = q) (d2 : ((q : Int) == 0) = false) (hm8 : m ≤ 8) :
    Calls Try.prog 21 #[.agg #[.slice A n cap, .slice (some ⟨b, off, none⟩) m cap'], .int .i64 (c : Int)] w (RPopRet (popIn s c rest) l 0 w) := by
  have HC := Lib.hid (show errArg (checkB s) = 0 by rw [hc]; rfl); clear hc
  have HQ1 := Lib.hid hq
  have hq1 : 1 ≤ q := by simp at hq; omega
  have hqm : q * 56 ≤ 140737488355328 := by have := hf.box _ (List.mem_of_getElem? hbox); omega
  have HBOX := Lib.hid hbox; clear hbox hq
  have HF := Lib.hid hf; clear hf
  have e1 : (0 : Int) ≤ (c : Int) := by omega
  have e2 : (c : Int) < (m : Int) := by omega
  have HS0 := Lib.hid hs
  have HS := Lib.hid (hs.below (V3.below w (.slice A n cap) (.slice (some ⟨b, off, none⟩) m cap')) (V3.below w (.slice A n cap) (.slice (some ⟨b, off, none⟩) m cap')).size); clear hs
  go_enter Try.func21, Try.ntmps21
  go_upto_region 9 with (first
    | (go_at_call 22
       go_loud (skip
                refine (rcheck_any A n cap (some ⟨b, off, none⟩) m cap' s _ HS.out).mono ?_; rintro e w1 ⟨rfl, hb1⟩; rw [HC.out]
                have HBV := Lib.hid (show Below (w.heap.size + 3) (V3 w (.slice A n cap) (.slice (some ⟨b, off, none⟩) m cap')) w1 from (by have h9 := hb1; rw [← V3.size w (.slice A n cap) (.slice (some ⟨b, off, none⟩) m cap')]; exact h9))
                obtain ⟨gS, gR, gL⟩ := memV HBV.out
                have z1 : w.heap.size + 3 ≤ w1.heap.size := by (have h9 := HBV.out.size; rw [V3.size] at h9; omega)
                have a0 := gS.cell 0 (v := .slice A n cap) rfl; have a1 := gS.cell 1 (v := .slice (some ⟨b, off, none⟩) m cap') rfl
                have HB1 := Lib.hid ((V3.below w (.slice A n cap) (.slice (some ⟨b, off, none⟩) m cap')).trans (HBV.out.mono (by omega)))
                have HM1 := Lib.hid (And.intro gR gL)
                clear gS gR gL hb1
                have x0 := (HB1.out.cell (p := ⟨b, off + c, none⟩) hbl).trans hx))
    | (go_at_call 27
       go_loud (skip
                refine (own_any w1 A n cap (some ⟨b, off, none⟩) m cap' s w.heap.size (by omega) (HS0.out.keep (fun p hp => HB1.out.cell hp) (fun _ h => h)) HF.out).mono ?_
                rintro e w2 ⟨W, ρ, A2, n2, c2, B2, m2, k2, bvs, rfl, hO, hn2, hm2, hW1, hW2, hb2⟩
                obtain rfl : n2 = n := hn2.symm.trans HS.out.lastN
                obtain rfl : m2 = m := hm2.symm.trans HS.out.boxesN
                have z2 := hb2.size
                have HO := Lib.hid (And.intro hO (And.intro hm2 hb2))
                clear hO hn2 hm2 hb2 a0 a1 x0)))
  obtain ⟨g, hgA, hgW, hgl, hgf, -, hgm⟩ := HO.out.1.row.addr (by rw [HO.out.1.len, HO.out.2.1]; omega)
  subst hgA
  have hv := List.getElem?_eq_getElem (l := bvs) (i := c) (by rw [HO.out.1.len, HO.out.2.1]; exact hcm)
  generalize bvs[c]'(by rw [HO.out.1.len, HO.out.2.1]; exact hcm) = v at hv
  obtain ⟨ho, hor⟩ := HO.out.1.box c v (l :: rest) hv HBOX.out
  obtain ⟨A3, q3, rfl⟩ := ho.form
  rw [HQ1.out] at ho hor hv
  obtain ⟨G, hGA, hGW, hGl, hGf, -, hGq⟩ := ho.addr (by simp)
  subst hGA
  obtain ⟨-, -, hq3m0, hsl⟩ := ho.slice (S' := fun k => Ap w2 w.heap.size W k ∧ k ≠ g) (fun b hb => by have h9 : b < w.heap.size := hb; exact ⟨⟨by omega, .inl h9⟩, by omega⟩) (fun g' hg' hlt => ⟨⟨hlt, .inr (ho.lt hg').1⟩, fun e9 => by have h8 := hor g' hg'; have h9 := HO.out.1.rowR g rfl; rw [e9, h9] at h8; omega⟩)
  obtain ⟨T9, tn9, tc9, hGS, ht1, ht2, ht3, ht4, f0, f1, f2, f3, f4, hrest⟩ := first_at hsl
  obtain ⟨cells, hel, hce⟩ := HO.out.1.row.cells
  have hGc : w2.cell? ⟨g, c, none⟩ = some (.slice (some ⟨G, 0, none⟩) q q3) := by
    obtain ⟨cs, ⟨rfl, _⟩, hcc⟩ := hel.2 c _ hv
    have h9 := hcc 0 _ rfl
    obtain ⟨bb, oo, hA, hcell⟩ := hce _ _ h9
    injection hA with e; injection e with e1 e2
    subst e1 e2
    simpa [Rraw] using hcell
  have HT := Lib.hid (And.intro ht1 (And.intro ht4 hrest))
  have HQM := Lib.hid hq3m0
  clear hq3m0 hv ho hor hsl ht1 ht2 ht3 ht4 hrest hel hce
  go_upto_region 10 with fail
  have gN : Blk ((w2.alloc (.cells #[.slice A2 n2 c2, .slice (some ⟨g, 0, none⟩) m2 k2] 28)).alloc (.cells #[.bool l.cover, .int .i64 l.fr, .int .i64 l.to, .int .u64 l.sq, .slice T9 tn9 tc9] 34)) w2.heap.size 28 #[.slice A2 n2 c2, .slice (some ⟨g, 0, none⟩) m2 k2] := (Blk.new _ _ _ rfl).alloc _
  have gV : Blk ((w2.alloc (.cells #[.slice A2 n2 c2, .slice (some ⟨g, 0, none⟩) m2 k2] 28)).alloc (.cells #[.bool l.cover, .int .i64 l.fr, .int .i64 l.to, .int .u64 l.sq, .slice T9 tn9 tc9] 34)) (w2.heap.size + 1) 34 #[.bool l.cover, .int .i64 l.fr, .int .i64 l.to, .int .u64 l.sq, .slice T9 tn9 tc9] := Blk.new _ _ _ (by simp)
  have hbW : Below w2.heap.size w2 ((w2.alloc (.cells #[.slice A2 n2 c2, .slice (some ⟨g, 0, none⟩) m2 k2] 28)).alloc (.cells #[.bool l.cover, .int .i64 l.fr, .int .i64 l.to, .int .u64 l.sq, .slice T9 tn9 tc9] 34)) := ((Below.refl _ _).alloc (Nat.le_refl _) _).alloc (by simp) _
  have zW : ((w2.alloc (.cells #[.slice A2 n2 c2, .slice (some ⟨g, 0, none⟩) m2 k2] 28)).alloc (.cells #[.bool l.cover, .int .i64 l.fr, .int .i64 l.to, .int .u64 l.sq, .slice T9 tn9 tc9] 34)).heap.size = w2.heap.size + 2 := by simp
  generalize (w2.alloc (.cells #[.slice A2 n2 c2, .slice (some ⟨g, 0, none⟩) m2 k2] 28)).alloc (.cells #[.bool l.cover, .int .i64 l.fr, .int .i64 l.to, .int .u64 l.sq, .slice T9 tn9 tc9] 34) = WW at *
  have hOW := HO.out.1.up hbW (by omega)
  have hfW : ∀ o, WW.frozen? ⟨g, o, none⟩ = false := fun o => by have h9 := hgf o; unfold World.frozen? at h9 ⊢; rw [hbW.block g hgl]; exact h9
  have hgc := (hbW.cell (p := ⟨g, c, none⟩) hgl).trans hGc
  obtain ⟨A0, hA0⟩ : ∃ A0 : Option Addr, (if q3 = 1 then some (⟨G, 0, none⟩ : Addr) else some ⟨G, 5, none⟩) = A0 := ⟨_, rfl⟩
  have hR0 : Sl Rlt WW (fun k => Ap WW w.heap.size W k ∧ k ≠ g) A0 rest := by
    rw [← hA0]
    split
    · rename_i hq9
      have h9 := HQ1.out
      obtain rfl : rest = [] := List.eq_nil_of_length_eq_zero (by simp at h9; omega)
      exact Sl.nil _ _ _ _
    · exact HT.out.2.2.keep (fun p hp => hbW.cell (p := p) hp.1.1) (fun k hk => ⟨⟨by have := hk.1.1; omega, hk.1.2⟩, hk.2⟩)
  have hrl : rest.length = q - 1 := by have h9 := HQ1.out; simp at h9; omega
  have hPB := hOW.putBox (w' := WW) (i := c) (by omega) (by omega) (by rw [HO.out.2.1]; exact hcm) (fun _ _ _ => rfl) (Nat.le_refl _) hR0 hrl (c' := q3 - 1) (by omega) (by have := HQM.out; omega)
  have HW := Lib.hid (And.intro gN (And.intro gV (And.intro hbW (And.intro hPB (And.intro hA0 (And.intro hfW hgc))))))
  clear gN gV hbW hPB hA0 hfW hgc hOW hR0 hrl f0 f1 f2 f3 f4 hGc
  refine rpop_r10 WW w2.heap.size g G m2 k2 c q q3 (.slice A2 n2 c2) A0 HW.out.1 HW.out.2.2.2.2.2.2 HW.out.2.2.2.2.2.1 (by omega) hcm hm8 hq1 (by omega) HW.out.2.2.2.2.1 ?_
  intro d46 d47 d48 d49 d50 d51 d52 d53 d54 d55 w3 hh3 _ hb3
  have hz3 : w3.heap.size = WW.heap.size := by rw [hh3]; simp [World.setCell]
  have hk3 : ∀ k, k ≠ g → w3.heap[k]? = WW.heap[k]? := fun k hk => by rw [hh3]; exact Below.heap_setCell WW ⟨g, c, none⟩ _ k hk
  have hH3 : Blk w3 w2.heap.size 28 #[.slice A2 n2 c2, .slice (some ⟨g, 0, none⟩) m2 k2] := (hk3 _ (by omega)).trans HW.out.1
  have hN3 : Blk w3 (w2.heap.size + 1) 34 #[.bool l.cover, .int .i64 l.fr, .int .i64 l.to, .int .u64 l.sq, .slice T9 tn9 tc9] := (hk3 _ (by omega)).trans HW.out.2.1
  have hb1W : Below w1.heap.size w1 WW := HO.out.2.2.trans (HW.out.2.2.1.mono z2)
  have hR3 := (hk3 (w.heap.size + 1) (by omega)).trans ((hb1W.block _ (by omega)).trans HM1.out.1)
  have hL3 := (hk3 (w.heap.size + 2) (by omega)).trans ((hb1W.block _ (by omega)).trans HM1.out.2)
  have hS3 : StAt w3 (Ap WW w.heap.size W) A2 n2 (some ⟨g, 0, none⟩) m2 (popIn s c rest) := (show StAt _ _ A2 n2 (some ⟨g, 0, none⟩) m2 (popIn s c rest) from HW.out.2.2.2.1).keep (fun p hp => World.cell?_of_block (by rw [hh3])) (fun _ h => h)
  have hT3 : Sl (Rint .u8) w3 (fun k => Ap w2 w.heap.size W k ∧ k ≠ g) T9 l.text := HT.out.2.1.keep (fun p hp => (World.cell?_of_block (hk3 _ hp.2)).trans (HW.out.2.2.1.cell (p := p) hp.1.1)) (fun _ h => h)
  have H3 := Lib.hid (And.intro hH3 (And.intro hN3 (And.intro hR3 (And.intro hL3 (And.intro hS3 (And.intro hT3 ((HB1.out.trans (hb1W.mono (by omega))).trans (hb3 _ (by omega)))))))))
  clear hh3 hk3 hH3 hN3 hR3 hL3 hS3 hT3 hb1W hb3
  go_upto_region 11 with fail
  refine rpop_r11 w3 w.heap.size w2.heap.size (w2.heap.size + 1) (w.heap.size + 1) (w.heap.size + 1 + 1) A2 n2 c2 (some ⟨g, 0, none⟩) m2 k2 l T9 tn9 tc9 H3.out.1 H3.out.2.1 H3.out.2.2.1 H3.out.2.2.2.1 (by omega) (by omega) (by omega) (by omega) (by omega) (by omega) (by omega) ?_
  intro d56 d57 w4 hR4 hL4 hk4 hb4 hz4
  have r0 := hR4.cell 0 (v := .slice A2 n2 c2) rfl; have r1 := hR4.cell 1 (v := .slice (some ⟨g, 0, none⟩) m2 k2) rfl
  have r2 := hL4.cell 0 (v := .bool l.cover) rfl; have r3 := hL4.cell 1 (v := .int .i64 l.fr) rfl; have r4 := hL4.cell 2 (v := .int .i64 l.to) rfl; have r5 := hL4.cell 3 (v := .int .u64 l.sq) rfl; have r6 := hL4.cell 4 (v := .slice T9 tn9 tc9) rfl
  go_wp2
  refine bodyPost_ret (v := .tuple #[.agg #[.slice A2 n2 c2, .slice (some ⟨g, 0, none⟩) m2 k2], .agg #[.bool l.cover, .int .i64 l.fr, .int .i64 l.to, .int .u64 l.sq, .slice T9 tn9 tc9], .int .i64 0]) (by simp [results, Try.results21, go_sem, r0, r1, r2, r3, r4, r5, r6]) rfl ?_
  refine ⟨A2, n2, c2, _, m2, k2, T9, tn9, tc9, rfl, ?_, HT.out.1, ?_, H3.out.2.2.2.2.2.2.trans hb4⟩
  · refine H3.out.2.2.2.2.1.keep (fun p hp => World.cell?_of_block (hk4 _ ?_ ?_)) (fun b hb => by have h9 := hb.1; show b < _; omega)
    · rcases hp.2 with h9 | h9 <;> omega
    · rcases hp.2 with h9 | h9 <;> omega
  · refine H3.out.2.2.2.2.2.1.keep (fun p hp => World.cell?_of_block (hk4 _ ?_ ?_)) (fun b hb => by have h9 := hb.1.1; show b < _; omega)
    · rcases hp.1.2 with h9 | h9 <;> omega
    · rcases hp.1.2 with h9 | h9 <;> omega
theorem rpop_any (A : Option Addr) (n cap : Nat) (B : Option Addr) (m cap' : Nat) (s : St) (c : Int) (w : World) (hs : StAt w (lo w.heap.size) A n B m s) (hf : StFit 140737488355328 s) :
    Calls Try.prog 21 #[.agg #[.slice A n cap, .slice B m cap'], .int .i64 c] w (RPopRet (popR s c).1 (popR s c).2.1 (popR s c).2.2 w) := by
  by_cases hc : checkB s = true
  rotate_left
  · have e : popR s c = (noSt, noLt, 1) := by unfold popR; rw [if_neg hc]
    rw [e]
    exact (rpop_bad A n cap B m cap' s c w hs (by simpa using hc)).mono fun _ _ h => h.weak
  obtain ⟨hp1, hp8, hpm⟩ := check_lens hc
  have hn := hs.lastN; have hm := hs.boxesN
  by_cases h0 : c < 0
  · have e : popR s c = (noSt, noLt, 1) := by unfold popR; rw [if_pos hc, if_pos (Or.inl h0)]
    rw [e]
    exact (rpop_out1 A n cap B m cap' s c w hs hc (decide_eq_true h0)).mono fun _ _ h => h.weak
  obtain ⟨k, rfl⟩ : ∃ k : Nat, c = k := ⟨c.toNat, by omega⟩
  by_cases h1 : m ≤ k
  · have e : popR s (k : Int) = (noSt, noLt, 1) := by unfold popR; rw [if_pos hc, if_pos (Or.inr (by omega))]
    rw [e]
    exact (rpop_out2 A n cap B m cap' s k w hs hc (decide_eq_true h1)).mono fun _ _ h => h.weak
  have hbx := List.getElem?_eq_getElem (l := s.boxes) (i := k) (by omega)
  generalize s.boxes[k]'(by omega) = box at hbx
  have hbo : boxOf s (k : Int) = box := by unfold boxOf; rw [Int.toNat_natCast, List.getD_eq_getElem?_getD, hbx]; rfl
  obtain ⟨b, off, T, q, qc, rfl, hbl, hq, _, _, hT, x0⟩ := hs.boxes.sub hbx
  have e : popR s (k : Int) = popB s k box := by
    unfold popR; rw [if_pos hc, if_neg (by omega), hbo, Int.toNat_natCast]
  rw [e]
  rcases box with _ | ⟨l, rest⟩
  · obtain rfl : q = 0 := by simpa using hq.symm
    exact (rpop_none A n cap b off m cap' s k w hs hc (by omega) (decide_eq_false h1) T qc hbl x0).mono fun _ _ h => h.weak
  · exact rpop_ok A n cap b off m cap' s k w hs hf hc (by omega) (decide_eq_false h1) T q qc hbl x0 l rest hbx hq (by simp at hq; simp; omega) (by omega)
end Go.Proofs.Ytcmdmmphakclmaa
