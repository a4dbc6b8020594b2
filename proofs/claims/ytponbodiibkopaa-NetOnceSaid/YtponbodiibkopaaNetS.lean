/-
  net.Send: its two drawn regions (a flight appended, its bytes cloned).
-/
import Derived.Test.YtponbodiibkopaaNetA
import Derived.Deep.RegionHeld3
namespace Go.Proofs.Ytponbodiibkopaa
open Go.RowKit Go.Sort
set_option linter.unusedVariables false
set_option linter.unusedSimpArgs false
attribute [local go_sem ↓] Go.wp_at_zero Go.wp_at_succ

theorem ready_flight {w w1 : World} {T : Option Addr} {n c : Nat} {l : Fl} {B : Nat} {e : TypeId} {X : Nat → Prop} {v : Value} {xs : List Fl} (ht : (Lit.int .i64 l.tm).wf = true) (hf : (Lit.int .i64 l.fr).wf = true) (hg : (Lit.int .i64 l.tgt).wf = true) (hn : l.body.length = n) (hl : n ≤ c) (hm : c ≤ maxLen) (hs : Sl (Rint .u8) w1 (mid w.heap.size w1.heap.size) T l.body) (hb1 : Below w.heap.size w w1) (ho : OwnX Rfl w B e X v xs) (hX : ∀ k, X k → k < w.heap.size) (hb : B ≤ w.heap.size) :
    OwnX Rfl (w1.alloc (.cells #[.int .i64 l.tm, .int .i64 l.fr, .int .i64 l.tgt, .slice T n c] 37)) B e X v xs ∧
    CellsAt (w1.alloc (.cells #[.int .i64 l.tm, .int .i64 l.fr, .int .i64 l.tgt, .slice T n c] 37)) (some ⟨w1.heap.size, 0, none⟩) [.int .i64 l.tm, .int .i64 l.fr, .int .i64 l.tgt, .slice T n c] ∧
    Elems Rfl (w1.alloc (.cells #[.int .i64 l.tm, .int .i64 l.fr, .int .i64 l.tgt, .slice T n c] 37)) (mid w.heap.size w1.heap.size) [l] [.int .i64 l.tm, .int .i64 l.fr, .int .i64 l.tgt, .slice T n c] ∧
    (∀ k, mid w.heap.size w1.heap.size k → B ≤ k ∧ k < (w1.alloc (.cells #[.int .i64 l.tm, .int .i64 l.fr, .int .i64 l.tgt, .slice T n c] 37)).heap.size ∧ ¬ X k ∧ v.ownBlock ≠ some k) ∧
    ¬ X (w1.alloc (.cells #[.int .i64 l.tm, .int .i64 l.fr, .int .i64 l.tgt, .slice T n c] 37)).heap.size ∧ B ≤ (w1.alloc (.cells #[.int .i64 l.tm, .int .i64 l.fr, .int .i64 l.tgt, .slice T n c] 37)).heap.size ∧ (w1.alloc (.cells #[.int .i64 l.tm, .int .i64 l.fr, .int .i64 l.tgt, .slice T n c] 37)).heap.size = w1.heap.size + 1 := by
  have hz := hb1.size
  refine ⟨?_, ?_, ?_, fun k hk => ⟨by have := hk.1; omega, by have := hk.2; simp; omega, fun h => by have := hX k h; have := hk.1; omega, fun e => by have := (ho.lt e).2.1; have := hk.1; omega⟩, fun h => ?_, by simp; omega, by simp⟩
  · exact ho.frame (fun k _ hk _ => (Below.heap_alloc w1 _ k (by omega)).trans (hb1.block k hk)) (by simp; omega) (fun _ _ _ h => h)
  · have := cellsNew (w := w1) (g := w1.heap.size) (cs := #[.int .i64 l.tm, .int .i64 l.fr, .int .i64 l.tgt, .slice T n c]) (t := 37) rfl
    exact this
  · subst hn
    exact Elems.one (R := Rfl) (x := l) ⟨T, c, rfl, ht, hf, hg, hl, hm, hs.keep (fun p hp => World.cell?_alloc_lt _ _ _ hp.2) (fun _ h => h)⟩
  · have := hX _ h; simp at this; omega
noncomputable def nsend_r9_code : Code := regionOf Try.f11 9
set_option maxRecDepth 100000 in
set_option maxHeartbeats 2000000 in
theorem nsend_r9 {Q : Exit → Act → World → Prop} {s0 s1 s5 s6 s7 s8 s9 s10 s12 s14 s15 s16 s17 s18 s19 s20 s21 s22 s23 s24 s25 s26 s27 s28 s29 s30 s31 s32 s33 s34 s35 s36 s37 s38 s39 s40 s41 s42 s43 s44 s45 s46 s47 s48 s49 s50 s51 s52 s53 s54 s55 s56 s57 s58 s59 s60 s61 s62 s63 s64 s65 s66 : Value} (w : World) (B E : Nat) (vF : Value) (X : Nat → Prop) (vL : Value) (xs : List Fl) (tm fr tgt : Int) (body : List Int) (T : Option Addr) (n c : Nat)
    (hE : Blk w E 25 #[vL, vF]) (ho : OwnX Rfl w B 37 X vL xs) (hXE : X E) (hX : ∀ k, X k → k < w.heap.size) (hBE : B ≤ E) (hn : body.length = n) (hT : Sl (Rint .u8) w (lo w.heap.size) T body) (hz : n ≤ 140737488355328) (hz2 : (xs.length + 1) * 48 ≤ 140737488355328)
    (ht : (Lit.int .i64 (tm)).wf = true) (hf : (Lit.int .i64 fr).wf = true) (hg : (Lit.int .i64 tgt).wf = true)
    (hK : ∀ (d39 d40 d41 d42 d43 d44 d45 d46 d47 d48 d49 : Value) (A' : Option Addr) (cap : Nat) (w' : World), Blk w' E 25 #[.slice A' (xs.length + 1) cap, vF] → OwnX Rfl w' B 37 X (.slice A' (xs.length + 1) cap) (xs ++ [⟨tm, fr, tgt, body⟩]) → (∀ k, k < w.heap.size → k ≠ E → vL.ownBlock ≠ some k → w'.heap[k]? = w.heap[k]?) → w.heap.size ≤ w'.heap.size →
      Below B w w' → Q .normal ⟨#[s0, s1, .int .i64 fr, .int .i64 tgt, .slice T n c, s5, s6, s7, s8, s9, s10, .pointer (some ⟨E, 0, none⟩), s12, .int .i64 tm, s14, s15, s16, s17, s18, s19, s20, s21, s22, s23, s24, s25, s26, s27, s28, s29, s30, s31, s32, s33, s34, s35, s36, s37, s38, d39, d40, d41, d42, d43, d44, d45, d46, d47, d48, d49, s50, s51, s52, s53, s54, s55, s56, s57, s58, s59, s60, s61, s62, s63, s64, s65, s66], []⟩ w') :
    Code.wp Try.prog nsend_r9_code Q ⟨#[s0, s1, .int .i64 fr, .int .i64 tgt, .slice T n c, s5, s6, s7, s8, s9, s10, .pointer (some ⟨E, 0, none⟩), s12, .int .i64 tm, s14, s15, s16, s17, s18, s19, s20, s21, s22, s23, s24, s25, s26, s27, s28, s29, s30, s31, s32, s33, s34, s35, s36, s37, s38, s39, s40, s41, s42, s43, s44, s45, s46, s47, s48, s49, s50, s51, s52, s53, s54, s55, s56, s57, s58, s59, s60, s61, s62, s63, s64, s65, s66], []⟩ w := by
  have HK := Lib.hid hK; clear hK
  have e0 := hE.cell 0 (v := vL) rfl; have fE := hE.frozen
  have hlE := hE.lt
  have hEo : vL.ownBlock ≠ some E := fun e => (ho.lt e).2.2 hXE
  obtain ⟨vA, vc, hvA⟩ := ho.form
  obtain ⟨xn, hxn⟩ : ∃ xn, xs.length = xn := ⟨_, rfl⟩
  rw [hxn] at hvA hz2 HK
  subst hvA
  have HO := Lib.hid ho; have HE := Lib.hid hE; have HX := Lib.hid hX
  have HN := Lib.hid hxn; have HB := Lib.hid (And.intro hn hT)
  have HW := Lib.hid (And.intro ht (And.intro hf hg))
  clear ho hX hE hxn hn hT ht hf hg
  conv => arg 2; whnf
  refine wp_region_noPanic ?_
  refine wp_region_held_drew (S := (fun w' => E < w'.heap.size)) (by kernel_rfl) ?_ (fun hHeld0 => ?_)
  · (try dsimp only)
    (first | (with_reducible assumption) | (go_keep; done) | (simp; omega))
  refine wpAnyH_take (i := 0) (oi := _) (v := ?v1) rfl (by kernel_rfl) (by kernel_rfl) (by kernel_rfl) (fun _ _ _ h => h) (Or.inl ⟨by rfl, ?hy1⟩) (by with_reducible assumption) ?rest1
  case hy1 => (intro w hSw; (try dsimp only at hSw); go_simp; try with_reducible rfl)
  try simp only [Act.put, List.setIfInBounds_toArray, List.set_cons_zero, List.set_cons_succ]
  refine wpAnyH_take (i := 2) (oi := _) (v := ?v2) rfl (by kernel_rfl) (by kernel_rfl) (by kernel_rfl) (fun _ _ _ h => h) (Or.inl ⟨by rfl, ?hy2⟩) (by with_reducible assumption) ?rest2
  case hy2 => (intro w hSw; (try dsimp only at hSw); go_simp; try with_reducible rfl)
  try simp only [Act.put, List.setIfInBounds_toArray, List.set_cons_zero, List.set_cons_succ]
  refine wpAnyH_take (i := 3) (oi := _) (v := ?v3) rfl (by kernel_rfl) (by kernel_rfl) (by kernel_rfl) (fun _ _ _ h => h) (Or.inl ⟨by rfl, ?hy3⟩) (by with_reducible assumption) ?rest3
  case hy3 => (intro w hSw; (try dsimp only at hSw); go_simp; try with_reducible rfl)
  try simp only [Act.put, List.setIfInBounds_toArray, List.set_cons_zero, List.set_cons_succ]
  refine wpAnyH_take (i := 4) (oi := _) (v := ?v4) rfl (by kernel_rfl) (by kernel_rfl) (by kernel_rfl) (fun _ _ _ h => h) (Or.inl ⟨by rfl, ?hy4⟩) (by with_reducible assumption) ?rest4
  case hy4 => (intro w hSw; (try dsimp only at hSw); go_simp; try with_reducible rfl)
  try simp only [Act.put, List.setIfInBounds_toArray, List.set_cons_zero, List.set_cons_succ]
  refine wpAnyH_take (i := 5) (oi := _) (v := ?v5) rfl (by kernel_rfl) (by kernel_rfl) (by kernel_rfl) (fun _ _ _ h => h) (Or.inl ⟨by rfl, ?hy5⟩) (by with_reducible assumption) ?rest5
  case hy5 => (intro w hSw; (try dsimp only at hSw); go_simp; try with_reducible rfl)
  try simp only [Act.put, List.setIfInBounds_toArray, List.set_cons_zero, List.set_cons_succ]
  refine wpAnyH_ready (rs := [1, 6]) (by kernel_rfl) (by simp) ?_
  refine (AllReadyH.cons (o := _) rfl (fun K hK => ?_) (AllReadyH.cons (o := _) rfl (fun K hK => ?_) AllReadyH.nil))
  · skip
    go_simp
    refine hK.out _ _ ?_ (fun hHeld6 => ?_)
    · (try dsimp only)
      (first | (with_reducible assumption) | (go_keep; done) | (simp; omega))
    clear hK K hHeld0
    try simp only [Act.put, List.setIfInBounds_toArray, List.set_cons_zero, List.set_cons_succ]
    refine wpAnyH_ready (rs := [6]) (by kernel_rfl) (by simp) ?_
    refine (AllReadyH.cons (o := _) rfl (fun K hK => ?_) AllReadyH.nil)
    go_simp
    refine (cloneB_any T body n c HB.out.1 _ (HB.out.2.below ((Below.refl _ _).drew) (by simp)) (by omega)).mono ?_
    rintro e w1 ⟨T1, n1, c1, rfl, hn1, hl1, hm1, hs1, hb1⟩
    have z1 : w.heap.size ≤ w1.heap.size := by (have h9 := hb1.size; simpa using h9)
    have zE : E < w1.heap.size := by omega
    have k0 := (hb1.cell (p := ⟨E, 0, none⟩) hlE).trans e0
    have hb1' : RowKit.Below w.heap.size w w1 := ((Below.refl _ _).drew).trans hb1
    have hs1' : Sl (Rint .u8) w1 (mid w.heap.size w1.heap.size) T1 body := hs1
    have HR := Lib.hid (And.intro hb1' (ready_flight (l := ⟨tm, fr, tgt, body⟩) HW.out.1 HW.out.2.1 HW.out.2.2 hn1 hl1 hm1 hs1' hb1' HO.out HX.out (by omega)))
    clear hn1 hl1 hm1 hs1 hs1' hb1 hb1'
    try dsimp only
    refine hK.out _ _ ?_ (fun hHeld7 => ?_)
    · (try dsimp only)
      (first | (with_reducible assumption) | (go_keep; done) | (simp; omega))
    clear hK K hHeld6
    try simp only [Act.put, List.setIfInBounds_toArray, List.set_cons_zero, List.set_cons_succ]
    refine wpAnyH_take (i := 7) (oi := _) (v := ?v8) rfl (by kernel_rfl) (by kernel_rfl) (by kernel_rfl) (fun _ _ _ h => h) (Or.inl ⟨by rfl, ?hy8⟩) (by with_reducible assumption) ?rest8
    case hy8 => (intro w hSw; (try dsimp only at hSw); go_simp; try with_reducible rfl)
    try simp only [Act.put, List.setIfInBounds_toArray, List.set_cons_zero, List.set_cons_succ]
    refine wpAnyH_ready (rs := [8]) (by kernel_rfl) (by simp) ?_
    refine (AllReadyH.cons (o := _) rfl (fun K hK => ?_) AllReadyH.nil)
    go_simp
    refine hK.out _ _ ?_ (fun hHeld9 => ?_)
    · (try dsimp only)
      (first | (with_reducible assumption) | (go_keep; done) | (simp; omega))
    clear hK K hHeld7
    try simp only [Act.put, List.setIfInBounds_toArray, List.set_cons_zero, List.set_cons_succ]
    refine wpAnyH_ready (rs := [9]) (by kernel_rfl) (by simp) ?_
    refine (AllReadyH.cons (o := _) rfl (fun K hK => ?_) AllReadyH.nil)
    refine step_append_X rfl (.tmp 40) (.tmp 47) rfl ei_flights (by rfl) HR.out.2.1 (some ⟨w1.heap.size, 0, none⟩) 1 1 (ys := [⟨tm, fr, tgt, body⟩]) (by rfl) rfl HR.out.2.2.1 HR.out.2.2.2.1 HR.out.2.2.2.2.1 HR.out.2.2.2.2.2.1 (by rw [HN.out]; exact hz2) (by rw [HN.out]; simp only [maxLen]; omega) HR.out.2.2.2.2.2.2.1 ?_
    rw [HN.out]
    intro A' cap w5 hox hg1 hat1 hbb1
    have hsame : ∀ b, b < w.heap.size → (Value.slice vA xn vc).ownBlock ≠ some b → w5.heap[b]? = w.heap[b]? := fun b hb hne => (hg1.block b (by rw [HR.out.2.2.2.2.2.2.2]; omega) (fun e => hne e.symm)).trans ((Below.heap_alloc w1 _ b (by omega)).trans (HR.out.1.block b hb))
    have kE := hsame E hlE hEo
    have y0 := (World.cell?_of_block (a := ⟨E, 0, none⟩) kE).trans e0
    have fE1 : ∀ o, w5.frozen? ⟨E, o, none⟩ = false := fun o => by have h9 := fE o; unfold World.frozen? at h9 ⊢; rw [kE]; exact h9
    have hgE : Blk w5 E 25 #[.slice vA xn vc, vF] := kE.trans HE.out
    have hz5 : w.heap.size ≤ w5.heap.size := by (have h9 := hbb1.size; rw [HR.out.2.2.2.2.2.2.2] at h9; omega)
    have zE5 : E < w5.heap.size := by omega
    have hbb : RowKit.Below B w w5 := ((HR.out.1.mono (by omega)).alloc (by omega) _).trans hbb1
    clear hg1 hat1 kE hbb1
    refine hK.out _ _ ?_ (fun hHeld10 => ?_)
    · (try dsimp only)
      (first | (with_reducible assumption) | (go_keep; done) | (simp; omega))
    clear hK K hHeld9
    try simp only [Act.put, List.setIfInBounds_toArray, List.set_cons_zero, List.set_cons_succ]
    refine wpAnyH_take (i := 10) (oi := _) (v := ?v11) rfl (by kernel_rfl) (by kernel_rfl) (by kernel_rfl) (fun _ _ _ h => h) (Or.inl ⟨by rfl, ?hy11⟩) (by with_reducible assumption) ?rest11
    case hy11 => (intro w hSw; (try dsimp only at hSw); go_simp; try with_reducible rfl)
    try simp only [Act.put, List.setIfInBounds_toArray, List.set_cons_zero, List.set_cons_succ]
    refine wpAnyH_ready (rs := [11]) (by kernel_rfl) (by simp) ?_
    refine (AllReadyH.cons (o := _) rfl (fun K hK => ?_) AllReadyH.nil)
    go_simp
    refine hK.out _ _ ?_ (fun hHeld12 => ?_)
    · (try dsimp only)
      (first | (with_reducible assumption) | (go_keep; done) | (simp; omega))
    clear hK K hHeld10
    try simp only [Act.put, List.setIfInBounds_toArray, List.set_cons_zero, List.set_cons_succ]
    refine wpAnyH_done (by kernel_rfl) ?_ _
    refine NoPanic.normal ?_
    clear hHeld12
    exact HK.out _ _ _ _ _ _ _ _ _ _ _ _ _ _ (hgE.set 0 _) (hox.far hXE _) (fun k hk hne hno => (Below.heap_setCell w5 ⟨E, 0, none⟩ _ k hne).trans (hsame k hk hno)) (by simp [World.setCell]; omega) (hbb.setCell (p := ⟨E, 0, none⟩) hBE _)
  · skip
    go_simp
    refine (cloneB_any T body n c HB.out.1 _ (HB.out.2.below ((Below.refl _ _).drew) (by simp)) (by omega)).mono ?_
    rintro e w1 ⟨T1, n1, c1, rfl, hn1, hl1, hm1, hs1, hb1⟩
    have z1 : w.heap.size ≤ w1.heap.size := by (have h9 := hb1.size; simpa using h9)
    have zE : E < w1.heap.size := by omega
    have k0 := (hb1.cell (p := ⟨E, 0, none⟩) hlE).trans e0
    have hb1' : RowKit.Below w.heap.size w w1 := ((Below.refl _ _).drew).trans hb1
    have hs1' : Sl (Rint .u8) w1 (mid w.heap.size w1.heap.size) T1 body := hs1
    have HR := Lib.hid (And.intro hb1' (ready_flight (l := ⟨tm, fr, tgt, body⟩) HW.out.1 HW.out.2.1 HW.out.2.2 hn1 hl1 hm1 hs1' hb1' HO.out HX.out (by omega)))
    clear hn1 hl1 hm1 hs1 hs1' hb1 hb1'
    try dsimp only
    refine hK.out _ _ ?_ (fun hHeld13 => ?_)
    · (try dsimp only)
      (first | (with_reducible assumption) | (go_keep; done) | (simp; omega))
    clear hK K hHeld0
    try simp only [Act.put, List.setIfInBounds_toArray, List.set_cons_zero, List.set_cons_succ]
    refine wpAnyH_take (i := 7) (oi := _) (v := ?v14) rfl (by kernel_rfl) (by kernel_rfl) (by kernel_rfl) (fun _ _ _ h => h) (Or.inl ⟨by rfl, ?hy14⟩) (by with_reducible assumption) ?rest14
    case hy14 => (intro w hSw; (try dsimp only at hSw); go_simp; try with_reducible rfl)
    try simp only [Act.put, List.setIfInBounds_toArray, List.set_cons_zero, List.set_cons_succ]
    refine wpAnyH_ready (rs := [1, 8]) (by kernel_rfl) (by simp) ?_
    refine (AllReadyH.cons (o := _) rfl (fun K hK => ?_) (AllReadyH.cons (o := _) rfl (fun K hK => ?_) AllReadyH.nil))
    · skip
      go_simp
      refine hK.out _ _ ?_ (fun hHeld15 => ?_)
      · (try dsimp only)
        (first | (with_reducible assumption) | (go_keep; done) | (simp; omega))
      clear hK K hHeld13
      try simp only [Act.put, List.setIfInBounds_toArray, List.set_cons_zero, List.set_cons_succ]
      refine wpAnyH_ready (rs := [8]) (by kernel_rfl) (by simp) ?_
      refine (AllReadyH.cons (o := _) rfl (fun K hK => ?_) AllReadyH.nil)
      go_simp
      refine hK.out _ _ ?_ (fun hHeld16 => ?_)
      · (try dsimp only)
        (first | (with_reducible assumption) | (go_keep; done) | (simp; omega))
      clear hK K hHeld15
      try simp only [Act.put, List.setIfInBounds_toArray, List.set_cons_zero, List.set_cons_succ]
      refine wpAnyH_ready (rs := [9]) (by kernel_rfl) (by simp) ?_
      refine (AllReadyH.cons (o := _) rfl (fun K hK => ?_) AllReadyH.nil)
      refine step_append_X rfl (.tmp 40) (.tmp 47) rfl ei_flights (by rfl) HR.out.2.1 (some ⟨w1.heap.size, 0, none⟩) 1 1 (ys := [⟨tm, fr, tgt, body⟩]) (by rfl) rfl HR.out.2.2.1 HR.out.2.2.2.1 HR.out.2.2.2.2.1 HR.out.2.2.2.2.2.1 (by rw [HN.out]; exact hz2) (by rw [HN.out]; simp only [maxLen]; omega) HR.out.2.2.2.2.2.2.1 ?_
      rw [HN.out]
      intro A' cap w5 hox hg1 hat1 hbb1
      have hsame : ∀ b, b < w.heap.size → (Value.slice vA xn vc).ownBlock ≠ some b → w5.heap[b]? = w.heap[b]? := fun b hb hne => (hg1.block b (by rw [HR.out.2.2.2.2.2.2.2]; omega) (fun e => hne e.symm)).trans ((Below.heap_alloc w1 _ b (by omega)).trans (HR.out.1.block b hb))
      have kE := hsame E hlE hEo
      have y0 := (World.cell?_of_block (a := ⟨E, 0, none⟩) kE).trans e0
      have fE1 : ∀ o, w5.frozen? ⟨E, o, none⟩ = false := fun o => by have h9 := fE o; unfold World.frozen? at h9 ⊢; rw [kE]; exact h9
      have hgE : Blk w5 E 25 #[.slice vA xn vc, vF] := kE.trans HE.out
      have hz5 : w.heap.size ≤ w5.heap.size := by (have h9 := hbb1.size; rw [HR.out.2.2.2.2.2.2.2] at h9; omega)
      have zE5 : E < w5.heap.size := by omega
      have hbb : RowKit.Below B w w5 := ((HR.out.1.mono (by omega)).alloc (by omega) _).trans hbb1
      clear hg1 hat1 kE hbb1
      refine hK.out _ _ ?_ (fun hHeld17 => ?_)
      · (try dsimp only)
        (first | (with_reducible assumption) | (go_keep; done) | (simp; omega))
      clear hK K hHeld16
      try simp only [Act.put, List.setIfInBounds_toArray, List.set_cons_zero, List.set_cons_succ]
      refine wpAnyH_take (i := 10) (oi := _) (v := ?v18) rfl (by kernel_rfl) (by kernel_rfl) (by kernel_rfl) (fun _ _ _ h => h) (Or.inl ⟨by rfl, ?hy18⟩) (by with_reducible assumption) ?rest18
      case hy18 => (intro w hSw; (try dsimp only at hSw); go_simp; try with_reducible rfl)
      try simp only [Act.put, List.setIfInBounds_toArray, List.set_cons_zero, List.set_cons_succ]
      refine wpAnyH_ready (rs := [11]) (by kernel_rfl) (by simp) ?_
      refine (AllReadyH.cons (o := _) rfl (fun K hK => ?_) AllReadyH.nil)
      go_simp
      refine hK.out _ _ ?_ (fun hHeld19 => ?_)
      · (try dsimp only)
        (first | (with_reducible assumption) | (go_keep; done) | (simp; omega))
      clear hK K hHeld17
      try simp only [Act.put, List.setIfInBounds_toArray, List.set_cons_zero, List.set_cons_succ]
      refine wpAnyH_done (by kernel_rfl) ?_ _
      refine NoPanic.normal ?_
      clear hHeld19
      exact HK.out _ _ _ _ _ _ _ _ _ _ _ _ _ _ (hgE.set 0 _) (hox.far hXE _) (fun k hk hne hno => (Below.heap_setCell w5 ⟨E, 0, none⟩ _ k hne).trans (hsame k hk hno)) (by simp [World.setCell]; omega) (hbb.setCell (p := ⟨E, 0, none⟩) hBE _)
    · skip
      go_simp
      refine hK.out _ _ ?_ (fun hHeld20 => ?_)
      · (try dsimp only)
        (first | (with_reducible assumption) | (go_keep; done) | (simp; omega))
      clear hK K hHeld13
      try simp only [Act.put, List.setIfInBounds_toArray, List.set_cons_zero, List.set_cons_succ]
      refine wpAnyH_ready (rs := [1]) (by kernel_rfl) (by simp) ?_
      refine (AllReadyH.cons (o := _) rfl (fun K hK => ?_) AllReadyH.nil)
      go_simp
      refine hK.out _ _ ?_ (fun hHeld21 => ?_)
      · (try dsimp only)
        (first | (with_reducible assumption) | (go_keep; done) | (simp; omega))
      clear hK K hHeld20
      try simp only [Act.put, List.setIfInBounds_toArray, List.set_cons_zero, List.set_cons_succ]
      refine wpAnyH_ready (rs := [9]) (by kernel_rfl) (by simp) ?_
      refine (AllReadyH.cons (o := _) rfl (fun K hK => ?_) AllReadyH.nil)
      refine step_append_X rfl (.tmp 40) (.tmp 47) rfl ei_flights (by rfl) HR.out.2.1 (some ⟨w1.heap.size, 0, none⟩) 1 1 (ys := [⟨tm, fr, tgt, body⟩]) (by rfl) rfl HR.out.2.2.1 HR.out.2.2.2.1 HR.out.2.2.2.2.1 HR.out.2.2.2.2.2.1 (by rw [HN.out]; exact hz2) (by rw [HN.out]; simp only [maxLen]; omega) HR.out.2.2.2.2.2.2.1 ?_
      rw [HN.out]
      intro A' cap w5 hox hg1 hat1 hbb1
      have hsame : ∀ b, b < w.heap.size → (Value.slice vA xn vc).ownBlock ≠ some b → w5.heap[b]? = w.heap[b]? := fun b hb hne => (hg1.block b (by rw [HR.out.2.2.2.2.2.2.2]; omega) (fun e => hne e.symm)).trans ((Below.heap_alloc w1 _ b (by omega)).trans (HR.out.1.block b hb))
      have kE := hsame E hlE hEo
      have y0 := (World.cell?_of_block (a := ⟨E, 0, none⟩) kE).trans e0
      have fE1 : ∀ o, w5.frozen? ⟨E, o, none⟩ = false := fun o => by have h9 := fE o; unfold World.frozen? at h9 ⊢; rw [kE]; exact h9
      have hgE : Blk w5 E 25 #[.slice vA xn vc, vF] := kE.trans HE.out
      have hz5 : w.heap.size ≤ w5.heap.size := by (have h9 := hbb1.size; rw [HR.out.2.2.2.2.2.2.2] at h9; omega)
      have zE5 : E < w5.heap.size := by omega
      have hbb : RowKit.Below B w w5 := ((HR.out.1.mono (by omega)).alloc (by omega) _).trans hbb1
      clear hg1 hat1 kE hbb1
      refine hK.out _ _ ?_ (fun hHeld22 => ?_)
      · (try dsimp only)
        (first | (with_reducible assumption) | (go_keep; done) | (simp; omega))
      clear hK K hHeld21
      try simp only [Act.put, List.setIfInBounds_toArray, List.set_cons_zero, List.set_cons_succ]
      refine wpAnyH_take (i := 10) (oi := _) (v := ?v23) rfl (by kernel_rfl) (by kernel_rfl) (by kernel_rfl) (fun _ _ _ h => h) (Or.inl ⟨by rfl, ?hy23⟩) (by with_reducible assumption) ?rest23
      case hy23 => (intro w hSw; (try dsimp only at hSw); go_simp; try with_reducible rfl)
      try simp only [Act.put, List.setIfInBounds_toArray, List.set_cons_zero, List.set_cons_succ]
      refine wpAnyH_ready (rs := [11]) (by kernel_rfl) (by simp) ?_
      refine (AllReadyH.cons (o := _) rfl (fun K hK => ?_) AllReadyH.nil)
      go_simp
      refine hK.out _ _ ?_ (fun hHeld24 => ?_)
      · (try dsimp only)
        (first | (with_reducible assumption) | (go_keep; done) | (simp; omega))
      clear hK K hHeld22
      try simp only [Act.put, List.setIfInBounds_toArray, List.set_cons_zero, List.set_cons_succ]
      refine wpAnyH_done (by kernel_rfl) ?_ _
      refine NoPanic.normal ?_
      clear hHeld24
      exact HK.out _ _ _ _ _ _ _ _ _ _ _ _ _ _ (hgE.set 0 _) (hox.far hXE _) (fun k hk hne hno => (Below.heap_setCell w5 ⟨E, 0, none⟩ _ k hne).trans (hsame k hk hno)) (by simp [World.setCell]; omega) (hbb.setCell (p := ⟨E, 0, none⟩) hBE _)
noncomputable def nsend_r11_code : Code := regionOf Try.f11 11
set_option maxRecDepth 100000 in
set_option maxHeartbeats 2000000 in
theorem nsend_r11 {Q : Exit → Act → World → Prop} {s0 s1 s5 s6 s7 s8 s9 s10 s12 s14 s15 s16 s17 s18 s19 s20 s21 s22 s23 s24 s25 s26 s27 s28 s29 s30 s31 s32 s33 s34 s35 s36 s37 s38 s39 s40 s41 s42 s43 s44 s45 s46 s47 s48 s49 s50 s51 s52 s53 s54 s55 s56 s57 s58 s59 s60 s61 s62 s63 s64 s65 s66 : Value} (w : World) (B E : Nat) (vF : Value) (X : Nat → Prop) (vL : Value) (xs : List Fl) (tm fr tgt : Int) (body : List Int) (T : Option Addr) (n c : Nat)
    (hE : Blk w E 25 #[vL, vF]) (ho : OwnX Rfl w B 37 X vL xs) (hXE : X E) (hX : ∀ k, X k → k < w.heap.size) (hBE : B ≤ E) (hn : body.length = n) (hT : Sl (Rint .u8) w (lo w.heap.size) T body) (hz : n ≤ 140737488355328) (hz2 : (xs.length + 1) * 48 ≤ 140737488355328)
    (ht : (Lit.int .i64 (IntKind.i64.wrap (tm + 1))).wf = true) (hf : (Lit.int .i64 fr).wf = true) (hg : (Lit.int .i64 tgt).wf = true)
    (hK : ∀ (d54 d55 d56 d57 d58 d59 d60 d61 d62 d63 d64 d65 : Value) (A' : Option Addr) (cap : Nat) (w' : World), Blk w' E 25 #[.slice A' (xs.length + 1) cap, vF] → OwnX Rfl w' B 37 X (.slice A' (xs.length + 1) cap) (xs ++ [⟨IntKind.i64.wrap (tm + 1), fr, tgt, body⟩]) → (∀ k, k < w.heap.size → k ≠ E → vL.ownBlock ≠ some k → w'.heap[k]? = w.heap[k]?) → w.heap.size ≤ w'.heap.size →
      Below B w w' → Q .normal ⟨#[s0, s1, .int .i64 fr, .int .i64 tgt, .slice T n c, s5, s6, s7, s8, s9, s10, .pointer (some ⟨E, 0, none⟩), s12, .int .i64 tm, s14, s15, s16, s17, s18, s19, s20, s21, s22, s23, s24, s25, s26, s27, s28, s29, s30, s31, s32, s33, s34, s35, s36, s37, s38, s39, s40, s41, s42, s43, s44, s45, s46, s47, s48, s49, s50, s51, s52, s53, d54, d55, d56, d57, d58, d59, d60, d61, d62, d63, d64, d65, s66], []⟩ w') :
    Code.wp Try.prog nsend_r11_code Q ⟨#[s0, s1, .int .i64 fr, .int .i64 tgt, .slice T n c, s5, s6, s7, s8, s9, s10, .pointer (some ⟨E, 0, none⟩), s12, .int .i64 tm, s14, s15, s16, s17, s18, s19, s20, s21, s22, s23, s24, s25, s26, s27, s28, s29, s30, s31, s32, s33, s34, s35, s36, s37, s38, s39, s40, s41, s42, s43, s44, s45, s46, s47, s48, s49, s50, s51, s52, s53, s54, s55, s56, s57, s58, s59, s60, s61, s62, s63, s64, s65, s66], []⟩ w := by
  have HK := Lib.hid hK; clear hK
  have e0 := hE.cell 0 (v := vL) rfl; have fE := hE.frozen
  have hlE := hE.lt
  have hEo : vL.ownBlock ≠ some E := fun e => (ho.lt e).2.2 hXE
  obtain ⟨vA, vc, hvA⟩ := ho.form
  obtain ⟨xn, hxn⟩ : ∃ xn, xs.length = xn := ⟨_, rfl⟩
  rw [hxn] at hvA hz2 HK
  subst hvA
  have HO := Lib.hid ho; have HE := Lib.hid hE; have HX := Lib.hid hX
  have HN := Lib.hid hxn; have HB := Lib.hid (And.intro hn hT)
  have HW := Lib.hid (And.intro ht (And.intro hf hg))
  clear ho hX hE hxn hn hT ht hf hg
  conv => arg 2; whnf
  refine wp_region_noPanic ?_
  refine wp_region_held_drew (S := (fun w' => E < w'.heap.size)) (by kernel_rfl) ?_ (fun hHeld0 => ?_)
  · (try dsimp only)
    (first | (with_reducible assumption) | (go_keep; done) | (simp; omega))
  refine wpAnyH_take (i := 0) (oi := _) (v := ?v1) rfl (by kernel_rfl) (by kernel_rfl) (by kernel_rfl) (fun _ _ _ h => h) (Or.inl ⟨by rfl, ?hy1⟩) (by with_reducible assumption) ?rest1
  case hy1 => (intro w hSw; (try dsimp only at hSw); go_simp; try with_reducible rfl)
  try simp only [Act.put, List.setIfInBounds_toArray, List.set_cons_zero, List.set_cons_succ]
  refine wpAnyH_take (i := 2) (oi := _) (v := ?v2) rfl (by kernel_rfl) (by kernel_rfl) (by kernel_rfl) (fun _ _ _ h => h) (Or.inl ⟨by rfl, ?hy2⟩) (by with_reducible assumption) ?rest2
  case hy2 => (intro w hSw; (try dsimp only at hSw); go_simp; try with_reducible rfl)
  try simp only [Act.put, List.setIfInBounds_toArray, List.set_cons_zero, List.set_cons_succ]
  refine wpAnyH_take (i := 3) (oi := _) (v := ?v3) rfl (by kernel_rfl) (by kernel_rfl) (by kernel_rfl) (fun _ _ _ h => h) (Or.inl ⟨by rfl, ?hy3⟩) (by with_reducible assumption) ?rest3
  case hy3 => (intro w hSw; (try dsimp only at hSw); go_simp; try with_reducible rfl)
  try simp only [Act.put, List.setIfInBounds_toArray, List.set_cons_zero, List.set_cons_succ]
  refine wpAnyH_take (i := 4) (oi := _) (v := ?v4) rfl (by kernel_rfl) (by kernel_rfl) (by kernel_rfl) (fun _ _ _ h => h) (Or.inl ⟨by rfl, ?hy4⟩) (by with_reducible assumption) ?rest4
  case hy4 => (intro w hSw; (try dsimp only at hSw); go_simp; try with_reducible rfl)
  try simp only [Act.put, List.setIfInBounds_toArray, List.set_cons_zero, List.set_cons_succ]
  refine wpAnyH_take (i := 5) (oi := _) (v := ?v5) rfl (by kernel_rfl) (by kernel_rfl) (by kernel_rfl) (fun _ _ _ h => h) (Or.inl ⟨by rfl, ?hy5⟩) (by with_reducible assumption) ?rest5
  case hy5 => (intro w hSw; (try dsimp only at hSw); go_simp; try with_reducible rfl)
  try simp only [Act.put, List.setIfInBounds_toArray, List.set_cons_zero, List.set_cons_succ]
  refine wpAnyH_take (i := 6) (oi := _) (v := ?v6) rfl (by kernel_rfl) (by kernel_rfl) (by kernel_rfl) (fun _ _ _ h => h) (Or.inl ⟨by rfl, ?hy6⟩) (by with_reducible assumption) ?rest6
  case hy6 => (intro w hSw; (try dsimp only at hSw); go_simp; try with_reducible rfl)
  try simp only [Act.put, List.setIfInBounds_toArray, List.set_cons_zero, List.set_cons_succ]
  refine wpAnyH_ready (rs := [1, 7]) (by kernel_rfl) (by simp) ?_
  refine (AllReadyH.cons (o := _) rfl (fun K hK => ?_) (AllReadyH.cons (o := _) rfl (fun K hK => ?_) AllReadyH.nil))
  · skip
    go_simp
    refine hK.out _ _ ?_ (fun hHeld7 => ?_)
    · (try dsimp only)
      (first | (with_reducible assumption) | (go_keep; done) | (simp; omega))
    clear hK K hHeld0
    try simp only [Act.put, List.setIfInBounds_toArray, List.set_cons_zero, List.set_cons_succ]
    refine wpAnyH_ready (rs := [7]) (by kernel_rfl) (by simp) ?_
    refine (AllReadyH.cons (o := _) rfl (fun K hK => ?_) AllReadyH.nil)
    go_simp
    refine (cloneB_any T body n c HB.out.1 _ (HB.out.2.below ((Below.refl _ _).drew) (by simp)) (by omega)).mono ?_
    rintro e w1 ⟨T1, n1, c1, rfl, hn1, hl1, hm1, hs1, hb1⟩
    have z1 : w.heap.size ≤ w1.heap.size := by (have h9 := hb1.size; simpa using h9)
    have zE : E < w1.heap.size := by omega
    have k0 := (hb1.cell (p := ⟨E, 0, none⟩) hlE).trans e0
    have hb1' : RowKit.Below w.heap.size w w1 := ((Below.refl _ _).drew).trans hb1
    have hs1' : Sl (Rint .u8) w1 (mid w.heap.size w1.heap.size) T1 body := hs1
    have HR := Lib.hid (And.intro hb1' (ready_flight (l := ⟨IntKind.i64.wrap (tm + 1), fr, tgt, body⟩) HW.out.1 HW.out.2.1 HW.out.2.2 hn1 hl1 hm1 hs1' hb1' HO.out HX.out (by omega)))
    clear hn1 hl1 hm1 hs1 hs1' hb1 hb1'
    try dsimp only
    refine hK.out _ _ ?_ (fun hHeld8 => ?_)
    · (try dsimp only)
      (first | (with_reducible assumption) | (go_keep; done) | (simp; omega))
    clear hK K hHeld7
    try simp only [Act.put, List.setIfInBounds_toArray, List.set_cons_zero, List.set_cons_succ]
    refine wpAnyH_take (i := 8) (oi := _) (v := ?v9) rfl (by kernel_rfl) (by kernel_rfl) (by kernel_rfl) (fun _ _ _ h => h) (Or.inl ⟨by rfl, ?hy9⟩) (by with_reducible assumption) ?rest9
    case hy9 => (intro w hSw; (try dsimp only at hSw); go_simp; try with_reducible rfl)
    try simp only [Act.put, List.setIfInBounds_toArray, List.set_cons_zero, List.set_cons_succ]
    refine wpAnyH_ready (rs := [9]) (by kernel_rfl) (by simp) ?_
    refine (AllReadyH.cons (o := _) rfl (fun K hK => ?_) AllReadyH.nil)
    go_simp
    refine hK.out _ _ ?_ (fun hHeld10 => ?_)
    · (try dsimp only)
      (first | (with_reducible assumption) | (go_keep; done) | (simp; omega))
    clear hK K hHeld8
    try simp only [Act.put, List.setIfInBounds_toArray, List.set_cons_zero, List.set_cons_succ]
    refine wpAnyH_ready (rs := [10]) (by kernel_rfl) (by simp) ?_
    refine (AllReadyH.cons (o := _) rfl (fun K hK => ?_) AllReadyH.nil)
    refine step_append_X rfl (.tmp 55) (.tmp 63) rfl ei_flights (by rfl) HR.out.2.1 (some ⟨w1.heap.size, 0, none⟩) 1 1 (ys := [⟨IntKind.i64.wrap (tm + 1), fr, tgt, body⟩]) (by rfl) rfl HR.out.2.2.1 HR.out.2.2.2.1 HR.out.2.2.2.2.1 HR.out.2.2.2.2.2.1 (by rw [HN.out]; exact hz2) (by rw [HN.out]; simp only [maxLen]; omega) HR.out.2.2.2.2.2.2.1 ?_
    rw [HN.out]
    intro A' cap w5 hox hg1 hat1 hbb1
    have hsame : ∀ b, b < w.heap.size → (Value.slice vA xn vc).ownBlock ≠ some b → w5.heap[b]? = w.heap[b]? := fun b hb hne => (hg1.block b (by rw [HR.out.2.2.2.2.2.2.2]; omega) (fun e => hne e.symm)).trans ((Below.heap_alloc w1 _ b (by omega)).trans (HR.out.1.block b hb))
    have kE := hsame E hlE hEo
    have y0 := (World.cell?_of_block (a := ⟨E, 0, none⟩) kE).trans e0
    have fE1 : ∀ o, w5.frozen? ⟨E, o, none⟩ = false := fun o => by have h9 := fE o; unfold World.frozen? at h9 ⊢; rw [kE]; exact h9
    have hgE : Blk w5 E 25 #[.slice vA xn vc, vF] := kE.trans HE.out
    have hz5 : w.heap.size ≤ w5.heap.size := by (have h9 := hbb1.size; rw [HR.out.2.2.2.2.2.2.2] at h9; omega)
    have zE5 : E < w5.heap.size := by omega
    have hbb : RowKit.Below B w w5 := ((HR.out.1.mono (by omega)).alloc (by omega) _).trans hbb1
    clear hg1 hat1 kE hbb1
    refine hK.out _ _ ?_ (fun hHeld11 => ?_)
    · (try dsimp only)
      (first | (with_reducible assumption) | (go_keep; done) | (simp; omega))
    clear hK K hHeld10
    try simp only [Act.put, List.setIfInBounds_toArray, List.set_cons_zero, List.set_cons_succ]
    refine wpAnyH_take (i := 11) (oi := _) (v := ?v12) rfl (by kernel_rfl) (by kernel_rfl) (by kernel_rfl) (fun _ _ _ h => h) (Or.inl ⟨by rfl, ?hy12⟩) (by with_reducible assumption) ?rest12
    case hy12 => (intro w hSw; (try dsimp only at hSw); go_simp; try with_reducible rfl)
    try simp only [Act.put, List.setIfInBounds_toArray, List.set_cons_zero, List.set_cons_succ]
    refine wpAnyH_ready (rs := [12]) (by kernel_rfl) (by simp) ?_
    refine (AllReadyH.cons (o := _) rfl (fun K hK => ?_) AllReadyH.nil)
    go_simp
    refine hK.out _ _ ?_ (fun hHeld13 => ?_)
    · (try dsimp only)
      (first | (with_reducible assumption) | (go_keep; done) | (simp; omega))
    clear hK K hHeld11
    try simp only [Act.put, List.setIfInBounds_toArray, List.set_cons_zero, List.set_cons_succ]
    refine wpAnyH_done (by kernel_rfl) ?_ _
    refine NoPanic.normal ?_
    clear hHeld13
    exact HK.out _ _ _ _ _ _ _ _ _ _ _ _ _ _ _ (hgE.set 0 _) (hox.far hXE _) (fun k hk hne hno => (Below.heap_setCell w5 ⟨E, 0, none⟩ _ k hne).trans (hsame k hk hno)) (by simp [World.setCell]; omega) (hbb.setCell (p := ⟨E, 0, none⟩) hBE _)
  · skip
    go_simp
    refine (cloneB_any T body n c HB.out.1 _ (HB.out.2.below ((Below.refl _ _).drew) (by simp)) (by omega)).mono ?_
    rintro e w1 ⟨T1, n1, c1, rfl, hn1, hl1, hm1, hs1, hb1⟩
    have z1 : w.heap.size ≤ w1.heap.size := by (have h9 := hb1.size; simpa using h9)
    have zE : E < w1.heap.size := by omega
    have k0 := (hb1.cell (p := ⟨E, 0, none⟩) hlE).trans e0
    have hb1' : RowKit.Below w.heap.size w w1 := ((Below.refl _ _).drew).trans hb1
    have hs1' : Sl (Rint .u8) w1 (mid w.heap.size w1.heap.size) T1 body := hs1
    have HR := Lib.hid (And.intro hb1' (ready_flight (l := ⟨IntKind.i64.wrap (tm + 1), fr, tgt, body⟩) HW.out.1 HW.out.2.1 HW.out.2.2 hn1 hl1 hm1 hs1' hb1' HO.out HX.out (by omega)))
    clear hn1 hl1 hm1 hs1 hs1' hb1 hb1'
    try dsimp only
    refine hK.out _ _ ?_ (fun hHeld14 => ?_)
    · (try dsimp only)
      (first | (with_reducible assumption) | (go_keep; done) | (simp; omega))
    clear hK K hHeld0
    try simp only [Act.put, List.setIfInBounds_toArray, List.set_cons_zero, List.set_cons_succ]
    refine wpAnyH_take (i := 8) (oi := _) (v := ?v15) rfl (by kernel_rfl) (by kernel_rfl) (by kernel_rfl) (fun _ _ _ h => h) (Or.inl ⟨by rfl, ?hy15⟩) (by with_reducible assumption) ?rest15
    case hy15 => (intro w hSw; (try dsimp only at hSw); go_simp; try with_reducible rfl)
    try simp only [Act.put, List.setIfInBounds_toArray, List.set_cons_zero, List.set_cons_succ]
    refine wpAnyH_ready (rs := [1, 9]) (by kernel_rfl) (by simp) ?_
    refine (AllReadyH.cons (o := _) rfl (fun K hK => ?_) (AllReadyH.cons (o := _) rfl (fun K hK => ?_) AllReadyH.nil))
    · skip
      go_simp
      refine hK.out _ _ ?_ (fun hHeld16 => ?_)
      · (try dsimp only)
        (first | (with_reducible assumption) | (go_keep; done) | (simp; omega))
      clear hK K hHeld14
      try simp only [Act.put, List.setIfInBounds_toArray, List.set_cons_zero, List.set_cons_succ]
      refine wpAnyH_ready (rs := [9]) (by kernel_rfl) (by simp) ?_
      refine (AllReadyH.cons (o := _) rfl (fun K hK => ?_) AllReadyH.nil)
      go_simp
      refine hK.out _ _ ?_ (fun hHeld17 => ?_)
      · (try dsimp only)
        (first | (with_reducible assumption) | (go_keep; done) | (simp; omega))
      clear hK K hHeld16
      try simp only [Act.put, List.setIfInBounds_toArray, List.set_cons_zero, List.set_cons_succ]
      refine wpAnyH_ready (rs := [10]) (by kernel_rfl) (by simp) ?_
      refine (AllReadyH.cons (o := _) rfl (fun K hK => ?_) AllReadyH.nil)
      refine step_append_X rfl (.tmp 55) (.tmp 63) rfl ei_flights (by rfl) HR.out.2.1 (some ⟨w1.heap.size, 0, none⟩) 1 1 (ys := [⟨IntKind.i64.wrap (tm + 1), fr, tgt, body⟩]) (by rfl) rfl HR.out.2.2.1 HR.out.2.2.2.1 HR.out.2.2.2.2.1 HR.out.2.2.2.2.2.1 (by rw [HN.out]; exact hz2) (by rw [HN.out]; simp only [maxLen]; omega) HR.out.2.2.2.2.2.2.1 ?_
      rw [HN.out]
      intro A' cap w5 hox hg1 hat1 hbb1
      have hsame : ∀ b, b < w.heap.size → (Value.slice vA xn vc).ownBlock ≠ some b → w5.heap[b]? = w.heap[b]? := fun b hb hne => (hg1.block b (by rw [HR.out.2.2.2.2.2.2.2]; omega) (fun e => hne e.symm)).trans ((Below.heap_alloc w1 _ b (by omega)).trans (HR.out.1.block b hb))
      have kE := hsame E hlE hEo
      have y0 := (World.cell?_of_block (a := ⟨E, 0, none⟩) kE).trans e0
      have fE1 : ∀ o, w5.frozen? ⟨E, o, none⟩ = false := fun o => by have h9 := fE o; unfold World.frozen? at h9 ⊢; rw [kE]; exact h9
      have hgE : Blk w5 E 25 #[.slice vA xn vc, vF] := kE.trans HE.out
      have hz5 : w.heap.size ≤ w5.heap.size := by (have h9 := hbb1.size; rw [HR.out.2.2.2.2.2.2.2] at h9; omega)
      have zE5 : E < w5.heap.size := by omega
      have hbb : RowKit.Below B w w5 := ((HR.out.1.mono (by omega)).alloc (by omega) _).trans hbb1
      clear hg1 hat1 kE hbb1
      refine hK.out _ _ ?_ (fun hHeld18 => ?_)
      · (try dsimp only)
        (first | (with_reducible assumption) | (go_keep; done) | (simp; omega))
      clear hK K hHeld17
      try simp only [Act.put, List.setIfInBounds_toArray, List.set_cons_zero, List.set_cons_succ]
      refine wpAnyH_take (i := 11) (oi := _) (v := ?v19) rfl (by kernel_rfl) (by kernel_rfl) (by kernel_rfl) (fun _ _ _ h => h) (Or.inl ⟨by rfl, ?hy19⟩) (by with_reducible assumption) ?rest19
      case hy19 => (intro w hSw; (try dsimp only at hSw); go_simp; try with_reducible rfl)
      try simp only [Act.put, List.setIfInBounds_toArray, List.set_cons_zero, List.set_cons_succ]
      refine wpAnyH_ready (rs := [12]) (by kernel_rfl) (by simp) ?_
      refine (AllReadyH.cons (o := _) rfl (fun K hK => ?_) AllReadyH.nil)
      go_simp
      refine hK.out _ _ ?_ (fun hHeld20 => ?_)
      · (try dsimp only)
        (first | (with_reducible assumption) | (go_keep; done) | (simp; omega))
      clear hK K hHeld18
      try simp only [Act.put, List.setIfInBounds_toArray, List.set_cons_zero, List.set_cons_succ]
      refine wpAnyH_done (by kernel_rfl) ?_ _
      refine NoPanic.normal ?_
      clear hHeld20
      exact HK.out _ _ _ _ _ _ _ _ _ _ _ _ _ _ _ (hgE.set 0 _) (hox.far hXE _) (fun k hk hne hno => (Below.heap_setCell w5 ⟨E, 0, none⟩ _ k hne).trans (hsame k hk hno)) (by simp [World.setCell]; omega) (hbb.setCell (p := ⟨E, 0, none⟩) hBE _)
    · skip
      go_simp
      refine hK.out _ _ ?_ (fun hHeld21 => ?_)
      · (try dsimp only)
        (first | (with_reducible assumption) | (go_keep; done) | (simp; omega))
      clear hK K hHeld14
      try simp only [Act.put, List.setIfInBounds_toArray, List.set_cons_zero, List.set_cons_succ]
      refine wpAnyH_ready (rs := [1]) (by kernel_rfl) (by simp) ?_
      refine (AllReadyH.cons (o := _) rfl (fun K hK => ?_) AllReadyH.nil)
      go_simp
      refine hK.out _ _ ?_ (fun hHeld22 => ?_)
      · (try dsimp only)
        (first | (with_reducible assumption) | (go_keep; done) | (simp; omega))
      clear hK K hHeld21
      try simp only [Act.put, List.setIfInBounds_toArray, List.set_cons_zero, List.set_cons_succ]
      refine wpAnyH_ready (rs := [10]) (by kernel_rfl) (by simp) ?_
      refine (AllReadyH.cons (o := _) rfl (fun K hK => ?_) AllReadyH.nil)
      refine step_append_X rfl (.tmp 55) (.tmp 63) rfl ei_flights (by rfl) HR.out.2.1 (some ⟨w1.heap.size, 0, none⟩) 1 1 (ys := [⟨IntKind.i64.wrap (tm + 1), fr, tgt, body⟩]) (by rfl) rfl HR.out.2.2.1 HR.out.2.2.2.1 HR.out.2.2.2.2.1 HR.out.2.2.2.2.2.1 (by rw [HN.out]; exact hz2) (by rw [HN.out]; simp only [maxLen]; omega) HR.out.2.2.2.2.2.2.1 ?_
      rw [HN.out]
      intro A' cap w5 hox hg1 hat1 hbb1
      have hsame : ∀ b, b < w.heap.size → (Value.slice vA xn vc).ownBlock ≠ some b → w5.heap[b]? = w.heap[b]? := fun b hb hne => (hg1.block b (by rw [HR.out.2.2.2.2.2.2.2]; omega) (fun e => hne e.symm)).trans ((Below.heap_alloc w1 _ b (by omega)).trans (HR.out.1.block b hb))
      have kE := hsame E hlE hEo
      have y0 := (World.cell?_of_block (a := ⟨E, 0, none⟩) kE).trans e0
      have fE1 : ∀ o, w5.frozen? ⟨E, o, none⟩ = false := fun o => by have h9 := fE o; unfold World.frozen? at h9 ⊢; rw [kE]; exact h9
      have hgE : Blk w5 E 25 #[.slice vA xn vc, vF] := kE.trans HE.out
      have hz5 : w.heap.size ≤ w5.heap.size := by (have h9 := hbb1.size; rw [HR.out.2.2.2.2.2.2.2] at h9; omega)
      have zE5 : E < w5.heap.size := by omega
      have hbb : RowKit.Below B w w5 := ((HR.out.1.mono (by omega)).alloc (by omega) _).trans hbb1
      clear hg1 hat1 kE hbb1
      refine hK.out _ _ ?_ (fun hHeld23 => ?_)
      · (try dsimp only)
        (first | (with_reducible assumption) | (go_keep; done) | (simp; omega))
      clear hK K hHeld22
      try simp only [Act.put, List.setIfInBounds_toArray, List.set_cons_zero, List.set_cons_succ]
      refine wpAnyH_take (i := 11) (oi := _) (v := ?v24) rfl (by kernel_rfl) (by kernel_rfl) (by kernel_rfl) (fun _ _ _ h => h) (Or.inl ⟨by rfl, ?hy24⟩) (by with_reducible assumption) ?rest24
      case hy24 => (intro w hSw; (try dsimp only at hSw); go_simp; try with_reducible rfl)
      try simp only [Act.put, List.setIfInBounds_toArray, List.set_cons_zero, List.set_cons_succ]
      refine wpAnyH_ready (rs := [12]) (by kernel_rfl) (by simp) ?_
      refine (AllReadyH.cons (o := _) rfl (fun K hK => ?_) AllReadyH.nil)
      go_simp
      refine hK.out _ _ ?_ (fun hHeld25 => ?_)
      · (try dsimp only)
        (first | (with_reducible assumption) | (go_keep; done) | (simp; omega))
      clear hK K hHeld23
      try simp only [Act.put, List.setIfInBounds_toArray, List.set_cons_zero, List.set_cons_succ]
      refine wpAnyH_done (by kernel_rfl) ?_ _
      refine NoPanic.normal ?_
      clear hHeld25
      exact HK.out _ _ _ _ _ _ _ _ _ _ _ _ _ _ _ (hgE.set 0 _) (hox.far hXE _) (fun k hk hne hno => (Below.heap_setCell w5 ⟨E, 0, none⟩ _ k hne).trans (hsame k hk hno)) (by simp [World.setCell]; omega) (hbb.setCell (p := ⟨E, 0, none⟩) hBE _)
end Go.Proofs.Ytponbodiibkopaa
