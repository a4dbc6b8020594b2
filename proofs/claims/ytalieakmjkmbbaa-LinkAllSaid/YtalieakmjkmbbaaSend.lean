/-
  Send: what it comes to, its pieces, the walk.
-/
import Derived.Test.YtalieakmjkmbbaaOut
namespace Go.Proofs.Ytalieakmjkmbbaa
open Go.RowKit Go.Sort
set_option linter.unusedVariables false
set_option linter.unusedSimpArgs false
attribute [local go_sem ↓] Go.wp_at_zero Go.wp_at_succ

def sendP (o : Ot) (body : List Int) (window now : Int) : Ot × List It :=
  if window ≤ (o.sent.length : Int) then (⟨o.next, o.sent, o.wait ++ [body]⟩, []) else (⟨o.next + 1, o.sent ++ [⟨o.next, body, now⟩], o.wait⟩, [⟨o.next, body, now⟩])
theorem ready_body {w w1 : World} {T : Option Addr} {n c : Nat} {l : List Int} {B : Nat} {e : TypeId} {X : Nat → Prop} {v : Value} {xs : List (List Int)} (hn : l.length = n) (hl : n ≤ c) (hm : c ≤ maxLen) (hs : Sl (Rint .u8) w1 (mid w.heap.size w1.heap.size) T l) (hb1 : Below w.heap.size w w1) (ho : OwnX Rbd w B e X v xs) (hX : ∀ k, X k → k < w.heap.size) (hb : B ≤ w.heap.size) :
    OwnX Rbd (w1.alloc (.cells #[.slice T n c] 25)) B e X v xs ∧
    CellsAt (w1.alloc (.cells #[.slice T n c] 25)) (some ⟨w1.heap.size, 0, none⟩) [.slice T n c] ∧
    Elems Rbd (w1.alloc (.cells #[.slice T n c] 25)) (mid w.heap.size w1.heap.size) [l] [.slice T n c] ∧
    (∀ k, mid w.heap.size w1.heap.size k → B ≤ k ∧ k < (w1.alloc (.cells #[.slice T n c] 25)).heap.size ∧ ¬ X k ∧ v.ownBlock ≠ some k) ∧
    ¬ X (w1.alloc (.cells #[.slice T n c] 25)).heap.size ∧ B ≤ (w1.alloc (.cells #[.slice T n c] 25)).heap.size ∧ (w1.alloc (.cells #[.slice T n c] 25)).heap.size = w1.heap.size + 1 := by
  have hz := hb1.size
  refine ⟨?_, ?_, ?_, fun k hk => ⟨by have := hk.1; omega, by have := hk.2; simp; omega, fun h => by have := hX k h; have := hk.1; omega, fun e => by have := (ho.lt e).2.1; have := hk.1; omega⟩, fun h => ?_, by simp; omega, by simp⟩
  · exact ho.frame (fun k _ hk _ => (Below.heap_alloc w1 _ k (by omega)).trans (hb1.block k hk)) (by simp; omega) (fun _ _ _ h => h)
  · have := cellsNew (w := w1) (g := w1.heap.size) (cs := #[.slice T n c]) (t := 25) rfl
    exact this
  · subst hn
    exact Elems.one (R := Rbd) (x := l) ⟨T, c, rfl, hl, hm, hs.keep (fun p hp => World.cell?_alloc_lt _ _ _ hp.2) (fun _ h => h)⟩
  · have := hX _ h; simp at this; omega
noncomputable def send_r3_code : Code := regionOf Try.f17 3
set_option maxRecDepth 100000 in
set_option maxHeartbeats 2000000 in
theorem send_r3 {Q : Exit → Act → World → Prop} {s0 s2 s3 s4 s5 s6 s7 s8 s9 s11 s12 s13 s14 s15 s16 s17 s18 s19 s20 s21 s22 s23 s24 s25 s26 s27 s28 s29 s30 s31 s32 s33 s34 s35 s36 s37 s38 s39 : Value} (w : World) (B E : Nat) (nx vS : Value) (X : Nat → Prop) (vW : Value) (xs : List (List Int)) (body : List Int) (T : Option Addr) (n c : Nat)
    (hE : Blk w E 35 #[nx, vS, vW]) (ho : OwnX Rbd w B 25 X vW xs) (hXE : X E) (hX : ∀ k, X k → k < w.heap.size) (hBE : B ≤ E) (hn : body.length = n) (hT : Sl (Rint .u8) w (lo w.heap.size) T body) (hz : n ≤ 140737488355328) (hz2 : (xs.length + 1) * 24 ≤ 140737488355328)
    (hK : ∀ (d26 d27 d28 d29 d30 d31 d32 : Value) (A' : Option Addr) (cap : Nat) (w' : World), Blk w' E 35 #[nx, vS, .slice A' (xs.length + 1) cap] → OwnX Rbd w' B 25 X (.slice A' (xs.length + 1) cap) (xs ++ [body]) → (∀ k, k < w.heap.size → k ≠ E → vW.ownBlock ≠ some k → w'.heap[k]? = w.heap[k]?) → w.heap.size ≤ w'.heap.size →
      Below B w w' → Q .normal ⟨#[s0, .slice T n c, s2, s3, s4, s5, s6, s7, s8, s9, .pointer (some ⟨E, 0, none⟩), s11, s12, s13, s14, s15, s16, s17, s18, s19, s20, s21, s22, s23, s24, s25, d26, d27, d28, d29, d30, d31, d32, s33, s34, s35, s36, s37, s38, s39], []⟩ w') :
    Code.wp Try.prog send_r3_code Q ⟨#[s0, .slice T n c, s2, s3, s4, s5, s6, s7, s8, s9, .pointer (some ⟨E, 0, none⟩), s11, s12, s13, s14, s15, s16, s17, s18, s19, s20, s21, s22, s23, s24, s25, s26, s27, s28, s29, s30, s31, s32, s33, s34, s35, s36, s37, s38, s39], []⟩ w := by
  have HK := Lib.hid hK; clear hK
  have e2 := hE.cell 2 (v := vW) rfl; have fE := hE.frozen
  have hlE := hE.lt
  have hEo : vW.ownBlock ≠ some E := fun e => (ho.lt e).2.2 hXE
  obtain ⟨vA, vc, hvA⟩ := ho.form
  obtain ⟨xn, hxn⟩ : ∃ xn, xs.length = xn := ⟨_, rfl⟩
  rw [hxn] at hvA hz2 HK
  subst hvA
  have HO := Lib.hid ho; have HE := Lib.hid hE; have HX := Lib.hid hX
  have HN := Lib.hid hxn; have HB := Lib.hid (And.intro hn hT)
  clear ho hX hE hxn hn hT
  conv => arg 2; whnf
  refine wp_region_noPanic ?_
  refine wp_region_held_drew (S := (fun w' => E < w'.heap.size)) (by kernel_rfl) ?_ (fun hHeld0 => ?_)
  · (try dsimp only)
    (first | (with_reducible assumption) | (go_keep; done) | (simp; omega))
  refine wpAnyH_take (i := 0) (oi := _) (v := ?v1) rfl (by kernel_rfl) (by kernel_rfl) (by kernel_rfl) (fun _ _ _ h => h) (Or.inl ⟨by rfl, ?hy1⟩) (by with_reducible assumption) ?rest1
  case hy1 => (intro w hSw; (try dsimp only at hSw); go_simp; try with_reducible rfl)
  try simp only [Act.put, List.setIfInBounds_toArray, List.set_cons_zero, List.set_cons_succ]
  refine wpAnyH_take (i := 2) (oi := _) (v := ?v2) rfl (by kernel_rfl) (by kernel_rfl) (by kernel_rfl) (fun _ _ _ h => h) (Or.inl ⟨by rfl, ?hy2⟩) (by with_reducible assumption) ?rest2
  case hy2 => (intro w hSw; (try dsimp only at hSw); go_simp; try with_reducible rfl)
  try simp only [Act.put, List.setIfInBounds_toArray, List.set_cons_zero, List.set_cons_succ]
  refine wpAnyH_ready (rs := [1, 3]) (by kernel_rfl) (by simp) ?_
  refine (AllReadyH.cons (o := _) rfl (fun K hK => ?_) (AllReadyH.cons (o := _) rfl (fun K hK => ?_) AllReadyH.nil))
  · skip
    go_simp
    refine hK.out _ _ ?_ (fun hHeld3 => ?_)
    · (try dsimp only)
      (first | (with_reducible assumption) | (go_keep; done) | (simp; omega))
    clear hK K hHeld0
    try simp only [Act.put, List.setIfInBounds_toArray, List.set_cons_zero, List.set_cons_succ]
    refine wpAnyH_ready (rs := [3]) (by kernel_rfl) (by simp) ?_
    refine (AllReadyH.cons (o := _) rfl (fun K hK => ?_) AllReadyH.nil)
    go_simp
    refine (cloneB_any T body n c HB.out.1 _ (HB.out.2.below ((Below.refl _ _).drew) (by simp)) (by omega)).mono ?_
    rintro e w1 ⟨T1, n1, c1, rfl, hn1, hl1, hm1, hs1, hb1⟩
    have z1 : w.heap.size ≤ w1.heap.size := by (have h9 := hb1.size; simpa using h9)
    have zE : E < w1.heap.size := by omega
    have k2 := (hb1.cell (p := ⟨E, 2, none⟩) hlE).trans e2
    have hb1' : RowKit.Below w.heap.size w w1 := ((Below.refl _ _).drew).trans hb1
    have hs1' : Sl (Rint .u8) w1 (mid w.heap.size w1.heap.size) T1 body := hs1
    have HR := Lib.hid (And.intro hb1' (ready_body hn1 hl1 hm1 hs1' hb1' HO.out HX.out (by omega)))
    clear hn1 hl1 hm1 hs1 hs1' hb1 hb1'
    try dsimp only
    refine hK.out _ _ ?_ (fun hHeld4 => ?_)
    · (try dsimp only)
      (first | (with_reducible assumption) | (go_keep; done) | (simp; omega))
    clear hK K hHeld3
    try simp only [Act.put, List.setIfInBounds_toArray, List.set_cons_zero, List.set_cons_succ]
    refine wpAnyH_ready (rs := [4]) (by kernel_rfl) (by simp) ?_
    refine (AllReadyH.cons (o := _) rfl (fun K hK => ?_) AllReadyH.nil)
    go_simp
    refine hK.out _ _ ?_ (fun hHeld5 => ?_)
    · (try dsimp only)
      (first | (with_reducible assumption) | (go_keep; done) | (simp; omega))
    clear hK K hHeld4
    try simp only [Act.put, List.setIfInBounds_toArray, List.set_cons_zero, List.set_cons_succ]
    refine wpAnyH_ready (rs := [5]) (by kernel_rfl) (by simp) ?_
    refine (AllReadyH.cons (o := _) rfl (fun K hK => ?_) AllReadyH.nil)
    refine step_append_X rfl (.tmp 27) (.tmp 30) rfl ei_bodies (by rfl) HR.out.2.1 (some ⟨w1.heap.size, 0, none⟩) 1 1 (ys := [body]) (by rfl) rfl HR.out.2.2.1 HR.out.2.2.2.1 HR.out.2.2.2.2.1 HR.out.2.2.2.2.2.1 (by rw [HN.out]; exact hz2) (by rw [HN.out]; simp only [maxLen]; omega) HR.out.2.2.2.2.2.2.1 ?_
    rw [HN.out]
    intro A' cap w5 hox hg1 hat1 hbb1
    have hsame : ∀ b, b < w.heap.size → (Value.slice vA xn vc).ownBlock ≠ some b → w5.heap[b]? = w.heap[b]? := fun b hb hne => (hg1.block b (by rw [HR.out.2.2.2.2.2.2.2]; omega) (fun e => hne e.symm)).trans ((Below.heap_alloc w1 _ b (by omega)).trans (HR.out.1.block b hb))
    have kE := hsame E hlE hEo
    have y2 := (World.cell?_of_block (a := ⟨E, 2, none⟩) kE).trans e2
    have fE1 : ∀ o, w5.frozen? ⟨E, o, none⟩ = false := fun o => by have h9 := fE o; unfold World.frozen? at h9 ⊢; rw [kE]; exact h9
    have hgE : Blk w5 E 35 #[nx, vS, .slice vA xn vc] := kE.trans HE.out
    have hz5 : w.heap.size ≤ w5.heap.size := by (have h9 := hbb1.size; rw [HR.out.2.2.2.2.2.2.2] at h9; omega)
    have zE5 : E < w5.heap.size := by omega
    have hbb : RowKit.Below B w w5 := ((HR.out.1.mono (by omega)).alloc (by omega) _).trans hbb1
    clear hg1 hat1 kE hbb1
    refine hK.out _ _ ?_ (fun hHeld6 => ?_)
    · (try dsimp only)
      (first | (with_reducible assumption) | (go_keep; done) | (simp; omega))
    clear hK K hHeld5
    try simp only [Act.put, List.setIfInBounds_toArray, List.set_cons_zero, List.set_cons_succ]
    refine wpAnyH_take (i := 6) (oi := _) (v := ?v7) rfl (by kernel_rfl) (by kernel_rfl) (by kernel_rfl) (fun _ _ _ h => h) (Or.inl ⟨by rfl, ?hy7⟩) (by with_reducible assumption) ?rest7
    case hy7 => (intro w hSw; (try dsimp only at hSw); go_simp; try with_reducible rfl)
    try simp only [Act.put, List.setIfInBounds_toArray, List.set_cons_zero, List.set_cons_succ]
    refine wpAnyH_ready (rs := [7]) (by kernel_rfl) (by simp) ?_
    refine (AllReadyH.cons (o := _) rfl (fun K hK => ?_) AllReadyH.nil)
    go_simp
    refine hK.out _ _ ?_ (fun hHeld8 => ?_)
    · (try dsimp only)
      (first | (with_reducible assumption) | (go_keep; done) | (simp; omega))
    clear hK K hHeld6
    try simp only [Act.put, List.setIfInBounds_toArray, List.set_cons_zero, List.set_cons_succ]
    refine wpAnyH_done (by kernel_rfl) ?_ _
    refine NoPanic.normal ?_
    clear hHeld8
    exact HK.out _ _ _ _ _ _ _ _ _ _ (hgE.set 2 _) (hox.far hXE _) (fun k hk hne hno => (Below.heap_setCell w5 ⟨E, 2, none⟩ _ k hne).trans (hsame k hk hno)) (by simp [World.setCell]; omega) (hbb.setCell (p := ⟨E, 2, none⟩) hBE _)
  · skip
    go_simp
    refine (cloneB_any T body n c HB.out.1 _ (HB.out.2.below ((Below.refl _ _).drew) (by simp)) (by omega)).mono ?_
    rintro e w1 ⟨T1, n1, c1, rfl, hn1, hl1, hm1, hs1, hb1⟩
    have z1 : w.heap.size ≤ w1.heap.size := by (have h9 := hb1.size; simpa using h9)
    have zE : E < w1.heap.size := by omega
    have k2 := (hb1.cell (p := ⟨E, 2, none⟩) hlE).trans e2
    have hb1' : RowKit.Below w.heap.size w w1 := ((Below.refl _ _).drew).trans hb1
    have hs1' : Sl (Rint .u8) w1 (mid w.heap.size w1.heap.size) T1 body := hs1
    have HR := Lib.hid (And.intro hb1' (ready_body hn1 hl1 hm1 hs1' hb1' HO.out HX.out (by omega)))
    clear hn1 hl1 hm1 hs1 hs1' hb1 hb1'
    try dsimp only
    refine hK.out _ _ ?_ (fun hHeld9 => ?_)
    · (try dsimp only)
      (first | (with_reducible assumption) | (go_keep; done) | (simp; omega))
    clear hK K hHeld0
    try simp only [Act.put, List.setIfInBounds_toArray, List.set_cons_zero, List.set_cons_succ]
    refine wpAnyH_ready (rs := [1, 4]) (by kernel_rfl) (by simp) ?_
    refine (AllReadyH.cons (o := _) rfl (fun K hK => ?_) (AllReadyH.cons (o := _) rfl (fun K hK => ?_) AllReadyH.nil))
    · skip
      go_simp
      refine hK.out _ _ ?_ (fun hHeld10 => ?_)
      · (try dsimp only)
        (first | (with_reducible assumption) | (go_keep; done) | (simp; omega))
      clear hK K hHeld9
      try simp only [Act.put, List.setIfInBounds_toArray, List.set_cons_zero, List.set_cons_succ]
      refine wpAnyH_ready (rs := [4]) (by kernel_rfl) (by simp) ?_
      refine (AllReadyH.cons (o := _) rfl (fun K hK => ?_) AllReadyH.nil)
      go_simp
      refine hK.out _ _ ?_ (fun hHeld11 => ?_)
      · (try dsimp only)
        (first | (with_reducible assumption) | (go_keep; done) | (simp; omega))
      clear hK K hHeld10
      try simp only [Act.put, List.setIfInBounds_toArray, List.set_cons_zero, List.set_cons_succ]
      refine wpAnyH_ready (rs := [5]) (by kernel_rfl) (by simp) ?_
      refine (AllReadyH.cons (o := _) rfl (fun K hK => ?_) AllReadyH.nil)
      refine step_append_X rfl (.tmp 27) (.tmp 30) rfl ei_bodies (by rfl) HR.out.2.1 (some ⟨w1.heap.size, 0, none⟩) 1 1 (ys := [body]) (by rfl) rfl HR.out.2.2.1 HR.out.2.2.2.1 HR.out.2.2.2.2.1 HR.out.2.2.2.2.2.1 (by rw [HN.out]; exact hz2) (by rw [HN.out]; simp only [maxLen]; omega) HR.out.2.2.2.2.2.2.1 ?_
      rw [HN.out]
      intro A' cap w5 hox hg1 hat1 hbb1
      have hsame : ∀ b, b < w.heap.size → (Value.slice vA xn vc).ownBlock ≠ some b → w5.heap[b]? = w.heap[b]? := fun b hb hne => (hg1.block b (by rw [HR.out.2.2.2.2.2.2.2]; omega) (fun e => hne e.symm)).trans ((Below.heap_alloc w1 _ b (by omega)).trans (HR.out.1.block b hb))
      have kE := hsame E hlE hEo
      have y2 := (World.cell?_of_block (a := ⟨E, 2, none⟩) kE).trans e2
      have fE1 : ∀ o, w5.frozen? ⟨E, o, none⟩ = false := fun o => by have h9 := fE o; unfold World.frozen? at h9 ⊢; rw [kE]; exact h9
      have hgE : Blk w5 E 35 #[nx, vS, .slice vA xn vc] := kE.trans HE.out
      have hz5 : w.heap.size ≤ w5.heap.size := by (have h9 := hbb1.size; rw [HR.out.2.2.2.2.2.2.2] at h9; omega)
      have zE5 : E < w5.heap.size := by omega
      have hbb : RowKit.Below B w w5 := ((HR.out.1.mono (by omega)).alloc (by omega) _).trans hbb1
      clear hg1 hat1 kE hbb1
      refine hK.out _ _ ?_ (fun hHeld12 => ?_)
      · (try dsimp only)
        (first | (with_reducible assumption) | (go_keep; done) | (simp; omega))
      clear hK K hHeld11
      try simp only [Act.put, List.setIfInBounds_toArray, List.set_cons_zero, List.set_cons_succ]
      refine wpAnyH_take (i := 6) (oi := _) (v := ?v13) rfl (by kernel_rfl) (by kernel_rfl) (by kernel_rfl) (fun _ _ _ h => h) (Or.inl ⟨by rfl, ?hy13⟩) (by with_reducible assumption) ?rest13
      case hy13 => (intro w hSw; (try dsimp only at hSw); go_simp; try with_reducible rfl)
      try simp only [Act.put, List.setIfInBounds_toArray, List.set_cons_zero, List.set_cons_succ]
      refine wpAnyH_ready (rs := [7]) (by kernel_rfl) (by simp) ?_
      refine (AllReadyH.cons (o := _) rfl (fun K hK => ?_) AllReadyH.nil)
      go_simp
      refine hK.out _ _ ?_ (fun hHeld14 => ?_)
      · (try dsimp only)
        (first | (with_reducible assumption) | (go_keep; done) | (simp; omega))
      clear hK K hHeld12
      try simp only [Act.put, List.setIfInBounds_toArray, List.set_cons_zero, List.set_cons_succ]
      refine wpAnyH_done (by kernel_rfl) ?_ _
      refine NoPanic.normal ?_
      clear hHeld14
      exact HK.out _ _ _ _ _ _ _ _ _ _ (hgE.set 2 _) (hox.far hXE _) (fun k hk hne hno => (Below.heap_setCell w5 ⟨E, 2, none⟩ _ k hne).trans (hsame k hk hno)) (by simp [World.setCell]; omega) (hbb.setCell (p := ⟨E, 2, none⟩) hBE _)
    · skip
      go_simp
      refine hK.out _ _ ?_ (fun hHeld15 => ?_)
      · (try dsimp only)
        (first | (with_reducible assumption) | (go_keep; done) | (simp; omega))
      clear hK K hHeld9
      try simp only [Act.put, List.setIfInBounds_toArray, List.set_cons_zero, List.set_cons_succ]
      refine wpAnyH_ready (rs := [1]) (by kernel_rfl) (by simp) ?_
      refine (AllReadyH.cons (o := _) rfl (fun K hK => ?_) AllReadyH.nil)
      go_simp
      refine hK.out _ _ ?_ (fun hHeld16 => ?_)
      · (try dsimp only)
        (first | (with_reducible assumption) | (go_keep; done) | (simp; omega))
      clear hK K hHeld15
      try simp only [Act.put, List.setIfInBounds_toArray, List.set_cons_zero, List.set_cons_succ]
      refine wpAnyH_ready (rs := [5]) (by kernel_rfl) (by simp) ?_
      refine (AllReadyH.cons (o := _) rfl (fun K hK => ?_) AllReadyH.nil)
      refine step_append_X rfl (.tmp 27) (.tmp 30) rfl ei_bodies (by rfl) HR.out.2.1 (some ⟨w1.heap.size, 0, none⟩) 1 1 (ys := [body]) (by rfl) rfl HR.out.2.2.1 HR.out.2.2.2.1 HR.out.2.2.2.2.1 HR.out.2.2.2.2.2.1 (by rw [HN.out]; exact hz2) (by rw [HN.out]; simp only [maxLen]; omega) HR.out.2.2.2.2.2.2.1 ?_
      rw [HN.out]
      intro A' cap w5 hox hg1 hat1 hbb1
      have hsame : ∀ b, b < w.heap.size → (Value.slice vA xn vc).ownBlock ≠ some b → w5.heap[b]? = w.heap[b]? := fun b hb hne => (hg1.block b (by rw [HR.out.2.2.2.2.2.2.2]; omega) (fun e => hne e.symm)).trans ((Below.heap_alloc w1 _ b (by omega)).trans (HR.out.1.block b hb))
      have kE := hsame E hlE hEo
      have y2 := (World.cell?_of_block (a := ⟨E, 2, none⟩) kE).trans e2
      have fE1 : ∀ o, w5.frozen? ⟨E, o, none⟩ = false := fun o => by have h9 := fE o; unfold World.frozen? at h9 ⊢; rw [kE]; exact h9
      have hgE : Blk w5 E 35 #[nx, vS, .slice vA xn vc] := kE.trans HE.out
      have hz5 : w.heap.size ≤ w5.heap.size := by (have h9 := hbb1.size; rw [HR.out.2.2.2.2.2.2.2] at h9; omega)
      have zE5 : E < w5.heap.size := by omega
      have hbb : RowKit.Below B w w5 := ((HR.out.1.mono (by omega)).alloc (by omega) _).trans hbb1
      clear hg1 hat1 kE hbb1
      refine hK.out _ _ ?_ (fun hHeld17 => ?_)
      · (try dsimp only)
        (first | (with_reducible assumption) | (go_keep; done) | (simp; omega))
      clear hK K hHeld16
      try simp only [Act.put, List.setIfInBounds_toArray, List.set_cons_zero, List.set_cons_succ]
      refine wpAnyH_take (i := 6) (oi := _) (v := ?v18) rfl (by kernel_rfl) (by kernel_rfl) (by kernel_rfl) (fun _ _ _ h => h) (Or.inl ⟨by rfl, ?hy18⟩) (by with_reducible assumption) ?rest18
      case hy18 => (intro w hSw; (try dsimp only at hSw); go_simp; try with_reducible rfl)
      try simp only [Act.put, List.setIfInBounds_toArray, List.set_cons_zero, List.set_cons_succ]
      refine wpAnyH_ready (rs := [7]) (by kernel_rfl) (by simp) ?_
      refine (AllReadyH.cons (o := _) rfl (fun K hK => ?_) AllReadyH.nil)
      go_simp
      refine hK.out _ _ ?_ (fun hHeld19 => ?_)
      · (try dsimp only)
        (first | (with_reducible assumption) | (go_keep; done) | (simp; omega))
      clear hK K hHeld17
      try simp only [Act.put, List.setIfInBounds_toArray, List.set_cons_zero, List.set_cons_succ]
      refine wpAnyH_done (by kernel_rfl) ?_ _
      refine NoPanic.normal ?_
      clear hHeld19
      exact HK.out _ _ _ _ _ _ _ _ _ _ (hgE.set 2 _) (hox.far hXE _) (fun k hk hne hno => (Below.heap_setCell w5 ⟨E, 2, none⟩ _ k hne).trans (hsame k hk hno)) (by simp [World.setCell]; omega) (hbb.setCell (p := ⟨E, 2, none⟩) hBE _)
noncomputable def send_r6_code : Code := regionOf Try.f17 6
set_option maxRecDepth 100000 in
set_option maxHeartbeats 2000000 in
theorem send_r6 {Q : Exit → Act → World → Prop} {s0 s1 s2 s3 s4 s5 s6 s7 s9 s12 s13 s14 s15 s16 s17 s18 s19 s20 s21 s22 s23 s24 s25 s26 s27 s28 s29 s30 s31 s32 s33 s34 s35 s36 s37 s38 s39 : Value} (w : World) (B H E I : Nat) (nx : Int) (A1 : Option Addr) (n1 c1 : Nat) (A2 : Option Addr) (n2 c2 : Nat) (sq tm : Int) (T : Option Addr) (n c : Nat) (hE : Blk w E 35 #[.int .i64 nx, .slice A1 n1 c1, .slice A2 n2 c2]) (hI : Blk w I 38 #[.int .i64 sq, .slice T n c, .int .i64 tm]) (hH : Blk w H 35 #[.int .i64 0, .slice none 0 0, .slice none 0 0]) (hBH : B ≤ H) (hEH : E ≠ H) (hIH : I ≠ H)
    (hK : ∀ (d37 d38 d39 : Value) (G : Nat) (w' : World), Blk w' H 35 #[.int .i64 nx, .slice A1 n1 c1, .slice A2 n2 c2] → Blk w' G 38 #[.int .i64 sq, .slice T n c, .int .i64 tm] → w.heap.size ≤ G → (∀ k, k < w.heap.size → k ≠ H → w'.heap[k]? = w.heap[k]?) → Below B w w' → Q .normal ⟨#[s0, s1, s2, s3, s4, s5, s6, s7, .pointer (some ⟨H, 0, none⟩), .slice (some ⟨G, 0, none⟩) 1 1, .pointer (some ⟨E, 0, none⟩), .pointer (some ⟨I, 0, none⟩), s12, s13, s14, s15, s16, s17, s18, s19, s20, s21, s22, s23, s24, s25, s26, s27, s28, s29, s30, s31, s32, s33, s34, s35, s36, d37, d38, d39], []⟩ w') :
    Code.wp Try.prog send_r6_code Q ⟨#[s0, s1, s2, s3, s4, s5, s6, s7, .pointer (some ⟨H, 0, none⟩), s9, .pointer (some ⟨E, 0, none⟩), .pointer (some ⟨I, 0, none⟩), s12, s13, s14, s15, s16, s17, s18, s19, s20, s21, s22, s23, s24, s25, s26, s27, s28, s29, s30, s31, s32, s33, s34, s35, s36, s37, s38, s39], []⟩ w := by
  have HK := Lib.hid hK; clear hK
  have HB := Lib.hid (And.intro hE (And.intro hI hH))
  have e0 := hE.cell 0 (v := .int .i64 nx) rfl; have e1 := hE.cell 1 (v := .slice A1 n1 c1) rfl; have e2 := hE.cell 2 (v := .slice A2 n2 c2) rfl
  have x0 := hI.cell 0 (v := .int .i64 sq) rfl; have x1 := hI.cell 1 (v := .slice T n c) rfl; have x2 := hI.cell 2 (v := .int .i64 tm) rfl
  have h0 := hH.cell 0 (v := .int .i64 0) rfl; have h1 := hH.cell 1 (v := .slice none 0 0) rfl; have h2 := hH.cell 2 (v := .slice none 0 0) rfl; have fH := hH.frozen
  have lE := hE.lt; have lI := hI.lt; have lH := hH.lt
  clear hE hI hH
  conv => arg 2; whnf
  refine wp_region_noPanic ?_
  go_region
  all_goals refine NoPanic.normal ?_
  all_goals exact HK.out _ _ _ w.heap.size _ ((((HB.out.2.2.set 0 _).set 1 _).set 2 _).alloc _) (Blk.new ((((w.setCell ⟨H, 0, none⟩ (.int .i64 nx)).setCell ⟨H, 1, none⟩ (.slice A1 n1 c1))).setCell ⟨H, 2, none⟩ (.slice A2 n2 c2)) _ _ (by simp [World.setCell])) (Nat.le_refl _) (fun k hk hne => (Below.heap_alloc ((((w.setCell ⟨H, 0, none⟩ (.int .i64 nx)).setCell ⟨H, 1, none⟩ (.slice A1 n1 c1))).setCell ⟨H, 2, none⟩ (.slice A2 n2 c2)) _ k (by simpa [World.setCell] using hk)).trans ((Below.heap_setCell _ ⟨H, 2, none⟩ _ k hne).trans ((Below.heap_setCell _ ⟨H, 1, none⟩ _ k hne).trans (Below.heap_setCell _ ⟨H, 0, none⟩ _ k hne)))) ((((((Below.refl B w).setCell (p := ⟨H, 0, none⟩) hBH _).setCell (p := ⟨H, 1, none⟩) hBH _).setCell (p := ⟨H, 2, none⟩) hBH _).alloc (by simp [World.setCell]; omega) _).drew)
/-- What Send leaves. -/
def OutRet (o : Ot) (l : List It) (w : World) (en : Ending) (w' : World) : Prop :=
  ∃ (A : Option Addr) (n cap : Nat) (B : Option Addr) (m cap' : Nat) (T : Option Addr) (k kc : Nat), en = .returned (.tuple #[.agg #[.int .i64 o.next, .slice A n cap, .slice B m cap'], .slice T k kc]) ∧ OutAt w' (mid w.heap.size w'.heap.size) A n B m o ∧ n ≤ cap ∧ cap ≤ maxLen ∧ m ≤ cap' ∧ cap' ≤ maxLen ∧
    l.length = k ∧ OwnX Rit w' w.heap.size 38 (fun _ => False) (.slice T k kc) l ∧ Below w.heap.size w w'
theorem OutRet.mk' {o : Ot} {l : List It} {w w' : World} {X1 X2 X3 : Nat → Prop} {A : Option Addr} {n cap : Nat} {B : Option Addr} {m cap' : Nat} {T : Option Addr} {k kc : Nat} (h1 : OwnX Rit w' w.heap.size 38 X1 (.slice A n cap) o.sent) (h2 : OwnX Rbd w' w.heap.size 25 X2 (.slice B m cap') o.wait)
    (h3 : OwnX Rit w' w.heap.size 38 X3 (.slice T k kc) l) (hb : Below w.heap.size w w') : OutRet o l w (.returned (.tuple #[.agg #[.int .i64 o.next, .slice A n cap, .slice B m cap'], .slice T k kc])) w' := by
  obtain ⟨rfl, a2, a3, a4⟩ := h1.sl
  obtain ⟨rfl, b2, b3, b4⟩ := h2.sl
  obtain ⟨rfl, _, _, _⟩ := h3.sl
  exact ⟨A, _, cap, B, _, cap', T, _, kc, rfl, ⟨a4.keep (fun _ _ => rfl) (fun b hb => ⟨hb.1, hb.2.1⟩), rfl, b4.keep (fun _ _ => rfl) (fun b hb => ⟨hb.1, hb.2.1⟩), rfl⟩, a2, a3, b2, b3, rfl, h3.less (fun _ _ _ _ h => h), hb⟩
set_option maxRecDepth 100000 in
set_option maxHeartbeats 4000000 in
theorem send_any (w : World) (o : Ot) (AS : Option Addr) (nS cS : Nat) (AW : Option Addr) (nW cW : Nat) (body : List Int) (T : Option Addr) (n c : Nat) (window now : Int) (ho : OutAt w (lo w.heap.size) AS nS AW nW o) (hf : OutFit o) (hn : body.length = n) (hT : Sl (Rint .u8) w (lo w.heap.size) T body) (hz : n ≤ 140737488355328)
    (hx0 : 0 ≤ o.next) (hx1 : o.next < 4611686018427387904) (hnow : (Lit.int .i64 now).wf = true) :
    Calls Try.prog 17 #[.agg #[.int .i64 o.next, .slice AS nS cS, .slice AW nW cW], .slice T n c, .int .i64 window, .int .i64 now] w (OutRet (sendP o body window now).1 (sendP o body window now).2 w) := by
  have hb0 : RowKit.Below w.heap.size w ((w.alloc (.cells #[.int .i64 o.next, .slice AS nS cS, .slice AW nW cW] 35)).alloc (.cells #[.int .i64 0, .slice none 0 0, .slice none 0 0] 35)) := ((Below.refl _ _).alloc (Nat.le_refl _) _).alloc (by simp) _
  have hz0 : ((w.alloc (.cells #[.int .i64 o.next, .slice AS nS cS, .slice AW nW cW] 35)).alloc (.cells #[.int .i64 0, .slice none 0 0, .slice none 0 0] 35)).heap.size = w.heap.size + 2 := by simp
  have hB := (Blk.new w 35 #[.int .i64 o.next, .slice AS nS cS, .slice AW nW cW] (g := w.heap.size) rfl).alloc (.cells #[.int .i64 0, .slice none 0 0, .slice none 0 0] 35)
  have hR := Blk.new (w.alloc (.cells #[.int .i64 o.next, .slice AS nS cS, .slice AW nW cW] 35)) 35 #[.int .i64 0, .slice none 0 0, .slice none 0 0] (g := w.heap.size + 1) (by simp)
  have hT0 := hT.below hb0 hb0.size
  have ho0 := ho.below hb0 hb0.size
  go_enter Try.func17, Try.ntmps17
  go_upto_region 1 with fail
  generalize ((w.alloc (.cells #[.int .i64 o.next, .slice AS nS cS, .slice AW nW cW] 35)).alloc (.cells #[.int .i64 0, .slice none 0 0, .slice none 0 0] 35)) = w0 at *
  have H0 := Lib.hid (And.intro hb0 (And.intro hB (And.intro hR (And.intro hT0 (And.intro ho0 (And.intro hf hn))))))
  clear hb0 hB hR hT0 ho0 ho hT hf hn
  refine send_r1 w0 w.heap.size o AS nS cS AW nW cW H0.out.2.2.2.2.1 H0.out.2.2.2.2.2.1 (by omega) (H0.out.2.1.cell 0 rfl) (H0.out.2.1.cell 1 rfl) (H0.out.2.1.cell 2 rfl) ?_
  intro d12 d13 d14 d15 d16 d17 d18 d19 d20 E A1 c1 A2 c2 w2 hE hox hEg hb2
  have z2 := hb2.size
  have hlE := hE.lt
  have hnS := H0.out.2.2.2.2.1.sentN
  have hwf : (Lit.int .i64 o.next).wf = true := WalkArith.wf_i64 ⟨by omega, by omega⟩
  have hR2 := H0.out.2.2.1.below hb2 (by omega)
  have r0 := hR2.cell 0 (v := .int .i64 0) rfl; have r1 := hR2.cell 1 (v := .slice none 0 0) rfl; have r2 := hR2.cell 2 (v := .slice none 0 0) rfl; have fR := hR2.frozen
  have e0 := hE.cell 0 (v := .int .i64 o.next) rfl; have e1 := hE.cell 1 (v := .slice A1 nS c1) rfl; have e2 := hE.cell 2 (v := .slice A2 nW c2) rfl
  have H2 := Lib.hid (And.intro hE (And.intro hox (And.intro (H0.out.1.trans (hb2.mono (by omega))) (And.intro hb2 hR2))))
  have HNS := Lib.hid hnS
  clear hE hox hb2 hR2 hnS
  by_cases hw : window ≤ (nS : Int)
  · have d1 : decide (window ≤ (nS : Int)) = true := decide_eq_true hw
    have HP := Lib.hid (show sendP o body window now = (⟨o.next, o.sent, o.wait ++ [body]⟩, []) by unfold sendP; rw [if_pos (by rw [HNS.out]; exact hw)])
    clear hw
    go_upto_region 3 with fail
    refine send_r3 w2 w0.heap.size E (.int .i64 o.next) (.slice A1 nS c1) (fun k => k = E ∨ (Value.slice A1 nS c1).ownBlock = some k) _ o.wait body T n c H2.out.1 H2.out.2.1.2 (.inl rfl) (fun k h => by rcases h with h | h; omega; exact (H2.out.2.1.1.lt h).2.1) hEg H0.out.2.2.2.2.2.2 (H0.out.2.2.2.1.below H2.out.2.2.2.1 z2) hz H0.out.2.2.2.2.2.1.wait ?_
    intro d26 d27 d28 d29 d30 d31 d32 A' cap w3 hE3 hox3 hs3 hz3 hb3
    clear r0 r1 r2 fR e0 e1 e2
    have hR3 := (hs3 (w.heap.size + 1) (by omega) (by omega) (fun e => by have := (H2.out.2.1.2.lt e).1; omega)).trans H2.out.2.2.2.2
    have r0 := Blk.cell (t := 35) hR3 0 (v := .int .i64 0) rfl; have r1 := Blk.cell (t := 35) hR3 1 (v := .slice none 0 0) rfl; have r2 := Blk.cell (t := 35) hR3 2 (v := .slice none 0 0) rfl; have fR := Blk.frozen (t := 35) hR3
    have e0 := hE3.cell 0 (v := .int .i64 o.next) rfl; have e1 := hE3.cell 1 (v := .slice A1 nS c1) rfl; have e2 := hE3.cell 2 (v := .slice A' (o.wait.length + 1) cap) rfl
    have hlE3 := hE3.lt
    have H3 := Lib.hid (And.intro hox3 (And.intro hs3 hb3))
    clear hR3 hE3 hox3 hs3 hb3
    have hnS2 := HNS.out
    go_wp2
    refine bodyPost_ret (v := .tuple #[.agg #[.int .i64 o.next, .slice A1 nS c1, .slice A' (o.wait.length + 1) cap], .slice none 0 0]) (by simp [results, Try.results17, go_sem, r0, r1, r2]) rfl ?_
    have k1 := (H2.out.2.1.1.frame (w' := w3) (X' := fun k => k = E ∨ (Value.slice A2 nW c2).ownBlock = some k) (fun k h1 h2 h3 => H3.out.2.1 k h2 (fun e => h3 (.inl e)) (fun e => h3 (.inr e))) hz3 (fun _ _ _ h => h))
    have hlow : ∀ i : Nat, (Addr.mk (w.heap.size + 1) i none).block < w0.heap.size := fun i => by show w.heap.size + 1 < _; omega
    have k2 := (((k1.low (hlow 0) (.int .i64 o.next)).low (hlow 1) (.slice A1 nS c1)).low (hlow 2) (.slice A' (o.wait.length + 1) cap)).base (B' := w.heap.size) (by omega)
    have k3 := (((H3.out.1.low (hlow 0) (.int .i64 o.next)).low (hlow 1) (.slice A1 nS c1)).low (hlow 2) (.slice A' (o.wait.length + 1) cap)).base (B' := w.heap.size) (by omega)
    rw [HP.out]
    exact OutRet.mk' (o := ⟨o.next, o.sent, o.wait ++ [body]⟩) k2 k3 (OwnX.nil _ _ _ _ (fun _ => False)) ((((H2.out.2.2.1.trans (H3.out.2.2.mono (by omega))).setCell (p := ⟨w.heap.size + 1, 0, none⟩) (by simp) _).setCell (p := ⟨w.heap.size + 1, 1, none⟩) (by simp) _).setCell (p := ⟨w.heap.size + 1, 2, none⟩) (by simp) _)
  · have d1 : decide (window ≤ (nS : Int)) = false := decide_eq_false hw
    have HP := Lib.hid (show sendP o body window now = (⟨o.next + 1, o.sent ++ [⟨o.next, body, now⟩], o.wait⟩, [⟨o.next, body, now⟩]) by unfold sendP; rw [if_neg (by rw [HNS.out]; exact hw)])
    clear hw
    go_upto_region 6 with (go_at_call 30
                           go_loud (skip
                                    refine (number_any w2 w0.heap.size E o.next now _ (fun k => k = E ∨ (Value.slice A2 nW c2).ownBlock = some k) (.slice A1 nS c1) o.sent body T n c H2.out.1 H2.out.2.1.1 (.inl rfl) (fun k h => by rcases h with h | h; omega; exact (H2.out.2.1.2.lt h).2.1) hEg H0.out.2.2.2.2.2.2 (H0.out.2.2.2.1.below H2.out.2.2.2.1 z2) hz H0.out.2.2.2.2.2.1.sent hx0 hx1 hnow).mono ?_
                                    rintro e w3 ⟨T', n', c', A', cap, m, rfl, hn', hl', hm', hm1, hm2, hs3, hE3, hox3, hfr3, hor3, hb3⟩
                                    clear r0 r1 r2 fR e0 e1 e2
                                    have H3 := Lib.hid (And.intro (show ItAt (w3.alloc (.cells #[.int .i64 o.next, .slice T' n' c', .int .i64 now] 38)) (mid m w3.heap.size) w3.heap.size T' n' c' ⟨o.next, body, now⟩ from ⟨Blk.new _ _ _ rfl, hwf, hnow, hn', hl', hm', hs3.keep (fun p hp => World.cell?_alloc_lt _ _ _ hp.2) (fun _ h => h)⟩) (And.intro hE3 (And.intro hox3 (And.intro hfr3 (And.intro hor3 hb3)))))
                                    clear hn' hl' hm' hs3 hE3 hox3 hfr3 hor3 hb3))
    have hz3 := H3.out.2.2.2.2.2.size
    have hlE3 := H3.out.2.1.lt
    have hR3 : Blk w3 (w.heap.size + 1) 35 #[.int .i64 0, .slice none 0 0, .slice none 0 0] := (H3.out.2.2.2.1 (w.heap.size + 1) (by omega) (by omega) (fun e => by have := (H2.out.2.1.1.lt e).1; omega)).trans H2.out.2.2.2.2
    have hb4 : RowKit.Below w3.heap.size w3 (w3.alloc (.cells #[.int .i64 o.next, .slice T' n' c', .int .i64 now] 38)) := (Below.refl _ _).alloc (Nat.le_refl _) _
    have hz4 : (w3.alloc (.cells #[.int .i64 o.next, .slice T' n' c', .int .i64 now] 38)).heap.size = w3.heap.size + 1 := by simp
    have H4 := Lib.hid (And.intro (hR3.below hb4 (by omega)) (And.intro (H3.out.2.1.below hb4 hlE3) hb4))
    clear hR3 hb4
    refine send_r6 _ (w.heap.size + 1) (w.heap.size + 1) E w3.heap.size (o.next + 1) A' (o.sent.length + 1) cap A2 nW c2 o.next now T' n' c' H4.out.2.1 H3.out.1.blk H4.out.1 (Nat.le_refl _) (by omega) (by omega) ?_
    intro d37 d38 d39 G w5 hH5 hG5 hGe hfr5 hb5
    go_wp2
    have r0 := hH5.cell 0 (v := .int .i64 (o.next + 1)) rfl; have r1 := hH5.cell 1 (v := .slice A' (o.sent.length + 1) cap) rfl; have r2 := hH5.cell 2 (v := .slice A2 nW c2) rfl
    refine bodyPost_ret (v := .tuple #[.agg #[.int .i64 (o.next + 1), .slice A' (o.sent.length + 1) cap, .slice A2 nW c2], .slice (some ⟨G, 0, none⟩) 1 1]) (by simp [results, Try.results17, go_sem, r0, r1, r2]) rfl ?_
    have f35 : ∀ k, w0.heap.size ≤ k → k < w3.heap.size → w5.heap[k]? = w3.heap[k]? := fun k h1 h2 => (hfr5 k (by omega) (by omega)).trans (H4.out.2.2.block k h2)
    have z5 := hb5.size
    have k2 := (H3.out.2.2.1.frame (w' := w5) (X' := fun _ => False) (fun k h1 h2 _ => f35 k h1 h2) (by omega) (fun _ _ _ _ h => h)).base (B' := w.heap.size) (by omega)
    have k3 := (H2.out.2.1.2.frame (w' := w5) (X' := fun _ => False) (fun k h1 h2 h3 => (f35 k h1 (by omega)).trans (H3.out.2.2.2.1 k h2 (fun e => h3 (.inl e)) (fun e => h3 (.inr e)))) (by omega) (fun _ _ _ _ h => h)).base (B' := w.heap.size) (by omega)
    have hG := hG5.lt
    have k4 : OwnX Rit w5 w.heap.size 38 (fun _ => False) (.slice (some ⟨G, 0, none⟩) 1 1) [⟨o.next, body, now⟩] := by
      refine ⟨mid m w3.heap.size, ⟨[.int .i64 o.next, .slice T' n' c', .int .i64 now], ⟨by simp [Rit], .inr ⟨G, 1, #[.int .i64 o.next, .slice T' n' c', .int .i64 now], rfl, by omega, hG5, Nat.le_refl _, by simp [maxLen], by simp [Rit], rfl⟩⟩, newItem (l := ⟨o.next, body, now⟩) H3.out.1.len hwf hnow H3.out.1.le H3.out.1.cap (H3.out.1.body.keep (fun p hp => World.cell?_of_block (hfr5 p.block (by have := hp.2; omega) (by have := hp.1; have := H3.out.2.2.2.2.2.size; omega))) (fun _ h => h))⟩, fun k hk => ⟨by have := hk.1; omega, by have := hk.2; omega, fun h => h, fun e => ?_⟩, fun _ _ h => h⟩
      have : G = k := by simpa [Value.ownBlock] using e
      have := hk.2; omega
    rw [HP.out]
    refine OutRet.mk' (o := ⟨o.next + 1, o.sent ++ [⟨o.next, body, now⟩], o.wait⟩) k2 k3 k4 ?_
    have hb6 := hb5
    exact (H2.out.2.2.1.trans (H3.out.2.2.2.2.2.mono (by omega))).trans ((H4.out.2.2.mono (by omega)).trans (hb6.mono (by omega)))
end Go.Proofs.Ytalieakmjkmbbaa
