/-
  A net copied: two appends onto nil and a struct of them (drawn regions).
-/
import Derived.Test.YtponbodiibkopaaDueN
import Derived.Deep.RegionHeld3
namespace Go.Proofs.Ytponbodiibkopaa
open Go.RowKit Go.Sort
set_option linter.unusedVariables false
set_option linter.unusedSimpArgs false
attribute [local go_sem ↓] Go.wp_at_zero Go.wp_at_succ

/-- Two lists of the call's own and a struct, apart from each other. -/
structure CpW (V : Nat) (w wr : World) (ls : List Fl) (fs : List Int) (vL vF : Value) (oE : Option Nat) : Prop where
  v : V ≤ w.heap.size
  bel : Below w.heap.size w wr
  L : Own Rfl wr w.heap.size 37 (lo V) vL ls
  F : Own (Rint .i64) wr w.heap.size 3 (lo V) vF fs
  E : ∀ e, oE = some e → Blk wr e 25 #[.slice none 0 0, .slice none 0 0] ∧ w.heap.size ≤ e
  dLF : ∀ g, vL.ownBlock = some g → vF.ownBlock ≠ some g
  dLE : ∀ g, vL.ownBlock = some g → oE ≠ some g
  dFE : ∀ g, vF.ownBlock = some g → oE ≠ some g
theorem CpW.start (V : Nat) (w : World) (hV : V ≤ w.heap.size) : CpW V w w.drew [] [] (.slice none 0 0) (.slice none 0 0) none :=
  ⟨hV, (Below.refl _ _).drew, Own.nil _ _ _ _ _, Own.nil _ _ _ _ _, fun _ h => by simp at h, fun _ h => by simp [Value.ownBlock] at h, fun _ h => by simp [Value.ownBlock] at h, fun _ h => by simp [Value.ownBlock] at h⟩
theorem CpW.list {V : Nat} {w wr w' : World} {ls : List Fl} {fs : List Int} {vF v' : Value} {oE : Option Nat} (h : CpW V w wr [] fs (.slice none 0 0) vF oE) (ho : Own Rfl w' w.heap.size 37 (lo V) v' ls) (hg : wr.grownBy w' (Value.slice none 0 0).ownBlock) (hv : v'.ownBlock = (Value.slice none 0 0).ownBlock ∨ v'.ownBlock = some wr.heap.size) : CpW V w w' ls fs v' vF oE := by
  have hb : ∀ k, k < wr.heap.size → w'.heap[k]? = wr.heap[k]? := fun k hk => hg.block k hk (by simp [Value.ownBlock])
  have hz := h.bel.size
  refine ⟨h.v, h.bel.grown hg hz (fun g hg => by simp [Value.ownBlock] at hg), ho, h.F.keep (fun g hg => hb g (h.F.lt hg).2) (fun p hp => World.cell?_of_block (hb _ (by have h8 : p.block < V := hp; have := h.v; omega))) (fun _ h => h), fun e he => ⟨(hb e ((h.E e he).1.lt)).trans (h.E e he).1, (h.E e he).2⟩, fun g hg' e9 => ?_, fun g hg' e9 => ?_, h.dFE⟩
  · rcases hv with e1 | e1
    · rw [e1] at hg'; simp [Value.ownBlock] at hg'
    · rw [e1] at hg'; obtain rfl := Option.some.inj hg'; have := (h.F.lt e9).2; omega
  · rcases hv with e1 | e1
    · rw [e1] at hg'; simp [Value.ownBlock] at hg'
    · rw [e1] at hg'; obtain rfl := Option.some.inj hg'; have := (h.E _ e9).1.lt; omega
theorem CpW.fates {V : Nat} {w wr w' : World} {ls : List Fl} {fs : List Int} {vL v' : Value} {oE : Option Nat} (h : CpW V w wr ls [] vL (.slice none 0 0) oE) (ho : Own (Rint .i64) w' w.heap.size 3 (lo V) v' fs) (hg : wr.grownBy w' (Value.slice none 0 0).ownBlock) (hv : v'.ownBlock = (Value.slice none 0 0).ownBlock ∨ v'.ownBlock = some wr.heap.size) : CpW V w w' ls fs vL v' oE := by
  have hb : ∀ k, k < wr.heap.size → w'.heap[k]? = wr.heap[k]? := fun k hk => hg.block k hk (by simp [Value.ownBlock])
  have hz := h.bel.size
  refine ⟨h.v, h.bel.grown hg hz (fun g hg => by simp [Value.ownBlock] at hg), h.L.keep (fun g hg => hb g (h.L.lt hg).2) (fun p hp => World.cell?_of_block (hb _ (by have h8 : p.block < V := hp; have := h.v; omega))) (fun _ h => h), ho, fun e he => ⟨(hb e ((h.E e he).1.lt)).trans (h.E e he).1, (h.E e he).2⟩, fun g hg' e9 => ?_, h.dLE, fun g hg' e9 => ?_⟩
  · rcases hv with e1 | e1
    · rw [e1] at e9; simp [Value.ownBlock] at e9
    · rw [e1] at e9; obtain rfl := Option.some.inj e9; have := (h.L.lt hg').2; omega
  · rcases hv with e1 | e1
    · rw [e1] at hg'; simp [Value.ownBlock] at hg'
    · rw [e1] at hg'; obtain rfl := Option.some.inj hg'; have := (h.E _ e9).1.lt; omega
theorem CpW.alloc {V : Nat} {w wr : World} {ls : List Fl} {fs : List Int} {vL vF : Value} (h : CpW V w wr ls fs vL vF none) : CpW V w (wr.alloc (.cells #[.slice none 0 0, .slice none 0 0] 25)) ls fs vL vF (some wr.heap.size) := by
  have hz := h.bel.size
  refine ⟨h.v, h.bel.alloc hz _, h.L.alloc (fun b hb => by have h8 : b < V := hb; have := h.v; omega) _, h.F.alloc (fun b hb => by have h8 : b < V := hb; have := h.v; omega) _, fun e he => ?_, h.dLF, fun g hg e9 => ?_, fun g hg e9 => ?_⟩
  · obtain rfl := Option.some.inj he
    exact ⟨Blk.new _ _ _ rfl, hz⟩
  · obtain rfl := Option.some.inj e9; have := (h.L.lt hg).2; omega
  · obtain rfl := Option.some.inj e9; have := (h.F.lt hg).2; omega
theorem CpW.there {V : Nat} {w wr : World} {ls : List Fl} {fs : List Int} {vL vF : Value} {e : Nat} (h : CpW V w wr ls fs vL vF (some e)) : wr.there e 0 2 := fun j hj => by
  obtain ⟨hE, _⟩ := h.E e rfl
  refine ⟨?_, hE.frozen _⟩
  rcases (show j = 0 ∨ j = 1 by omega) with rfl | rfl
  · rw [hE.cell 0 (v := .slice none 0 0) rfl]; rfl
  · rw [hE.cell 1 (v := .slice none 0 0) rfl]; rfl
/-- What is left: the struct holds both. -/
theorem CpW.fin {V : Nat} {w wr : World} {ls : List Fl} {fs : List Int} {vL vF : Value} {e : Nat} (h : CpW V w wr ls fs vL vF (some e)) {w' : World} (hw : w' = wr.setCells e 0 [vL, vF]) :
    Blk w' e 25 #[vL, vF] ∧ Own Rfl w' w.heap.size 37 (lo V) vL ls ∧ Own (Rint .i64) w' w.heap.size 3 (lo V) vF fs ∧ Below w.heap.size w w' ∧ w.heap.size ≤ e ∧ (∀ g, vL.ownBlock = some g → g ≠ e ∧ vF.ownBlock ≠ some g) ∧ (∀ g, vF.ownBlock = some g → g ≠ e) := by
  obtain ⟨hE, he⟩ := h.E e rfl
  replace hw : w' = (wr.setCell ⟨e, 0, none⟩ vL).setCell ⟨e, 1, none⟩ vF := hw
  have hb : ∀ k, k ≠ e → w'.heap[k]? = wr.heap[k]? := fun k hk => by rw [hw]; exact (Below.heap_setCell _ ⟨e, 1, none⟩ _ k hk).trans (Below.heap_setCell _ ⟨e, 0, none⟩ _ k hk)
  refine ⟨by rw [hw]; exact (hE.set 0 _).set 1 _, h.L.keep (fun g hg => hb g (fun e9 => h.dLE g hg (by rw [e9]))) (fun p hp => World.cell?_of_block (hb _ (by have h8 : p.block < V := hp; have := h.v; omega))) (fun _ h => h), h.F.keep (fun g hg => hb g (fun e9 => h.dFE g hg (by rw [e9]))) (fun p hp => World.cell?_of_block (hb _ (by have h8 : p.block < V := hp; have := h.v; omega))) (fun _ h => h), by rw [hw]; exact (h.bel.setCell (p := ⟨e, 0, none⟩) he _).setCell (p := ⟨e, 1, none⟩) he _, he, fun g hg => ⟨fun e9 => h.dLE g hg (by rw [e9]), h.dLF g hg⟩, fun g hg e9 => h.dFE g hg (by rw [e9])⟩
noncomputable def does_r5_code : Code := regionOf Try.f3 5
set_option maxRecDepth 100000 in
set_option maxHeartbeats 2000000 in
theorem does_r5 {Q : Exit → Act → World → Prop} {s0 s1 s2 s3 s4 s6 s7 s8 s9 s10 s11 s12 s13 s14 s15 s16 s17 s18 s19 s20 s21 s22 s23 s24 s25 s26 s27 s28 s29 s30 s31 s32 s33 s34 s35 s36 s37 s38 s39 s40 s41 s42 s43 s44 s45 s46 s47 s48 s49 s50 s51 s52 s53 s54 s55 s56 s57 s58 s59 s60 s61 s62 s63 s64 s65 s66 s67 s68 s69 s70 s71 s72 s73 s74 s75 s76 : Value} (w : World) (G V : Nat) (hV : V ≤ w.heap.size) (ls : List Fl) (fs : List Int) (A : Option Addr) (n c : Nat) (B : Option Addr) (m d : Nat) (hG : Blk w G 25 #[.slice A n c, .slice B m d]) (hn : ls.length = n) (hm : fs.length = m) (hx : Sl Rfl w (lo V) A ls) (hf : Sl (Rint .i64) w (lo V) B fs) (hz : n * 48 ≤ 140737488355328) (hz2 : m * 8 ≤ 140737488355328)
    (hK : ∀ (d28 d29 d30 d31 d32 d33 d34 : Value) (E : Nat) (A' : Option Addr) (c' : Nat) (B' : Option Addr) (d' : Nat) (w' : World), Blk w' E 25 #[.slice A' n c', .slice B' m d'] → Own Rfl w' w.heap.size 37 (lo V) (.slice A' n c') ls → Own (Rint .i64) w' w.heap.size 3 (lo V) (.slice B' m d') fs → Below w.heap.size w w' → w.heap.size ≤ E → (∀ g, (Value.slice A' n c').ownBlock = some g → g ≠ E ∧ (Value.slice B' m d').ownBlock ≠ some g) → (∀ g, (Value.slice B' m d').ownBlock = some g → g ≠ E) → Q .normal ⟨#[s0, s1, s2, s3, s4, .pointer (some ⟨G, 0, none⟩), s6, s7, s8, s9, s10, .pointer (some ⟨E, 0, none⟩), s12, s13, s14, s15, s16, s17, s18, s19, s20, s21, s22, s23, s24, s25, s26, s27, d28, d29, d30, d31, d32, d33, d34, s35, s36, s37, s38, s39, s40, s41, s42, s43, s44, s45, s46, s47, s48, s49, s50, s51, s52, s53, s54, s55, s56, s57, s58, s59, s60, s61, s62, s63, s64, s65, s66, s67, s68, s69, s70, s71, s72, s73, s74, s75, s76], []⟩ w') :
    Code.wp Try.prog does_r5_code Q ⟨#[s0, s1, s2, s3, s4, .pointer (some ⟨G, 0, none⟩), s6, s7, s8, s9, s10, s11, s12, s13, s14, s15, s16, s17, s18, s19, s20, s21, s22, s23, s24, s25, s26, s27, s28, s29, s30, s31, s32, s33, s34, s35, s36, s37, s38, s39, s40, s41, s42, s43, s44, s45, s46, s47, s48, s49, s50, s51, s52, s53, s54, s55, s56, s57, s58, s59, s60, s61, s62, s63, s64, s65, s66, s67, s68, s69, s70, s71, s72, s73, s74, s75, s76], []⟩ w := by
  have HK := Lib.hid hK; clear hK
  obtain ⟨newl, hel, hcl⟩ := hx.inRow
  obtain ⟨newf, hef, hcf⟩ := hf.inRow
  have HX := Lib.hid (And.intro hn (And.intro hm (And.intro hcl (And.intro hel (And.intro hcf (And.intro hef (And.intro hz hz2)))))))
  have HC := Lib.hid (CpW.start V w hV)
  have HG := Lib.hid (fun (w' : World) (hb : Below w.heap.size w w') => (⟨(hb.cell (p := ⟨G, 0, none⟩) hG.lt).trans (hG.cell 0 (v := .slice A n c) rfl), (hb.cell (p := ⟨G, 1, none⟩) hG.lt).trans (hG.cell 1 (v := .slice B m d) rfl)⟩ : w'.cell? ⟨G, 0, none⟩ = some (.slice A n c) ∧ w'.cell? ⟨G, 1, none⟩ = some (.slice B m d)))
  clear hn hm hx hf hz hz2 hel hcl hef hcf hG
  conv => arg 2; whnf
  refine wp_region_noPanic ?_
  refine wp_region_held_drew (S := (fun w' => w'.cell? ⟨G, 0, none⟩ = some (.slice A n c) ∧ w'.cell? ⟨G, 1, none⟩ = some (.slice B m d))) (by kernel_rfl) ?_ (fun hHeld0 => ?_)
  · (try dsimp only)
    (first | (with_reducible assumption) | exact HG.out _ HC.out.bel | exact HG.out _ (HC.out.fin rfl).2.2.2.1)
  refine wpAnyH_take (i := 0) (oi := (Oper.mk (some 28) _ _ _ _ _)) (v := ?v1) rfl (by kernel_rfl) (by kernel_rfl) (by kernel_rfl) (fun _ _ _ h => h) (Or.inl ⟨by rfl, ?hy1⟩) (by with_reducible assumption) ?rest1
  case hy1 => (intro w hSw; (try dsimp only at hSw); go_simp; try with_reducible rfl)
  try simp only [Act.put, List.setIfInBounds_toArray, List.set_cons_zero, List.set_cons_succ]
  refine wpAnyH_take (i := 1) (oi := (Oper.mk (some 29) _ _ _ _ _)) (v := ?v2) rfl (by kernel_rfl) (by kernel_rfl) (by kernel_rfl) (fun _ _ _ h => h) (Or.inl ⟨by rfl, ?hy2⟩) (by with_reducible assumption) ?rest2
  case hy2 => (intro w hSw; (try dsimp only at hSw); go_simp; try with_reducible rfl)
  try simp only [Act.put, List.setIfInBounds_toArray, List.set_cons_zero, List.set_cons_succ]
  refine wpAnyH_take (i := 3) (oi := (Oper.mk (some 31) _ _ _ _ _)) (v := ?v3) rfl (by kernel_rfl) (by kernel_rfl) (by kernel_rfl) (fun _ _ _ h => h) (Or.inl ⟨by rfl, ?hy3⟩) (by with_reducible assumption) ?rest3
  case hy3 => (intro w hSw; (try dsimp only at hSw); go_simp; try with_reducible rfl)
  try simp only [Act.put, List.setIfInBounds_toArray, List.set_cons_zero, List.set_cons_succ]
  refine wpAnyH_take (i := 4) (oi := (Oper.mk (some 32) _ _ _ _ _)) (v := ?v4) rfl (by kernel_rfl) (by kernel_rfl) (by kernel_rfl) (fun _ _ _ h => h) (Or.inl ⟨by rfl, ?hy4⟩) (by with_reducible assumption) ?rest4
  case hy4 => (intro w hSw; (try dsimp only at hSw); go_simp; try with_reducible rfl)
  try simp only [Act.put, List.setIfInBounds_toArray, List.set_cons_zero, List.set_cons_succ]
  refine wpAnyH_ready (rs := [2, 7]) (by kernel_rfl) (by simp) ?_
  refine (AllReadyH.cons (o := (Oper.mk (some 30) _ _ _ _ _)) rfl (fun K hK => ?_) (AllReadyH.cons (o := (Oper.mk (some 11) _ _ _ _ _)) rfl (fun K hK => ?_) AllReadyH.nil))
  · skip
    refine step_append_own' rfl (.const (.slice none 0 0)) (.tmp 29) 22 rfl ei_flights (R := Rfl) (S := lo V) (base := w.heap.size) (.slice none 0 0) (by rfl) HC.out.L (fun b hb => ⟨Nat.lt_of_lt_of_le (Nat.lt_of_lt_of_le hb HC.out.v) HC.out.bel.size, by simp [Value.ownBlock]⟩) A n c (ys := ls) (by rfl) HX.out.1 (HX.out.2.2.1.up HC.out.bel) (HX.out.2.2.2.1.keep (fun p hp => HC.out.bel.cell (Nat.lt_of_lt_of_le hp HC.out.v)) (fun _ h => h)) (by have h1 := HX.out; simp; omega) (by have h1 := HX.out; simp [maxLen]; omega) HC.out.bel.size ?_
    intro vL wL hox hg1 hat1
    obtain ⟨AL, cL, hvL⟩ := hox.form
    rw [show ([] ++ ls : List Fl).length = n from HX.out.1] at hvL
    subst hvL
    replace HC := Lib.hid (HC.out.list hox hg1 hat1)
    clear hox hg1 hat1
    refine hK.out _ _ ?_ (fun hHeld5 => ?_)
    · (try dsimp only)
      (first | (with_reducible assumption) | exact HG.out _ HC.out.bel | exact HG.out _ (HC.out.fin rfl).2.2.2.1)
    clear hK K hHeld0
    try simp only [Act.put, List.setIfInBounds_toArray, List.set_cons_zero, List.set_cons_succ]
    refine wpAnyH_ready (rs := [5, 7]) (by kernel_rfl) (by simp) ?_
    refine (AllReadyH.cons (o := (Oper.mk (some 33) _ _ _ _ _)) rfl (fun K hK => ?_) (AllReadyH.cons (o := (Oper.mk (some 11) _ _ _ _ _)) rfl (fun K hK => ?_) AllReadyH.nil))
    · skip
      refine step_append_own' rfl (.const (.slice none 0 0)) (.tmp 32) 23 rfl ei_ints (R := Rint .i64) (S := lo V) (base := w.heap.size) (.slice none 0 0) (by rfl) HC.out.F (fun b hb => ⟨Nat.lt_of_lt_of_le (Nat.lt_of_lt_of_le hb HC.out.v) HC.out.bel.size, by simp [Value.ownBlock]⟩) B m d (ys := fs) (by rfl) HX.out.2.1 (HX.out.2.2.2.2.1.up HC.out.bel) (HX.out.2.2.2.2.2.1.keep (fun p hp => HC.out.bel.cell (Nat.lt_of_lt_of_le hp HC.out.v)) (fun _ h => h)) (by have h1 := HX.out; simp; omega) (by have h1 := HX.out; simp [maxLen]; omega) HC.out.bel.size ?_
      intro vF wF hox hg1 hat1
      obtain ⟨BF, dF, hvF⟩ := hox.form
      rw [show ([] ++ fs : List Int).length = m from HX.out.2.1] at hvF
      subst hvF
      replace HC := Lib.hid (HC.out.fates hox hg1 hat1)
      clear hox hg1 hat1
      refine hK.out _ _ ?_ (fun hHeld6 => ?_)
      · (try dsimp only)
        (first | (with_reducible assumption) | exact HG.out _ HC.out.bel | exact HG.out _ (HC.out.fin rfl).2.2.2.1)
      clear hK K hHeld5
      try simp only [Act.put, List.setIfInBounds_toArray, List.set_cons_zero, List.set_cons_succ]
      refine wpAnyH_take (i := 6) (oi := (Oper.mk (some 34) _ _ _ _ _)) (v := ?v7) rfl (by kernel_rfl) (by kernel_rfl) (by kernel_rfl) (fun _ _ _ h => h) (Or.inl ⟨by rfl, ?hy7⟩) (by with_reducible assumption) ?rest7
      case hy7 => (intro w hSw; (try dsimp only at hSw); go_simp; try with_reducible rfl)
      try simp only [Act.put, List.setIfInBounds_toArray, List.set_cons_zero, List.set_cons_succ]
      refine wpAnyH_ready (rs := [7]) (by kernel_rfl) (by simp) ?_
      refine (AllReadyH.cons (o := (Oper.mk (some 11) _ _ _ _ _)) rfl (fun K hK => ?_) AllReadyH.nil)
      go_simp
      replace HC := Lib.hid HC.out.alloc
      try dsimp only
      refine hK.out _ _ ?_ (fun hHeld8 => ?_)
      · (try dsimp only)
        (first | (with_reducible assumption) | exact HG.out _ HC.out.bel | exact HG.out _ (HC.out.fin rfl).2.2.2.1)
      clear hK K hHeld6
      try simp only [Act.put, List.setIfInBounds_toArray, List.set_cons_zero, List.set_cons_succ]
      refine wpAnyH_ready (rs := [8]) (by kernel_rfl) (by simp) ?_
      refine (AllReadyH.cons (o := (Oper.mk (none) _ _ _ _ _)) rfl (fun K hK => ?_) AllReadyH.nil)
      refine step_store_mid rfl 25 (.tmp 11) (.tmp 34) rfl _ 0 [.slice AL n cL, .slice BF m dF] (by rfl) (by rfl) HC.out.there (by kernel_rfl) (fun v hv => by simp at hv; rcases hv with rfl | rfl <;> rfl) ?_
      refine hK.out _ _ ?_ (fun hHeld9 => ?_)
      · (try dsimp only)
        (first | (with_reducible assumption) | exact HG.out _ HC.out.bel | exact HG.out _ (HC.out.fin rfl).2.2.2.1)
      clear hK K hHeld8
      try simp only [Act.put, List.setIfInBounds_toArray, List.set_cons_zero, List.set_cons_succ]
      refine wpAnyH_done (by kernel_rfl) ?_ _
      refine NoPanic.normal ?_
      clear hHeld9
      obtain ⟨q1, q2, q3, q4, q5, q6, q7⟩ := HC.out.fin rfl
      exact HK.out _ _ _ _ _ _ _ _ AL cL BF dF _ q1 q2 q3 q4 q5 q6 q7
    · skip
      go_simp
      replace HC := Lib.hid HC.out.alloc
      try dsimp only
      refine hK.out _ _ ?_ (fun hHeld10 => ?_)
      · (try dsimp only)
        (first | (with_reducible assumption) | exact HG.out _ HC.out.bel | exact HG.out _ (HC.out.fin rfl).2.2.2.1)
      clear hK K hHeld5
      try simp only [Act.put, List.setIfInBounds_toArray, List.set_cons_zero, List.set_cons_succ]
      refine wpAnyH_ready (rs := [5]) (by kernel_rfl) (by simp) ?_
      refine (AllReadyH.cons (o := (Oper.mk (some 33) _ _ _ _ _)) rfl (fun K hK => ?_) AllReadyH.nil)
      refine step_append_own' rfl (.const (.slice none 0 0)) (.tmp 32) 23 rfl ei_ints (R := Rint .i64) (S := lo V) (base := w.heap.size) (.slice none 0 0) (by rfl) HC.out.F (fun b hb => ⟨Nat.lt_of_lt_of_le (Nat.lt_of_lt_of_le hb HC.out.v) HC.out.bel.size, by simp [Value.ownBlock]⟩) B m d (ys := fs) (by rfl) HX.out.2.1 (HX.out.2.2.2.2.1.up HC.out.bel) (HX.out.2.2.2.2.2.1.keep (fun p hp => HC.out.bel.cell (Nat.lt_of_lt_of_le hp HC.out.v)) (fun _ h => h)) (by have h1 := HX.out; simp; omega) (by have h1 := HX.out; simp [maxLen]; omega) HC.out.bel.size ?_
      intro vF wF hox hg1 hat1
      obtain ⟨BF, dF, hvF⟩ := hox.form
      rw [show ([] ++ fs : List Int).length = m from HX.out.2.1] at hvF
      subst hvF
      replace HC := Lib.hid (HC.out.fates hox hg1 hat1)
      clear hox hg1 hat1
      refine hK.out _ _ ?_ (fun hHeld11 => ?_)
      · (try dsimp only)
        (first | (with_reducible assumption) | exact HG.out _ HC.out.bel | exact HG.out _ (HC.out.fin rfl).2.2.2.1)
      clear hK K hHeld10
      try simp only [Act.put, List.setIfInBounds_toArray, List.set_cons_zero, List.set_cons_succ]
      refine wpAnyH_take (i := 6) (oi := (Oper.mk (some 34) _ _ _ _ _)) (v := ?v12) rfl (by kernel_rfl) (by kernel_rfl) (by kernel_rfl) (fun _ _ _ h => h) (Or.inl ⟨by rfl, ?hy12⟩) (by with_reducible assumption) ?rest12
      case hy12 => (intro w hSw; (try dsimp only at hSw); go_simp; try with_reducible rfl)
      try simp only [Act.put, List.setIfInBounds_toArray, List.set_cons_zero, List.set_cons_succ]
      refine wpAnyH_ready (rs := [8]) (by kernel_rfl) (by simp) ?_
      refine (AllReadyH.cons (o := (Oper.mk (none) _ _ _ _ _)) rfl (fun K hK => ?_) AllReadyH.nil)
      refine step_store_mid rfl 25 (.tmp 11) (.tmp 34) rfl _ 0 [.slice AL n cL, .slice BF m dF] (by rfl) (by rfl) HC.out.there (by kernel_rfl) (fun v hv => by simp at hv; rcases hv with rfl | rfl <;> rfl) ?_
      refine hK.out _ _ ?_ (fun hHeld13 => ?_)
      · (try dsimp only)
        (first | (with_reducible assumption) | exact HG.out _ HC.out.bel | exact HG.out _ (HC.out.fin rfl).2.2.2.1)
      clear hK K hHeld11
      try simp only [Act.put, List.setIfInBounds_toArray, List.set_cons_zero, List.set_cons_succ]
      refine wpAnyH_done (by kernel_rfl) ?_ _
      refine NoPanic.normal ?_
      clear hHeld13
      obtain ⟨q1, q2, q3, q4, q5, q6, q7⟩ := HC.out.fin rfl
      exact HK.out _ _ _ _ _ _ _ _ AL cL BF dF _ q1 q2 q3 q4 q5 q6 q7
  · skip
    go_simp
    replace HC := Lib.hid HC.out.alloc
    try dsimp only
    refine hK.out _ _ ?_ (fun hHeld14 => ?_)
    · (try dsimp only)
      (first | (with_reducible assumption) | exact HG.out _ HC.out.bel | exact HG.out _ (HC.out.fin rfl).2.2.2.1)
    clear hK K hHeld0
    try simp only [Act.put, List.setIfInBounds_toArray, List.set_cons_zero, List.set_cons_succ]
    refine wpAnyH_ready (rs := [2]) (by kernel_rfl) (by simp) ?_
    refine (AllReadyH.cons (o := (Oper.mk (some 30) _ _ _ _ _)) rfl (fun K hK => ?_) AllReadyH.nil)
    refine step_append_own' rfl (.const (.slice none 0 0)) (.tmp 29) 22 rfl ei_flights (R := Rfl) (S := lo V) (base := w.heap.size) (.slice none 0 0) (by rfl) HC.out.L (fun b hb => ⟨Nat.lt_of_lt_of_le (Nat.lt_of_lt_of_le hb HC.out.v) HC.out.bel.size, by simp [Value.ownBlock]⟩) A n c (ys := ls) (by rfl) HX.out.1 (HX.out.2.2.1.up HC.out.bel) (HX.out.2.2.2.1.keep (fun p hp => HC.out.bel.cell (Nat.lt_of_lt_of_le hp HC.out.v)) (fun _ h => h)) (by have h1 := HX.out; simp; omega) (by have h1 := HX.out; simp [maxLen]; omega) HC.out.bel.size ?_
    intro vL wL hox hg1 hat1
    obtain ⟨AL, cL, hvL⟩ := hox.form
    rw [show ([] ++ ls : List Fl).length = n from HX.out.1] at hvL
    subst hvL
    replace HC := Lib.hid (HC.out.list hox hg1 hat1)
    clear hox hg1 hat1
    refine hK.out _ _ ?_ (fun hHeld15 => ?_)
    · (try dsimp only)
      (first | (with_reducible assumption) | exact HG.out _ HC.out.bel | exact HG.out _ (HC.out.fin rfl).2.2.2.1)
    clear hK K hHeld14
    try simp only [Act.put, List.setIfInBounds_toArray, List.set_cons_zero, List.set_cons_succ]
    refine wpAnyH_ready (rs := [5]) (by kernel_rfl) (by simp) ?_
    refine (AllReadyH.cons (o := (Oper.mk (some 33) _ _ _ _ _)) rfl (fun K hK => ?_) AllReadyH.nil)
    refine step_append_own' rfl (.const (.slice none 0 0)) (.tmp 32) 23 rfl ei_ints (R := Rint .i64) (S := lo V) (base := w.heap.size) (.slice none 0 0) (by rfl) HC.out.F (fun b hb => ⟨Nat.lt_of_lt_of_le (Nat.lt_of_lt_of_le hb HC.out.v) HC.out.bel.size, by simp [Value.ownBlock]⟩) B m d (ys := fs) (by rfl) HX.out.2.1 (HX.out.2.2.2.2.1.up HC.out.bel) (HX.out.2.2.2.2.2.1.keep (fun p hp => HC.out.bel.cell (Nat.lt_of_lt_of_le hp HC.out.v)) (fun _ h => h)) (by have h1 := HX.out; simp; omega) (by have h1 := HX.out; simp [maxLen]; omega) HC.out.bel.size ?_
    intro vF wF hox hg1 hat1
    obtain ⟨BF, dF, hvF⟩ := hox.form
    rw [show ([] ++ fs : List Int).length = m from HX.out.2.1] at hvF
    subst hvF
    replace HC := Lib.hid (HC.out.fates hox hg1 hat1)
    clear hox hg1 hat1
    refine hK.out _ _ ?_ (fun hHeld16 => ?_)
    · (try dsimp only)
      (first | (with_reducible assumption) | exact HG.out _ HC.out.bel | exact HG.out _ (HC.out.fin rfl).2.2.2.1)
    clear hK K hHeld15
    try simp only [Act.put, List.setIfInBounds_toArray, List.set_cons_zero, List.set_cons_succ]
    refine wpAnyH_take (i := 6) (oi := (Oper.mk (some 34) _ _ _ _ _)) (v := ?v17) rfl (by kernel_rfl) (by kernel_rfl) (by kernel_rfl) (fun _ _ _ h => h) (Or.inl ⟨by rfl, ?hy17⟩) (by with_reducible assumption) ?rest17
    case hy17 => (intro w hSw; (try dsimp only at hSw); go_simp; try with_reducible rfl)
    try simp only [Act.put, List.setIfInBounds_toArray, List.set_cons_zero, List.set_cons_succ]
    refine wpAnyH_ready (rs := [8]) (by kernel_rfl) (by simp) ?_
    refine (AllReadyH.cons (o := (Oper.mk (none) _ _ _ _ _)) rfl (fun K hK => ?_) AllReadyH.nil)
    refine step_store_mid rfl 25 (.tmp 11) (.tmp 34) rfl _ 0 [.slice AL n cL, .slice BF m dF] (by rfl) (by rfl) HC.out.there (by kernel_rfl) (fun v hv => by simp at hv; rcases hv with rfl | rfl <;> rfl) ?_
    refine hK.out _ _ ?_ (fun hHeld18 => ?_)
    · (try dsimp only)
      (first | (with_reducible assumption) | exact HG.out _ HC.out.bel | exact HG.out _ (HC.out.fin rfl).2.2.2.1)
    clear hK K hHeld16
    try simp only [Act.put, List.setIfInBounds_toArray, List.set_cons_zero, List.set_cons_succ]
    refine wpAnyH_done (by kernel_rfl) ?_ _
    refine NoPanic.normal ?_
    clear hHeld18
    obtain ⟨q1, q2, q3, q4, q5, q6, q7⟩ := HC.out.fin rfl
    exact HK.out _ _ _ _ _ _ _ _ AL cL BF dF _ q1 q2 q3 q4 q5 q6 q7
noncomputable def rs_r1_code : Code := regionOf Try.f12 1
set_option maxRecDepth 100000 in
set_option maxHeartbeats 2000000 in
theorem rs_r1 {Q : Exit → Act → World → Prop} {s0 s1 s2 s3 s4 s6 s7 s8 s9 s10 s11 s12 s13 s14 s15 s16 s17 s18 s19 s20 s21 s22 s23 s24 s25 s26 s27 s28 s29 s30 s31 s32 s33 s34 s35 s36 s37 s38 s39 s40 s41 s42 s43 s44 s45 s46 s47 s48 s49 s50 s51 s52 s53 s54 s55 s56 s57 s58 s59 s60 s61 s62 s63 s64 s65 : Value} (w : World) (G V : Nat) (hV : V ≤ w.heap.size) (ls : List Fl) (fs : List Int) (A : Option Addr) (n c : Nat) (B : Option Addr) (m d : Nat) (hG : Blk w G 25 #[.slice A n c, .slice B m d]) (hn : ls.length = n) (hm : fs.length = m) (hx : Sl Rfl w (lo V) A ls) (hf : Sl (Rint .i64) w (lo V) B fs) (hz : n * 48 ≤ 140737488355328) (hz2 : m * 8 ≤ 140737488355328)
    (hK : ∀ (d14 d15 d16 d17 d18 d19 d20 : Value) (E : Nat) (A' : Option Addr) (c' : Nat) (B' : Option Addr) (d' : Nat) (w' : World), Blk w' E 25 #[.slice A' n c', .slice B' m d'] → Own Rfl w' w.heap.size 37 (lo V) (.slice A' n c') ls → Own (Rint .i64) w' w.heap.size 3 (lo V) (.slice B' m d') fs → Below w.heap.size w w' → w.heap.size ≤ E → (∀ g, (Value.slice A' n c').ownBlock = some g → g ≠ E ∧ (Value.slice B' m d').ownBlock ≠ some g) → (∀ g, (Value.slice B' m d').ownBlock = some g → g ≠ E) → Q .normal ⟨#[s0, s1, s2, s3, s4, .pointer (some ⟨G, 0, none⟩), s6, s7, s8, s9, s10, .pointer (some ⟨E, 0, none⟩), s12, s13, d14, d15, d16, d17, d18, d19, d20, s21, s22, s23, s24, s25, s26, s27, s28, s29, s30, s31, s32, s33, s34, s35, s36, s37, s38, s39, s40, s41, s42, s43, s44, s45, s46, s47, s48, s49, s50, s51, s52, s53, s54, s55, s56, s57, s58, s59, s60, s61, s62, s63, s64, s65], []⟩ w') :
    Code.wp Try.prog rs_r1_code Q ⟨#[s0, s1, s2, s3, s4, .pointer (some ⟨G, 0, none⟩), s6, s7, s8, s9, s10, s11, s12, s13, s14, s15, s16, s17, s18, s19, s20, s21, s22, s23, s24, s25, s26, s27, s28, s29, s30, s31, s32, s33, s34, s35, s36, s37, s38, s39, s40, s41, s42, s43, s44, s45, s46, s47, s48, s49, s50, s51, s52, s53, s54, s55, s56, s57, s58, s59, s60, s61, s62, s63, s64, s65], []⟩ w := by
  have HK := Lib.hid hK; clear hK
  obtain ⟨newl, hel, hcl⟩ := hx.inRow
  obtain ⟨newf, hef, hcf⟩ := hf.inRow
  have HX := Lib.hid (And.intro hn (And.intro hm (And.intro hcl (And.intro hel (And.intro hcf (And.intro hef (And.intro hz hz2)))))))
  have HC := Lib.hid (CpW.start V w hV)
  have HG := Lib.hid (fun (w' : World) (hb : Below w.heap.size w w') => (⟨(hb.cell (p := ⟨G, 0, none⟩) hG.lt).trans (hG.cell 0 (v := .slice A n c) rfl), (hb.cell (p := ⟨G, 1, none⟩) hG.lt).trans (hG.cell 1 (v := .slice B m d) rfl)⟩ : w'.cell? ⟨G, 0, none⟩ = some (.slice A n c) ∧ w'.cell? ⟨G, 1, none⟩ = some (.slice B m d)))
  clear hn hm hx hf hz hz2 hel hcl hef hcf hG
  conv => arg 2; whnf
  refine wp_region_noPanic ?_
  refine wp_region_held_drew (S := (fun w' => w'.cell? ⟨G, 0, none⟩ = some (.slice A n c) ∧ w'.cell? ⟨G, 1, none⟩ = some (.slice B m d))) (by kernel_rfl) ?_ (fun hHeld0 => ?_)
  · (try dsimp only)
    (first | (with_reducible assumption) | exact HG.out _ HC.out.bel | exact HG.out _ (HC.out.fin rfl).2.2.2.1)
  refine wpAnyH_take (i := 0) (oi := (Oper.mk (some 14) _ _ _ _ _)) (v := ?v1) rfl (by kernel_rfl) (by kernel_rfl) (by kernel_rfl) (fun _ _ _ h => h) (Or.inl ⟨by rfl, ?hy1⟩) (by with_reducible assumption) ?rest1
  case hy1 => (intro w hSw; (try dsimp only at hSw); go_simp; try with_reducible rfl)
  try simp only [Act.put, List.setIfInBounds_toArray, List.set_cons_zero, List.set_cons_succ]
  refine wpAnyH_take (i := 1) (oi := (Oper.mk (some 15) _ _ _ _ _)) (v := ?v2) rfl (by kernel_rfl) (by kernel_rfl) (by kernel_rfl) (fun _ _ _ h => h) (Or.inl ⟨by rfl, ?hy2⟩) (by with_reducible assumption) ?rest2
  case hy2 => (intro w hSw; (try dsimp only at hSw); go_simp; try with_reducible rfl)
  try simp only [Act.put, List.setIfInBounds_toArray, List.set_cons_zero, List.set_cons_succ]
  refine wpAnyH_take (i := 3) (oi := (Oper.mk (some 17) _ _ _ _ _)) (v := ?v3) rfl (by kernel_rfl) (by kernel_rfl) (by kernel_rfl) (fun _ _ _ h => h) (Or.inl ⟨by rfl, ?hy3⟩) (by with_reducible assumption) ?rest3
  case hy3 => (intro w hSw; (try dsimp only at hSw); go_simp; try with_reducible rfl)
  try simp only [Act.put, List.setIfInBounds_toArray, List.set_cons_zero, List.set_cons_succ]
  refine wpAnyH_take (i := 4) (oi := (Oper.mk (some 18) _ _ _ _ _)) (v := ?v4) rfl (by kernel_rfl) (by kernel_rfl) (by kernel_rfl) (fun _ _ _ h => h) (Or.inl ⟨by rfl, ?hy4⟩) (by with_reducible assumption) ?rest4
  case hy4 => (intro w hSw; (try dsimp only at hSw); go_simp; try with_reducible rfl)
  try simp only [Act.put, List.setIfInBounds_toArray, List.set_cons_zero, List.set_cons_succ]
  refine wpAnyH_ready (rs := [2, 7]) (by kernel_rfl) (by simp) ?_
  refine (AllReadyH.cons (o := (Oper.mk (some 16) _ _ _ _ _)) rfl (fun K hK => ?_) (AllReadyH.cons (o := (Oper.mk (some 11) _ _ _ _ _)) rfl (fun K hK => ?_) AllReadyH.nil))
  · skip
    refine step_append_own' rfl (.const (.slice none 0 0)) (.tmp 15) 22 rfl ei_flights (R := Rfl) (S := lo V) (base := w.heap.size) (.slice none 0 0) (by rfl) HC.out.L (fun b hb => ⟨Nat.lt_of_lt_of_le (Nat.lt_of_lt_of_le hb HC.out.v) HC.out.bel.size, by simp [Value.ownBlock]⟩) A n c (ys := ls) (by rfl) HX.out.1 (HX.out.2.2.1.up HC.out.bel) (HX.out.2.2.2.1.keep (fun p hp => HC.out.bel.cell (Nat.lt_of_lt_of_le hp HC.out.v)) (fun _ h => h)) (by have h1 := HX.out; simp; omega) (by have h1 := HX.out; simp [maxLen]; omega) HC.out.bel.size ?_
    intro vL wL hox hg1 hat1
    obtain ⟨AL, cL, hvL⟩ := hox.form
    rw [show ([] ++ ls : List Fl).length = n from HX.out.1] at hvL
    subst hvL
    replace HC := Lib.hid (HC.out.list hox hg1 hat1)
    clear hox hg1 hat1
    refine hK.out _ _ ?_ (fun hHeld5 => ?_)
    · (try dsimp only)
      (first | (with_reducible assumption) | exact HG.out _ HC.out.bel | exact HG.out _ (HC.out.fin rfl).2.2.2.1)
    clear hK K hHeld0
    try simp only [Act.put, List.setIfInBounds_toArray, List.set_cons_zero, List.set_cons_succ]
    refine wpAnyH_ready (rs := [5, 7]) (by kernel_rfl) (by simp) ?_
    refine (AllReadyH.cons (o := (Oper.mk (some 19) _ _ _ _ _)) rfl (fun K hK => ?_) (AllReadyH.cons (o := (Oper.mk (some 11) _ _ _ _ _)) rfl (fun K hK => ?_) AllReadyH.nil))
    · skip
      refine step_append_own' rfl (.const (.slice none 0 0)) (.tmp 18) 23 rfl ei_ints (R := Rint .i64) (S := lo V) (base := w.heap.size) (.slice none 0 0) (by rfl) HC.out.F (fun b hb => ⟨Nat.lt_of_lt_of_le (Nat.lt_of_lt_of_le hb HC.out.v) HC.out.bel.size, by simp [Value.ownBlock]⟩) B m d (ys := fs) (by rfl) HX.out.2.1 (HX.out.2.2.2.2.1.up HC.out.bel) (HX.out.2.2.2.2.2.1.keep (fun p hp => HC.out.bel.cell (Nat.lt_of_lt_of_le hp HC.out.v)) (fun _ h => h)) (by have h1 := HX.out; simp; omega) (by have h1 := HX.out; simp [maxLen]; omega) HC.out.bel.size ?_
      intro vF wF hox hg1 hat1
      obtain ⟨BF, dF, hvF⟩ := hox.form
      rw [show ([] ++ fs : List Int).length = m from HX.out.2.1] at hvF
      subst hvF
      replace HC := Lib.hid (HC.out.fates hox hg1 hat1)
      clear hox hg1 hat1
      refine hK.out _ _ ?_ (fun hHeld6 => ?_)
      · (try dsimp only)
        (first | (with_reducible assumption) | exact HG.out _ HC.out.bel | exact HG.out _ (HC.out.fin rfl).2.2.2.1)
      clear hK K hHeld5
      try simp only [Act.put, List.setIfInBounds_toArray, List.set_cons_zero, List.set_cons_succ]
      refine wpAnyH_take (i := 6) (oi := (Oper.mk (some 20) _ _ _ _ _)) (v := ?v7) rfl (by kernel_rfl) (by kernel_rfl) (by kernel_rfl) (fun _ _ _ h => h) (Or.inl ⟨by rfl, ?hy7⟩) (by with_reducible assumption) ?rest7
      case hy7 => (intro w hSw; (try dsimp only at hSw); go_simp; try with_reducible rfl)
      try simp only [Act.put, List.setIfInBounds_toArray, List.set_cons_zero, List.set_cons_succ]
      refine wpAnyH_ready (rs := [7]) (by kernel_rfl) (by simp) ?_
      refine (AllReadyH.cons (o := (Oper.mk (some 11) _ _ _ _ _)) rfl (fun K hK => ?_) AllReadyH.nil)
      go_simp
      replace HC := Lib.hid HC.out.alloc
      try dsimp only
      refine hK.out _ _ ?_ (fun hHeld8 => ?_)
      · (try dsimp only)
        (first | (with_reducible assumption) | exact HG.out _ HC.out.bel | exact HG.out _ (HC.out.fin rfl).2.2.2.1)
      clear hK K hHeld6
      try simp only [Act.put, List.setIfInBounds_toArray, List.set_cons_zero, List.set_cons_succ]
      refine wpAnyH_ready (rs := [8]) (by kernel_rfl) (by simp) ?_
      refine (AllReadyH.cons (o := (Oper.mk (none) _ _ _ _ _)) rfl (fun K hK => ?_) AllReadyH.nil)
      refine step_store_mid rfl 25 (.tmp 11) (.tmp 20) rfl _ 0 [.slice AL n cL, .slice BF m dF] (by rfl) (by rfl) HC.out.there (by kernel_rfl) (fun v hv => by simp at hv; rcases hv with rfl | rfl <;> rfl) ?_
      refine hK.out _ _ ?_ (fun hHeld9 => ?_)
      · (try dsimp only)
        (first | (with_reducible assumption) | exact HG.out _ HC.out.bel | exact HG.out _ (HC.out.fin rfl).2.2.2.1)
      clear hK K hHeld8
      try simp only [Act.put, List.setIfInBounds_toArray, List.set_cons_zero, List.set_cons_succ]
      refine wpAnyH_done (by kernel_rfl) ?_ _
      refine NoPanic.normal ?_
      clear hHeld9
      obtain ⟨q1, q2, q3, q4, q5, q6, q7⟩ := HC.out.fin rfl
      exact HK.out _ _ _ _ _ _ _ _ AL cL BF dF _ q1 q2 q3 q4 q5 q6 q7
    · skip
      go_simp
      replace HC := Lib.hid HC.out.alloc
      try dsimp only
      refine hK.out _ _ ?_ (fun hHeld10 => ?_)
      · (try dsimp only)
        (first | (with_reducible assumption) | exact HG.out _ HC.out.bel | exact HG.out _ (HC.out.fin rfl).2.2.2.1)
      clear hK K hHeld5
      try simp only [Act.put, List.setIfInBounds_toArray, List.set_cons_zero, List.set_cons_succ]
      refine wpAnyH_ready (rs := [5]) (by kernel_rfl) (by simp) ?_
      refine (AllReadyH.cons (o := (Oper.mk (some 19) _ _ _ _ _)) rfl (fun K hK => ?_) AllReadyH.nil)
      refine step_append_own' rfl (.const (.slice none 0 0)) (.tmp 18) 23 rfl ei_ints (R := Rint .i64) (S := lo V) (base := w.heap.size) (.slice none 0 0) (by rfl) HC.out.F (fun b hb => ⟨Nat.lt_of_lt_of_le (Nat.lt_of_lt_of_le hb HC.out.v) HC.out.bel.size, by simp [Value.ownBlock]⟩) B m d (ys := fs) (by rfl) HX.out.2.1 (HX.out.2.2.2.2.1.up HC.out.bel) (HX.out.2.2.2.2.2.1.keep (fun p hp => HC.out.bel.cell (Nat.lt_of_lt_of_le hp HC.out.v)) (fun _ h => h)) (by have h1 := HX.out; simp; omega) (by have h1 := HX.out; simp [maxLen]; omega) HC.out.bel.size ?_
      intro vF wF hox hg1 hat1
      obtain ⟨BF, dF, hvF⟩ := hox.form
      rw [show ([] ++ fs : List Int).length = m from HX.out.2.1] at hvF
      subst hvF
      replace HC := Lib.hid (HC.out.fates hox hg1 hat1)
      clear hox hg1 hat1
      refine hK.out _ _ ?_ (fun hHeld11 => ?_)
      · (try dsimp only)
        (first | (with_reducible assumption) | exact HG.out _ HC.out.bel | exact HG.out _ (HC.out.fin rfl).2.2.2.1)
      clear hK K hHeld10
      try simp only [Act.put, List.setIfInBounds_toArray, List.set_cons_zero, List.set_cons_succ]
      refine wpAnyH_take (i := 6) (oi := (Oper.mk (some 20) _ _ _ _ _)) (v := ?v12) rfl (by kernel_rfl) (by kernel_rfl) (by kernel_rfl) (fun _ _ _ h => h) (Or.inl ⟨by rfl, ?hy12⟩) (by with_reducible assumption) ?rest12
      case hy12 => (intro w hSw; (try dsimp only at hSw); go_simp; try with_reducible rfl)
      try simp only [Act.put, List.setIfInBounds_toArray, List.set_cons_zero, List.set_cons_succ]
      refine wpAnyH_ready (rs := [8]) (by kernel_rfl) (by simp) ?_
      refine (AllReadyH.cons (o := (Oper.mk (none) _ _ _ _ _)) rfl (fun K hK => ?_) AllReadyH.nil)
      refine step_store_mid rfl 25 (.tmp 11) (.tmp 20) rfl _ 0 [.slice AL n cL, .slice BF m dF] (by rfl) (by rfl) HC.out.there (by kernel_rfl) (fun v hv => by simp at hv; rcases hv with rfl | rfl <;> rfl) ?_
      refine hK.out _ _ ?_ (fun hHeld13 => ?_)
      · (try dsimp only)
        (first | (with_reducible assumption) | exact HG.out _ HC.out.bel | exact HG.out _ (HC.out.fin rfl).2.2.2.1)
      clear hK K hHeld11
      try simp only [Act.put, List.setIfInBounds_toArray, List.set_cons_zero, List.set_cons_succ]
      refine wpAnyH_done (by kernel_rfl) ?_ _
      refine NoPanic.normal ?_
      clear hHeld13
      obtain ⟨q1, q2, q3, q4, q5, q6, q7⟩ := HC.out.fin rfl
      exact HK.out _ _ _ _ _ _ _ _ AL cL BF dF _ q1 q2 q3 q4 q5 q6 q7
  · skip
    go_simp
    replace HC := Lib.hid HC.out.alloc
    try dsimp only
    refine hK.out _ _ ?_ (fun hHeld14 => ?_)
    · (try dsimp only)
      (first | (with_reducible assumption) | exact HG.out _ HC.out.bel | exact HG.out _ (HC.out.fin rfl).2.2.2.1)
    clear hK K hHeld0
    try simp only [Act.put, List.setIfInBounds_toArray, List.set_cons_zero, List.set_cons_succ]
    refine wpAnyH_ready (rs := [2]) (by kernel_rfl) (by simp) ?_
    refine (AllReadyH.cons (o := (Oper.mk (some 16) _ _ _ _ _)) rfl (fun K hK => ?_) AllReadyH.nil)
    refine step_append_own' rfl (.const (.slice none 0 0)) (.tmp 15) 22 rfl ei_flights (R := Rfl) (S := lo V) (base := w.heap.size) (.slice none 0 0) (by rfl) HC.out.L (fun b hb => ⟨Nat.lt_of_lt_of_le (Nat.lt_of_lt_of_le hb HC.out.v) HC.out.bel.size, by simp [Value.ownBlock]⟩) A n c (ys := ls) (by rfl) HX.out.1 (HX.out.2.2.1.up HC.out.bel) (HX.out.2.2.2.1.keep (fun p hp => HC.out.bel.cell (Nat.lt_of_lt_of_le hp HC.out.v)) (fun _ h => h)) (by have h1 := HX.out; simp; omega) (by have h1 := HX.out; simp [maxLen]; omega) HC.out.bel.size ?_
    intro vL wL hox hg1 hat1
    obtain ⟨AL, cL, hvL⟩ := hox.form
    rw [show ([] ++ ls : List Fl).length = n from HX.out.1] at hvL
    subst hvL
    replace HC := Lib.hid (HC.out.list hox hg1 hat1)
    clear hox hg1 hat1
    refine hK.out _ _ ?_ (fun hHeld15 => ?_)
    · (try dsimp only)
      (first | (with_reducible assumption) | exact HG.out _ HC.out.bel | exact HG.out _ (HC.out.fin rfl).2.2.2.1)
    clear hK K hHeld14
    try simp only [Act.put, List.setIfInBounds_toArray, List.set_cons_zero, List.set_cons_succ]
    refine wpAnyH_ready (rs := [5]) (by kernel_rfl) (by simp) ?_
    refine (AllReadyH.cons (o := (Oper.mk (some 19) _ _ _ _ _)) rfl (fun K hK => ?_) AllReadyH.nil)
    refine step_append_own' rfl (.const (.slice none 0 0)) (.tmp 18) 23 rfl ei_ints (R := Rint .i64) (S := lo V) (base := w.heap.size) (.slice none 0 0) (by rfl) HC.out.F (fun b hb => ⟨Nat.lt_of_lt_of_le (Nat.lt_of_lt_of_le hb HC.out.v) HC.out.bel.size, by simp [Value.ownBlock]⟩) B m d (ys := fs) (by rfl) HX.out.2.1 (HX.out.2.2.2.2.1.up HC.out.bel) (HX.out.2.2.2.2.2.1.keep (fun p hp => HC.out.bel.cell (Nat.lt_of_lt_of_le hp HC.out.v)) (fun _ h => h)) (by have h1 := HX.out; simp; omega) (by have h1 := HX.out; simp [maxLen]; omega) HC.out.bel.size ?_
    intro vF wF hox hg1 hat1
    obtain ⟨BF, dF, hvF⟩ := hox.form
    rw [show ([] ++ fs : List Int).length = m from HX.out.2.1] at hvF
    subst hvF
    replace HC := Lib.hid (HC.out.fates hox hg1 hat1)
    clear hox hg1 hat1
    refine hK.out _ _ ?_ (fun hHeld16 => ?_)
    · (try dsimp only)
      (first | (with_reducible assumption) | exact HG.out _ HC.out.bel | exact HG.out _ (HC.out.fin rfl).2.2.2.1)
    clear hK K hHeld15
    try simp only [Act.put, List.setIfInBounds_toArray, List.set_cons_zero, List.set_cons_succ]
    refine wpAnyH_take (i := 6) (oi := (Oper.mk (some 20) _ _ _ _ _)) (v := ?v17) rfl (by kernel_rfl) (by kernel_rfl) (by kernel_rfl) (fun _ _ _ h => h) (Or.inl ⟨by rfl, ?hy17⟩) (by with_reducible assumption) ?rest17
    case hy17 => (intro w hSw; (try dsimp only at hSw); go_simp; try with_reducible rfl)
    try simp only [Act.put, List.setIfInBounds_toArray, List.set_cons_zero, List.set_cons_succ]
    refine wpAnyH_ready (rs := [8]) (by kernel_rfl) (by simp) ?_
    refine (AllReadyH.cons (o := (Oper.mk (none) _ _ _ _ _)) rfl (fun K hK => ?_) AllReadyH.nil)
    refine step_store_mid rfl 25 (.tmp 11) (.tmp 20) rfl _ 0 [.slice AL n cL, .slice BF m dF] (by rfl) (by rfl) HC.out.there (by kernel_rfl) (fun v hv => by simp at hv; rcases hv with rfl | rfl <;> rfl) ?_
    refine hK.out _ _ ?_ (fun hHeld18 => ?_)
    · (try dsimp only)
      (first | (with_reducible assumption) | exact HG.out _ HC.out.bel | exact HG.out _ (HC.out.fin rfl).2.2.2.1)
    clear hK K hHeld16
    try simp only [Act.put, List.setIfInBounds_toArray, List.set_cons_zero, List.set_cons_succ]
    refine wpAnyH_done (by kernel_rfl) ?_ _
    refine NoPanic.normal ?_
    clear hHeld18
    obtain ⟨q1, q2, q3, q4, q5, q6, q7⟩ := HC.out.fin rfl
    exact HK.out _ _ _ _ _ _ _ _ AL cL BF dF _ q1 q2 q3 q4 q5 q6 q7
end Go.Proofs.Ytponbodiibkopaa
