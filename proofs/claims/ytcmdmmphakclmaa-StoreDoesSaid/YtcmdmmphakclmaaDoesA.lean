/-
  The reference's own: a store's own copy.
-/
import Derived.Test.YtcmdmmphakclmaaDoesM
import Derived.Deep.Cut
namespace Go.Proofs.Ytcmdmmphakclmaa
open Go.RowKit Go.Sort
set_option linter.unusedVariables false
set_option linter.unusedSimpArgs false
attribute [local go_sem ↓] Go.wp_at_zero Go.wp_at_succ

theorem dlim56 {n : Nat} (h : n ≤ 2513169434916) : n * 56 ≤ 140737488355328 := Nat.le_trans (Nat.mul_le_mul_right 56 h) (by decide)
theorem dlim24 {n : Nat} (h : n ≤ 5864062014805) : n * 24 ≤ 140737488355328 := Nat.le_trans (Nat.mul_le_mul_right 24 h) (by decide)
theorem dlim8 {n : Nat} (h : n ≤ 17592186044416) : n * 8 ≤ 140737488355328 := Nat.le_trans (Nat.mul_le_mul_right 8 h) (by decide)
theorem ei_u64s' : EI Try.prog 25 22 (Rint .u64).size 8 := ei_u64s
theorem ei_boxes' : EI Try.prog 26 23 Rraw.size 24 := ei_boxes
/-- Roles behind an append: the new row bears i. -/
def rolR (w : World) (ρ : Nat → Nat) (i : Nat) : Nat → Nat := fun k => if k < w.heap.size then ρ k else if k = w.heap.size then i else 0
theorem rowR_old {w : World} {ρ : Nat → Nat} {i k : Nat} (h : k < w.heap.size) : rolR w ρ i k = ρ k := if_pos h
theorem rowR_new {w : World} {ρ : Nat → Nat} {i : Nat} : rolR w ρ i w.heap.size = i := by
  show (if w.heap.size < w.heap.size then ρ w.heap.size else if w.heap.size = w.heap.size then i else 0) = i
  rw [if_neg (by omega), if_pos rfl]
noncomputable def own_r5_code : Code := regionOf Try.f27 5
set_option maxRecDepth 100000 in
set_option maxHeartbeats 2000000 in
theorem own_r5 {Q : Exit → Act → World → Prop} {s0 s1 s2 s4 s6 s7 s8 s9 s10 s11 s12 s13 s14 s15 s16 s17 s18 s19 s20 s21 s22 s23 s24 s25 : Value} (w : World) (W V H : Nat) (ρ : Nat → Nat) (s : St) (vL : Value) (AB : Option Addr) (m d : Nat) (bvs : List Value) (A : Option Addr) (q qc : Nat) (b : List Lt) (hO : OwnSt w W V ρ s vL (.slice AB m d) bvs) (hH : Blk w H 28 #[vL, .slice AB m d]) (hρH : ρ H = 0) (hWH : W ≤ H) (hVW : V ≤ W) (hb : Sl Rlt w (lo V) A b) (hq : b.length = q) (hq2 : q ≤ 2513169434916) (hm : s.boxes.length = m) (hm2 : m ≤ 5864062014804)
    (hK : ∀ (d17 d18 d19 d20 d21 d22 d23 : Value) (A2 : Option Addr) (c2 : Nat) (v : Value) (w' : World) (ρ' : Nat → Nat), OwnSt w' W V ρ' { s with boxes := s.boxes ++ [b] } vL (.slice A2 (m + 1) c2) (bvs ++ [v]) → Blk w' H 28 #[vL, .slice A2 (m + 1) c2] → ρ' H = 0 → Below W w w' → Q .normal ⟨#[s0, s1, s2, .pointer (some ⟨H, 0, none⟩), s4, .slice A q qc, s6, s7, s8, s9, s10, s11, s12, s13, s14, s15, s16, d17, d18, d19, d20, d21, d22, d23, s24, s25], []⟩ w') :
    Code.wp Try.prog own_r5_code Q ⟨#[s0, s1, s2, .pointer (some ⟨H, 0, none⟩), s4, .slice A q qc, s6, s7, s8, s9, s10, s11, s12, s13, s14, s15, s16, s17, s18, s19, s20, s21, s22, s23, s24, s25], []⟩ w := by
  have HK := Lib.hid hK; clear hK
  obtain ⟨cells, hel, hce⟩ := hb.inRow
  have c1 := hH.cell 1 (v := .slice AB m d) rfl
  have lH := hH.lt
  have hVw : V ≤ w.heap.size := by omega
  have hbl : bvs.length = m := by rw [hO.len, hm]
  have HB := Lib.hid (And.intro hO (And.intro hH (And.intro hel (And.intro hce (And.intro hq (And.intro hbl hm))))))
  clear hO hH hel hce hq hbl hm hb
  conv => arg 2; whnf
  refine wp_region_noPanic ?_
  refine wp_region_held_drew (S := (fun w' => H < w'.heap.size)) (by kernel_rfl) ?_ (fun hHeld0 => ?_)
  · (try dsimp only)
    (first | (with_reducible assumption) | (go_keep; done) | omega | (simp; omega))
  refine wpAnyH_take (i := 0) (oi := _) (v := ?v1) rfl (by kernel_rfl) (by kernel_rfl) (by kernel_rfl) (fun _ _ _ h => h) (Or.inl ⟨by rfl, ?hy1⟩) (by with_reducible assumption) ?rest1
  case hy1 => (intro w hSw; (try dsimp only at hSw); go_simp; try with_reducible rfl)
  try simp only [Act.put, List.setIfInBounds_toArray, List.set_cons_zero, List.set_cons_succ]
  refine wpAnyH_take (i := 2) (oi := _) (v := ?v2) rfl (by kernel_rfl) (by kernel_rfl) (by kernel_rfl) (fun _ _ _ h => h) (Or.inl ⟨by rfl, ?hy2⟩) (by with_reducible assumption) ?rest2
  case hy2 => (intro w hSw; (try dsimp only at hSw); go_simp; try with_reducible rfl)
  try simp only [Act.put, List.setIfInBounds_toArray, List.set_cons_zero, List.set_cons_succ]
  refine wpAnyH_ready (rs := [1, 3]) (by kernel_rfl) (by simp) ?_
  refine (AllReadyH.cons (o := _) rfl (fun K hK => ?_) (AllReadyH.cons (o := _) rfl (fun K hK => ?_) AllReadyH.nil))
  · skip
    go_simp
    refine hK.out _ _ ?_ (fun hHeld3 => ?_)
    · (try dsimp only)
      (first | (with_reducible assumption) | (go_keep; done) | omega | (simp; omega))
    clear hK K hHeld0
    try simp only [Act.put, List.setIfInBounds_toArray, List.set_cons_zero, List.set_cons_succ]
    refine wpAnyH_ready (rs := [3]) (by kernel_rfl) (by simp) ?_
    refine (AllReadyH.cons (o := _) rfl (fun K hK => ?_) AllReadyH.nil)
    refine step_append_own' rfl (.const (.slice none 0 0)) (.tmp 19) 23 rfl ei_letters (R := Rlt) (S := lo V) (base := W) (.slice none 0 0) (by rfl) (Own.nil _ _ _ _ _) (fun b hb => ⟨by have : b < V := hb; (try simp); omega, by simp [Value.ownBlock]⟩) A q qc (ys := b) (by rfl) HB.out.2.2.2.2.1 (HB.out.2.2.2.1.up ((Below.refl _ _).drew)) (HB.out.2.2.1.keep (fun p hp => Below.cell (B := w.heap.size) ((Below.refl _ _).drew) (by have : p.block < V := hp; omega)) (fun _ h => h)) (by rw [List.length_nil, Nat.zero_add]; exact dlim56 hq2) (by simp [maxLen]; omega) (by simp; omega) ?_
    intro v1 w1 hox hg1 hat1
    rw [List.nil_append] at hox
    obtain ⟨A1, k1, rfl⟩ := hox.form
    have hbb : RowKit.Below w.heap.size w w1 := ((Below.refl w.heap.size w).drew).grown hg1 (by simp) (fun g hg => by cases hg)
    have zz := hbb.size
    have lHa : H < w1.heap.size := by omega
    have d1 : w1.cell? ⟨H, 1, none⟩ = some (.slice AB m d) := (hbb.cell (p := ⟨H, 1, none⟩) lH).trans c1
    have hat' : (Value.slice A1 b.length k1).ownBlock = none ∨ (Value.slice A1 b.length k1).ownBlock = some w.heap.size := hat1
    have hO1 : OwnSt w1 W V (rolR w ρ (3 + s.boxes.length)) s vL (.slice AB m d) bvs := HB.out.1.frame (fun _ hk => rowR_old hk) (fun k _ hk _ => hbb.block k hk) (fun k hk => hbb.block k (by omega))
    have hR1 : ∀ g, (Value.slice A1 b.length k1).ownBlock = some g → rolR w ρ (3 + s.boxes.length) g = 3 + s.boxes.length := fun g hg => by
      rcases hat' with h9 | h9 <;> rw [h9] at hg
      · cases hg
      · obtain rfl := Option.some.inj hg; exact rowR_new
    have hba : RowKit.Below w1.heap.size w1 (w1.alloc (.cells #[.slice A1 b.length k1] 23)) := (Below.refl _ _).alloc (Nat.le_refl _) _
    have H1 := Lib.hid (And.intro (hO1.up hba (by omega)) (And.intro (hox.alloc (fun b hb => by have : b < V := hb; omega) (.cells #[.slice A1 b.length k1] 23)) (And.intro (show ∀ g, (Value.slice A1 b.length k1).ownBlock = some g → newR w1 (rolR w ρ (3 + s.boxes.length)) g = 3 + s.boxes.length from fun g hg => by rw [newR_old (hox.lt hg).2]; exact hR1 g hg) (And.intro hbb hba))))
    clear hox hg1 hat1 hbb hat' hO1 hR1 hba
    refine hK.out _ _ ?_ (fun hHeld4 => ?_)
    · (try dsimp only)
      (first | (with_reducible assumption) | (go_keep; done) | omega | (simp; omega))
    clear hK K hHeld3
    try simp only [Act.put, List.setIfInBounds_toArray, List.set_cons_zero, List.set_cons_succ]
    refine wpAnyH_ready (rs := [4]) (by kernel_rfl) (by simp) ?_
    refine (AllReadyH.cons (o := _) rfl (fun K hK => ?_) AllReadyH.nil)
    go_simp
    refine hK.out _ _ ?_ (fun hHeld5 => ?_)
    · (try dsimp only)
      (first | (with_reducible assumption) | (go_keep; done) | omega | (simp; omega))
    clear hK K hHeld4
    try simp only [Act.put, List.setIfInBounds_toArray, List.set_cons_zero, List.set_cons_succ]
    refine wpAnyH_ready (rs := [5]) (by kernel_rfl) (by simp) ?_
    refine (AllReadyH.cons (o := _) rfl (fun K hK => ?_) AllReadyH.nil)
    refine step_append_own' rfl (.tmp 18) (.tmp 21) 26 rfl ei_boxes' (R := Rraw) (S := lo V) (base := W) (.slice AB m d) (by rfl) H1.out.1.row (fun b hb => ⟨by have : b < V := hb; simp; omega, fun e9 => by have : b < V := hb; have h9 := (H1.out.1.row.lt e9).1; omega⟩) (some ⟨w1.heap.size, 0, none⟩) 1 1 (ys := [.slice A1 b.length k1]) (by rfl) rfl (cellsNew rfl) (Elems.one ⟨rfl, rfl⟩) (by rw [HB.out.2.2.2.2.2.1]; exact dlim24 (by omega)) (by rw [HB.out.2.2.2.2.2.1]; simp [maxLen]; omega) (by simp; omega) ?_
    intro v2 w2 hox hg1 hat1
    have hox' := hox
    obtain ⟨A2, k2, rfl⟩ := hox.form
    rw [show (bvs ++ [Value.slice A1 b.length k1]).length = m + 1 by rw [List.length_append, HB.out.2.2.2.2.2.1]; rfl] at hox' hat1 ⊢
    obtain ⟨ρ2, hρ2, hρ3, hO2⟩ := H1.out.1.more H1.out.2.1 H1.out.2.2.1 hox' hg1 hat1 hVW (by simp; omega)
    have hbb2 : RowKit.Below W w w2 := ((H1.out.2.2.2.1.mono (by omega)).trans (H1.out.2.2.2.2.mono (by omega))).grown hg1 (by simp; omega) (fun g hg => (H1.out.1.row.lt hg).1)
    have lH2 : H < w1.heap.size := by omega
    have hH2 : w2.heap[H]? = w.heap[H]? := (hg1.block H (by simp; omega) (fun e9 => by
      have h9 := H1.out.1.rowR H e9.symm
      rw [newR_old lH2, rowR_old lH, hρH] at h9
      omega)).trans ((H1.out.2.2.2.2.block H lH2).trans (H1.out.2.2.2.1.block H lH))
    have f1 : w2.cell? ⟨H, 1, none⟩ = some (.slice AB m d) := (World.cell?_of_block (a := ⟨H, 1, none⟩) hH2).trans c1
    have hE2 : Blk w2 H 28 #[vL, .slice AB m d] := hH2.trans HB.out.2.1
    have fE2 := hE2.frozen
    have lH3 := hE2.lt
    have hρH2 : ρ2 H = 0 := by rw [hρ2 H (by simp; omega), newR_old lH2, rowR_old lH]; exact hρH
    have H2 := Lib.hid (And.intro hO2 (And.intro hE2 (And.intro hρH2 hbb2)))
    clear hox hox' hg1 hat1 hO2 hbb2 hH2 hE2 hρH2 hρ2 hρ3
    refine hK.out _ _ ?_ (fun hHeld6 => ?_)
    · (try dsimp only)
      (first | (with_reducible assumption) | (go_keep; done) | omega | (simp; omega))
    clear hK K hHeld5
    try simp only [Act.put, List.setIfInBounds_toArray, List.set_cons_zero, List.set_cons_succ]
    refine wpAnyH_take (i := 6) (oi := _) (v := ?v7) rfl (by kernel_rfl) (by kernel_rfl) (by kernel_rfl) (fun _ _ _ h => h) (Or.inl ⟨by rfl, ?hy7⟩) (by with_reducible assumption) ?rest7
    case hy7 => (intro w hSw; (try dsimp only at hSw); go_simp; try with_reducible rfl)
    try simp only [Act.put, List.setIfInBounds_toArray, List.set_cons_zero, List.set_cons_succ]
    refine wpAnyH_ready (rs := [7]) (by kernel_rfl) (by simp) ?_
    refine (AllReadyH.cons (o := _) rfl (fun K hK => ?_) AllReadyH.nil)
    go_simp
    refine hK.out _ _ ?_ (fun hHeld8 => ?_)
    · (try dsimp only)
      (first | (with_reducible assumption) | (go_keep; done) | omega | (simp; omega))
    clear hK K hHeld6
    try simp only [Act.put, List.setIfInBounds_toArray, List.set_cons_zero, List.set_cons_succ]
    refine wpAnyH_done (by kernel_rfl) ?_ _
    refine NoPanic.normal ?_
    clear hHeld8
    exact HK.out _ _ _ _ _ _ _ A2 k2 _ _ ρ2 (H2.out.1.set H2.out.2.2.1 (by omega) 1 _) (H2.out.2.1.set 1 _) H2.out.2.2.1 (H2.out.2.2.2.setCell (p := ⟨H, 1, none⟩) hWH _)
  · skip
    refine step_append_own' rfl (.const (.slice none 0 0)) (.tmp 19) 23 rfl ei_letters (R := Rlt) (S := lo V) (base := W) (.slice none 0 0) (by rfl) (Own.nil _ _ _ _ _) (fun b hb => ⟨by have : b < V := hb; (try simp); omega, by simp [Value.ownBlock]⟩) A q qc (ys := b) (by rfl) HB.out.2.2.2.2.1 (HB.out.2.2.2.1.up ((Below.refl _ _).drew)) (HB.out.2.2.1.keep (fun p hp => Below.cell (B := w.heap.size) ((Below.refl _ _).drew) (by have : p.block < V := hp; omega)) (fun _ h => h)) (by rw [List.length_nil, Nat.zero_add]; exact dlim56 hq2) (by simp [maxLen]; omega) (by simp; omega) ?_
    intro v1 w1 hox hg1 hat1
    rw [List.nil_append] at hox
    obtain ⟨A1, k1, rfl⟩ := hox.form
    have hbb : RowKit.Below w.heap.size w w1 := ((Below.refl w.heap.size w).drew).grown hg1 (by simp) (fun g hg => by cases hg)
    have zz := hbb.size
    have lHa : H < w1.heap.size := by omega
    have d1 : w1.cell? ⟨H, 1, none⟩ = some (.slice AB m d) := (hbb.cell (p := ⟨H, 1, none⟩) lH).trans c1
    have hat' : (Value.slice A1 b.length k1).ownBlock = none ∨ (Value.slice A1 b.length k1).ownBlock = some w.heap.size := hat1
    have hO1 : OwnSt w1 W V (rolR w ρ (3 + s.boxes.length)) s vL (.slice AB m d) bvs := HB.out.1.frame (fun _ hk => rowR_old hk) (fun k _ hk _ => hbb.block k hk) (fun k hk => hbb.block k (by omega))
    have hR1 : ∀ g, (Value.slice A1 b.length k1).ownBlock = some g → rolR w ρ (3 + s.boxes.length) g = 3 + s.boxes.length := fun g hg => by
      rcases hat' with h9 | h9 <;> rw [h9] at hg
      · cases hg
      · obtain rfl := Option.some.inj hg; exact rowR_new
    have hba : RowKit.Below w1.heap.size w1 (w1.alloc (.cells #[.slice A1 b.length k1] 23)) := (Below.refl _ _).alloc (Nat.le_refl _) _
    have H1 := Lib.hid (And.intro (hO1.up hba (by omega)) (And.intro (hox.alloc (fun b hb => by have : b < V := hb; omega) (.cells #[.slice A1 b.length k1] 23)) (And.intro (show ∀ g, (Value.slice A1 b.length k1).ownBlock = some g → newR w1 (rolR w ρ (3 + s.boxes.length)) g = 3 + s.boxes.length from fun g hg => by rw [newR_old (hox.lt hg).2]; exact hR1 g hg) (And.intro hbb hba))))
    clear hox hg1 hat1 hbb hat' hO1 hR1 hba
    refine hK.out _ _ ?_ (fun hHeld9 => ?_)
    · (try dsimp only)
      (first | (with_reducible assumption) | (go_keep; done) | omega | (simp; omega))
    clear hK K hHeld0
    try simp only [Act.put, List.setIfInBounds_toArray, List.set_cons_zero, List.set_cons_succ]
    refine wpAnyH_ready (rs := [1, 4]) (by kernel_rfl) (by simp) ?_
    refine (AllReadyH.cons (o := _) rfl (fun K hK => ?_) (AllReadyH.cons (o := _) rfl (fun K hK => ?_) AllReadyH.nil))
    · skip
      go_simp
      refine hK.out _ _ ?_ (fun hHeld10 => ?_)
      · (try dsimp only)
        (first | (with_reducible assumption) | (go_keep; done) | omega | (simp; omega))
      clear hK K hHeld9
      try simp only [Act.put, List.setIfInBounds_toArray, List.set_cons_zero, List.set_cons_succ]
      refine wpAnyH_ready (rs := [4]) (by kernel_rfl) (by simp) ?_
      refine (AllReadyH.cons (o := _) rfl (fun K hK => ?_) AllReadyH.nil)
      go_simp
      refine hK.out _ _ ?_ (fun hHeld11 => ?_)
      · (try dsimp only)
        (first | (with_reducible assumption) | (go_keep; done) | omega | (simp; omega))
      clear hK K hHeld10
      try simp only [Act.put, List.setIfInBounds_toArray, List.set_cons_zero, List.set_cons_succ]
      refine wpAnyH_ready (rs := [5]) (by kernel_rfl) (by simp) ?_
      refine (AllReadyH.cons (o := _) rfl (fun K hK => ?_) AllReadyH.nil)
      refine step_append_own' rfl (.tmp 18) (.tmp 21) 26 rfl ei_boxes' (R := Rraw) (S := lo V) (base := W) (.slice AB m d) (by rfl) H1.out.1.row (fun b hb => ⟨by have : b < V := hb; simp; omega, fun e9 => by have : b < V := hb; have h9 := (H1.out.1.row.lt e9).1; omega⟩) (some ⟨w1.heap.size, 0, none⟩) 1 1 (ys := [.slice A1 b.length k1]) (by rfl) rfl (cellsNew rfl) (Elems.one ⟨rfl, rfl⟩) (by rw [HB.out.2.2.2.2.2.1]; exact dlim24 (by omega)) (by rw [HB.out.2.2.2.2.2.1]; simp [maxLen]; omega) (by simp; omega) ?_
      intro v2 w2 hox hg1 hat1
      have hox' := hox
      obtain ⟨A2, k2, rfl⟩ := hox.form
      rw [show (bvs ++ [Value.slice A1 b.length k1]).length = m + 1 by rw [List.length_append, HB.out.2.2.2.2.2.1]; rfl] at hox' hat1 ⊢
      obtain ⟨ρ2, hρ2, hρ3, hO2⟩ := H1.out.1.more H1.out.2.1 H1.out.2.2.1 hox' hg1 hat1 hVW (by simp; omega)
      have hbb2 : RowKit.Below W w w2 := ((H1.out.2.2.2.1.mono (by omega)).trans (H1.out.2.2.2.2.mono (by omega))).grown hg1 (by simp; omega) (fun g hg => (H1.out.1.row.lt hg).1)
      have lH2 : H < w1.heap.size := by omega
      have hH2 : w2.heap[H]? = w.heap[H]? := (hg1.block H (by simp; omega) (fun e9 => by
        have h9 := H1.out.1.rowR H e9.symm
        rw [newR_old lH2, rowR_old lH, hρH] at h9
        omega)).trans ((H1.out.2.2.2.2.block H lH2).trans (H1.out.2.2.2.1.block H lH))
      have f1 : w2.cell? ⟨H, 1, none⟩ = some (.slice AB m d) := (World.cell?_of_block (a := ⟨H, 1, none⟩) hH2).trans c1
      have hE2 : Blk w2 H 28 #[vL, .slice AB m d] := hH2.trans HB.out.2.1
      have fE2 := hE2.frozen
      have lH3 := hE2.lt
      have hρH2 : ρ2 H = 0 := by rw [hρ2 H (by simp; omega), newR_old lH2, rowR_old lH]; exact hρH
      have H2 := Lib.hid (And.intro hO2 (And.intro hE2 (And.intro hρH2 hbb2)))
      clear hox hox' hg1 hat1 hO2 hbb2 hH2 hE2 hρH2 hρ2 hρ3
      refine hK.out _ _ ?_ (fun hHeld12 => ?_)
      · (try dsimp only)
        (first | (with_reducible assumption) | (go_keep; done) | omega | (simp; omega))
      clear hK K hHeld11
      try simp only [Act.put, List.setIfInBounds_toArray, List.set_cons_zero, List.set_cons_succ]
      refine wpAnyH_take (i := 6) (oi := _) (v := ?v13) rfl (by kernel_rfl) (by kernel_rfl) (by kernel_rfl) (fun _ _ _ h => h) (Or.inl ⟨by rfl, ?hy13⟩) (by with_reducible assumption) ?rest13
      case hy13 => (intro w hSw; (try dsimp only at hSw); go_simp; try with_reducible rfl)
      try simp only [Act.put, List.setIfInBounds_toArray, List.set_cons_zero, List.set_cons_succ]
      refine wpAnyH_ready (rs := [7]) (by kernel_rfl) (by simp) ?_
      refine (AllReadyH.cons (o := _) rfl (fun K hK => ?_) AllReadyH.nil)
      go_simp
      refine hK.out _ _ ?_ (fun hHeld14 => ?_)
      · (try dsimp only)
        (first | (with_reducible assumption) | (go_keep; done) | omega | (simp; omega))
      clear hK K hHeld12
      try simp only [Act.put, List.setIfInBounds_toArray, List.set_cons_zero, List.set_cons_succ]
      refine wpAnyH_done (by kernel_rfl) ?_ _
      refine NoPanic.normal ?_
      clear hHeld14
      exact HK.out _ _ _ _ _ _ _ A2 k2 _ _ ρ2 (H2.out.1.set H2.out.2.2.1 (by omega) 1 _) (H2.out.2.1.set 1 _) H2.out.2.2.1 (H2.out.2.2.2.setCell (p := ⟨H, 1, none⟩) hWH _)
    · skip
      go_simp
      refine hK.out _ _ ?_ (fun hHeld15 => ?_)
      · (try dsimp only)
        (first | (with_reducible assumption) | (go_keep; done) | omega | (simp; omega))
      clear hK K hHeld9
      try simp only [Act.put, List.setIfInBounds_toArray, List.set_cons_zero, List.set_cons_succ]
      refine wpAnyH_ready (rs := [1]) (by kernel_rfl) (by simp) ?_
      refine (AllReadyH.cons (o := _) rfl (fun K hK => ?_) AllReadyH.nil)
      go_simp
      refine hK.out _ _ ?_ (fun hHeld16 => ?_)
      · (try dsimp only)
        (first | (with_reducible assumption) | (go_keep; done) | omega | (simp; omega))
      clear hK K hHeld15
      try simp only [Act.put, List.setIfInBounds_toArray, List.set_cons_zero, List.set_cons_succ]
      refine wpAnyH_ready (rs := [5]) (by kernel_rfl) (by simp) ?_
      refine (AllReadyH.cons (o := _) rfl (fun K hK => ?_) AllReadyH.nil)
      refine step_append_own' rfl (.tmp 18) (.tmp 21) 26 rfl ei_boxes' (R := Rraw) (S := lo V) (base := W) (.slice AB m d) (by rfl) H1.out.1.row (fun b hb => ⟨by have : b < V := hb; simp; omega, fun e9 => by have : b < V := hb; have h9 := (H1.out.1.row.lt e9).1; omega⟩) (some ⟨w1.heap.size, 0, none⟩) 1 1 (ys := [.slice A1 b.length k1]) (by rfl) rfl (cellsNew rfl) (Elems.one ⟨rfl, rfl⟩) (by rw [HB.out.2.2.2.2.2.1]; exact dlim24 (by omega)) (by rw [HB.out.2.2.2.2.2.1]; simp [maxLen]; omega) (by simp; omega) ?_
      intro v2 w2 hox hg1 hat1
      have hox' := hox
      obtain ⟨A2, k2, rfl⟩ := hox.form
      rw [show (bvs ++ [Value.slice A1 b.length k1]).length = m + 1 by rw [List.length_append, HB.out.2.2.2.2.2.1]; rfl] at hox' hat1 ⊢
      obtain ⟨ρ2, hρ2, hρ3, hO2⟩ := H1.out.1.more H1.out.2.1 H1.out.2.2.1 hox' hg1 hat1 hVW (by simp; omega)
      have hbb2 : RowKit.Below W w w2 := ((H1.out.2.2.2.1.mono (by omega)).trans (H1.out.2.2.2.2.mono (by omega))).grown hg1 (by simp; omega) (fun g hg => (H1.out.1.row.lt hg).1)
      have lH2 : H < w1.heap.size := by omega
      have hH2 : w2.heap[H]? = w.heap[H]? := (hg1.block H (by simp; omega) (fun e9 => by
        have h9 := H1.out.1.rowR H e9.symm
        rw [newR_old lH2, rowR_old lH, hρH] at h9
        omega)).trans ((H1.out.2.2.2.2.block H lH2).trans (H1.out.2.2.2.1.block H lH))
      have f1 : w2.cell? ⟨H, 1, none⟩ = some (.slice AB m d) := (World.cell?_of_block (a := ⟨H, 1, none⟩) hH2).trans c1
      have hE2 : Blk w2 H 28 #[vL, .slice AB m d] := hH2.trans HB.out.2.1
      have fE2 := hE2.frozen
      have lH3 := hE2.lt
      have hρH2 : ρ2 H = 0 := by rw [hρ2 H (by simp; omega), newR_old lH2, rowR_old lH]; exact hρH
      have H2 := Lib.hid (And.intro hO2 (And.intro hE2 (And.intro hρH2 hbb2)))
      clear hox hox' hg1 hat1 hO2 hbb2 hH2 hE2 hρH2 hρ2 hρ3
      refine hK.out _ _ ?_ (fun hHeld17 => ?_)
      · (try dsimp only)
        (first | (with_reducible assumption) | (go_keep; done) | omega | (simp; omega))
      clear hK K hHeld16
      try simp only [Act.put, List.setIfInBounds_toArray, List.set_cons_zero, List.set_cons_succ]
      refine wpAnyH_take (i := 6) (oi := _) (v := ?v18) rfl (by kernel_rfl) (by kernel_rfl) (by kernel_rfl) (fun _ _ _ h => h) (Or.inl ⟨by rfl, ?hy18⟩) (by with_reducible assumption) ?rest18
      case hy18 => (intro w hSw; (try dsimp only at hSw); go_simp; try with_reducible rfl)
      try simp only [Act.put, List.setIfInBounds_toArray, List.set_cons_zero, List.set_cons_succ]
      refine wpAnyH_ready (rs := [7]) (by kernel_rfl) (by simp) ?_
      refine (AllReadyH.cons (o := _) rfl (fun K hK => ?_) AllReadyH.nil)
      go_simp
      refine hK.out _ _ ?_ (fun hHeld19 => ?_)
      · (try dsimp only)
        (first | (with_reducible assumption) | (go_keep; done) | omega | (simp; omega))
      clear hK K hHeld17
      try simp only [Act.put, List.setIfInBounds_toArray, List.set_cons_zero, List.set_cons_succ]
      refine wpAnyH_done (by kernel_rfl) ?_ _
      refine NoPanic.normal ?_
      clear hHeld19
      exact HK.out _ _ _ _ _ _ _ A2 k2 _ _ ρ2 (H2.out.1.set H2.out.2.2.1 (by omega) 1 _) (H2.out.2.1.set 1 _) H2.out.2.2.1 (H2.out.2.2.2.setCell (p := ⟨H, 1, none⟩) hWH _)
theorem OwnSt.setLow {w : World} {W V P : Nat} {ρ : Nat → Nat} {s : St} {vL vB : Value} {bvs : List Value} (h : OwnSt w W V ρ s vL vB bvs) (hVP : V ≤ P) (hPW : P < W) (i : Nat) (u : Value) : OwnSt (w.setCell ⟨P, i, none⟩ u) W V ρ s vL vB bvs :=
  h.frame (fun _ _ => rfl) (fun k hk _ _ => Below.heap_setCell w ⟨P, i, none⟩ u k (by show k ≠ P; omega)) (fun k hk => Below.heap_setCell w ⟨P, i, none⟩ u k (by show k ≠ P; omega))
/-- What own leaves. -/
def OwnRet (s : St) (V : Nat) (w : World) (en : Ending) (w' : World) : Prop :=
  ∃ (W : Nat) (ρ : Nat → Nat) (A : Option Addr) (n c : Nat) (B : Option Addr) (m d : Nat) (bvs : List Value), en = .returned (.agg #[.slice A n c, .slice B m d]) ∧ OwnSt w' W V ρ s (.slice A n c) (.slice B m d) bvs ∧ s.last.length = n ∧ s.boxes.length = m ∧ w.heap.size ≤ W ∧ W ≤ w'.heap.size ∧ Below w.heap.size w w'
set_option maxRecDepth 100000 in
set_option maxHeartbeats 4000000 in
theorem own_any (w : World) (A : Option Addr) (n c : Nat) (B : Option Addr) (m d : Nat) (s : St) (V : Nat) (hV : V ≤ w.heap.size) (hs : StAt w (lo V) A n B m s) (hf : StFit 140737488355328 s) :
    Calls Try.prog 27 #[.agg #[.slice A n c, .slice B m d]] w (OwnRet s V w) := by
  have hb0 : RowKit.Below w.heap.size w ((w.alloc (.cells #[.slice A n c, .slice B m d] 28)).alloc (.cells #[.slice none 0 0, .slice none 0 0] 28)) := ((Below.refl _ _).alloc (Nat.le_refl _) _).alloc (by simp) _
  have hz0 : ((w.alloc (.cells #[.slice A n c, .slice B m d] 28)).alloc (.cells #[.slice none 0 0, .slice none 0 0] 28)).heap.size = w.heap.size + 2 := by simp
  have hBX := (Blk.new w 28 #[.slice A n c, .slice B m d] (g := w.heap.size) rfl).alloc (.cells #[.slice none 0 0, .slice none 0 0] 28)
  have hRX := Blk.new (w.alloc (.cells #[.slice A n c, .slice B m d] 28)) 28 #[.slice none 0 0, .slice none 0 0] (g := w.heap.size + 1) (by simp)
  have hn8 := hf.last
  have hm24 := hf.boxes
  rw [hs.lastN] at hn8
  rw [hs.boxesN] at hm24
  go_enter Try.func27, Try.ntmps27
  go_upto_region 1 with fail
  generalize ((w.alloc (.cells #[.slice A n c, .slice B m d] 28)).alloc (.cells #[.slice none 0 0, .slice none 0 0] 28)) = w0 at *
  have b0 := hBX.cell 0 (v := .slice A n c) rfl
  have lB := hBX.lt
  obtain ⟨cells, hel, hce⟩ := hs.last.inRow
  have H0 := Lib.hid (And.intro hb0 (And.intro hBX (And.intro hRX (And.intro hs (And.intro hf (And.intro hel hce))))))
  clear hb0 hBX hRX hs hf hel hce
  go_upto_region 2 with (first
    | (at_builtin
       go_loud (skip
                refine wpList_append_own' _ rfl (.const (.slice none 0 0)) (.tmp 7) _ rfl ei_u64s' (R := Rint .u64) (S := lo V) (base := w0.heap.size) (.slice none 0 0) rfl (Own.nil _ _ _ _ _) (fun b hb => ⟨by have : b < V := hb; omega, by simp [Value.ownBlock]⟩) A n c (ys := s.last) rfl H0.out.2.2.2.1.lastN (H0.out.2.2.2.2.2.2.up H0.out.1) (H0.out.2.2.2.2.2.1.keep (fun p hp => H0.out.1.cell (by have : p.block < V := hp; omega)) (fun _ h => h)) (by rw [List.length_nil, Nat.zero_add]; exact dlim8 (by omega)) (by simp [maxLen]; omega) (Nat.le_refl _) ?_
                intro v1 w1 hox hg1 hat1
                rw [List.nil_append] at hox
                obtain ⟨A1, k1, rfl⟩ := hox.form
                rw [H0.out.2.2.2.1.lastN] at hox hat1 ⊢
                have hbb : RowKit.Below w0.heap.size w0 w1 := (Below.refl w0.heap.size w0).grown hg1 (Nat.le_refl _) (fun g hg => by cases hg)
                have H1 := Lib.hid (And.intro hox (And.intro hbb (show (Value.slice A1 n k1).ownBlock = none ∨ (Value.slice A1 n k1).ownBlock = some w0.heap.size from hat1)))
                have zz := hbb.size
                clear hox hg1 hat1 hbb b0)))
  obtain ⟨w2, hw2⟩ : ∃ w2, w1.alloc (.cells #[.slice A1 n k1, .slice none 0 0] 28) = w2 := ⟨_, rfl⟩
  have hba : RowKit.Below w1.heap.size w1 w2 := by rw [← hw2]; exact (Below.refl _ _).alloc (Nat.le_refl _) _
  have hH2 : Blk w2 w1.heap.size 28 #[.slice A1 n k1, .slice none 0 0] := by rw [← hw2]; exact Blk.new _ _ _ rfl
  have hO2 : OwnSt w2 w0.heap.size V (fun k => if (Value.slice A1 n k1).ownBlock = some k then 1 else 0) ⟨s.last, s.boxes.take 0⟩ (.slice A1 n k1) (.slice none 0 0) [] :=
    ⟨H1.out.1.keep (fun g hg => hba.block g (H1.out.1.lt hg).2) (fun p hp => hba.cell (by have : p.block < V := hp; omega)) (fun _ h => h), fun g hg => if_pos hg, Own.nil _ _ _ _ _, fun g hg => by simp [Value.ownBlock] at hg, rfl, fun i v b h1 _ => by simp at h1⟩
  have hbw2 : RowKit.Below w0.heap.size w0 w2 := H1.out.2.1.trans (hba.mono zz)
  have hρ2 : (fun k => if (Value.slice A1 n k1).ownBlock = some k then 1 else 0) w1.heap.size = 0 := if_neg (fun e9 => by have := (H1.out.1.lt e9).2; omega)
  rw [hw2]
  have b1 := (hbw2.cell (p := ⟨w.heap.size, 1, none⟩) (by show w.heap.size < _; omega)).trans (H0.out.2.1.cell 1 (v := .slice B m d) rfl)
  have H2 := Lib.hid (And.intro hO2 (And.intro hH2 (And.intro hρ2 hbw2)))
  have hz2 := hba.size
  clear hO2 hH2 hρ2 hbw2 hba hw2
  obtain ⟨H, hHeq⟩ : ∃ H, w1.heap.size = H := ⟨_, rfl⟩
  have zH : w0.heap.size ≤ H := by omega
  rw [hHeq] at H2 ⊢
  clear hHeq hz2
  go_upto_block 0 with fail
  go_wp2
  go_loopw [13] (fun i wr => ∃ k : Nat, k ≤ m ∧ i = .int .i64 k ∧ ∃ ρ A2 c2 bvs, OwnSt wr w0.heap.size V ρ ⟨s.last, s.boxes.take k⟩ (.slice A1 n k1) (.slice A2 k c2) bvs ∧ Blk wr H 28 #[.slice A1 n k1, .slice A2 k c2] ∧ ρ H = 0 ∧ Below w0.heap.size w0 wr) (fun i _ => m - (intOf i).toNat)
  case atStart => exact ⟨0, Nat.zero_le _, rfl, _, none, 0, [], H2.out.1, H2.out.2.1, H2.out.2.2.1, H2.out.2.2.2⟩
  case round =>
    clear b1
    obtain ⟨wr, rfl⟩ : ∃ wx : World, wx = wr := ⟨_, rfl⟩
    obtain ⟨k, hk, rfl, ρ, A2, c2, bvs, hO, hHB, hρH, hb⟩ := hrel
    have zr := hb.size
    by_cases hlt : k < m
    · have hx := List.getElem?_eq_getElem (l := s.boxes) (i := k) (by rw [H0.out.2.2.2.1.boxesN]; exact hlt)
      generalize s.boxes[k]'(by rw [H0.out.2.2.2.1.boxesN]; exact hlt) = bx at hx
      obtain ⟨b', off', T, q, qc, rfl, hlb, hq, _, _, hT, x0⟩ := (H0.out.2.2.2.1.boxes.keep (w' := wr) (fun p hp => (hb.cell (by have : p.block < V := hp; omega)).trans (H0.out.1.cell (by have : p.block < V := hp; omega))) (fun _ h => h)).sub hx
      have hlb' : b' < V := hlb
      have hq56 := H0.out.2.2.2.2.1.box bx (List.mem_of_getElem? hx)
      rw [hq] at hq56
      have hlen : (s.boxes.take k).length = k := by rw [List.length_take, H0.out.2.2.2.1.boxesN]; omega
      have htk := take_snoc' hx
      have HR := Lib.hid (And.intro hO (And.intro hHB (And.intro hρH (And.intro hb (And.intro hT (And.intro hq (And.intro hlen htk)))))))
      clear hO hHB hρH hb hT hq hlen htk hx
      go_upto_region 5 with fail
      refine own_r5 wr w0.heap.size V H ρ ⟨s.last, s.boxes.take k⟩ (.slice A1 n k1) A2 k c2 bvs T q qc bx HR.out.1 HR.out.2.1 HR.out.2.2.1 zH (by omega) HR.out.2.2.2.2.1 HR.out.2.2.2.2.2.1 (by omega) HR.out.2.2.2.2.2.2.1 (by omega) ?_
      intro d17 d18 d19 d20 d21 d22 d23 A3 c3 v3 w3 ρ3 hO3 hH3 hρ3 hb3
      have HN := Lib.hid (And.intro (show OwnSt w3 w0.heap.size V ρ3 ⟨s.last, s.boxes.take (k + 1)⟩ (.slice A1 n k1) (.slice A3 (k + 1) c3) (bvs ++ [v3]) from by rw [HR.out.2.2.2.2.2.2.2]; exact hO3) (And.intro hH3 (And.intro hρ3 (HR.out.2.2.2.1.trans hb3))))
      clear hO3 hH3 hρ3 hb3 x0
      go_wp2
      go_roundw
      case measure => simp [intOf]; omega
      case rel => exact ⟨k + 1, by omega, by go_num, ρ3, A3, c3, _, HN.out.1, HN.out.2.1, HN.out.2.2.1, HN.out.2.2.2⟩
    · obtain rfl : k = m := by omega
      have hf : s.boxes.take k = s.boxes := List.take_of_length_le (by rw [H0.out.2.2.2.1.boxesN]; omega)
      rw [hf] at hO
      have h0 := hHB.cell 0 (v := .slice A1 n k1) rfl; have h1 := hHB.cell 1 (v := .slice A2 k c2) rfl
      have lH := hHB.lt
      have hR := (H0.out.2.2.1.below hb (by omega))
      have r0 := hR.cell 0 (v := .slice none 0 0) rfl; have r1 := hR.cell 1 (v := .slice none 0 0) rfl
      have fR := hR.frozen
      have lR := hR.lt
      have HF := Lib.hid (And.intro hO (And.intro hb hR))
      clear hO hHB hb hR hf hρH
      go_wp2
      have g0 := ((HF.out.2.2.set 0 (.slice A1 n k1)).set 1 (.slice A2 k c2)).cell 0 (v := .slice A1 n k1) rfl
      have g1 := ((HF.out.2.2.set 0 (.slice A1 n k1)).set 1 (.slice A2 k c2)).cell 1 (v := .slice A2 k c2) rfl
      refine bodyPost_ret (v := .agg #[.slice A1 n k1, .slice A2 k c2]) (by simp [results, Try.results27, go_sem, g0, g1]) rfl ?_
      exact ⟨w0.heap.size, ρ, A1, n, k1, A2, k, c2, bvs, rfl, (HF.out.1.setLow (by omega) (by omega) 0 _).setLow (by omega) (by omega) 1 _, H0.out.2.2.2.1.lastN, H0.out.2.2.2.1.boxesN, by omega, by simp [World.setCell]; omega, ((H0.out.1.trans (HF.out.2.1.mono (by omega))).setCell (p := ⟨w.heap.size + 1, 0, none⟩) (by show w.heap.size ≤ w.heap.size + 1; omega) _).setCell (p := ⟨w.heap.size + 1, 1, none⟩) (by show w.heap.size ≤ w.heap.size + 1; omega) _⟩
end Go.Proofs.Ytcmdmmphakclmaa
