/-
  net.Send: the walk.
-/
import Derived.Test.YtponbodiibkopaaNetS
namespace Go.Proofs.Ytponbodiibkopaa
open Go.RowKit Go.Sort
set_option linter.unusedVariables false

theorem wf_wrap (x : Int) : (Lit.int .i64 (wrap64 x)).wf = true := WalkArith.wf_i64 ⟨by unfold wrap64; omega, by unfold wrap64; omega⟩
theorem wrap_w64 (x : Int) : IntKind.i64.wrap x = wrap64 x := by rw [IntKind.wrap_i64]; unfold wrap64; omega
theorem Sl.tail {α : Type} {R : Rdr α} {w : World} {S : Nat → Prop} {b off : Nat} {x : α} {xs : List α} (h : Sl R w S (some ⟨b, off, none⟩) (x :: xs)) : Sl R w S (some ⟨b, off + R.size, none⟩) xs := by
  intro i y hy
  obtain ⟨b', off', cs, hA, hb, hr, hc⟩ := h (i + 1) y (by simpa using hy)
  obtain ⟨rfl, rfl⟩ : b = b' ∧ off = off' := by simpa using hA
  refine ⟨b, _, cs, rfl, hb, hr, fun j v hj => ?_⟩
  have := hc j v hj
  rwa [show off + (i + 1) * R.size + j = off + R.size + i * R.size + j by rw [Nat.add_mul]; omega] at this
/-- What a net's sizes are. -/
structure NtFit (x : Nt) : Prop where
  list : (x.list.length + 2) * 48 ≤ 140737488355328
  fates : x.fates.length * 8 ≤ 140737488355328
  text : ∀ f ∈ x.list, f.body.length ≤ 140737488355328
/-- What Send leaves. -/
def NetRet (x : Nt) (w : World) (en : Ending) (w' : World) : Prop :=
  ∃ (A : Option Addr) (n c : Nat) (B : Option Addr) (m d : Nat), en = .returned (.agg #[.slice A n c, .slice B m d]) ∧ NtAt w' (mid w.heap.size w'.heap.size) A n B m x ∧ n ≤ c ∧ c ≤ maxLen ∧ m ≤ d ∧ d ≤ maxLen ∧ Below w.heap.size w w'
theorem NetRet.mk' {x : Nt} {w w' : World} {X : Nat → Prop} {a b0 : Nat} {e : TypeId} {A : Option Addr} {n c : Nat} {B : Option Addr} {m d : Nat} (h1 : OwnX Rfl w' a e X (.slice A n c) x.list) (ha : w.heap.size ≤ a) (h2 : Sl (Rint .i64) w' (mid b0 w'.heap.size) B x.fates) (hb0 : w.heap.size ≤ b0) (h2n : x.fates.length = m) (h2l : m ≤ d) (h2m : d ≤ maxLen) (hb : Below w.heap.size w w') : NetRet x w (.returned (.agg #[.slice A n c, .slice B m d])) w' := by
  obtain ⟨rfl, a2, a3, a4⟩ := h1.sl
  exact ⟨A, _, c, B, m, d, rfl, ⟨a4.keep (fun _ _ => rfl) (fun b hb => ⟨by have := hb.1; omega, hb.2.1⟩), rfl, h2.keep (fun _ _ => rfl) (fun b hb => ⟨by have := hb.1; omega, hb.2⟩), h2n⟩, a2, a3, h2l, h2m, hb⟩
/-- The net's own list, behind what touches only the blocks E and R and lays new ones. -/
theorem own_keep {w1 wf : World} {a E R : Nat} {e : TypeId} {X : Nat → Prop} {v : Value} {xs : List Fl} (h : OwnX Rfl w1 a e (fun _ => False) v xs) (hk : ∀ k, a ≤ k → k < w1.heap.size → wf.heap[k]? = w1.heap[k]?) (hz : w1.heap.size ≤ wf.heap.size) (hX : ∀ k, k < w1.heap.size → ¬ X k) : OwnX Rfl wf a e X v xs :=
  h.frame (fun k h1 h2 _ => hk k h1 h2) hz (fun k _ h2 _ => hX k h2)
set_option maxRecDepth 100000 in
set_option maxHeartbeats 4000000 in
theorem send_any (w : World) (x : Nt) (A : Option Addr) (n c : Nat) (B : Option Addr) (m d : Nat) (now fr tgt : Int) (body : List Int) (T : Option Addr) (k kc : Nat) (ho : NtAt w (lo w.heap.size) A n B m x) (hf : NtFit x) (hmd : m ≤ d) (hd : d ≤ maxLen) (hn : body.length = k) (hT : Sl (Rint .u8) w (lo w.heap.size) T body) (hz : k ≤ 140737488355328)
    (hfr : (Lit.int .i64 fr).wf = true) (htg : (Lit.int .i64 tgt).wf = true) :
    Calls Try.prog 11 #[.agg #[.slice A n c, .slice B m d], .int .i64 now, .int .i64 fr, .int .i64 tgt, .slice T k kc] w (NetRet (sendN x now fr tgt body) w) := by
  have hb0 : RowKit.Below w.heap.size w ((w.alloc (.cells #[.slice A n c, .slice B m d] 25)).alloc (.cells #[.slice none 0 0, .slice none 0 0] 25)) := ((Below.refl _ _).alloc (Nat.le_refl _) _).alloc (by simp) _
  have hz0 : ((w.alloc (.cells #[.slice A n c, .slice B m d] 25)).alloc (.cells #[.slice none 0 0, .slice none 0 0] 25)).heap.size = w.heap.size + 2 := by simp
  have hB := (Blk.new w 25 #[.slice A n c, .slice B m d] (g := w.heap.size) rfl).alloc (.cells #[.slice none 0 0, .slice none 0 0] 25)
  have hR := Blk.new (w.alloc (.cells #[.slice A n c, .slice B m d] 25)) 25 #[.slice none 0 0, .slice none 0 0] (g := w.heap.size + 1) (by simp)
  have hT0 := hT.below hb0 hb0.size
  have ho0 := ho.below hb0 hb0.size
  go_enter Try.func11, Try.ntmps11
  go_upto_region 1 with fail
  generalize ((w.alloc (.cells #[.slice A n c, .slice B m d] 25)).alloc (.cells #[.slice none 0 0, .slice none 0 0] 25)) = w0 at *
  have b0 := hB.cell 0 (v := .slice A n c) rfl; have b1 := hB.cell 1 (v := .slice B m d) rfl
  have H0 := Lib.hid (And.intro hb0 (And.intro hB (And.intro hR (And.intro hT0 (And.intro ho0 (And.intro hf hn))))))
  clear hb0 hB hR hT0 ho0 ho hT hf hn
  go_upto_region 3 with (go_at_call 19
                         go_loud (skip
                                  refine (copyFlights_any A n c x.list H0.out.2.2.2.2.1.listN _ H0.out.2.2.2.2.1.list (by have h9 := H0.out.2.2.2.2.2.1.list; rw [H0.out.2.2.2.2.1.listN] at h9; omega) H0.out.2.2.2.2.2.1.text).mono ?_
                                  rintro e w1 ⟨A1, n1, c1, rfl, hn1, hox1, hb1⟩
                                  have b1 := (hb1.cell (p := ⟨w.heap.size, 1, none⟩) (by show w.heap.size < _; omega)).trans (H0.out.2.1.cell 1 (v := .slice B m d) rfl)
                                  have z1 := hb1.size
                                  have zB : w.heap.size < w1.heap.size := by omega
                                  have H1 := Lib.hid (And.intro hn1 (And.intro hox1 hb1))
                                  clear hn1 hox1 hb1))

  obtain ⟨lst, fates⟩ := x
  cases fates with
  | nil =>
    obtain rfl : m = 0 := H0.out.2.2.2.2.1.fatesN.symm
    have hsame0 : sendN ⟨lst, []⟩ now fr tgt body = ⟨lst ++ [⟨wrap64 (wrap64 (now + 1)), fr, tgt, body⟩], []⟩ := by simp [sendN, sendL, fateN, atN]
    have HP := Lib.hid hsame0; clear hsame0
    go_upto_region 9 with fail
    obtain ⟨w2, hw2⟩ : ∃ w2, w1.alloc (.cells #[.slice A1 n1 c1, .slice none 0 0] 25) = w2 := ⟨_, rfl⟩
    have hb2 : RowKit.Below w0.heap.size w0 w2 := by rw [← hw2]; exact H1.out.2.2.alloc (by omega) _
    have gE2 : Blk w2 w1.heap.size 25 #[.slice A1 n1 c1, .slice none 0 0] := by rw [← hw2]; exact Blk.new _ _ _ rfl
    have gR2 : Blk w2 (w.heap.size + 1) 25 #[.slice none 0 0, .slice none 0 0] := H0.out.2.2.1.below hb2 (by omega)
    have hox2 : OwnX Rfl w2 w0.heap.size 37 (fun k => k = w1.heap.size ∨ (w1.heap.size < k ∧ k < w2.heap.size)) (.slice A1 n1 c1) lst := own_keep (E := 0) (R := 0) H1.out.2.1 (fun k _ h => by rw [← hw2]; exact Below.heap_alloc w1 _ k h) (by rw [← hw2]; simp) (fun k h => by rintro (h9 | h9) <;> omega)
    have hz2 : w1.heap.size < w2.heap.size := by rw [← hw2]; simp
    have zz2 := hb2.size
    have H2 := Lib.hid (And.intro hb2 (And.intro gE2 (And.intro gR2 (And.intro hox2 (Sl.nil (Rint .i64) w2 (mid (w1.heap.size + 1) w2.heap.size) none)))))
    clear hb2 gE2 gR2 hox2
    have HF := Lib.hid (And.intro (show ([] : List Int).length = 0 from rfl) (And.intro (Nat.le_refl 0) (Nat.zero_le maxLen)))
    rw [hw2]
    refine nsend_r9 w2 w0.heap.size w1.heap.size (.slice none 0 0) (fun k => k = w1.heap.size ∨ (w1.heap.size < k ∧ k < w2.heap.size)) (.slice A1 n1 c1) lst _ fr tgt body T k kc H2.out.2.1 H2.out.2.2.2.1 (Or.inl rfl) (fun k h => by have := H2.out.2.1.lt; rcases h with h | h <;> omega) (by omega) H0.out.2.2.2.2.2.2 (H0.out.2.2.2.1.below H2.out.1 (by omega)) hz (by have h9 := H0.out.2.2.2.2.2.1.list; dsimp only at h9; omega) (wf_wrap _) hfr htg ?_
    intro d39 d40 d41 d42 d43 d44 d45 d46 d47 d48 d49 A4 c4 w4 gE4 hox4 hsm4 hz4 hbb4
    obtain ⟨n4, hn4⟩ : ∃ n4, lst.length + 1 = n4 := ⟨_, rfl⟩
    rw [hn4] at gE4 hox4
    have HN4 := Lib.hid hn4; clear hn4
    have gR4 : Blk w4 (w.heap.size + 1) 25 #[.slice none 0 0, .slice none 0 0] := (hsm4 (w.heap.size + 1) (by omega) (by omega) (fun e => by have := (H1.out.2.1.lt e).1; omega)).trans H2.out.2.2.1
    have hs4 : Sl (Rint .i64) w4 (mid (w1.heap.size + 1) w2.heap.size) none [] := H2.out.2.2.2.2.keep (fun p hp => World.cell?_of_block (hsm4 p.block hp.2 (by have := hp.1; omega) (fun e => by have := (H1.out.2.1.lt e).2.1; have := hp.1; omega))) (fun b hb => hb)
    have hb4 : RowKit.Below w.heap.size w w4 := (H0.out.1.trans (H2.out.1.mono (by omega))).trans (hbb4.mono (by omega))
    clear hsm4
    have r0 := gR4.cell 0 (v := .slice none 0 0) rfl; have r1 := gR4.cell 1 (v := .slice none 0 0) rfl; have fR := gR4.frozen
    have e0 := gE4.cell 0 (v := .slice A4 n4 c4) rfl
    have e1 := gE4.cell 1 (v := .slice none 0 0) rfl
    have H4 := Lib.hid (And.intro hox4 (And.intro hs4 (And.intro hb4 hz4)))
    clear hox4 hs4 hb4 gR4 gE4
    go_wp2
    refine bodyPost_ret (v := .agg #[.slice A4 n4 c4, .slice none 0 0]) (by simp [results, Try.results11, go_sem, r0, r1]) rfl ?_
    rw [HP.out]
    have hlow : ∀ i : Nat, (Addr.mk (w.heap.size + 1) i none).block < w0.heap.size := fun i => by show w.heap.size + 1 < _; omega
    exact NetRet.mk' (x := ⟨_, _⟩) (a := w0.heap.size) (b0 := w1.heap.size + 1) ((H4.out.1.low (hlow 0) _).low (hlow 1) _) (by omega) (((H4.out.2.1.set (p := ⟨w.heap.size + 1, 0, none⟩) (fun hm => by have h9 := hm.1; dsimp only at h9; omega) _).set (p := ⟨w.heap.size + 1, 1, none⟩) (fun hm => by have h9 := hm.1; dsimp only at h9; omega) _).more (fun b hb => ⟨hb.1, by have := hb.2; have h9 := H4.out.2.2.2; simp [World.setCell]; omega⟩)) (by omega) HF.out.1 HF.out.2.1 HF.out.2.2 ((H4.out.2.2.1.setCell (p := ⟨w.heap.size + 1, 0, none⟩) (by simp) _).setCell (p := ⟨w.heap.size + 1, 1, none⟩) (by simp) _)
  | cons f rest =>
    obtain rfl : m = rest.length + 1 := H0.out.2.2.2.2.1.fatesN.symm
    obtain ⟨bF, offF, rfl, hlF, hwF, hF0⟩ := (H0.out.2.2.2.2.1.fates.below H1.out.2.2 H1.out.2.2.size).int (i := 0) (x := f) rfl
    simp only [Nat.add_zero] at hF0
    have hlF' : bF < w1.heap.size := hlF
    have hrt : Sl (Rint .i64) w1 (lo w1.heap.size) (if d = 1 then some ⟨bF, offF, none⟩ else some ⟨bF, offF + 1, none⟩) rest := by
      by_cases hd1 : d = 1
      · obtain rfl : rest = [] := List.length_eq_zero_iff.1 (by omega)
        exact Sl.nil _ _ _ _
      · rw [if_neg hd1]; exact (H0.out.2.2.2.2.1.fates.below H1.out.2.2 H1.out.2.2.size).tail
    have hrz : rest.length * 8 ≤ 140737488355328 := by
      have h9 := H0.out.2.2.2.2.2.1.fates; simp at h9; omega
    have HR := Lib.hid (And.intro hrt hrz); clear hrt hrz
    generalize hAF : (if d = 1 then (some ⟨bF, offF, none⟩ : Option Addr) else some ⟨bF, offF + 1, none⟩) = AF at HR
    have HAF := Lib.hid hAF; clear hAF
    by_cases hneg : f < 0
    · have d1 : decide (f < 0) = true := decide_eq_true hneg
      have HP := Lib.hid (show sendN ⟨lst, f :: rest⟩ now fr tgt body = ⟨lst, rest⟩ by simp [sendN, sendL, fateN, hneg])
      clear hneg
      go_wp2_with (go_at_call 20
                   go_loud (skip
                            rw [HAF.out]
                            refine (cloneI_any AF rest _ _ rfl _ (HR.out.1.below ((Below.refl _ _).alloc (Nat.le_refl _) _) (by simp)) HR.out.2).mono ?_
                            rintro e w3 ⟨A3, n3, c3, rfl, hn3, hl3, hm3, hs3, hb3⟩
                            have gE := (Blk.new w1 25 #[.slice A1 n1 c1, .slice none 0 0] (g := w1.heap.size) rfl).below hb3 (by simp)
                            have zE := gE.lt
                            have e0 := gE.cell 0 (v := .slice A1 n1 c1) rfl
                            have e1 := gE.cell 1 (v := .slice none 0 0) rfl
                            have fE := gE.frozen
                            have gR := (H0.out.2.2.1.below H1.out.2.2 (by omega)).below ((Below.refl _ _).alloc (Nat.le_refl _) (.cells #[.slice A1 n1 c1, .slice none 0 0] 25)) (by omega)
                            have gR3 := gR.below hb3 (by simp; omega)
                            have r0 := gR3.cell 0 (v := .slice none 0 0) rfl; have r1 := gR3.cell 1 (v := .slice none 0 0) rfl; have fR := gR3.frozen
                            have H3 := Lib.hid (And.intro hn3 (And.intro hl3 (And.intro hm3 (And.intro hs3 (And.intro hb3 (And.intro gE gR3))))))
                            have hne : w1.heap.size ≠ w.heap.size + 1 := by omega
                            have hne' : w.heap.size + 1 ≠ w1.heap.size := by omega
                            clear hn3 hl3 hm3 hs3 hb3 gE gR gR3))
      refine bodyPost_ret (v := .agg #[.slice A1 n1 c1, .slice A3 n3 c3]) (by simp [results, Try.results11, go_sem, r0, r1]) rfl ?_
      rw [HP.out]
      have hb4 : RowKit.Below w.heap.size w w3 := (H0.out.1.trans (H1.out.2.2.mono (by omega))).trans (((Below.refl _ _).alloc (by omega) _).trans (H3.out.2.2.2.2.1.mono (by simp; omega)))
      have hs4 : Sl (Rint .i64) w3 (mid (w1.heap.size + 1) w3.heap.size) A3 rest := H3.out.2.2.2.1.more fun b hb => ⟨by have := hb.1; simpa using this, hb.2⟩
      have hk : ∀ k', w0.heap.size ≤ k' → k' < w1.heap.size → ((((w3.setCell ⟨w1.heap.size, 1, none⟩ (.slice A3 n3 c3)).setCell ⟨w.heap.size + 1, 0, none⟩ (.slice A1 n1 c1)).setCell ⟨w.heap.size + 1, 1, none⟩ (.slice A3 n3 c3))).heap[k']? = w1.heap[k']? := fun k' h1 h2 =>
        (Below.heap_setCell _ ⟨w.heap.size + 1, 1, none⟩ _ k' (by show k' ≠ w.heap.size + 1; omega)).trans ((Below.heap_setCell _ ⟨w.heap.size + 1, 0, none⟩ _ k' (by show k' ≠ w.heap.size + 1; omega)).trans ((Below.heap_setCell _ ⟨w1.heap.size, 1, none⟩ _ k' (by show k' ≠ w1.heap.size; omega)).trans ((H3.out.2.2.2.2.1.block k' (by simp; omega)).trans (Below.heap_alloc w1 _ k' h2))))
      exact NetRet.mk' (x := ⟨_, _⟩) (own_keep (E := 0) (R := 0) (X := fun _ => False) H1.out.2.1 hk (by simp [World.setCell]; omega) (fun _ _ h => h)) (by omega)
        ((((hs4.set (p := ⟨w1.heap.size, 1, none⟩) (fun hm => by have h9 := hm.1; dsimp only at h9; omega) _).set (p := ⟨w.heap.size + 1, 0, none⟩) (fun hm => by have h9 := hm.1; dsimp only at h9; omega) _).set (p := ⟨w.heap.size + 1, 1, none⟩) (fun hm => by have h9 := hm.1; dsimp only at h9; omega) _).more (fun b hb => ⟨hb.1, by have := hb.2; simpa [World.setCell] using this⟩)) (by omega) H3.out.1 H3.out.2.1 H3.out.2.2.1
        (((hb4.setCell (p := ⟨w1.heap.size, 1, none⟩) (by show w.heap.size ≤ w1.heap.size; omega) _).setCell (p := ⟨w.heap.size + 1, 0, none⟩) (by simp) _).setCell (p := ⟨w.heap.size + 1, 1, none⟩) (by simp) _)
    · have d1 : decide (f < 0) = false := decide_eq_false hneg
      have hpos : 0 ≤ f := by omega
      have ht16 : f.tmod 16 = f % 16 := Int.tmod_eq_emod_of_nonneg hpos
      have hq16 : f.tdiv 16 = f / 16 := Int.tdiv_eq_ediv_of_nonneg hpos
      have hq2 : (f / 16).tmod 2 = f / 16 % 2 := Int.tmod_eq_emod_of_nonneg (by omega)
      have HT := Lib.hid (And.intro ht16 (And.intro hq16 hq2))
      have hbd := bounds_i64 hwF
      clear ht16 hq16 hq2 hneg
      go_upto_region 9 with (go_at_call 20
                             go_loud (skip
                                      rw [HAF.out]
                                      refine (cloneI_any AF rest _ _ rfl _ (HR.out.1.below ((Below.refl _ _).alloc (Nat.le_refl _) _) (by simp)) HR.out.2).mono ?_
                                      rintro e w3 ⟨A3, n3, c3, rfl, hn3, hl3, hm3, hs3, hb3⟩
                                      have gE := (Blk.new w1 25 #[.slice A1 n1 c1, .slice none 0 0] (g := w1.heap.size) rfl).below hb3 (by simp)
                                      have zE := gE.lt
                                      have e0 := gE.cell 0 (v := .slice A1 n1 c1) rfl
                                      have e1 := gE.cell 1 (v := .slice none 0 0) rfl
                                      have fE := gE.frozen
                                      have gR := (H0.out.2.2.1.below H1.out.2.2 (by omega)).below ((Below.refl _ _).alloc (Nat.le_refl _) (.cells #[.slice A1 n1 c1, .slice none 0 0] 25)) (by omega)
                                      have gR3 := gR.below hb3 (by simp; omega)
                                      have r0 := gR3.cell 0 (v := .slice none 0 0) rfl; have r1 := gR3.cell 1 (v := .slice none 0 0) rfl; have fR := gR3.frozen
                                      have H3 := Lib.hid (And.intro hn3 (And.intro hl3 (And.intro hm3 (And.intro hs3 (And.intro hb3 (And.intro gE gR3))))))
                                      have hne : w1.heap.size ≠ w.heap.size + 1 := by omega
                                      have hne' : w.heap.size + 1 ≠ w1.heap.size := by omega
                                      clear hn3 hl3 hm3 hs3 hb3 gE gR gR3))
      obtain ⟨w2, hw2⟩ : ∃ w2, w3.setCell ⟨w1.heap.size, 1, none⟩ (.slice A3 n3 c3) = w2 := ⟨_, rfl⟩
      have hb2 : RowKit.Below w0.heap.size w0 w2 := by rw [← hw2]; exact (H1.out.2.2.trans (((Below.refl _ _).alloc (by omega) _).trans (H3.out.2.2.2.2.1.mono (by simp; omega)))).setCell (by show w0.heap.size ≤ w1.heap.size; omega) _
      have gE2 : Blk w2 w1.heap.size 25 #[.slice A1 n1 c1, .slice A3 n3 c3] := by rw [← hw2]; exact H3.out.2.2.2.2.2.1.set 1 _
      have gR2 : Blk w2 (w.heap.size + 1) 25 #[.slice none 0 0, .slice none 0 0] := H0.out.2.2.1.below hb2 (by omega)
      have hz2 : w1.heap.size < w2.heap.size := by rw [← hw2]; simp [World.setCell]; omega
      have hox2 : OwnX Rfl w2 w0.heap.size 37 (fun k => k = w1.heap.size ∨ (w1.heap.size < k ∧ k < w2.heap.size)) (.slice A1 n1 c1) lst := own_keep (E := 0) (R := 0) H1.out.2.1 (fun k _ h => by rw [← hw2]; exact (Below.heap_setCell _ ⟨w1.heap.size, 1, none⟩ _ k (by show k ≠ w1.heap.size; omega)).trans ((H3.out.2.2.2.2.1.block k (by simp; omega)).trans (Below.heap_alloc w1 _ k h))) (by omega) (fun k h => by rintro (h9 | h9) <;> omega)
      have hs2 : Sl (Rint .i64) w2 (mid (w1.heap.size + 1) w2.heap.size) A3 rest := by
        rw [← hw2]
        exact (H3.out.2.2.2.1.set (p := ⟨w1.heap.size, 1, none⟩) (fun hm => absurd hm.1 (by simp)) _).more fun b hb => ⟨by have := hb.1; simpa using this, by have := hb.2; simpa [World.setCell] using this⟩
      have zz2 := hb2.size
      have H2 := Lib.hid (And.intro hb2 (And.intro gE2 (And.intro gR2 (And.intro hox2 hs2))))
      have HF := Lib.hid (And.intro H3.out.1 (And.intro H3.out.2.1 H3.out.2.2.1))
      clear hb2 gE2 gR2 hox2 hs2 e0 e1 fE r0 r1 fR
      rw [hw2]
      refine nsend_r9 w2 w0.heap.size w1.heap.size (.slice A3 n3 c3) (fun k => k = w1.heap.size ∨ (w1.heap.size < k ∧ k < w2.heap.size)) (.slice A1 n1 c1) lst _ fr tgt body T k kc H2.out.2.1 H2.out.2.2.2.1 (Or.inl rfl) (fun k h => by have := H2.out.2.1.lt; rcases h with h | h <;> omega) (by omega) H0.out.2.2.2.2.2.2 (H0.out.2.2.2.1.below H2.out.1 (by omega)) hz (by have h9 := H0.out.2.2.2.2.2.1.list; dsimp only at h9; omega) (wf_wrap _) hfr htg ?_
      intro d39 d40 d41 d42 d43 d44 d45 d46 d47 d48 d49 A4 c4 w4 gE4 hox4 hsm4 hz4 hbb4
      obtain ⟨n4, hn4⟩ : ∃ n4, lst.length + 1 = n4 := ⟨_, rfl⟩
      rw [hn4] at gE4 hox4
      have HN4 := Lib.hid hn4; clear hn4
      have gR4 : Blk w4 (w.heap.size + 1) 25 #[.slice none 0 0, .slice none 0 0] := (hsm4 (w.heap.size + 1) (by omega) (by omega) (fun e => by have := (H1.out.2.1.lt e).1; omega)).trans H2.out.2.2.1
      have hs4 : Sl (Rint .i64) w4 (mid (w1.heap.size + 1) w2.heap.size) A3 rest := H2.out.2.2.2.2.keep (fun p hp => World.cell?_of_block (hsm4 p.block hp.2 (by have := hp.1; omega) (fun e => by have := (H1.out.2.1.lt e).2.1; have := hp.1; omega))) (fun b hb => hb)
      have hb4 : RowKit.Below w.heap.size w w4 := (H0.out.1.trans (H2.out.1.mono (by omega))).trans (hbb4.mono (by omega))
      clear hsm4
      by_cases hodd : f / 16 % 2 = 1
      · have d2 : (f / 16 % 2 == 1) = true := by simpa using hodd
        have HP := Lib.hid (show sendN ⟨lst, f :: rest⟩ now fr tgt body = ⟨lst ++ [⟨wrap64 (wrap64 (now + 1) + f % 16), fr, tgt, body⟩, ⟨wrap64 (wrap64 (wrap64 (now + 1) + f % 16) + 1), fr, tgt, body⟩], rest⟩ by simp [sendN, sendL, fateN, atN, hodd, show ¬ f < 0 by omega])
        clear hodd
        have e0 := gE4.cell 0 (v := .slice A4 n4 c4) rfl
        have H4 := Lib.hid (And.intro hox4 (And.intro hs4 (And.intro hb4 (And.intro hbb4 (And.intro gR4 gE4)))))
        clear hox4 hs4 hb4 gR4 gE4
        go_upto_region 11 with fail
        refine nsend_r11 w4 w0.heap.size w1.heap.size (.slice A3 n3 c3) (fun k => k = w1.heap.size ∨ (w1.heap.size < k ∧ k < w2.heap.size)) (.slice A4 n4 c4) _ _ fr tgt body T k kc H4.out.2.2.2.2.2 H4.out.1 (Or.inl rfl) (fun k h => by have := H4.out.2.2.2.2.2.lt; rcases h with h | h <;> omega) (by omega) H0.out.2.2.2.2.2.2 (H0.out.2.2.2.1.below (H2.out.1.trans (H4.out.2.2.2.1.mono (by omega))) (by omega)) hz (by have h9 := H0.out.2.2.2.2.2.1.list; dsimp only at h9; simp only [List.length_append, List.length_singleton]; omega) (by rw [wrap_w64]; exact wf_wrap _) hfr htg ?_
        intro d54 d55 d56 d57 d58 d59 d60 d61 d62 d63 d64 d65 A5 c5 w5 gE4 hox4 hsm4 hz5 hbb5
        rw [List.append_assoc, List.singleton_append, wrap_w64] at hox4
        obtain ⟨n5, hn5⟩ : ∃ n5, (lst ++ [(⟨wrap64 (wrap64 (now + 1) + f % 16), fr, tgt, body⟩ : Fl)]).length + 1 = n5 := ⟨_, rfl⟩
        rw [hn5] at gE4 hox4
        have HN5 := Lib.hid hn5; clear hn5
        have z4s := H4.out.2.2.2.2.2.lt
        have gR4 : Blk w5 (w.heap.size + 1) 25 #[.slice none 0 0, .slice none 0 0] := (hsm4 (w.heap.size + 1) (by omega) (by omega) (fun e => by have := (H4.out.1.lt e).1; omega)).trans H4.out.2.2.2.2.1
        have hs4 : Sl (Rint .i64) w5 (mid (w1.heap.size + 1) w2.heap.size) A3 rest := H4.out.2.1.keep (fun p hp => World.cell?_of_block (hsm4 p.block (by have := hp.2; omega) (by have := hp.1; omega) (fun e => (H4.out.1.lt e).2.2 (Or.inr ⟨by have := hp.1; omega, hp.2⟩)))) (fun b hb => hb)
        have hb4 : RowKit.Below w.heap.size w w5 := H4.out.2.2.1.trans (hbb5.mono (by omega))
        clear hsm4
        have hz4 : w2.heap.size ≤ w5.heap.size := by omega
        have r0 := gR4.cell 0 (v := .slice none 0 0) rfl; have r1 := gR4.cell 1 (v := .slice none 0 0) rfl; have fR := gR4.frozen
        have e0 := gE4.cell 0 (v := .slice A5 n5 c5) rfl
        have e1 := gE4.cell 1 (v := .slice A3 n3 c3) rfl
        have H4 := Lib.hid (And.intro hox4 (And.intro hs4 (And.intro hb4 hz4)))
        clear hox4 hs4 hb4 gR4 gE4
        go_wp2
        refine bodyPost_ret (v := .agg #[.slice A5 n5 c5, .slice A3 n3 c3]) (by simp [results, Try.results11, go_sem, r0, r1]) rfl ?_
        rw [HP.out]
        have hlow : ∀ i : Nat, (Addr.mk (w.heap.size + 1) i none).block < w0.heap.size := fun i => by show w.heap.size + 1 < _; omega
        exact NetRet.mk' (x := ⟨_, _⟩) (a := w0.heap.size) (b0 := w1.heap.size + 1) ((H4.out.1.low (hlow 0) _).low (hlow 1) _) (by omega) (((H4.out.2.1.set (p := ⟨w.heap.size + 1, 0, none⟩) (fun hm => by have h9 := hm.1; dsimp only at h9; omega) _).set (p := ⟨w.heap.size + 1, 1, none⟩) (fun hm => by have h9 := hm.1; dsimp only at h9; omega) _).more (fun b hb => ⟨hb.1, by have := hb.2; have h9 := H4.out.2.2.2; simp [World.setCell]; omega⟩)) (by omega) HF.out.1 HF.out.2.1 HF.out.2.2 ((H4.out.2.2.1.setCell (p := ⟨w.heap.size + 1, 0, none⟩) (by simp) _).setCell (p := ⟨w.heap.size + 1, 1, none⟩) (by simp) _)
      · have d2 : (f / 16 % 2 == 1) = false := by simpa using hodd
        have HP := Lib.hid (show sendN ⟨lst, f :: rest⟩ now fr tgt body = ⟨lst ++ [⟨wrap64 (wrap64 (now + 1) + f % 16), fr, tgt, body⟩], rest⟩ by simp [sendN, sendL, fateN, atN, hodd, show ¬ f < 0 by omega])
        clear hodd
        have r0 := gR4.cell 0 (v := .slice none 0 0) rfl; have r1 := gR4.cell 1 (v := .slice none 0 0) rfl; have fR := gR4.frozen
        have e0 := gE4.cell 0 (v := .slice A4 n4 c4) rfl
        have e1 := gE4.cell 1 (v := .slice A3 n3 c3) rfl
        have H4 := Lib.hid (And.intro hox4 (And.intro hs4 (And.intro hb4 hz4)))
        clear hox4 hs4 hb4 gR4 gE4
        go_wp2
        refine bodyPost_ret (v := .agg #[.slice A4 n4 c4, .slice A3 n3 c3]) (by simp [results, Try.results11, go_sem, r0, r1]) rfl ?_
        rw [HP.out]
        have hlow : ∀ i : Nat, (Addr.mk (w.heap.size + 1) i none).block < w0.heap.size := fun i => by show w.heap.size + 1 < _; omega
        exact NetRet.mk' (x := ⟨_, _⟩) (a := w0.heap.size) (b0 := w1.heap.size + 1) ((H4.out.1.low (hlow 0) _).low (hlow 1) _) (by omega) (((H4.out.2.1.set (p := ⟨w.heap.size + 1, 0, none⟩) (fun hm => by have h9 := hm.1; dsimp only at h9; omega) _).set (p := ⟨w.heap.size + 1, 1, none⟩) (fun hm => by have h9 := hm.1; dsimp only at h9; omega) _).more (fun b hb => ⟨hb.1, by have := hb.2; have h9 := H4.out.2.2.2; simp [World.setCell]; omega⟩)) (by omega) HF.out.1 HF.out.2.1 HF.out.2.2 ((H4.out.2.2.1.setCell (p := ⟨w.heap.size + 1, 0, none⟩) (by simp) _).setCell (p := ⟨w.heap.size + 1, 1, none⟩) (by simp) _)
end Go.Proofs.Ytponbodiibkopaa
