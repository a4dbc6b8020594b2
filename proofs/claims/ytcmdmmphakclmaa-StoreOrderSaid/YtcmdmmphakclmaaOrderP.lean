/-
  StoreOrder: the plain law: what is kept by each letter that is put in.
-/
import Derived.Test.YtcmdmmphakclmaaStoreN
namespace Go.Proofs.Ytcmdmmphakclmaa
open Go.RowKit Go.Sort
set_option linter.unusedVariables false

def ordIs (n : Nat) (x : Lt) : Bool := keepLt x && (decide (x.fr < n) && decide (x.to < n))
def wantOf (want : List (List Lt)) (i : Int) : List Lt := want.getD i.toNat []
def ordYes (n : Nat) (sq : Int) (want : List (List Lt)) (x : Lt) : Bool := ordIs n x && decide (x.sq = sq + (wantOf want x.fr).length)
def ordNext (n : Nat) (sq : Int) (want : List (List Lt)) (x : Lt) : List (List Lt) := if ordYes n sq want x = true then want.set x.fr.toNat (wantOf want x.fr ++ [x]) else want
structure OrdInv (n : Nat) (sq : Int) (s : St) (want : List (List Lt)) : Prop where
  chk : checkB s = true
  nL : s.last.length = n
  nW : want.length = n
  last : ∀ (f : Nat) x xs, s.last[f]? = some x → want[f]? = some xs → x = sq - 1 + xs.length
  box : ∀ (f t : Nat) xs b, want[f]? = some xs → s.boxes[t]? = some b → b.filter (fun z => decide (z.fr = (f : Int))) = xs.filter (fun z => decide (z.to = (t : Int)))
theorem OrdInv.start (n : Nat) (sq : Int) (h1 : 1 ≤ n) (h8 : n ≤ 8) : OrdInv n sq { last := List.replicate n (sq - 1), boxes := List.replicate n [] } (List.replicate n []) := by
  refine ⟨?_, by simp, by simp, fun f x xs hx hxs => ?_, fun f t xs b hx hb => ?_⟩
  · unfold checkB
    simp [boxOk]; omega
  · rw [List.getElem?_replicate] at hx hxs
    split at hx
    · rename_i hf
      rw [if_pos hf] at hxs
      obtain rfl := Option.some.inj hx; obtain rfl := Option.some.inj hxs
      simp
    · cases hx
  · rw [List.getElem?_replicate] at hx hb
    split at hx
    · split at hb
      · obtain rfl := Option.some.inj hx; obtain rfl := Option.some.inj hb; simp
      · cases hb
    · cases hx
theorem ord_step {n : Nat} {sq : Int} {s : St} {want : List (List Lt)} (h : OrdInv n sq s want) (x : Lt) :
    ∃ s' c, putR s x = (s', c, 0) ∧ (ordYes n sq want x = true → c = 1) ∧ (ordIs n x = false → c = 0) ∧ OrdInv n sq s' (ordNext n sq want x) := by
  obtain ⟨hp1, hp8, hpm⟩ := check_lens h.chk
  have hnl := h.nL
  have e0 := putR_ok h.chk x
  by_cases hi : ordIs n x = true
  rotate_left
  · have e1 : putS s x = (s, 0) := by
      unfold putS
      rw [if_neg (fun hh => hi (by unfold ordIs; simp [hh.1, hnl ▸ hh.2.1, hnl ▸ hh.2.2]))]
    have hy : ordYes n sq want x = false := by unfold ordYes; rw [Bool.eq_false_iff.2 hi]; rfl
    refine ⟨s, 0, by rw [e0, e1], fun hh => by (rw [hy] at hh; cases hh), fun _ => rfl, ?_⟩
    unfold ordNext; rw [hy]; exact h
  · have hi' := hi
    unfold ordIs at hi'
    simp only [Bool.and_eq_true, decide_eq_true_eq] at hi'
    obtain ⟨hk, hf, ht⟩ := hi'
    obtain ⟨_, f0, _, t0, _⟩ := keep_bounds hk
    have hyes : keepLt x = true ∧ x.fr < s.last.length ∧ x.to < s.last.length := ⟨hk, by omega, by omega⟩
    have hfl : x.fr.toNat < s.last.length := by omega
    have hfw : x.fr.toNat < want.length := by rw [h.nW]; omega
    have hx1 := List.getElem?_eq_getElem hfl
    have hw1 := List.getElem?_eq_getElem hfw
    have hL : lastOf s x.fr = s.last[x.fr.toNat] := by unfold lastOf; rw [List.getD_eq_getElem?_getD, hx1]; rfl
    have hW : wantOf want x.fr = want[x.fr.toNat] := by unfold wantOf; rw [List.getD_eq_getElem?_getD, hw1]; rfl
    have hlast := h.last _ _ _ hx1 hw1
    rw [← hL, ← hW] at hlast
    have nok : ∀ {c : Int}, ordYes n sq want x = false → putS s x = (s, c) → ∃ s' c, putR s x = (s', c, 0) ∧ (ordYes n sq want x = true → c = 1) ∧ (ordIs n x = false → c = 0) ∧ OrdInv n sq s' (ordNext n sq want x) := fun {c} hy e1 =>
      ⟨s, c, by rw [e0, e1], fun hh => by (rw [hy] at hh; cases hh), fun hh => by (rw [hi] at hh; cases hh), by unfold ordNext; rw [hy]; exact h⟩
    by_cases hle : x.sq ≤ lastOf s x.fr
    · refine nok (c := 1) ?_ (by unfold putS; rw [if_pos hyes, if_pos hle])
      unfold ordYes; rw [hi, Bool.true_and]; exact decide_eq_false (by omega)
    by_cases hg : x.sq - lastOf s x.fr = 1
    rotate_left
    · refine nok (c := 0) ?_ (by unfold putS; rw [if_pos hyes, if_neg hle, if_neg hg])
      unfold ordYes; rw [hi, Bool.true_and]; exact decide_eq_false (by omega)
    have hy : ordYes n sq want x = true := by unfold ordYes; rw [hi, Bool.true_and]; exact decide_eq_true (by omega)
    refine ⟨putIn s x, 1, by rw [e0]; unfold putS; rw [if_pos hyes, if_neg hle, if_pos hg], fun _ => rfl, fun hh => by (rw [hi] at hh; cases hh), ?_⟩
    have hnx : ordNext n sq want x = want.set x.fr.toNat (wantOf want x.fr ++ [x]) := by unfold ordNext; rw [if_pos hy]
    rw [hnx]
    refine ⟨check_putIn h.chk hk (by omega) (by omega), by simp [putIn, h.nL], by simp [h.nW], fun f v xs hv hxs => ?_, fun f t xs b hxs hb => ?_⟩
    · simp only [putIn] at hv
      by_cases hff : x.fr.toNat = f
      · subst hff
        rw [List.getElem?_set_self hfl] at hv
        rw [List.getElem?_set_self hfw] at hxs
        obtain rfl := Option.some.inj hv; obtain rfl := Option.some.inj hxs
        simp; omega
      · rw [List.getElem?_set_ne hff] at hv hxs
        exact h.last f v xs hv hxs
    · simp only [putIn] at hb
      have htl : x.to.toNat < s.boxes.length := by omega
      have hbt : ∀ b', s.boxes[x.to.toNat]? = some b' → boxOf s x.to = b' := fun b' hb' => by unfold boxOf; rw [List.getD_eq_getElem?_getD, hb']; rfl
      have hbx := List.getElem?_eq_getElem (l := s.boxes) (i := x.to.toNat) htl
      by_cases hff : x.fr.toNat = f
      · have hft : x.fr = (f : Int) := by omega
        subst hff
        rw [List.getElem?_set_self hfw] at hxs
        obtain rfl := Option.some.inj hxs
        by_cases htt : x.to.toNat = t
        · have htn : x.to = (t : Int) := by omega
          subst htt
          rw [List.getElem?_set_self htl] at hb
          obtain rfl := Option.some.inj hb
          have e := h.box x.fr.toNat x.to.toNat _ _ hw1 hbx
          rw [List.filter_append, List.filter_append, hbt _ hbx, hW, e]
          congr 1
          simp [← hft, ← htn]
        · rw [List.getElem?_set_ne htt] at hb
          have e := h.box x.fr.toNat t _ _ hw1 hb
          rw [List.filter_append, hW, e]
          have : ¬ x.to = (t : Int) := fun e => htt (by omega)
          simp [this]
      · rw [List.getElem?_set_ne hff] at hxs
        have hne : ¬ x.fr = (f : Int) := fun e => hff (by omega)
        by_cases htt : x.to.toNat = t
        · subst htt
          rw [List.getElem?_set_self htl] at hb
          obtain rfl := Option.some.inj hb
          have e := h.box f x.to.toNat _ _ hxs hbx
          rw [List.filter_append, hbt _ hbx, e]
          simp [hne]
        · rw [List.getElem?_set_ne htt] at hb
          exact h.box f t xs b hxs hb
end Go.Proofs.Ytcmdmmphakclmaa
