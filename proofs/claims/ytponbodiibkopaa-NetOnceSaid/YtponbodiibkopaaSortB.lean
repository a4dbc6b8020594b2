/-
  Blocks that are sorted; one element goes in. Plain.
-/
import Derived.Test.YtponbodiibkopaaSortR
namespace Go.Proofs.Ytponbodiibkopaa
set_option linter.unusedVariables false

section
variable {α : Type} {key : α → Int}
/-- Each block of the width W is sorted. -/
def BlkS (key : α → Int) (W : Nat) (xs : List α) : Prop := ∀ k, SortedK key ((xs.drop (k * W)).take W)
theorem BlkS.nil (W : Nat) : BlkS key W [] := fun k => by simp; exact SortedK.nil
theorem BlkS.snoc {W t : Nat} {D T : List α} (h : BlkS key W D) (hd : D.length = t * W) (hT : SortedK key T) (hl : T.length ≤ W) : BlkS key W (D ++ T) := fun k => by
  rcases Nat.lt_trichotomy k t with hk | hk | hk
  · have h1 : (k + 1) * W ≤ t * W := Nat.mul_le_mul_right W hk
    rw [Nat.add_mul, Nat.one_mul] at h1
    rw [List.drop_append_of_le_length (by omega), List.take_append_of_le_length (by rw [List.length_drop]; omega)]
    exact h k
  · subst hk
    rw [List.drop_append, List.drop_of_length_le (by omega), hd, Nat.sub_self, List.drop_zero, List.nil_append, List.take_of_length_le hl]
    exact hT
  · have h1 : (t + 1) * W ≤ k * W := Nat.mul_le_mul_right W hk
    rw [Nat.add_mul, Nat.one_mul] at h1
    rw [List.drop_of_length_le (by rw [List.length_append]; omega), List.take_nil]
    exact SortedK.nil
theorem BlkS.split {W : Nat} {L E : List α} (h : BlkS key W (L ++ E)) (hl : L.length = W) : SortedK key L ∧ BlkS key W E := by
  refine ⟨?_, fun k => ?_⟩
  · have := h 0
    rw [Nat.zero_mul, List.drop_zero, List.take_append_of_le_length (by omega), List.take_of_length_le (by omega)] at this
    exact this
  · have := h (k + 1)
    have h1 : (k + 1) * W = k * W + W := by rw [Nat.add_mul, Nat.one_mul]
    have e : (L ++ E).drop ((k + 1) * W) = E.drop (k * W) := by
      rw [List.drop_append, List.drop_of_length_le (by omega), List.nil_append, hl, h1, Nat.add_sub_cancel]
    rw [e] at this
    exact this
theorem BlkS.last {W : Nat} {E : List α} (h : BlkS key W E) (hl : E.length ≤ W) : SortedK key E := by
  have := h 0
  rw [Nat.zero_mul, List.drop_zero, List.take_of_length_le hl] at this
  exact this
/-- All that stands ahead of one that is no greater is no greater. -/
theorem le_of_last {L : List α} {y x : α} (hL : SortedK key (L ++ [y])) (h : key y ≤ key x) : ∀ z ∈ L ++ [y], key z ≤ key x := fun z hz => by
  rcases List.mem_append.1 hz with hz | hz
  · have := hL.cross z hz y (List.mem_singleton.2 rfl); omega
  · rw [List.mem_singleton.1 hz]; exact h
/-- An element on its way to the left: behind it stand those that are greater. -/
structure InsI (key : α → Int) (L : List α) (x : α) (L1 L2 : List α) : Prop where
  eq : L = L1 ++ L2
  gt : ∀ z ∈ L2, key x < key z
theorem InsI.start (L : List α) (x : α) : InsI key L x L [] := ⟨by simp, fun z hz => by simp at hz⟩
theorem InsI.step {L : List α} {x y : α} {L1 L2 : List α} (h : InsI key L x (L1 ++ [y]) L2) (hy : key x < key y) : InsI key L x L1 (y :: L2) :=
  ⟨by rw [h.eq]; simp, fun z hz => by
    rcases List.mem_cons.1 hz with rfl | hz
    · exact hy
    · exact h.gt z hz⟩
theorem InsI.stop {L : List α} {x : α} {L1 L2 : List α} (h : InsI key L x L1 L2) (hL : SortedK key L) (h1 : ∀ z ∈ L1, key z ≤ key x) : SortedK key (L1 ++ x :: L2) ∧ SameK key (L ++ [x]) (L1 ++ x :: L2) := by
  have hL' := hL
  rw [h.eq] at hL'
  have := merge_right hL' h1 h.gt
  rw [← h.eq] at this
  exact this
end
end Go.Proofs.Ytponbodiibkopaa
