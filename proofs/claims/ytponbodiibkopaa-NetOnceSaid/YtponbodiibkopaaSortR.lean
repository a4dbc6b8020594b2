/-
  rotate and swapRange: what they come to. Plain.
-/
import Derived.Test.YtponbodiibkopaaSortQ
namespace Go.Proofs.Ytponbodiibkopaa
set_option linter.unusedVariables false

section
variable {α : Type}
theorem swap_at (X Y Z : List α) (x y : α) : ((X ++ x :: (Y ++ y :: Z)).set X.length y).set (X.length + 1 + Y.length) x = X ++ y :: (Y ++ x :: Z) := by
  have e1 : (X ++ x :: (Y ++ y :: Z)).set X.length y = X ++ y :: (Y ++ y :: Z) := by
    rw [List.set_append_right _ _ (Nat.le_refl _), Nat.sub_self]; rfl
  rw [e1, List.set_append_right _ _ (by omega), show X.length + 1 + Y.length - X.length = Y.length + 1 by omega, List.set_cons_succ, List.set_append_right _ _ (Nat.le_refl _), Nat.sub_self]
  rfl
theorem get_first (X Y Z : List α) (x y : α) : (X ++ x :: (Y ++ y :: Z))[X.length]? = some x := by
  rw [List.getElem?_append_right (Nat.le_refl _), Nat.sub_self]; rfl
theorem get_second (X Y Z : List α) (x y : α) : (X ++ x :: (Y ++ y :: Z))[X.length + 1 + Y.length]? = some y := by
  rw [List.getElem?_append_right (by omega), show X.length + 1 + Y.length - X.length = Y.length + 1 by omega, List.getElem?_cons_succ, List.getElem?_append_right (Nat.le_refl _), Nat.sub_self]; rfl
/-- swapRange's list behind k rounds. -/
def swpL (P S1 M S2 Q : List α) (k : Nat) : List α := P ++ S2.take k ++ S1.drop k ++ M ++ S1.take k ++ S2.drop k ++ Q
theorem swpL_zero (P S1 M S2 Q : List α) : swpL P S1 M S2 Q 0 = P ++ S1 ++ M ++ S2 ++ Q := by simp [swpL]
theorem swpL_all {P S1 M S2 Q : List α} {n : Nat} (h1 : S1.length = n) (h2 : S2.length = n) : swpL P S1 M S2 Q n = P ++ S2 ++ M ++ S1 ++ Q := by
  unfold swpL
  rw [List.take_of_length_le (by omega), List.take_of_length_le (by omega), List.drop_of_length_le (by omega), List.drop_of_length_le (by omega)]
  simp
theorem swpL_step {P S1 M S2 Q : List α} {n k : Nat} (h1 : S1.length = n) (h2 : S2.length = n) (hk : k < n) :
    ∃ x y, (swpL P S1 M S2 Q k)[P.length + k]? = some x ∧ (swpL P S1 M S2 Q k)[P.length + n + M.length + k]? = some y ∧ ((swpL P S1 M S2 Q k).set (P.length + k) y).set (P.length + n + M.length + k) x = swpL P S1 M S2 Q (k + 1) := by
  have d1 : S1.drop k = S1[k]'(by omega) :: S1.drop (k + 1) := List.drop_eq_getElem_cons (by omega)
  have d2 : S2.drop k = S2[k]'(by omega) :: S2.drop (k + 1) := List.drop_eq_getElem_cons (by omega)
  have t1 : S1.take (k + 1) = S1.take k ++ [S1[k]'(by omega)] := List.take_succ_eq_append_getElem (by omega)
  have t2 : S2.take (k + 1) = S2.take k ++ [S2[k]'(by omega)] := List.take_succ_eq_append_getElem (by omega)
  generalize S1[k]'(by omega) = x at *
  generalize S2[k]'(by omega) = y at *
  have l1 : (S1.take k).length = k := by rw [List.length_take]; omega
  have l2 : (S2.take k).length = k := by rw [List.length_take]; omega
  have l3 : (S1.drop (k + 1)).length = n - (k + 1) := by rw [List.length_drop]; omega
  have e : swpL P S1 M S2 Q k = (P ++ S2.take k) ++ x :: ((S1.drop (k + 1) ++ M ++ S1.take k) ++ y :: (S2.drop (k + 1) ++ Q)) := by
    unfold swpL; rw [d1, d2]; simp
  have i1 : (P ++ S2.take k).length = P.length + k := by rw [List.length_append, l2]
  have i2 : (P ++ S2.take k).length + 1 + (S1.drop (k + 1) ++ M ++ S1.take k).length = P.length + n + M.length + k := by
    rw [i1, List.length_append, List.length_append, l1, l3]; omega
  refine ⟨x, y, ?_, ?_, ?_⟩
  · rw [e, ← i1]; exact get_first _ _ _ _ _
  · rw [e, ← i2]; exact get_second _ _ _ _ _
  · rw [e, ← i1, ← i2, swap_at]
    unfold swpL
    rw [t1, t2]
    simp
/-- rotate at its loop's head: what is done stands at both ends. -/
structure RotI (L R : List α) (i j : Nat) (D1 U V D2 : List α) : Prop where
  u : U.length = i
  v : V.length = j
  goal : R ++ L = D1 ++ V ++ U ++ D2
  end1 : D1.length + i = L.length
  end2 : j + D2.length = R.length
theorem RotI.start (L R : List α) : RotI L R L.length R.length [] L R [] := ⟨rfl, rfl, by simp, by simp, by simp⟩
/-- The left part is the longer one. -/
theorem RotI.left {L R : List α} {i j : Nat} {D1 U V D2 : List α} (h : RotI L R i j D1 U V D2) (hij : j < i) : RotI L R (i - j) j (D1 ++ V) (U.drop j) (U.take j) D2 ∧ D1 ++ U ++ V ++ D2 = D1 ++ U.take j ++ U.drop j ++ V ++ D2 ∧ (U.take j).length = j ∧ (U.drop j).length = i - j := by
  have hu := h.u; have hv := h.v; have e1 := h.end1; have e2 := h.end2
  refine ⟨⟨by rw [List.length_drop]; omega, by rw [List.length_take]; omega, ?_, by rw [List.length_append]; omega, e2⟩, by simp, by rw [List.length_take]; omega, by rw [List.length_drop]; omega⟩
  rw [h.goal]
  simp
/-- The right part is the longer one. -/
theorem RotI.right {L R : List α} {i j : Nat} {D1 U V D2 : List α} (h : RotI L R i j D1 U V D2) (hij : i < j) : RotI L R i (j - i) D1 (V.drop (j - i)) (V.take (j - i)) (U ++ D2) ∧ D1 ++ U ++ V ++ D2 = D1 ++ U ++ V.take (j - i) ++ V.drop (j - i) ++ D2 ∧ (V.take (j - i)).length = j - i ∧ (V.drop (j - i)).length = i := by
  have hu := h.u; have hv := h.v; have e1 := h.end1; have e2 := h.end2
  refine ⟨⟨by rw [List.length_drop]; omega, by rw [List.length_take]; omega, ?_, e1, by rw [List.length_append]; omega⟩, by simp, by rw [List.length_take]; omega, by rw [List.length_drop]; omega⟩
  rw [h.goal]
  simp
end
end Go.Proofs.Ytponbodiibkopaa
