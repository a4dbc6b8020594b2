/-
  Stable sorting: what it comes to. Plain.
-/
import Derived.Test.YtponbodiibkopaaBase
namespace Go.Proofs.Ytponbodiibkopaa
set_option linter.unusedVariables false

section
variable {α : Type} (key : α → Int)
def SortedK (xs : List α) : Prop := xs.Pairwise (fun a b => key a ≤ key b)
def ofK (k : Int) (xs : List α) : List α := xs.filter (fun x => decide (key x = k))
/-- The same elements of each key, in the same order. -/
def SameK (xs ys : List α) : Prop := ∀ k : Int, ofK key k xs = ofK key k ys
theorem ofK_append (k : Int) (xs ys : List α) : ofK key k (xs ++ ys) = ofK key k xs ++ ofK key k ys := by simp [ofK]
theorem ofK_cons (k : Int) (x : α) (xs : List α) : ofK key k (x :: xs) = if key x = k then x :: ofK key k xs else ofK key k xs := by
  unfold ofK; rw [List.filter_cons]; by_cases h : key x = k <;> simp [h]
theorem mem_ofK {k : Int} {x : α} {xs : List α} : x ∈ ofK key k xs ↔ x ∈ xs ∧ key x = k := by simp [ofK]
theorem ofK_nil {k : Int} {xs : List α} (h : ∀ x ∈ xs, key x ≠ k) : ofK key k xs = [] := by
  rw [List.eq_nil_iff_forall_not_mem]
  intro x hx
  exact h x ((mem_ofK key).1 hx).1 ((mem_ofK key).1 hx).2
variable {key}
theorem SameK.refl (xs : List α) : SameK key xs xs := fun _ => rfl
theorem SameK.symm {xs ys : List α} (h : SameK key xs ys) : SameK key ys xs := fun k => (h k).symm
theorem SameK.trans {xs ys zs : List α} (h : SameK key xs ys) (h' : SameK key ys zs) : SameK key xs zs := fun k => (h k).trans (h' k)
theorem SameK.append {xs ys xs' ys' : List α} (h : SameK key xs ys) (h' : SameK key xs' ys') : SameK key (xs ++ xs') (ys ++ ys') := fun k => by rw [ofK_append, ofK_append, h k, h' k]
theorem SameK.mem {xs ys : List α} (h : SameK key xs ys) {x : α} (hx : x ∈ xs) : x ∈ ys := by
  have : x ∈ ofK key (key x) xs := (mem_ofK key).2 ⟨hx, rfl⟩
  rw [h] at this
  exact ((mem_ofK key).1 this).1
/-- Two parts without a key in common change places. -/
theorem SameK.swap {L R : List α} (h : ∀ x ∈ L, ∀ y ∈ R, key x ≠ key y) : SameK key (L ++ R) (R ++ L) := fun k => by
  rw [ofK_append, ofK_append]
  by_cases hL : ∃ x ∈ L, key x = k
  · obtain ⟨x, hx, hk⟩ := hL
    rw [ofK_nil key (xs := R) (fun y hy e => h x hx y hy (by rw [hk, e]))]
    simp
  · rw [ofK_nil key (xs := L) (fun x hx e => hL ⟨x, hx, e⟩)]
    simp
theorem SameK.rot {L1 L2 R1 R2 : List α} (h : ∀ x ∈ L2, ∀ y ∈ R1, key y < key x) : SameK key (L1 ++ L2 ++ (R1 ++ R2)) (L1 ++ R1 ++ (L2 ++ R2)) := by
  have h1 : SameK key (L2 ++ R1) (R1 ++ L2) := SameK.swap (fun x hx y hy e => by have := h x hx y hy; omega)
  have h2 := ((SameK.refl (key := key) L1).append h1).append (SameK.refl R2)
  have e1 : L1 ++ L2 ++ (R1 ++ R2) = L1 ++ (L2 ++ R1) ++ R2 := by simp
  have e2 : L1 ++ R1 ++ (L2 ++ R2) = L1 ++ (R1 ++ L2) ++ R2 := by simp
  rw [e1, e2]
  exact h2
theorem SortedK.nil : SortedK key [] := List.Pairwise.nil
theorem SortedK.one (x : α) : SortedK key [x] := List.pairwise_singleton _ _
theorem SortedK.append {xs ys : List α} (h1 : SortedK key xs) (h2 : SortedK key ys) (h : ∀ x ∈ xs, ∀ y ∈ ys, key x ≤ key y) : SortedK key (xs ++ ys) := List.pairwise_append.2 ⟨h1, h2, h⟩
theorem SortedK.left {xs ys : List α} (h : SortedK key (xs ++ ys)) : SortedK key xs := (List.pairwise_append.1 h).1
theorem SortedK.right {xs ys : List α} (h : SortedK key (xs ++ ys)) : SortedK key ys := (List.pairwise_append.1 h).2.1
theorem SortedK.cross {xs ys : List α} (h : SortedK key (xs ++ ys)) : ∀ x ∈ xs, ∀ y ∈ ys, key x ≤ key y := (List.pairwise_append.1 h).2.2
/-- Sorted, and of each key the same: the same list. -/
theorem sorted_unique : ∀ {xs ys : List α}, SortedK key xs → SortedK key ys → SameK key xs ys → xs = ys
  | [], ys, _, _, h => by
    rcases ys with _ | ⟨y, r⟩
    · rfl
    · have := h.symm.mem (List.mem_cons_self (a := y) (l := r)); simp at this
  | x :: xs, [], _, _, h => by have := h.mem (List.mem_cons_self (a := x) (l := xs)); simp at this
  | x :: xs, y :: ys, h1, h2, h => by
    have hx : key y ≤ key x := by
      rcases List.mem_cons.1 (h.mem (List.mem_cons_self (a := x) (l := xs))) with e | hm
      · rw [e]; exact Int.le_refl _
      · exact (List.pairwise_cons.1 h2).1 x hm
    have hy : key x ≤ key y := by
      rcases List.mem_cons.1 (h.symm.mem (List.mem_cons_self (a := y) (l := ys))) with e | hm
      · rw [e]; exact Int.le_refl _
      · exact (List.pairwise_cons.1 h1).1 y hm
    have hk : key x = key y := by omega
    have h0 := h (key x)
    rw [ofK_cons, ofK_cons, if_pos rfl, if_pos hk.symm] at h0
    injection h0 with e1 e2
    subst e1
    congr 1
    refine sorted_unique (List.pairwise_cons.1 h1).2 (List.pairwise_cons.1 h2).2 fun k => ?_
    have h9 := h k
    rw [ofK_cons, ofK_cons] at h9
    split at h9
    · injection h9
    · exact h9
/-- What symMerge comes to, put together: both halves sorted, the rotation between them. -/
theorem merge_join {L1 L2 R1 R2 A B : List α} (hL : SortedK key (L1 ++ L2)) (hR : SortedK key (R1 ++ R2)) (hlt : ∀ x ∈ L2, ∀ y ∈ R1, key y < key x) (hle : ∀ x ∈ L1, ∀ y ∈ R2, key x ≤ key y)
    (hA : SortedK key A) (hA2 : SameK key (L1 ++ R1) A) (hB : SortedK key B) (hB2 : SameK key (L2 ++ R2) B) : SortedK key (A ++ B) ∧ SameK key (L1 ++ L2 ++ (R1 ++ R2)) (A ++ B) := by
  refine ⟨hA.append hB fun x hx y hy => ?_, (SameK.rot hlt).trans (hA2.append hB2)⟩
  rcases List.mem_append.1 (hA2.symm.mem hx) with hx | hx <;> rcases List.mem_append.1 (hB2.symm.mem hy) with hy | hy
  · exact hL.cross x hx y hy
  · exact hle x hx y hy
  · have := hlt y hy x hx; omega
  · exact hR.cross x hx y hy
/-- One element on the left: it goes behind those that are less. -/
theorem merge_left {x : α} {R1 R2 : List α} (hR : SortedK key (R1 ++ R2)) (h1 : ∀ y ∈ R1, key y < key x) (h2 : ∀ y ∈ R2, key x ≤ key y) : SortedK key (R1 ++ x :: R2) ∧ SameK key (x :: (R1 ++ R2)) (R1 ++ x :: R2) := by
  refine ⟨hR.left.append (List.pairwise_cons.2 ⟨h2, hR.right⟩) fun y hy z hz => ?_, ?_⟩
  · rcases List.mem_cons.1 hz with rfl | hz
    · have := h1 y hy; omega
    · exact hR.cross y hy z hz
  · have h9 : SameK key ([x] ++ R1) (R1 ++ [x]) := SameK.swap (fun a ha y hy e => by obtain rfl := List.mem_singleton.1 ha; have := h1 y hy; omega)
    have h8 := h9.append (SameK.refl R2)
    simpa using h8
/-- One element on the right: it goes ahead of those that are greater. -/
theorem merge_right {y : α} {L1 L2 : List α} (hL : SortedK key (L1 ++ L2)) (h1 : ∀ x ∈ L1, key x ≤ key y) (h2 : ∀ x ∈ L2, key y < key x) : SortedK key (L1 ++ y :: L2) ∧ SameK key (L1 ++ L2 ++ [y]) (L1 ++ y :: L2) := by
  refine ⟨hL.left.append (List.pairwise_cons.2 ⟨fun x hx => by have := h2 x hx; omega, hL.right⟩) fun x hx z hz => ?_, ?_⟩
  · rcases List.mem_cons.1 hz with rfl | hz
    · exact h1 x hx
    · exact hL.cross x hx z hz
  · have h9 : SameK key (L2 ++ [y]) ([y] ++ L2) := SameK.swap (fun x hx a ha e => by obtain rfl := List.mem_singleton.1 ha; have := h2 x hx; omega)
    have h8 := (SameK.refl (key := key) L1).append h9
    simpa using h8
end
end Go.Proofs.Ytponbodiibkopaa
