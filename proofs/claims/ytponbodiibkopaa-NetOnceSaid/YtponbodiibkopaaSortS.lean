/-
  Picking the first of the least, again and again: it comes to the stable sort of those that are due. Plain.
-/
import Derived.Test.YtponbodiibkopaaSortB
namespace Go.Proofs.Ytponbodiibkopaa
set_option linter.unusedVariables false

section
variable {α : Type} {key : α → Int} {now : Int}
def dueL (key : α → Int) (now : Int) (xs : List α) : List α := xs.filter (fun x => decide (key x ≤ now))
def leftL (key : α → Int) (now : Int) (xs : List α) : List α := xs.filter (fun x => !decide (key x ≤ now))
theorem dueL_append (xs ys : List α) : dueL key now (xs ++ ys) = dueL key now xs ++ dueL key now ys := by simp [dueL]
theorem leftL_append (xs ys : List α) : leftL key now (xs ++ ys) = leftL key now xs ++ leftL key now ys := by simp [leftL]
theorem mem_dueL {x : α} {xs : List α} : x ∈ dueL key now xs ↔ x ∈ xs ∧ key x ≤ now := by simp [dueL]
/-- The first of the least that is due: nothing, or its place. -/
def IsBest (key : α → Int) (now : Int) (xs : List α) : Option Nat → Prop
  | none => ∀ x ∈ xs, now < key x
  | some p => ∃ y, xs[p]? = some y ∧ key y ≤ now ∧ ∀ q z, xs[q]? = some z → key z ≤ now → key y ≤ key z ∧ (q < p → key y < key z)
theorem IsBest.nil : IsBest key now [] none := fun x hx => by simp at hx
theorem IsBest.late {xs : List α} {o : Option Nat} {y : α} (h : IsBest key now xs o) (hy : now < key y) : IsBest key now (xs ++ [y]) o := by
  cases o with
  | none => exact fun x hx => (List.mem_append.1 hx).elim (h x) (fun h9 => by rw [List.mem_singleton.1 h9]; exact hy)
  | some p =>
    obtain ⟨b, h1, h2, h3⟩ := h
    have hp := (List.getElem?_eq_some_iff.1 h1).1
    refine ⟨b, by rw [List.getElem?_append_left hp]; exact h1, h2, fun q z hz hk => ?_⟩
    rcases Nat.lt_or_ge q xs.length with hq | hq
    · rw [List.getElem?_append_left hq] at hz; exact h3 q z hz hk
    · rw [List.getElem?_append_right hq] at hz
      rcases hj : q - xs.length with _ | j
      · rw [hj] at hz; obtain rfl : y = z := by simpa using hz
        omega
      · rw [hj] at hz; simp at hz
theorem IsBest.keep {xs : List α} {p : Nat} {y b : α} (h : IsBest key now xs (some p)) (hb : xs[p]? = some b) (hy : ¬ key y < key b) : IsBest key now (xs ++ [y]) (some p) := by
  obtain ⟨b', h1, h2, h3⟩ := h
  rw [hb] at h1
  obtain rfl := Option.some.inj h1
  have hp := (List.getElem?_eq_some_iff.1 hb).1
  refine ⟨b, by rw [List.getElem?_append_left hp]; exact hb, h2, fun q z hz hk => ?_⟩
  rcases Nat.lt_or_ge q xs.length with hq | hq
  · rw [List.getElem?_append_left hq] at hz; exact h3 q z hz hk
  · rw [List.getElem?_append_right hq] at hz
    rcases hj : q - xs.length with _ | j
    · rw [hj] at hz; obtain rfl : y = z := by simpa using hz
      exact ⟨by omega, fun h9 => by omega⟩
    · rw [hj] at hz; simp at hz
theorem IsBest.first {xs : List α} {y : α} (h : IsBest key now xs none) (hy : key y ≤ now) : IsBest key now (xs ++ [y]) (some xs.length) := by
  refine ⟨y, by simp, hy, fun q z hz hk => ?_⟩
  rcases Nat.lt_or_ge q xs.length with hq | hq
  · rw [List.getElem?_append_left hq] at hz
    have := h z (List.mem_of_getElem? hz); omega
  · rw [List.getElem?_append_right hq] at hz
    rcases hj : q - xs.length with _ | j
    · rw [hj] at hz; obtain rfl : y = z := by simpa using hz
      exact ⟨Int.le_refl _, fun h9 => by omega⟩
    · rw [hj] at hz; simp at hz
theorem IsBest.less {xs : List α} {p : Nat} {y b : α} (h : IsBest key now xs (some p)) (hb : xs[p]? = some b) (hy : key y ≤ now) (hl : key y < key b) : IsBest key now (xs ++ [y]) (some xs.length) := by
  obtain ⟨b', h1, h2, h3⟩ := h
  rw [hb] at h1
  obtain rfl := Option.some.inj h1
  refine ⟨y, by simp, hy, fun q z hz hk => ?_⟩
  rcases Nat.lt_or_ge q xs.length with hq | hq
  · rw [List.getElem?_append_left hq] at hz
    have := (h3 q z hz hk).1
    exact ⟨by omega, fun _ => by omega⟩
  · rw [List.getElem?_append_right hq] at hz
    rcases hj : q - xs.length with _ | j
    · rw [hj] at hz; obtain rfl : y = z := by simpa using hz
      exact ⟨Int.le_refl _, fun h9 => by omega⟩
    · rw [hj] at hz; simp at hz
/-- What has been picked, and what is left. -/
structure SelI (key : α → Int) (now : Int) (xs0 D left : List α) : Prop where
  sorted : SortedK key D
  le : ∀ d ∈ D, ∀ z ∈ left, key z ≤ now → key d ≤ key z
  same : ∀ k, ofK key k (dueL key now xs0) = ofK key k D ++ ofK key k (dueL key now left)
  rest : leftL key now left = leftL key now xs0
  cnt : D.length + left.length = xs0.length
theorem SelI.start (xs0 : List α) : SelI key now xs0 [] xs0 := ⟨SortedK.nil, fun d hd => by simp at hd, fun k => by simp [ofK], rfl, by simp⟩
theorem SelI.step {xs0 D left : List α} {p : Nat} {y : α} (h : SelI key now xs0 D left) (hb : IsBest key now left (some p)) (hy : left[p]? = some y) : SelI key now xs0 (D ++ [y]) (left.take p ++ left.drop (p + 1)) := by
  obtain ⟨y', h1, h2, h3⟩ := hb
  rw [hy] at h1
  obtain rfl := Option.some.inj h1
  have hp := (List.getElem?_eq_some_iff.1 hy).1
  have e : left = left.take p ++ y :: left.drop (p + 1) := by
    conv => lhs; rw [← List.take_append_drop p left]
    rw [List.drop_eq_getElem_cons hp, (List.getElem?_eq_some_iff.1 hy).2]
  have hbefore : ∀ z ∈ left.take p, key z ≤ now → key y < key z := fun z hz hk => by
    obtain ⟨q, hq, hqz⟩ := List.getElem_of_mem hz
    rw [List.length_take] at hq
    have hzq : left[q]? = some z := by
      rw [List.getElem_take] at hqz
      rw [List.getElem?_eq_getElem (by omega), hqz]
    exact (h3 q z hzq hk).2 (by omega)
  have hall : ∀ z ∈ left, key z ≤ now → key y ≤ key z := fun z hz hk => by
    obtain ⟨q, hq, hqz⟩ := List.getElem_of_mem hz
    exact (h3 q z (by rw [List.getElem?_eq_getElem hq, hqz]) hk).1
  have hsub : ∀ z ∈ left.take p ++ left.drop (p + 1), z ∈ left := fun z hz => (List.mem_append.1 hz).elim List.mem_of_mem_take List.mem_of_mem_drop
  refine ⟨h.sorted.append (SortedK.one y) fun d hd z hz => ?_, fun d hd z hz hk => ?_, fun k => ?_, ?_, ?_⟩
  · rw [List.mem_singleton.1 hz]; exact h.le d hd y (List.mem_of_getElem? hy) h2
  · rcases List.mem_append.1 hd with hd | hd
    · exact h.le d hd z (hsub z hz) hk
    · rw [List.mem_singleton.1 hd]; exact hall z (hsub z hz) hk
  · have hd1 : dueL key now left = dueL key now (left.take p) ++ y :: dueL key now (left.drop (p + 1)) := by
      conv => lhs; rw [e]
      rw [dueL_append]
      congr 1
      simp [dueL, h2]
    rw [h.same k, hd1, ofK_append, ofK_append, ofK_cons, dueL_append, ofK_append]
    by_cases hk : key y = k
    · rw [if_pos hk, ofK_nil key (xs := dueL key now (left.take p)) (fun z hz e9 => by
        have hz' := mem_dueL.1 hz
        have := hbefore z hz'.1 hz'.2
        omega)]
      simp [ofK, hk]
    · rw [if_neg hk]
      simp [ofK, hk]
  · rw [← h.rest]
    conv => rhs; rw [e]
    rw [leftL_append, leftL_append]
    congr 1
    simp [leftL, h2]
  · have := h.cnt
    rw [List.length_append, List.length_append, List.length_take, List.length_drop, List.length_singleton]
    omega
theorem SelI.stop {xs0 D left : List α} (h : SelI key now xs0 D left) (hb : IsBest key now left none) : SortedK key D ∧ SameK key (dueL key now xs0) D ∧ left = leftL key now xs0 := by
  have hd : dueL key now left = [] := by
    rw [List.eq_nil_iff_forall_not_mem]
    intro x hx
    have hx' := mem_dueL.1 hx
    have := hb x hx'.1; omega
  refine ⟨h.sorted, fun k => ?_, ?_⟩
  · rw [h.same k, hd]; simp [ofK]
  · rw [← h.rest]
    unfold leftL
    rw [List.filter_eq_self.2]
    intro x hx
    have := hb x hx
    simp; omega
end
end Go.Proofs.Ytponbodiibkopaa
