/-
  StoreSwap: the plain law (the walk is still to come).
-/
import Derived.Test.YtcmdmmphakclmaaStoreK
namespace Go.Proofs.Ytcmdmmphakclmaa
open Go.RowKit Go.Sort
set_option linter.unusedVariables false

/-- The letter is its sender's next one. -/
def goesIn (s : St) (l : Lt) : Prop := keepLt l = true ∧ l.fr < s.last.length ∧ l.to < s.last.length ∧ lastOf s l.fr < l.sq ∧ l.sq - lastOf s l.fr = 1
open Classical in
theorem putS_eq (s : St) (l : Lt) : (putS s l).1 = if goesIn s l then putIn s l else s := by
  unfold putS goesIn
  by_cases h : keepLt l = true ∧ l.fr < s.last.length ∧ l.to < s.last.length
  · rw [if_pos h]
    by_cases h1 : l.sq ≤ lastOf s l.fr
    · rw [if_pos h1, if_neg (fun h' => by omega)]
    · rw [if_neg h1]
      by_cases h2 : l.sq - lastOf s l.fr = 1
      · rw [if_pos h2, if_pos ⟨h.1, h.2.1, h.2.2, by omega, h2⟩]
      · rw [if_neg h2, if_neg (fun h' => h2 h'.2.2.2.2)]
  · rw [if_neg h, if_neg (fun h' => h ⟨h'.1, h'.2.1, h'.2.2.1⟩)]
theorem lastOf_far {s : St} {l m : Lt} (hl : keepLt l = true) (hm : keepLt m = true) (h : l.fr ≠ m.fr) : lastOf (putIn s l) m.fr = lastOf s m.fr := by
  obtain ⟨_, h1, _⟩ := keep_bounds hl
  obtain ⟨_, h2, _⟩ := keep_bounds hm
  unfold lastOf putIn
  simp only [List.getD_eq_getElem?_getD]
  rw [List.getElem?_set_ne (by omega)]
theorem goesIn_far {s : St} {l m : Lt} (hl : keepLt l = true) (h : l.fr ≠ m.fr) : goesIn (putIn s l) m ↔ goesIn s m := by
  unfold goesIn
  by_cases hm : keepLt m = true
  · rw [lastOf_far hl hm h]
    simp [putIn]
  · simp [hm]
/-- The told number, by itself. -/
theorem putS_code {s : St} {l m : Lt} (hl : keepLt l = true) (h : l.fr ≠ m.fr) : (putS (putIn s l) m).2 = (putS s m).2 := by
  unfold putS
  by_cases hm : keepLt m = true
  · rw [lastOf_far hl hm h]
    simp only [putIn, List.length_set]
    repeat' split
    all_goals rfl
  · rw [if_neg (fun h => hm h.1), if_neg (fun h => hm h.1)]
theorem box_far {s : St} {l : Lt} {t : Nat} (h : l.to.toNat ≠ t) : (putIn s l).boxes[t]? = s.boxes[t]? := by
  unfold putIn; simp only; rw [List.getElem?_set_ne h]
theorem filter_swap {α : Type} {p : α → Bool} (xs : List α) {a b : α} (h : ¬ (p a = true ∧ p b = true)) : ((xs ++ [a]) ++ [b]).filter p = ((xs ++ [b]) ++ [a]).filter p := by
  simp only [List.filter_append, List.append_assoc]
  congr 1
  cases ha : p a <;> cases hb : p b <;> simp_all
/-- Both go in: the numbers are the same; of each sender's letters each box has the same in the same order. -/
theorem swap_in {s : St} {l m : Lt} (hl : keepLt l = true) (hm : keepLt m = true) (h : l.fr ≠ m.fr) (hlt : l.to < s.boxes.length) (hmt : m.to < s.boxes.length) :
    (putIn (putIn s l) m).last = (putIn (putIn s m) l).last ∧ (putIn (putIn s l) m).boxes.length = (putIn (putIn s m) l).boxes.length ∧
    ∀ (t : Nat) (f : Int), ((putIn (putIn s l) m).boxes.getD t []).filter (fun z => decide (z.fr = f)) = ((putIn (putIn s m) l).boxes.getD t []).filter (fun z => decide (z.fr = f)) := by
  obtain ⟨_, h1, _, h3, _⟩ := keep_bounds hl
  obtain ⟨_, h2, _, h4, _⟩ := keep_bounds hm
  refine ⟨?_, by simp [putIn], fun t f => ?_⟩
  · simp only [putIn]
    rw [List.set_comm _ _ (by omega)]
  · simp only [putIn, boxOf, List.getD_eq_getElem?_getD, List.getElem?_set]
    by_cases e : l.to.toNat = m.to.toNat
    · rw [e]
      by_cases e2 : m.to.toNat = t
      · subst e2
        have : m.to.toNat < s.boxes.length := by omega
        simp [this]
        have := filter_swap (p := fun z : Lt => decide (z.fr = f)) (s.boxes[m.to.toNat]) (a := l) (b := m) (by simp; omega)
        simpa using this
      · simp [e2]
    · have e' : ¬ m.to.toNat = l.to.toNat := fun h => e h.symm
      by_cases e2 : m.to.toNat = t
      · subst e2
        simp [e, e']
      · by_cases e3 : l.to.toNat = t
        · subst e3; simp [e, e']
        · simp [e2, e3]
theorem putR_ok {s : St} (hc : checkB s = true) (l : Lt) : putR s l = ((putS s l).1, (putS s l).2, 0) := by unfold putR; rw [if_pos hc]
theorem check_putS {s : St} (hc : checkB s = true) (l : Lt) : checkB (putS s l).1 = true := by
  rcases putS_cases s l with h | h | ⟨h1, h2, h3, _, _, h6⟩
  · rw [h]; exact hc
  · rw [h]; exact hc
  · rw [h6]; exact check_putIn hc h1 h2 h3
/-- A letter behind another sender's: the same number is told, and it goes in just if it did before. -/
theorem far_code {s : St} {l m : Lt} (h : l.fr ≠ m.fr) : (putS (putS s l).1 m).2 = (putS s m).2 := by
  rcases putS_cases s l with e | e | ⟨h1, h2, h3, _, _, h6⟩
  · rw [e]
  · rw [e]
  · rw [h6]; exact putS_code h1 h
/-- What both orders come to. -/
def SwapEq (a b : St) : Prop := a.last = b.last ∧ a.boxes.length = b.boxes.length ∧ ∀ (t : Nat) (f : Int), (a.boxes.getD t []).filter (fun z => decide (z.fr = f)) = (b.boxes.getD t []).filter (fun z => decide (z.fr = f))
theorem SwapEq.rfl' (a : St) : SwapEq a a := ⟨rfl, rfl, fun _ _ => rfl⟩
open Classical in
theorem swap_st {s : St} (hc : checkB s = true) {l m : Lt} (h : l.fr ≠ m.fr) : SwapEq (putS (putS s l).1 m).1 (putS (putS s m).1 l).1 := by
  obtain ⟨_, _, hpm⟩ := check_lens hc
  by_cases hl : goesIn s l
  · by_cases hm : goesIn s m
    · rw [putS_eq s l, putS_eq s m, if_pos hl, if_pos hm, putS_eq, putS_eq, if_pos ((goesIn_far hl.1 h).2 hm), if_pos ((goesIn_far hm.1 (fun e => h e.symm)).2 hl)]
      exact swap_in hl.1 hm.1 h (by have := hl.2.2.1; omega) (by have := hm.2.2.1; omega)
    · rw [putS_eq s l, putS_eq s m, if_pos hl, if_neg hm, putS_eq, putS_eq s l, if_neg (fun h' => hm ((goesIn_far hl.1 h).1 h')), if_pos hl]
      exact SwapEq.rfl' _
  · by_cases hm : goesIn s m
    · rw [putS_eq s l, putS_eq s m, if_neg hl, if_pos hm, putS_eq s m, putS_eq, if_pos hm, if_neg (fun h' => hl ((goesIn_far hm.1 (fun e => h e.symm)).1 h'))]
      exact SwapEq.rfl' _
    · rw [putS_eq s l, putS_eq s m, if_neg hl, if_neg hm, putS_eq s m, putS_eq s l, if_neg hl, if_neg hm]
      exact SwapEq.rfl' _
/-- The law, with no program in sight. -/
theorem swap_pure {s : St} (hc : checkB s = true) {l m : Lt} (h : l.fr ≠ m.fr) : ∃ a1 p a2 q b1 b2, putR s l = (a1, p, 0) ∧ putR a1 m = (a2, q, 0) ∧ putR s m = (b1, q, 0) ∧ putR b1 l = (b2, p, 0) ∧ SwapEq a2 b2 := by
  refine ⟨_, _, _, _, _, _, putR_ok hc l, ?_, putR_ok hc m, ?_, swap_st hc h⟩
  · rw [putR_ok (check_putS hc l), far_code h]
  · rw [putR_ok (check_putS hc m), far_code (fun e => h e.symm)]
end Go.Proofs.Ytcmdmmphakclmaa
