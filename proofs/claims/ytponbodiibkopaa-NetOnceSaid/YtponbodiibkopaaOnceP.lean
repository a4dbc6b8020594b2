/-
  NetOnce: what is under way, when it arrives. Plain.
-/
import Derived.Test.YtponbodiibkopaaDueN
namespace Go.Proofs.Ytponbodiibkopaa
open Go.RowKit
set_option linter.unusedVariables false

def fateOf (fs : List Int) (i : Nat) : Int := fs.getD i 0
/-- What the i-th sending lays under way. -/
def partI (fs : List Int) (bs : List (List Int)) (i : Nat) : List Fl := sendL i (fateOf fs i) i 0 (bs.getD i [])
/-- All that is under way behind k sendings. -/
def allF (fs : List Int) (bs : List (List Int)) : Nat → List Fl
  | 0 => []
  | k + 1 => allF fs bs k ++ partI fs bs k
theorem atN_small {i : Nat} {f : Int} (hi : i ≤ 1000) (hf : 0 ≤ f) : atN i f = i + 1 + f % 16 := by
  unfold atN wrap64; omega
theorem partI_eq (fs : List Int) (bs : List (List Int)) {i : Nat} (hi : i ≤ 1000) : partI fs bs i = if fateOf fs i < 0 then [] else if fateOf fs i / 16 % 2 = 1 then [⟨i + 1 + fateOf fs i % 16, i, 0, bs.getD i []⟩, ⟨i + 1 + fateOf fs i % 16 + 1, i, 0, bs.getD i []⟩] else [⟨i + 1 + fateOf fs i % 16, i, 0, bs.getD i []⟩] := by
  unfold partI sendL
  by_cases h : fateOf fs i < 0
  · rw [if_pos h, if_pos h]
  · rw [if_neg h, if_neg h, atN_small hi (by omega)]
    have : wrap64 (↑i + 1 + fateOf fs i % 16 + 1) = ↑i + 1 + fateOf fs i % 16 + 1 := by unfold wrap64; omega
    rw [this]
theorem send_all (fs : List Int) (bs : List (List Int)) (k : Nat) {b : List Int} (hb : bs[k]? = some b) : sendN ⟨allF fs bs k, fs.drop k⟩ k k 0 b = ⟨allF fs bs (k + 1), fs.drop (k + 1)⟩ := by
  have h1 : fateN ⟨allF fs bs k, fs.drop k⟩ = fateOf fs k := by
    unfold fateN fateOf
    show (fs.drop k).headD 0 = _
    rw [List.headD_eq_head?_getD, List.head?_drop, List.getD_eq_getElem?_getD]
  have h2 : bs.getD k [] = b := by rw [List.getD_eq_getElem?_getD, hb]; rfl
  unfold sendN
  rw [h1]
  show Nt.mk (allF fs bs k ++ sendL k (fateOf fs k) k 0 b) ((fs.drop k).drop 1) = _
  rw [List.drop_drop]
  show _ = Nt.mk (allF fs bs k ++ sendL k (fateOf fs k) k 0 (bs.getD k [])) (fs.drop (k + 1))
  rw [h2]
theorem partI_len (fs : List Int) (bs : List (List Int)) (i : Nat) : (partI fs bs i).length ≤ 2 := sendL_len _ _ _ _ _
theorem allF_len (fs : List Int) (bs : List (List Int)) : ∀ k, (allF fs bs k).length ≤ 2 * k
  | 0 => by simp [allF]
  | k + 1 => by have := allF_len fs bs k; have := partI_len fs bs k; simp [allF]; omega
theorem partI_mem {fs : List Int} {bs : List (List Int)} {i : Nat} {y : Fl} (h : y ∈ partI fs bs i) : y.fr = i ∧ y.tgt = 0 ∧ y.body = bs.getD i [] := sendL_mem y h
theorem allF_mem {fs : List Int} {bs : List (List Int)} : ∀ {k : Nat} {y : Fl}, y ∈ allF fs bs k → ∃ i, i < k ∧ y ∈ partI fs bs i
  | 0, y, h => by simp [allF] at h
  | k + 1, y, h => by
    unfold allF at h
    rcases List.mem_append.1 h with h | h
    · obtain ⟨i, h1, h2⟩ := allF_mem h; exact ⟨i, by omega, h2⟩
    · exact ⟨k, by omega, h⟩
/-- Those of one sender. -/
theorem allF_of {fs : List Int} {bs : List (List Int)} {i : Nat} : ∀ {k : Nat}, (allF fs bs k).filter (fun y => decide (y.fr = (i : Int))) = if i < k then partI fs bs i else []
  | 0 => by simp [allF]
  | k + 1 => by
    unfold allF
    rw [List.filter_append, allF_of]
    by_cases h : i = k
    · subst h
      have h1 : (partI fs bs i).filter (fun y => decide (y.fr = (i : Int))) = partI fs bs i := List.filter_eq_self.2 fun y hy => by simp [(partI_mem hy).1]
      rw [h1, if_neg (by omega), if_pos (by omega)]; rfl
    · have h1 : (partI fs bs k).filter (fun y => decide (y.fr = (i : Int))) = [] := List.filter_eq_nil_iff.2 fun y hy => by simp [(partI_mem hy).1]; omega
      rw [h1, List.append_nil]
      by_cases h2 : i < k
      · rw [if_pos h2, if_pos (by omega)]
      · rw [if_neg h2, if_neg (by omega)]
theorem part_tm {fs : List Int} {bs : List (List Int)} {i : Nat} (hi : i ≤ 1000) {y : Fl} (h : y ∈ partI fs bs i) : 0 ≤ fateOf fs i ∧ 1 ≤ y.tm ∧ y.tm ≤ i + 17 := by
  rw [partI_eq fs bs hi] at h
  split at h
  · simp at h
  · split at h
    · simp at h
      rcases h with rfl | rfl <;> (dsimp only; omega)
    · simp at h
      subst h; dsimp only; omega
/-- How many of one sender's frames have arrived ahead of a time. -/
def metB (fs : List Int) (bs : List (List Int)) (now : Int) (i : Nat) : Nat := ((partI fs bs i).filter (fun y => decide (y.tm < now))).length
/-- When a frame arrives, as many of its sender's have arrived as its time says; and no other of its sender's arrives then. -/
theorem part_time {fs : List Int} {bs : List (List Int)} {i : Nat} (hi : i ≤ 1000) {y : Fl} (h : y ∈ partI fs bs i) : y.tm = i + 1 + fateOf fs i % 16 + metB fs bs y.tm i ∧ ((partI fs bs i).filter (fun z => decide (z.tm = y.tm))).length = 1 ∧ metB fs bs (y.tm + 1) i = metB fs bs y.tm i + 1 := by
  unfold metB
  rw [partI_eq fs bs hi] at h ⊢
  obtain ⟨X, hX⟩ : ∃ X, (i : Int) + 1 + fateOf fs i % 16 = X := ⟨_, rfl⟩
  rw [hX] at h ⊢
  have a1 : X < X + 1 := by omega
  have a2 : ¬ X + 1 < X := by omega
  have a3 : ¬ X + 1 = X := by omega
  have a4 : ¬ X = X + 1 := by omega
  have a5 : X < X + 1 + 1 := by omega
  have a6 : X + 1 < X + 1 + 1 := by omega
  have a7 : ¬ X < X := by omega
  have a8 : ¬ X + 1 < X + 1 := by omega
  split at h
  · simp at h
  · rename_i h0
    rw [if_neg h0]
    split at h
    · rename_i h1
      rw [if_pos h1]
      simp only [List.mem_cons, List.not_mem_nil, or_false] at h
      rcases h with rfl | rfl
      · simp [List.filter_cons, a1, a2, a3, a7, a8]
      · simp [List.filter_cons, a1, a4, a5, a6, a8]
    · rename_i h1
      rw [if_neg h1]
      simp only [List.mem_cons, List.not_mem_nil, or_false] at h
      subst h
      simp [List.filter_cons, a1, a7]
theorem met_end {fs : List Int} {bs : List (List Int)} {i : Nat} (hi : i ≤ 1000) {now : Int} (h : (i : Int) + 17 < now) : metB fs bs now i = (partI fs bs i).length := by
  unfold metB
  rw [List.filter_eq_self.2]
  intro y hy
  have := (part_tm hi hy).2.2
  simp; omega
theorem met_want (fs : List Int) (bs : List (List Int)) {i : Nat} (hi : i ≤ 1000) : ((partI fs bs i).length : Int) = if fateOf fs i < 0 then 0 else if fateOf fs i / 16 % 2 = 1 then 2 else 1 := by
  rw [partI_eq fs bs hi]
  split
  · simp
  · split <;> simp
theorem met_zero {fs : List Int} {bs : List (List Int)} {i : Nat} (hi : i ≤ 1000) : metB fs bs 0 i = 0 := by
  unfold metB
  rw [List.length_eq_zero_iff, List.filter_eq_nil_iff]
  intro y hy
  have := (part_tm hi hy).2.1
  simp; omega
/-- What is left before a time: all that arrives then or later. -/
def fromT (now : Int) (E : List Fl) : List Fl := E.filter (fun y => decide (now ≤ y.tm))
def atT (now : Int) (E : List Fl) : List Fl := E.filter (fun y => decide (y.tm = now))
theorem left_from (now : Int) (E : List Fl) : leftL Fl.tm now (fromT now E) = fromT (now + 1) E := by
  unfold leftL fromT
  rw [List.filter_filter]
  refine List.filter_congr fun y _ => ?_
  by_cases h : now + 1 ≤ y.tm
  · have h2 : ¬ y.tm ≤ now := by omega
    have h3 : now ≤ y.tm := by omega
    simp [h, h2, h3]
  · have h2 : y.tm ≤ now := by omega
    simp [h, h2]
theorem due_at {now : Int} {E l : List Fl} (h : IsDue now (fromT now E) l) : l = atT now E := by
  have hall : ∀ y ∈ l, y.tm = now := fun y hy => by
    obtain ⟨h1, h2⟩ := h.mem hy
    unfold fromT at h1
    have := (List.mem_filter.1 h1).2
    simp at this; omega
  have h1 : ofK Fl.tm now l = l := List.filter_eq_self.2 fun y hy => by simp [hall y hy]
  rw [← h1, ← h.same now, ofK_due, if_pos (Int.le_refl _)]
  unfold ofK fromT atT
  rw [List.filter_filter]
  refine List.filter_congr fun y _ => ?_
  by_cases h : y.tm = now
  · simp [h]
  · simp [h]
theorem from_zero {fs : List Int} {bs : List (List Int)} {k : Nat} (hk : k ≤ 1000) : fromT 0 (allF fs bs k) = allF fs bs k := by
  unfold fromT
  refine List.filter_eq_self.2 fun y hy => ?_
  obtain ⟨i, h1, h2⟩ := allF_mem hy
  have := (part_tm (by omega) h2).2.1
  simp; omega
theorem from_end {fs : List Int} {bs : List (List Int)} {k : Nat} (hk : k ≤ 1000) : fromT (k + 20) (allF fs bs k) = [] := by
  unfold fromT
  refine List.filter_eq_nil_iff.2 fun y hy => ?_
  obtain ⟨i, h1, h2⟩ := allF_mem hy
  have := (part_tm (by omega) h2).2.2
  simp; omega
/-- What has been met: all ahead of now, and the first j of now's. -/
def metP (fs : List Int) (bs : List (List Int)) (N : Nat) (now : Int) (j : Nat) (i : Nat) : Nat := metB fs bs now i + (((atT now (allF fs bs N)).take j).filter (fun y => decide (y.fr = (i : Int)))).length
theorem filter_swap (fs : List Int) (bs : List (List Int)) (N : Nat) (now : Int) {i : Nat} (hi : i < N) : (atT now (allF fs bs N)).filter (fun y => decide (y.fr = (i : Int))) = (partI fs bs i).filter (fun y => decide (y.tm = now)) := by
  have := allF_of (fs := fs) (bs := bs) (i := i) (k := N)
  rw [if_pos hi] at this
  rw [← this]
  unfold atT
  rw [List.filter_filter, List.filter_filter]
  refine List.filter_congr fun y _ => ?_
  rw [Bool.and_comm]
/-- The step: the j-th of now's. -/
theorem met_step {fs : List Int} {bs : List (List Int)} {N : Nat} (hN : N ≤ 1000) {now : Int} {j : Nat} {y : Fl} (hy : (atT now (allF fs bs N))[j]? = some y) :
    ∃ i, i < N ∧ y.fr = (i : Int) ∧ y.body = bs.getD i [] ∧ y.tm = now ∧ 0 ≤ fateOf fs i ∧ now = i + 1 + fateOf fs i % 16 + metP fs bs N now j i ∧ (∀ i', metP fs bs N now (j + 1) i' = if i' = i then metP fs bs N now j i' + 1 else metP fs bs N now j i') := by
  have hm := List.mem_of_getElem? hy
  have hm2 := List.mem_filter.1 hm
  have htm : y.tm = now := by simpa using hm2.2
  obtain ⟨i, h1, h2⟩ := allF_mem hm2.1
  obtain ⟨e1, e2, e3⟩ := partI_mem h2
  obtain ⟨t1, t2, t3⟩ := part_time (by omega) h2
  have hsucc := take_snoc' hy
  have hstep : ∀ i', metP fs bs N now (j + 1) i' = if i' = i then metP fs bs N now j i' + 1 else metP fs bs N now j i' := fun i' => by
    unfold metP
    rw [hsucc, List.filter_append, List.length_append]
    by_cases h : i' = i
    · subst h; simp [e1]; omega
    · have : ¬ (i : Int) = (i' : Int) := by omega
      simp [e1, h, this]
  -- no other of i's arrives at now
  have hone := filter_swap fs bs N now h1
  have hlen : ((atT now (allF fs bs N)).filter (fun z => decide (z.fr = (i : Int)))).length = 1 := by rw [hone, ← htm]; exact t2
  have hz : (((atT now (allF fs bs N)).take j).filter (fun z => decide (z.fr = (i : Int)))).length = 0 := by
    have h9 : (((atT now (allF fs bs N)).take (j + 1)).filter (fun z => decide (z.fr = (i : Int)))).length ≤ 1 := Nat.le_trans ((List.take_sublist (j + 1) _).filter _).length_le (Nat.le_of_eq hlen)
    rw [hsucc, List.filter_append, List.length_append] at h9
    simp [e1] at h9 ⊢
    omega
  refine ⟨i, h1, e1, e3, htm, (part_tm (by omega) h2).1, ?_, hstep⟩
  unfold metP
  rw [hz, Nat.add_zero, ← htm]; exact t1
theorem met_next {fs : List Int} {bs : List (List Int)} {N : Nat} (hN : N ≤ 1000) {now : Int} {j i : Nat} (hi : i < N) (hj : (atT now (allF fs bs N)).length ≤ j) : metP fs bs N now j i = metP fs bs N (now + 1) 0 i := by
  unfold metP
  rw [List.take_of_length_le hj, filter_swap fs bs N now hi]
  simp only [List.take_zero, List.filter_nil, List.length_nil, Nat.add_zero]
  unfold metB
  induction partI fs bs i with
  | nil => rfl
  | cons y r ih =>
    simp only [List.filter_cons]
    by_cases h1 : y.tm < now
    · have h2 : ¬ y.tm = now := by omega
      have h3 : y.tm < now + 1 := by omega
      simp [h1, h2, h3]; omega
    · by_cases h2 : y.tm = now
      · have h3 : now < now + 1 := by omega
        simp [h2, h3]; omega
      · have h3 : ¬ y.tm < now + 1 := by omega
        simp [h1, h2, h3]; omega
end Go.Proofs.Ytponbodiibkopaa
