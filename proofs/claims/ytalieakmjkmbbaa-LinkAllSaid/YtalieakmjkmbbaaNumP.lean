/-
  LinkNumbers: the plain law.
-/
import Derived.Test.YtalieakmjkmbbaaLive
namespace Go.Proofs.Ytalieakmjkmbbaa
open Go.RowKit
set_option linter.unusedVariables false

theorem numL_append (now : Int) : ∀ (xs ys : List (List Int)) (next : Int), numL next now (xs ++ ys) = numL next now xs ++ numL (next + xs.length) now ys
  | [], ys, next => by simp [numL]
  | x :: r, ys, next => by
    simp only [List.cons_append, numL, numL_append now r ys, List.length_cons]
    congr 3
    push_cast; omega
theorem numL_get (now : Int) : ∀ (xs : List (List Int)) (next : Int) (j : Nat) (b : List Int), xs[j]? = some b → (numL next now xs)[j]? = some ⟨next + j, b, now⟩
  | [], _, j, b, h => by simp at h
  | x :: r, next, 0, b, h => by
    obtain rfl : x = b := by simpa using h
    simp [numL]
  | x :: r, next, j + 1, b, h => by
    have := numL_get now r (next + 1) j b (by simpa using h)
    simp only [numL, List.getElem?_cons_succ, this]
    congr 2
    push_cast; omega
/-- What holds behind k bodies. -/
structure NumI (bs : List (List Int)) (win : Int) (k : Nat) (o : Ot) (nx : Nat) : Prop where
  next : o.next = nx
  le : nx ≤ k
  wait : o.wait = (bs.take k).drop nx
  sent : (o.sent.length : Int) ≤ win
  full : o.wait ≠ [] → (o.sent.length : Int) = win
  text : ∀ x ∈ o.sent, x.body.length ≤ 100
theorem NumI.start (bs : List (List Int)) {win : Int} (h : 1 ≤ win) : NumI bs win 0 ⟨0, [], []⟩ 0 :=
  ⟨rfl, Nat.le_refl _, by simp, by simp; omega, fun h => absurd rfl h, fun x hx => by simp at hx⟩
theorem NumI.waitN {bs : List (List Int)} {win : Int} {k : Nat} {o : Ot} {nx : Nat} (h : NumI bs win k o nx) (hk : k ≤ bs.length) : o.wait.length = k - nx := by
  rw [h.wait, List.length_drop, List.length_take, Nat.min_eq_left hk]
theorem NumI.send {bs : List (List Int)} {win : Int} {k : Nat} {o : Ot} {nx : Nat} (h : NumI bs win k o nx) {b : List Int} (hb : bs[k]? = some b) (hl : b.length ≤ 100) :
    ∃ c : Nat, nx + c ≤ k + 1 ∧ NumI bs win (k + 1) (sendP o b win k).1 (nx + c) ∧ (sendP o b win k).2 = numL nx k (((bs.take (k + 1)).drop nx).take c) := by
  have hk := (List.getElem?_eq_some_iff.1 hb).1
  have hw : (bs.take (k + 1)).drop nx = o.wait ++ [b] := by
    rw [take_snoc' hb, List.drop_append_of_le_length (by rw [List.length_take]; have := h.le; omega), h.wait]
  have hle := h.le
  unfold sendP
  by_cases hc : win ≤ (o.sent.length : Int)
  · rw [if_pos hc]
    refine ⟨0, by omega, ⟨h.next, by omega, by rw [Nat.add_zero, hw], h.sent, fun _ => ?_, h.text⟩, by simp [numL]⟩
    have := h.sent
    show (o.sent.length : Int) = win
    omega
  · rw [if_neg hc]
    have hw0 : o.wait = [] := by
      rcases Classical.em (o.wait = []) with h0 | h0
      · exact h0
      · exact absurd (h.full h0) (by omega)
    have hnk : nx = k := by have := h.waitN (by omega); rw [hw0] at this; simp at this; omega
    subst hnk
    rw [hw0] at hw
    refine ⟨1, by omega, ⟨by show o.next + 1 = _; rw [h.next]; push_cast; rfl, Nat.le_refl _, ?_, ?_, fun h9 => absurd hw0 h9, fun x hx => ?_⟩, ?_⟩
    · show o.wait = _
      rw [hw0, List.drop_of_length_le (by rw [List.length_take]; omega)]
    · show ((o.sent ++ [(⟨o.next, b, (nx : Int)⟩ : It)]).length : Int) ≤ win
      rw [List.length_append]; simp; omega
    · rcases List.mem_append.1 hx with hx | hx
      · exact h.text x hx
      · obtain rfl := List.mem_singleton.1 hx; exact hl
    · rw [hw]; simp [numL, h.next]
theorem NumI.ack {bs : List (List Int)} {win : Int} {k : Nat} {o : Ot} {nx : Nat} (h : NumI bs win k o nx) (hk : k ≤ bs.length) (hb : ∀ b ∈ bs.take k, b.length ≤ 100) (n now : Int) :
    ∃ c : Nat, nx + c ≤ k ∧ NumI bs win k (ackP o n win now).1 (nx + c) ∧ (ackP o n win now).2 = numL nx now (((bs.take k).drop nx).take c) := by
  have hwN := h.waitN hk
  have hle := h.le
  obtain ⟨c, hc⟩ : ∃ c, ackT o n win = c := ⟨_, rfl⟩
  have hs : (ackSent n o.sent).length ≤ o.sent.length := List.length_filter_le _ _
  have hsent := h.sent
  have hc' : c = min o.wait.length (win - ((ackSent n o.sent).length : Int)).toNat := hc.symm
  unfold ackP
  rw [hc]
  refine ⟨c, by omega, ⟨by show o.next + (c : Int) = _; rw [h.next]; push_cast; rfl, by omega, ?_, ?_, fun h9 => ?_, fun x hx => ?_⟩, by rw [h.next, ← h.wait]⟩
  · show o.wait.drop c = _
    rw [h.wait, List.drop_drop]
  · show ((ackSent n o.sent ++ numL o.next now (o.wait.take c)).length : Int) ≤ win
    rw [List.length_append, numL_len, List.length_take]; omega
  · show ((ackSent n o.sent ++ numL o.next now (o.wait.take c)).length : Int) = win
    have h10 : 0 < (o.wait.drop c).length := List.length_pos_iff.2 h9
    rw [List.length_drop] at h10
    rw [List.length_append, numL_len, List.length_take]; omega
  · rcases List.mem_append.1 hx with hx | hx
    · exact h.text x (List.mem_filter.1 hx).1
    · obtain ⟨i, hi, rfl⟩ := List.getElem_of_mem hx
      rw [numL_len] at hi
      have := numL_get now (o.wait.take c) o.next i _ (List.getElem?_eq_getElem hi)
      rw [List.getElem?_eq_getElem (by rw [numL_len]; exact hi)] at this
      rw [Option.some.inj this]
      refine hb _ ?_
      have h11 : (o.wait.take c)[i] ∈ o.wait := List.mem_of_mem_take (List.getElem_mem hi)
      have h12 : (o.wait.take c)[i] ∈ (bs.take k).drop nx := h.wait ▸ h11
      exact List.mem_of_mem_drop h12
theorem num_join {bs : List (List Int)} {k nx c c' : Nat} (hk : k ≤ bs.length) (hc : nx + c ≤ k) (now : Int) :
    numL nx now (((bs.take k).drop nx).take c) ++ numL ((nx + c : Nat) : Int) now (((bs.take k).drop (nx + c)).take c') = numL nx now (((bs.take k).drop nx).take (c + c')) := by
  rw [List.take_add, numL_append, List.drop_drop, List.length_take, List.length_drop, List.length_take, Nat.min_eq_left (show c ≤ min k bs.length - nx by omega)]
  push_cast
  rfl
theorem num_get {bs : List (List Int)} {k nx c j : Nat} (hk : k ≤ bs.length) (hc : nx + c ≤ k) (hj : j < c) (now : Int) :
    ∃ b, bs[nx + j]? = some b ∧ (numL nx now (((bs.take k).drop nx).take c))[j]? = some ⟨(nx : Int) + j, b, now⟩ := by
  have hb := List.getElem?_eq_getElem (l := bs) (i := nx + j) (by omega)
  refine ⟨_, hb, numL_get now _ _ j _ ?_⟩
  rw [List.getElem?_take, if_pos hj, List.getElem?_drop, List.getElem?_take, if_pos (by omega), hb]
theorem num_len {bs : List (List Int)} {k nx c : Nat} (hk : k ≤ bs.length) (hc : nx + c ≤ k) (now : Int) : (numL nx now (((bs.take k).drop nx).take c)).length = c := by
  rw [numL_len, List.length_take, List.length_drop, List.length_take]; omega
end Go.Proofs.Ytalieakmjkmbbaa
