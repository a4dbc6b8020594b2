/-
  LinkOrder, LinkAll: both ends of a link and what is on the way, in plain values.
-/
import Derived.Test.YtalieakmjkmbbaaNumP
namespace Go.Proofs.Ytalieakmjkmbbaa
open Go.RowKit
set_option linter.unusedVariables false

/-- An item that bears a body that was sent, and its number. -/
def Good (bs : List (List Int)) (nx : Nat) (x : It) : Prop := ∃ i : Nat, i < nx ∧ x.sq = i ∧ bs[i]? = some x.body
theorem Good.mono {bs : List (List Int)} {nx nx' : Nat} {x : It} (h : Good bs nx x) (hn : nx ≤ nx') (ys : List (List Int)) : Good (bs ++ ys) nx' x := by
  obtain ⟨i, h1, h2, h3⟩ := h
  exact ⟨i, by omega, h2, by rw [List.getElem?_append_left (List.getElem?_eq_some_iff.1 h3).1]; exact h3⟩
theorem Good.up {bs : List (List Int)} {nx nx' : Nat} {x : It} (h : Good bs nx x) (hn : nx ≤ nx') : Good bs nx' x := by
  obtain ⟨i, h1, h2, h3⟩ := h
  exact ⟨i, by omega, h2, h3⟩
/-- Items with numbers in a row. -/
def Cs (bs : List (List Int)) : Nat → List It → Prop
  | _, [] => True
  | lo, x :: r => x.sq = lo ∧ bs[lo]? = some x.body ∧ Cs bs (lo + 1) r
theorem Cs.append {bs : List (List Int)} : ∀ {xs ys : List It} {lo : Nat}, Cs bs lo xs → Cs bs (lo + xs.length) ys → Cs bs lo (xs ++ ys)
  | [], ys, lo, _, h => by simpa using h
  | x :: r, ys, lo, h, h' => ⟨h.1, h.2.1, Cs.append h.2.2 (by rw [show lo + 1 + r.length = lo + (x :: r).length by simp; omega]; exact h')⟩
theorem Cs.mono {bs : List (List Int)} (ys : List (List Int)) : ∀ {xs : List It} {lo : Nat}, Cs bs lo xs → Cs (bs ++ ys) lo xs
  | [], lo, _ => trivial
  | x :: r, lo, h => ⟨h.1, by rw [List.getElem?_append_left (List.getElem?_eq_some_iff.1 h.2.1).1]; exact h.2.1, Cs.mono ys h.2.2⟩
theorem Cs.good {bs : List (List Int)} : ∀ {xs : List It} {lo : Nat}, Cs bs lo xs → ∀ x ∈ xs, Good bs (lo + xs.length) x
  | [], lo, _, x, hx => by simp at hx
  | y :: r, lo, h, x, hx => by
    rcases List.mem_cons.1 hx with rfl | hx
    · exact ⟨lo, by simp, h.1, h.2.1⟩
    · have := Cs.good h.2.2 x hx
      rw [show lo + 1 + r.length = lo + (y :: r).length by simp; omega] at this
      exact this
theorem Cs.map {bs : List (List Int)} {f : It → It} (hf : ∀ x, (f x).sq = x.sq ∧ (f x).body = x.body) : ∀ {xs : List It} {lo : Nat}, Cs bs lo xs → Cs bs lo (xs.map f)
  | [], lo, _ => trivial
  | x :: r, lo, h => ⟨(hf x).1.trans h.1, by rw [(hf x).2]; exact h.2.1, Cs.map hf h.2.2⟩
theorem Cs.get {bs : List (List Int)} : ∀ {xs : List It} {lo : Nat}, Cs bs lo xs → ∀ {j : Nat} {x : It}, xs[j]? = some x → x.sq = ((lo + j : Nat) : Int) ∧ bs[lo + j]? = some x.body
  | [], lo, _, j, x, hx => by simp at hx
  | y :: r, lo, h, 0, x, hx => by
    obtain rfl : y = x := by simpa using hx
    exact ⟨h.1, h.2.1⟩
  | y :: r, lo, h, j + 1, x, hx => by
    have := Cs.get h.2.2 (j := j) (x := x) (by simpa using hx)
    rw [show lo + 1 + j = lo + (j + 1) by omega] at this
    exact this
theorem Cs.none {bs : List (List Int)} : ∀ {xs : List It} {lo : Nat} {n : Int}, Cs bs lo xs → n ≤ lo → ackSent n xs = xs
  | [], lo, n, _, _ => rfl
  | x :: r, lo, n, h, hn => by
    have h1 := h.1
    have := Cs.none h.2.2 (n := n) (by push_cast; omega)
    unfold ackSent at this ⊢
    rw [List.filter_cons, if_pos (by rw [decide_eq_true_eq]; omega), this]
theorem Cs.ack {bs : List (List Int)} : ∀ {xs : List It} {lo : Nat} (n : Int), Cs bs lo xs → ∃ d, d ≤ xs.length ∧ ackSent n xs = xs.drop d ∧ Cs bs (lo + d) (xs.drop d) ∧ (d = 0 ∨ ((lo + d : Nat) : Int) ≤ n)
  | [], lo, n, _ => ⟨0, Nat.le_refl _, rfl, trivial, .inl rfl⟩
  | x :: r, lo, n, h => by
    have h1 := h.1
    by_cases hn : n ≤ lo
    · exact ⟨0, Nat.zero_le _, Cs.none h hn, h, .inl rfl⟩
    · obtain ⟨d, d1, d2, d3, d4⟩ := Cs.ack n h.2.2
      refine ⟨d + 1, by simpa using d1, ?_, ?_, .inr ?_⟩
      · unfold ackSent at d2 ⊢
        rw [List.filter_cons, if_neg (by rw [decide_eq_true_eq]; omega), d2]; rfl
      · rw [show lo + (d + 1) = lo + 1 + d by omega]; exact d3
      · rcases d4 with rfl | d4
        · push_cast; omega
        · push_cast at d4 ⊢; omega
theorem Cs.all {bs : List (List Int)} : ∀ {xs : List It} {lo : Nat} {n : Int}, Cs bs lo xs → ((lo + xs.length : Nat) : Int) ≤ n → ackSent n xs = []
  | [], lo, n, _, _ => rfl
  | x :: r, lo, n, h, hn => by
    have h1 := h.1
    have hn' : ((lo + 1 + r.length : Nat) : Int) ≤ n := by rw [List.length_cons] at hn; push_cast at hn ⊢; omega
    have := Cs.all h.2.2 hn'
    unfold ackSent at this ⊢
    rw [List.filter_cons, if_neg (by rw [decide_eq_true_eq]; push_cast at hn'; omega), this]
theorem Cs.numL {bs : List (List Int)} (now : Int) : ∀ {l : List (List Int)} {nx : Nat}, (∀ j b, l[j]? = some b → bs[nx + j]? = some b) → Cs bs nx (numL nx now l)
  | [], nx, _ => trivial
  | x :: r, nx, h => ⟨rfl, h 0 x rfl, by
    have := Cs.numL (bs := bs) now (l := r) (nx := nx + 1) (fun j b hj => by
      have := h (j + 1) b (by simpa using hj)
      rw [show nx + 1 + j = nx + (j + 1) by omega]; exact this)
    push_cast at this
    exact this⟩

/-! ### Take -/
theorem succE_nat {e : Nat} (h : e ≤ 4611686018427387903) : succE (e : Int) = ((e + 1 : Nat) : Int) := by
  unfold succE wrap64; push_cast; omega
theorem takeGo_good {bs : List (List Int)} {nx : Nat} (hb : nx ≤ 4611686018427387903) : ∀ (f : Nat) (xs : List It) (ex : Nat), (∀ x ∈ xs, Good bs nx x) → ex ≤ nx →
    ∃ c, ex + c ≤ nx ∧ (takeGo f xs ex).2.2 = ((ex + c : Nat) : Int) ∧ (takeGo f xs ex).2.1 = (bs.drop ex).take c ∧ (∀ x ∈ (takeGo f xs ex).1, x ∈ xs) ∧ (takeGo f xs ex).1.length ≤ xs.length ∧ (1 ≤ f → (∃ x ∈ xs, x.sq = ex) → 1 ≤ c)
  | 0, xs, ex, hg, he => ⟨0, he, rfl, by simp [takeGo], fun x hx => hx, Nat.le_refl _, fun h _ => absurd h (by omega)⟩
  | f + 1, xs, ex, hg, he => by
    cases hf : xs.find? (isE ex) with
    | none =>
      rw [takeGo_none hf]
      refine ⟨0, he, rfl, by simp, fun x hx => hx, Nat.le_refl _, fun _ ⟨x, hx, he⟩ => ?_⟩
      have := List.find?_eq_none.1 hf x hx
      simp [isE, he] at this
    | some y =>
      have hy := List.mem_of_find?_eq_some hf
      have hys : y.sq = ex := by have := List.find?_some hf; simpa [isE] using this
      obtain ⟨i, i1, i2, i3⟩ := hg y hy
      obtain rfl : i = ex := by omega
      rw [takeGo_some hf, succE_nat (by omega)]
      obtain ⟨c, c1, c2, c3, c4, c5, c6⟩ := takeGo_good hb f (xs.eraseP (isE i)) (i + 1) (fun x hx => hg x (List.mem_of_mem_eraseP hx)) (by omega)
      refine ⟨c + 1, by omega, by rw [c2]; congr 1; omega, ?_, fun x hx => List.mem_of_mem_eraseP (c4 x hx), Nat.le_trans c5 (List.length_eraseP_le), fun _ _ => by omega⟩
      show y.body :: (takeGo f (xs.eraseP (isE i)) ((i + 1 : Nat) : Int)).2.1 = _
      have hd : bs.drop i = y.body :: bs.drop (i + 1) := by
        rw [List.drop_eq_getElem_cons (List.getElem?_eq_some_iff.1 i3).1, (List.getElem?_eq_some_iff.1 i3).2]
      rw [c3, hd]; rfl

/-! ### both ends -/
structure Wy where
  o : Ot
  e : Int
  held : List It
  items : List It
  acks : List Int
  sent : List (List Int)
  told : List (List Int)
  now : Int
def Wy.send (s : Wy) (b : List Int) (win : Int) : Wy := { s with o := (sendP s.o b win s.now).1, items := s.items ++ (sendP s.o b win s.now).2, sent := s.sent ++ [b] }
def Wy.ack (s : Wy) (n win : Int) : Wy := { s with o := (ackP s.o n win s.now).1, items := s.items ++ (ackP s.o n win s.now).2 }
def Wy.again (s : Wy) (now : Int) : Wy := { s with o := (againP s.o 3 now).1, now := now }
def Wy.come (s : Wy) (x : It) (win : Int) : Wy :=
  { s with e := (takeP s.held s.e x.sq x.body win).2.2, held := (takeP s.held s.e x.sq x.body win).1, told := s.told ++ (takeP s.held s.e x.sq x.body win).2.1, acks := s.acks ++ [(takeP s.held s.e x.sq x.body win).2.2] }
def Wy.keep (s : Wy) (l : List It) : Wy := { s with items := s.items ++ l }
def Wy.zero : Wy := ⟨⟨0, [], []⟩, 0, [], [], [], [], [], 0⟩
structure WyI (win : Int) (s : Wy) (lo nx ex : Nat) : Prop where
  next : s.o.next = nx
  nxle : nx ≤ s.sent.length
  wait : s.o.wait = s.sent.drop nx
  row : Cs s.sent lo s.o.sent
  rowN : lo + s.o.sent.length = nx
  len : (s.o.sent.length : Int) ≤ win
  full : s.o.wait ≠ [] → (s.o.sent.length : Int) = win
  exp : s.e = ex
  loex : lo ≤ ex
  exle : ex ≤ nx
  told : s.told = s.sent.take ex
  held : ∀ x ∈ s.held, Good s.sent nx x
  heldN : s.held.length ≤ s.acks.length
  items : ∀ x ∈ s.items, Good s.sent nx x
  acks : ∀ a ∈ s.acks, a ≤ ex
  text : ∀ b ∈ s.sent, b.length ≤ 100
  tm : ∀ x ∈ s.o.sent, 0 ≤ x.tm ∧ x.tm ≤ s.now
  now : 0 ≤ s.now
  few : s.sent.length ≤ 1000
theorem WyI.zero {win : Int} (h : 1 ≤ win) : WyI win Wy.zero 0 0 0 :=
  ⟨rfl, Nat.le_refl _, rfl, trivial, rfl, by show ((0 : Nat) : Int) ≤ win; omega, fun h => absurd rfl h, rfl, Nat.le_refl _, Nat.le_refl _, rfl, fun x hx => by simp [Wy.zero] at hx, Nat.le_refl _, fun x hx => by simp [Wy.zero] at hx, fun x hx => by simp [Wy.zero] at hx, fun x hx => by simp [Wy.zero] at hx, fun x hx => by simp [Wy.zero] at hx, Int.le_refl _, by simp [Wy.zero]⟩
theorem WyI.send {win : Int} {s : Wy} {lo nx ex : Nat} (h : WyI win s lo nx ex) {b : List Int} (hb : b.length ≤ 100) (hf : s.sent.length < 1000) : ∃ nx', WyI win (s.send b win) lo nx' ex ∧ (sendP s.o b win s.now).2.length ≤ 1 := by
  have hle := h.nxle
  unfold Wy.send sendP
  have htext : ∀ b' ∈ s.sent ++ [b], b'.length ≤ 100 := fun b' hb' => (List.mem_append.1 hb').elim (h.text b') (fun h9 => by obtain rfl := List.mem_singleton.1 h9; exact hb)
  have hfew : (s.sent ++ [b]).length ≤ 1000 := by rw [List.length_append]; simp; omega
  have htold : s.told = (s.sent ++ [b]).take ex := by rw [List.take_append_of_le_length (by have := h.exle; omega)]; exact h.told
  by_cases hc : win ≤ (s.o.sent.length : Int)
  · rw [if_pos hc]
    refine ⟨nx, ⟨h.next, by show nx ≤ (s.sent ++ [b]).length; rw [List.length_append]; omega, ?_, h.row.mono _, h.rowN, h.len, fun _ => ?_, h.exp, h.loex, h.exle, htold, fun x hx => (h.held x hx).mono (Nat.le_refl _) _, h.heldN, fun x hx => ?_, h.acks, htext, h.tm, h.now, hfew⟩, by simp⟩
    · show s.o.wait ++ [b] = (s.sent ++ [b]).drop nx
      rw [List.drop_append_of_le_length hle, h.wait]
    · have := h.len
      show (s.o.sent.length : Int) = win
      omega
    · have hx' : x ∈ s.items := by simpa using hx
      exact (h.items x hx').mono (Nat.le_refl _) _
  · rw [if_neg hc]
    have hw0 : s.o.wait = [] := by
      rcases Classical.em (s.o.wait = []) with h0 | h0
      · exact h0
      · exact absurd (h.full h0) (by omega)
    have hnk : nx = s.sent.length := by
      have := congrArg List.length h.wait; rw [hw0, List.length_drop] at this; simp at this; omega
    have hbx : (s.sent ++ [b])[nx]? = some b := by rw [hnk]; simp
    have hgo : Good (s.sent ++ [b]) (nx + 1) ⟨s.o.next, b, s.now⟩ := ⟨nx, by omega, h.next, hbx⟩
    refine ⟨nx + 1, ⟨by show s.o.next + 1 = _; rw [h.next]; push_cast; rfl, by show nx + 1 ≤ (s.sent ++ [b]).length; rw [List.length_append]; simp; omega, ?_, (h.row.mono _).append ?_, ?_, ?_, fun h9 => absurd hw0 h9, h.exp, h.loex, by have := h.exle; omega, htold, fun x hx => (h.held x hx).mono (by omega) _, h.heldN, fun x hx => ?_, h.acks, htext, fun x hx => ?_, h.now, hfew⟩, by simp⟩
    · show s.o.wait = (s.sent ++ [b]).drop (nx + 1)
      rw [hw0, List.drop_of_length_le (by rw [List.length_append]; simp; omega)]
    · rw [h.rowN]
      exact ⟨h.next, hbx, trivial⟩
    · show lo + (s.o.sent ++ [(⟨s.o.next, b, s.now⟩ : It)]).length = _
      have := h.rowN; rw [List.length_append]; simp; omega
    · show ((s.o.sent ++ [(⟨s.o.next, b, s.now⟩ : It)]).length : Int) ≤ win
      rw [List.length_append]; simp; omega
    · rcases List.mem_append.1 hx with hx | hx
      · exact (h.items x hx).mono (by omega) _
      · obtain rfl := List.mem_singleton.1 hx; exact hgo
    · rcases List.mem_append.1 hx with hx | hx
      · exact h.tm x hx
      · obtain rfl := List.mem_singleton.1 hx; exact ⟨h.now, Int.le_refl _⟩
theorem WyI.ack {win : Int} {s : Wy} {lo nx ex : Nat} (h : WyI win s lo nx ex) (h1 : 1 ≤ win) {n : Int} (hn : n ≤ ex) : ∃ lo' c, WyI win (s.ack n win) lo' (nx + c) ex ∧ ((ackP s.o n win s.now).2.length : Int) ≤ win ∧ (n = nx → (c = 0 → nx = s.sent.length) ∧ lo' = nx) := by
  have hle := h.nxle
  obtain ⟨c, hc⟩ : ∃ c, ackT s.o n win = c := ⟨_, rfl⟩
  obtain ⟨d, d1, d2, d3, d4⟩ := h.row.ack n
  have hN := h.rowN
  have hlen := h.len
  have hwN : s.o.wait.length = s.sent.length - nx := by rw [h.wait, List.length_drop]
  have hc' : c = min s.o.wait.length (win - ((ackSent n s.o.sent).length : Int)).toNat := hc.symm
  have hsl : (ackSent n s.o.sent).length = s.o.sent.length - d := by rw [d2, List.length_drop]
  have hgL : ∀ j b, (s.o.wait.take c)[j]? = some b → s.sent[nx + j]? = some b := fun j b hj => by
    rw [List.getElem?_take] at hj
    split at hj
    · rw [h.wait, List.getElem?_drop] at hj; exact hj
    · simp at hj
  have hnL : Cs s.sent nx (numL s.o.next s.now (s.o.wait.take c)) := by rw [h.next]; exact Cs.numL s.now hgL
  have hnLen : (numL s.o.next s.now (s.o.wait.take c)).length = c := by rw [numL_len, List.length_take]; omega
  have hrow' : Cs s.sent (lo + d) (ackSent n s.o.sent ++ numL s.o.next s.now (s.o.wait.take c)) := by
    rw [d2]
    refine d3.append ?_
    rw [List.length_drop, show lo + d + (s.o.sent.length - d) = nx by omega]
    exact hnL
  have hexle := h.exle
  have hloex := h.loex
  unfold Wy.ack ackP
  rw [hc]
  refine ⟨lo + d, c, ⟨by show s.o.next + (c : Int) = _; rw [h.next]; push_cast; rfl, by show nx + c ≤ s.sent.length; omega, ?_, hrow', ?_, ?_, fun h9 => ?_, h.exp, by rcases d4 with h9 | h9 <;> omega, by omega, h.told, fun x hx => (h.held x hx).up (by omega), h.heldN, fun x hx => ?_, h.acks, h.text, fun x hx => ?_, h.now, h.few⟩, ?_, fun hnn => ⟨fun hc0 => ?_, ?_⟩⟩
  · show s.o.wait.drop c = _
    rw [h.wait, List.drop_drop]
  · show lo + d + (ackSent n s.o.sent ++ numL s.o.next s.now (s.o.wait.take c)).length = _
    rw [List.length_append, hnLen, hsl]; omega
  · show ((ackSent n s.o.sent ++ numL s.o.next s.now (s.o.wait.take c)).length : Int) ≤ win
    rw [List.length_append, hnLen]; omega
  · show ((ackSent n s.o.sent ++ numL s.o.next s.now (s.o.wait.take c)).length : Int) = win
    have h10 : 0 < (s.o.wait.drop c).length := List.length_pos_iff.2 h9
    rw [List.length_drop] at h10
    rw [List.length_append, hnLen]; omega
  · rcases List.mem_append.1 hx with hx | hx
    · exact (h.items x hx).up (by omega)
    · have := hnL.good x hx
      rw [hnLen] at this
      exact this
  · rcases List.mem_append.1 hx with hx | hx
    · exact h.tm x (List.mem_filter.1 hx).1
    · obtain ⟨i, hi, rfl⟩ := List.getElem_of_mem hx
      rw [numL_len] at hi
      have := numL_get s.now (s.o.wait.take c) s.o.next i _ (List.getElem?_eq_getElem hi)
      rw [List.getElem?_eq_getElem (by rw [numL_len]; exact hi)] at this
      rw [Option.some.inj this]
      exact ⟨h.now, Int.le_refl _⟩
  · show ((numL s.o.next s.now (s.o.wait.take c)).length : Int) ≤ win
    rw [hnLen]; omega
  · have : ackSent n s.o.sent = [] := h.row.all (by rw [hnn, hN]; omega)
    rw [this] at hc'
    simp at hc'
    omega
  · have : ackSent n s.o.sent = [] := h.row.all (by rw [hnn, hN]; omega)
    rw [this] at hsl
    simp at hsl
    omega
theorem againIt_same (aft now : Int) (x : It) : (againIt aft now x).sq = x.sq ∧ (againIt aft now x).body = x.body := by
  unfold againIt; split <;> exact ⟨rfl, rfl⟩
theorem againTold_sub (aft now : Int) (xs : List It) : ∀ y ∈ againTold aft now xs, ∃ x ∈ xs, y.sq = x.sq ∧ y.body = x.body := fun y hy => by
  unfold againTold at hy
  obtain ⟨x, hx, rfl⟩ := List.mem_map.1 hy
  exact ⟨x, (List.mem_filter.1 hx).1, rfl, rfl⟩
theorem againTold_le (aft now : Int) (xs : List It) : (againTold aft now xs).length ≤ xs.length := by
  unfold againTold; rw [List.length_map]; exact List.length_filter_le _ _
theorem WyI.again {win : Int} {s : Wy} {lo nx ex : Nat} (h : WyI win s lo nx ex) {now : Int} (hn : s.now ≤ now) : WyI win (s.again now) lo nx ex ∧ (∀ x ∈ (againP s.o 3 now).2, Good s.sent nx x) ∧ ((againP s.o 3 now).2.length : Int) ≤ win := by
  have hnow := h.now
  have hlen := h.len
  refine ⟨⟨h.next, h.nxle, h.wait, h.row.map (againIt_same 3 now), ?_, ?_, fun h9 => ?_, h.exp, h.loex, h.exle, h.told, h.held, h.heldN, h.items, h.acks, h.text, fun x hx => ?_, by show 0 ≤ now; omega, h.few⟩, fun y hy => ?_, ?_⟩
  · show lo + (s.o.sent.map (againIt 3 now)).length = nx
    rw [List.length_map]; exact h.rowN
  · show ((s.o.sent.map (againIt 3 now)).length : Int) ≤ win
    rw [List.length_map]; exact hlen
  · show ((s.o.sent.map (againIt 3 now)).length : Int) = win
    rw [List.length_map]; exact h.full h9
  · have hx' : x ∈ s.o.sent.map (againIt 3 now) := hx
    obtain ⟨y, hy, rfl⟩ := List.mem_map.1 hx'
    have := h.tm y hy
    unfold againIt
    show 0 ≤ (if 3 ≤ now - y.tm then (⟨y.sq, y.body, now⟩ : It) else y).tm ∧ (if 3 ≤ now - y.tm then (⟨y.sq, y.body, now⟩ : It) else y).tm ≤ now
    split
    · exact ⟨by show 0 ≤ now; omega, Int.le_refl _⟩
    · exact ⟨this.1, by omega⟩
  · obtain ⟨x, hx, e1, e2⟩ := againTold_sub 3 now s.o.sent y hy
    obtain ⟨i, i1, i2, i3⟩ := h.row.good x hx
    exact ⟨i, by have := h.rowN; omega, e1.trans i2, by rw [e2]; exact i3⟩
  · have := againTold_le 3 now s.o.sent
    show ((againTold 3 now s.o.sent).length : Int) ≤ win
    omega
theorem WyI.keep {win : Int} {s : Wy} {lo nx ex : Nat} (h : WyI win s lo nx ex) {l : List It} (hl : ∀ x ∈ l, Good s.sent nx x) : WyI win (s.keep l) lo nx ex :=
  { next := h.next, nxle := h.nxle, wait := h.wait, row := h.row, rowN := h.rowN, len := h.len, full := h.full, exp := h.exp, loex := h.loex, exle := h.exle, told := h.told, held := h.held, heldN := h.heldN, items := fun x hx => (List.mem_append.1 hx).elim (h.items x) (hl x), acks := h.acks, text := h.text, tm := h.tm, now := h.now, few := h.few }
theorem takeIn_len (xs : List It) (e seq : Int) (body : List Int) (win : Int) : (takeIn xs e seq body win).length ≤ xs.length + 1 := by
  unfold takeIn; split <;> simp
theorem WyI.come {win : Int} {s : Wy} {lo nx ex : Nat} (h : WyI win s lo nx ex) (h1 : 1 ≤ win) (h2 : win ≤ 1000) {x : It} (hx : Good s.sent nx x) : ∃ c, WyI win (s.come x win) lo nx (ex + c) ∧ (x.sq = ex → 1 ≤ c) := by
  have hle := h.nxle
  have hfew := h.few
  have hexle := h.exle
  have hgood : ∀ y ∈ takeIn s.held s.e x.sq x.body win, Good s.sent nx y := fun y hy => by
    unfold takeIn at hy
    split at hy
    · rcases List.mem_append.1 hy with hy | hy
      · exact h.held y hy
      · obtain rfl := List.mem_singleton.1 hy
        obtain ⟨i, i1, i2, i3⟩ := hx
        exact ⟨i, i1, i2, i3⟩
    · exact h.held y hy
  have hlen := takeIn_len s.held s.e x.sq x.body win
  have hin : x.sq = ex → ∃ y ∈ takeIn s.held s.e x.sq x.body win, y.sq = ex := fun hxe => by
    unfold takeIn
    split
    · exact ⟨_, List.mem_append_right _ (List.mem_singleton.2 rfl), hxe⟩
    · rename_i hc
      have hm : metIn s.held x.sq = true := by
        cases hm : metIn s.held x.sq with
        | true => rfl
        | false =>
          refine absurd ⟨?_, ?_, hm⟩ hc
          · rw [h.exp, hxe]; omega
          · rw [h.exp, hxe]; unfold wrap64; omega
      unfold metIn at hm
      obtain ⟨y, hy, hys⟩ := List.any_eq_true.1 hm
      exact ⟨y, hy, by have h9 : y.sq = x.sq := by simpa [isE] using hys
                       rw [h9]; exact hxe⟩
  obtain ⟨c, c1, c2, c3, c4, c5, c6⟩ := takeGo_good (bs := s.sent) (nx := nx) (by omega) (takeIn s.held s.e x.sq x.body win).length (takeIn s.held s.e x.sq x.body win) ex hgood hexle
  unfold Wy.come takeP
  rw [h.exp] at hgood hlen hin c2 c3 c4 c5 c6 ⊢
  have hN := h.heldN
  refine ⟨c, ⟨h.next, h.nxle, h.wait, h.row, h.rowN, h.len, h.full, c2, by have := h.loex; omega, c1, ?_, fun y hy => hgood y (c4 y hy), ?_, h.items, fun a ha => ?_, h.text, h.tm, h.now, h.few⟩, fun hxe => ?_⟩
  · show s.told ++ _ = _
    rw [c3, h.told, List.take_add]
  · show _ ≤ (s.acks ++ [_]).length
    rw [List.length_append]
    simp only [List.length_cons, List.length_nil]
    omega
  · rcases List.mem_append.1 ha with ha | ha
    · have := h.acks a ha; push_cast; omega
    · rw [List.mem_singleton.1 ha, c2]; exact Int.le_refl _
  · obtain ⟨y, hy, hye⟩ := hin hxe
    exact c6 (List.length_pos_of_mem hy) ⟨y, hy, hye⟩
end Go.Proofs.Ytalieakmjkmbbaa
