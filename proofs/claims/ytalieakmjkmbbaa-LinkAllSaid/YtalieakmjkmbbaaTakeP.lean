/-
  Take: what it comes to. Plain.
-/
import Derived.Test.YtalieakmjkmbbaaPlaces
namespace Go.Proofs.Ytalieakmjkmbbaa
open Go.RowKit
set_option linter.unusedVariables false

def succE (e : Int) : Int := wrap64 (e + 1)
def expAt (e0 : Int) : Nat → Int
  | 0 => e0
  | r + 1 => succE (expAt e0 r)
theorem expAt_eq {e0 : Int} (h1 : -9223372036854775808 ≤ e0) (h2 : e0 ≤ 9223372036854775807) : ∀ r : Nat, expAt e0 r = wrap64 (e0 + r)
  | 0 => by simp only [expAt, wrap64]; omega
  | r + 1 => by
    have h := expAt_eq h1 h2 r
    simp only [expAt, succE]
    rw [h]
    simp only [wrap64]
    omega
theorem expAt_ne {e0 : Int} (h1 : -9223372036854775808 ≤ e0) (h2 : e0 ≤ 9223372036854775807) {i j : Nat} (hij : i < j) (hj : j ≤ 4000000000000) : expAt e0 i ≠ expAt e0 j := by
  rw [expAt_eq h1 h2, expAt_eq h1 h2]
  simp only [wrap64]
  omega
theorem expAt_wf {e0 : Int} (h1 : -9223372036854775808 ≤ e0) (h2 : e0 ≤ 9223372036854775807) (r : Nat) : (Lit.int .i64 (expAt e0 r)).wf = true := by
  rw [expAt_eq h1 h2]; exact wrap64_wf _
/-- The items that are not gone. -/
def keptF : List It → List Bool → List It
  | x :: xs, g :: fl => if g = true then keptF xs fl else x :: keptF xs fl
  | _, _ => []
abbrev isE (e : Int) : It → Bool := fun x => decide (x.sq = e)
def takeGo : Nat → List It → Int → List It × List (List Int) × Int
  | 0, xs, e => (xs, [], e)
  | f + 1, xs, e => match xs.find? (isE e) with
    | none => (xs, [], e)
    | some y => ((takeGo f (xs.eraseP (isE e)) (succE e)).1, y.body :: (takeGo f (xs.eraseP (isE e)) (succE e)).2.1, (takeGo f (xs.eraseP (isE e)) (succE e)).2.2)
def metIn (xs : List It) (seq : Int) : Bool := xs.any (isE seq)
def takeIn (xs : List It) (e seq : Int) (body : List Int) (window : Int) : List It :=
  if e ≤ seq ∧ seq < wrap64 (e + window) ∧ metIn xs seq = false then xs ++ [⟨seq, body, 0⟩] else xs
def takeP (xs : List It) (e seq : Int) (body : List Int) (window : Int) : List It × List (List Int) × Int :=
  takeGo (takeIn xs e seq body window).length (takeIn xs e seq body window) e
theorem takeGo_none {f : Nat} {xs : List It} {e : Int} (h : xs.find? (isE e) = none) : takeGo f xs e = (xs, [], e) := by
  cases f with
  | zero => rfl
  | succ f => simp only [takeGo, h]
theorem takeGo_some {f : Nat} {xs : List It} {e : Int} {y : It} (h : xs.find? (isE e) = some y) : takeGo (f + 1) xs e = ((takeGo f (xs.eraseP (isE e)) (succE e)).1, y.body :: (takeGo f (xs.eraseP (isE e)) (succE e)).2.1, (takeGo f (xs.eraseP (isE e)) (succE e)).2.2) := by
  simp only [takeGo, h]
theorem metIn_firstF (xs : List It) (seq : Int) : (firstF xs seq).isSome = metIn xs seq := by
  unfold firstF metIn
  rw [Option.isSome_map]
  induction xs with
  | nil => rfl
  | cons x xs ih =>
    rw [List.findIdx?_cons, List.any_cons]
    by_cases h : x.sq = seq
    · simp [h]
    · simp only [h, decide_false, Bool.false_or, Bool.false_eq_true, if_false, Option.isSome_map, isE]
      exact ih
theorem keptF_mem : ∀ (xs : List It) (fl : List Bool) {x : It}, x ∈ keptF xs fl → x ∈ xs
  | [], _, x, h => by simp [keptF] at h
  | y :: xs, [], x, h => by simp [keptF] at h
  | y :: xs, g :: fl, x, h => by
    unfold keptF at h
    split at h
    · exact List.mem_cons_of_mem _ (keptF_mem xs fl h)
    · rcases List.mem_cons.1 h with h | h
      · exact List.mem_cons.2 (.inl h)
      · exact List.mem_cons_of_mem _ (keptF_mem xs fl h)
theorem keptF_len : ∀ (xs : List It) (fl : List Bool), (keptF xs fl).length ≤ xs.length
  | [], _ => by simp [keptF]
  | y :: xs, [] => by simp [keptF]
  | y :: xs, g :: fl => by
    have := keptF_len xs fl
    unfold keptF
    split <;> simp <;> omega
theorem keptF_all : ∀ (xs : List It), keptF xs (List.replicate xs.length false) = xs
  | [] => rfl
  | y :: xs => by rw [List.length_cons, List.replicate_succ]; simp [keptF, keptF_all xs]
theorem keptF_snoc : ∀ (xs : List It) (fl : List Bool) (y : It) (g : Bool), fl.length = xs.length → keptF (xs ++ [y]) (fl ++ [g]) = keptF xs fl ++ (if g = true then [] else [y])
  | [], [], y, g, _ => by cases g <;> rfl
  | [], g' :: fl, y, g, h => by simp at h
  | x :: xs, [], y, g, h => by simp at h
  | x :: xs, g' :: fl, y, g, h => by
    have ih := keptF_snoc xs fl y g (by simpa using h)
    simp only [List.cons_append, keptF]
    cases g' <;> simp [ih]
theorem kept_none {xs : List It} {fl : List Bool} {e : Int} (h : xs.findIdx? (isE e) = none) : (keptF xs fl).find? (isE e) = none := by
  rw [List.find?_eq_none]
  intro x hx
  rw [List.findIdx?_eq_none_iff] at h
  have := h x (keptF_mem _ _ hx)
  simpa using this
theorem kept_mark : ∀ (xs : List It) (fl : List Bool) (e : Int) (p : Nat), fl.length = xs.length → (∀ i : Nat, fl[i]? = some true → ∀ x : It, xs[i]? = some x → x.sq ≠ e) → xs.findIdx? (isE e) = some p →
    ∃ y, xs[p]? = some y ∧ y.sq = e ∧ (keptF xs fl).find? (isE e) = some y ∧ keptF xs (fl.set p true) = (keptF xs fl).eraseP (isE e)
  | [], _, e, p, _, _, h => by simp at h
  | x :: xs, [], e, p, h, _, _ => by simp at h
  | x :: xs, g :: fl, e, p, hl, hg, h => by
    rw [List.findIdx?_cons] at h
    by_cases hx : x.sq = e
    · rw [if_pos (show isE e x = true by simp [isE, hx])] at h
      obtain rfl := Option.some.inj h
      have hgf : g = false := by
        cases g with
        | false => rfl
        | true => exact absurd hx (hg 0 rfl x rfl)
      subst hgf
      refine ⟨x, rfl, hx, ?_, ?_⟩
      · simp [keptF, List.find?_cons, hx]
      · simp [keptF, List.eraseP_cons, hx]
    · rw [if_neg (show ¬ isE e x = true by simp [isE, hx])] at h
      obtain ⟨p', hp', rfl⟩ := Option.map_eq_some_iff.1 h
      obtain ⟨y, h1, h2, h3, h4⟩ := kept_mark xs fl e p' (by simpa using hl) (fun i hi x' hx' => hg (i + 1) (by simpa using hi) x' (by simpa using hx')) hp'
      refine ⟨y, by simpa using h1, h2, ?_, ?_⟩
      · cases g
        · simp only [keptF, Bool.false_eq_true, if_false, List.find?_cons, show isE e x = false by simp [isE, hx]]; exact h3
        · simp only [keptF, if_true]; exact h3
      · cases g
        · simp only [List.set_cons_succ, keptF, Bool.false_eq_true, if_false, List.eraseP_cons, show isE e x = false by simp [isE, hx], cond_false]; rw [h4]
        · simp only [List.set_cons_succ, keptF, if_true]; exact h4
/-- What the first loop has done in r rounds. -/
structure TkP (xs : List It) (e0 : Int) (r : Nat) (fl : List Bool) (told : List (List Int)) : Prop where
  len : fl.length = xs.length
  cnt : (keptF xs fl).length + r = xs.length
  tl : told.length = r
  old : ∀ i : Nat, fl[i]? = some true → ∀ x : It, xs[i]? = some x → ∃ j, j < r ∧ x.sq = expAt e0 j
  go : takeGo xs.length xs e0 = ((takeGo (xs.length - r) (keptF xs fl) (expAt e0 r)).1, told ++ (takeGo (xs.length - r) (keptF xs fl) (expAt e0 r)).2.1, (takeGo (xs.length - r) (keptF xs fl) (expAt e0 r)).2.2)
theorem TkP.start (xs : List It) (e0 : Int) : TkP xs e0 0 (List.replicate xs.length false) [] :=
  ⟨by simp, by rw [keptF_all]; rfl, rfl, fun i hi => by rw [List.getElem?_replicate] at hi; split at hi <;> simp at hi, by rw [keptF_all]; rfl⟩
theorem TkP.step {xs : List It} {e0 : Int} {r : Nat} {fl : List Bool} {told : List (List Int)} (h : TkP xs e0 r fl told) (h1 : -9223372036854775808 ≤ e0) (h2 : e0 ≤ 9223372036854775807) (hn : xs.length ≤ 4000000000000) {p : Nat} (hp : xs.findIdx? (isE (expAt e0 r)) = some p) :
    ∃ y, xs[p]? = some y ∧ r < xs.length ∧ TkP xs e0 (r + 1) (fl.set p true) (told ++ [y.body]) := by
  have hr : r ≤ xs.length := by have := h.cnt; omega
  obtain ⟨y, y1, y2, y3, y4⟩ := kept_mark xs fl (expAt e0 r) p h.len (fun i hi x hx => by
    obtain ⟨j, hj, e⟩ := h.old i hi x hx
    rw [e]; exact expAt_ne h1 h2 hj (by omega)) hp
  have hm := List.mem_of_find?_eq_some y3
  have hpos : 0 < (keptF xs fl).length := List.length_pos_of_mem hm
  have hle : ((keptF xs fl).eraseP (isE (expAt e0 r))).length = (keptF xs fl).length - 1 := List.length_eraseP_of_mem hm (by simp [y2])
  have hc := h.cnt
  refine ⟨y, y1, by omega, ⟨by simp [h.len], by rw [y4, hle]; omega, by simp [h.tl], fun i hi x hx => ?_, ?_⟩⟩
  · rw [List.getElem?_set] at hi
    split at hi
    · rename_i e; subst e
      rw [y1] at hx
      obtain rfl := Option.some.inj hx
      exact ⟨r, by omega, y2⟩
    · obtain ⟨j, hj, e⟩ := h.old i hi x hx
      exact ⟨j, by omega, e⟩
  · rw [h.go, show xs.length - r = (xs.length - (r + 1)) + 1 by omega, takeGo_some y3, y4]
    simp [expAt]
theorem TkP.stop {xs : List It} {e0 : Int} {r : Nat} {fl : List Bool} {told : List (List Int)} (h : TkP xs e0 r fl told) (hp : xs.findIdx? (isE (expAt e0 r)) = none) : takeGo xs.length xs e0 = (keptF xs fl, told, expAt e0 r) := by
  rw [h.go, takeGo_none (kept_none hp), List.append_nil]
theorem firstF_some {xs : List It} {k : Int} {v : Int} (h : firstF xs k = some v) : ∃ p : Nat, v = p ∧ xs.findIdx? (isE k) = some p := by
  obtain ⟨p, h1, h2⟩ := Option.map_eq_some_iff.1 h
  exact ⟨p, h2.symm, h1⟩
theorem firstF_none {xs : List It} {k : Int} (h : firstF xs k = none) : xs.findIdx? (isE k) = none := Option.map_eq_none_iff.1 h
end Go.Proofs.Ytalieakmjkmbbaa
