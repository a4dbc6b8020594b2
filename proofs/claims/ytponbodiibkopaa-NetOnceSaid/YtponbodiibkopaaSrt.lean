/-
  Sorting a row of flights: the comparison, what a sort's step leaves, short lists.
-/
import Derived.Test.YtponbodiibkopaaNetA
import Derived.Test.YtponbodiibkopaaSortS
namespace Go.Proofs.Ytponbodiibkopaa
open Go.RowKit Go.Sort
set_option linter.unusedVariables false

theorem isnan_any (w : World) (x : Int) : Calls Try.prog 26 #[.int .i64 x] w fun e w' => e = .returned (.bool false) ∧ w' = w := by
  have d : (x != x) = false := by simp
  go_enter Try.func26, Try.ntmps26
  go_wp2
  go_ret
  exact ⟨rfl, rfl⟩
/-- What cmp.Compare tells. -/
def cmpI (x y : Int) : Int := if x < y then -1 else if y < x then 1 else 0
theorem cmpI_lt {x y : Int} : cmpI x y < 0 ↔ x < y := by unfold cmpI; split <;> (try split) <;> omega
theorem compare_any (w : World) (x y : Int) : Calls Try.prog 24 #[.int .i64 x, .int .i64 y] w fun e w' => e = .returned (.int .i64 (cmpI x y)) ∧ w' = w := by
  by_cases h1 : x < y
  · have d1 : decide (x < y) = true := decide_eq_true h1
    have HP := Lib.hid (show cmpI x y = -1 by simp [cmpI, h1])
    clear h1
    go_enter Try.func24, Try.ntmps24
    go_wp2_with (go_at_call 26; refine (isnan_any _ _).mono ?_; rintro e w1 ⟨rfl, rfl⟩)
    rw [HP.out]
    go_ret
    exact ⟨rfl, rfl⟩
  · have d1 : decide (x < y) = false := decide_eq_false h1
    by_cases h2 : y < x
    · have d2 : decide (y < x) = true := decide_eq_true h2
      have d3 : decide (x > y) = true := d2
      have HP := Lib.hid (show cmpI x y = 1 by simp [cmpI, h1, h2])
      clear h1 h2
      go_enter Try.func24, Try.ntmps24
      go_wp2_with (go_at_call 26; refine (isnan_any _ _).mono ?_; rintro e w1 ⟨rfl, rfl⟩)
      rw [HP.out]
      go_ret
      exact ⟨rfl, rfl⟩
    · have d2 : decide (y < x) = false := decide_eq_false h2
      have d3 : decide (x > y) = false := d2
      have HP := Lib.hid (show cmpI x y = 0 by simp [cmpI, h1, h2])
      clear h1 h2
      go_enter Try.func24, Try.ntmps24
      go_wp2_with (go_at_call 26; refine (isnan_any _ _).mono ?_; rintro e w1 ⟨rfl, rfl⟩)
      rw [HP.out]
      go_ret
      exact ⟨rfl, rfl⟩
theorem less_any (w : World) (x y : Int) (a1 a2 a3 b1 b2 b3 : Value) : Calls Try.prog 23 #[.agg #[.int .i64 x, a1, a2, a3], .agg #[.int .i64 y, b1, b2, b3]] w fun e w' => e = .returned (.int .i64 (cmpI x y)) ∧ Below w.heap.size w w' := by
  have hb : RowKit.Below w.heap.size w ((w.alloc (.cells #[.int .i64 x, a1, a2, a3] 37)).alloc (.cells #[.int .i64 y, b1, b2, b3] 37)) := ((Below.refl _ _).alloc (Nat.le_refl _) _).alloc (by simp) _
  have g1 := (Blk.new w 37 #[.int .i64 x, a1, a2, a3] (g := w.heap.size) rfl).alloc (.cells #[.int .i64 y, b1, b2, b3] 37)
  have g2 := Blk.new (w.alloc (.cells #[.int .i64 x, a1, a2, a3] 37)) 37 #[.int .i64 y, b1, b2, b3] (g := w.heap.size + 1) (by simp)
  have c1 := g1.cell 0 (v := .int .i64 x) rfl
  have c2 := g2.cell 0 (v := .int .i64 y) rfl
  have HB := Lib.hid hb; clear hb g1 g2
  go_enter Try.func23, Try.ntmps23
  go_wp2_with (go_at_call 24; refine (compare_any _ _ _).mono ?_; rintro e w1 ⟨rfl, rfl⟩)
  go_ret
  exact ⟨rfl, HB.out⟩
abbrev lessV : Value := .func (.func 23) #[] #[]
theorem insert_short (w : World) (A : Option Addr) (n c : Nat) (m : Nat) (hm : m ≤ 1) : Calls Try.prog 27 #[.slice A n c, .int .i64 0, .int .i64 (m : Int), lessV] w fun e w' => e = .returned (.tuple #[]) ∧ w' = w := by
  have d : decide ((1 : Int) < (m : Int)) = false := by simp; omega
  go_enter Try.func27, Try.ntmps27
  go_wp2
  go_loopw [8] (fun i wr => i = .int .i64 1 ∧ wr = w) (fun _ _ => 0)
  case atStart => exact ⟨rfl, rfl⟩
  case round =>
    obtain ⟨rfl, rfl⟩ := hrel
    go_wp2
    go_end0
    exact ⟨rfl, rfl⟩
theorem stable_short (w : World) (A : Option Addr) (n c : Nat) (hn : n ≤ 1) : Calls Try.prog 25 #[.slice A n c, .int .i64 (n : Int), lessV] w fun e w' => e = .returned (.tuple #[]) ∧ w' = w := by
  have d : decide ((20 : Int) ≤ (n : Int)) = false := by simp; omega
  have d2 : decide ((20 : Int) < (n : Int)) = false := by simp; omega
  go_enter Try.func25, Try.ntmps25
  go_wp2
  go_loopw [7, 8] (fun a b wr => a = .int .i64 0 ∧ b = .int .i64 20 ∧ wr = w) (fun _ _ _ => 0)
  case atStart => exact ⟨rfl, rfl, rfl⟩
  case round =>
    obtain ⟨rfl, rfl, rfl⟩ := hrel
    go_wp2_with (go_at_call 27; refine (insert_short _ _ _ _ _ hn).mono ?_; rintro e w1 ⟨rfl, rfl⟩)
    go_loopw [6] (fun a wr => a = .int .i64 20 ∧ wr = w1) (fun _ _ => 0)
    case atStart => exact ⟨rfl, rfl⟩
    case round =>
      obtain ⟨rfl, rfl⟩ := hrel
      go_wp2
      go_end0
      exact ⟨rfl, rfl⟩
theorem sort_short (w : World) (A : Option Addr) (n c : Nat) (hn : n ≤ 1) : Calls Try.prog 22 #[.slice A n c, lessV] w fun e w' => e = .returned (.tuple #[]) ∧ w' = w := by
  go_enter Try.func22, Try.ntmps22
  go_wp2_with (go_at_call 25; refine (stable_short _ _ _ _ hn).mono ?_; rintro e w1 ⟨rfl, rfl⟩)
  go_end0
  exact ⟨rfl, rfl⟩
/-- A row filled in part is one's own. -/
theorem OwnX.ofFillN {α : Type} {R : Rdr α} {w : World} {B g n N : Nat} {e : TypeId} {X S : Nat → Prop} {xs : List α} (h : Fill R w S g e N xs) (hn : xs.length = n) (hN : n ≤ N) (hm : N ≤ maxLen) (hS : ∀ k, S k → B ≤ k ∧ k < w.heap.size ∧ ¬ X k ∧ k ≠ g) (hg : B ≤ g) (hX : ¬ X g) : OwnX R w B e X (.slice (some ⟨g, 0, none⟩) n N) xs := by
  subst hn
  obtain ⟨arr, hb, hsz, he⟩ := h
  refine ⟨S, ⟨_, ⟨he.1, .inr ⟨g, N, arr, rfl, hg, hb, hN, hm, hsz, rfl⟩⟩, he⟩, fun k hk => ⟨(hS k hk).1, (hS k hk).2.1, (hS k hk).2.2.1, fun e => (hS k hk).2.2.2 ?_⟩, fun k hk => ?_⟩
  · have : g = k := by simpa [Value.ownBlock] using e
    exact this.symm
  · have : g = k := by simpa [Value.ownBlock] using hk
    rw [← this]; exact hX
/-- What a sort leaves of a list of one's own. -/
def SortRet (w : World) (B : Nat) (X : Nat → Prop) (v : Value) (xs : List Fl) (en : Ending) (w' : World) : Prop :=
  en = .returned (.tuple #[]) ∧ ∃ ys : List Fl, OwnX Rfl w' B 37 X v ys ∧ SortedK Fl.tm ys ∧ SameK Fl.tm xs ys ∧ ys.length = xs.length ∧ Below B w w' ∧ ∀ k, k < w.heap.size → v.ownBlock ≠ some k → w'.heap[k]? = w.heap[k]?
/-- The stable sort's contract, for lists of K flights at most. -/
def SortC (K : Nat) : Prop := ∀ (w : World) (B : Nat) (X : Nat → Prop) (v : Value) (xs : List Fl), OwnX Rfl w B 37 X v xs → xs.length ≤ K → B ≤ w.heap.size → (∀ k, X k → k < w.heap.size) → Calls Try.prog 22 #[v, lessV] w (SortRet w B X v xs)
theorem sortC_one : SortC 1 := by
  intro w B X v xs ho hK _ _
  obtain ⟨A, c, rfl⟩ := ho.form
  refine (sort_short w A xs.length c hK).mono ?_
  rintro e w' ⟨rfl, rfl⟩
  refine ⟨rfl, xs, ho, ?_, SameK.refl _, rfl, Below.refl _ _, fun _ _ _ => rfl⟩
  rcases xs with _ | ⟨x, _ | ⟨y, r⟩⟩
  · exact SortedK.nil
  · exact SortedK.one x
  · simp at hK
end Go.Proofs.Ytponbodiibkopaa
