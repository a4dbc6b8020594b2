/-
  symMerge's search: where the two runs are cut. Plain.
-/
import Derived.Test.YtponbodiibkopaaSortP
namespace Go.Proofs.Ytponbodiibkopaa
set_option linter.unusedVariables false

/-- What holds of the search between 'lo' and 'hi': c's partner is p - c. -/
structure SymS (f : Nat → Int) (lo0 hi0 p s r : Nat) : Prop where
  h1 : lo0 ≤ s
  h2 : s ≤ r
  h3 : r ≤ hi0
  low : ∀ c, lo0 ≤ c → c < s → f c ≤ f (p - c)
  high : ∀ c, r ≤ c → c < hi0 → f (p - c) < f c
/-- The bounds of the search. -/
structure SymB (a m b lo0 hi0 p : Nat) : Prop where
  le : lo0 ≤ hi0
  la : a ≤ lo0
  hm : hi0 ≤ m
  pm : ∀ c, lo0 ≤ c → c < hi0 → m ≤ p - c ∧ p - c < b ∧ c ≤ p
theorem symB_right {a m b mid : Nat} (hmid : mid = (a + b) / 2) (ham : a < m) (hmb : m < b) (h : mid < m) : SymB a m b (mid + m - b) mid (mid + m - 1) :=
  ⟨by omega, by omega, by omega, fun c h1 h2 => by omega⟩
theorem symB_left {a m b mid : Nat} (hmid : mid = (a + b) / 2) (ham : a < m) (hmb : m < b) (h : m ≤ mid) : SymB a m b a m (mid + m - 1) :=
  ⟨by omega, by omega, by omega, fun c h1 h2 => by omega⟩
section
variable {f : Nat → Int} {a m b lo0 hi0 p s r : Nat}
theorem SymS.start (h : lo0 ≤ hi0) : SymS f lo0 hi0 p lo0 hi0 := ⟨Nat.le_refl _, h, Nat.le_refl _, fun c h1 h2 => by omega, fun c h1 h2 => by omega⟩
theorem SymS.up (h : SymS f lo0 hi0 p s r) (hB : SymB a m b lo0 hi0 p) (hL : ∀ i j, a ≤ i → i ≤ j → j < m → f i ≤ f j) (hR : ∀ i j, m ≤ i → i ≤ j → j < b → f i ≤ f j) {c : Nat} (hc : s ≤ c) (hcr : c < r) (ht : f c ≤ f (p - c)) : SymS f lo0 hi0 p (c + 1) r := by
  have hla := hB.la; have hhm := hB.hm; have h1 := h.h1; have h3 := h.h3
  obtain ⟨q1, q2, q3⟩ := hB.pm c (by omega) (by omega)
  refine ⟨by omega, by omega, h.h3, fun d hd1 hd2 => ?_, h.high⟩
  obtain ⟨r1, r2, r3⟩ := hB.pm d hd1 (by omega)
  have e1 := hL d c (by omega) (by omega) (by omega)
  have e2 := hR (p - c) (p - d) (by omega) (by omega) (by omega)
  omega
theorem SymS.down (h : SymS f lo0 hi0 p s r) (hB : SymB a m b lo0 hi0 p) (hL : ∀ i j, a ≤ i → i ≤ j → j < m → f i ≤ f j) (hR : ∀ i j, m ≤ i → i ≤ j → j < b → f i ≤ f j) {c : Nat} (hc : s ≤ c) (hcr : c < r) (ht : f (p - c) < f c) : SymS f lo0 hi0 p s c := by
  have hla := hB.la; have hhm := hB.hm; have h1 := h.h1; have h3 := h.h3
  obtain ⟨q1, q2, q3⟩ := hB.pm c (by omega) (by omega)
  refine ⟨h.h1, hc, by omega, h.low, fun d hd1 hd2 => ?_⟩
  obtain ⟨r1, r2, r3⟩ := hB.pm d (by omega) hd2
  have e1 := hL c d (by omega) (by omega) (by omega)
  have e2 := hR (p - d) (p - c) (by omega) (by omega) (by omega)
  omega
/-- What the cut is: everything right of it on the left run is greater than all left of its partner on the right run, and so on. -/
theorem sym_right {mid : Nat} (hmid : mid = (a + b) / 2) (ham : a < m) (hmb : m < b) (hlt : mid < m) (h : SymS f (mid + m - b) mid (mid + m - 1) s s) (hL : ∀ i j, a ≤ i → i ≤ j → j < m → f i ≤ f j) (hR : ∀ i j, m ≤ i → i ≤ j → j < b → f i ≤ f j) :
    a ≤ s ∧ s ≤ mid ∧ m ≤ mid + m - s ∧ mid + m - s ≤ b ∧ (∀ i j, s ≤ i → i < m → m ≤ j → j < mid + m - s → f j < f i) ∧ (∀ i j, a ≤ i → i < s → mid + m - s ≤ j → j < b → f i ≤ f j) := by
  have h1 := h.h1; have h3 := h.h3
  refine ⟨by omega, by omega, by omega, by omega, fun i j hi1 hi2 hj1 hj2 => ?_, fun i j hi1 hi2 hj1 hj2 => ?_⟩
  · have e := h.high s (Nat.le_refl _) (by omega)
    have e1 := hL s i (by omega) hi1 hi2
    have e2 := hR j (mid + m - 1 - s) hj1 (by omega) (by omega)
    omega
  · have e := h.low (s - 1) (by omega) (by omega)
    have e1 := hL i (s - 1) hi1 (by omega) (by omega)
    have e2 := hR (mid + m - 1 - (s - 1)) j (by omega) (by omega) hj2
    omega
theorem sym_left {mid : Nat} (hmid : mid = (a + b) / 2) (ham : a < m) (hmb : m < b) (hle : m ≤ mid) (h : SymS f a m (mid + m - 1) s s) (hL : ∀ i j, a ≤ i → i ≤ j → j < m → f i ≤ f j) (hR : ∀ i j, m ≤ i → i ≤ j → j < b → f i ≤ f j) :
    a ≤ s ∧ s ≤ m ∧ m ≤ mid + m - s ∧ mid + m - s ≤ b ∧ (∀ i j, s ≤ i → i < m → m ≤ j → j < mid + m - s → f j < f i) ∧ (∀ i j, a ≤ i → i < s → mid + m - s ≤ j → j < b → f i ≤ f j) := by
  have h1 := h.h1; have h3 := h.h3
  refine ⟨by omega, by omega, by omega, by omega, fun i j hi1 hi2 hj1 hj2 => ?_, fun i j hi1 hi2 hj1 hj2 => ?_⟩
  · have e := h.high s (Nat.le_refl _) (by omega)
    have e1 := hL s i (by omega) hi1 hi2
    have e2 := hR j (mid + m - 1 - s) hj1 (by omega) (by omega)
    omega
  · have e := h.low (s - 1) (by omega) (by omega)
    have e1 := hL i (s - 1) hi1 (by omega) (by omega)
    have e2 := hR (mid + m - 1 - (s - 1)) j (by omega) (by omega) hj2
    omega
end
end Go.Proofs.Ytponbodiibkopaa
