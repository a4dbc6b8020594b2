/-
  A net: what Send comes to. Plain.
-/
import Derived.Test.YtponbodiibkopaaFlights
namespace Go.Proofs.Ytponbodiibkopaa
open Go.RowKit
set_option linter.unusedVariables false

structure Nt where
  list : List Fl
  fates : List Int
/-- When a frame of that fate arrives. -/
def atN (now fate : Int) : Int := wrap64 (wrap64 (now + 1) + fate % 16)
def fateN (n : Nt) : Int := n.fates.headD 0
def sendL (now fate fr tgt : Int) (b : List Int) : List Fl :=
  if fate < 0 then [] else if fate / 16 % 2 = 1 then [⟨atN now fate, fr, tgt, b⟩, ⟨wrap64 (atN now fate + 1), fr, tgt, b⟩] else [⟨atN now fate, fr, tgt, b⟩]
def sendN (n : Nt) (now fr tgt : Int) (b : List Int) : Nt := ⟨n.list ++ sendL now (fateN n) fr tgt b, n.fates.drop 1⟩
theorem sendL_len (now fate fr tgt : Int) (b : List Int) : (sendL now fate fr tgt b).length ≤ 2 := by
  unfold sendL; split
  · simp
  · split <;> simp
theorem sendL_mem {now fate fr tgt : Int} {b : List Int} : ∀ x ∈ sendL now fate fr tgt b, x.fr = fr ∧ x.tgt = tgt ∧ x.body = b := fun x hx => by
  unfold sendL at hx
  split at hx
  · simp at hx
  · split at hx
    · simp at hx
      rcases hx with rfl | rfl <;> exact ⟨rfl, rfl, rfl⟩
    · simp at hx
      subst hx; exact ⟨rfl, rfl, rfl⟩
/-- The times do not hang on the bytes, nor on who sends to whom. -/
theorem sendL_times (now fate fr tgt fr' tgt' : Int) (b b' : List Int) : (sendL now fate fr tgt b).map Fl.tm = (sendL now fate fr' tgt' b').map Fl.tm := by
  unfold sendL
  split
  · rfl
  · split <;> rfl
theorem sendL_none {now fr tgt : Int} {b : List Int} {n : Nt} (h : n.fates = []) : (sendL now (fateN n) fr tgt b).length = 1 := by
  unfold fateN; rw [h]; rfl
end Go.Proofs.Ytponbodiibkopaa
