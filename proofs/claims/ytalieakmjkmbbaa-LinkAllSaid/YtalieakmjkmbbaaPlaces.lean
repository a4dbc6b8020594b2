/-
  firstPlaces: of each number where its first item stands.
-/
import Derived.Test.YtalieakmjkmbbaaMapF
namespace Go.Proofs.Ytalieakmjkmbbaa
open Go.RowKit Go.Maps
set_option linter.unusedVariables false

def firstF (xs : List It) (k : Int) : Option Int := (xs.findIdx? (fun x => decide (x.sq = k))).map (fun n : Nat => (n : Int))
theorem firstF_nil (k : Int) : firstF [] k = none := rfl
theorem firstF_snoc (xs : List It) (y : It) (k : Int) : firstF (xs ++ [y]) k = if (firstF xs k).isSome = true then firstF xs k else if k = y.sq then some (xs.length : Int) else none := by
  unfold firstF
  rw [List.findIdx?_append]
  cases h : xs.findIdx? (fun x => decide (x.sq = k)) with
  | some n => simp
  | none =>
    by_cases hk : y.sq = k
    · simp [List.findIdx?_cons, hk]
    · have hk' : ¬ k = y.sq := fun e => hk e.symm
      simp [List.findIdx?_cons, hk, hk']
theorem run_makeMapH (w : World) (n : Int) : (Instr.makeMap 55 (some (.int .i64 n))).run Try.prog w = .ok (.map (some w.heap.size)) (w.alloc (.map #[] 0)) := by
  simp [Instr.makeMap, run_underlying Try.underlying55, asInt, asIntOf, Result.andThen]
def PlacesPost (xs : List It) (w : World) (e : Ending) (w' : World) : Prop := e = .returned (.map (some w.heap.size)) ∧ MapF w' w.heap.size xs.length (firstF xs) ∧ Below w.heap.size w w'
set_option maxHeartbeats 2000000 in
theorem places_any (A : Option Addr) (n c : Nat) (xs : List It) (hn : xs.length = n) (w : World) (h : Sl Rit w (lo w.heap.size) A xs) (hz : n ≤ 4000000000000) :
    Calls Try.prog 25 #[.slice A n c] w (PlacesPost xs w) := by
  have hmk := run_makeMapH
  have HX := Lib.hid (And.intro hn h); clear hn h
  go_enter Try.func25, Try.ntmps25
  go_wp2
  clear hmk
  go_loopw [14] (fun i wr => ∃ k : Nat, k ≤ n ∧ i = .int .i64 k ∧ MapF wr w.heap.size k (firstF (xs.take k)) ∧ Below w.heap.size w wr) (fun i _ => n - (intOf i).toNat)
  case atStart => exact ⟨0, Nat.zero_le _, rfl, by rw [show firstF (xs.take 0) = (fun _ => none) from funext fun k => by simp [firstF]]; exact MapF.made w, (Below.refl _ _).alloc (Nat.le_refl _) _⟩
  case round =>
    obtain ⟨wi, rfl⟩ : ∃ wi : World, wi = wr := ⟨_, rfl⟩
    obtain ⟨k, hk, rfl, hF, hbi⟩ := hrel
    by_cases hlt : k < n
    · have hy := List.getElem?_eq_getElem (l := xs) (i := k) (by rw [HX.out.1]; exact hlt)
      generalize xs[k]'(by rw [HX.out.1]; exact hlt) = y at hy
      obtain ⟨b', off', T', tn', tc', rfl, _, w1, w2, htn', _, _, hts', y0, y1, y2⟩ := (HX.out.2.below hbi hbi.size).item hy
      have hl := hF.lt
      have hz1 := hbi.size
      have hs : ∀ j, firstF (xs.take (k + 1)) j = if (firstF (xs.take k) j).isSome = true then firstF (xs.take k) j else if j = y.sq then some (k : Int) else none := fun j => by
        rw [take_snoc' hy, firstF_snoc, List.length_take, Nat.min_eq_left (by have := HX.out.1; omega)]
      have hF1 : MapF (wi.alloc (.cells #[.int .i64 y.sq, .slice T' tn' tc', .int .i64 y.tm] 38)) w.heap.size k (firstF (xs.take k)) := hF.keep (Below.heap_alloc wi _ _ hl)
      have hkw : (Lit.int .i64 (k : Int)).wf = true := WalkArith.wf_i64 ⟨by omega, by omega⟩
      obtain ⟨r, hr⟩ : ∃ r, firstF (xs.take k) y.sq = r := ⟨_, rfl⟩
      have hb1 : RowKit.Below w.heap.size w (wi.alloc (.cells #[.int .i64 y.sq, .slice T' tn' tc', .int .i64 y.tm] 38)) := hbi.alloc hz1 _
      have HF := Lib.hid (And.intro hF1 (And.intro hr (And.intro w1 (And.intro hs (And.intro hkw hb1)))))
      clear hF hy htn' hts' hF1 hr w1 w2 hs hkw hb1 hbi
      cases r with
      | some v =>
        go_wp2_with (at_lookup
                     go_loud (skip
                              refine wpList_lookup_F _ rfl _ _ rfl w.heap.size k (firstF (xs.take k)) rfl HF.out.1 y.sq rfl HF.out.2.2.1 ?_
                              rw [HF.out.2.1]
                              simp only [Option.getD_some, Option.isSome_some]))
        go_roundw
        case measure => simp [intOf]; omega
        case rel =>
          refine ⟨k + 1, by omega, by go_num, ?_, HF.out.2.2.2.2.2⟩
          have e : firstF (xs.take (k + 1)) = firstF (xs.take k) := funext fun j => by
            rw [HF.out.2.2.2.1 j]
            split
            · rfl
            · rename_i hns
              split
              · rename_i hj
                rw [hj, HF.out.2.1] at hns
                exact absurd rfl hns
              · cases h : firstF (xs.take k) j with
                | none => rfl
                | some _ => rw [h] at hns; exact absurd rfl hns
          rw [e]
          obtain ⟨D, ho, hD⟩ := HF.out.1
          exact ⟨D, ho.mono (by omega), hD⟩
      | none =>
        go_wp2_with (first
          | (at_lookup
             go_loud (skip
                      refine wpList_lookup_F _ rfl _ _ rfl w.heap.size k (firstF (xs.take k)) rfl HF.out.1 y.sq rfl HF.out.2.2.1 ?_
                      rw [HF.out.2.1]
                      simp only [Option.getD_none, Option.isSome_none]))
          | (at_mapUpdate
             go_loud (skip
                      refine wpList_update_F _ rfl _ _ _ rfl w.heap.size k (firstF (xs.take k)) rfl HF.out.1 (by simp only [maxLen]; omega) y.sq rfl HF.out.2.2.1 (k : Int) rfl HF.out.2.2.2.2.1 ?_
                      intro w6 hF6 hg6
                      have H6 := Lib.hid (And.intro hF6 (show RowKit.Below w.heap.size w w6 from HF.out.2.2.2.2.2.grown hg6 HF.out.2.2.2.2.2.size (fun g hg => by cases hg; exact Nat.le_refl _)))
                      clear hF6 hg6)))
        go_roundw
        case measure => simp [intOf]; omega
        case rel =>
          refine ⟨k + 1, by omega, by go_num, ?_, H6.out.2⟩
          have e : firstF (xs.take (k + 1)) = fun j => if j = y.sq then some (k : Int) else firstF (xs.take k) j := funext fun j => by
            rw [HF.out.2.2.2.1 j]
            by_cases hj : j = y.sq
            · rw [hj, HF.out.2.1]; simp
            · simp only [hj, if_false]
              split
              · rfl
              · rename_i hns
                cases h : firstF (xs.take k) j with
                | none => rfl
                | some _ => rw [h] at hns; exact absurd rfl hns
          rw [e]
          exact H6.out.1
    · have hf : xs.take k = xs := List.take_of_length_le (by rw [HX.out.1]; omega)
      rw [hf] at hF
      have HF := Lib.hid (And.intro hF hbi); clear hF hbi hf
      go_wp2
      go_ret
      refine ⟨rfl, ?_, HF.out.2⟩
      obtain ⟨D, ho, hD⟩ := HF.out.1
      exact ⟨D, ho.mono (by rw [HX.out.1]; omega), hD⟩
end Go.Proofs.Ytalieakmjkmbbaa
