/-
  copyBodies.
-/
import Derived.Test.YtalieakmjkmbbaaItems
namespace Go.Proofs.Ytalieakmjkmbbaa
open Go.RowKit Go.Sort
set_option linter.unusedVariables false

theorem body_round {G q j B : Nat} {t : TypeId} {wi w5 w0 : World} {y : List Int} {xs : List (List Int)} {T5 : Option Addr} {n5 c5 : Nat} (hF : Fill Rbd wi (fun b => G < b ∧ b < wi.heap.size) G t q (xs.take j)) (hy : xs[j]? = some y) (hq : xs.length = q) (hlt : j < q)
    (hb5 : Below wi.heap.size wi w5) (hs : Sl (Rint .u8) w5 (mid wi.heap.size w5.heap.size) T5 y) (hn : y.length = n5) (hl : n5 ≤ c5) (hm : c5 ≤ maxLen) (hB : B ≤ G) (hbi : Below B w0 wi) (w6 : World)
    (hw6 : w6 = w5.setCell ⟨G, j, none⟩ (.slice T5 n5 c5)) :
    ∃ j1 : Nat, j1 ≤ q ∧ Value.int .i64 ((j : Int) + 1) = .int .i64 j1 ∧ Fill Rbd w6 (fun b => G < b ∧ b < w6.heap.size) G t q (xs.take j1) ∧ Below B w0 w6 := by
  subst hw6
  have hG := hF.lt
  have hj := (List.getElem?_eq_some_iff.1 hy).1
  have e1 := take_snoc' hy
  have e2 : (xs.take j).length = j := by rw [List.length_take]; omega
  subst hn
  have h1 : Fill Rbd w5 (fun b => G < b ∧ b < w5.heap.size) G t q (xs.take j) := hF.up hb5 (fun b h => h.2) (fun b h => ⟨h.1, by have := hb5.size; have := h.2; omega⟩)
  have h2 := h1.store (x := y) (cs := [.slice T5 y.length c5]) (by rw [e2]; omega) ⟨T5, c5, rfl, hl, hm, hs.more fun b h => ⟨by have := h.1; omega, h.2⟩⟩ (by simp)
  rw [e2, show j * Rbd.size = j from Nat.mul_one j] at h2
  refine ⟨j + 1, by omega, by go_num, ?_, (hbi.trans (hb5.mono (by have := hbi.size; omega))).setCell (p := ⟨G, j, none⟩) hB _⟩
  rw [e1]
  exact h2.more (fun b hb => ⟨hb.1, by have : b < w5.heap.size := hb.2; simpa [World.setCell] using this⟩)
set_option maxHeartbeats 2000000 in
theorem copyBodies_any (A : Option Addr) (n c : Nat) (xs : List (List Int)) (hn : xs.length = n) (w : World) (h : Sl Rbd w (lo w.heap.size) A xs) (hz : n * 24 ≤ 140737488355328) (ht : ∀ x ∈ xs, x.length ≤ 140737488355328) :
    Calls Try.prog 28 #[.slice A n c] w (OwnPost Rbd 25 xs w) := by
  obtain ⟨mk, hmk, hmake⟩ := ei_bodies.make n (by omega) (by omega)
  have HMK := Lib.hid hmk
  have HX := Lib.hid (And.intro hn (And.intro h ht)); clear hmk hn h ht
  go_enter Try.func28, Try.ntmps28
  go_wp2
  go_loopw [4, 11] (fun _ i wr => ∃ j : Nat, j ≤ n ∧ i = .int .i64 j ∧ Fill Rbd wr (fun b => w.heap.size < b ∧ b < wr.heap.size) w.heap.size 25 n (xs.take j) ∧ Below w.heap.size w wr) (fun _ i _ => n - (intOf i).toNat)
  case atStart => exact ⟨0, Nat.zero_le _, rfl, Fill.start (Blk.new _ _ _ rfl) HMK.out, (Below.refl _ _).alloc (Nat.le_refl _) _⟩
  case round =>
    obtain ⟨wi, rfl⟩ : ∃ wi : World, wi = wr := ⟨_, rfl⟩
    obtain ⟨j, hj, rfl, hF, hbi⟩ := hrel
    by_cases hlt : j < n
    · have hy := List.getElem?_eq_getElem (l := xs) (i := j) (by rw [HX.out.1]; exact hlt)
      generalize xs[j]'(by rw [HX.out.1]; exact hlt) = y at hy
      have htz := HX.out.2.2 y (List.mem_of_getElem? hy)
      obtain ⟨b', off', T', tn', tc', rfl, _, htn', _, _, hts', y0⟩ := (HX.out.2.1.below hbi hbi.size).sub hy
      obtain ⟨p0, hp0⟩ := hF.cell (i := j) (by show _ < n * 1; omega)
      have fG := hF.frozen
      have hGl := hF.lt
      rw [htn'] at htz
      have HY := Lib.hid (And.intro hy (And.intro htn' (And.intro hts' (And.intro hF hbi))))
      clear hy htn' hts' hF hbi
      go_wp2_with (go_at_call 26
                   go_loud (skip
                            refine (cloneB_any T' y tn' tc' HY.out.2.1 _ HY.out.2.2.1 (by omega)).mono ?_
                            rintro e w5 ⟨T5, n5, c5, rfl, hn5, hl5, hm5, hs5, hb5⟩
                            obtain ⟨hcc, hff⟩ := bcell hb5
                            have q0 := (hcc w.heap.size j hGl).trans hp0
                            have fz : ∀ o, w5.frozen? ⟨w.heap.size, o, none⟩ = false := fun o => (hff w.heap.size o hGl).trans (fG o)
                            have H5 := Lib.hid (And.intro hn5 (And.intro hl5 (And.intro hm5 (And.intro hs5 hb5))))
                            clear hcc hff hn5 hl5 hm5 hs5 hb5))
      have H9 := Lib.hid (fun w6 => body_round (B := w.heap.size) (w0 := w) HY.out.2.2.2.1 HY.out.1 HX.out.1 hlt H5.out.2.2.2.2 H5.out.2.2.2.1 H5.out.1 H5.out.2.1 H5.out.2.2.1 (Nat.le_refl _) HY.out.2.2.2.2 w6)
      clear q0 fz
      go_roundw
      case measure => simp [intOf]; omega
      case rel => exact H9.out _ rfl
    · have hF' := hF
      rw [List.take_of_length_le (by rw [HX.out.1]; omega)] at hF'
      have HF := Lib.hid (And.intro hF' hbi)
      clear hF hF' hbi
      go_wp2
      go_ret
      exact ⟨_, n, n, rfl, HX.out.1, OwnX.ofFill HF.out.1 HX.out.1 (by simp only [maxLen]; omega) (fun k hk => ⟨by have := hk.1; omega, hk.2, fun h => h, by have := hk.1; omega⟩) (Nat.le_refl _) (fun h => h), HF.out.2⟩
end Go.Proofs.Ytalieakmjkmbbaa
