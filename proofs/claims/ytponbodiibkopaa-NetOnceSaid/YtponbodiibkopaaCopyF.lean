/-
  copyFlights: a list of flights of one's own.
-/
import Derived.Test.YtponbodiibkopaaNetP
namespace Go.Proofs.Ytponbodiibkopaa
open Go.RowKit Go.Sort
set_option linter.unusedVariables false

set_option maxHeartbeats 2000000 in
theorem copyFlights_any (A : Option Addr) (n c : Nat) (xs : List Fl) (hn : xs.length = n) (w : World) (h : Sl Rfl w (lo w.heap.size) A xs) (hz : n * 48 ≤ 140737488355328) (ht : ∀ x ∈ xs, x.body.length ≤ 140737488355328) :
    Calls Try.prog 19 #[.slice A n c] w (OwnPost Rfl 37 xs w) := by
  obtain ⟨mk, hmk, hmake⟩ := ei_flights.make n (by omega) (by omega)
  have HMK := Lib.hid hmk
  have HX := Lib.hid (And.intro hn (And.intro h ht)); clear hmk hn h ht
  go_enter Try.func19, Try.ntmps19
  go_wp2
  go_loopw [4, 11] (fun _ i wr => ∃ j : Nat, j ≤ n ∧ i = .int .i64 j ∧ Fill Rfl wr (fun b => w.heap.size < b ∧ b < wr.heap.size) w.heap.size 37 n (xs.take j) ∧ Below w.heap.size w wr) (fun _ i _ => n - (intOf i).toNat)
  case atStart => exact ⟨0, Nat.zero_le _, rfl, Fill.start (Blk.new _ _ _ rfl) HMK.out, (Below.refl _ _).alloc (Nat.le_refl _) _⟩
  case round =>
    obtain ⟨wi, rfl⟩ : ∃ wi : World, wi = wr := ⟨_, rfl⟩
    obtain ⟨j, hj, rfl, hF, hbi⟩ := hrel
    by_cases hlt : j < n
    · have hy := List.getElem?_eq_getElem (l := xs) (i := j) (by rw [HX.out.1]; exact hlt)
      generalize xs[j]'(by rw [HX.out.1]; exact hlt) = y at hy
      have htz := HX.out.2.2 y (List.mem_of_getElem? hy)
      obtain ⟨b', off', T', tn', tc', rfl, _, w1, w2, w3, htn', _, _, hts', y0, y1, y2, y3⟩ := (HX.out.2.1.below hbi hbi.size).flight hy
      obtain ⟨p0, hp0⟩ := hF.cell (i := j * 4) (by show _ < n * 4; omega)
      obtain ⟨p1, hp1⟩ := hF.cell (i := j * 4 + 1) (by show _ < n * 4; omega)
      obtain ⟨p2, hp2⟩ := hF.cell (i := j * 4 + 2) (by show _ < n * 4; omega)
      obtain ⟨p3, hp3⟩ := hF.cell (i := j * 4 + 3) (by show _ < n * 4; omega)
      have fG := hF.frozen
      have hGl := hF.lt
      rw [htn'] at htz
      have HY := Lib.hid (And.intro hy (And.intro htn' (And.intro hts' (And.intro w1 (And.intro w2 (And.intro w3 (And.intro hF hbi)))))))
      clear hy htn' hts' w1 w2 w3 hF hbi
      go_wp2_with (go_at_call 21
                   go_loud (skip
                            refine (cloneB_any T' y.body tn' tc' HY.out.2.1 _ (HY.out.2.2.1.below ((Below.refl _ _).alloc (Nat.le_refl _) _) (by simp)) (by omega)).mono ?_
                            rintro e w5 ⟨T5, n5, c5, rfl, hn5, hl5, hm5, hs5, hb5⟩
                            have gB := (Blk.new wi 37 #[.int .i64 y.tm, .int .i64 y.fr, .int .i64 y.tgt, .slice T' tn' tc'] rfl).below hb5 (by simp)
                            have b0 := gB.cell 0 (v := .int .i64 y.tm) rfl
                            have b1 := gB.cell 1 (v := .int .i64 y.fr) rfl
                            have b2 := gB.cell 2 (v := .int .i64 y.tgt) rfl
                            have b3 := gB.cell 3 (v := .slice T' tn' tc') rfl
                            have fB := gB.frozen
                            obtain ⟨hcc, hff⟩ := bcell hb5
                            have q0 := (hcc w.heap.size (j * 4) (by simp; omega)).trans ((World.cell?_alloc_lt _ _ _ hGl).trans hp0)
                            have q1 := (hcc w.heap.size (j * 4 + 1) (by simp; omega)).trans ((World.cell?_alloc_lt _ _ _ hGl).trans hp1)
                            have q2 := (hcc w.heap.size (j * 4 + 2) (by simp; omega)).trans ((World.cell?_alloc_lt _ _ _ hGl).trans hp2)
                            have q3 := (hcc w.heap.size (j * 4 + 3) (by simp; omega)).trans ((World.cell?_alloc_lt _ _ _ hGl).trans hp3)
                            have fz : ∀ o, w5.frozen? ⟨w.heap.size, o, none⟩ = false := by (intro o; rw [hff w.heap.size o (by simp; omega)]; exact (World.frozen?_alloc_past _ w.heap.size o hGl).trans (fG o))
                            have hne : wi.heap.size ≠ w.heap.size := by omega
                            have hne' : w.heap.size ≠ wi.heap.size := by omega
                            have H5 := Lib.hid (And.intro hn5 (And.intro hl5 (And.intro hm5 (And.intro hs5 hb5))))
                            clear hcc hff hn5 hl5 hm5 hs5 hb5 gB))
      have H9 := Lib.hid (fun w6 => flight_round (B := w.heap.size) (w0 := w) (W := wi.alloc (.cells #[.int .i64 y.tm, .int .i64 y.fr, .int .i64 y.tgt, .slice T' tn' tc'] 37)) (w5 := w5.setCell ⟨wi.heap.size, 3, none⟩ (.slice T5 n5 c5)) HY.out.2.2.2.2.2.2.1 HY.out.1 HX.out.1 hlt ((Below.refl wi.heap.size wi).alloc (Nat.le_refl _) _) ((H5.out.2.2.2.2.mono (by simp)).setCell (p := ⟨wi.heap.size, 3, none⟩) (Nat.le_refl _) _) ((H5.out.2.2.2.1.set (p := ⟨wi.heap.size, 3, none⟩) (fun hm => absurd hm.1 (by simp)) _).more fun b hb => ⟨by have := hb.1; simp at this; omega, by have := hb.2; simpa [World.setCell] using this⟩) HY.out.2.2.2.1 HY.out.2.2.2.2.1 HY.out.2.2.2.2.2.1 H5.out.1 H5.out.2.1 H5.out.2.2.1 (Nat.le_refl _) HY.out.2.2.2.2.2.2.2 w6)
      clear q0 q1 q2 q3 fz
      go_roundw
      case measure => simp [intOf]; omega
      case rel => exact H9.out _ rfl
    · have hF' := hF
      rw [List.take_of_length_le (by rw [HX.out.1]; omega)] at hF'
      have HF := Lib.hid (And.intro hF' hbi)
      clear hF hF' hbi
      go_wp2
      go_ret
      exact ⟨_, n, n, rfl, HX.out.1, OwnX.ofFill HF.out.1 HX.out.1 (by simp only [maxLen]; omega) (fun k hk => ⟨by have := hk.1; omega, hk.2, fun h => h, by have := hk.1; omega⟩) (Nat.le_refl _) (fun h => h), HF.out.2⟩
end Go.Proofs.Ytponbodiibkopaa
