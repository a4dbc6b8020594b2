/-
  Ack: the walk.
-/
import Derived.Test.YtalieakmjkmbbaaAckB
namespace Go.Proofs.Ytalieakmjkmbbaa
open Go.RowKit Go.Sort
set_option linter.unusedVariables false
set_option maxRecDepth 100000 in
set_option maxHeartbeats 4000000 in
theorem ack_any (w : World) (o : Ot) (AS : Option Addr) (nS cS : Nat) (AW : Option Addr) (nW cW : Nat) (n window now : Int) (ho : OutAt w (lo w.heap.size) AS nS AW nW o) (hcw : nW ≤ cW) (hcm : cW ≤ maxLen) (hs1 : nS + nW + 1 ≤ 3000000) (ht1 : ∀ x ∈ o.sent, x.body.length ≤ 140737488355328) (ht2 : ∀ x ∈ o.wait, x.length ≤ 140737488355328)
    (hx0 : 0 ≤ o.next) (hx1 : o.next < 4000000000000000000) (hnow : (Lit.int .i64 now).wf = true) :
    Calls Try.prog 18 #[.agg #[.int .i64 o.next, .slice AS nS cS, .slice AW nW cW], .int .i64 n, .int .i64 window, .int .i64 now] w (OutRet (ackP o n window now).1 (ackP o n window now).2 w) := by
  have hb0 : RowKit.Below w.heap.size w ((w.alloc (.cells #[.int .i64 o.next, .slice AS nS cS, .slice AW nW cW] 35)).alloc (.cells #[.int .i64 0, .slice none 0 0, .slice none 0 0] 35)) := ((Below.refl _ _).alloc (Nat.le_refl _) _).alloc (by simp) _
  have hz0 : ((w.alloc (.cells #[.int .i64 o.next, .slice AS nS cS, .slice AW nW cW] 35)).alloc (.cells #[.int .i64 0, .slice none 0 0, .slice none 0 0] 35)).heap.size = w.heap.size + 2 := by simp
  have hB := (Blk.new w 35 #[.int .i64 o.next, .slice AS nS cS, .slice AW nW cW] (g := w.heap.size) rfl).alloc (.cells #[.int .i64 0, .slice none 0 0, .slice none 0 0] 35)
  have hR := Blk.new (w.alloc (.cells #[.int .i64 o.next, .slice AS nS cS, .slice AW nW cW] 35)) 35 #[.int .i64 0, .slice none 0 0, .slice none 0 0] (g := w.heap.size + 1) (by simp)
  have ho0 := ho.below hb0 hb0.size
  have HO := Lib.hid (And.intro ho (And.intro ht1 ht2))
  clear ho ht1 ht2
  go_enter Try.func18, Try.ntmps18
  go_upto_block 0 with fail
  generalize ((w.alloc (.cells #[.int .i64 o.next, .slice AS nS cS, .slice AW nW cW] 35)).alloc (.cells #[.int .i64 0, .slice none 0 0, .slice none 0 0] 35)) = w0 at *
  have hb1 : RowKit.Below w0.heap.size w0 (w0.alloc (.cells #[.int .i64 o.next, .slice none 0 0, .slice none 0 0] 35)) := (Below.refl _ _).alloc (Nat.le_refl _) _
  have hE1 := Blk.new w0 35 #[.int .i64 o.next, .slice none 0 0, .slice none 0 0] (g := w.heap.size + 1 + 1) (by omega)
  generalize (w0.alloc (.cells #[.int .i64 o.next, .slice none 0 0, .slice none 0 0] 35)) = w1 at *
  have z1 := hb1.size
  have H1 := Lib.hid (And.intro (hb0.trans (hb1.mono (by omega))) (And.intro (hB.below hb1 (by omega)) (And.intro (hR.below hb1 (by omega)) (And.intro hE1 (show OutAt w1 (lo w0.heap.size) AS nS AW nW o from ho0.keep (fun p hp => hb1.cell hp) (fun _ h => h))))))
  clear hb0 hB hR ho0 hb1 hE1
  have hwN := HO.out.1.waitN
  refine ack_loop1 w1 w0.heap.size (w.heap.size + 1 + 1) (.int .i64 o.next) (.slice none 0 0) n AS nS cS o.sent H1.out.2.2.2.1 (by omega) H1.out.2.2.2.2.sent HO.out.1.sentN (le40 (by omega)) HO.out.2.1 ?_
  intro d12 d21 d22 d23 d24 d25 d26 d27 d28 d29 d30 d31 d32 d33 d34 d35 d36 vS w3 hA
  have hz3 := hA.2.2.size
  have hV : AkV w3 w3 w0.heap.size (w.heap.size + 1 + 1) o.next (.slice none 0 0) vS (.slice none 0 0) (ackSent n o.sent) [] := ⟨hA.1, hA.2.1.less (fun k _ _ h1 h2 => h2.elim h1 (fun e => by simp [Value.ownBlock] at e)), OwnX.nil _ _ _ _ _, Below.refl _ _⟩
  have hbx := (H1.out.2.1.cell 2 (v := .slice AW nW cW) rfl)
  have hbx3 := (hA.2.2.cell (p := ⟨w.heap.size, 2, none⟩) (by show w.heap.size < _; omega)).trans hbx
  have H3 := Lib.hid (And.intro hV (And.intro hbx3 (And.intro (H1.out.1.trans (hA.2.2.mono (by omega))) (And.intro hA.2.2 (H1.out.2.2.2.2.wait.keep (w' := w3) (S' := lo w0.heap.size) (fun p hp => hA.2.2.cell hp) (fun _ h => h))))))
  have hlen : (ackSent n o.sent).length ≤ nS := by (have h9 := HO.out.1.sentN; have h8 : (ackSent n o.sent).length ≤ o.sent.length := List.length_filter_le _ _; omega)
  clear hA hV hbx hbx3
  obtain ⟨m, hm⟩ : ∃ m, ackT o n window = m := ⟨_, rfl⟩
  have hm2 : m = min nW (window - ((ackSent n o.sent).length : Int)).toNat := by rw [← hm]; unfold ackT; rw [hwN]
  have HM := Lib.hid hm
  have hmn : m ≤ nW := by omega
  go_upto_block 2 with fail
  refine ack_loop2 w3 w0.heap.size (w.heap.size + 1 + 1) w.heap.size o.next now window (.slice none 0 0) vS (ackSent n o.sent) AW nW cW o.wait m H3.out.1 (by omega) (by omega) H3.out.2.1 H3.out.2.2.2.2 hwN hm2 (by omega) HO.out.2.2 hx0 hx1 hnow ?_
  clear hm hm2 hlen
  intro d37 d38 d39 d40 d41 d42 d43 d44 d45 d46 d47 d48 d49 d50 d51 d52 d53 d54 d55 d56 d57 d58 d59 d60 vS' vT w4 hA
  have hz4 := hA.bel.size
  have hlE4 := hA.hE.lt
  obtain ⟨sA, sc, hsA⟩ := hA.hS.form
  obtain ⟨tA, tc, htA⟩ := hA.hT.form
  have HA := Lib.hid (And.intro hA (And.intro hsA htA))
  obtain ⟨SN, hSN⟩ : ∃ SN, (ackSent n o.sent ++ numL o.next now (o.wait.take m)).length = SN := ⟨_, rfl⟩
  obtain ⟨TN, hTN⟩ : ∃ TN, (numL o.next now (o.wait.take m)).length = TN := ⟨_, rfl⟩
  rw [hSN] at hsA
  rw [hTN] at htA
  subst hsA
  subst htA
  have HN := Lib.hid (And.intro hSN hTN)
  have x2 := (hA.bel.cell (p := ⟨w.heap.size, 2, none⟩) (by show w.heap.size < _; omega)).trans H3.out.2.1
  have e2 := hA.hE.cell 2 (v := .slice none 0 0) rfl
  have hb14 : RowKit.Below w0.heap.size w1 w4 := H3.out.2.2.2.1.trans hA.bel
  have hR4 := H1.out.2.2.1.below hb14 (by omega)
  have H4 := Lib.hid (And.intro hR4 (And.intro (show Sl Rbd w4 (lo w4.heap.size) AW o.wait from H3.out.2.2.2.2.keep (fun p hp => hA.bel.cell hp) (fun b hb => by have : b < w0.heap.size := hb; show b < _; omega)) hb14))
  clear hA hSN hTN hb14 hR4
  have hmi : (0 : Int) ≤ (m : Int) := by omega
  have hmi2 : (m : Int) ≤ (nW : Int) := by omega
  by_cases hlt : m < nW
  · have hwl : o.wait[m]? ≠ none := by rw [List.getElem?_eq_getElem (by omega)]; simp
    obtain ⟨y, hy⟩ := Option.ne_none_iff_exists'.1 hwl
    obtain ⟨b', off', T', tn', tc', rfl, _⟩ := HO.out.1.wait.sub hy
    have hne : ¬ cW = m := by omega
    have HD := Lib.hid (And.intro (show (o.wait.drop m).length = nW - m by rw [List.length_drop, hwN]) (show Sl Rbd w4 (lo w4.heap.size) (some ⟨b', off' + m, none⟩) (o.wait.drop m) from fun i x hx => by
      rw [List.getElem?_drop] at hx
      obtain ⟨b9, off9, cs, hA9, hb9, hr9, hc9⟩ := H4.out.2.1 (m + i) x hx
      injection hA9 with hA9; injection hA9 with e1 e2 _
      subst e1 e2
      refine ⟨b', off' + m, cs, rfl, hb9, hr9, fun j v hj => ?_⟩
      have := hc9 j v hj
      rwa [show off' + (m + i) * Rbd.size = off' + m + i * Rbd.size by show off' + (m + i) * 1 = off' + m + i * 1; omega] at this))
    clear hwl hy
    go_wp2_with (go_at_call 28
                 go_loud (skip
                          refine (copyBodies_any (some ⟨b', off' + m, none⟩) (nW - m) (cW - m) (o.wait.drop m) HD.out.1 w4 HD.out.2 (by omega) (fun x hx => HO.out.2.2 x (List.mem_of_mem_drop hx))).mono ?_
                          rintro e w5 ⟨A5, n5, c5, rfl, hn5, ho5, hb5⟩
                          have hE5 := HA.out.1.hE.below hb5 hlE4
                          have hR5 := H4.out.1.below hb5 (by omega)
                          have z5 := hb5.size
                          clear x2 e2
                          have e0 := hE5.cell 0 (v := .int .i64 (o.next + m)) rfl; have e1 := hE5.cell 1 (v := .slice sA SN sc) rfl; have e2 := hE5.cell 2 (v := .slice none 0 0) rfl; have fE := hE5.frozen
                          have r0 := hR5.cell 0 (v := .int .i64 0) rfl; have r1 := hR5.cell 1 (v := .slice none 0 0) rfl; have r2 := hR5.cell 2 (v := .slice none 0 0) rfl; have fR := hR5.frozen
                          have zE := hE5.lt; have zR := hR5.lt
                          have H5 := Lib.hid (And.intro hn5 (And.intro ho5 hb5))
                          clear hn5 ho5 hb5 hE5 hR5
                          skip))
    refine bodyPost_ret (v := .tuple #[.agg #[.int .i64 (o.next + m), .slice sA SN sc, .slice A5 n5 c5], .slice tA TN tc]) (by simp [results, Try.results18, go_sem, r0, r1, r2]) rfl ?_
    have hlow : ∀ i : Nat, (Addr.mk (w.heap.size + 1) i none).block < w0.heap.size := fun i => by show w.heap.size + 1 < _; omega
    have hlo4 : ∀ i : Nat, (Addr.mk (w.heap.size + 1) i none).block < w4.heap.size := fun i => by show w.heap.size + 1 < _; omega
    have hb5 := H5.out.2.2
    have hA := HA.out.1
    have k1 := ((((((hA.hS.up hb5).far (p := ⟨w.heap.size + 1 + 1, 2, none⟩) (.inl rfl) (.slice A5 n5 c5)).low (hlow 0) (.int .i64 (o.next + m))).low (hlow 1) (.slice sA SN sc)).low (hlow 2) (.slice A5 n5 c5))).base (B' := w.heap.size) (by omega)
    have k2 := ((((H5.out.2.1.low (p := ⟨w.heap.size + 1 + 1, 2, none⟩) hlE4 (.slice A5 n5 c5)).low (hlo4 0) (.int .i64 (o.next + m))).low (hlo4 1) (.slice sA SN sc)).low (hlo4 2) (.slice A5 n5 c5)).base (B' := w.heap.size) (by omega)
    have k3 := ((((((hA.hT.up hb5).far (p := ⟨w.heap.size + 1 + 1, 2, none⟩) (.inl rfl) (.slice A5 n5 c5)).low (hlow 0) (.int .i64 (o.next + m))).low (hlow 1) (.slice sA SN sc)).low (hlow 2) (.slice A5 n5 c5))).base (B' := w.heap.size) (by omega)
    have hP : ackP o n window now = (⟨o.next + m, ackSent n o.sent ++ numL o.next now (o.wait.take m), o.wait.drop m⟩, numL o.next now (o.wait.take m)) := by unfold ackP; rw [HM.out]
    rw [hP]
    exact OutRet.mk' (o := ⟨o.next + m, ackSent n o.sent ++ numL o.next now (o.wait.take m), o.wait.drop m⟩) k1 k2 k3 ((((((H3.out.2.2.1.trans (hA.bel.mono (by omega))).trans (hb5.mono (by omega))).setCell (p := ⟨w.heap.size + 1 + 1, 2, none⟩) (by show w.heap.size ≤ w.heap.size + 1 + 1; omega) _).setCell (p := ⟨w.heap.size + 1, 0, none⟩) (by simp) _).setCell (p := ⟨w.heap.size + 1, 1, none⟩) (by simp) _).setCell (p := ⟨w.heap.size + 1, 2, none⟩) (by simp) _)
  · obtain rfl : m = nW := by omega
    have hd0 : o.wait.drop m = [] := List.drop_eq_nil_of_le (by omega)
    have HD := Lib.hid hd0
    clear hd0 hlt
    go_wp2_with (go_at_call 28
                 go_loud (skip
                          refine (copyBodies_any _ 0 _ [] rfl w4 (Sl.nil _ _ _ _) (by omega) (fun x hx => by cases hx)).mono ?_
                          rw [← HD.out]
                          rintro e w5 ⟨A5, n5, c5, rfl, hn5, ho5, hb5⟩
                          have hE5 := HA.out.1.hE.below hb5 hlE4
                          have hR5 := H4.out.1.below hb5 (by omega)
                          have z5 := hb5.size
                          clear x2 e2
                          have e0 := hE5.cell 0 (v := .int .i64 (o.next + m)) rfl; have e1 := hE5.cell 1 (v := .slice sA SN sc) rfl; have e2 := hE5.cell 2 (v := .slice none 0 0) rfl; have fE := hE5.frozen
                          have r0 := hR5.cell 0 (v := .int .i64 0) rfl; have r1 := hR5.cell 1 (v := .slice none 0 0) rfl; have r2 := hR5.cell 2 (v := .slice none 0 0) rfl; have fR := hR5.frozen
                          have zE := hE5.lt; have zR := hR5.lt
                          have H5 := Lib.hid (And.intro hn5 (And.intro ho5 hb5))
                          clear hn5 ho5 hb5 hE5 hR5
                          skip))
    all_goals
      refine bodyPost_ret (v := .tuple #[.agg #[.int .i64 (o.next + m), .slice sA SN sc, .slice A5 n5 c5], .slice tA TN tc]) (by simp [results, Try.results18, go_sem, r0, r1, r2]) rfl ?_
      have hlow : ∀ i : Nat, (Addr.mk (w.heap.size + 1) i none).block < w0.heap.size := fun i => by show w.heap.size + 1 < _; omega
      have hlo4 : ∀ i : Nat, (Addr.mk (w.heap.size + 1) i none).block < w4.heap.size := fun i => by show w.heap.size + 1 < _; omega
      have hb5 := H5.out.2.2
      have hA := HA.out.1
      have k1 := ((((((hA.hS.up hb5).far (p := ⟨w.heap.size + 1 + 1, 2, none⟩) (.inl rfl) (.slice A5 n5 c5)).low (hlow 0) (.int .i64 (o.next + m))).low (hlow 1) (.slice sA SN sc)).low (hlow 2) (.slice A5 n5 c5))).base (B' := w.heap.size) (by omega)
      have k2 := ((((H5.out.2.1.low (p := ⟨w.heap.size + 1 + 1, 2, none⟩) hlE4 (.slice A5 n5 c5)).low (hlo4 0) (.int .i64 (o.next + m))).low (hlo4 1) (.slice sA SN sc)).low (hlo4 2) (.slice A5 n5 c5)).base (B' := w.heap.size) (by omega)
      have k3 := ((((((hA.hT.up hb5).far (p := ⟨w.heap.size + 1 + 1, 2, none⟩) (.inl rfl) (.slice A5 n5 c5)).low (hlow 0) (.int .i64 (o.next + m))).low (hlow 1) (.slice sA SN sc)).low (hlow 2) (.slice A5 n5 c5))).base (B' := w.heap.size) (by omega)
      have hP : ackP o n window now = (⟨o.next + m, ackSent n o.sent ++ numL o.next now (o.wait.take m), o.wait.drop m⟩, numL o.next now (o.wait.take m)) := by unfold ackP; rw [HM.out]
      rw [hP]
      exact OutRet.mk' (o := ⟨o.next + m, ackSent n o.sent ++ numL o.next now (o.wait.take m), o.wait.drop m⟩) k1 k2 k3 ((((((H3.out.2.2.1.trans (hA.bel.mono (by omega))).trans (hb5.mono (by omega))).setCell (p := ⟨w.heap.size + 1 + 1, 2, none⟩) (by show w.heap.size ≤ w.heap.size + 1 + 1; omega) _).setCell (p := ⟨w.heap.size + 1, 0, none⟩) (by simp) _).setCell (p := ⟨w.heap.size + 1, 1, none⟩) (by simp) _).setCell (p := ⟨w.heap.size + 1, 2, none⟩) (by simp) _)
      skip
end Go.Proofs.Ytalieakmjkmbbaa
