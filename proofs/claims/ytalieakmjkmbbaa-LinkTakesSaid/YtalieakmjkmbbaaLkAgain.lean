/-
  LinkAgain: the plain law, the walk.
-/
import Derived.Test.YtalieakmjkmbbaaLive
namespace Go.Proofs.Ytalieakmjkmbbaa
open Go.RowKit Go.Sort
set_option linter.unusedVariables false

/-! ### plain -/
theorem againIt_twice {aft now : Int} (h : 1 ≤ aft) (x : It) : againIt aft now (againIt aft now x) = againIt aft now x := by
  unfold againIt
  by_cases hc : aft ≤ now - x.tm
  · rw [if_pos hc, if_neg (by show ¬ aft ≤ now - now; omega)]
  · rw [if_neg hc, if_neg hc]
theorem again_pure {aft now : Int} (h : 1 ≤ aft) (o : Ot) : againP (againP o aft now).1 aft now = ((againP o aft now).1, []) := by
  unfold againP
  simp only [List.map_map, Prod.mk.injEq, Ot.mk.injEq, true_and, and_true]
  refine ⟨List.map_congr_left fun x _ => againIt_twice h x, ?_⟩
  unfold againTold
  rw [List.map_eq_nil_iff, List.filter_eq_nil_iff]
  intro y hy
  obtain ⟨x, _, rfl⟩ := List.mem_map.1 hy
  simp only [decide_eq_true_eq]
  unfold againIt
  split
  · show ¬ aft ≤ now - now; omega
  · assumption
theorem againIt_tm {aft now : Int} (h0 : 0 ≤ now) (h1 : now ≤ 1073741824) {x : It} (hx : 0 ≤ x.tm ∧ x.tm ≤ 1073741824) : 0 ≤ (againIt aft now x).tm ∧ (againIt aft now x).tm ≤ 1073741824 := by
  unfold againIt; split
  · exact ⟨h0, h1⟩
  · exact hx
theorem OutFit.again {o : Ot} (h : OutFit o) (aft now : Int) : OutFit (againP o aft now).1 :=
  ⟨by simpa [againP] using h.sent, h.wait, fun x hx => by
    obtain ⟨y, hy, rfl⟩ := List.mem_map.1 hx
    have := h.text y hy
    unfold againIt; split <;> exact this, h.body⟩
/-- The world behind a call, and the argument's variable in it. -/
def Law1 (w W : World) (t : TypeId) (cs : Array Value) : Prop := Blk W w.heap.size t cs ∧ Below w.heap.size w W ∧ w.heap.size < W.heap.size
theorem Law1.start (w : World) (t : TypeId) (cs : Array Value) : Law1 w (w.alloc (.cells cs t)) t cs := ⟨Blk.new _ _ _ rfl, (Below.refl _ _).alloc (Nat.le_refl _) _, by simp⟩
theorem Law1.up {w W W' : World} {t : TypeId} {cs : Array Value} (h : Law1 w W t cs) (hb : Below W.heap.size W W') : Law1 w W' t cs :=
  ⟨h.1.below hb h.2.2, h.2.1.trans (hb.mono h.2.1.size), Nat.lt_of_lt_of_le h.2.2 hb.size⟩
theorem Law1.alloc {w W : World} {t : TypeId} {cs : Array Value} (h : Law1 w W t cs) (o : Obj) : Law1 w (W.alloc o) t cs := h.up ((Below.refl _ _).alloc (Nat.le_refl _) _)
set_option maxRecDepth 100000 in
set_option maxHeartbeats 4000000 in
theorem linkAgain_walk (o : Ot) (A : Option Addr) (n cap : Nat) (B : Option Addr) (m cap' : Nat) (aft now : Int) (w : World) (hs : OtArg w A n cap B m cap' o) :
    Calls Try.prog 4 #[.agg #[.int .i64 o.next, .slice A n cap, .slice B m cap'], .int .i64 aft, .int .i64 now] w fun e w' => e = .returned (.bool true) ∧ Below w.heap.size w w' := by
  have HS := Lib.hid hs; clear hs
  have hn64 := HS.out.n64
  go_enter Try.func4, Try.ntmps4
  go_upto_region 5 with (first
    | (go_at_call 8
       go_loud (skip
                refine (live_any _).mono ?_
                rintro e w1 ⟨rfl, hb1⟩
                have HM1 := Lib.hid ((Law1.start w 35 #[.int .i64 o.next, .slice A n cap, .slice B m cap']).up hb1)
                have a0 := HM1.out.1.cell 0 (v := .int .i64 o.next) rfl; have a1 := HM1.out.1.cell 1 (v := .slice A n cap) rfl; have a2 := HM1.out.1.cell 2 (v := .slice B m cap') rfl
                clear hb1))
    | (go_at_call 14
       go_loud (skip
                refine (fewOut_any _ o A n cap B m cap' (HS.out.at_.below HM1.out.2.1 HM1.out.2.1.size) HS.out.n64 HS.out.m64).mono ?_
                rintro e w2 ⟨⟨few, rfl⟩, hb2⟩
                have HM2 := Lib.hid (HM1.out.up hb2)
                clear a0 a1 a2
                have a0 := HM2.out.1.cell 0 (v := .int .i64 o.next) rfl; have a1 := HM2.out.1.cell 1 (v := .slice A n cap) rfl; have a2 := HM2.out.1.cell 2 (v := .slice B m cap') rfl
                clear hb2 HM1)))
  all_goals try (go_ret; exact ⟨rfl, HM2.out.2.1⟩)
  have c1 : 1 ≤ aft := by omega
  have c2 : aft ≤ 1073741824 := by omega
  have c3 : 0 ≤ now := by omega
  have c4 : now ≤ 1073741824 := by omega
  have d4 : decide (1073741824 < now) = false := decide_eq_false (by omega)
  have HC := Lib.hid (And.intro c1 (And.intro c2 (And.intro c3 c4)))
  have hnow : (Lit.int .i64 now).wf = true := WalkArith.wf_i64 ⟨by omega, by omega⟩
  go_wp2
  go_loopw [7, 38] (fun t i wr => ∃ k : Nat, k ≤ n ∧ i = .int .i64 k ∧ (∃ z : Nat, z ≤ k ∧ t = .int .i64 z ∧ Hid ((againTold aft now (o.sent.take k)).length = z ∧ (∀ x ∈ o.sent.take k, 0 ≤ x.tm ∧ x.tm ≤ 1073741824) ∧ Law1 w wr 35 #[.int .i64 o.next, .slice A n cap, .slice B m cap']))) (fun _ i _ => n - (intOf i).toNat)
  case atStart => exact ⟨0, Nat.zero_le _, rfl, 0, Nat.le_refl _, rfl, rfl, fun x hx => by simp at hx, HM2.out⟩
  case round =>
    obtain ⟨k, hk, rfl, z, hz, rfl, HR⟩ := hrel
    clear a0 a1 a2
    by_cases hlt : k < n
    · have hy := List.getElem?_eq_getElem (l := o.sent) (i := k) (by rw [HS.out.at_.sentN]; exact hlt)
      generalize o.sent[k]'(by rw [HS.out.at_.sentN]; exact hlt) = y at hy
      have hbe := HR.out.2.2.2.1
      obtain ⟨b', off', T', tn', tc', rfl, hlb, w1', w2', htn', hl', hm', hts', y0, y1, y2⟩ := (HS.out.at_.sent.below hbe hbe.size).item hy
      have HY := Lib.hid hy
      clear hy hbe htn' hl' hm' hts' w1' w2'
      by_cases t1 : y.tm < 0
      · have e1 : decide (y.tm < 0) = true := decide_eq_true t1
        go_wp2
        go_ret
        exact ⟨rfl, (HR.out.2.2.alloc _).2.1⟩
      have e1 : decide (y.tm < 0) = false := decide_eq_false t1
      by_cases t2 : 1073741824 < y.tm
      · have e2 : decide (1073741824 < y.tm) = true := decide_eq_true t2
        go_wp2
        go_ret
        exact ⟨rfl, (HR.out.2.2.alloc _).2.1⟩
      have e2 : decide (1073741824 < y.tm) = false := decide_eq_false t2
      have hall : ∀ x ∈ o.sent.take (k + 1), 0 ≤ x.tm ∧ x.tm ≤ 1073741824 := fun x hx => by
        rw [take_snoc' HY.out] at hx
        rcases List.mem_append.1 hx with hx | hx
        · exact HR.out.2.1 x hx
        · obtain rfl := List.mem_singleton.1 hx; omega
      have HA := Lib.hid hall; clear hall
      have hd1 : -9223372036854775808 ≤ now - y.tm := by omega
      have hd2 : now - y.tm ≤ 9223372036854775807 := by omega
      by_cases t3 : aft ≤ now - y.tm
      · have e3 : decide (aft ≤ now - y.tm) = true := decide_eq_true t3
        have HL := Lib.hid (show (againTold aft now (o.sent.take (k + 1))).length = z + 1 by rw [againTold_succ HY.out, if_pos t3, List.length_append, HR.out.1]; rfl)
        clear t1 t2 t3
        go_wp2
        go_roundw
        case measure => simp [intOf]; omega
        case rel => exact ⟨k + 1, by omega, by go_num, z + 1, by omega, by go_num, HL.out, HA.out, HR.out.2.2.alloc _⟩
      · have e3 : decide (aft ≤ now - y.tm) = false := decide_eq_false t3
        have HL := Lib.hid (show (againTold aft now (o.sent.take (k + 1))).length = z by rw [againTold_succ HY.out, if_neg t3, List.append_nil, HR.out.1])
        clear t1 t2 t3
        go_wp2
        go_roundw
        case measure => simp [intOf]; omega
        case rel => exact ⟨k + 1, by omega, by go_num, z, by omega, rfl, HL.out, HA.out, HR.out.2.2.alloc _⟩
    · have hf : o.sent.take k = o.sent := List.take_of_length_le (by rw [HS.out.at_.sentN]; omega)
      obtain ⟨hz1, hz2, hM⟩ := HR.out
      rw [hf] at hz1 hz2
      have HP := Lib.hid (And.intro hz1 hz2)
      have HM := Lib.hid hM
      have a0 := hM.1.cell 0 (v := .int .i64 o.next) rfl; have a1 := hM.1.cell 1 (v := .slice A n cap) rfl; have a2 := hM.1.cell 2 (v := .slice B m cap') rfl
      have HQ := Lib.hid (again_pure (aft := aft) (now := now) HC.out.1 o)
      clear hf hz1 hz2 hM HR
      go_upto_region 15 with (go_at_call 15
                              go_loud (skip
                                       refine (again_any wr o A n cap B m cap' aft now (HS.out.at_.below HM.out.2.1 HM.out.2.1.size) HS.out.fit hnow ⟨by omega, by omega⟩ (fun x hx => by have := HP.out.2 x hx; omega)).mono ?_
                                       rintro e w3 ⟨A1, n1, cap1, B1, m1, cap1', T1, k1, kc1, rfl, ho1, l1, l2, l3, l4, hk1, hox1, hb3⟩
                                       obtain ⟨a, ha⟩ : ∃ a, (againP o aft now).1 = a := ⟨_, rfl⟩
                                       have hk1' : k1 = z := by rw [← hk1, ← HP.out.1]; rfl
                                       rw [ha] at ho1 ⊢
                                       have hn1 : n1 = n := by rw [← ho1.sentN, ← ha, ← HS.out.at_.sentN]; simp [againP]
                                       subst hk1'
                                       subst hn1
                                       have H3 := Lib.hid (And.intro ha (And.intro ho1 (And.intro (maxLen_le (Nat.le_trans l3 l4)) hb3)))
                                       have HM3 := Lib.hid (HM.out.up hb3)
                                       clear a0 a1 a2 ha ho1 l1 l2 l3 l4 hk1 hox1 hb3))
      have hQ2 := HQ.out
      rw [H3.out.1] at hQ2
      have HQ2 := Lib.hid hQ2
      clear hQ2
      have hm1 := H3.out.2.2.1
      go_upto_region 16 with (go_at_call 15
                              go_loud (skip
                                       refine (again_any _ a A1 n1 cap1 B1 m1 cap1' aft now (H3.out.2.1.keep (S' := lo (w3.heap.size + 1)) (fun p hp => World.cell?_alloc_lt _ _ _ hp.2) (fun b hb => by have h9 := hb.2; show b < _; omega) |> fun h => by simpa using h) (by rw [← H3.out.1]; exact HS.out.fit.again aft now) hnow ⟨by omega, by omega⟩ (fun x hx => by
                                         rw [← H3.out.1] at hx
                                         obtain ⟨y, hy, rfl⟩ := List.mem_map.1 hx
                                         have := againIt_tm (aft := aft) HC.out.2.2.1 HC.out.2.2.2 (HP.out.2 y hy)
                                         omega)).mono ?_
                                       rw [HQ2.out]
                                       rintro e w5 ⟨A2, n2, cap2, B2, m2, cap2', T2, k2, kc2, rfl, ho2, _, _, _, _, hk2, hox2, hb5⟩
                                       obtain rfl : k2 = 0 := hk2.symm
                                       have gA := ((Blk.new w3 35 #[.int .i64 a.next, .slice A1 n1 cap1, .slice B1 m1 cap1'] rfl).below hb5 (by simp))
                                       have x0 := gA.cell 0 (v := .int .i64 a.next) rfl; have x1 := gA.cell 1 (v := .slice A1 n1 cap1) rfl; have x2 := gA.cell 2 (v := .slice B1 m1 cap1') rfl
                                       have z5 : w3.heap.size < w5.heap.size := gA.lt
                                       have HM5 := Lib.hid ((HM3.out.alloc _).up hb5)
                                       have H5 := Lib.hid (And.intro ho2 (And.intro hb5 gA))
                                       clear ho2 hk2 hox2 hb5 gA))
      go_wp2_with (go_at_call 16
                   go_loud (skip
                            refine (sameOut_any _ a A1 n1 cap1 B1 m1 cap1' a A2 n2 cap2 B2 m2 cap2' ?_ ?_ hn64 hm1).mono ?_
                            · exact H3.out.2.1.keep (fun p hp => (World.cell?_alloc_lt _ _ _ (by have := hp.2; omega)).trans ((H5.out.2.1.cell (by have := hp.2; simp; omega)).trans (World.cell?_alloc_lt _ _ _ hp.2))) (fun b hb => by have := hb.2; simp [lo]; omega)
                            · exact H5.out.1.keep (fun p hp => World.cell?_alloc_lt _ _ _ hp.2) (fun b hb => by have := hb.2; simp [lo]; omega)
                            rw [sameOt_iff.2 rfl]
                            rintro e w7 ⟨rfl, hb7⟩
                            have HM7 := Lib.hid ((HM5.out.alloc _).up hb7)
                            have a1 := HM7.out.1.cell 1 (v := .slice A n1 cap) rfl
                            have y1 := ((H5.out.2.2.alloc _).below hb7 (by simp; omega)).cell 1 (v := .slice A1 n1 cap1) rfl))
      go_ret
      exact ⟨rfl, HM7.out.2.1⟩
end Go.Proofs.Ytalieakmjkmbbaa
