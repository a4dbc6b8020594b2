/-
  StoreApart: the plain law, the walk.
-/
import Derived.Test.YtcmdmmphakclmaaStoreK
namespace Go.Proofs.Ytcmdmmphakclmaa
open Go.RowKit Go.Sort
set_option linter.unusedVariables false

/-! ### plain -/
theorem apart_pure {s : St} (hc : checkB s = true) (l : Lt) : ∃ a c, putR s l = (a, c, 0) ∧ a.last.length = s.last.length ∧ a.boxes.length = s.boxes.length ∧
    (∀ (i : Nat) (x x' : Int), s.last[i]? = some x → a.last[i]? = some x' → x' = x ∨ (l.fr = (i : Int) ∧ x' = x + 1 ∧ c = 1)) ∧ (∀ (i : Nat) (b b' : List Lt), s.boxes[i]? = some b → a.boxes[i]? = some b' → b' = b ∨ (l.to = (i : Int) ∧ b' = b ++ [l])) := by
  have e : putR s l = ((putS s l).1, (putS s l).2, 0) := by unfold putR; rw [if_pos hc]
  have same : ∀ c, putS s l = (s, c) → ∃ a c, putR s l = (a, c, 0) ∧ a.last.length = s.last.length ∧ a.boxes.length = s.boxes.length ∧
    (∀ (i : Nat) (x x' : Int), s.last[i]? = some x → a.last[i]? = some x' → x' = x ∨ (l.fr = (i : Int) ∧ x' = x + 1 ∧ c = 1)) ∧ (∀ (i : Nat) (b b' : List Lt), s.boxes[i]? = some b → a.boxes[i]? = some b' → b' = b ∨ (l.to = (i : Int) ∧ b' = b ++ [l])) := fun c h => by
    rw [h] at e
    exact ⟨s, c, e, rfl, rfl, fun i x x' h1 h2 => .inl (by rw [h1] at h2; exact (Option.some.inj h2).symm), fun i b b' h1 h2 => .inl (by rw [h1] at h2; exact (Option.some.inj h2).symm)⟩
  rcases putS_cases s l with h | h | ⟨h1, h2, h3, h4, h5, h6⟩
  · exact same 0 h
  · exact same 1 h
  · rw [h6] at e
    obtain ⟨_, f0, _, t0, _⟩ := keep_bounds h1
    refine ⟨putIn s l, 1, e, by simp [putIn], by simp [putIn], fun i x x' hx hx' => ?_, fun i b b' hb hb' => ?_⟩
    · simp only [putIn, List.getElem?_set] at hx'
      split at hx'
      · rename_i hi
        split at hx'
        · obtain rfl := Option.some.inj hx'
          refine .inr ⟨by omega, ?_, rfl⟩
          have : lastOf s l.fr = x := by unfold lastOf; rw [List.getD_eq_getElem?_getD, hi, hx]; rfl
          omega
        · cases hx'
      · rw [hx] at hx'; exact .inl (Option.some.inj hx').symm
    · simp only [putIn, List.getElem?_set] at hb'
      split at hb'
      · rename_i hi
        split at hb'
        · obtain rfl := Option.some.inj hb'
          refine .inr ⟨by omega, ?_⟩
          have : boxOf s l.to = b := by unfold boxOf; rw [List.getD_eq_getElem?_getD, hi, hb]; rfl
          rw [this]
        · cases hb'
      · rw [hb] at hb'; exact .inl (Option.some.inj hb').symm

theorem Sl.take' {α : Type} {R : Rdr α} {w : World} {S : Nat → Prop} {A : Option Addr} {xs ys : List α} (h : Sl R w S A (xs ++ ys)) : Sl R w S A xs := by
  intro i x hx
  exact h i x (by rw [List.getElem?_append_left (List.getElem?_eq_some_iff.1 hx).1]; exact hx)
/-! ### the walk -/
set_option maxHeartbeats 1000000 in
theorem apart_bad (A : Option Addr) (n cap : Nat) (B : Option Addr) (m cap' : Nat) (s : St) (l : Lt) (T : Option Addr) (tn tc : Nat) (w : World) (hs : StArg w A n cap B m cap' s) (hl : LtAt w (lo w.heap.size) T tn tc l) (hc : ¬ checkB s = true) :
    Calls Try.prog 5 #[.agg #[.slice A n cap, .slice B m cap'], .agg #[.bool l.cover, .int .i64 l.fr, .int .i64 l.to, .int .u64 l.sq, .slice T tn tc]] w fun e w' => e = .returned (.bool true) ∧ Below w.heap.size w w' := by
  have HS := Lib.hid hs; have HL := Lib.hid hl; clear hs hl
  have HC := Lib.hid (And.intro (show putR s l = (noSt, 0, 1) by unfold putR; rw [if_neg hc]) True.intro)
  clear hc
  go_enter Try.func5, Try.ntmps5
  go_wp2_with (first
        | (go_at_call 9
           go_loud (skip
                    refine (live_any _).mono ?_
                    rintro e w1 ⟨rfl, hb1⟩
                    have HM1 := Lib.hid ((LawMem.start w (.slice A n cap) (.slice B m cap') (.bool l.cover) (.int .i64 l.fr) (.int .i64 l.to) (.int .u64 l.sq) (.slice T tn tc)).up hb1)
                    obtain ⟨a0, a1, b0, b1, b2, b3, b4, z0, z1⟩ := HM1.out.cells
                    clear hb1))
        | (go_at_call 14
           go_loud (skip
                    refine (few_any A n cap B m cap' s _ (HS.out.at_.below HM1.out.2.2.1 HM1.out.2.2.1.size) HS.out.m64).mono ?_
                    rintro e w2 ⟨⟨few, rfl⟩, hb2⟩
                    have HM2 := Lib.hid (HM1.out.up hb2)
                    clear a0 a1 b0 b1 b2 b3 b4 z0 z1
                    obtain ⟨a0, a1, b0, b1, b2, b3, b4, z0, z1⟩ := HM2.out.cells
                    clear hb2 HM1))
        | (go_at_call 11
           go_loud (skip
                    refine (put_any A n cap B m cap' s l T tn tc w2 (HS.out.at_.below HM2.out.2.2.1 HM2.out.2.2.1.size) (HS.out.fit.mono (by omega)) (HL.out.below HM2.out.2.2.1 HM2.out.2.2.1.size)).mono ?_
                    rw [HC.out.1]
                    rintro e w3 ⟨A1, n1, cap1, B1, m1, cap1', rfl, hst1, hc1, hc2, hc3, hc4, hb3⟩
                    have HM3 := Lib.hid (HM2.out.up hb3)
                    clear a0 a1 b0 b1 b2 b3 b4 z0 z1
                    obtain ⟨a0, a1, b0, b1, b2, b3, b4, z0, z1⟩ := HM3.out.cells
                    have HA1 := Lib.hid hst1.lo
                    have hn63 := maxLen_le (Nat.le_trans hc1 hc2); have hm63 := maxLen_le (Nat.le_trans hc3 hc4)
                    clear hst1 hc1 hc2 hc3 hc4 hb3))
    )
  all_goals go_ret
  all_goals first | exact ⟨rfl, (HM3.out.alloc _).2.2.1⟩ | exact ⟨rfl, HM2.out.2.2.1⟩
set_option maxRecDepth 100000 in
set_option maxHeartbeats 8000000 in
theorem apart_main (A : Option Addr) (n cap : Nat) (B : Option Addr) (m cap' : Nat) (s : St) (l : Lt) (T : Option Addr) (tn tc : Nat) (w : World) (hs : StArg w A n cap B m cap' s) (hl : LtAt w (lo w.heap.size) T tn tc l) (hc : checkB s = true) :
    Calls Try.prog 5 #[.agg #[.slice A n cap, .slice B m cap'], .agg #[.bool l.cover, .int .i64 l.fr, .int .i64 l.to, .int .u64 l.sq, .slice T tn tc]] w fun e w' => e = .returned (.bool true) ∧ Below w.heap.size w w' := by
  obtain ⟨a, c, e1, e2, e3, e4, e5⟩ := apart_pure hc l
  obtain ⟨hp1, hp8, hpm⟩ := check_lens hc
  have HC := Lib.hid (And.intro e1 True.intro)
  have HP := Lib.hid (And.intro e2 (And.intro e3 (And.intro e4 e5)))
  have hnl := hs.at_.lastN; have hml := hs.at_.boxesN
  obtain rfl : m = n := by omega
  have hm8 : m ≤ 8 := by omega
  have HNM := Lib.hid (And.intro hnl hml)
  have HS := Lib.hid hs; have HL := Lib.hid hl; clear hs hl e1 e2 e3 e4 e5 hc hnl hml hpm
  go_enter Try.func5, Try.ntmps5
  go_upto_region 6 with (first
        | (go_at_call 9
           go_loud (skip
                    refine (live_any _).mono ?_
                    rintro e w1 ⟨rfl, hb1⟩
                    have HM1 := Lib.hid ((LawMem.start w (.slice A m cap) (.slice B m cap') (.bool l.cover) (.int .i64 l.fr) (.int .i64 l.to) (.int .u64 l.sq) (.slice T tn tc)).up hb1)
                    obtain ⟨a0, a1, b0, b1, b2, b3, b4, z0, z1⟩ := HM1.out.cells
                    clear hb1))
        | (go_at_call 14
           go_loud (skip
                    refine (few_any A m cap B m cap' s _ (HS.out.at_.below HM1.out.2.2.1 HM1.out.2.2.1.size) HS.out.m64).mono ?_
                    rintro e w2 ⟨⟨few, rfl⟩, hb2⟩
                    have HM2 := Lib.hid (HM1.out.up hb2)
                    clear a0 a1 b0 b1 b2 b3 b4 z0 z1
                    obtain ⟨a0, a1, b0, b1, b2, b3, b4, z0, z1⟩ := HM2.out.cells
                    clear hb2 HM1))
        | (go_at_call 11
           go_loud (skip
                    refine (put_any A m cap B m cap' s l T tn tc w2 (HS.out.at_.below HM2.out.2.2.1 HM2.out.2.2.1.size) (HS.out.fit.mono (by omega)) (HL.out.below HM2.out.2.2.1 HM2.out.2.2.1.size)).mono ?_
                    rw [HC.out.1]
                    rintro e w3 ⟨A1, n1, cap1, B1, m1, cap1', rfl, hst1, hc1, hc2, hc3, hc4, hb3⟩
                    have HM3 := Lib.hid (HM2.out.up hb3)
                    clear a0 a1 b0 b1 b2 b3 b4 z0 z1
                    obtain ⟨a0, a1, b0, b1, b2, b3, b4, z0, z1⟩ := HM3.out.cells
                    have HA1 := Lib.hid hst1.lo
                    have hn63 := maxLen_le (Nat.le_trans hc1 hc2); have hm63 := maxLen_le (Nat.le_trans hc3 hc4)
                    clear hst1 hc1 hc2 hc3 hc4 hb3))
    )
  · go_ret
    exact ⟨rfl, HM2.out.2.2.1⟩
  · go_ret
    exact ⟨rfl, HM2.out.2.2.1⟩
  · obtain rfl : n1 = m := by rw [← HA1.out.lastN, HP.out.1, HNM.out.1]
    obtain rfl : m1 = n1 := by rw [← HA1.out.boxesN, HP.out.2.1, HNM.out.2]
    have HGA := Lib.hid (Blk.new w3 28 #[.slice A1 m1 cap1, .slice B1 m1 cap1'] rfl)
    have HLM := Lib.hid (HM3.out.alloc (.cells #[.slice A1 m1 cap1, .slice B1 m1 cap1'] 28))
    have HAA := Lib.hid (HA1.out.below (w' := w3.alloc (.cells #[.slice A1 m1 cap1, .slice B1 m1 cap1'] 28)) (B1 := (w3.alloc (.cells #[.slice A1 m1 cap1, .slice B1 m1 cap1'] 28)).heap.size) ((Below.refl _ _).alloc (Nat.le_refl _) _) (by simp))
    have HSS := Lib.hid (HS.out.at_.below HLM.out.2.2.1 HLM.out.2.2.1.size)
    have HLL := Lib.hid (HL.out.below HLM.out.2.2.1 HLM.out.2.2.1.size)
    obtain ⟨NA, hNA⟩ : ∃ NA, w3.heap.size = NA := ⟨_, rfl⟩
    generalize hW4 : w3.alloc (.cells #[.slice A1 m1 cap1, .slice B1 m1 cap1'] 28) = W4 at *
    clear hW4 HM3 HA1
    rw [hNA] at *
    clear hNA
    clear a0 a1 b0 b1 b2 b3 b4 z0 z1
    obtain ⟨a0, a1, b0, b1, b2, b3, b4, z0, z1⟩ := HLM.out.cells
    have x0 := HGA.out.cell 0 (v := .slice A1 m1 cap1) rfl; have x1 := HGA.out.cell 1 (v := .slice B1 m1 cap1') rfl
    go_wp2
    go_loopw [8, 54] (fun su i wr => ∃ k : Nat, k ≤ m1 ∧ i = .int .i64 k ∧ ∃ t : Nat, su = .int .i64 t ∧ t ≤ 1 ∧ Hid (t = 1 → l.fr < (k : Int)) ∧ Below W4.heap.size W4 wr) (fun _ i _ => m1 - (intOf i).toNat)
    case atStart => exact ⟨0, Nat.zero_le _, rfl, 0, rfl, by omega, fun h => by omega, Below.refl _ _⟩
    case round =>
      clear a0 a1 b0 b1 b2 b3 b4 z0 z1 x0 x1
      obtain ⟨k, hk, rfl, t, rfl, ht1, htf, hbel⟩ := hrel
      by_cases hlt : k < m1
      · have hx := List.getElem?_eq_getElem (l := s.last) (i := k) (by rw [HNM.out.1]; exact hlt)
        have hx' := List.getElem?_eq_getElem (l := a.last) (i := k) (by rw [HP.out.1, HNM.out.1]; exact hlt)
        have hb := List.getElem?_eq_getElem (l := s.boxes) (i := k) (by rw [HNM.out.2]; exact hlt)
        have hb' := List.getElem?_eq_getElem (l := a.boxes) (i := k) (by rw [HP.out.2.1, HNM.out.2]; exact hlt)
        generalize s.last[k]'(by rw [HNM.out.1]; exact hlt) = x at hx
        generalize a.last[k]'(by rw [HP.out.1, HNM.out.1]; exact hlt) = x' at hx'
        generalize s.boxes[k]'(by rw [HNM.out.2]; exact hlt) = bx at hb
        generalize a.boxes[k]'(by rw [HP.out.2.1, HNM.out.2]; exact hlt) = bx' at hb'
        have hor1 := HP.out.2.2.1 k x x' hx hx'
        have hor2 := HP.out.2.2.2 k bx bx' hb hb'
        obtain ⟨bs, os, rfl, hls, hxw, cs⟩ := HSS.out.last.int hx
        obtain ⟨ba, oa, rfl, hla, hxw', ca⟩ := HAA.out.last.int hx'
        obtain ⟨bb, ob, T0, q, qc, rfl, hlb, hq, hql, hqm, hT0, cb⟩ := HSS.out.boxes.sub hb
        obtain ⟨bc, oc, T1, q', qc', rfl, hlc, hq', hql', hqm', hT1, cc⟩ := HAA.out.boxes.sub hb'
        have hq63 := maxLen_le (Nat.le_trans hql hqm)
        have hq63' := maxLen_le (Nat.le_trans hql' hqm')
        have HT := Lib.hid (And.intro hT0 (And.intro hT1 (And.intro hq hq')))
        have hxb := bounds_u64 hxw; have hxb' := bounds_u64 hxw'
        have HOR2 := Lib.hid hor2
        clear hx hx' hb hb' hT0 hT1 hq hq' hxw hxw' hor2 hqm hqm'
        rcases hor1 with rfl | ⟨hfr, rfl, rfl⟩
        · skip
          have k0 := cell_regrown ((hbel.cell (p := ⟨bs, os + k, none⟩) hls).trans cs)
          have k1 := cell_regrown ((hbel.cell (p := ⟨ba, oa + k, none⟩) hla).trans ca)
          have k2 := cell_regrown ((hbel.cell (p := ⟨bb, ob + k, none⟩) hlb).trans cb)
          have k3 := cell_regrown ((hbel.cell (p := ⟨bc, oc + k, none⟩) hlc).trans cc)
          have k4 := cell_regrown ((HLM.out.up hbel).cells.1); have k5 := cell_regrown ((HLM.out.up hbel).cells.2.1)
          have k6 := cell_regrown ((HLM.out.up hbel).cells.2.2.1); have k7 := cell_regrown ((HLM.out.up hbel).cells.2.2.2.1); have k8 := cell_regrown ((HLM.out.up hbel).cells.2.2.2.2.1); have k9 := cell_regrown ((HLM.out.up hbel).cells.2.2.2.2.2.1); have k10 := cell_regrown ((HLM.out.up hbel).cells.2.2.2.2.2.2.1)
          have k11 := cell_regrown ((HGA.out.below hbel HGA.out.lt).cell 0 (v := .slice (some ⟨ba, oa, none⟩) m1 cap1) rfl)
          have k12 := cell_regrown ((HGA.out.below hbel HGA.out.lt).cell 1 (v := .slice (some ⟨bc, oc, none⟩) m1 cap1') rfl)
          go_wp2
          refine wp_region_quiet_below (by kernel_rfl) (by kernel_rfl) ?_
          repeat (any_goals (first | go_big_quiet_step (fail) | quiet_step (fail)))
          refine wpQuiet_nil ?_
          intro _ hw'
          obtain ⟨⟨dq, osq⟩, hw''⟩ := hw'
          subst hw''
          have hbx := hbel.trans ((below_regrown wr dq osq).mono hbel.size)
          clear hbel
          have hbel := hbx
          clear hbx
          obtain ⟨wn, hwn⟩ : ∃ wn, grow (redrawn wr dq) osq = wn := ⟨_, rfl⟩
          rw [hwn] at hbel ⊢
          clear hwn k0 k1 k2 k3 k4 k5 k6 k7 k8 k9 k10 k11 k12
          obtain ⟨wr, rfl⟩ : ∃ wr : World, wr = wn := ⟨_, rfl⟩
          have k0 := cell_regrown ((hbel.cell (p := ⟨bs, os + k, none⟩) hls).trans cs)
          have k1 := cell_regrown ((hbel.cell (p := ⟨ba, oa + k, none⟩) hla).trans ca)
          have k2 := cell_regrown ((hbel.cell (p := ⟨bb, ob + k, none⟩) hlb).trans cb)
          have k3 := cell_regrown ((hbel.cell (p := ⟨bc, oc + k, none⟩) hlc).trans cc)
          have k4 := cell_regrown ((HLM.out.up hbel).cells.1); have k5 := cell_regrown ((HLM.out.up hbel).cells.2.1)
          have k6 := cell_regrown ((HLM.out.up hbel).cells.2.2.1); have k7 := cell_regrown ((HLM.out.up hbel).cells.2.2.2.1); have k8 := cell_regrown ((HLM.out.up hbel).cells.2.2.2.2.1); have k9 := cell_regrown ((HLM.out.up hbel).cells.2.2.2.2.2.1); have k10 := cell_regrown ((HLM.out.up hbel).cells.2.2.2.2.2.2.1)
          have k11 := cell_regrown ((HGA.out.below hbel HGA.out.lt).cell 0 (v := .slice (some ⟨ba, oa, none⟩) m1 cap1) rfl)
          have k12 := cell_regrown ((HGA.out.below hbel HGA.out.lt).cell 1 (v := .slice (some ⟨bc, oc, none⟩) m1 cap1') rfl)
          go_wp2
          rcases HOR2.out with rfl | ⟨hto, rfl⟩
          · obtain rfl : q' = q := HT.out.2.2.2.symm.trans HT.out.2.2.1
            refine wp_region_quiet_below (by kernel_rfl) (by kernel_rfl) ?_
            repeat (any_goals (first | go_big_quiet_step (fail) | quiet_step (fail)))
            refine wpQuiet_nil ?_
            intro _ hw'
            obtain ⟨⟨dq, osq⟩, hw''⟩ := hw'
            subst hw''
            have hbx := hbel.trans ((below_regrown wr dq osq).mono hbel.size)
            clear hbel
            have hbel := hbx
            clear hbx
            go_wp2
            obtain ⟨wn, hwn⟩ : ∃ wn, grow (redrawn wr dq) osq = wn := ⟨_, rfl⟩
            rw [hwn] at hbel ⊢
            clear hwn k0 k1 k2 k3 k4 k5 k6 k7 k8 k9 k10 k11 k12
            obtain ⟨wr, rfl⟩ : ∃ wr : World, wr = wn := ⟨_, rfl⟩
            have k0 := cell_regrown ((hbel.cell (p := ⟨bs, os + k, none⟩) hls).trans cs)
            have k1 := cell_regrown ((hbel.cell (p := ⟨ba, oa + k, none⟩) hla).trans ca)
            have k2 := cell_regrown ((hbel.cell (p := ⟨bb, ob + k, none⟩) hlb).trans cb)
            have k3 := cell_regrown ((hbel.cell (p := ⟨bc, oc + k, none⟩) hlc).trans cc)
            have k4 := cell_regrown ((HLM.out.up hbel).cells.1); have k5 := cell_regrown ((HLM.out.up hbel).cells.2.1)
            have k6 := cell_regrown ((HLM.out.up hbel).cells.2.2.1); have k7 := cell_regrown ((HLM.out.up hbel).cells.2.2.2.1); have k8 := cell_regrown ((HLM.out.up hbel).cells.2.2.2.2.1); have k9 := cell_regrown ((HLM.out.up hbel).cells.2.2.2.2.2.1); have k10 := cell_regrown ((HLM.out.up hbel).cells.2.2.2.2.2.2.1)
            have k11 := cell_regrown ((HGA.out.below hbel HGA.out.lt).cell 0 (v := .slice (some ⟨ba, oa, none⟩) m1 cap1) rfl)
            have k12 := cell_regrown ((HGA.out.below hbel HGA.out.lt).cell 1 (v := .slice (some ⟨bc, oc, none⟩) m1 cap1') rfl)
            refine wp_region_quiet_below (by kernel_rfl) (by kernel_rfl) ?_
            repeat (any_goals (first | go_big_quiet_step (fail) | quiet_step (fail)))
            refine wpQuiet_nil ?_
            intro _ hw'
            obtain ⟨⟨dq, osq⟩, hw''⟩ := hw'
            subst hw''
            have hbx := hbel.trans ((below_regrown wr dq osq).mono hbel.size)
            clear hbel
            have hbel := hbx
            clear hbx
            go_wp2
            obtain ⟨wn, hwn⟩ : ∃ wn, grow (redrawn wr dq) osq = wn := ⟨_, rfl⟩
            rw [hwn] at hbel ⊢
            clear hwn k0 k1 k2 k3 k4 k5 k6 k7 k8 k9 k10 k11 k12
            obtain ⟨wr, rfl⟩ : ∃ wr : World, wr = wn := ⟨_, rfl⟩
            have k0 := cell_regrown ((hbel.cell (p := ⟨bs, os + k, none⟩) hls).trans cs)
            have k1 := cell_regrown ((hbel.cell (p := ⟨ba, oa + k, none⟩) hla).trans ca)
            have k2 := cell_regrown ((hbel.cell (p := ⟨bb, ob + k, none⟩) hlb).trans cb)
            have k3 := cell_regrown ((hbel.cell (p := ⟨bc, oc + k, none⟩) hlc).trans cc)
            have k4 := cell_regrown ((HLM.out.up hbel).cells.1); have k5 := cell_regrown ((HLM.out.up hbel).cells.2.1)
            have k6 := cell_regrown ((HLM.out.up hbel).cells.2.2.1); have k7 := cell_regrown ((HLM.out.up hbel).cells.2.2.2.1); have k8 := cell_regrown ((HLM.out.up hbel).cells.2.2.2.2.1); have k9 := cell_regrown ((HLM.out.up hbel).cells.2.2.2.2.2.1); have k10 := cell_regrown ((HLM.out.up hbel).cells.2.2.2.2.2.2.1)
            have k11 := cell_regrown ((HGA.out.below hbel HGA.out.lt).cell 0 (v := .slice (some ⟨ba, oa, none⟩) m1 cap1) rfl)
            have k12 := cell_regrown ((HGA.out.below hbel HGA.out.lt).cell 1 (v := .slice (some ⟨bc, oc, none⟩) m1 cap1') rfl)
            have cS := fun d os' => Calls.regrown_of (sameAll_any T1 _ q' qc' HT.out.2.2.2 T0 _ q' qc HT.out.2.2.1 (grow (redrawn wr d) os') ((HT.out.2.1.below hbel hbel.size).below (below_regrown wr d os') (below_regrown wr d os').size) ((HT.out.1.below hbel hbel.size).below (below_regrown wr d os') (below_regrown wr d os').size) hq63')
            rw [decide_eq_true rfl] at cS
            have CS := Lib.hid cS; clear cS
            refine wp_region_quiet_below (by kernel_rfl) (by kernel_rfl) ?_
            repeat (any_goals (first | go_big_quiet_step (with_reducible exact CS.out _ _) | quiet_step (with_reducible exact CS.out _ _)))
            refine wpQuiet_nil ?_
            intro _ hw'
            obtain ⟨⟨dq, osq⟩, hw''⟩ := hw'
            subst hw''
            have hbx := hbel.trans ((below_regrown wr dq osq).mono hbel.size)
            clear hbel
            have hbel := hbx
            clear hbx
            go_wp2
            obtain ⟨wn, hwn⟩ : ∃ wn, grow (redrawn wr dq) osq = wn := ⟨_, rfl⟩
            rw [hwn] at hbel ⊢
            clear hwn k0 k1 k2 k3 k4 k5 k6 k7 k8 k9 k10 k11 k12
            obtain ⟨wr, rfl⟩ : ∃ wr : World, wr = wn := ⟨_, rfl⟩
            go_roundw
            case measure => simp [intOf]; omega
            case rel => exact ⟨k + 1, by omega, by go_num, t, by go_num, by omega, (fun h => by have := htf.out h; omega), hbel⟩
          · have hqq : q' = q + 1 := by (have h9 := HT.out.2.2.2; have h8 := HT.out.2.2.1; simp at h9; omega)
            have hlq : q < q' := by omega
            have d5 : ((q' : Int) - (q : Int) != 0) = true := by simp; omega
            have d6 : ((q' : Int) - (q : Int) != 1) = false := by simp; omega
            have d7 : decide ((q' : Int) - (q : Int) < 0) = false := decide_eq_false (by omega)
            have hel : (bx ++ [l])[q]? = some l := by (have h8 := HT.out.2.2.1; rw [← h8]; simp)
            obtain ⟨b9, off9, T2, tn2, tc2, rfl, hl9, _, _, _, htn2, _, _, hts2, u0, u1, u2, u3, u4⟩ := HT.out.2.1.letter hel
            have HT2 := Lib.hid (And.intro htn2 hts2)
            have HTK := Lib.hid (show Sl Rlt W4 (lo W4.heap.size) (some ⟨b9, off9, none⟩) bx from Sl.take' HT.out.2.1)
            clear hel htn2 hts2 hqq
            have d8 : ((k : Int) != l.to) = false := by simp; omega
            clear hto
            refine wp_region_quiet_below (by kernel_rfl) (by kernel_rfl) ?_
            repeat (any_goals (first | go_big_quiet_step (fail) | quiet_step (fail)))
            refine wpQuiet_nil ?_
            intro _ hw'
            obtain ⟨⟨dq, osq⟩, hw''⟩ := hw'
            subst hw''
            have hbx := hbel.trans ((below_regrown wr dq osq).mono hbel.size)
            clear hbel
            have hbel := hbx
            clear hbx
            go_wp2
            obtain ⟨wn, hwn⟩ : ∃ wn, grow (redrawn wr dq) osq = wn := ⟨_, rfl⟩
            rw [hwn] at hbel ⊢
            clear hwn k0 k1 k2 k3 k4 k5 k6 k7 k8 k9 k10 k11 k12
            obtain ⟨wr, rfl⟩ : ∃ wr : World, wr = wn := ⟨_, rfl⟩
            have k0 := cell_regrown ((hbel.cell (p := ⟨bs, os + k, none⟩) hls).trans cs)
            have k1 := cell_regrown ((hbel.cell (p := ⟨ba, oa + k, none⟩) hla).trans ca)
            have k2 := cell_regrown ((hbel.cell (p := ⟨bb, ob + k, none⟩) hlb).trans cb)
            have k3 := cell_regrown ((hbel.cell (p := ⟨bc, oc + k, none⟩) hlc).trans cc)
            have k4 := cell_regrown ((HLM.out.up hbel).cells.1); have k5 := cell_regrown ((HLM.out.up hbel).cells.2.1)
            have k6 := cell_regrown ((HLM.out.up hbel).cells.2.2.1); have k7 := cell_regrown ((HLM.out.up hbel).cells.2.2.2.1); have k8 := cell_regrown ((HLM.out.up hbel).cells.2.2.2.2.1); have k9 := cell_regrown ((HLM.out.up hbel).cells.2.2.2.2.2.1); have k10 := cell_regrown ((HLM.out.up hbel).cells.2.2.2.2.2.2.1)
            have k11 := cell_regrown ((HGA.out.below hbel HGA.out.lt).cell 0 (v := .slice (some ⟨ba, oa, none⟩) m1 cap1) rfl)
            have k12 := cell_regrown ((HGA.out.below hbel HGA.out.lt).cell 1 (v := .slice (some ⟨bc, oc, none⟩) m1 cap1') rfl)
            have k20 := cell_regrown ((hbel.cell (p := ⟨b9, off9 + q * 5, none⟩) hl9).trans u0); have k21 := cell_regrown ((hbel.cell (p := ⟨b9, off9 + q * 5 + 1, none⟩) hl9).trans u1); have k22 := cell_regrown ((hbel.cell (p := ⟨b9, off9 + q * 5 + 2, none⟩) hl9).trans u2)
            have k23 := cell_regrown ((hbel.cell (p := ⟨b9, off9 + q * 5 + 3, none⟩) hl9).trans u3); have k24 := cell_regrown ((hbel.cell (p := ⟨b9, off9 + q * 5 + 4, none⟩) hl9).trans u4)
            have cS := fun d os' => Calls.regrown_of (r10same_any l.cover l.fr l.to l.sq T2 l.text tn2 tc2 HT2.out.1 l.cover l.fr l.to l.sq T l.text tn tc HLL.out.len (grow (redrawn wr d) os') ((HT2.out.2.below hbel hbel.size).below (below_regrown wr d os') (below_regrown wr d os').size) ((HLL.out.text.below hbel hbel.size).below (below_regrown wr d os') (below_regrown wr d os').size))
            rw [show same5 l.cover l.cover l.fr l.fr l.to l.to l.sq l.sq l.text l.text = true by simp [same5]] at cS
            have CS := Lib.hid cS; clear cS
            refine wp_region_quiet_below (by kernel_rfl) (by kernel_rfl) ?_
            repeat (any_goals (first | go_big_quiet_step (with_reducible exact CS.out _ _) | quiet_step (with_reducible exact CS.out _ _)))
            refine wpQuiet_nil ?_
            intro _ hw'
            obtain ⟨⟨dq, osq⟩, hw''⟩ := hw'
            subst hw''
            have hbx := hbel.trans ((below_regrown wr dq osq).mono hbel.size)
            clear hbel
            have hbel := hbx
            clear hbx
            go_wp2
            clear k20 k21 k22 k23 k24
            obtain ⟨wn, hwn⟩ : ∃ wn, grow (redrawn wr dq) osq = wn := ⟨_, rfl⟩
            rw [hwn] at hbel ⊢
            clear hwn k0 k1 k2 k3 k4 k5 k6 k7 k8 k9 k10 k11 k12
            obtain ⟨wr, rfl⟩ : ∃ wr : World, wr = wn := ⟨_, rfl⟩
            have k0 := cell_regrown ((hbel.cell (p := ⟨bs, os + k, none⟩) hls).trans cs)
            have k1 := cell_regrown ((hbel.cell (p := ⟨ba, oa + k, none⟩) hla).trans ca)
            have k2 := cell_regrown ((hbel.cell (p := ⟨bb, ob + k, none⟩) hlb).trans cb)
            have k3 := cell_regrown ((hbel.cell (p := ⟨bc, oc + k, none⟩) hlc).trans cc)
            have k4 := cell_regrown ((HLM.out.up hbel).cells.1); have k5 := cell_regrown ((HLM.out.up hbel).cells.2.1)
            have k6 := cell_regrown ((HLM.out.up hbel).cells.2.2.1); have k7 := cell_regrown ((HLM.out.up hbel).cells.2.2.2.1); have k8 := cell_regrown ((HLM.out.up hbel).cells.2.2.2.2.1); have k9 := cell_regrown ((HLM.out.up hbel).cells.2.2.2.2.2.1); have k10 := cell_regrown ((HLM.out.up hbel).cells.2.2.2.2.2.2.1)
            have k11 := cell_regrown ((HGA.out.below hbel HGA.out.lt).cell 0 (v := .slice (some ⟨ba, oa, none⟩) m1 cap1) rfl)
            have k12 := cell_regrown ((HGA.out.below hbel HGA.out.lt).cell 1 (v := .slice (some ⟨bc, oc, none⟩) m1 cap1') rfl)
            clear CS
            have cS := fun d os' => Calls.regrown_of (sameAll_any (some ⟨b9, off9, none⟩) bx q qc' HT.out.2.2.1 T0 bx q qc HT.out.2.2.1 (grow (redrawn wr d) os') ((HTK.out.below hbel hbel.size).below (below_regrown wr d os') (below_regrown wr d os').size) ((HT.out.1.below hbel hbel.size).below (below_regrown wr d os') (below_regrown wr d os').size) hq63)
            rw [decide_eq_true rfl] at cS
            have CS := Lib.hid cS; clear cS
            refine wp_region_quiet_below (by kernel_rfl) (by kernel_rfl) ?_
            repeat (any_goals (first | go_big_quiet_step (with_reducible exact CS.out _ _) | quiet_step (with_reducible exact CS.out _ _)))
            refine wpQuiet_nil ?_
            intro _ hw'
            obtain ⟨⟨dq, osq⟩, hw''⟩ := hw'
            subst hw''
            have hbx := hbel.trans ((below_regrown wr dq osq).mono hbel.size)
            clear hbel
            have hbel := hbx
            clear hbx
            go_wp2
            obtain ⟨wn, hwn⟩ : ∃ wn, grow (redrawn wr dq) osq = wn := ⟨_, rfl⟩
            rw [hwn] at hbel ⊢
            clear hwn k0 k1 k2 k3 k4 k5 k6 k7 k8 k9 k10 k11 k12
            obtain ⟨wr, rfl⟩ : ∃ wr : World, wr = wn := ⟨_, rfl⟩
            go_roundw
            case measure => simp [intOf]; omega
            case rel => exact ⟨k + 1, by omega, by go_num, t, by go_num, by omega, (fun h => by have := htf.out h; omega), hbel⟩
        · have d1 : (x + 1 != x) = true := by simp; omega
          have d2 : ((k : Int) != l.fr) = false := by simp; omega
          have ht0 : t = 0 := by
            rcases Nat.eq_zero_or_pos t with h | h
            · exact h
            · exact absurd (htf.out (by omega)) (by omega)
          subst ht0
          have HFR := Lib.hid hfr
          clear hfr
          have k0 := cell_regrown ((hbel.cell (p := ⟨bs, os + k, none⟩) hls).trans cs)
          have k1 := cell_regrown ((hbel.cell (p := ⟨ba, oa + k, none⟩) hla).trans ca)
          have k2 := cell_regrown ((hbel.cell (p := ⟨bb, ob + k, none⟩) hlb).trans cb)
          have k3 := cell_regrown ((hbel.cell (p := ⟨bc, oc + k, none⟩) hlc).trans cc)
          have k4 := cell_regrown ((HLM.out.up hbel).cells.1); have k5 := cell_regrown ((HLM.out.up hbel).cells.2.1)
          have k6 := cell_regrown ((HLM.out.up hbel).cells.2.2.1); have k7 := cell_regrown ((HLM.out.up hbel).cells.2.2.2.1); have k8 := cell_regrown ((HLM.out.up hbel).cells.2.2.2.2.1); have k9 := cell_regrown ((HLM.out.up hbel).cells.2.2.2.2.2.1); have k10 := cell_regrown ((HLM.out.up hbel).cells.2.2.2.2.2.2.1)
          have k11 := cell_regrown ((HGA.out.below hbel HGA.out.lt).cell 0 (v := .slice (some ⟨ba, oa, none⟩) m1 cap1) rfl)
          have k12 := cell_regrown ((HGA.out.below hbel HGA.out.lt).cell 1 (v := .slice (some ⟨bc, oc, none⟩) m1 cap1') rfl)
          go_wp2
          refine wp_region_quiet_below (by kernel_rfl) (by kernel_rfl) ?_
          repeat (any_goals (first | go_big_quiet_step (fail) | quiet_step (fail)))
          refine wpQuiet_nil ?_
          intro _ hw'
          obtain ⟨⟨dq, osq⟩, hw''⟩ := hw'
          subst hw''
          have hbx := hbel.trans ((below_regrown wr dq osq).mono hbel.size)
          clear hbel
          have hbel := hbx
          clear hbx
          go_wp2
          obtain ⟨wn, hwn⟩ : ∃ wn, grow (redrawn wr dq) osq = wn := ⟨_, rfl⟩
          rw [hwn] at hbel ⊢
          clear hwn k0 k1 k2 k3 k4 k5 k6 k7 k8 k9 k10 k11 k12
          obtain ⟨wr, rfl⟩ : ∃ wr : World, wr = wn := ⟨_, rfl⟩
          have k0 := cell_regrown ((hbel.cell (p := ⟨bs, os + k, none⟩) hls).trans cs)
          have k1 := cell_regrown ((hbel.cell (p := ⟨ba, oa + k, none⟩) hla).trans ca)
          have k2 := cell_regrown ((hbel.cell (p := ⟨bb, ob + k, none⟩) hlb).trans cb)
          have k3 := cell_regrown ((hbel.cell (p := ⟨bc, oc + k, none⟩) hlc).trans cc)
          have k4 := cell_regrown ((HLM.out.up hbel).cells.1); have k5 := cell_regrown ((HLM.out.up hbel).cells.2.1)
          have k6 := cell_regrown ((HLM.out.up hbel).cells.2.2.1); have k7 := cell_regrown ((HLM.out.up hbel).cells.2.2.2.1); have k8 := cell_regrown ((HLM.out.up hbel).cells.2.2.2.2.1); have k9 := cell_regrown ((HLM.out.up hbel).cells.2.2.2.2.2.1); have k10 := cell_regrown ((HLM.out.up hbel).cells.2.2.2.2.2.2.1)
          have k11 := cell_regrown ((HGA.out.below hbel HGA.out.lt).cell 0 (v := .slice (some ⟨ba, oa, none⟩) m1 cap1) rfl)
          have k12 := cell_regrown ((HGA.out.below hbel HGA.out.lt).cell 1 (v := .slice (some ⟨bc, oc, none⟩) m1 cap1') rfl)
          refine wp_region_quiet_below (by kernel_rfl) (by kernel_rfl) ?_
          repeat (any_goals (first | go_big_quiet_step (fail) | quiet_step (fail)))
          refine wpQuiet_nil ?_
          intro _ hw'
          obtain ⟨⟨dq, osq⟩, hw''⟩ := hw'
          subst hw''
          have hbx := hbel.trans ((below_regrown wr dq osq).mono hbel.size)
          clear hbel
          have hbel := hbx
          clear hbx
          go_wp2
          obtain ⟨wn, hwn⟩ : ∃ wn, grow (redrawn wr dq) osq = wn := ⟨_, rfl⟩
          rw [hwn] at hbel ⊢
          clear hwn k0 k1 k2 k3 k4 k5 k6 k7 k8 k9 k10 k11 k12
          obtain ⟨wr, rfl⟩ : ∃ wr : World, wr = wn := ⟨_, rfl⟩
          have k0 := cell_regrown ((hbel.cell (p := ⟨bs, os + k, none⟩) hls).trans cs)
          have k1 := cell_regrown ((hbel.cell (p := ⟨ba, oa + k, none⟩) hla).trans ca)
          have k2 := cell_regrown ((hbel.cell (p := ⟨bb, ob + k, none⟩) hlb).trans cb)
          have k3 := cell_regrown ((hbel.cell (p := ⟨bc, oc + k, none⟩) hlc).trans cc)
          have k4 := cell_regrown ((HLM.out.up hbel).cells.1); have k5 := cell_regrown ((HLM.out.up hbel).cells.2.1)
          have k6 := cell_regrown ((HLM.out.up hbel).cells.2.2.1); have k7 := cell_regrown ((HLM.out.up hbel).cells.2.2.2.1); have k8 := cell_regrown ((HLM.out.up hbel).cells.2.2.2.2.1); have k9 := cell_regrown ((HLM.out.up hbel).cells.2.2.2.2.2.1); have k10 := cell_regrown ((HLM.out.up hbel).cells.2.2.2.2.2.2.1)
          have k11 := cell_regrown ((HGA.out.below hbel HGA.out.lt).cell 0 (v := .slice (some ⟨ba, oa, none⟩) m1 cap1) rfl)
          have k12 := cell_regrown ((HGA.out.below hbel HGA.out.lt).cell 1 (v := .slice (some ⟨bc, oc, none⟩) m1 cap1') rfl)
          rcases HOR2.out with rfl | ⟨hto, rfl⟩
          · obtain rfl : q' = q := HT.out.2.2.2.symm.trans HT.out.2.2.1
            refine wp_region_quiet_below (by kernel_rfl) (by kernel_rfl) ?_
            repeat (any_goals (first | go_big_quiet_step (fail) | quiet_step (fail)))
            refine wpQuiet_nil ?_
            intro _ hw'
            obtain ⟨⟨dq, osq⟩, hw''⟩ := hw'
            subst hw''
            have hbx := hbel.trans ((below_regrown wr dq osq).mono hbel.size)
            clear hbel
            have hbel := hbx
            clear hbx
            go_wp2
            obtain ⟨wn, hwn⟩ : ∃ wn, grow (redrawn wr dq) osq = wn := ⟨_, rfl⟩
            rw [hwn] at hbel ⊢
            clear hwn k0 k1 k2 k3 k4 k5 k6 k7 k8 k9 k10 k11 k12
            obtain ⟨wr, rfl⟩ : ∃ wr : World, wr = wn := ⟨_, rfl⟩
            have k0 := cell_regrown ((hbel.cell (p := ⟨bs, os + k, none⟩) hls).trans cs)
            have k1 := cell_regrown ((hbel.cell (p := ⟨ba, oa + k, none⟩) hla).trans ca)
            have k2 := cell_regrown ((hbel.cell (p := ⟨bb, ob + k, none⟩) hlb).trans cb)
            have k3 := cell_regrown ((hbel.cell (p := ⟨bc, oc + k, none⟩) hlc).trans cc)
            have k4 := cell_regrown ((HLM.out.up hbel).cells.1); have k5 := cell_regrown ((HLM.out.up hbel).cells.2.1)
            have k6 := cell_regrown ((HLM.out.up hbel).cells.2.2.1); have k7 := cell_regrown ((HLM.out.up hbel).cells.2.2.2.1); have k8 := cell_regrown ((HLM.out.up hbel).cells.2.2.2.2.1); have k9 := cell_regrown ((HLM.out.up hbel).cells.2.2.2.2.2.1); have k10 := cell_regrown ((HLM.out.up hbel).cells.2.2.2.2.2.2.1)
            have k11 := cell_regrown ((HGA.out.below hbel HGA.out.lt).cell 0 (v := .slice (some ⟨ba, oa, none⟩) m1 cap1) rfl)
            have k12 := cell_regrown ((HGA.out.below hbel HGA.out.lt).cell 1 (v := .slice (some ⟨bc, oc, none⟩) m1 cap1') rfl)
            refine wp_region_quiet_below (by kernel_rfl) (by kernel_rfl) ?_
            repeat (any_goals (first | go_big_quiet_step (fail) | quiet_step (fail)))
            refine wpQuiet_nil ?_
            intro _ hw'
            obtain ⟨⟨dq, osq⟩, hw''⟩ := hw'
            subst hw''
            have hbx := hbel.trans ((below_regrown wr dq osq).mono hbel.size)
            clear hbel
            have hbel := hbx
            clear hbx
            go_wp2
            obtain ⟨wn, hwn⟩ : ∃ wn, grow (redrawn wr dq) osq = wn := ⟨_, rfl⟩
            rw [hwn] at hbel ⊢
            clear hwn k0 k1 k2 k3 k4 k5 k6 k7 k8 k9 k10 k11 k12
            obtain ⟨wr, rfl⟩ : ∃ wr : World, wr = wn := ⟨_, rfl⟩
            have k0 := cell_regrown ((hbel.cell (p := ⟨bs, os + k, none⟩) hls).trans cs)
            have k1 := cell_regrown ((hbel.cell (p := ⟨ba, oa + k, none⟩) hla).trans ca)
            have k2 := cell_regrown ((hbel.cell (p := ⟨bb, ob + k, none⟩) hlb).trans cb)
            have k3 := cell_regrown ((hbel.cell (p := ⟨bc, oc + k, none⟩) hlc).trans cc)
            have k4 := cell_regrown ((HLM.out.up hbel).cells.1); have k5 := cell_regrown ((HLM.out.up hbel).cells.2.1)
            have k6 := cell_regrown ((HLM.out.up hbel).cells.2.2.1); have k7 := cell_regrown ((HLM.out.up hbel).cells.2.2.2.1); have k8 := cell_regrown ((HLM.out.up hbel).cells.2.2.2.2.1); have k9 := cell_regrown ((HLM.out.up hbel).cells.2.2.2.2.2.1); have k10 := cell_regrown ((HLM.out.up hbel).cells.2.2.2.2.2.2.1)
            have k11 := cell_regrown ((HGA.out.below hbel HGA.out.lt).cell 0 (v := .slice (some ⟨ba, oa, none⟩) m1 cap1) rfl)
            have k12 := cell_regrown ((HGA.out.below hbel HGA.out.lt).cell 1 (v := .slice (some ⟨bc, oc, none⟩) m1 cap1') rfl)
            have cS := fun d os' => Calls.regrown_of (sameAll_any T1 _ q' qc' HT.out.2.2.2 T0 _ q' qc HT.out.2.2.1 (grow (redrawn wr d) os') ((HT.out.2.1.below hbel hbel.size).below (below_regrown wr d os') (below_regrown wr d os').size) ((HT.out.1.below hbel hbel.size).below (below_regrown wr d os') (below_regrown wr d os').size) hq63')
            rw [decide_eq_true rfl] at cS
            have CS := Lib.hid cS; clear cS
            refine wp_region_quiet_below (by kernel_rfl) (by kernel_rfl) ?_
            repeat (any_goals (first | go_big_quiet_step (with_reducible exact CS.out _ _) | quiet_step (with_reducible exact CS.out _ _)))
            refine wpQuiet_nil ?_
            intro _ hw'
            obtain ⟨⟨dq, osq⟩, hw''⟩ := hw'
            subst hw''
            have hbx := hbel.trans ((below_regrown wr dq osq).mono hbel.size)
            clear hbel
            have hbel := hbx
            clear hbx
            go_wp2
            obtain ⟨wn, hwn⟩ : ∃ wn, grow (redrawn wr dq) osq = wn := ⟨_, rfl⟩
            rw [hwn] at hbel ⊢
            clear hwn k0 k1 k2 k3 k4 k5 k6 k7 k8 k9 k10 k11 k12
            obtain ⟨wr, rfl⟩ : ∃ wr : World, wr = wn := ⟨_, rfl⟩
            go_roundw
            case measure => simp [intOf]; omega
            case rel => exact ⟨k + 1, by omega, by go_num, 1, by go_num, by omega, (fun _ => by have := HFR.out; omega), hbel⟩
          · have hqq : q' = q + 1 := by (have h9 := HT.out.2.2.2; have h8 := HT.out.2.2.1; simp at h9; omega)
            have hlq : q < q' := by omega
            have d5 : ((q' : Int) - (q : Int) != 0) = true := by simp; omega
            have d6 : ((q' : Int) - (q : Int) != 1) = false := by simp; omega
            have d7 : decide ((q' : Int) - (q : Int) < 0) = false := decide_eq_false (by omega)
            have hel : (bx ++ [l])[q]? = some l := by (have h8 := HT.out.2.2.1; rw [← h8]; simp)
            obtain ⟨b9, off9, T2, tn2, tc2, rfl, hl9, _, _, _, htn2, _, _, hts2, u0, u1, u2, u3, u4⟩ := HT.out.2.1.letter hel
            have HT2 := Lib.hid (And.intro htn2 hts2)
            have HTK := Lib.hid (show Sl Rlt W4 (lo W4.heap.size) (some ⟨b9, off9, none⟩) bx from Sl.take' HT.out.2.1)
            clear hel htn2 hts2 hqq
            have d8 : ((k : Int) != l.to) = false := by simp; omega
            clear hto
            refine wp_region_quiet_below (by kernel_rfl) (by kernel_rfl) ?_
            repeat (any_goals (first | go_big_quiet_step (fail) | quiet_step (fail)))
            refine wpQuiet_nil ?_
            intro _ hw'
            obtain ⟨⟨dq, osq⟩, hw''⟩ := hw'
            subst hw''
            have hbx := hbel.trans ((below_regrown wr dq osq).mono hbel.size)
            clear hbel
            have hbel := hbx
            clear hbx
            go_wp2
            obtain ⟨wn, hwn⟩ : ∃ wn, grow (redrawn wr dq) osq = wn := ⟨_, rfl⟩
            rw [hwn] at hbel ⊢
            clear hwn k0 k1 k2 k3 k4 k5 k6 k7 k8 k9 k10 k11 k12
            obtain ⟨wr, rfl⟩ : ∃ wr : World, wr = wn := ⟨_, rfl⟩
            have k0 := cell_regrown ((hbel.cell (p := ⟨bs, os + k, none⟩) hls).trans cs)
            have k1 := cell_regrown ((hbel.cell (p := ⟨ba, oa + k, none⟩) hla).trans ca)
            have k2 := cell_regrown ((hbel.cell (p := ⟨bb, ob + k, none⟩) hlb).trans cb)
            have k3 := cell_regrown ((hbel.cell (p := ⟨bc, oc + k, none⟩) hlc).trans cc)
            have k4 := cell_regrown ((HLM.out.up hbel).cells.1); have k5 := cell_regrown ((HLM.out.up hbel).cells.2.1)
            have k6 := cell_regrown ((HLM.out.up hbel).cells.2.2.1); have k7 := cell_regrown ((HLM.out.up hbel).cells.2.2.2.1); have k8 := cell_regrown ((HLM.out.up hbel).cells.2.2.2.2.1); have k9 := cell_regrown ((HLM.out.up hbel).cells.2.2.2.2.2.1); have k10 := cell_regrown ((HLM.out.up hbel).cells.2.2.2.2.2.2.1)
            have k11 := cell_regrown ((HGA.out.below hbel HGA.out.lt).cell 0 (v := .slice (some ⟨ba, oa, none⟩) m1 cap1) rfl)
            have k12 := cell_regrown ((HGA.out.below hbel HGA.out.lt).cell 1 (v := .slice (some ⟨bc, oc, none⟩) m1 cap1') rfl)
            have k20 := cell_regrown ((hbel.cell (p := ⟨b9, off9 + q * 5, none⟩) hl9).trans u0); have k21 := cell_regrown ((hbel.cell (p := ⟨b9, off9 + q * 5 + 1, none⟩) hl9).trans u1); have k22 := cell_regrown ((hbel.cell (p := ⟨b9, off9 + q * 5 + 2, none⟩) hl9).trans u2)
            have k23 := cell_regrown ((hbel.cell (p := ⟨b9, off9 + q * 5 + 3, none⟩) hl9).trans u3); have k24 := cell_regrown ((hbel.cell (p := ⟨b9, off9 + q * 5 + 4, none⟩) hl9).trans u4)
            have cS := fun d os' => Calls.regrown_of (r10same_any l.cover l.fr l.to l.sq T2 l.text tn2 tc2 HT2.out.1 l.cover l.fr l.to l.sq T l.text tn tc HLL.out.len (grow (redrawn wr d) os') ((HT2.out.2.below hbel hbel.size).below (below_regrown wr d os') (below_regrown wr d os').size) ((HLL.out.text.below hbel hbel.size).below (below_regrown wr d os') (below_regrown wr d os').size))
            rw [show same5 l.cover l.cover l.fr l.fr l.to l.to l.sq l.sq l.text l.text = true by simp [same5]] at cS
            have CS := Lib.hid cS; clear cS
            refine wp_region_quiet_below (by kernel_rfl) (by kernel_rfl) ?_
            repeat (any_goals (first | go_big_quiet_step (with_reducible exact CS.out _ _) | quiet_step (with_reducible exact CS.out _ _)))
            refine wpQuiet_nil ?_
            intro _ hw'
            obtain ⟨⟨dq, osq⟩, hw''⟩ := hw'
            subst hw''
            have hbx := hbel.trans ((below_regrown wr dq osq).mono hbel.size)
            clear hbel
            have hbel := hbx
            clear hbx
            go_wp2
            clear k20 k21 k22 k23 k24
            obtain ⟨wn, hwn⟩ : ∃ wn, grow (redrawn wr dq) osq = wn := ⟨_, rfl⟩
            rw [hwn] at hbel ⊢
            clear hwn k0 k1 k2 k3 k4 k5 k6 k7 k8 k9 k10 k11 k12
            obtain ⟨wr, rfl⟩ : ∃ wr : World, wr = wn := ⟨_, rfl⟩
            have k0 := cell_regrown ((hbel.cell (p := ⟨bs, os + k, none⟩) hls).trans cs)
            have k1 := cell_regrown ((hbel.cell (p := ⟨ba, oa + k, none⟩) hla).trans ca)
            have k2 := cell_regrown ((hbel.cell (p := ⟨bb, ob + k, none⟩) hlb).trans cb)
            have k3 := cell_regrown ((hbel.cell (p := ⟨bc, oc + k, none⟩) hlc).trans cc)
            have k4 := cell_regrown ((HLM.out.up hbel).cells.1); have k5 := cell_regrown ((HLM.out.up hbel).cells.2.1)
            have k6 := cell_regrown ((HLM.out.up hbel).cells.2.2.1); have k7 := cell_regrown ((HLM.out.up hbel).cells.2.2.2.1); have k8 := cell_regrown ((HLM.out.up hbel).cells.2.2.2.2.1); have k9 := cell_regrown ((HLM.out.up hbel).cells.2.2.2.2.2.1); have k10 := cell_regrown ((HLM.out.up hbel).cells.2.2.2.2.2.2.1)
            have k11 := cell_regrown ((HGA.out.below hbel HGA.out.lt).cell 0 (v := .slice (some ⟨ba, oa, none⟩) m1 cap1) rfl)
            have k12 := cell_regrown ((HGA.out.below hbel HGA.out.lt).cell 1 (v := .slice (some ⟨bc, oc, none⟩) m1 cap1') rfl)
            clear CS
            have cS := fun d os' => Calls.regrown_of (sameAll_any (some ⟨b9, off9, none⟩) bx q qc' HT.out.2.2.1 T0 bx q qc HT.out.2.2.1 (grow (redrawn wr d) os') ((HTK.out.below hbel hbel.size).below (below_regrown wr d os') (below_regrown wr d os').size) ((HT.out.1.below hbel hbel.size).below (below_regrown wr d os') (below_regrown wr d os').size) hq63)
            rw [decide_eq_true rfl] at cS
            have CS := Lib.hid cS; clear cS
            refine wp_region_quiet_below (by kernel_rfl) (by kernel_rfl) ?_
            repeat (any_goals (first | go_big_quiet_step (with_reducible exact CS.out _ _) | quiet_step (with_reducible exact CS.out _ _)))
            refine wpQuiet_nil ?_
            intro _ hw'
            obtain ⟨⟨dq, osq⟩, hw''⟩ := hw'
            subst hw''
            have hbx := hbel.trans ((below_regrown wr dq osq).mono hbel.size)
            clear hbel
            have hbel := hbx
            clear hbx
            go_wp2
            obtain ⟨wn, hwn⟩ : ∃ wn, grow (redrawn wr dq) osq = wn := ⟨_, rfl⟩
            rw [hwn] at hbel ⊢
            clear hwn k0 k1 k2 k3 k4 k5 k6 k7 k8 k9 k10 k11 k12
            obtain ⟨wr, rfl⟩ : ∃ wr : World, wr = wn := ⟨_, rfl⟩
            go_roundw
            case measure => simp [intOf]; omega
            case rel => exact ⟨k + 1, by omega, by go_num, 1, by go_num, by omega, (fun _ => by have := HFR.out; omega), hbel⟩
      · go_wp2
        go_ret
        exact ⟨ret_bool (decide_eq_true (by omega)), HLM.out.2.2.1.trans (hbel.mono HLM.out.2.2.1.size)⟩
theorem apart_walk (A : Option Addr) (n cap : Nat) (B : Option Addr) (m cap' : Nat) (s : St) (l : Lt) (T : Option Addr) (tn tc : Nat) (w : World) (hs : StArg w A n cap B m cap' s) (hl : LtAt w (lo w.heap.size) T tn tc l) :
    Calls Try.prog 5 #[.agg #[.slice A n cap, .slice B m cap'], .agg #[.bool l.cover, .int .i64 l.fr, .int .i64 l.to, .int .u64 l.sq, .slice T tn tc]] w fun e w' => e = .returned (.bool true) ∧ Below w.heap.size w w' := by
  by_cases hc : checkB s = true
  · exact apart_main A n cap B m cap' s l T tn tc w hs hl hc
  · exact apart_bad A n cap B m cap' s l T tn tc w hs hl hc
end Go.Proofs.Ytcmdmmphakclmaa
