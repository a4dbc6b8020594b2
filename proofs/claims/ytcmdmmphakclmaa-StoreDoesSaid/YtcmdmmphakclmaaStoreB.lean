/-
  The reference's Few (some bool) and Same (whether two stores are the same).
-/
import Derived.Test.YtcmdmmphakclmaaStoreA
namespace Go.Proofs.Ytcmdmmphakclmaa
open Go.RowKit Go.Sort
set_option linter.unusedVariables false

def SomeBool (e : Ending) : Prop := ∃ b, e = .returned (.bool b)
theorem SomeBool.mk' (b : Bool) : SomeBool (.returned (.bool b)) := ⟨b, rfl⟩
set_option maxHeartbeats 1000000 in
theorem few_any (A : Option Addr) (n cap : Nat) (B : Option Addr) (m cap' : Nat) (s : St) (w : World) (hs : StAt w (lo w.heap.size) A n B m s) (hm : m ≤ 9223372036854775807) :
    Calls Try.prog 14 #[.agg #[.slice A n cap, .slice B m cap']] w fun e w' => SomeBool e ∧ Below w.heap.size w w' := by
  obtain ⟨_, _, hbx, hbn⟩ := hs
  have HB := Lib.hid hbn; clear hbn
  go_enter Try.func14, Try.ntmps14
  go_wp2
  go_loopw [3, 5, 14] (fun t _ i wr => ∃ k : Nat, k ≤ m ∧ i = .int .i64 k ∧ (∃ z : Int, t = .int .i64 z) ∧ Below w.heap.size w wr) (fun _ _ i _ => m - (intOf i).toNat)
  case atStart => exact ⟨0, Nat.zero_le _, rfl, ⟨_, rfl⟩, (Below.refl _ _).alloc (Nat.le_refl _) _⟩
  case round =>
    obtain ⟨k, hk, rfl, ⟨z, rfl⟩, hbel⟩ := hrel
    by_cases hlt : k < m
    · have hx := List.getElem?_eq_getElem (l := s.boxes) (i := k) (by rw [HB.out]; exact hlt)
      generalize s.boxes[k]'(by rw [HB.out]; exact hlt) = box at hx
      obtain ⟨b, off, T, q, qc, rfl, hbl, hq, _, hqm, hT, x0⟩ := (hbx.below hbel hbel.size).sub hx
      have hqm' : q ≤ 9223372036854775807 := by unfold maxLen at hqm; omega
      have HQ := Lib.hid hq
      clear hx hq hqm
      obtain ⟨wo, rfl⟩ : ∃ wo : World, wo = wr := ⟨_, rfl⟩
      go_wp2
      go_loopw [3, 7, 25] (fun t _ i wi => ∃ j : Nat, j ≤ q ∧ i = .int .i64 j ∧ (∃ z : Int, t = .int .i64 z) ∧ Below wo.heap.size wo wi) (fun _ _ i _ => q - (intOf i).toNat)
      case atStart => exact ⟨0, Nat.zero_le _, rfl, ⟨_, rfl⟩, Below.refl _ _⟩
      case round =>
        obtain ⟨j, hj, rfl, ⟨z2, rfl⟩, hbel2⟩ := hrel
        by_cases hlt2 : j < q
        · have hy := List.getElem?_eq_getElem (l := box) (i := j) (by rw [HQ.out]; exact hlt2)
          generalize box[j]'(by rw [HQ.out]; exact hlt2) = y at hy
          obtain ⟨b', off', T', tn', tc', rfl, _, w1, w2, w3, htn', _, _, hts', y0, y1, y2, y3, y4⟩ := (hT.below hbel2 hbel2.size).letter hy
          clear hy htn' hts' w1 w2 w3
          go_wp2
          go_roundw
          case rel => exact ⟨j + 1, by omega, by go_num, ⟨_, rfl⟩, hbel2.alloc hbel2.size _⟩
          case measure => simp [intOf]; omega
        · have hb3 := hbel.trans (hbel2.mono hbel.size)
          go_wp2
          go_roundw
          case rel => exact ⟨k + 1, by omega, by go_num, ⟨_, rfl⟩, hb3⟩
          case measure => simp [intOf]; omega
    · go_wp2
      go_ret
      exact ⟨.mk' _, hbel⟩

/-! ### Same -/
def sameSt (s t : St) : Bool := decide (s.last = t.last) && decide (s.boxes = t.boxes)
theorem sameSt_no1 {s t : St} (h : s.last ≠ t.last) : sameSt s t = false := by unfold sameSt; rw [decide_eq_false h]; rfl
theorem sameSt_no2 {s t : St} (h : s.boxes ≠ t.boxes) : sameSt s t = false := by unfold sameSt; rw [decide_eq_false h, Bool.and_false]
theorem sameSt_yes {s t : St} (h : s.last = t.last) (h' : s.boxes = t.boxes) : sameSt s t = true := by unfold sameSt; rw [decide_eq_true h, decide_eq_true h']; rfl
theorem sameSt_iff {s t : St} : sameSt s t = true ↔ s = t := by
  cases s; cases t; simp [sameSt]
set_option maxHeartbeats 2000000 in
theorem same13_any (A : Option Addr) (n cap : Nat) (B : Option Addr) (m cap' : Nat) (s : St) (A' : Option Addr) (n' cap2 : Nat) (B' : Option Addr) (m' cap2' : Nat) (t : St) (w : World)
    (hs : StAt w (lo w.heap.size) A n B m s) (ht : StAt w (lo w.heap.size) A' n' B' m' t) (hn : n ≤ 9223372036854775807) (hm : m ≤ 9223372036854775807) :
    Calls Try.prog 16 #[.agg #[.slice A n cap, .slice B m cap'], .agg #[.slice A' n' cap2, .slice B' m' cap2']] w fun e w' => e = .returned (.bool (sameSt s t)) ∧ Below w.heap.size w w' := by
  by_cases h1 : n = n'
  · by_cases h2 : m = m'
    · subst h1; subst h2
      go_enter Try.func16, Try.ntmps16
      go_wp2
      have c0 : ((w.alloc (.cells #[.slice A n cap, .slice B m cap'] 28)).alloc (.cells #[.slice A' n cap2, .slice B' m cap2'] 28)).cell? ⟨w.heap.size, 0, none⟩ = some (.slice A n cap) := by simp [go_sem]
      have c1 : ((w.alloc (.cells #[.slice A n cap, .slice B m cap'] 28)).alloc (.cells #[.slice A' n cap2, .slice B' m cap2'] 28)).cell? ⟨w.heap.size, 1, none⟩ = some (.slice B m cap') := by simp [go_sem]
      have c2 : ((w.alloc (.cells #[.slice A n cap, .slice B m cap'] 28)).alloc (.cells #[.slice A' n cap2, .slice B' m cap2'] 28)).cell? ⟨w.heap.size + 1, 0, none⟩ = some (.slice A' n cap2) := by simp [go_sem]
      have c3 : ((w.alloc (.cells #[.slice A n cap, .slice B m cap'] 28)).alloc (.cells #[.slice A' n cap2, .slice B' m cap2'] 28)).cell? ⟨w.heap.size + 1, 1, none⟩ = some (.slice B' m cap2') := by simp [go_sem]
      have hb0 : Below w.heap.size w ((w.alloc (.cells #[.slice A n cap, .slice B m cap'] 28)).alloc (.cells #[.slice A' n cap2, .slice B' m cap2'] 28)) := ((Below.refl _ _).alloc (Nat.le_refl _) _).alloc (by simp) _
      have hz : w.heap.size + 1 < ((w.alloc (.cells #[.slice A n cap, .slice B m cap'] 28)).alloc (.cells #[.slice A' n cap2, .slice B' m cap2'] 28)).heap.size := by simp
      generalize (w.alloc (.cells #[.slice A n cap, .slice B m cap'] 28)).alloc (.cells #[.slice A' n cap2, .slice B' m cap2'] 28) = w0 at *
      have CC := Lib.hid (And.intro c0 (And.intro c1 (And.intro c2 c3)))
      clear c0 c1 c2 c3
      obtain ⟨s1, s2, s3, s4⟩ := hs.below hb0 hb0.size
      obtain ⟨t1, t2, t3, t4⟩ := ht.below hb0 hb0.size
      have HN := Lib.hid (And.intro s2 t2); have HM := Lib.hid (And.intro s4 t4)
      clear s2 t2 s4 t4 hs ht
      go_loopw [5, 26] (fun _ i wr => ∃ k : Nat, k ≤ n ∧ i = .int .i64 k ∧ Hid (s.last.take k = t.last.take k) ∧ Below w0.heap.size w0 wr) (fun _ i _ => n - (intOf i).toNat)
      case atStart => exact ⟨0, Nat.zero_le _, rfl, by simp [Hid], Below.refl _ _⟩
      case round =>
        obtain ⟨k, hk, rfl, hte, hbel⟩ := hrel
        by_cases hlt : k < n
        · have hx := List.getElem?_eq_getElem (l := s.last) (i := k) (by rw [HN.out.1]; exact hlt)
          have hy := List.getElem?_eq_getElem (l := t.last) (i := k) (by rw [HN.out.2]; exact hlt)
          generalize s.last[k]'(by rw [HN.out.1]; exact hlt) = x at hx
          generalize t.last[k]'(by rw [HN.out.2]; exact hlt) = y at hy
          obtain ⟨b, off, hA, _, _, x0⟩ := (s1.below hbel hbel.size).int hx
          obtain ⟨b', off', hA', _, _, y0⟩ := (t1.below hbel hbel.size).int hy
          subst hA; subst hA'
          have HX := Lib.hid (And.intro hx hy)
          have k0 := cell_regrown x0; have k1 := cell_regrown y0
          have k2 := cell_regrown ((hbel.cell (p := ⟨w.heap.size, 0, none⟩) (Nat.lt_of_succ_lt hz)).trans CC.out.1)
          have k3 := cell_regrown ((hbel.cell (p := ⟨w.heap.size + 1, 0, none⟩) (by exact hz)).trans CC.out.2.2.1)
          clear hx hy x0 y0
          by_cases hxy : x = y
          · subst hxy
            go_wp2
            refine wp_region_quiet_below (by kernel_rfl) (by kernel_rfl) ?_
            repeat (any_goals (first | go_big_quiet_step (fail) | quiet_step (fail)))
            refine wpQuiet_nil ?_
            intro _ hw'
            obtain ⟨⟨dq, osq⟩, hw''⟩ := hw'
            subst hw''
            have hbq := hbel.trans ((below_regrown wr dq osq).mono hbel.size)
            go_wp2
            go_roundw
            case rel => exact ⟨k + 1, by omega, by go_num, take_eq_succ HX.out.1 HX.out.2 hte.out rfl, hbq⟩
            case measure => simp [intOf]; omega
          · have hne : (x != y) = true := by simpa using hxy
            have HE := Lib.hid (sameSt_no1 (ne_at HX.out.1 HX.out.2 hxy))
            clear hxy
            go_wp2
            refine wp_region_quiet_below (by kernel_rfl) (by kernel_rfl) ?_
            repeat (any_goals (first | go_big_quiet_step (fail) | quiet_step (fail)))
            refine wpQuiet_nil ?_
            intro _ hw'
            obtain ⟨⟨dq, osq⟩, hw''⟩ := hw'
            subst hw''
            have hbq := hbel.trans ((below_regrown wr dq osq).mono hbel.size)
            go_wp2
            go_ret
            exact ⟨ret_bool HE.out.symm, hb0.trans (hbq.mono hb0.size)⟩
        · have hl := eq_of_take (by rw [HN.out.1, HN.out.2]) hte.out (by rw [HN.out.1]; omega)
          have HL := Lib.hid hl
          have c1 := (hbel.cell (p := ⟨w.heap.size, 1, none⟩) (Nat.lt_of_succ_lt hz)).trans CC.out.2.1
          clear hl hte
          go_wp2
          go_loopw [6, 44] (fun _ i wi => ∃ j : Nat, j ≤ m ∧ i = .int .i64 j ∧ Hid (s.boxes.take j = t.boxes.take j) ∧ Below w0.heap.size w0 wi) (fun _ i _ => m - (intOf i).toNat)
          case atStart => exact ⟨0, Nat.zero_le _, rfl, by simp [Hid], hbel⟩
          case round =>
            clear c1 hbel
            obtain ⟨j, hj, rfl, hte, hbel⟩ := hrel
            by_cases hlt2 : j < m
            · have hx := List.getElem?_eq_getElem (l := s.boxes) (i := j) (by rw [HM.out.1]; exact hlt2)
              have hy := List.getElem?_eq_getElem (l := t.boxes) (i := j) (by rw [HM.out.2]; exact hlt2)
              generalize s.boxes[j]'(by rw [HM.out.1]; exact hlt2) = x at hx
              generalize t.boxes[j]'(by rw [HM.out.2]; exact hlt2) = y at hy
              obtain ⟨b, off, X, xn, xc, hA, _, hxn, hxl, hxm, hX, x0⟩ := (s3.below hbel hbel.size).sub hx
              obtain ⟨b', off', Y, yn, yc, hA', _, hyn, _, hym, hY, y0⟩ := (t3.below hbel hbel.size).sub hy
              subst hA; subst hA'
              have HX := Lib.hid (And.intro hx hy)
              have cS := fun d os => Calls.regrown_of (sameAll_any X x xn xc hxn Y y yn yc hyn (grow (redrawn wr d) os) (hX.below (below_regrown wr d os) (below_regrown wr d os).size) (hY.below (below_regrown wr d os) (below_regrown wr d os).size) (Nat.le_trans hxl hxm))
              have k0 := cell_regrown x0; have k1 := cell_regrown y0
              have k2 := cell_regrown ((hbel.cell (p := ⟨w.heap.size, 1, none⟩) (Nat.lt_of_succ_lt hz)).trans CC.out.2.1)
              have k3 := cell_regrown ((hbel.cell (p := ⟨w.heap.size + 1, 1, none⟩) (by exact hz)).trans CC.out.2.2.2)
              clear hx hy x0 y0 hxn hyn hX hY
              obtain ⟨q, hq⟩ : ∃ q, decide (x = y) = q := ⟨_, rfl⟩
              rw [hq] at cS
              have HQ := Lib.hid hq
              have CS := Lib.hid cS; clear cS hq
              cases q
              · go_wp2
                refine wp_region_quiet_below (by kernel_rfl) (by kernel_rfl) ?_
                repeat (any_goals (first | go_big_quiet_step (exact CS.out _ _) | quiet_step (exact CS.out _ _)))
                refine wpQuiet_nil ?_
                intro _ hw'
                obtain ⟨⟨dq, osq⟩, hw''⟩ := hw'
                subst hw''
                have hbq := hbel.trans ((below_regrown wr dq osq).mono hbel.size)
                go_wp2
                go_ret
                exact ⟨ret_bool (sameSt_no2 (ne_at HX.out.1 HX.out.2 (of_decide_eq_false HQ.out))).symm, hb0.trans (hbq.mono hb0.size)⟩
              · go_wp2
                refine wp_region_quiet_below (by kernel_rfl) (by kernel_rfl) ?_
                repeat (any_goals (first | go_big_quiet_step (exact CS.out _ _) | quiet_step (exact CS.out _ _)))
                refine wpQuiet_nil ?_
                intro _ hw'
                obtain ⟨⟨dq, osq⟩, hw''⟩ := hw'
                subst hw''
                have hbq := hbel.trans ((below_regrown wr dq osq).mono hbel.size)
                go_wp2
                go_roundw
                case rel => exact ⟨j + 1, by omega, by go_num, take_eq_succ HX.out.1 HX.out.2 hte.out (of_decide_eq_true HQ.out), hbq⟩
                case measure => simp [intOf]; omega
            · have hl2 := eq_of_take (by rw [HM.out.1, HM.out.2]) hte.out (by rw [HM.out.1]; omega)
              have HE := Lib.hid (sameSt_yes HL.out hl2)
              clear hl2
              go_wp2
              go_ret
              exact ⟨ret_bool HE.out.symm, hb0.trans (hbel.mono hb0.size)⟩
    · have HE := Lib.hid (sameSt_no2 (s := s) (t := t) (by intro h; exact h2 (hs.boxesN.symm.trans ((congrArg List.length h).trans ht.boxesN))))
      have d1 : ((m : Int) != (m' : Int)) = true := by simp; omega
      subst h1
      clear h2 hs ht
      go_enter Try.func16, Try.ntmps16
      go_wp2
      go_ret
      exact ⟨ret_bool HE.out.symm, ((Below.refl _ _).alloc (Nat.le_refl _) _).alloc (by simp) _⟩
  · have HE := Lib.hid (sameSt_no1 (s := s) (t := t) (by intro h; exact h1 (hs.lastN.symm.trans ((congrArg List.length h).trans ht.lastN))))
    have d1 : ((n : Int) != (n' : Int)) = true := by simp; omega
    clear h1 hs ht
    go_enter Try.func16, Try.ntmps16
    go_wp2
    go_ret
    exact ⟨ret_bool HE.out.symm, ((Below.refl _ _).alloc (Nat.le_refl _) _).alloc (by simp) _⟩
end Go.Proofs.Ytcmdmmphakclmaa
