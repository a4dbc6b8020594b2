/-
  The reference's FewOut, FewIn (some bool), SameParts, SameItems, SameOut, SameIn.
-/
import Derived.Test.YtalieakmjkmbbaaTake
import Derived.BigGuardPart
namespace Go.Proofs.Ytalieakmjkmbbaa
open Go.RowKit Go.Sort
set_option linter.unusedVariables false

def SomeBool (e : Ending) : Prop := ∃ b, e = .returned (.bool b)
theorem SomeBool.mk' (b : Bool) : SomeBool (.returned (.bool b)) := ⟨b, rfl⟩
set_option maxHeartbeats 1000000 in
theorem fewIn_any (w : World) (e : Int) (A : Option Addr) (n cap : Nat) (xs : List It) (hx : Sl Rit w (lo w.heap.size) A xs) (hn : xs.length = n) (hz : n ≤ 9223372036854775807) :
    Calls Try.prog 9 #[.agg #[.int .i64 e, .slice A n cap]] w fun e w' => SomeBool e ∧ Below w.heap.size w w' := by
  have HX := Lib.hid (And.intro hn hx); clear hn hx
  go_enter Try.func9, Try.ntmps9
  go_wp2
  go_loopw [3, 9] (fun t i wr => ∃ k : Nat, k ≤ n ∧ i = .int .i64 k ∧ (∃ z : Int, t = .int .i64 z) ∧ Below w.heap.size w wr) (fun _ i _ => n - (intOf i).toNat)
  case atStart => exact ⟨0, Nat.zero_le _, rfl, ⟨_, rfl⟩, (Below.refl _ _).alloc (Nat.le_refl _) _⟩
  case round =>
    obtain ⟨k, hk, rfl, ⟨z, rfl⟩, hbel⟩ := hrel
    by_cases hlt : k < n
    · have hy := List.getElem?_eq_getElem (l := xs) (i := k) (by rw [HX.out.1]; exact hlt)
      generalize xs[k]'(by rw [HX.out.1]; exact hlt) = y at hy
      obtain ⟨b', off', T', tn', tc', rfl, hlb, w1, w2', htn', hl', hm', hts', y0, y1, y2⟩ := (HX.out.2.below hbel hbel.size).item hy
      clear hy htn' hl' hm' hts' w1 w2'
      go_wp2
      go_roundw
      case measure => simp [intOf]; omega
      case rel => exact ⟨k + 1, by omega, by go_num, ⟨_, rfl⟩, hbel.alloc hbel.size _⟩
    · go_wp2
      go_ret
      exact ⟨.mk' _, hbel⟩
set_option maxHeartbeats 1000000 in
theorem fewOut_any (w : World) (o : Ot) (AS : Option Addr) (nS cS : Nat) (AW : Option Addr) (nW cW : Nat) (ho : OutAt w (lo w.heap.size) AS nS AW nW o) (hz : nS ≤ 9223372036854775807) (hz2 : nW ≤ 9223372036854775807) :
    Calls Try.prog 14 #[.agg #[.int .i64 o.next, .slice AS nS cS, .slice AW nW cW]] w fun e w' => SomeBool e ∧ Below w.heap.size w w' := by
  have HX := Lib.hid ho; clear ho
  have hb0 : Below w.heap.size w (w.alloc (.cells #[.int .i64 o.next, .slice AS nS cS, .slice AW nW cW] 35)) := (Below.refl _ _).alloc (Nat.le_refl _) _
  have c2 : (w.alloc (.cells #[.int .i64 o.next, .slice AS nS cS, .slice AW nW cW] 35)).cell? ⟨w.heap.size, 2, none⟩ = some (.slice AW nW cW) := by simp [go_sem]
  have hzz : (w.alloc (.cells #[.int .i64 o.next, .slice AS nS cS, .slice AW nW cW] 35)).heap.size = w.heap.size + 1 := by simp
  go_enter Try.func14, Try.ntmps14
  go_wp2
  generalize (w.alloc (.cells #[.int .i64 o.next, .slice AS nS cS, .slice AW nW cW] 35)) = w0 at *
  have HC := Lib.hid (And.intro c2 hb0); clear c2 hb0
  go_loopw [3, 11] (fun t i wr => ∃ k : Nat, k ≤ nS ∧ i = .int .i64 k ∧ (∃ z : Int, t = .int .i64 z) ∧ Below w0.heap.size w0 wr) (fun _ i _ => nS - (intOf i).toNat)
  case atStart => exact ⟨0, Nat.zero_le _, rfl, ⟨_, rfl⟩, Below.refl _ _⟩
  case round =>
    obtain ⟨k, hk, rfl, ⟨z, rfl⟩, hbel⟩ := hrel
    by_cases hlt : k < nS
    · have hy := List.getElem?_eq_getElem (l := o.sent) (i := k) (by rw [HX.out.sentN]; exact hlt)
      generalize o.sent[k]'(by rw [HX.out.sentN]; exact hlt) = y at hy
      obtain ⟨b', off', T', tn', tc', rfl, hlb, w1, w2', htn', hl', hm', hts', y0, y1, y2⟩ := ((HX.out.sent.below HC.out.2 HC.out.2.size).below hbel hbel.size).item hy
      clear hy htn' hl' hm' hts' w1 w2'
      go_wp2
      go_roundw
      case measure => simp [intOf]; omega
      case rel => exact ⟨k + 1, by omega, by go_num, ⟨_, rfl⟩, hbel.alloc hbel.size _⟩
    · have c2 := (hbel.cell (p := ⟨w.heap.size, 2, none⟩) (by show w.heap.size < _; omega)).trans HC.out.1
      go_wp2
      have HBel := Lib.hid hbel
      clear c2 hbel
      go_loopw [3, 26] (fun t i wr => ∃ k : Nat, k ≤ nW ∧ i = .int .i64 k ∧ (∃ z : Int, t = .int .i64 z) ∧ Below w0.heap.size w0 wr) (fun _ i _ => nW - (intOf i).toNat)
      case atStart => exact ⟨0, Nat.zero_le _, rfl, ⟨_, rfl⟩, HBel.out⟩
      case round =>
        obtain ⟨j, hj, rfl, ⟨z2, rfl⟩, hbel2⟩ := hrel
        by_cases hlt2 : j < nW
        · have hy := List.getElem?_eq_getElem (l := o.wait) (i := j) (by rw [HX.out.waitN]; exact hlt2)
          generalize o.wait[j]'(by rw [HX.out.waitN]; exact hlt2) = y at hy
          obtain ⟨b', off', T', tn', tc', rfl, hlb, htn', _, _, hts', y0⟩ := ((HX.out.wait.below HC.out.2 HC.out.2.size).below hbel2 hbel2.size).sub hy
          clear hy htn' hts'
          go_wp2
          go_roundw
          case measure => simp [intOf]; omega
          case rel => exact ⟨j + 1, by omega, by go_num, ⟨_, rfl⟩, hbel2⟩
        · go_wp2
          go_ret
          exact ⟨.mk' _, HC.out.2.trans (hbel2.mono HC.out.2.size)⟩
theorem eq_of_take {α : Type} {xs ys : List α} {k : Nat} (hl : xs.length = ys.length) (h : xs.take k = ys.take k) (hk : xs.length ≤ k) : xs = ys := by
  rwa [List.take_of_length_le hk, List.take_of_length_le (by omega)] at h
theorem take_eq_succ {α : Type} {xs ys : List α} {k : Nat} {x y : α} (hx : xs[k]? = some x) (hy : ys[k]? = some y) (h : xs.take k = ys.take k) (e : x = y) : xs.take (k + 1) = ys.take (k + 1) := by
  have h1 := (List.getElem?_eq_some_iff.1 hx); have h2 := (List.getElem?_eq_some_iff.1 hy)
  rw [List.take_succ_eq_append_getElem h1.1, List.take_succ_eq_append_getElem h2.1, h, h1.2, h2.2, e]
theorem ne_at {α : Type} {xs ys : List α} {k : Nat} {x y : α} (hx : xs[k]? = some x) (hy : ys[k]? = some y) (e : x ≠ y) : xs ≠ ys := by
  rintro rfl; rw [hx] at hy; exact e (Option.some.inj hy)
instance : DecidableEq It := fun a b => decidable_of_iff (a.sq = b.sq ∧ a.body = b.body ∧ a.tm = b.tm) It.ext_iff'.symm
instance : DecidableEq (List (List Int)) := inferInstance
set_option maxHeartbeats 1000000 in
theorem sameParts_any (A : Option Addr) (xs : List (List Int)) (n cap : Nat) (hn : xs.length = n) (B : Option Addr) (ys : List (List Int)) (m cap' : Nat) (hm : ys.length = m) (w : World) (h : Sl Rbd w (lo w.heap.size) A xs) (k : Sl Rbd w (lo w.heap.size) B ys) (hM : n ≤ 9223372036854775807) :
    Calls Try.prog 13 #[.slice A n cap, .slice B m cap'] w fun e w' => e = .returned (.bool (decide (xs = ys))) ∧ Below w.heap.size w w' := by
  have HN := Lib.hid hn; have HM := Lib.hid hm; clear hn hm
  by_cases hnm : n = m
  · subst hnm
    go_enter Try.func13, Try.ntmps13
    go_wp2
    go_loopw [5, 13] (fun _ i wr => ∃ k : Nat, k ≤ n ∧ i = .int .i64 k ∧ Hid (xs.take k = ys.take k) ∧ Below w.heap.size w wr) (fun _ i _ => n - (intOf i).toNat)
    case atStart => exact ⟨0, Nat.zero_le _, rfl, by simp [Hid], Below.refl _ _⟩
    case round =>
      obtain ⟨j, hj, rfl, ht, hbel⟩ := hrel
      by_cases hlt : j < n
      · have hx := List.getElem?_eq_getElem (l := xs) (i := j) (by rw [HN.out]; exact hlt)
        have hy := List.getElem?_eq_getElem (l := ys) (i := j) (by rw [HM.out]; exact hlt)
        generalize xs[j]'(by rw [HN.out]; exact hlt) = x at hx
        generalize ys[j]'(by rw [HM.out]; exact hlt) = y at hy
        obtain ⟨b, off, T, tn, tc, rfl, _, htn, _, _, hts, x0⟩ := (h.below hbel hbel.size).sub hx
        obtain ⟨b', off', T', tn', tc', rfl, _, htn', _, _, hts', y0⟩ := (k.below hbel hbel.size).sub hy
        have cS := fun d os => Calls.regrown_of ((same_any T x tn tc htn T' y tn' tc' htn' (grow (redrawn wr d) os)
          (hts.below (below_regrown wr d os) (below_regrown wr d os).size) (hts'.below (below_regrown wr d os) (below_regrown wr d os).size)).mono (fun e w' h => (⟨h.1, by rw [h.2]; exact Below.refl _ _⟩ : e = .returned (.bool (decide (x = y))) ∧ Below (grow (redrawn wr d) os).heap.size (grow (redrawn wr d) os) w')))
        have HX := Lib.hid (And.intro hx hy)
        have k0 := cell_regrown x0
        have l0 := cell_regrown y0
        clear hx hy htn htn' hts hts' x0 y0 h k
        obtain ⟨q, hq⟩ : ∃ q, decide (x = y) = q := ⟨_, rfl⟩
        rw [hq] at cS
        have HQ := Lib.hid hq
        have CS := Lib.hid cS; clear cS hq
        cases q
        all_goals
          go_wp2
          refine wp_region_quiet_below (by kernel_rfl) (by kernel_rfl) ?_
          repeat (any_goals (first | go_big_quiet_step (exact CS.out _ _) | quiet_step (exact CS.out _ _)))
          refine wpQuiet_nil ?_
          intro _ hw'
          obtain ⟨⟨dq, osq⟩, hw''⟩ := hw'
          subst hw''
          have hbq := hbel.trans ((below_regrown wr dq osq).mono hbel.size)
          go_wp2
        · go_ret
          exact ⟨ret_bool (decide_eq_false (ne_at HX.out.1 HX.out.2 (of_decide_eq_false HQ.out))).symm, hbq⟩
        · go_roundw
          case rel => exact ⟨j + 1, by omega, by go_num, take_eq_succ HX.out.1 HX.out.2 ht.out (of_decide_eq_true HQ.out), hbq⟩
          case measure => simp [intOf]; omega
      · go_wp2
        go_ret
        exact ⟨ret_bool (decide_eq_true (eq_of_take (by rw [HN.out, HM.out]) ht.out (by rw [HN.out]; omega))).symm, hbel⟩
  · have d1 : ((n : Int) != (m : Int)) = true := by simp; omega
    have HE := Lib.hid (show decide (xs = ys) = false from decide_eq_false (by rintro rfl; exact hnm (HN.out.symm.trans HM.out)))
    clear hnm
    go_enter Try.func13, Try.ntmps13
    go_wp2
    go_ret
    exact ⟨ret_bool HE.out.symm, Below.refl _ _⟩
set_option maxHeartbeats 2000000 in
theorem sameItems_any (A : Option Addr) (xs : List It) (n cap : Nat) (hn : xs.length = n) (B : Option Addr) (ys : List It) (m cap' : Nat) (hm : ys.length = m) (w : World) (h : Sl Rit w (lo w.heap.size) A xs) (k : Sl Rit w (lo w.heap.size) B ys) (hM : n ≤ 9223372036854775807) :
    Calls Try.prog 27 #[.slice A n cap, .slice B m cap'] w fun e w' => e = .returned (.bool (decide (xs = ys))) ∧ Below w.heap.size w w' := by
  have HN := Lib.hid hn; have HM := Lib.hid hm; clear hn hm
  by_cases hnm : n = m
  · subst hnm
    go_enter Try.func27, Try.ntmps27
    go_wp2
    go_loopw [5, 13] (fun _ i wr => ∃ k : Nat, k ≤ n ∧ i = .int .i64 k ∧ Hid (xs.take k = ys.take k) ∧ Below w.heap.size w wr) (fun _ i _ => n - (intOf i).toNat)
    case atStart => exact ⟨0, Nat.zero_le _, rfl, by simp [Hid], Below.refl _ _⟩
    case round =>
      obtain ⟨j, hj, rfl, ht, hbel⟩ := hrel
      by_cases hlt : j < n
      · have hx := List.getElem?_eq_getElem (l := xs) (i := j) (by rw [HN.out]; exact hlt)
        have hy := List.getElem?_eq_getElem (l := ys) (i := j) (by rw [HM.out]; exact hlt)
        generalize xs[j]'(by rw [HN.out]; exact hlt) = x at hx
        generalize ys[j]'(by rw [HM.out]; exact hlt) = y at hy
        obtain ⟨b, off, T, tn, tc, rfl, _, _, _, htn, _, _, hts, x0, x1, x2⟩ := (h.below hbel hbel.size).item hx
        obtain ⟨b', off', T', tn', tc', rfl, _, _, _, htn', _, _, hts', y0, y1, y2⟩ := (k.below hbel hbel.size).item hy
        obtain ⟨sx, bx, tx⟩ := x
        obtain ⟨sy, by_, ty⟩ := y
        have cS := fun d os => Calls.regrown_of ((same_any T bx tn tc htn T' by_ tn' tc' htn' (grow (redrawn wr d) os)
          (hts.below (below_regrown wr d os) (below_regrown wr d os).size) (hts'.below (below_regrown wr d os) (below_regrown wr d os).size)).mono (fun e w' h => (⟨h.1, by rw [h.2]; exact Below.refl _ _⟩ : e = .returned (.bool (decide (bx = by_))) ∧ Below (grow (redrawn wr d) os).heap.size (grow (redrawn wr d) os) w')))
        have HX := Lib.hid (And.intro hx hy)
        have k0 := cell_regrown x0; have k1 := cell_regrown x1; have k2 := cell_regrown x2
        have l0 := cell_regrown y0; have l1 := cell_regrown y1; have l2 := cell_regrown y2
        clear hx hy htn htn' hts hts' x0 x1 x2 y0 y1 y2 h k
        by_cases h1 : sx = sy
        rotate_left
        · have hne : (sx != sy) = true := by simpa using h1
          have HE := Lib.hid (ne_at HX.out.1 HX.out.2 (fun e => h1 (by injection e)))
          clear h1 cS
          go_wp2
          refine wp_region_quiet_below (by kernel_rfl) (by kernel_rfl) ?_
          repeat (any_goals (first | go_big_quiet_step (fail) | quiet_step (fail)))
          refine wpQuiet_nil ?_
          intro _ hw'
          obtain ⟨⟨dq, osq⟩, hw''⟩ := hw'
          subst hw''
          have hbq := hbel.trans ((below_regrown wr dq osq).mono hbel.size)
          go_wp2
          go_ret
          exact ⟨ret_bool (decide_eq_false HE.out).symm, hbq⟩
        subst h1
        by_cases h2 : tx = ty
        rotate_left
        · have hne : (tx != ty) = true := by simpa using h2
          have HE := Lib.hid (ne_at HX.out.1 HX.out.2 (fun e => h2 (by injection e)))
          clear h2 cS
          go_wp2
          refine wp_region_quiet_below (by kernel_rfl) (by kernel_rfl) ?_
          repeat (any_goals (first | go_big_quiet_step (fail) | quiet_step (fail)))
          refine wpQuiet_nil ?_
          intro _ hw'
          obtain ⟨⟨dq, osq⟩, hw''⟩ := hw'
          subst hw''
          have hbq := hbel.trans ((below_regrown wr dq osq).mono hbel.size)
          go_wp2
          go_ret
          exact ⟨ret_bool (decide_eq_false HE.out).symm, hbq⟩
        subst h2
        obtain ⟨q, hq⟩ : ∃ q, decide (bx = by_) = q := ⟨_, rfl⟩
        rw [hq] at cS
        have HQ := Lib.hid hq
        have CS := Lib.hid cS; clear cS hq
        cases q
        all_goals
          go_wp2
          refine wp_region_quiet_below (by kernel_rfl) (by kernel_rfl) ?_
          repeat (any_goals (first | go_big_quiet_step (exact CS.out _ _) | quiet_step (exact CS.out _ _)))
          refine wpQuiet_nil ?_
          intro _ hw'
          obtain ⟨⟨dq, osq⟩, hw''⟩ := hw'
          subst hw''
          have hbq := hbel.trans ((below_regrown wr dq osq).mono hbel.size)
          go_wp2
        · go_ret
          exact ⟨ret_bool (decide_eq_false (ne_at HX.out.1 HX.out.2 (fun e => of_decide_eq_false HQ.out (by injection e)))).symm, hbq⟩
        · go_roundw
          case rel => exact ⟨j + 1, by omega, by go_num, take_eq_succ HX.out.1 HX.out.2 ht.out (by rw [of_decide_eq_true HQ.out]), hbq⟩
          case measure => simp [intOf]; omega
      · go_wp2
        go_ret
        exact ⟨ret_bool (decide_eq_true (eq_of_take (by rw [HN.out, HM.out]) ht.out (by rw [HN.out]; omega))).symm, hbel⟩
  · have d1 : ((n : Int) != (m : Int)) = true := by simp; omega
    have HE := Lib.hid (show decide (xs = ys) = false from decide_eq_false (by rintro rfl; exact hnm (HN.out.symm.trans HM.out)))
    clear hnm
    go_enter Try.func27, Try.ntmps27
    go_wp2
    go_ret
    exact ⟨ret_bool HE.out.symm, Below.refl _ _⟩
def sameOt (o p : Ot) : Bool := decide (o.next = p.next ∧ o.sent = p.sent ∧ o.wait = p.wait)
theorem sameOt_iff {o p : Ot} : sameOt o p = true ↔ o = p := by
  cases o; cases p; simp [sameOt]
set_option maxHeartbeats 2000000 in
theorem sameOut_any (w : World) (o : Ot) (AS : Option Addr) (nS cS : Nat) (AW : Option Addr) (nW cW : Nat) (p : Ot) (BS : Option Addr) (mS dS : Nat) (BW : Option Addr) (mW dW : Nat) (ho : OutAt w (lo w.heap.size) AS nS AW nW o) (hp : OutAt w (lo w.heap.size) BS mS BW mW p) (hz : nS ≤ 9223372036854775807) (hz2 : nW ≤ 9223372036854775807) :
    Calls Try.prog 16 #[.agg #[.int .i64 o.next, .slice AS nS cS, .slice AW nW cW], .agg #[.int .i64 p.next, .slice BS mS dS, .slice BW mW dW]] w fun e w' => e = .returned (.bool (sameOt o p)) ∧ Below w.heap.size w w' := by
  have hb0 : Below w.heap.size w ((w.alloc (.cells #[.int .i64 o.next, .slice AS nS cS, .slice AW nW cW] 35)).alloc (.cells #[.int .i64 p.next, .slice BS mS dS, .slice BW mW dW] 35)) := ((Below.refl _ _).alloc (Nat.le_refl _) _).alloc (by simp) _
  have hzz : ((w.alloc (.cells #[.int .i64 o.next, .slice AS nS cS, .slice AW nW cW] 35)).alloc (.cells #[.int .i64 p.next, .slice BS mS dS, .slice BW mW dW] 35)).heap.size = w.heap.size + 2 := by simp
  have hA := (Blk.new w 35 #[.int .i64 o.next, .slice AS nS cS, .slice AW nW cW] (g := w.heap.size) rfl).alloc (.cells #[.int .i64 p.next, .slice BS mS dS, .slice BW mW dW] 35)
  have hB := Blk.new (w.alloc (.cells #[.int .i64 o.next, .slice AS nS cS, .slice AW nW cW] 35)) 35 #[.int .i64 p.next, .slice BS mS dS, .slice BW mW dW] (g := w.heap.size + 1) (by simp)
  have ho0 := ho.below hb0 hb0.size
  have hp0 := hp.below hb0 hb0.size
  go_enter Try.func16, Try.ntmps16
  go_upto_region 1 with fail
  generalize ((w.alloc (.cells #[.int .i64 o.next, .slice AS nS cS, .slice AW nW cW] 35)).alloc (.cells #[.int .i64 p.next, .slice BS mS dS, .slice BW mW dW] 35)) = w0 at *
  have a0 := hA.cell 0 (v := .int .i64 o.next) rfl; have a1 := hA.cell 1 (v := .slice AS nS cS) rfl; have a2 := hA.cell 2 (v := .slice AW nW cW) rfl
  have b0 := hB.cell 0 (v := .int .i64 p.next) rfl; have b1 := hB.cell 1 (v := .slice BS mS dS) rfl; have b2 := hB.cell 2 (v := .slice BW mW dW) rfl
  have H0 := Lib.hid (And.intro hb0 (And.intro hA (And.intro hB (And.intro ho0 hp0))))
  clear hb0 hA hB ho0 hp0 ho hp
  by_cases h1 : o.next = p.next
  rotate_left
  · have hne : (o.next == p.next) = false := by simpa using h1
    have HE := Lib.hid (show sameOt o p = false from decide_eq_false (fun h => h1 h.1))
    clear h1
    go_wp2
    go_ret
    exact ⟨ret_bool HE.out.symm, H0.out.1⟩
  have hne : (o.next == p.next) = true := by simpa using h1
  obtain ⟨q1, hq1⟩ : ∃ q, decide (o.sent = p.sent) = q := ⟨_, rfl⟩
  obtain ⟨q2, hq2⟩ : ∃ q, decide (o.wait = p.wait) = q := ⟨_, rfl⟩
  have HE := Lib.hid (show sameOt o p = (q1 && q2) by rw [← hq1, ← hq2]; unfold sameOt; rw [Bool.eq_iff_iff]; simp [h1])
  have HQ := Lib.hid (And.intro hq1 hq2)
  clear h1 hq1 hq2
  cases q1 with
  | false =>
    go_wp2_with (go_at_call 27
                 go_loud (skip
                          refine (sameItems_any AS o.sent nS cS H0.out.2.2.2.1.sentN BS p.sent mS dS H0.out.2.2.2.2.sentN w0 H0.out.2.2.2.1.sent H0.out.2.2.2.2.sent hz).mono ?_
                          rintro e w1 ⟨rfl, hb1⟩
                          rw [HQ.out.1]))
    go_ret
    exact ⟨ret_bool HE.out.symm, H0.out.1.trans (hb1.mono (by omega))⟩
  | true =>
    go_wp2_with (first
      | (go_at_call 27
         go_loud (skip
                  refine (sameItems_any AS o.sent nS cS H0.out.2.2.2.1.sentN BS p.sent mS dS H0.out.2.2.2.2.sentN w0 H0.out.2.2.2.1.sent H0.out.2.2.2.2.sent hz).mono ?_
                  rintro e w1 ⟨rfl, hb1⟩
                  rw [HQ.out.1]
                  clear a0 a1 a2 b0 b1 b2
                  have hz1 := hb1.size
                  have a2 := (hb1.cell (p := ⟨w.heap.size, 2, none⟩) (by show w.heap.size < _; omega)).trans (H0.out.2.1.cell 2 (v := .slice AW nW cW) rfl)
                  have b2 := (hb1.cell (p := ⟨w.heap.size + 1, 2, none⟩) (by show w.heap.size + 1 < _; omega)).trans (H0.out.2.2.1.cell 2 (v := .slice BW mW dW) rfl)))
      | (go_at_call 13
         go_loud (skip
                  refine (sameParts_any AW o.wait nW cW H0.out.2.2.2.1.waitN BW p.wait mW dW H0.out.2.2.2.2.waitN w1 (H0.out.2.2.2.1.wait.below hb1 hb1.size) (H0.out.2.2.2.2.wait.below hb1 hb1.size) hz2).mono ?_
                  rintro e w2 ⟨rfl, hb2⟩
                  rw [HQ.out.2])))
    go_ret
    exact ⟨ret_bool (by rw [HE.out]; simp), H0.out.1.trans ((hb1.mono (by omega)).trans (hb2.mono (by omega)))⟩
def sameI (e e' : Int) (xs ys : List It) : Bool := decide (e = e' ∧ xs = ys)
set_option maxHeartbeats 2000000 in
theorem sameIn_any (w : World) (e : Int) (A : Option Addr) (n c : Nat) (xs : List It) (e' : Int) (B : Option Addr) (m d : Nat) (ys : List It) (hx : Sl Rit w (lo w.heap.size) A xs) (hn : xs.length = n) (hy : Sl Rit w (lo w.heap.size) B ys) (hm : ys.length = m) (hz : n ≤ 9223372036854775807) :
    Calls Try.prog 12 #[.agg #[.int .i64 e, .slice A n c], .agg #[.int .i64 e', .slice B m d]] w fun en w' => en = .returned (.bool (sameI e e' xs ys)) ∧ Below w.heap.size w w' := by
  have hb0 : Below w.heap.size w ((w.alloc (.cells #[.int .i64 e, .slice A n c] 24)).alloc (.cells #[.int .i64 e', .slice B m d] 24)) := ((Below.refl _ _).alloc (Nat.le_refl _) _).alloc (by simp) _
  have H0 := Lib.hid (And.intro hb0 (And.intro (hx.below hb0 hb0.size) (And.intro (hy.below hb0 hb0.size) (And.intro hn hm))))
  clear hb0 hx hy hn hm
  by_cases h1 : e = e'
  rotate_left
  · have hne : (e == e') = false := by simpa using h1
    have HE := Lib.hid (show sameI e e' xs ys = false from decide_eq_false (fun h => h1 h.1))
    clear h1
    go_enter Try.func12, Try.ntmps12
    go_wp2
    go_ret
    exact ⟨ret_bool HE.out.symm, H0.out.1⟩
  subst h1
  have HE := Lib.hid (show sameI e e xs ys = decide (xs = ys) by simp [sameI])
  go_enter Try.func12, Try.ntmps12
  go_wp2_with (go_at_call 27
               go_loud (skip
                        refine (sameItems_any A xs n c H0.out.2.2.2.1 B ys m d H0.out.2.2.2.2 _ H0.out.2.1 H0.out.2.2.1 hz).mono ?_
                        rintro en w1 ⟨rfl, hb1⟩))
  go_ret
  exact ⟨ret_bool HE.out.symm, H0.out.1.trans (hb1.mono H0.out.1.size)⟩
end Go.Proofs.Ytalieakmjkmbbaa
