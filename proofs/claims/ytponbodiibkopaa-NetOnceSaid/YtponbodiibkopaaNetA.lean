/-
  The reference's Few (some bool), SameInts, SameFlights; slices.Clone of numbers.
-/
import Derived.Test.YtponbodiibkopaaCopyF
import Derived.Lib.QuietBelow
import Derived.BigGuardPart
namespace Go.Proofs.Ytponbodiibkopaa
open Go.RowKit Go.Sort
set_option linter.unusedVariables false

def SomeBool (e : Ending) : Prop := ∃ b, e = .returned (.bool b)
theorem SomeBool.mk' (b : Bool) : SomeBool (.returned (.bool b)) := ⟨b, rfl⟩
theorem ei_ints : EI Try.prog 23 3 1 8 := .mk' (.int .i64 0) Try.underlying23 (by decide) rfl (by kernel_rfl)
set_option maxHeartbeats 400000 in
theorem cloneI_any (A : Option Addr) (xs : List _) (n c : Nat) (hn : xs.length = n) (w : World) (h : Sl (Rint .i64) w (lo w.heap.size) A xs) (hz : n * 8 ≤ 140737488355328) :
    Calls Try.prog 20 #[.slice A n c] w (CloneFlat (Rint .i64) xs w) := by
  obtain ⟨news, he, hc⟩ := h.inRow
  have HN := Lib.hid hn; clear hn
  have hnil := Lib.run_eql_slice_nil (P := Try.prog) w 23 3 A n c 0 0 Try.underlying23
  rcases A with _ | a
  · have h0 : xs = [] := by
      rcases xs with _ | ⟨x, r⟩
      · rfl
      · obtain ⟨_, _, _, hA, _⟩ := h 0 x rfl; cases hA
    go_enter Try.func20, Try.ntmps20
    go_wp2
    go_ret
    subst h0
    exact ⟨none, 0, 0, rfl, rfl, Nat.le_refl _, by simp, Sl.nil _ _ _ _, Below.refl _ _⟩
  · clear h
    go_enter Try.func20, Try.ntmps20
    go_wp2_with (at_builtin
                 refine wpList_append_own' _ rfl (.tmp 5) (.tmp 6) _ rfl ei_ints _ rfl (Own.empty (Rint .i64) (fun _ => False) (Blk.new w _ #[] rfl) (Nat.le_refl _)) (fun _ h => h.elim) (some a) n c rfl HN.out (hc.up ((Below.refl _ _).alloc (Nat.le_refl _) _)) he.flat (by simp; omega) (by simp [maxLen]; omega) (by simp) ?_
                 intro v1 w1 hown1 hg1 hat1
                 have hb1 : Below w.heap.size w w1 := ((Below.refl _ _).alloc (Nat.le_refl _) _).grown hg1 (by simp) (fun g hg => Nat.le_of_eq (Option.some.inj hg))
                 obtain ⟨A1, n1, c1, rfl, hn1, hl1, hm1, hs1⟩ := hown1.doneAt (S' := mid w.heap.size w1.heap.size) (fun _ h => h.elim) (fun g hg hl => ⟨(hown1.lt hg).1, hl⟩)
                 have HN1 := Lib.hid hn1
                 clear hn1 hat1 hg1 hown1)
    go_ret
    exact ⟨A1, n1, c1, rfl, by simpa using HN1.out, hl1, hm1, by simpa using hs1, hb1⟩

/-- A net in cells. -/
structure NtAt (w : World) (S : Nat → Prop) (A : Option Addr) (n : Nat) (B : Option Addr) (m : Nat) (x : Nt) : Prop where
  list : Sl Rfl w S A x.list
  listN : x.list.length = n
  fates : Sl (Rint .i64) w S B x.fates
  fatesN : x.fates.length = m
theorem NtAt.below {w w' : World} {A B : Option Addr} {n m : Nat} {x : Nt} (h : NtAt w (lo w.heap.size) A n B m x) (hb : Below w.heap.size w w') (hz : w.heap.size ≤ w'.heap.size) : NtAt w' (lo w'.heap.size) A n B m x :=
  ⟨h.list.below hb hz, h.listN, h.fates.below hb hz, h.fatesN⟩
theorem Sl.int {k : IntKind} {w : World} {S : Nat → Prop} {A : Option Addr} {xs : List Int} (h : Sl (Rint k) w S A xs) {i : Nat} {x : Int} (hx : xs[i]? = some x) :
    ∃ (b off : Nat), A = some ⟨b, off, none⟩ ∧ S b ∧ (Lit.int k x).wf = true ∧ w.cell? ⟨b, off + i, none⟩ = some (.int k x) := by
  obtain ⟨b, off, cs, hA, hb, ⟨rfl, hw⟩, hc⟩ := h i x hx
  exact ⟨b, off, hA, hb, hw, by simpa [Rint] using hc 0 _ rfl⟩
set_option maxHeartbeats 1000000 in
theorem few_any (w : World) (x : Nt) (A : Option Addr) (n c : Nat) (B : Option Addr) (m d : Nat) (ho : NtAt w (lo w.heap.size) A n B m x) (hz : n ≤ 9223372036854775807) :
    Calls Try.prog 10 #[.agg #[.slice A n c, .slice B m d]] w fun e w' => SomeBool e ∧ Below w.heap.size w w' := by
  have HX := Lib.hid ho; clear ho
  have hb0 : Below w.heap.size w (w.alloc (.cells #[.slice A n c, .slice B m d] 25)) := (Below.refl _ _).alloc (Nat.le_refl _) _
  have c1 : (w.alloc (.cells #[.slice A n c, .slice B m d] 25)).cell? ⟨w.heap.size, 1, none⟩ = some (.slice B m d) := by simp [go_sem]
  have hzz : (w.alloc (.cells #[.slice A n c, .slice B m d] 25)).heap.size = w.heap.size + 1 := by simp
  go_enter Try.func10, Try.ntmps10
  go_wp2
  generalize (w.alloc (.cells #[.slice A n c, .slice B m d] 25)) = w0 at *
  have HC := Lib.hid (And.intro c1 hb0); clear c1 hb0
  go_loopw [3, 9] (fun t i wr => ∃ k : Nat, k ≤ n ∧ i = .int .i64 k ∧ (∃ z : Int, t = .int .i64 z) ∧ Below w0.heap.size w0 wr) (fun _ i _ => n - (intOf i).toNat)
  case atStart => exact ⟨0, Nat.zero_le _, rfl, ⟨_, rfl⟩, Below.refl _ _⟩
  case round =>
    obtain ⟨k, hk, rfl, ⟨z, rfl⟩, hbel⟩ := hrel
    by_cases hlt : k < n
    · have hy := List.getElem?_eq_getElem (l := x.list) (i := k) (by rw [HX.out.listN]; exact hlt)
      generalize x.list[k]'(by rw [HX.out.listN]; exact hlt) = y at hy
      obtain ⟨b', off', T', tn', tc', rfl, _, w1, w2, w3, htn', hl', hm', hts', y0, y1, y2, y3⟩ := ((HX.out.list.below HC.out.2 HC.out.2.size).below hbel hbel.size).flight hy
      clear hy htn' hl' hm' hts' w1 w2 w3
      go_wp2
      go_roundw
      case measure => simp [intOf]; omega
      case rel => exact ⟨k + 1, by omega, by go_num, ⟨_, rfl⟩, hbel.alloc hbel.size _⟩
    · have c1 := (hbel.cell (p := ⟨w.heap.size, 1, none⟩) (by show w.heap.size < _; omega)).trans HC.out.1
      have HBel := Lib.hid hbel
      clear hbel
      by_cases hz3 : z ≤ 100
      · have d1 : decide (z ≤ 100) = true := decide_eq_true hz3
        clear hz3
        go_wp2
        go_ret
        exact ⟨.mk' _, HC.out.2.trans (HBel.out.mono HC.out.2.size)⟩
      · have d1 : decide (z ≤ 100) = false := decide_eq_false hz3
        clear hz3
        go_wp2
        go_ret
        exact ⟨.mk' _, HC.out.2.trans (HBel.out.mono HC.out.2.size)⟩
theorem eq_of_take {α : Type} {xs ys : List α} {k : Nat} (hl : xs.length = ys.length) (h : xs.take k = ys.take k) (hk : xs.length ≤ k) : xs = ys := by
  rwa [List.take_of_length_le hk, List.take_of_length_le (by omega)] at h
theorem take_eq_succ {α : Type} {xs ys : List α} {k : Nat} {x y : α} (hx : xs[k]? = some x) (hy : ys[k]? = some y) (h : xs.take k = ys.take k) (e : x = y) : xs.take (k + 1) = ys.take (k + 1) := by
  have h1 := (List.getElem?_eq_some_iff.1 hx); have h2 := (List.getElem?_eq_some_iff.1 hy)
  rw [List.take_succ_eq_append_getElem h1.1, List.take_succ_eq_append_getElem h2.1, h, h1.2, h2.2, e]
theorem ne_at {α : Type} {xs ys : List α} {k : Nat} {x y : α} (hx : xs[k]? = some x) (hy : ys[k]? = some y) (e : x ≠ y) : xs ≠ ys := by
  rintro rfl; rw [hx] at hy; exact e (Option.some.inj hy)
instance : DecidableEq Fl := fun a b => decidable_of_iff (a.tm = b.tm ∧ a.fr = b.fr ∧ a.tgt = b.tgt ∧ a.body = b.body) Fl.ext_iff'.symm
set_option maxHeartbeats 2000000 in
theorem sameInts_any (A : Option Addr) (xs : List Int) (n cap : Nat) (hn : xs.length = n) (B : Option Addr) (ys : List Int) (m cap' : Nat) (hm : ys.length = m) (w : World) (h : Sl (Rint .i64) w (lo w.heap.size) A xs) (k : Sl (Rint .i64) w (lo w.heap.size) B ys) (hM : n ≤ 9223372036854775807) :
    Calls Try.prog 18 #[.slice A n cap, .slice B m cap'] w fun e w' => e = .returned (.bool (decide (xs = ys))) ∧ Below w.heap.size w w' := by
  have HN := Lib.hid hn; have HM := Lib.hid hm; clear hn hm
  by_cases hnm : n = m
  · subst hnm
    go_enter Try.func18, Try.ntmps18
    go_wp2
    go_loopw [5, 13] (fun _ i wr => ∃ k : Nat, k ≤ n ∧ i = .int .i64 k ∧ Hid (xs.take k = ys.take k) ∧ Below w.heap.size w wr) (fun _ i _ => n - (intOf i).toNat)
    case atStart => exact ⟨0, Nat.zero_le _, rfl, by simp [Hid], Below.refl _ _⟩
    case round =>
      obtain ⟨j, hj, rfl, ht, hbel⟩ := hrel
      by_cases hlt : j < n
      · have hx := List.getElem?_eq_getElem (l := xs) (i := j) (by rw [HN.out]; exact hlt)
        have hy := List.getElem?_eq_getElem (l := ys) (i := j) (by rw [HM.out]; exact hlt)
        generalize xs[j]'(by rw [HN.out]; exact hlt) = x at hx
        generalize ys[j]'(by rw [HM.out]; exact hlt) = y at hy
        obtain ⟨b, off, rfl, _, _, x0⟩ := (h.below hbel hbel.size).int hx
        obtain ⟨b', off', rfl, _, _, y0⟩ := (k.below hbel hbel.size).int hy
        have HX := Lib.hid (And.intro hx hy)
        have k0 := cell_regrown x0
        have l0 := cell_regrown y0
        clear hx hy x0 y0 h k
        by_cases h1 : x = y
        · subst h1
          go_wp2
          refine wp_region_quiet_below (by kernel_rfl) (by kernel_rfl) ?_
          repeat (any_goals (first | go_big_quiet_step (fail) | quiet_step (fail)))
          refine wpQuiet_nil ?_
          intro _ hw'
          obtain ⟨⟨dq, osq⟩, hw''⟩ := hw'
          subst hw''
          have hbq := hbel.trans ((below_regrown wr dq osq).mono hbel.size)
          go_wp2
          go_roundw
          case rel => exact ⟨j + 1, by omega, by go_num, take_eq_succ HX.out.1 HX.out.2 ht.out rfl, hbq⟩
          case measure => simp [intOf]; omega
        · have hne : (x != y) = true := by simpa using h1
          have HE := Lib.hid (ne_at HX.out.1 HX.out.2 h1)
          clear h1
          go_wp2
          refine wp_region_quiet_below (by kernel_rfl) (by kernel_rfl) ?_
          repeat (any_goals (first | go_big_quiet_step (fail) | quiet_step (fail)))
          refine wpQuiet_nil ?_
          intro _ hw'
          obtain ⟨⟨dq, osq⟩, hw''⟩ := hw'
          subst hw''
          have hbq := hbel.trans ((below_regrown wr dq osq).mono hbel.size)
          go_wp2
          go_ret
          exact ⟨ret_bool (decide_eq_false HE.out).symm, hbq⟩
      · go_wp2
        go_ret
        exact ⟨ret_bool (decide_eq_true (eq_of_take (by rw [HN.out, HM.out]) ht.out (by rw [HN.out]; omega))).symm, hbel⟩
  · have d1 : ((n : Int) != (m : Int)) = true := by simp; omega
    have HE := Lib.hid (show decide (xs = ys) = false from decide_eq_false (by rintro rfl; exact hnm (HN.out.symm.trans HM.out)))
    clear hnm
    go_enter Try.func18, Try.ntmps18
    go_wp2
    go_ret
    exact ⟨ret_bool HE.out.symm, Below.refl _ _⟩
set_option maxHeartbeats 2000000 in
theorem sameFlights_any (A : Option Addr) (xs : List Fl) (n cap : Nat) (hn : xs.length = n) (B : Option Addr) (ys : List Fl) (m cap' : Nat) (hm : ys.length = m) (w : World) (h : Sl Rfl w (lo w.heap.size) A xs) (k : Sl Rfl w (lo w.heap.size) B ys) (hM : n ≤ 9223372036854775807) :
    Calls Try.prog 16 #[.slice A n cap, .slice B m cap'] w fun e w' => e = .returned (.bool (decide (xs = ys))) ∧ Below w.heap.size w w' := by
  have HN := Lib.hid hn; have HM := Lib.hid hm; clear hn hm
  by_cases hnm : n = m
  · subst hnm
    go_enter Try.func16, Try.ntmps16
    go_wp2
    go_loopw [5, 13] (fun _ i wr => ∃ k : Nat, k ≤ n ∧ i = .int .i64 k ∧ Hid (xs.take k = ys.take k) ∧ Below w.heap.size w wr) (fun _ i _ => n - (intOf i).toNat)
    case atStart => exact ⟨0, Nat.zero_le _, rfl, by simp [Hid], Below.refl _ _⟩
    case round =>
      obtain ⟨j, hj, rfl, ht, hbel⟩ := hrel
      by_cases hlt : j < n
      · have hx := List.getElem?_eq_getElem (l := xs) (i := j) (by rw [HN.out]; exact hlt)
        have hy := List.getElem?_eq_getElem (l := ys) (i := j) (by rw [HM.out]; exact hlt)
        generalize xs[j]'(by rw [HN.out]; exact hlt) = x at hx
        generalize ys[j]'(by rw [HM.out]; exact hlt) = y at hy
        obtain ⟨b, off, T, tn, tc, rfl, _, _, _, _, htn, _, _, hts, x0, x1, x2, x3⟩ := (h.below hbel hbel.size).flight hx
        obtain ⟨b', off', T', tn', tc', rfl, _, _, _, _, htn', _, _, hts', y0, y1, y2, y3⟩ := (k.below hbel hbel.size).flight hy
        obtain ⟨sx, tx, gx, bx⟩ := x
        obtain ⟨sy, ty, gy, by_⟩ := y
        have cS := fun d os => Calls.regrown_of ((same_any T bx tn tc htn T' by_ tn' tc' htn' (grow (redrawn wr d) os)
          (hts.below (below_regrown wr d os) (below_regrown wr d os).size) (hts'.below (below_regrown wr d os) (below_regrown wr d os).size)).mono (fun e w' h => (⟨h.1, by rw [h.2]; exact Below.refl _ _⟩ : e = .returned (.bool (decide (bx = by_))) ∧ Below (grow (redrawn wr d) os).heap.size (grow (redrawn wr d) os) w')))
        have HX := Lib.hid (And.intro hx hy)
        have k0 := cell_regrown x0; have k1 := cell_regrown x1; have k2 := cell_regrown x2; have k3 := cell_regrown x3
        have l0 := cell_regrown y0; have l1 := cell_regrown y1; have l2 := cell_regrown y2; have l3 := cell_regrown y3
        clear hx hy htn htn' hts hts' x0 x1 x2 x3 y0 y1 y2 y3 h k
        by_cases h1 : sx = sy
        rotate_left
        · have hne : (sx != sy) = true := by simpa using h1
          have HE := Lib.hid (ne_at HX.out.1 HX.out.2 (fun e => h1 (by injection e)))
          clear h1 cS
          go_wp2
          refine wp_region_quiet_below (by kernel_rfl) (by kernel_rfl) ?_
          repeat (any_goals (first | go_big_quiet_step (fail) | quiet_step (fail)))
          refine wpQuiet_nil ?_
          intro _ hw'
          obtain ⟨⟨dq, osq⟩, hw''⟩ := hw'
          subst hw''
          have hbq := hbel.trans ((below_regrown wr dq osq).mono hbel.size)
          go_wp2
          go_ret
          exact ⟨ret_bool (decide_eq_false HE.out).symm, hbq⟩
        subst h1
        by_cases h2 : tx = ty
        rotate_left
        · have hne : (tx != ty) = true := by simpa using h2
          have HE := Lib.hid (ne_at HX.out.1 HX.out.2 (fun e => h2 (by injection e)))
          clear h2 cS
          go_wp2
          refine wp_region_quiet_below (by kernel_rfl) (by kernel_rfl) ?_
          repeat (any_goals (first | go_big_quiet_step (fail) | quiet_step (fail)))
          refine wpQuiet_nil ?_
          intro _ hw'
          obtain ⟨⟨dq, osq⟩, hw''⟩ := hw'
          subst hw''
          have hbq := hbel.trans ((below_regrown wr dq osq).mono hbel.size)
          go_wp2
          go_ret
          exact ⟨ret_bool (decide_eq_false HE.out).symm, hbq⟩
        subst h2
        by_cases h3 : gx = gy
        rotate_left
        · have hne : (gx != gy) = true := by simpa using h3
          have HE := Lib.hid (ne_at HX.out.1 HX.out.2 (fun e => h3 (by injection e)))
          clear h3 cS
          go_wp2
          refine wp_region_quiet_below (by kernel_rfl) (by kernel_rfl) ?_
          repeat (any_goals (first | go_big_quiet_step (fail) | quiet_step (fail)))
          refine wpQuiet_nil ?_
          intro _ hw'
          obtain ⟨⟨dq, osq⟩, hw''⟩ := hw'
          subst hw''
          have hbq := hbel.trans ((below_regrown wr dq osq).mono hbel.size)
          go_wp2
          go_ret
          exact ⟨ret_bool (decide_eq_false HE.out).symm, hbq⟩
        subst h3
        obtain ⟨q, hq⟩ : ∃ q, decide (bx = by_) = q := ⟨_, rfl⟩
        rw [hq] at cS
        have HQ := Lib.hid hq
        have CS := Lib.hid cS; clear cS hq
        cases q
        all_goals
          go_wp2
          refine wp_region_quiet_below (by kernel_rfl) (by kernel_rfl) ?_
          repeat (any_goals (first | go_big_quiet_step (with_reducible exact CS.out _ _) | quiet_step (with_reducible exact CS.out _ _)))
          refine wpQuiet_nil ?_
          intro _ hw'
          obtain ⟨⟨dq, osq⟩, hw''⟩ := hw'
          subst hw''
          have hbq := hbel.trans ((below_regrown wr dq osq).mono hbel.size)
          go_wp2
        · go_ret
          exact ⟨ret_bool (decide_eq_false (ne_at HX.out.1 HX.out.2 (fun e => of_decide_eq_false HQ.out (by injection e)))).symm, hbq⟩
        · go_roundw
          case rel => exact ⟨j + 1, by omega, by go_num, take_eq_succ HX.out.1 HX.out.2 ht.out (by rw [of_decide_eq_true HQ.out]), hbq⟩
          case measure => simp [intOf]; omega
      · go_wp2
        go_ret
        exact ⟨ret_bool (decide_eq_true (eq_of_take (by rw [HN.out, HM.out]) ht.out (by rw [HN.out]; omega))).symm, hbel⟩
  · have d1 : ((n : Int) != (m : Int)) = true := by simp; omega
    have HE := Lib.hid (show decide (xs = ys) = false from decide_eq_false (by rintro rfl; exact hnm (HN.out.symm.trans HM.out)))
    clear hnm
    go_enter Try.func16, Try.ntmps16
    go_wp2
    go_ret
    exact ⟨ret_bool HE.out.symm, Below.refl _ _⟩
end Go.Proofs.Ytponbodiibkopaa
