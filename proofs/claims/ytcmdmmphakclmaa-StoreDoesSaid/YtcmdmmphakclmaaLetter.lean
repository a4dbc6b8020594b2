/-
  Letters: how they lie in cells; the program's and the reference's Check tell the same; r10.Same and r10.SameAll tell whether letters are the same.
-/
import Derived.Test.YtcmdmmphakclmaaBytes
import Derived.BigGuardPart
namespace Go.Proofs.Ytcmdmmphakclmaa
open Go.RowKit Go.Sort
set_option linter.unusedVariables false

structure Lt where
  cover : Bool
  fr : Int
  to : Int
  sq : Int
  text : List Int
theorem Lt.ext_iff' {l m : Lt} : l = m ↔ l.cover = m.cover ∧ l.fr = m.fr ∧ l.to = m.to ∧ l.sq = m.sq ∧ l.text = m.text := by
  cases l; cases m; simp
/-- A letter's five cells. -/
def Rlt : Rdr Lt where
  size := 5
  fit := fun K l => l.text.length ≤ K
  rd := fun w S l cs => ∃ (A : Option Addr) (cap : Nat), cs = [.bool l.cover, .int .i64 l.fr, .int .i64 l.to, .int .u64 l.sq, .slice A l.text.length cap] ∧ (Lit.int .i64 l.fr).wf = true ∧ (Lit.int .i64 l.to).wf = true ∧ (Lit.int .u64 l.sq).wf = true ∧
    l.text.length ≤ cap ∧ cap ≤ maxLen ∧ Sl (Rint .u8) w S A l.text
  len := by rintro _ _ _ _ ⟨_, _, rfl, _⟩; rfl
  one := by
    rintro _ _ _ _ ⟨_, _, rfl, _⟩ v hv
    simp only [List.mem_cons, List.not_mem_nil, or_false] at hv
    rcases hv with rfl | rfl | rfl | rfl | rfl <;> rfl
  keep := fun ⟨A, cap, h, h1, h2, h3, hl, hc, hs⟩ hk hm => ⟨A, cap, h, h1, h2, h3, hl, hc, hs.keep hk hm⟩
  more := fun h hK => Nat.le_trans h hK

/-! ### Check -/
/-- P10.1's answer. -/
def errLet (cv : Bool) (fr to sq : Int) (n : Nat) : Int :=
  if cv = true then (if fr ≠ 0 ∨ to ≠ 0 ∨ sq ≠ 0 ∨ 0 < n then 1 else 0)
  else if fr < 0 ∨ 7 < fr ∨ to < 0 ∨ 7 < to ∨ sq < 1 then 1 else if 64 < n then 2 else 0
theorem ret_int {k : IntKind} {a b : Int} (h : a = b) : Ending.returned (.int k a) = .returned (.int k b) := by rw [h]
theorem ret_bool {a b : Bool} (h : a = b) : Ending.returned (.bool a) = .returned (.bool b) := by rw [h]
theorem errc1 {fr to sq : Int} {n : Nat} (h : fr ≠ 0 ∨ to ≠ 0 ∨ sq ≠ 0 ∨ 0 < n) : Ending.returned (.int .i64 1) = .returned (.int .i64 (errLet true fr to sq n)) := by unfold errLet; rw [if_pos rfl, if_pos h]
theorem errc0 {fr to sq : Int} {n : Nat} (h : ¬ (fr ≠ 0 ∨ to ≠ 0 ∨ sq ≠ 0 ∨ 0 < n)) : Ending.returned (.int .i64 0) = .returned (.int .i64 (errLet true fr to sq n)) := by unfold errLet; rw [if_pos rfl, if_neg h]
theorem errn1 {fr to sq : Int} {n : Nat} (h : fr < 0 ∨ 7 < fr ∨ to < 0 ∨ 7 < to ∨ sq < 1) : Ending.returned (.int .i64 1) = .returned (.int .i64 (errLet false fr to sq n)) := by unfold errLet; rw [if_neg (by simp), if_pos h]
theorem errn2 {fr to sq : Int} {n : Nat} (h : ¬ (fr < 0 ∨ 7 < fr ∨ to < 0 ∨ 7 < to ∨ sq < 1)) (h' : 64 < n) : Ending.returned (.int .i64 2) = .returned (.int .i64 (errLet false fr to sq n)) := by unfold errLet; rw [if_neg (by simp), if_neg h, if_pos h']
theorem errn0 {fr to sq : Int} {n : Nat} (h : ¬ (fr < 0 ∨ 7 < fr ∨ to < 0 ∨ 7 < to ∨ sq < 1)) (h' : ¬ 64 < n) : Ending.returned (.int .i64 0) = .returned (.int .i64 (errLet false fr to sq n)) := by unfold errLet; rw [if_neg (by simp), if_neg h, if_neg h']
set_option maxHeartbeats 2000000 in
theorem lcheck_c (fr to sq : Int) (hq : 0 ≤ sq) (A : Option Addr) (n cap : Nat) (w : World) :
    Calls Try.prog 30 #[.agg #[.bool true, .int .i64 fr, .int .i64 to, .int .u64 sq, .slice A n cap]] w fun e w' => e = .returned (.int .i64 (errLet true fr to sq n)) ∧ Below w.heap.size w w' := by
  go_enter Try.func30, Try.ntmps30
  go_wp2
  all_goals go_ret
  all_goals refine ⟨?_, (Below.refl _ _).alloc (Nat.le_refl _) _⟩
  all_goals first
    | (refine errc1 ?_; omega)
    | (refine errc0 ?_; omega)
    | (refine errn1 ?_; omega)
    | (refine errn2 ?_ ?_ <;> omega)
    | (refine errn0 ?_ ?_ <;> omega)
set_option maxHeartbeats 2000000 in
theorem lcheck_n (fr to sq : Int) (hq : 0 ≤ sq) (A : Option Addr) (n cap : Nat) (w : World) :
    Calls Try.prog 30 #[.agg #[.bool false, .int .i64 fr, .int .i64 to, .int .u64 sq, .slice A n cap]] w fun e w' => e = .returned (.int .i64 (errLet false fr to sq n)) ∧ Below w.heap.size w w' := by
  go_enter Try.func30, Try.ntmps30
  go_wp2
  all_goals (try simp only [beq_iff_eq, beq_eq_false_iff_ne, ne_eq] at *)
  all_goals go_ret
  all_goals refine ⟨?_, (Below.refl _ _).alloc (Nat.le_refl _) _⟩
  all_goals first
    | (refine errc1 ?_; omega)
    | (refine errc0 ?_; omega)
    | (refine errn1 ?_; omega)
    | (refine errn2 ?_ ?_ <;> omega)
    | (refine errn0 ?_ ?_ <;> omega)
theorem lcheck_any (cv : Bool) (fr to sq : Int) (hq : 0 ≤ sq) (A : Option Addr) (n cap : Nat) (w : World) :
    Calls Try.prog 30 #[.agg #[.bool cv, .int .i64 fr, .int .i64 to, .int .u64 sq, .slice A n cap]] w fun e w' => e = .returned (.int .i64 (errLet cv fr to sq n)) ∧ Below w.heap.size w w' := by
  cases cv
  · exact lcheck_n fr to sq hq A n cap w
  · exact lcheck_c fr to sq hq A n cap w
set_option maxHeartbeats 2000000 in
theorem r10check_c (fr to sq : Int) (hq : 0 ≤ sq) (A : Option Addr) (n cap : Nat) (w : World) :
    Calls Try.prog 12 #[.agg #[.bool true, .int .i64 fr, .int .i64 to, .int .u64 sq, .slice A n cap]] w fun e w' => e = .returned (.int .i64 (errLet true fr to sq n)) ∧ Below w.heap.size w w' := by
  go_enter Try.func12, Try.ntmps12
  go_wp2
  all_goals go_ret
  all_goals refine ⟨?_, (Below.refl _ _).alloc (Nat.le_refl _) _⟩
  all_goals first
    | (refine errc1 ?_; omega)
    | (refine errc0 ?_; omega)
    | (refine errn1 ?_; omega)
    | (refine errn2 ?_ ?_ <;> omega)
    | (refine errn0 ?_ ?_ <;> omega)
set_option maxHeartbeats 2000000 in
theorem r10check_n (fr to sq : Int) (hq : 0 ≤ sq) (A : Option Addr) (n cap : Nat) (w : World) :
    Calls Try.prog 12 #[.agg #[.bool false, .int .i64 fr, .int .i64 to, .int .u64 sq, .slice A n cap]] w fun e w' => e = .returned (.int .i64 (errLet false fr to sq n)) ∧ Below w.heap.size w w' := by
  go_enter Try.func12, Try.ntmps12
  go_wp2
  all_goals go_ret
  all_goals refine ⟨?_, (Below.refl _ _).alloc (Nat.le_refl _) _⟩
  all_goals first
    | (refine errc1 ?_; omega)
    | (refine errc0 ?_; omega)
    | (refine errn1 ?_; omega)
    | (refine errn2 ?_ ?_ <;> omega)
    | (refine errn0 ?_ ?_ <;> omega)
theorem r10check_any (cv : Bool) (fr to sq : Int) (hq : 0 ≤ sq) (A : Option Addr) (n cap : Nat) (w : World) :
    Calls Try.prog 12 #[.agg #[.bool cv, .int .i64 fr, .int .i64 to, .int .u64 sq, .slice A n cap]] w fun e w' => e = .returned (.int .i64 (errLet cv fr to sq n)) ∧ Below w.heap.size w w' := by
  cases cv
  · exact r10check_n fr to sq hq A n cap w
  · exact r10check_c fr to sq hq A n cap w

/-! ### what a store may keep -/
def keepL (cv : Bool) (fr to sq : Int) (n : Nat) : Bool := !cv && decide (errLet cv fr to sq n = 0)
set_option maxHeartbeats 400000 in
theorem keep_any (cv : Bool) (fr to sq : Int) (hq : 0 ≤ sq) (A : Option Addr) (n cap : Nat) (w : World) :
    Calls Try.prog 24 #[.agg #[.bool cv, .int .i64 fr, .int .i64 to, .int .u64 sq, .slice A n cap]] w fun e w' => e = .returned (.bool (keepL cv fr to sq n)) ∧ Below w.heap.size w w' := by
  cases cv
  · obtain ⟨E, hE⟩ : ∃ E, errLet false fr to sq n = E := ⟨_, rfl⟩
    have HE := Lib.hid hE; clear hE
    have HK := Lib.hid (show keepL false fr to sq n = (E == 0) by unfold keepL; rw [HE.out, Bool.eq_iff_iff]; simp)
    go_enter Try.func24, Try.ntmps24
    go_wp2_with (go_at_call 30; refine (lcheck_n fr to sq hq A n cap _).mono ?_; rintro e w1 ⟨rfl, hb1⟩; rw [HE.out])
    go_ret
    exact ⟨ret_bool HK.out.symm, ((Below.refl _ _).alloc (Nat.le_refl _) _).trans (hb1.mono (by simp))⟩
  · have HK := Lib.hid (show keepL true fr to sq n = false from rfl)
    go_enter Try.func24, Try.ntmps24
    go_wp2
    go_ret
    exact ⟨ret_bool HK.out.symm, (Below.refl _ _).alloc (Nat.le_refl _) _⟩

def same5 (cv cv' : Bool) (fr fr' to to' sq sq' : Int) (xs ys : List Int) : Bool := decide (cv = cv' ∧ fr = fr' ∧ to = to' ∧ sq = sq' ∧ xs = ys)
/-! ### the same -/
set_option maxHeartbeats 1000000 in
theorem r10same_any (cv : Bool) (fr to sq : Int) (A : Option Addr) (xs : List Int) (n cap : Nat) (hn : xs.length = n) (cv' : Bool) (fr' to' sq' : Int) (B : Option Addr) (ys : List Int) (m cap' : Nat) (hm : ys.length = m)
    (w : World) (h : Sl (Rint .u8) w (lo w.heap.size) A xs) (k : Sl (Rint .u8) w (lo w.heap.size) B ys) :
    Calls Try.prog 17 #[.agg #[.bool cv, .int .i64 fr, .int .i64 to, .int .u64 sq, .slice A n cap], .agg #[.bool cv', .int .i64 fr', .int .i64 to', .int .u64 sq', .slice B m cap']] w
      fun e w' => e = .returned (.bool (same5 cv cv' fr fr' to to' sq sq' xs ys)) ∧ Below w.heap.size w w' := by
  have hs := fun W (hb : Below w.heap.size w W) => same_any A xs n cap hn B ys m cap' hm W (h.below hb (Nat.le_refl _)) (k.below hb (Nat.le_refl _))
  have HS := Lib.hid hs; clear hs h k
  have hb0 : Below w.heap.size w ((w.alloc (.cells #[.bool cv, .int .i64 fr, .int .i64 to, .int .u64 sq, .slice A n cap] 34)).alloc (.cells #[.bool cv', .int .i64 fr', .int .i64 to', .int .u64 sq', .slice B m cap'] 34)) := ((Below.refl _ _).alloc (Nat.le_refl _) _).alloc (by simp) _
  have HB := Lib.hid hb0; clear hb0
  clear hn hm
  by_cases h_cv : cv = cv'
  rotate_left
  · have HN := Lib.hid (show same5 cv cv' fr fr' to to' sq sq' xs ys = false from decide_eq_false (fun h => h_cv (by simp only [h])))
    have hne : (cv == cv') = false := by simpa using h_cv
    clear h_cv HS
    go_enter Try.func17, Try.ntmps17
    go_wp2
    go_ret
    exact ⟨ret_bool HN.out.symm, HB.out⟩
  subst h_cv
  by_cases h_fr : fr = fr'
  rotate_left
  · have HN := Lib.hid (show same5 cv cv fr fr' to to' sq sq' xs ys = false from decide_eq_false (fun h => h_fr (by simp only [h])))
    have hne : (fr == fr') = false := by simpa using h_fr
    clear h_fr HS
    go_enter Try.func17, Try.ntmps17
    go_wp2
    go_ret
    exact ⟨ret_bool HN.out.symm, HB.out⟩
  subst h_fr
  by_cases h_to : to = to'
  rotate_left
  · have HN := Lib.hid (show same5 cv cv fr fr to to' sq sq' xs ys = false from decide_eq_false (fun h => h_to (by simp only [h])))
    have hne : (to == to') = false := by simpa using h_to
    clear h_to HS
    go_enter Try.func17, Try.ntmps17
    go_wp2
    go_ret
    exact ⟨ret_bool HN.out.symm, HB.out⟩
  subst h_to
  by_cases h_sq : sq = sq'
  rotate_left
  · have HN := Lib.hid (show same5 cv cv fr fr to to sq sq' xs ys = false from decide_eq_false (fun h => h_sq (by simp only [h])))
    have hne : (sq == sq') = false := by simpa using h_sq
    clear h_sq HS
    go_enter Try.func17, Try.ntmps17
    go_wp2
    go_ret
    exact ⟨ret_bool HN.out.symm, HB.out⟩
  subst h_sq
  have HE := Lib.hid (show same5 cv cv fr fr to to sq sq xs ys = decide (xs = ys) by simp [same5])
  go_enter Try.func17, Try.ntmps17
  go_wp2_with (go_at_call 26; refine (HS.out _ HB.out).mono ?_; rintro e w1 ⟨rfl, rfl⟩)
  go_ret
  exact ⟨ret_bool HE.out.symm, HB.out⟩

instance : DecidableEq Lt := fun a b => decidable_of_iff (a.cover = b.cover ∧ a.fr = b.fr ∧ a.to = b.to ∧ a.sq = b.sq ∧ a.text = b.text) Lt.ext_iff'.symm
def sameLt (l m : Lt) : Bool := same5 l.cover m.cover l.fr m.fr l.to m.to l.sq m.sq l.text m.text
theorem sameLt_eq (l m : Lt) : sameLt l m = decide (l = m) := by
  unfold sameLt same5
  rw [Bool.eq_iff_iff, decide_eq_true_eq, decide_eq_true_eq]
  exact Lt.ext_iff'.symm
/-- Element i of a slice of letters: its five cells. -/
theorem Sl.letter {w : World} {S : Nat → Prop} {A : Option Addr} {xs : List Lt} (h : Sl Rlt w S A xs) {i : Nat} {x : Lt} (hx : xs[i]? = some x) :
    ∃ (b off : Nat) (T : Option Addr) (n cap : Nat), A = some ⟨b, off, none⟩ ∧ S b ∧ (Lit.int .i64 x.fr).wf = true ∧ (Lit.int .i64 x.to).wf = true ∧ (Lit.int .u64 x.sq).wf = true ∧ x.text.length = n ∧ n ≤ cap ∧ cap ≤ maxLen ∧ Sl (Rint .u8) w S T x.text ∧
      w.cell? ⟨b, off + i * 5, none⟩ = some (.bool x.cover) ∧ w.cell? ⟨b, off + i * 5 + 1, none⟩ = some (.int .i64 x.fr) ∧ w.cell? ⟨b, off + i * 5 + 2, none⟩ = some (.int .i64 x.to) ∧ w.cell? ⟨b, off + i * 5 + 3, none⟩ = some (.int .u64 x.sq) ∧
      w.cell? ⟨b, off + i * 5 + 4, none⟩ = some (.slice T n cap) := by
  obtain ⟨b, off, cs, hA, hb, ⟨T, cap, rfl, h1, h2, h3, hl, hm, hs⟩, hc⟩ := h i x hx
  exact ⟨b, off, T, _, cap, hA, hb, h1, h2, h3, rfl, hl, hm, hs, hc 0 _ rfl, hc 1 _ rfl, hc 2 _ rfl, hc 3 _ rfl, hc 4 _ rfl⟩
theorem eq_of_take {α : Type} {xs ys : List α} {k : Nat} (hl : xs.length = ys.length) (h : xs.take k = ys.take k) (hk : xs.length ≤ k) : xs = ys := by
  rwa [List.take_of_length_le hk, List.take_of_length_le (by omega)] at h
theorem take_eq_succ {α : Type} {xs ys : List α} {k : Nat} {x y : α} (hx : xs[k]? = some x) (hy : ys[k]? = some y) (h : xs.take k = ys.take k) (e : x = y) : xs.take (k + 1) = ys.take (k + 1) := by
  have h1 := (List.getElem?_eq_some_iff.1 hx); have h2 := (List.getElem?_eq_some_iff.1 hy)
  rw [List.take_succ_eq_append_getElem h1.1, List.take_succ_eq_append_getElem h2.1, h, h1.2, h2.2, e]
theorem ne_at {α : Type} {xs ys : List α} {k : Nat} {x y : α} (hx : xs[k]? = some x) (hy : ys[k]? = some y) (e : x ≠ y) : xs ≠ ys := by
  rintro rfl; rw [hx] at hy; exact e (Option.some.inj hy)

set_option maxHeartbeats 1000000 in
theorem sameAll_any (A : Option Addr) (xs : List Lt) (n cap : Nat) (hn : xs.length = n) (B : Option Addr) (ys : List Lt) (m cap' : Nat) (hm : ys.length = m) (w : World) (h : Sl Rlt w (lo w.heap.size) A xs) (k : Sl Rlt w (lo w.heap.size) B ys) (hM : n ≤ 9223372036854775807) :
    Calls Try.prog 13 #[.slice A n cap, .slice B m cap'] w fun e w' => e = .returned (.bool (decide (xs = ys))) ∧ Below w.heap.size w w' := by
  have HN := Lib.hid hn; have HM := Lib.hid hm; clear hn hm
  by_cases hnm : n = m
  · subst hnm
    go_enter Try.func13, Try.ntmps13
    go_wp2
    go_loopw [5, 13] (fun _ i wr => ∃ k : Nat, k ≤ n ∧ i = .int .i64 k ∧ Hid (xs.take k = ys.take k) ∧ Below w.heap.size w wr) (fun _ i _ => n - (intOf i).toNat)
    case atStart => exact ⟨0, Nat.zero_le _, rfl, by simp [Hid], Below.refl _ _⟩
    case round =>
      obtain ⟨j, hj, rfl, ht, hbel⟩ := hrel
      by_cases hlt : j < n
      · have hx := List.getElem?_eq_getElem (l := xs) (i := j) (by rw [HN.out]; exact hlt)
        have hy := List.getElem?_eq_getElem (l := ys) (i := j) (by rw [HM.out]; exact hlt)
        generalize xs[j]'(by rw [HN.out]; exact hlt) = x at hx
        generalize ys[j]'(by rw [HM.out]; exact hlt) = y at hy
        obtain ⟨b, off, T, tn, tc, rfl, _, _, _, _, htn, _, _, hts, x0, x1, x2, x3, x4⟩ := (h.below hbel hbel.size).letter hx
        obtain ⟨b', off', T', tn', tc', rfl, _, _, _, _, htn', _, _, hts', y0, y1, y2, y3, y4⟩ := (k.below hbel hbel.size).letter hy
        have cS := fun d os => Calls.regrown_of (r10same_any x.cover x.fr x.to x.sq T x.text tn tc htn y.cover y.fr y.to y.sq T' y.text tn' tc' htn' (grow (redrawn wr d) os)
          (hts.below (below_regrown wr d os) (below_regrown wr d os).size) (hts'.below (below_regrown wr d os) (below_regrown wr d os).size))
        have HX := Lib.hid (And.intro hx hy); have HT := Lib.hid (sameLt_eq x y)
        have k0 := cell_regrown x0; have k1 := cell_regrown x1; have k2 := cell_regrown x2; have k3 := cell_regrown x3; have k4 := cell_regrown x4
        have l0 := cell_regrown y0; have l1 := cell_regrown y1; have l2 := cell_regrown y2; have l3 := cell_regrown y3; have l4 := cell_regrown y4
        clear hx hy htn htn' hts hts' x0 x1 x2 x3 x4 y0 y1 y2 y3 y4 h k
        change ∀ d os, Calls _ _ _ _ fun e w'' => e = .returned (.bool (sameLt x y)) ∧ _ at cS
        cases hs : sameLt x y
        all_goals
          rw [hs] at cS HT
          have CS := Lib.hid cS; clear cS hs
          go_wp2
          refine wp_region_quiet_below (by kernel_rfl) (by kernel_rfl) ?_
          repeat (any_goals (first | go_big_quiet_step (exact CS.out _ _) | quiet_step (exact CS.out _ _)))
          refine wpQuiet_nil ?_
          intro _ hw'
          obtain ⟨⟨dq, osq⟩, hw''⟩ := hw'
          subst hw''
          have hbq := hbel.trans ((below_regrown wr dq osq).mono hbel.size)
          go_wp2
        · go_ret
          exact ⟨ret_bool (decide_eq_false (ne_at HX.out.1 HX.out.2 (of_decide_eq_false HT.out.symm))).symm, hbq⟩
        · go_roundw
          case rel => exact ⟨j + 1, by omega, by go_num, take_eq_succ HX.out.1 HX.out.2 ht.out (of_decide_eq_true HT.out.symm), hbq⟩
          case measure => simp [intOf]; omega
      · go_wp2
        go_ret
        exact ⟨ret_bool (decide_eq_true (eq_of_take (by rw [HN.out, HM.out]) ht.out (by rw [HN.out]; omega))).symm, hbel⟩
  · have d1 : ((n : Int) != (m : Int)) = true := by simp; omega
    have HE := Lib.hid (show decide (xs = ys) = false from decide_eq_false (by rintro rfl; exact hnm (HN.out.symm.trans HM.out)))
    clear hnm
    go_enter Try.func13, Try.ntmps13
    go_wp2
    go_ret
    exact ⟨ret_bool HE.out.symm, Below.refl _ _⟩
end Go.Proofs.Ytcmdmmphakclmaa
