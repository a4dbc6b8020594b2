/-
  Stores: how they lie in cells; Check, the program's and the reference's; the reference's Same and Few.
-/
import Derived.Test.YtcmdmmphakclmaaLetter
namespace Go.Proofs.Ytcmdmmphakclmaa
open Go.RowKit Go.Sort
set_option linter.unusedVariables false

structure St where
  last : List Int
  boxes : List (List Lt)
/-- A store's two slices in a world. -/
structure StAt (w : World) (S : Nat → Prop) (A : Option Addr) (n : Nat) (B : Option Addr) (m : Nat) (s : St) : Prop where
  last : Sl (Rint .u64) w S A s.last
  lastN : s.last.length = n
  boxes : Sl (Rsl 56 Rlt) w S B s.boxes
  boxesN : s.boxes.length = m
theorem StAt.below {w w' : World} {B0 B1 : Nat} {A : Option Addr} {n : Nat} {B : Option Addr} {m : Nat} {s : St} (h : StAt w (lo B0) A n B m s) (hb : Below B0 w w') (hB : B0 ≤ B1) : StAt w' (lo B1) A n B m s :=
  ⟨h.last.below hb hB, h.lastN, h.boxes.below hb hB, h.boxesN⟩
/-- Element i of a slice of slices: its one cell. -/
theorem Sl.sub {α : Type} {R : Rdr α} {by_ : Nat} {w : World} {S : Nat → Prop} {A : Option Addr} {xs : List (List α)} (h : Sl (Rsl by_ R) w S A xs) {i : Nat} {x : List α} (hx : xs[i]? = some x) :
    ∃ (b off : Nat) (T : Option Addr) (n cap : Nat), A = some ⟨b, off, none⟩ ∧ S b ∧ x.length = n ∧ n ≤ cap ∧ cap ≤ maxLen ∧ Sl R w S T x ∧ w.cell? ⟨b, off + i, none⟩ = some (.slice T n cap) := by
  obtain ⟨b, off, cs, hA, hb, ⟨T, cap, rfl, hl, hm, hs⟩, hc⟩ := h i x hx
  exact ⟨b, off, T, _, cap, hA, hb, rfl, hl, hm, hs, by simpa [Rsl] using hc 0 _ rfl⟩
theorem Sl.int {k : IntKind} {w : World} {S : Nat → Prop} {A : Option Addr} {xs : List Int} (h : Sl (Rint k) w S A xs) {i : Nat} {x : Int} (hx : xs[i]? = some x) :
    ∃ (b off : Nat), A = some ⟨b, off, none⟩ ∧ S b ∧ (Lit.int k x).wf = true ∧ w.cell? ⟨b, off + i, none⟩ = some (.int k x) := by
  obtain ⟨b, off, cs, hA, hb, ⟨rfl, hw⟩, hc⟩ := h i x hx
  exact ⟨b, off, hA, hb, hw, by simpa [Rint] using hc 0 _ rfl⟩

/-! ### Check -/
def keepLt (l : Lt) : Bool := keepL l.cover l.fr l.to l.sq l.text.length
def boxOk (box : List Lt) : Bool := box.all keepLt
def checkB (s : St) : Bool := decide (1 ≤ s.last.length ∧ s.last.length ≤ 8 ∧ s.boxes.length = s.last.length) && s.boxes.all boxOk
def errArg (b : Bool) : Int := if b then 0 else 1
theorem all_take_succ {α : Type} {p : α → Bool} {xs : List α} {k : Nat} {x : α} (hx : xs[k]? = some x) (h : (xs.take k).all p = true) (hp : p x = true) : (xs.take (k + 1)).all p = true := by
  have h1 := (List.getElem?_eq_some_iff.1 hx)
  rw [List.take_succ_eq_append_getElem h1.1, List.all_append, h, h1.2]
  simp [hp]
theorem all_no {α : Type} {p : α → Bool} {xs : List α} {k : Nat} {x : α} (hx : xs[k]? = some x) (hp : p x = false) : xs.all p = false :=
  List.all_eq_false.2 ⟨x, List.mem_of_getElem? hx, by rw [hp]; simp⟩
theorem checkB_len {s : St} (h : ¬ (1 ≤ s.last.length ∧ s.last.length ≤ 8 ∧ s.boxes.length = s.last.length)) : errArg (checkB s) = 1 := by unfold checkB; rw [decide_eq_false h]; rfl
theorem checkB_box {s : St} (h : s.boxes.all boxOk = false) : errArg (checkB s) = 1 := by unfold checkB; rw [h, Bool.and_false]; rfl
theorem checkB_ok {s : St} (h : 1 ≤ s.last.length ∧ s.last.length ≤ 8 ∧ s.boxes.length = s.last.length) (h' : s.boxes.all boxOk = true) : errArg (checkB s) = 0 := by unfold checkB; rw [h', decide_eq_true h]; rfl

set_option maxHeartbeats 1000000 in
theorem check_small (A : Option Addr) (n cap : Nat) (B : Option Addr) (m cap' : Nat) (h : ¬ (1 ≤ n ∧ n ≤ 8 ∧ m = n)) (w : World) :
    Calls Try.prog 15 #[.agg #[.slice A n cap, .slice B m cap']] w fun e w' => e = .returned (.int .i64 1) ∧ Below w.heap.size w w' := by
  go_enter Try.func15, Try.ntmps15
  go_wp2_with fail
  all_goals first
    | (exfalso; omega)
    | (go_ret; exact ⟨rfl, (Below.refl _ _).alloc (Nat.le_refl _) _⟩)
set_option maxHeartbeats 2000000 in
theorem check_any (A : Option Addr) (n cap : Nat) (B : Option Addr) (m cap' : Nat) (s : St) (w : World) (hs : StAt w (lo w.heap.size) A n B m s) :
    Calls Try.prog 15 #[.agg #[.slice A n cap, .slice B m cap']] w fun e w' => e = .returned (.int .i64 (errArg (checkB s))) ∧ Below w.heap.size w w' := by
  obtain ⟨hl, hln, hbx, hbn⟩ := hs
  by_cases hok : 1 ≤ n ∧ n ≤ 8 ∧ m = n
  · have hgood := Lib.hid (show 1 ≤ s.last.length ∧ s.last.length ≤ 8 ∧ s.boxes.length = s.last.length by omega)
    have HB := Lib.hid hbn
    obtain ⟨g1, g2, rfl⟩ := hok
    have d1 : decide ((m : Int) < 1) = false := decide_eq_false (by omega)
    have d2 : decide ((8 : Int) < m) = false := decide_eq_false (by omega)
    clear hbn hln hl
    go_enter Try.func15, Try.ntmps15
    go_wp2
    go_loopw [4, 29] (fun _ i wr => ∃ k : Nat, k ≤ m ∧ i = .int .i64 k ∧ Hid ((s.boxes.take k).all boxOk = true) ∧ Below w.heap.size w wr) (fun _ i _ => m - (intOf i).toNat)
    case atStart => exact ⟨0, Nat.zero_le _, rfl, by simp [Hid], (Below.refl _ _).alloc (Nat.le_refl _) _⟩
    case round =>
      obtain ⟨k, hk, rfl, hall, hbel⟩ := hrel
      by_cases hlt : k < m
      · have hx := List.getElem?_eq_getElem (l := s.boxes) (i := k) (by rw [HB.out]; exact hlt)
        generalize s.boxes[k]'(by rw [HB.out]; exact hlt) = box at hx
        obtain ⟨b, off, T, q, qc, rfl, hbl, hq, _, hqm, hT, x0⟩ := (hbx.below hbel hbel.size).sub hx
        have hqm' : q ≤ 9223372036854775807 := by have := maxLen; unfold maxLen at hqm; omega
        have HX := Lib.hid hx; have HQ := Lib.hid hq
        clear hx hq hqm
        obtain ⟨wo, rfl⟩ : ∃ wo : World, wo = wr := ⟨_, rfl⟩
        go_wp2
        go_loopw [6, 35] (fun _ i wi => ∃ j : Nat, j ≤ q ∧ i = .int .i64 j ∧ Hid ((box.take j).all keepLt = true) ∧ Below wo.heap.size wo wi) (fun _ i _ => q - (intOf i).toNat)
        case atStart => exact ⟨0, Nat.zero_le _, rfl, by simp [Hid], Below.refl _ _⟩
        case round =>
          obtain ⟨j, hj, rfl, hin, hbel2⟩ := hrel
          by_cases hlt2 : j < q
          · have hy := List.getElem?_eq_getElem (l := box) (i := j) (by rw [HQ.out]; exact hlt2)
            generalize box[j]'(by rw [HQ.out]; exact hlt2) = y at hy
            obtain ⟨b', off', T', tn', tc', rfl, _, w1, w2, w3, htn', _, _, hts', y0, y1, y2, y3, y4⟩ := (hT.below hbel2 hbel2.size).letter hy
            have HK := Lib.hid (show keepLt y = keepL y.cover y.fr y.to y.sq tn' by unfold keepLt; rw [htn'])
            have HY := Lib.hid hy
            have hsq := (bounds_u64 w3).1
            clear hy htn' hts' w1 w2 w3
            obtain ⟨L, hL⟩ : ∃ L, keepL y.cover y.fr y.to y.sq tn' = L := ⟨_, rfl⟩
            have HL := Lib.hid hL; clear hL
            cases L
            all_goals go_wp2_with (go_at_call 24; refine (keep_any y.cover y.fr y.to y.sq hsq T' tn' tc' _).mono ?_; rintro e w9 ⟨rfl, hb9⟩; rw [HL.out]; have hb10 := hbel2.trans (((Below.refl _ _).alloc hbel2.size _).trans (hb9.mono (by have := hbel2.size; simp; omega))); clear hb9)
            · go_ret
              exact ⟨ret_int (checkB_box (all_no HX.out (all_no HY.out (HK.out.trans HL.out)))).symm, hbel.trans (hb10.mono hbel.size)⟩
            · go_roundw
              case rel => exact ⟨j + 1, by omega, by go_num, all_take_succ HY.out hin.out (HK.out.trans HL.out), hb10⟩
              case measure => simp [intOf]; omega
          · have hbox : boxOk box = true := by
              have := hin.out
              rwa [List.take_of_length_le (by rw [HQ.out]; omega)] at this
            have hnew := all_take_succ HX.out hall.out hbox
            have HNEW := Lib.hid hnew
            have hb3 := hbel.trans (hbel2.mono hbel.size)
            clear hnew hbox
            go_wp2
            go_roundw
            case rel => exact ⟨k + 1, by omega, by go_num, HNEW.out, hb3⟩
            case measure => simp [intOf]; omega
      · have hfin := hall.out
        rw [List.take_of_length_le (by rw [HB.out]; omega)] at hfin
        have HF := Lib.hid (checkB_ok hgood.out hfin)
        clear hfin
        go_wp2
        go_ret
        exact ⟨ret_int HF.out.symm, hbel⟩
  · refine (check_small A n cap B m cap' hok w).mono fun e w' ⟨he, hb⟩ => ⟨by rw [he, checkB_len (by omega)], hb⟩

set_option maxHeartbeats 1000000 in
theorem rcheck_small (A : Option Addr) (n cap : Nat) (B : Option Addr) (m cap' : Nat) (h : ¬ (1 ≤ n ∧ n ≤ 8 ∧ m = n)) (w : World) :
    Calls Try.prog 22 #[.agg #[.slice A n cap, .slice B m cap']] w fun e w' => e = .returned (.int .i64 1) ∧ Below w.heap.size w w' := by
  go_enter Try.func22, Try.ntmps22
  go_wp2_with fail
  all_goals first
    | (exfalso; omega)
    | (go_ret; exact ⟨rfl, (Below.refl _ _).alloc (Nat.le_refl _) _⟩)
set_option maxHeartbeats 2000000 in
theorem rcheck_any (A : Option Addr) (n cap : Nat) (B : Option Addr) (m cap' : Nat) (s : St) (w : World) (hs : StAt w (lo w.heap.size) A n B m s) :
    Calls Try.prog 22 #[.agg #[.slice A n cap, .slice B m cap']] w fun e w' => e = .returned (.int .i64 (errArg (checkB s))) ∧ Below w.heap.size w w' := by
  obtain ⟨hl, hln, hbx, hbn⟩ := hs
  by_cases hok : 1 ≤ n ∧ n ≤ 8 ∧ m = n
  · have hgood := Lib.hid (show 1 ≤ s.last.length ∧ s.last.length ≤ 8 ∧ s.boxes.length = s.last.length by omega)
    have HB := Lib.hid hbn
    obtain ⟨g1, g2, rfl⟩ := hok
    have d1 : decide ((m : Int) < 1) = false := decide_eq_false (by omega)
    have d2 : decide ((8 : Int) < m) = false := decide_eq_false (by omega)
    clear hbn hln hl
    go_enter Try.func22, Try.ntmps22
    go_wp2
    go_loopw [4, 29] (fun _ i wr => ∃ k : Nat, k ≤ m ∧ i = .int .i64 k ∧ Hid ((s.boxes.take k).all boxOk = true) ∧ Below w.heap.size w wr) (fun _ i _ => m - (intOf i).toNat)
    case atStart => exact ⟨0, Nat.zero_le _, rfl, by simp [Hid], (Below.refl _ _).alloc (Nat.le_refl _) _⟩
    case round =>
      obtain ⟨k, hk, rfl, hall, hbel⟩ := hrel
      by_cases hlt : k < m
      · have hx := List.getElem?_eq_getElem (l := s.boxes) (i := k) (by rw [HB.out]; exact hlt)
        generalize s.boxes[k]'(by rw [HB.out]; exact hlt) = box at hx
        obtain ⟨b, off, T, q, qc, rfl, hbl, hq, _, hqm, hT, x0⟩ := (hbx.below hbel hbel.size).sub hx
        have hqm' : q ≤ 9223372036854775807 := by have := maxLen; unfold maxLen at hqm; omega
        have HX := Lib.hid hx; have HQ := Lib.hid hq
        clear hx hq hqm
        obtain ⟨wo, rfl⟩ : ∃ wo : World, wo = wr := ⟨_, rfl⟩
        go_wp2
        go_loopw [6, 35] (fun _ i wi => ∃ j : Nat, j ≤ q ∧ i = .int .i64 j ∧ Hid ((box.take j).all keepLt = true) ∧ Below wo.heap.size wo wi) (fun _ i _ => q - (intOf i).toNat)
        case atStart => exact ⟨0, Nat.zero_le _, rfl, by simp [Hid], Below.refl _ _⟩
        case round =>
          obtain ⟨j, hj, rfl, hin, hbel2⟩ := hrel
          by_cases hlt2 : j < q
          · have hy := List.getElem?_eq_getElem (l := box) (i := j) (by rw [HQ.out]; exact hlt2)
            generalize box[j]'(by rw [HQ.out]; exact hlt2) = y at hy
            obtain ⟨b', off', T', tn', tc', rfl, _, w1, w2, w3, htn', _, _, hts', y0, y1, y2, y3, y4⟩ := (hT.below hbel2 hbel2.size).letter hy
            have HK := Lib.hid (show keepLt y = keepL y.cover y.fr y.to y.sq tn' by unfold keepLt; rw [htn'])
            have HY := Lib.hid hy
            have hsq := (bounds_u64 w3).1
            clear hy htn' hts' w1 w2 w3
            obtain ⟨cv, hcv⟩ : ∃ cv, y.cover = cv := ⟨_, rfl⟩
            rw [hcv] at y0
            obtain ⟨E, hE⟩ : ∃ E, errLet cv y.fr y.to y.sq tn' = E := ⟨_, rfl⟩
            have HE := Lib.hid hE
            have HK2 := Lib.hid (show keepLt y = (!cv && decide (E = 0)) by rw [HK.out]; unfold keepL; rw [hcv, hE])
            clear hE hcv HK
            cases cv with
            | true =>
              go_wp2
              go_ret
              exact ⟨ret_int (checkB_box (all_no HX.out (all_no HY.out (by rw [HK2.out]; rfl)))).symm, hbel.trans ((hbel2.alloc hbel2.size _).mono hbel.size)⟩
            | false =>
              by_cases hE0 : E = 0
              · subst hE0
                go_wp2_with (go_at_call 12; refine (r10check_any false y.fr y.to y.sq hsq T' tn' tc' _).mono ?_; rintro e w9 ⟨rfl, hb9⟩; rw [HE.out]; have hb10 := hbel2.trans (((Below.refl _ _).alloc hbel2.size _).trans (hb9.mono (by have := hbel2.size; simp; omega))); clear hb9)
                go_roundw
                case rel => exact ⟨j + 1, by omega, by go_num, all_take_succ HY.out hin.out (by rw [HK2.out]; rfl), hb10⟩
                case measure => simp [intOf]; omega
              · have d3 : (E != 0) = true := by simpa using hE0
                have HF2 := Lib.hid (show keepLt y = false by rw [HK2.out, decide_eq_false hE0]; rfl)
                clear hE0 HK2
                go_wp2_with (go_at_call 12; refine (r10check_any false y.fr y.to y.sq hsq T' tn' tc' _).mono ?_; rintro e w9 ⟨rfl, hb9⟩; rw [HE.out]; have hb10 := hbel2.trans (((Below.refl _ _).alloc hbel2.size _).trans (hb9.mono (by have := hbel2.size; simp; omega))); clear hb9)
                go_ret
                exact ⟨ret_int (checkB_box (all_no HX.out (all_no HY.out HF2.out))).symm, hbel.trans (hb10.mono hbel.size)⟩
          · have hbox : boxOk box = true := by
              have := hin.out
              rwa [List.take_of_length_le (by rw [HQ.out]; omega)] at this
            have hnew := all_take_succ HX.out hall.out hbox
            have HNEW := Lib.hid hnew
            have hb3 := hbel.trans (hbel2.mono hbel.size)
            clear hnew hbox
            go_wp2
            go_roundw
            case rel => exact ⟨k + 1, by omega, by go_num, HNEW.out, hb3⟩
            case measure => simp [intOf]; omega
      · have hfin := hall.out
        rw [List.take_of_length_le (by rw [HB.out]; omega)] at hfin
        have HF := Lib.hid (checkB_ok hgood.out hfin)
        clear hfin
        go_wp2
        go_ret
        exact ⟨ret_int HF.out.symm, hbel⟩
  · refine (rcheck_small A n cap B m cap' hok w).mono fun e w' ⟨he, hb⟩ => ⟨by rw [he, checkB_len (by omega)], hb⟩

end Go.Proofs.Ytcmdmmphakclmaa
