/-
  Fine (P22.1), and the statement BoundFates: fates are fine just if each of them is.
-/
import Derived.Test.YtigpalnmeefphaaBoundA
import Derived.Test.YtigpalnmeefphaaMem
namespace Go.Proofs.Ytigpalnmeefphaa
open Go.RowKit Go.Sort

def fineB (xs : List Int) (d : Int) : Bool := xs.all fun f => decide (0 ≤ f) && decide (1 + f % 16 ≤ d)
theorem fineB_append (a b : List Int) (d : Int) : fineB (a ++ b) d = (fineB a d && fineB b d) := by simp [fineB]
theorem fineB_take_succ {xs : List Int} {d f : Int} {k : Nat} (hx : xs[k]? = some f) : fineB (xs.take (k + 1)) d = (fineB (xs.take k) d && (decide (0 ≤ f) && decide (1 + f % 16 ≤ d))) := by
  have hk := (List.getElem?_eq_some_iff.1 hx).1
  have he := (List.getElem?_eq_some_iff.1 hx).2
  rw [List.take_succ_eq_append_getElem hk, fineB_append, he]
  simp [fineB]
theorem fineB_no {xs : List Int} {d f : Int} {k : Nat} (hx : xs[k]? = some f) (h : f < 0 ∨ d < 1 + f % 16) : fineB xs d = false := by
  rw [fineB, List.all_eq_false]
  exact ⟨f, List.mem_of_getElem? hx, by simp; omega⟩
theorem ret_bool {a b : Bool} (h : a = b) : Ending.returned (.bool a) = .returned (.bool b) := by rw [h]

theorem Sl.one {k : IntKind} {w : World} {S : Nat → Prop} {A : Option Addr} {xs : List Int} (h : Sl (Rint k) w S A xs) {i : Nat} (hi : i < xs.length) : ∃ b off f, A = some ⟨b, off, none⟩ ∧ S b ∧ xs[i]? = some f ∧ (Lit.int k f).wf = true ∧ w.cell? ⟨b, off + i, none⟩ = some (.int k f) := by
  obtain ⟨b, off, cs, hA, hb, ⟨rfl, hw⟩, hc⟩ := h i _ (List.getElem?_eq_getElem hi)
  exact ⟨b, off, _, hA, hb, List.getElem?_eq_getElem hi, hw, by simpa [Rint] using hc 0 _ rfl⟩

set_option maxHeartbeats 400000 in
theorem fine_any (A : Option Addr) (xs : List Int) (n cap : Nat) (hn : xs.length = n) (d : Int) (w : World) {S : Nat → Prop} (h : Sl (Rint .i64) w S A xs) (hm : n ≤ 9223372036854775807) :
    Calls Try.prog 11 #[.slice A n cap, .int .i64 d] w fun e w' => e = .returned (.bool (fineB xs d)) ∧ w = w' := by
  have HN := Lib.hid hn; clear hn
  go_enter Try.func11, Try.ntmps11
  go_wp2
  go_loop [6, 9] (fun x i => ∃ k : Nat, k ≤ n ∧ i = .int .i64 k ∧ Hid (fineB (xs.take k) d = true)) (fun _ i => n - (intOf i).toNat)
  case atStart => exact ⟨0, Nat.zero_le _, rfl, by simp [Hid, fineB]⟩
  case round =>
    obtain ⟨k, hk, rfl, hf⟩ := hrel
    by_cases hlt : k < n
    · obtain ⟨b, off, f, rfl, _, hx, hwf, hcell⟩ := h.one (i := k) (by rw [HN.out]; exact hlt)
      have hb := bounds_i64 hwf
      have HX := Lib.hid hx; clear hx h hwf
      by_cases h1 : f < 0
      · have d1 : decide (f < 0) = true := decide_eq_true h1
        go_wp2
        go_ret
        exact ⟨ret_bool (fineB_no HX.out (.inl h1)).symm, rfl⟩
      · have d1 : decide (f < 0) = false := decide_eq_false h1
        have h1' : 0 ≤ f := by omega
        clear h1
        by_cases h2 : d < 1 + f % 16
        · have d2 : decide (d < 1 + f % 16) = true := decide_eq_true h2
          go_wp2
          go_ret
          exact ⟨ret_bool (fineB_no HX.out (.inr h2)).symm, rfl⟩
        · have d2 : decide (d < 1 + f % 16) = false := decide_eq_false h2
          go_wp2
          go_round
          case rel => exact ⟨k + 1, by omega, by go_num, by
            show fineB (xs.take (k + 1)) d = true
            rw [fineB_take_succ HX.out, hf.out]; simp; omega⟩
          case measure => simp [intOf]; omega
    · go_wp2
      go_ret
      refine ⟨ret_bool ?_, rfl⟩
      have : xs.take k = xs := List.take_of_length_le (by rw [HN.out]; omega)
      rw [← hf.out, this]

theorem ei_ints : EI Try.prog 32 3 1 8 := .mk' (.int .i64 0) Try.underlying32 (by decide) rfl (by kernel_rfl)
theorem slotB {a b : Bool} (h : a = b) : Value.bool a = Value.bool b := by rw [h]
theorem fates_last {a b : List Int} {d : Int} {fa fb : Bool} (h1 : fineB a d = fa) (h2 : fineB b d = fb) : fineB ([] ++ a ++ b) d = (fa && fb) := by rw [List.nil_append, fineB_append, h1, h2]
theorem Sl.single (k : IntKind) (w : World) (f : Int) (hw : (Lit.int k f).wf = true) (t : TypeId) : Sl (Rint k) (w.alloc (.cells #[.int k f] t)) (lo (w.heap.size + 1)) (some ⟨w.heap.size, 0, none⟩) [f] := by
  intro i x hx
  rcases i with _ | i
  · simp at hx; subst hx
    refine ⟨w.heap.size, 0, _, rfl, by simp [lo], ⟨rfl, hw⟩, fun j v hj => ?_⟩
    rcases j with _ | j
    · simp at hj; subst hj
      rw [World.cell?_alloc_at _ _ _ _ (by simp)]; simp
    · simp at hj
  · simp at hx

set_option maxHeartbeats 1000000 in
theorem fates_any (A : Option Addr) (xs : List Int) (n cap : Nat) (hn : xs.length = n) (B : Option Addr) (ys : List Int) (m c : Nat) (hm : ys.length = m) (d : Int) (w : World) (h : Sl (Rint .i64) w (lo w.heap.size) A xs) (hy : Sl (Rint .i64) w (lo w.heap.size) B ys)
    (hn' : n ≤ 9223372036854775807) (hm' : m ≤ 9223372036854775807) :
    Calls Try.prog 4 #[.slice A n cap, .slice B m c, .int .i64 d] w fun e w' => e = .returned (.bool true) ∧ Below w.heap.size w w' := by
  have HN := Lib.hid hn; have HM := Lib.hid hm; clear hn hm
  by_cases hbig : 200 < n ∨ 200 < m
  · by_cases h1 : 200 < n
    · have d1 : decide ((200 : Int) < n) = true := decide_eq_true (by omega)
      go_enter Try.func4, Try.ntmps4
      go_wp2_with (go_at_call 7; refine (live22 _).mono ?_; rintro e w' ⟨rfl, rfl⟩)
      go_ret
      exact ⟨rfl, Below.refl _ _⟩
    · have d1 : decide ((200 : Int) < n) = false := decide_eq_false (by omega)
      have d2 : decide ((200 : Int) < m) = true := decide_eq_true (by omega)
      go_enter Try.func4, Try.ntmps4
      go_wp2_with (go_at_call 7; refine (live22 _).mono ?_; rintro e w' ⟨rfl, rfl⟩)
      go_ret
      exact ⟨rfl, Below.refl _ _⟩
  · have n1 : n ≤ 200 := by omega
    have m1 : m ≤ 200 := by omega
    clear hbig hn' hm'
    have d1 : decide ((200 : Int) < n) = false := decide_eq_false (by omega)
    have d2 : decide ((200 : Int) < m) = false := decide_eq_false (by omega)
    go_enter Try.func4, Try.ntmps4
    go_wp2_with (go_at_call 7; refine (live22 _).mono ?_; rintro e w' ⟨rfl, rfl⟩)
    go_loopw [7, 9, 22] (fun al x i wr => ∃ k : Nat, k ≤ n ∧ i = .int .i64 k ∧ (∃ q : Bool, al = .bool q ∧ Hid (fineB (xs.take k) d = q)) ∧ Below w.heap.size w wr) (fun _ _ i _ => n - (intOf i).toNat)
    case atStart => exact ⟨0, Nat.zero_le _, rfl, ⟨true, rfl, by simp [Hid, fineB]⟩, Below.refl _ _⟩
    case round =>
      obtain ⟨k, hk, rfl, ⟨q, rfl, hq⟩, hbel⟩ := hrel
      by_cases hlt : k < n
      · obtain ⟨b, off, f, rfl, hbl, hx, hwf, hcell0⟩ := h.one (i := k) (by rw [HN.out]; exact hlt)
        have hcell := (hbel.cell (p := ⟨b, off + k, none⟩) hbl).trans hcell0
        have HX := Lib.hid hx; clear hx hcell0
        cases q with
        | false =>
          go_wp2
          go_roundw
          case rel => exact ⟨k + 1, by omega, by go_num, ⟨false, rfl, by
            show fineB (xs.take (k + 1)) d = false
            rw [fineB_take_succ HX.out, hq.out]; rfl⟩, hbel⟩
          case measure => simp [intOf]; omega
        | true =>
          go_wp2_with (go_at_call 11; with_reducible refine (fine_any _ [f] 1 1 rfl d _ (Sl.single .i64 wr f hwf _) (by omega)).mono ?_; rintro e w' ⟨rfl, rfl⟩)
          go_roundw
          case rel => exact ⟨k + 1, by omega, by go_num, ⟨_, rfl, by
            show fineB (xs.take (k + 1)) d = _
            rw [fineB_take_succ HX.out, hq.out]; simp [fineB]⟩, hbel.alloc hbel.size _⟩
          case measure => simp [intOf]; omega
      · have hkn : xs.take k = xs := List.take_of_length_le (by rw [HN.out]; omega)
        rw [hkn] at hq
        obtain ⟨fb, hfb⟩ : ∃ fb, fineB ys d = fb := ⟨_, rfl⟩
        have HB := Lib.hid hfb; clear hfb hkn
        have hA := h.below hbel (Nat.le_refl _)
        have hB := hy.below hbel (Nat.le_refl _)
        obtain ⟨ca, hea, hca⟩ := hA.inRow
        obtain ⟨r, hr⟩ : ∃ r, (q && fb) = r := ⟨_, rfl⟩
        have cA : ∀ W, Below w.heap.size w W → Calls Try.prog 11 #[.slice A n cap, .int .i64 d] W fun e w' => e = .returned (.bool q) ∧ W = w' :=
          fun W hW => (fine_any A xs n cap HN.out d W (h.below hW (Nat.le_refl _)) (by omega)).mono fun e w' ⟨he, hw⟩ => ⟨by rw [he, hq.out], hw⟩
        have cB : ∀ W, Below w.heap.size w W → Calls Try.prog 11 #[.slice B m c, .int .i64 d] W fun e w' => e = .returned (.bool fb) ∧ W = w' :=
          fun W hW => (fine_any B ys m c HM.out d W (hy.below hW (Nat.le_refl _)) (by omega)).mono fun e w' ⟨he, hw⟩ => ⟨by rw [he, HB.out], hw⟩
        have cAB : ∀ W A2 n2 cap2, ([] ++ xs ++ ys).length = n2 → n2 ≤ maxLen → Sl (Rint .i64) W (lo W.heap.size) A2 ([] ++ xs ++ ys) → Calls Try.prog 11 #[.slice A2 n2 cap2, .int .i64 d] W fun e w' => e = .returned (.bool r) ∧ W = w' :=
          fun W A2 n2 cap2 hn2 hm2 hs => (fine_any A2 _ n2 cap2 hn2 d W hs hm2).mono fun e w' ⟨he, hw⟩ => ⟨by rw [he, fates_last hq.out HB.out, hr], hw⟩
        have CA := Lib.hid cA; have CB := Lib.hid cB; have CAB := Lib.hid cAB; clear cA cB cAB
        cases q <;> cases fb <;> simp only [Bool.and_false, Bool.and_true] at hr <;> subst hr
        all_goals
          go_wp2_with (first
            | (go_at_call 11; with_reducible refine (CA.out _ (by assumption)).mono ?_; rintro e w' ⟨rfl, rfl⟩)
            | (go_at_call 11; with_reducible refine (CB.out _ (by assumption)).mono ?_; rintro e w' ⟨rfl, rfl⟩)
            | (go_at_call 11; with_reducible refine (CAB.out _ _ _ _ HN2.out (Nat.le_trans hl2 hc2) hs2).mono ?_; rintro e w' ⟨rfl, rfl⟩)
            | (go_at_call 11; with_reducible refine (fine_any none [] 0 0 rfl d _ (S := lo 0) (Sl.nil _ _ _ _) (by omega)).mono ?_; rintro e w' ⟨rfl, rfl⟩)
            | (at_builtin
               refine wpList_append_own' _ rfl (.const (.slice none 0 0)) (.tmp 40) _ rfl ei_ints (.slice none 0 0) rfl (Own.nil (Rint .i64) _ w.heap.size _ (lo w.heap.size)) (fun b hb => ⟨Nat.lt_of_lt_of_le hb hbel.size, by simp [Value.ownBlock]⟩) A n cap rfl HN.out hca hea (by simp; omega) (by simp [maxLen]; omega) hbel.size ?_
               intro v1 w1 hown1 hg1 hat1
               have hb1 : Below w.heap.size w w1 := hbel.grown hg1 hbel.size (by simp [Value.ownBlock])
               clear hat1)
            | (at_builtin
               obtain ⟨cb, heb, hcb⟩ := (hy.below hb1 (Nat.le_refl _)).inRow
               refine wpList_append_own' _ rfl (.tmp 41) (.tmp 42) _ rfl ei_ints v1 rfl hown1 (fun b hb => ⟨Nat.lt_of_lt_of_le hb hb1.size, fun he => absurd hb (Nat.not_lt.2 (hown1.lt he).1)⟩) B m c rfl HM.out hcb heb (by have := HN.out; simp; omega) (by have := HN.out; simp [maxLen]; omega) hb1.size ?_
               intro v2 w2 hown2 hg2 hat2
               have hb2 : Below w.heap.size w w2 := hb1.grown hg2 hb1.size (fun g hg => (hown1.lt hg).1)
               obtain ⟨A2, n2, cap2, rfl, hn2, hl2, hc2, hs2⟩ := hown2.done (fun b hb => Nat.lt_of_lt_of_le hb hb2.size)
               have HN2 := Lib.hid hn2
               clear hn2 hat2 hown2 hg2))
          go_ret
          exact ⟨rfl, by assumption⟩
end Go.Proofs.Ytigpalnmeefphaa
