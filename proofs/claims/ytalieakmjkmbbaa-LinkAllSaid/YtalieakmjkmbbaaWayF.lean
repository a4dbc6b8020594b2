/-
  The way's method step with what the plain law says of it; begins; the way at its start.
-/
import Derived.Test.YtalieakmjkmbbaaWayE
namespace Go.Proofs.Ytalieakmjkmbbaa
open Go.RowKit Go.Sort
set_option linter.unusedVariables false
attribute [local go_sem ↓] Go.wp_at_zero Go.wp_at_succ

theorem WyI.comeFit {win : Int} {s : Wy} {lo nx ex : Nat} (h : WyI win s lo nx ex) (h1 : 1 ≤ win) (h2 : win ≤ 1000) {x : It} (hx : Good s.sent nx x) : (takeP s.held s.e x.sq x.body win).2.1.length ≤ 1000000 ∧ (Lit.int .i64 (takeP s.held s.e x.sq x.body win).2.2).wf = true := by
  obtain ⟨c, hI, _⟩ := h.come h1 h2 hx
  have ht := hI.told
  have hex := hI.exle
  have hnx := hI.nxle
  have hfew := hI.few
  have he : (takeP s.held s.e x.sq x.body win).2.2 = ((ex + c : Nat) : Int) := hI.exp
  have ht' : s.told ++ (takeP s.held s.e x.sq x.body win).2.1 = (s.come x win).sent.take (ex + c) := ht
  have hl := congrArg List.length ht'
  rw [List.length_append, List.length_take] at hl
  exact ⟨by omega, by rw [he]; exact WalkArith.wf_i64 (by omega)⟩
/-- The plain state behind k steps: counts. -/
structure WyK (s : Wy) (k : Nat) : Prop where
  items : s.items.length ≤ 20 * k
  acks : s.acks.length ≤ k
  sent : s.sent.length ≤ k
  now : s.now ≤ k
def WyNext (B P : Nat) (win : Int) (k : Nat) (w : World) (w' : World) : Prop := ∃ s lo nx ex, WyB w' B P win s ∧ WyI win s lo nx ex ∧ WyK s k ∧ Below B w w'
theorem step_any (w : World) (B P : Nat) (win : Int) (s : Wy) (lo nx ex k : Nat) (sn : Int) (h : WyB w B P win s) (hI : WyI win s lo nx ex) (hK : WyK s k) (hw1 : 1 ≤ win) (hw2 : win ≤ 20) (hk : k ≤ 900) (hBw : B ≤ w.heap.size) (h0 : 0 ≤ sn) (h1 : sn ≤ 9223372036854775807) :
    Calls Try.prog 20 #[.pointer (some ⟨P, 0, none⟩), .int .i64 sn] w fun en w' => (∃ v, en = .returned v) ∧ WyNext B P win (k + 1) w w' := by
  have k1 := hK.items
  have k2 := hK.acks
  have k3 := hK.sent
  have k4 := hK.now
  have hf := hI.fit hw2 (by omega) (by omega) (by omega)
  have hnow := hI.now
  obtain ⟨n, rfl⟩ : ∃ n : Nat, sn = n := ⟨sn.toNat, by omega⟩
  have h4 : (n : Int) % 4 = 0 ∨ (n : Int) % 4 = 1 ∨ (n : Int) % 4 = 2 ∨ (n : Int) % 4 = 3 := by omega
  rcases h4 with h4 | h4 | h4 | h4
  · refine (step0_any w B P win s n h hf hBw h0 h1 h4).mono ?_
    rintro en w' ⟨hv, hB, hb⟩
    obtain ⟨nx', hI', hl⟩ := hI.send (b := [IntKind.u8.wrap (s.sent.length : Int), IntKind.u8.wrap ((n : Int) / 4)]) (by simp) (by omega)
    refine ⟨hv, _, _, _, _, hB, hI', ⟨?_, ?_, ?_, ?_⟩, hb⟩
    · show (s.items ++ _).length ≤ _
      rw [List.length_append]; omega
    · show s.acks.length ≤ _; omega
    · show (s.sent ++ [_]).length ≤ _
      rw [List.length_append]; simp; omega
    · show s.now ≤ _; push_cast; omega
  · refine (step1_any w B P win s n h hf hBw h1 h4 (fun x hx => hI.comeFit hw1 (by omega) (hI.items x hx))).mono ?_
    rintro en w' ⟨hv, hB, hb⟩
    refine ⟨hv, ?_⟩
    unfold Wy.one at hB
    cases hx : s.items[n / 4 % s.items.length]? with
    | none =>
      rw [hx] at hB
      exact ⟨s, lo, nx, ex, hB, hI, ⟨by omega, by omega, by omega, by push_cast; omega⟩, hb⟩
    | some x =>
      rw [hx] at hB
      obtain ⟨c, hI', _⟩ := hI.come hw1 (by omega) (hI.items x (List.mem_of_getElem? hx))
      refine ⟨_, _, _, _, hB, hI', ⟨?_, ?_, ?_, ?_⟩, hb⟩
      · show s.items.length ≤ _; omega
      · show (s.acks ++ [_]).length ≤ _
        rw [List.length_append]; simp; omega
      · show s.sent.length ≤ _; omega
      · show s.now ≤ _; push_cast; omega
  · have hle : ∀ m ∈ s.acks, (ackP s.o m win s.now).2.length ≤ 20 := fun m hm => by
      obtain ⟨_, _, _, hl, _⟩ := hI.ack hw1 (hI.acks m hm)
      omega
    refine (step2_any w B P win s n h hf hBw h1 h4 (fun m hm => by have := hle m hm; omega)).mono ?_
    rintro en w' ⟨hv, hB, hb⟩
    refine ⟨hv, ?_⟩
    unfold Wy.back at hB
    cases hx : s.acks[n / 4 % s.acks.length]? with
    | none =>
      rw [hx] at hB
      exact ⟨s, lo, nx, ex, hB, hI, ⟨by omega, by omega, by omega, by push_cast; omega⟩, hb⟩
    | some m =>
      rw [hx] at hB
      have hm := List.mem_of_getElem? hx
      have hl := hle m hm
      obtain ⟨lo', c, hI', _, _⟩ := hI.ack hw1 (hI.acks m hm)
      refine ⟨_, _, _, _, hB, hI', ⟨?_, ?_, ?_, ?_⟩, hb⟩
      · show (s.items ++ _).length ≤ _
        rw [List.length_append]; omega
      · show s.acks.length ≤ _; omega
      · show s.sent.length ≤ _; omega
      · show s.now ≤ _; push_cast; omega
  · obtain ⟨hI', hg, hl⟩ := hI.again (now := s.now + 1) (by omega)
    refine (step3_any w B P win s n h hf hBw (by omega) h0 h1 h4).mono ?_
    rintro en w' ⟨hv, hB, hb⟩
    refine ⟨hv, _, _, _, _, hB, hI'.keep hg, ⟨?_, ?_, ?_, ?_⟩, hb⟩
    · show (s.items ++ _).length ≤ _
      rw [List.length_append]; omega
    · show s.acks.length ≤ _; omega
    · show s.sent.length ≤ _; omega
    · show s.now + 1 ≤ _; push_cast; omega
/-- The way at its start. -/
theorem WyB.zero (w : World) (win : Int) : WyB (w.alloc (.cells #[.int .i64 0, .slice none 0 0, .slice none 0 0, .int .i64 0, .slice none 0 0, .slice none 0 0, .slice none 0 0, .slice none 0 0, .slice none 0 0, .int .i64 win, .int .i64 0] 50)) w.heap.size w.heap.size win Wy.zero := by
  refine ⟨fun k => if k = w.heap.size then 0 else 5, none, 0, 0, none, 0, 0, none, 0, 0, none, 0, 0, none, 0, 0, none, 0, 0, none, 0, 0, Blk.new w _ _ rfl, ⟨⟨Sl.nil _ _ _ _, rfl, Sl.nil _ _ _ _, rfl⟩, Nat.le_refl _, by decide, Nat.le_refl _, by decide, Sl.nil _ _ _ _, rfl, ⟨Own.nil _ _ _ _ _, ?_⟩, ⟨Own.nil _ _ _ _ _, ?_⟩, ⟨Own.nil _ _ _ _ _, ?_⟩, ⟨Own.nil _ _ _ _ _, ?_⟩, if_pos rfl, Nat.le_refl _, by simp⟩, rfl, rfl, rfl, rfl⟩
  all_goals (intro g hg; simp [Value.ownBlock] at hg)
theorem WyK.zero : WyK Wy.zero 0 := ⟨Nat.le_refl _, Nat.le_refl _, Nat.le_refl _, Int.le_refl _⟩
set_option maxHeartbeats 2000000 in
theorem begins_any (w : World) (A : Option Addr) (xs : List (List Int)) (n cap : Nat) (hn : xs.length = n) (C : Option Addr) (ys : List (List Int)) (m d : Nat) (hm : ys.length = m) (hx : Sl Rbd w (lo w.heap.size) A xs) (hy : Sl Rbd w (lo w.heap.size) C ys) (hz : n ≤ 9223372036854775807) (hnm : n ≤ m) (hmd : m ≤ d) (heq : xs = ys.take n) (hC : (C = none ∧ d = 0) ∨ ∃ g : Nat, C = some ⟨g, 0, none⟩) :
    Calls Try.prog 21 #[.slice A n cap, .slice C m d] w fun e w' => e = .returned (.bool true) ∧ Below w.heap.size w w' := by
  have hy' : Sl Rbd w (lo w.heap.size) C (ys.take n) := fun i x hi => by
    rw [List.getElem?_take] at hi
    split at hi
    · exact hy i x hi
    · cases hi
  have hl : (ys.take n).length = n := by rw [List.length_take]; omega
  have HC := Lib.hid (sameParts_any A xs n cap hn C (ys.take n) n d hl w hx hy' hz)
  have HE := Lib.hid (show decide (xs = ys.take n) = true from decide_eq_true heq)
  clear hn hm hx hy hy' hl heq hz
  have hnd : n ≤ d := by omega
  rcases hC with ⟨rfl, rfl⟩ | ⟨g, rfl⟩
  · obtain rfl : n = 0 := by omega
    obtain rfl : m = 0 := by omega
    go_enter Try.func21, Try.ntmps21
    go_wp2_with (first
      | (go_at_call 13
         go_loud (skip
                  refine HC.out.mono ?_
                  rw [HE.out]
                  rintro e w1 ⟨rfl, hb1⟩)))
    go_ret
    exact ⟨rfl, hb1⟩
  · go_enter Try.func21, Try.ntmps21
    go_wp2_with (first
      | (go_at_call 13
         go_loud (skip
                  refine HC.out.mono ?_
                  rw [HE.out]
                  rintro e w1 ⟨rfl, hb1⟩)))
    go_ret
    exact ⟨rfl, hb1⟩
end Go.Proofs.Ytalieakmjkmbbaa
