/-
  Contracts of the closure in Failed, of key.First, of Failed (P22.2).
-/
import Derived.Test.YtigpalnmeefphaaBoundC
namespace Go.Proofs.Ytigpalnmeefphaa
open Go.RowKit Go.Sort

def livesB (dead : List Bool) (n : Int) : Bool := decide (1 ≤ n) && decide (n ≤ dead.length) && !(dead.getD (n - 1).toNat false)
theorem livesB_no {dead : List Bool} {n : Int} (h : n < 1 ∨ (dead.length : Int) < n) : livesB dead n = false := by
  unfold livesB
  rcases h with h | h
  · rw [decide_eq_false (show ¬ 1 ≤ n by omega)]; rfl
  · rw [decide_eq_false (show ¬ n ≤ dead.length by omega), Bool.and_false]; rfl
theorem livesB_yes {dead : List Bool} {n : Int} {b : Bool} (h1 : 1 ≤ n) (h2 : n ≤ dead.length) (h : dead[(n - 1).toNat]? = some b) : livesB dead n = !b := by
  unfold livesB
  rw [decide_eq_true h1, decide_eq_true h2, List.getD, h]; rfl
theorem Sl.oneB {w : World} {S : Nat → Prop} {A : Option Addr} {xs : List Bool} (h : Sl Rbool w S A xs) {i : Nat} (hi : i < xs.length) : ∃ b off f, A = some ⟨b, off, none⟩ ∧ S b ∧ xs[i]? = some f ∧ w.cell? ⟨b, off + i, none⟩ = some (.bool f) := by
  obtain ⟨b, off, cs, hA, hb, hr, hc⟩ := h i _ (List.getElem?_eq_getElem hi)
  have hr' : cs = [.bool xs[i]] := hr
  subst hr'
  exact ⟨b, off, _, hA, hb, List.getElem?_eq_getElem hi, by simpa [Rbool] using hc 0 _ rfl⟩

set_option maxHeartbeats 1000000 in
theorem lives_any (n : Int) (b : Nat) (D : Option Addr) (m cap : Nat) (dl : List Bool) (w : World) (hc : w.cell? ⟨b, 16, none⟩ = some (.slice D m cap)) {S : Nat → Prop} (hd : Sl Rbool w S D dl) (hl : dl.length = m) (hm : m ≤ 9223372036854775807)
    (hn : -9223372036854775808 ≤ n) :
    Calls Try.prog 17 #[.int .i64 n, .pointer (some ⟨b, 0, none⟩)] w fun e w' => e = .returned (.bool (livesB dl n)) ∧ w = w' := by
  by_cases h1 : 1 ≤ n
  · have d1 : decide (1 ≤ n) = true := decide_eq_true h1
    by_cases h2 : n ≤ (m : Int)
    · have d2 : decide (n ≤ (m : Int)) = true := decide_eq_true h2
      obtain ⟨b', off, f, rfl, _, hx, hcell⟩ := hd.oneB (i := (n - 1).toNat) (by omega)
      have HF := Lib.hid (livesB_yes h1 (by omega) hx)
      rw [show (n - 1).toNat = n.toNat - 1 by omega] at hcell
      clear hd hx hl
      go_enter Try.func17, Try.ntmps17
      go_wp2
      go_ret
      exact ⟨ret_bool HF.out.symm, rfl⟩
    · have d2 : decide (n ≤ (m : Int)) = false := decide_eq_false h2
      have HF := Lib.hid (livesB_no (dead := dl) (n := n) (by omega))
      clear hd hl
      go_enter Try.func17, Try.ntmps17
      go_wp2
      go_ret
      exact ⟨ret_bool HF.out.symm, rfl⟩
  · have d1 : decide (1 ≤ n) = false := decide_eq_false h1
    have HF := Lib.hid (livesB_no (dead := dl) (n := n) (by omega))
    clear hd hl
    go_enter Try.func17, Try.ntmps17
    go_wp2
    go_ret
    exact ⟨ret_bool HF.out.symm, rfl⟩

/-! ### key.First -/
def firstC (c : Cf) : List Int := if okCf c then (List.range c.ch.toNat).map fun (i : Nat) => (i : Int) + 1 else []
def FirstPost (c : Cf) (w : World) (e : Ending) (w' : World) : Prop :=
  ∃ (ep rd : Int) (A : Option Addr) (n cap : Nat), e = .returned (.agg #[.int .u64 ep, .int .u64 rd, .slice A n cap]) ∧ Below w.heap.size w w' ∧ (firstC c).length = n ∧ n ≤ 8 ∧ Sl (Rint .i64) w' (lo w'.heap.size) A (firstC c)
set_option maxHeartbeats 1000000 in
theorem first_any (c : Cf) (w : World) : Calls Try.prog 18 #[.agg #[.slice c.A c.n c.cap, .int .i64 c.ch, .int .i64 c.sb, .int .i64 c.cl, .int .i64 c.qu, .int .i64 c.close, .int .i64 c.long, .int .i64 c.ag, .int .i64 c.wi, .int .u64 c.r, .int .u64 c.sq]] w (FirstPost c w) := by
  cases hok : okCf c with
  | false =>
    have hf : firstC c = [] := by simp [firstC, hok]
    have Hk := Lib.hid hok; have HF := Lib.hid hf; clear hok hf
    go_enter Try.func18, Try.ntmps18
    go_wp2_with (go_at_call 16; refine (key_check_no c.A c.n c.cap c.ch c.sb c.cl c.qu c.close c.long c.ag c.wi c.r c.sq Hk.out _).mono ?_; rintro e w1 ⟨rfl, hb1⟩
                 have hz : w.heap.size + 1 < w1.heap.size := by have := hb1.size; simp at this; omega
                 have hc0 : w1.cell? ⟨w.heap.size + 1, 0, none⟩ = some (.int .u64 0) := (hb1.cell (by simp; try omega)).trans (by simp [go_sem])
                 have hc1 : w1.cell? ⟨w.heap.size + 1, 1, none⟩ = some (.int .u64 0) := (hb1.cell (by simp; try omega)).trans (by simp [go_sem])
                 have hc2 : w1.cell? ⟨w.heap.size + 1, 2, none⟩ = some (.slice none 0 0) := (hb1.cell (by simp; try omega)).trans (by simp [go_sem])
                 have hf0 : ∀ o, w1.frozen? ⟨w.heap.size + 1, o, none⟩ = false := fun o => (hb1.frozen (by simp; try omega)).trans (by simp [go_sem]))
    refine bodyPost_ret (v := .agg #[.int .u64 0, .int .u64 0, .slice none 0 0]) (by simp [results, Try.results18, go_sem, hc0, hc1, hc2]) rfl ?_
    refine ⟨0, 0, none, 0, 0, rfl, ?_, by rw [HF.out]; rfl, by omega, by rw [HF.out]; exact Sl.nil _ _ _ _⟩
    have e1 : Below w.heap.size w w1 := (((Below.refl _ _).alloc (Nat.le_refl _) _).alloc (by simp) _).trans (hb1.mono (by simp; omega))
    exact ((e1.setCell (by simp) _).setCell (by simp) _).setCell (by simp) _
  | true =>
    have hbd := okCf_bd hok
    have q1 : 1 ≤ c.ch := by omega
    have q2 : c.ch ≤ 8 := by omega
    have HF := Lib.hid (show firstC c = (List.range c.ch.toNat).map fun (i : Nat) => (i : Int) + 1 by simp [firstC, hok])
    have Hk := Lib.hid hok; clear hok hbd
    go_enter Try.func18, Try.ntmps18
    go_wp2_with (go_at_call 16; refine (key_check_ok c.A c.n c.cap c.ch c.sb c.cl c.qu c.close c.long c.ag c.wi c.r c.sq Hk.out _).mono ?_; rintro e w1 ⟨rfl, hb1⟩
                 have hz : w.heap.size + 1 < w1.heap.size := by have := hb1.size; simp at this; omega
                 have hz0 : w.heap.size < w1.heap.size := by omega
                 have hc9 : w1.cell? ⟨w.heap.size, 9, none⟩ = some (.int .u64 c.r) := (hb1.cell (by simp; try omega)).trans (by simp [go_sem])
                 have hc1 : w1.cell? ⟨w.heap.size, 1, none⟩ = some (.int .i64 c.ch) := (hb1.cell (by simp; try omega)).trans (by simp [go_sem])
                 have hd0 : w1.cell? ⟨w.heap.size + 1, 0, none⟩ = some (.int .u64 0) := (hb1.cell (by simp; try omega)).trans (by simp [go_sem])
                 have hd1 : w1.cell? ⟨w.heap.size + 1, 1, none⟩ = some (.int .u64 0) := (hb1.cell (by simp; try omega)).trans (by simp [go_sem])
                 have hd2 : w1.cell? ⟨w.heap.size + 1, 2, none⟩ = some (.slice none 0 0) := (hb1.cell (by simp; try omega)).trans (by simp [go_sem])
                 have hf0 : ∀ o, w1.frozen? ⟨w.heap.size + 1, o, none⟩ = false := fun o => (hb1.frozen (by simp; try omega)).trans (by simp [go_sem]))
    have e1 : Below w.heap.size w w1 := (((Below.refl _ _).alloc (Nat.le_refl _) _).alloc (by simp) _).trans (hb1.mono (by simp; omega))
    clear hb1
    have HD := Lib.hid (And.intro hd0 (And.intro hd1 (And.intro hd2 hf0)))
    clear hc9 hc1 hd0 hd1 hd2 hf0
    go_loopw [4, 14] (fun y i wr => ∃ k : Nat, (k : Int) ≤ c.ch ∧ i = .int .i64 k ∧ Below (w1.heap.size) w1 wr ∧ w1.heap.size < wr.heap.size ∧ wr.cell? ⟨w1.heap.size, 0, none⟩ = some (.int .u64 1) ∧ wr.cell? ⟨w1.heap.size, 1, none⟩ = some (.int .u64 c.r) ∧
        (∀ o, wr.frozen? ⟨w1.heap.size, o, none⟩ = false) ∧ ∃ v, wr.cell? ⟨w1.heap.size, 2, none⟩ = some v ∧ Own (Rint .i64) wr (w1.heap.size + 1) 3 (fun _ => False) v ((List.range k).map fun (i : Nat) => (i : Int) + 1)) (fun _ i _ => c.ch.toNat - (intOf i).toNat)
    case atStart => exact ⟨0, by omega, rfl, (Below.refl _ _).alloc (Nat.le_refl _) _, by simp, by simp [go_sem], by simp [go_sem], by simp [go_sem], .slice none 0 0, by simp [go_sem], Own.nil _ _ _ _ _⟩
    case round =>
      obtain ⟨k, hk, rfl, hbel, hsz, hx0, hx1, hfr, v, hx2, hown⟩ := hrel
      by_cases hlt : (k : Int) < c.ch
      · obtain ⟨A, cap, rfl⟩ := hown.form
        obtain ⟨n, hn⟩ : ∃ n, ((List.range k).map fun (i : Nat) => (i : Int) + 1).length = n := ⟨_, rfl⟩
        rw [hn] at hx2 hown
        have hnk : n = k := by rw [← hn]; simp
        subst hnk
        clear hn
        go_wp2_with (at_builtin
                     refine wpList_append_own' _ rfl (.tmp 18) (.tmp 21) _ rfl ei_ints _ rfl (hown.alloc (fun _ h => h.elim) _) (fun _ h => h.elim) (some ⟨wr.heap.size, 0, none⟩) 1 1 (ys := [(n : Int) + 1]) rfl rfl (CellsAt.new _ _ _ _) (Elems.one ⟨rfl, WalkArith.wf_i64 (by omega)⟩) (by simp; omega) (by simp [maxLen]; omega) (by simp; omega) ?_
                     intro v1 w2 hown1 hg1 hat1
                     obtain ⟨A1, n1, cap1, rfl, hn1, hl1, hm1, _⟩ := hown1.done (fun _ h => h.elim)
                     have hbo : ∀ b, b ≤ w1.heap.size → w2.heap[b]? = wr.heap[b]? := fun b hb => (hg1.block b (by simp; omega) (fun h => by have := (hown.lt h.symm).1; omega)).trans (Below.heap_alloc _ _ _ (by omega))
                     have y0 : w2.cell? ⟨w1.heap.size, 0, none⟩ = some (.int .u64 1) := (World.cell?_of_block (hbo _ (Nat.le_refl _))).trans hx0
                     have y1 : w2.cell? ⟨w1.heap.size, 1, none⟩ = some (.int .u64 c.r) := (World.cell?_of_block (hbo _ (Nat.le_refl _))).trans hx1
                     have y2 : w2.cell? ⟨w1.heap.size, 2, none⟩ = some (.slice A n cap) := (World.cell?_of_block (hbo _ (Nat.le_refl _))).trans hx2
                     have yf : ∀ o, w2.frozen? ⟨w1.heap.size, o, none⟩ = false := fun o => (World.frozen?_of_block (hbo _ (Nat.le_refl _))).trans (hfr o)
                     have hb2 : Below w1.heap.size w1 w2 := (hbel.alloc (by omega) _).grown hg1 (by simp; omega) (fun g hg => by have := (hown.lt hg).1; omega)
                     have hz2 : w1.heap.size < w2.heap.size := by have := hg1.size; simp at this; omega
                     clear hx0 hx1 hx2 hfr hat1 hbel hbo hg1 hown)
        go_roundw
        case rel =>
          refine ⟨n + 1, by omega, by go_num, hb2.setCell (Nat.le_refl _) _, by simpa using hz2, ?_, ?_, ?_, .slice A1 n1 cap1, ?_, ?_⟩
          · simp [go_sem, y0]
          · simp [go_sem, y1]
          · simp [go_sem, yf]
          · simp [go_sem, y2]
          · rw [List.range_succ, List.map_append]; exact hown1.setBelow (Nat.lt_succ_self _) (fun h => h) _
        case measure => simp [intOf]; omega
      · obtain ⟨hd0, hd1, hd2, hf0⟩ := HD.out
        have z0 : wr.cell? ⟨w.heap.size + 1, 0, none⟩ = some (.int .u64 0) := (hbel.cell hz).trans hd0
        have z1 : wr.cell? ⟨w.heap.size + 1, 1, none⟩ = some (.int .u64 0) := (hbel.cell hz).trans hd1
        have z2 : wr.cell? ⟨w.heap.size + 1, 2, none⟩ = some (.slice none 0 0) := (hbel.cell hz).trans hd2
        have zf : ∀ o, wr.frozen? ⟨w.heap.size + 1, o, none⟩ = false := fun o => (hbel.frozen hz).trans (hf0 o)
        clear hd0 hd1 hd2 hf0
        obtain ⟨A, n, cap, rfl, hn, hl, hm, hs⟩ := hown.done (fun _ h => h.elim)
        have hkc : c.ch.toNat = k := by omega
        have HN := Lib.hid hn; have HK := Lib.hid hkc; clear hn hkc
        go_wp2
        refine bodyPost_ret (v := .agg #[.int .u64 1, .int .u64 c.r, .slice A n cap]) (by simp [results, Try.results18, go_sem, z0, z1, z2]) rfl ?_
        have hN := HN.out
        simp at hN
        have e2 : Below w.heap.size w wr := e1.trans (hbel.mono (by omega))
        refine ⟨1, c.r, A, n, cap, rfl, ((e2.setCell (by simp) _).setCell (by simp) _).setCell (by simp) _, by rw [HF.out, HK.out]; simp; omega, by omega, ?_⟩
        rw [HF.out, HK.out]
        have o3 := ((hown.setBelow (p := ⟨w.heap.size + 1, 0, none⟩) (by simp; omega) (fun h => h) (.int .u64 1)).setBelow (p := ⟨w.heap.size + 1, 1, none⟩) (by simp; omega) (fun h => h) (.int .u64 c.r)).setBelow (p := ⟨w.heap.size + 1, 2, none⟩) (by simp; omega) (fun h => h) (.slice A n cap)
        exact (o3.slice (S' := lo _) (fun _ h => h.elim) fun g _ hg => hg).2.2.2
end Go.Proofs.Ytigpalnmeefphaa
