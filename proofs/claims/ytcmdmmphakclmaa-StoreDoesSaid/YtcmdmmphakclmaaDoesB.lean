/-
  The reference's New.
-/
import Derived.Test.YtcmdmmphakclmaaDoesA
namespace Go.Proofs.Ytcmdmmphakclmaa
open Go.RowKit Go.Sort
set_option linter.unusedVariables false
attribute [local go_sem ↓] Go.wp_at_zero Go.wp_at_succ

/-- One more number behind. -/
theorem OwnSt.moreLast {w w' : World} {W V : Nat} {ρ : Nat → Nat} {s : St} {vL vB v' : Value} {bvs : List Value} {x : Int} (h : OwnSt w W V ρ s vL vB bvs) (ho : Own (Rint .u64) w' W 22 (lo V) v' (s.last ++ [x])) (hg : w.grownBy w' vL.ownBlock) (hv : v'.ownBlock = vL.ownBlock ∨ v'.ownBlock = some w.heap.size) (hVW : V ≤ W) (hW : W ≤ w.heap.size) :
    ∃ ρ', (∀ k, k < w.heap.size → ρ' k = ρ k) ∧ OwnSt w' W V ρ' { s with last := s.last ++ [x] } v' vB bvs := by
  have hkk : ∀ k, k < w.heap.size → ρ k ≠ 1 → w'.heap[k]? = w.heap[k]? := fun k hk hne => hg.block k hk (fun e => hne (h.lastR k e.symm))
  have hlow : ∀ k, k < V → w'.heap[k]? = w.heap[k]? := fun k hk => hg.block k (by omega) (fun e => by have := (h.last.lt e.symm).1; omega)
  have hd : ∀ p : Addr, lo V p.block → w'.cell? p = w.cell? p := fun p hp => World.cell?_of_block (hlow _ hp)
  have key : ∀ {α : Type} {R : Rdr α} {e : TypeId} {v : Value} {xs : List α} {i : Nat}, i ≠ 1 → Own R w W e (lo V) v xs → (∀ g, v.ownBlock = some g → ρ g = i) → Own R w' W e (lo V) v xs ∧ ∀ g, v.ownBlock = some g → rolR w ρ 1 g = i := fun hi ho' hr =>
    ⟨ho'.keep (fun g hg' => hkk g (ho'.lt hg').2 (by rw [hr g hg']; exact hi)) hd (fun _ h => h), fun g hg' => by rw [rowR_old (ho'.lt hg').2]; exact hr g hg'⟩
  refine ⟨rolR w ρ 1, fun k hk => rowR_old hk, ho, fun g hg' => ?_, (key (by omega) h.row h.rowR).1, (key (by omega) h.row h.rowR).2, h.len, fun i u c h1 h2 => ?_⟩
  · rcases hv with e9 | e9
    · rw [e9] at hg'
      rw [rowR_old (h.last.lt hg').2]; exact h.lastR g hg'
    · rw [e9] at hg'
      obtain rfl := Option.some.inj hg'
      exact rowR_new
  · obtain ⟨o1, o2⟩ := h.box i u c h1 h2
    exact key (by omega) o1 o2
/-- What the reference's New leaves. -/
def RNewRet (s : St) (e : Int) (w : World) (en : Ending) (w' : World) : Prop :=
  ∃ A n cap B m cap', en = .returned (.tuple #[.agg #[.slice A n cap, .slice B m cap'], .int .i64 e]) ∧ StAt w' (lo w'.heap.size) A n B m s ∧ Below w.heap.size w w'
set_option maxHeartbeats 1000000 in
theorem rnew_bad (c sq : Int) (h : ¬ (1 ≤ c ∧ c ≤ 8 ∧ sq ≠ 0)) (w : World) : Calls Try.prog 18 #[.int .i64 c, .int .u64 sq] w (RNewRet noSt 1 w) := by
  go_enter Try.func18, Try.ntmps18
  go_wp2_with fail
  all_goals (try simp only [beq_iff_eq, beq_eq_false_iff_ne, ne_eq] at *)
  all_goals first
    | (exfalso; omega)
    | (refine bodyPost_ret (v := .tuple #[.agg #[.slice none 0 0, .slice none 0 0], .int .i64 1]) (by simp [results, Try.results18, go_sem]) rfl ?_
       exact ⟨_, _, _, _, _, _, rfl, StAt.none _ _, by first | exact (Below.refl _ _).alloc (Nat.le_refl _) _ | exact (((Below.refl _ _).alloc (Nat.le_refl _) _).setCell (by simp) _).setCell (by simp) _⟩)
set_option maxRecDepth 100000 in
set_option maxHeartbeats 4000000 in
theorem rnew_ok (c : Nat) (sq : Int) (h1 : 1 ≤ c) (h2 : c ≤ 8) (hq0 : 1 ≤ sq) (hq1 : sq ≤ 18446744073709551615) (w : World) :
    Calls Try.prog 18 #[.int .i64 c, .int .u64 sq] w (RNewRet { last := List.replicate c (sq - 1), boxes := List.replicate c [] } 0 w) := by
  have d1 : decide ((c : Int) < 1) = false := decide_eq_false (by omega)
  have d2 : decide (8 < (c : Int)) = false := decide_eq_false (by omega)
  have d3 : (sq == 0) = false := by simp; omega
  have hwq : (Lit.int .u64 (sq - 1)).wf = true := WalkArith.wf_u64 ⟨by omega, by omega⟩
  have hR0 := (Blk.new w 28 #[.slice none 0 0, .slice none 0 0] (g := w.heap.size) rfl).alloc (.cells #[.slice none 0 0, .slice none 0 0] 28)
  have hH0 := Blk.new (w.alloc (.cells #[.slice none 0 0, .slice none 0 0] 28)) 28 #[.slice none 0 0, .slice none 0 0] (g := w.heap.size + 1) (by simp)
  have hb0 : RowKit.Below w.heap.size w ((w.alloc (.cells #[.slice none 0 0, .slice none 0 0] 28)).alloc (.cells #[.slice none 0 0, .slice none 0 0] 28)) := ((Below.refl _ _).alloc (Nat.le_refl _) _).alloc (by simp) _
  have hz0 : ((w.alloc (.cells #[.slice none 0 0, .slice none 0 0] 28)).alloc (.cells #[.slice none 0 0, .slice none 0 0] 28)).heap.size = w.heap.size + 2 := by simp
  have hO0 : OwnSt ((w.alloc (.cells #[.slice none 0 0, .slice none 0 0] 28)).alloc (.cells #[.slice none 0 0, .slice none 0 0] 28)) (w.heap.size + 1) 0 (fun _ => 0) ⟨[], []⟩ (.slice none 0 0) (.slice none 0 0) [] :=
    ⟨Own.nil _ _ _ _ _, fun g hg => by simp [Value.ownBlock] at hg, Own.nil _ _ _ _ _, fun g hg => by simp [Value.ownBlock] at hg, rfl, fun i v b h1 _ => by simp at h1⟩
  go_enter Try.func18, Try.ntmps18
  go_upto_block 0 with fail
  generalize ((w.alloc (.cells #[.slice none 0 0, .slice none 0 0] 28)).alloc (.cells #[.slice none 0 0, .slice none 0 0] 28)) = w0 at *
  have H0 := Lib.hid (And.intro hO0 (And.intro hH0 (And.intro hR0 (And.intro hb0 hwq))))
  clear hO0 hH0 hR0 hb0 hwq
  go_wp2
  go_loopw [20] (fun i wr => ∃ k : Nat, k ≤ c ∧ i = .int .i64 k ∧ ∃ ρ A1 c1 A2 c2 bvs, OwnSt wr (w.heap.size + 1) 0 ρ ⟨List.replicate k (sq - 1), List.replicate k []⟩ (.slice A1 k c1) (.slice A2 k c2) bvs ∧ Blk wr (w.heap.size + 1) 28 #[.slice A1 k c1, .slice A2 k c2] ∧ ρ (w.heap.size + 1) = 0 ∧ Below (w.heap.size + 1) w0 wr) (fun i _ => c - (intOf i).toNat)
  case atStart => exact ⟨0, Nat.zero_le _, rfl, _, none, 0, none, 0, [], H0.out.1, H0.out.2.1, rfl, Below.refl _ _⟩
  case round =>
    obtain ⟨wr, rfl⟩ : ∃ wx : World, wx = wr := ⟨_, rfl⟩
    obtain ⟨k, hk, rfl, ρ, A1, c1, A2, c2, bvs, hO, hHB, hρH, hb⟩ := hrel
    have zr := hb.size
    have lH := hHB.lt
    have g0 := hHB.cell 0 (v := .slice A1 k c1) rfl; have g1 := hHB.cell 1 (v := .slice A2 k c2) rfl
    have fH := hHB.frozen
    by_cases hlt : k < c
    · have hba : RowKit.Below wr.heap.size wr (wr.alloc (.cells #[.int .u64 (sq - 1)] 22)) := (Below.refl _ _).alloc (Nat.le_refl _) _
      have hbl : bvs.length = k := by rw [hO.len]; simp
      have HA := Lib.hid (And.intro (hO.up hba (by omega)) (And.intro hHB (And.intro hba (And.intro hb (And.intro hbl hρH)))))
      clear hO hHB hb hba hbl
      go_upto_region 7 with (first
        | (at_builtin
           go_loud (skip
                    refine wpList_append_own' _ rfl (.tmp 23) (.tmp 26) _ rfl ei_u64s' (R := Rint .u64) _ rfl HA.out.1.last (fun b hb => absurd hb (Nat.not_lt_zero b)) (some _) 1 1 (ys := [sq - 1]) rfl rfl (cellsNew (by simp)) (Elems.one ⟨rfl, H0.out.2.2.2.2⟩) (by rw [List.length_replicate]; exact dlim8 (by omega)) (by rw [List.length_replicate]; simp [maxLen]; omega) (by simp; omega) ?_
                    intro v1 w1 hox hg1 hat1
                    obtain ⟨A3, c3, rfl⟩ := hox.form
                    rw [show (List.replicate k (sq - 1) ++ [sq - 1]).length = k + 1 by simp] at hox hat1 ⊢
                    obtain ⟨ρ1, hρ1, hO1⟩ := HA.out.1.moreLast (s := ⟨List.replicate k (sq - 1), List.replicate k []⟩) hox hg1 hat1 (Nat.zero_le _) (by simp; omega)
                    have hHr : (newR wr ρ) (w.heap.size + 1) = 0 := (newR_old lH).trans HA.out.2.2.2.2.2
                    have hH1 : w1.heap[w.heap.size + 1]? = wr.heap[w.heap.size + 1]? := (hg1.block _ (by simp; omega) (fun e9 => by
                      have h9 := HA.out.1.lastR _ e9.symm
                      rw [hHr] at h9; omega)).trans (HA.out.2.2.1.block _ lH)
                    have hE1 : Blk w1 (w.heap.size + 1) 28 #[.slice A1 k c1, .slice A2 k c2] := hH1.trans HA.out.2.1
                    have e0 := hE1.cell 0 (v := .slice A1 k c1) rfl
                    have fE := hE1.frozen
                    have lE := hE1.lt
                    have H1 := Lib.hid (And.intro hO1 (And.intro hE1 (And.intro ((hρ1 _ (by simp; omega)).trans hHr) ((HA.out.2.2.2.1.trans (HA.out.2.2.1.mono (by omega))).grown hg1 (by simp; omega) (fun g hg => (HA.out.1.last.lt hg).1)))))
                    clear hox hg1 hat1 hO1 hH1 hE1 hρ1 hHr g0 g1 fH)))
      obtain ⟨w2, hw2⟩ : ∃ w2, w1.setCell ⟨w.heap.size + 1, 0, none⟩ (.slice A3 (k + 1) c3) = w2 := ⟨_, rfl⟩
      have hO2 := H1.out.1.set H1.out.2.2.1 (Nat.zero_le _) 0 (.slice A3 (k + 1) c3)
      have hE2 := H1.out.2.1.set 0 (.slice A3 (k + 1) c3)
      have hb2 := H1.out.2.2.2.setCell (p := ⟨w.heap.size + 1, 0, none⟩) (Nat.le_refl _) (.slice A3 (k + 1) c3)
      rw [hw2] at hO2 hE2 hb2 ⊢
      have zz2 := hb2.size
      have lE2 := Blk.lt hE2
      have u1 := Blk.cell hE2 1 (v := .slice A2 k c2) rfl
      have fE2 := Blk.frozen hE2
      have hba : RowKit.Below w2.heap.size w2 (w2.alloc (.cells #[.slice none 0 0] 23)) := (Below.refl _ _).alloc (Nat.le_refl _) _
      have HC := Lib.hid (And.intro (hO2.up hba (by omega)) (And.intro hE2 (And.intro hba (And.intro hb2 H1.out.2.2.1))))
      clear hO2 hE2 hb2 hba hw2 e0 fE lE
      go_wp2_with (first
        | (at_builtin
           go_loud (skip
                    refine wpList_append_own' _ rfl (.tmp 30) (.tmp 31) _ rfl ei_boxes' (R := Rraw) _ rfl HC.out.1.row (fun b hb => absurd hb (Nat.not_lt_zero b)) (some _) 1 1 (ys := [.slice none 0 0]) rfl rfl (cellsNew (by simp)) (Elems.one ⟨rfl, rfl⟩) (by rw [HA.out.2.2.2.2.1]; exact dlim24 (by omega)) (by rw [HA.out.2.2.2.2.1]; simp [maxLen]; omega) (by simp; omega) ?_
                    intro v3 w3 hox hg1 hat1
                    have hox' := hox
                    obtain ⟨A4, c4, rfl⟩ := hox.form
                    rw [show (bvs ++ [Value.slice none 0 0]).length = k + 1 by rw [List.length_append, HA.out.2.2.2.2.1]; rfl] at hox' hat1 ⊢
                    obtain ⟨ρ3, hρ3, _, hO3⟩ := HC.out.1.more (s := ⟨List.replicate k (sq - 1) ++ [sq - 1], List.replicate k []⟩) (b := []) (v := .slice none 0 0) (Own.nil _ _ _ _ _) (fun g hg => by simp [Value.ownBlock] at hg) hox' hg1 hat1 (Nat.zero_le _) (by simp; omega)
                    have hHr : (newR w2 ρ1) (w.heap.size + 1) = 0 := (newR_old lE2).trans HC.out.2.2.2.2
                    have hH3 : w3.heap[w.heap.size + 1]? = w2.heap[w.heap.size + 1]? := (hg1.block _ (by simp; omega) (fun e9 => by
                      have h9 := HC.out.1.rowR _ e9.symm
                      rw [hHr] at h9; omega)).trans (HC.out.2.2.1.block _ lE2)
                    have hE3 := hH3.trans HC.out.2.1
                    have e1 := Blk.cell hE3 1 (v := .slice A2 k c2) rfl
                    have fE3 := Blk.frozen hE3
                    have lE3 := Blk.lt hE3
                    have H3 := Lib.hid (And.intro hO3 (And.intro hE3 (And.intro ((hρ3 _ (by simp; omega)).trans hHr) ((HC.out.2.2.2.1.trans (HC.out.2.2.1.mono (by omega))).grown hg1 (by simp; omega) (fun g hg => (HC.out.1.row.lt hg).1)))))
                    clear hox hox' hg1 hat1 hO3 hH3 hE3 hρ3 hHr u1 fE2)))
      go_roundw
      case measure => simp [intOf]; omega
      case rel =>
        have hrep : (⟨List.replicate (k + 1) (sq - 1), List.replicate (k + 1) []⟩ : St) = ⟨List.replicate k (sq - 1) ++ [sq - 1], List.replicate k [] ++ [[]]⟩ := by
          rw [List.replicate_succ', List.replicate_succ']
        refine ⟨k + 1, by omega, by go_num, ρ3, A3, c3, A4, c4, bvs ++ [.slice none 0 0], ?_, Blk.set H3.out.2.1 1 _, H3.out.2.2.1, H3.out.2.2.2.setCell (p := ⟨w.heap.size + 1, 1, none⟩) (Nat.le_refl _) _⟩
        rw [hrep]
        exact H3.out.1.set H3.out.2.2.1 (Nat.zero_le _) 1 _
    · obtain rfl : k = c := by omega
      have hR := H0.out.2.2.1.below hb (by omega)
      have r0 := Blk.cell hR 0 (v := .slice none 0 0) rfl; have r1 := Blk.cell hR 1 (v := .slice none 0 0) rfl
      have fR := Blk.frozen hR
      have lR := Blk.lt hR
      have HF := Lib.hid (And.intro hO (And.intro hb hR))
      clear hO hHB hb hR hρH
      go_wp2
      have g0' := Blk.cell (Blk.set (Blk.set HF.out.2.2 0 (.slice A1 k c1)) 1 (.slice A2 k c2)) 0 (v := .slice A1 k c1) rfl
      have g1' := Blk.cell (Blk.set (Blk.set HF.out.2.2 0 (.slice A1 k c1)) 1 (.slice A2 k c2)) 1 (v := .slice A2 k c2) rfl
      refine bodyPost_ret (v := .tuple #[.agg #[.slice A1 k c1, .slice A2 k c2], .int .i64 0]) (by simp [results, Try.results18, go_sem, g0', g1']) rfl ?_
      have hfin := (HF.out.1.setLow (P := w.heap.size) (by omega) (by omega) 0 (.slice A1 k c1)).setLow (P := w.heap.size) (by omega) (by omega) 1 (.slice A2 k c2)
      exact ⟨A1, k, c1, A2, k, c2, rfl, (hfin.read (Nat.zero_le _)).1, ((H0.out.2.2.2.1.trans (HF.out.2.1.mono (by omega))).setCell (p := ⟨w.heap.size, 0, none⟩) (Nat.le_refl _) _).setCell (p := ⟨w.heap.size, 1, none⟩) (Nat.le_refl _) _⟩
end Go.Proofs.Ytcmdmmphakclmaa
