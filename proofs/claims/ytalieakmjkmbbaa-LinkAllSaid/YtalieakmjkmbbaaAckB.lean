/-
  Ack: its two loops.
-/
import Derived.Test.YtalieakmjkmbbaaAckA
namespace Go.Proofs.Ytalieakmjkmbbaa
open Go.RowKit Go.Sort
set_option linter.unusedVariables false

/-- What holds at the first loop's head. -/
def AkW (w wr : World) (B E : Nat) (nx vW : Value) (vS : Value) (l : List It) : Prop :=
  Blk wr E 35 #[nx, vS, vW] ∧ OwnX Rit wr B 38 (fun k => k = E) vS l ∧ Below B w wr
noncomputable def ack_loop1_code : Code := blockOf Try.f18 0
set_option maxRecDepth 100000 in
set_option maxHeartbeats 4000000 in
theorem ack_loop1 {Q : Exit → Act → World → Prop} {s0 s2 s3 s4 s5 s6 s7 s8 s9 s11 s12 s13 s14 s15 s16 s17 s18 s22 s23 s24 s25 s26 s27 s28 s29 s30 s31 s32 s33 s34 s35 s36 s37 s38 s39 s40 s41 s42 s43 s44 s45 s46 s47 s48 s49 s50 s51 s52 s53 s54 s55 s56 s57 s58 s59 s60 s61 s62 s63 s64 s65 s66 s67 s68 : Value} (w : World) (B E : Nat) (nx vW : Value) (n : Int) (AS : Option Addr) (nS cS : Nat) (xs : List It) (hE : Blk w E 35 #[nx, .slice none 0 0, vW]) (hBE : B ≤ E) (hxs : Sl Rit w (lo B) AS xs) (hn : xs.length = nS) (hz : (nS + 1) * 40 ≤ 140737488355328) (ht : ∀ x ∈ xs, x.body.length ≤ 140737488355328)
    (hK : ∀ (d12 d21 d22 d23 d24 d25 d26 d27 d28 d29 d30 d31 d32 d33 d34 d35 d36 vS : Value) (w' : World), AkW w w' B E nx vW vS (ackSent n xs) → Q .normal ⟨#[s0, .int .i64 n, s2, s3, s4, s5, s6, s7, s8, s9, .pointer (some ⟨E, 0, none⟩), s11, d12, s13, s14, s15, s16, s17, s18, .slice AS nS cS, .int .i64 nS, d21, d22, d23, d24, d25, d26, d27, d28, d29, d30, d31, d32, d33, d34, d35, d36, s37, s38, s39, s40, s41, s42, s43, s44, s45, s46, s47, s48, s49, s50, s51, s52, s53, s54, s55, s56, s57, s58, s59, s60, s61, s62, s63, s64, s65, s66, s67, s68], []⟩ w') :
    Code.wp Try.prog ack_loop1_code Q ⟨#[s0, .int .i64 n, s2, s3, s4, s5, s6, s7, s8, s9, .pointer (some ⟨E, 0, none⟩), s11, s12, s13, s14, s15, s16, s17, s18, .slice AS nS cS, .int .i64 nS, .int .i64 0, s22, s23, s24, s25, s26, s27, s28, s29, s30, s31, s32, s33, s34, s35, s36, s37, s38, s39, s40, s41, s42, s43, s44, s45, s46, s47, s48, s49, s50, s51, s52, s53, s54, s55, s56, s57, s58, s59, s60, s61, s62, s63, s64, s65, s66, s67, s68], []⟩ w := by
  have HK := Lib.hid hK; clear hK
  have hlE := hE.lt
  have H0 := Lib.hid (show AkW w w B E nx vW (.slice none 0 0) (ackSent n (xs.take 0)) from ⟨hE, OwnX.nil _ _ _ _ _, Below.refl _ _⟩)
  have HX := Lib.hid (And.intro hn (And.intro hxs ht))
  clear hE hn hxs ht
  conv => arg 2; whnf
  go_wp2
  go_loopw [21] (fun i wr => ∃ k : Nat, k ≤ nS ∧ i = .int .i64 k ∧ ∃ vS, AkW w wr B E nx vW vS (ackSent n (xs.take k))) (fun i _ => nS - (intOf i).toNat)
  case atStart => exact ⟨0, Nat.zero_le _, rfl, _, H0.out⟩
  case round =>
    clear H0
    obtain ⟨wr, rfl⟩ : ∃ wx : World, wx = wr := ⟨_, rfl⟩
    obtain ⟨k, hk, rfl, vS, hA⟩ := hrel
    by_cases hlt : k < nS
    · have hy := List.getElem?_eq_getElem (l := xs) (i := k) (by rw [HX.out.1]; exact hlt)
      generalize xs[k]'(by rw [HX.out.1]; exact hlt) = y at hy
      have htz := HX.out.2.2 y (List.mem_of_getElem? hy)
      have hzr := hA.2.2.size
      obtain ⟨b', off', T', tn', tc', rfl, hlb, w1, w2', htn', hl', hm', hts', y0, y1, y2⟩ := (HX.out.2.1.keep (w' := wr) (S' := lo B) (fun p hp => hA.2.2.cell hp) (fun _ h => h)).item hy
      have hlb' : b' < B := hlb
      have hlEr := hA.1.lt
      have hIo : vS.ownBlock ≠ some wr.heap.size := fun e => by have := (hA.2.1.lt e).2.1; omega
      rw [htn'] at htz
      have hb1 : RowKit.Below wr.heap.size wr (wr.alloc (.cells #[.int .i64 y.sq, .slice T' tn' tc', .int .i64 y.tm] 38)) := (Below.refl _ _).alloc (Nat.le_refl _) _
      have hI : ItAt (wr.alloc (.cells #[.int .i64 y.sq, .slice T' tn' tc', .int .i64 y.tm] 38)) (lo (wr.alloc (.cells #[.int .i64 y.sq, .slice T' tn' tc', .int .i64 y.tm] 38)).heap.size) wr.heap.size T' tn' tc' y :=
        ⟨Blk.new _ _ _ rfl, w1, w2', htn', hl', hm', hts'.keep (fun p hp => World.cell?_alloc_lt _ _ _ (by have : p.block < B := hp; omega)) (fun b hb => by have : b < B := hb; simp [lo]; omega)⟩
      have h1 : AkW w (wr.alloc (.cells #[.int .i64 y.sq, .slice T' tn' tc', .int .i64 y.tm] 38)) B E nx vW vS (ackSent n (xs.take k)) := ⟨hA.1.below hb1 hlEr, hA.2.1.up hb1, hA.2.2.trans (hb1.mono (by omega))⟩
      have hlen : (ackSent n (xs.take k)).length ≤ k := filter_len _ _ _
      have HW := Lib.hid (And.intro hI h1)
      have hEne : wr.heap.size ≠ E := by omega
      by_cases hc : n ≤ y.sq
      · have d1 : decide (n ≤ y.sq) = true := decide_eq_true hc
        have HC := Lib.hid (show ackSent n (xs.take (k + 1)) = ackSent n (xs.take k) ++ [y] by unfold ackSent; rw [filter_take (p := fun x : It => decide (n ≤ x.sq)) hy]; simp [hc])
        clear hA hy htn' hl' hm' hts' hb1 hI h1 w1 w2' hc
        go_upto_region 6 with fail
        refine ack_r6 _ B E wr.heap.size nx vW (fun k => k = E) vS _ y T' tn' tc' HW.out.2.1 HW.out.2.2.1 rfl (fun k h => by rw [h]; simp; omega) hBE HW.out.1 hEne hIo htz (by omega) ?_
        intro d29 d30 d31 d32 d33 d34 d35 A' cap w6 hE6 ho6 hf6 hz6 hb6
        have HN := Lib.hid (show AkW w w6 B E nx vW _ (ackSent n (xs.take (k + 1))) from ⟨hE6, by rw [HC.out]; exact ho6, HW.out.2.2.2.trans hb6⟩)
        clear hE6 ho6 hf6 hz6 hb6
        go_wp2
        go_roundw
        case measure => simp [intOf]; omega
        case rel => exact ⟨k + 1, by omega, by go_num, _, HN.out⟩
      · have d1 : decide (n ≤ y.sq) = false := decide_eq_false hc
        have HC := Lib.hid (show ackSent n (xs.take (k + 1)) = ackSent n (xs.take k) by unfold ackSent; rw [filter_take (p := fun x : It => decide (n ≤ x.sq)) hy]; simp [hc])
        clear hA hy htn' hl' hm' hts' hb1 hI h1 w1 w2' hc
        go_wp2
        go_roundw
        case measure => simp [intOf]; omega
        case rel => exact ⟨k + 1, by omega, by go_num, _, by rw [HC.out]; exact HW.out.2⟩
    · have hf : xs.take k = xs := List.take_of_length_le (by rw [HX.out.1]; omega)
      rw [hf] at hA
      have HA := Lib.hid hA; clear hA hf
      go_wp2
      exact HK.out _ _ _ _ _ _ _ _ _ _ _ _ _ _ _ _ _ _ _ HA.out
theorem le40 {n : Nat} (h : n ≤ 3000000) : n * 40 ≤ 140737488355328 := Nat.le_trans (Nat.mul_le_mul_right 40 h) (by decide)
/-- What holds at the second loop's head. -/
structure AkV (w wr : World) (B E : Nat) (next : Int) (vW : Value) (vS vT : Value) (ls lt : List It) : Prop where
  hE : Blk wr E 35 #[.int .i64 next, vS, vW]
  hS : OwnX Rit wr B 38 (fun k => k = E ∨ vT.ownBlock = some k) vS ls
  hT : OwnX Rit wr B 38 (fun k => k = E ∨ vS.ownBlock = some k) vT lt
  bel : Below B w wr
noncomputable def ack_loop2_code : Code := blockOf Try.f18 2
set_option maxRecDepth 100000 in
set_option maxHeartbeats 4000000 in
theorem ack_loop2 {Q : Exit → Act → World → Prop} {s0 s1 s5 s6 s7 s8 s9 s11 s12 s15 s16 s17 s18 s19 s20 s21 s22 s23 s24 s25 s26 s27 s28 s29 s30 s31 s32 s33 s34 s35 s36 s37 s38 s39 s40 s41 s42 s43 s44 s45 s46 s47 s48 s49 s50 s51 s52 s53 s54 s55 s56 s57 s58 s59 s60 s61 s62 s63 s64 s65 s66 s67 s68 : Value} (w : World) (B E BX : Nat) (next now window : Int) (vW vS : Value) (ls : List It) (AW : Option Addr) (nW cW : Nat) (ws : List (List Int)) (m : Nat)
    (hA : AkV w w B E next vW vS (.slice none 0 0) ls []) (hBE : B ≤ E) (hBX : BX < B) (hbx : w.cell? ⟨BX, 2, none⟩ = some (.slice AW nW cW)) (hws : Sl Rbd w (lo B) AW ws) (hnW : ws.length = nW) (hm : m = min nW (window - (ls.length : Int)).toNat) (hz : ls.length + nW + 1 ≤ 3000000) (ht : ∀ x ∈ ws, x.length ≤ 140737488355328)
    (hx0 : 0 ≤ next) (hx1 : next < 4000000000000000000) (hnow : (Lit.int .i64 now).wf = true)
    (hK : ∀ (d37 d38 d39 d40 d41 d42 d43 d44 d45 d46 d47 d48 d49 d50 d51 d52 d53 d54 d55 d56 d57 d58 d59 d60 vS' vT : Value) (w' : World), AkV w w' B E (next + m) vW vS' vT (ls ++ numL next now (ws.take m)) (numL next now (ws.take m)) → Q .normal ⟨#[s0, s1, .int .i64 window, .int .i64 now, .pointer (some ⟨BX, 0, none⟩), s5, s6, s7, s8, s9, .pointer (some ⟨E, 0, none⟩), s11, s12, vT, .int .i64 m, s15, s16, s17, s18, s19, s20, s21, s22, s23, s24, s25, s26, s27, s28, s29, s30, s31, s32, s33, s34, s35, s36, d37, d38, d39, d40, d41, d42, d43, d44, d45, d46, d47, d48, d49, d50, d51, d52, d53, d54, d55, d56, d57, d58, d59, d60, s61, s62, s63, s64, s65, s66, s67, s68], []⟩ w') :
    Code.wp Try.prog ack_loop2_code Q ⟨#[s0, s1, .int .i64 window, .int .i64 now, .pointer (some ⟨BX, 0, none⟩), s5, s6, s7, s8, s9, .pointer (some ⟨E, 0, none⟩), s11, s12, .slice none 0 0, .int .i64 0, s15, s16, s17, s18, s19, s20, s21, s22, s23, s24, s25, s26, s27, s28, s29, s30, s31, s32, s33, s34, s35, s36, s37, s38, s39, s40, s41, s42, s43, s44, s45, s46, s47, s48, s49, s50, s51, s52, s53, s54, s55, s56, s57, s58, s59, s60, s61, s62, s63, s64, s65, s66, s67, s68], []⟩ w := by
  have HK := Lib.hid hK; clear hK
  have H0 := Lib.hid hA; clear hA
  have HM := Lib.hid (And.intro hm (And.intro hws (And.intro hnW ht)))
  have hmn : m ≤ nW := by omega
  have hstop : (m : Int) = nW ∨ window ≤ (ls.length : Int) + m := by omega
  have hgo : ∀ k : Nat, k < m → (k : Int) < nW ∧ (ls.length : Int) + k < window := fun k hk => by omega
  have HGO := Lib.hid hgo
  clear hm hws hnW ht hgo
  conv => arg 2; whnf
  go_wp2
  go_loopw [13, 14] (fun vT i wr => ∃ k : Nat, k ≤ m ∧ i = .int .i64 k ∧ ∃ vS', AkV w wr B E (next + k) vW vS' vT (ls ++ numL next now (ws.take k)) (numL next now (ws.take k))) (fun _ i _ => m - (intOf i).toNat)
  case atStart => exact ⟨0, Nat.zero_le _, rfl, vS, by simpa [numL] using H0.out⟩
  case round =>
    clear H0
    obtain ⟨wr, rfl⟩ : ∃ wx : World, wx = wr := ⟨_, rfl⟩
    obtain ⟨k, hk, rfl, vS1, hA⟩ := hrel
    have hzr := hA.bel.size
    have hlEr := hA.hE.lt
    have x2 := (hA.bel.cell (p := ⟨BX, 2, none⟩) hBX).trans hbx
    have hlen : (ls ++ numL next now (ws.take k)).length = ls.length + k := by (rw [List.length_append, numL_len, List.length_take]; have := HM.out.2.2.1; omega)
    obtain ⟨vA, vc, hvA⟩ := hA.hS.form
    obtain ⟨tA, tc, htA⟩ := hA.hT.form
    have hlt' : (numL next now (ws.take k)).length = k := by (rw [numL_len, List.length_take]; have := HM.out.2.2.1; omega)
    rw [hlen] at hvA
    rw [hlt'] at htA
    obtain ⟨N, hN⟩ : ∃ N, ls.length + k = N := ⟨_, rfl⟩
    rw [hN] at hvA
    subst hvA
    subst htA
    have e1 := hA.hE.cell 1 (v := .slice vA N vc) rfl
    have HL0 := Lib.hid (And.intro hlen hlt'); clear hlen hlt'
    by_cases hlt : k < m
    · have hg := HGO.out k hlt
      have d1 : decide (k < nW) = true := decide_eq_true (by omega)
      have d2 : decide ((N : Int) < window) = true := decide_eq_true (by omega)
      have hnk : k < nW := by omega
      have hb := List.getElem?_eq_getElem (l := ws) (i := k) (by rw [HM.out.2.2.1]; omega)
      generalize ws[k]'(by rw [HM.out.2.2.1]; omega) = bd at hb
      have htz := HM.out.2.2.2 bd (List.mem_of_getElem? hb)
      obtain ⟨b', off', T', tn', tc', rfl, hlb, htn', _, _, hts', y0⟩ := (HM.out.2.1.keep (w' := wr) (S' := lo B) (fun p hp => hA.bel.cell hp) (fun _ h => h)).sub hb
      have hts2 : Sl (Rint .u8) wr (lo wr.heap.size) T' bd := hts'.more (fun b hb => by have : b < B := hb; show b < _; omega)
      rw [htn'] at htz
      have hlb' : b' < B := hlb
      have q1 : ((ls ++ numL next now (ws.take k)).length + 1) * 40 ≤ 140737488355328 := by rw [HL0.out.1]; exact le40 (by omega)
      have q2 : 0 ≤ next + (k : Int) := by omega
      have q3 : next + (k : Int) < 4611686018427387904 := by omega
      have HQ := Lib.hid (And.intro q1 (And.intro q2 q3))
      clear q1 q2 q3
      have HA := Lib.hid hA
      have HL := Lib.hid (And.intro HL0.out.1 (And.intro HL0.out.2 (And.intro hN (And.intro htn' (And.intro hts2 hb)))))
      clear hA hN htn' hts' hts2 hb hg
      go_wp2_with (first
        | (go_at_call 30
           go_loud (skip
                    refine (number_any wr B E (next + k) now vW (fun k' => k' = E ∨ (Value.slice tA k tc).ownBlock = some k') (.slice vA N vc) _ bd T' tn' tc' HA.out.hE HA.out.hS (.inl rfl) (fun k' h => by rcases h with h | h; omega; exact (HA.out.hT.lt h).2.1) hBE HL.out.2.2.2.1 HL.out.2.2.2.2.1 htz HQ.out.1 HQ.out.2.1 HQ.out.2.2 hnow).mono ?_
                    rintro e w5 ⟨T5, n5, c5, A5, cap5, m5, rfl, hn5, hl5, hm5, hm1, hm2, hs5, hE5, hox5, hfr5, hor5, hb5⟩
                    have H5 := Lib.hid (And.intro hn5 (And.intro hl5 (And.intro hm5 (And.intro hs5 (And.intro hE5 (And.intro hox5 (And.intro hfr5 (And.intro hor5 hb5))))))))
                    have HT5 := Lib.hid (HA.out.hT.frame (w' := w5) (X' := fun k' => k' = E ∨ (Value.slice A5 ((ls ++ numL next now (ws.take k)).length + 1) cap5).ownBlock = some k') (fun k' h1 h2 h3 => hfr5 k' h2 (fun e => h3 (.inl e)) (fun e => h3 (.inr e))) (by omega) (fun k' h1 h2 h3 h4 => by
                      rcases h4 with h4 | h4
                      · exact h3 (.inl h4)
                      · rcases hor5 with e | ⟨g, e, hg⟩
                        · exact h3 (.inr (by rw [← e]; exact h4))
                        · rw [e] at h4; have := Option.some.inj h4; omega))
                    clear hn5 hl5 hm5 hs5 hE5 hox5 hfr5 hor5 hb5))
        | (at_builtin
           go_loud (skip
                    refine wpList_append_X rfl (.tmp 49) (.tmp 57) rfl ei_items rfl (HT5.out.up ((Below.refl _ _).alloc (Nat.le_refl _) _)) (some _) 1 1 (ys := [⟨next + k, bd, now⟩]) rfl rfl (cellsNew (by simp)) (newItem (S := mid m5 w5.heap.size) (l := ⟨next + k, bd, now⟩) H5.out.1 (show (Lit.int .i64 (next + k)).wf = true from WalkArith.wf_i64 ⟨by have := HQ.out.2.1; omega, by have := HQ.out.2.2; omega⟩) hnow H5.out.2.1 H5.out.2.2.1 (H5.out.2.2.2.1.keep (fun p hp => World.cell?_alloc_lt _ _ _ hp.2) (fun b hb => hb))) (fun k' hk' => ⟨by have := hk'.1; omega, by have := hk'.2; simp; omega, fun h => by
                      rcases h with h | h
                      · have := hk'.1; omega
                      · have h9 := (H5.out.2.2.2.2.2.1.lt h).2.2; exact h9 (.inr hk'.1), fun e => by have h9 := (HA.out.hT.lt e).2.1; have := hk'.1; omega⟩) (fun h => by
                      rcases h with h | h
                      · simp at h; omega
                      · exact absurd (H5.out.2.2.2.2.2.1.lt h).2.1 (by simp)) (by rw [HL.out.2.1]; exact le40 (by omega)) (by rw [HL.out.2.1]; simp only [maxLen]; omega) (by simp; omega) ?_
                    rw [HL.out.2.1]
                    intro A' cap w6 hox hg1 hat1 hbb1
                    have H6 := Lib.hid (And.intro hox (And.intro hg1 (And.intro hat1 hbb1)))
                    clear hox hg1 hat1 hbb1)))
      have hz6 : w5.heap.size ≤ w6.heap.size := by (have h9 := H6.out.2.2.2.size; simp at h9; omega)
      have hgr := H6.out.2.1
      have hsm : ∀ b, b < w5.heap.size → (Value.slice tA k tc).ownBlock ≠ some b → w6.heap[b]? = w5.heap[b]? := fun b hb hne => (hgr.block b (by simp; omega) (fun e => hne e.symm)).trans (Below.heap_alloc w5 _ b hb)
      have hE6 : (Value.slice tA k tc).ownBlock ≠ some E := fun e => (HA.out.hT.lt e).2.2 (.inl rfl)
      have e40 : ls ++ numL next now (ws.take (k + 1)) = (ls ++ numL next now (ws.take k)) ++ [⟨next + k, bd, now⟩] := by
        rw [take_snoc' HL.out.2.2.2.2.2, numL_snoc, List.length_take, Nat.min_eq_left (by have := HM.out.2.2.1; omega), List.append_assoc]
      have e41 : numL next now (ws.take (k + 1)) = numL next now (ws.take k) ++ [⟨next + k, bd, now⟩] := by
        rw [take_snoc' HL.out.2.2.2.2.2, numL_snoc, List.length_take, Nat.min_eq_left (by have := HM.out.2.2.1; omega)]
      have HN := Lib.hid (show AkV w w6 B E (next + (k + 1 : Nat)) vW _ _ (ls ++ numL next now (ws.take (k + 1))) (numL next now (ws.take (k + 1))) from by
        rw [e40, e41, show next + ((k + 1 : Nat) : Int) = next + k + 1 by omega]
        refine ⟨(hsm E (by omega) hE6).trans H5.out.2.2.2.2.1, H5.out.2.2.2.2.2.1.frame (fun b h1 h2 h3 => hsm b h2 (fun e => h3 (.inl (.inr e)))) hz6 (fun b h1 h2 h3 h4 => ?_), H6.out.1, (HA.out.bel.trans H5.out.2.2.2.2.2.2.2.2).trans (((Below.refl B w5).alloc (by omega) _).trans H6.out.2.2.2)⟩
        rcases h4 with h4 | h4
        · exact h3 (.inl (.inl h4))
        · rcases H6.out.2.2.1 with e | e
          · exact h3 (.inl (.inr (e.symm.trans h4)))
          · rw [e] at h4; have := Option.some.inj h4; simp at this; omega)
      clear hz6 hgr hsm hE6 e40 e41
      go_roundw
      case measure => simp [intOf]; omega
      case rel => exact ⟨k + 1, by omega, by go_num, _, HN.out⟩
    · obtain rfl : k = m := by omega
      have HA := Lib.hid hA
      have HL := Lib.hid (And.intro hN True.intro)
      clear hA
      by_cases hkn : k = nW
      · have d1 : decide (k < nW) = false := decide_eq_false (by omega)
        clear hkn
        go_wp2
        exact HK.out _ _ _ _ _ _ _ _ _ _ _ _ _ _ _ _ _ _ _ _ _ _ _ _ _ _ _ HA.out
      · have d1 : decide (k < nW) = true := decide_eq_true (by omega)
        have d2 : decide ((N : Int) < window) = false := decide_eq_false (by omega)
        clear hkn
        go_wp2
        exact HK.out _ _ _ _ _ _ _ _ _ _ _ _ _ _ _ _ _ _ _ _ _ _ _ _ _ _ _ HA.out
end Go.Proofs.Ytalieakmjkmbbaa
