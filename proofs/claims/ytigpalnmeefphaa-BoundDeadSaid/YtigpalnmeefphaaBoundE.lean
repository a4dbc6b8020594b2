/-
  Contracts of Failed and of Sure (P22.2).
-/
import Derived.Test.YtigpalnmeefphaaBoundD
namespace Go.Proofs.Ytigpalnmeefphaa
open Go.RowKit Go.Sort

def deadN (dl : List Bool) (ch : List Int) : Nat := (ch.filter fun n => !livesB dl n).length
def liveN (dl : List Bool) (st : List Int) : Nat := (st.filter fun n => livesB dl n).length
def chainOf (c : Cf) (ch : List Int) : List Int := if ch.length = 0 then firstC c else ch
theorem take_succ_of {α : Type} {xs : List α} {k : Nat} {x : α} (h : xs[k]? = some x) : xs.take (k + 1) = xs.take k ++ [x] := by
  have hk := (List.getElem?_eq_some_iff.1 h).1
  rw [List.take_succ_eq_append_getElem hk, (List.getElem?_eq_some_iff.1 h).2]
theorem deadN_succ {dl : List Bool} {ch : List Int} {k : Nat} {f : Int} (h : ch[k]? = some f) : deadN dl (ch.take (k + 1)) = deadN dl (ch.take k) + (if livesB dl f then 0 else 1) := by
  rw [take_succ_of h]; unfold deadN; rw [List.filter_append]; cases hl : livesB dl f <;> simp [hl]
theorem liveN_succ {dl : List Bool} {ch : List Int} {k : Nat} {f : Int} (h : ch[k]? = some f) : liveN dl (ch.take (k + 1)) = liveN dl (ch.take k) + (if livesB dl f then 1 else 0) := by
  rw [take_succ_of h]; unfold liveN; rw [List.filter_append]; cases hl : livesB dl f <;> simp [hl]
theorem deadN_le (dl : List Bool) (ch : List Int) (k : Nat) : deadN dl (ch.take k) ≤ k := Nat.le_trans (List.length_filter_le _ _) (List.length_take_le _ _)
theorem liveN_le (dl : List Bool) (ch : List Int) (k : Nat) : liveN dl (ch.take k) ≤ k := Nat.le_trans (List.length_filter_le _ _) (List.length_take_le _ _)

/-- What a world's slices hold. -/
structure WdOk (w : World) (B : Nat) (x : Wd) (ch st : List Int) (dl : List Bool) (ft : List Int) : Prop where
  chain : Sl (Rint .i64) w (lo B) x.chainA ch
  chainN : ch.length = x.chainN
  chainM : x.chainN ≤ 9223372036854775807
  stand : Sl (Rint .i64) w (lo B) x.standA st
  standN : st.length = x.standN
  standM : x.standN ≤ 9223372036854775807
  dead : Sl Rbool w (lo B) x.deadA dl
  deadN : dl.length = x.deadN
  deadM : x.deadN ≤ 9223372036854775807
  fates : Sl (Rint .i64) w (lo B) x.fatesA ft
  fatesN : ft.length = x.fatesN
  fatesM : x.fatesN ≤ 9223372036854775807
theorem WdOk.below {w w' : World} {B B' : Nat} {x : Wd} {ch st : List Int} {dl : List Bool} {ft : List Int} (h : WdOk w B x ch st dl ft) (hb : Below B w w') (hB : B ≤ B') : WdOk w' B' x ch st dl ft :=
  { h with chain := h.chain.below hb hB, stand := h.stand.below hb hB, dead := h.dead.below hb hB, fates := h.fates.below hb hB }

theorem field_chain (ep rd : Int) (A : Option Addr) (n cap : Nat) (W : World) : (Instr.field 39 (.agg #[.int .u64 ep, .int .u64 rd, .slice A n cap]) 2).run Try.prog W = .ok (.slice A n cap) W := by kernel_rfl

set_option maxHeartbeats 2000000 in
set_option maxRecDepth 100000 in
theorem failed_any (c : Cf) (x : Wd) (ch st : List Int) (dl : List Bool) (ft : List Int) (w : World) (ok : WdOk w w.heap.size x ch st dl ft) :
    Calls Try.prog 14 #[.agg #[.slice c.A c.n c.cap, .int .i64 c.ch, .int .i64 c.sb, .int .i64 c.cl, .int .i64 c.qu, .int .i64 c.close, .int .i64 c.long, .int .i64 c.ag, .int .i64 c.wi, .int .u64 c.r, .int .u64 c.sq], .agg #[.int .i64 x.now, .slice x.listA x.listN x.listC, .slice x.fatesA x.fatesN x.fatesC, .int .i64 x.node, .int .u64 x.epoch, .int .u64 x.round, .slice x.chainA x.chainN x.chainC, .slice x.peersA x.peersN x.peersC, .slice x.standA x.standN x.standC, .int .i64 x.start, .bool x.closed, .slice x.onA x.onN x.onC, .slice x.backA x.backN x.backC, .bool x.noch, .bool x.chalt, .slice x.serversA x.serversN x.serversC, .slice x.deadA x.deadN x.deadC, .slice x.clientsA x.clientsN x.clientsC, .slice x.drawsA x.drawsN x.drawsC, .slice x.lastA x.lastN x.lastC, .slice x.boxesA x.boxesN x.boxesC, .slice x.logA x.logN x.logC, .bool x.halted]] w fun e w' => e = .returned (.tuple #[.int .i64 (deadN dl (chainOf c ch) : Nat), .int .i64 (liveN dl st : Nat)]) ∧ Below w.heap.size w w' := by
  have OK := Lib.hid ok; clear ok
  have hfd := field_chain
  by_cases h0 : x.chainN = 0
  · have HC := Lib.hid (show chainOf c ch = firstC c by unfold chainOf; rw [if_pos (by rw [OK.out.chainN]; exact h0)])
    have d0 : ((x.chainN : Int) == 0) = true := by rw [h0]; rfl
    clear h0
    go_enter Try.func14, Try.ntmps14
    go_wp2_with (go_at_call 18; refine (first_any c _).mono ?_; rintro e w2 ⟨ep, rd, A, n, cap, rfl, hb2, hn, hn8, hs⟩; have HN := Lib.hid (show (chainOf c ch).length = n by rw [HC.out]; exact hn); clear hn; rw [← HC.out] at hs)
    have iw := (IsWd.new (w.alloc (.cells #[.slice c.A c.n c.cap, .int .i64 c.ch, .int .i64 c.sb, .int .i64 c.cl, .int .i64 c.qu, .int .i64 c.close, .int .i64 c.long, .int .i64 c.ag, .int .i64 c.wi, .int .u64 c.r, .int .u64 c.sq] 25)) x 56 (b := w.heap.size + 1) (by simp)).below hb2 (by simp)
    have hb1 : Below w.heap.size w w2 := (((Below.refl _ _).alloc (Nat.le_refl _) _).alloc (by simp) _).trans (hb2.mono (by simp; omega))
    have hnM : n ≤ 9223372036854775807 := by omega
    clear hb2 hn8 HC d0
    generalize hch : chainOf c ch = cl at *
    have HCL := Lib.hid hch; clear hch
    go_loop [4, 9, 26] (fun dd y i => ∃ k : Nat, k ≤ n ∧ i = .int .i64 k ∧ ∃ D : Nat, dd = .int .i64 D ∧ D ≤ k ∧ Hid (deadN dl (cl.take k) = D)) (fun _ _ i => n - (intOf i).toNat)
    case atStart => exact ⟨0, Nat.zero_le _, rfl, 0, rfl, Nat.le_refl _, by simp [Hid, deadN]⟩
    case round =>
      obtain ⟨k, hk, rfl, D, rfl, hD, HD⟩ := hrel
      have cell16 : w2.cell? ⟨w.heap.size + 1, 16, none⟩ = some (.slice x.deadA x.deadN x.deadC) := iw.2.2.2.2.2.2.2.2.2.2.2.2.2.2.2.2.1
      by_cases hlt : k < n
      · obtain ⟨b, off, f, rfl, _, hx, hwf, hcell⟩ := hs.one (i := k) (by rw [HN.out]; exact hlt)
        have hbf := bounds_i64 hwf
        have hfc := fun W (hW : w2 = W) => lives_any f (w.heap.size + 1) x.deadA x.deadN x.deadC dl W (hW ▸ cell16) (hW ▸ (OK.out.dead.below hb1 hb1.size)) OK.out.deadN OK.out.deadM hbf.1
        have hsucc := deadN_succ (dl := dl) hx
        obtain ⟨L, hL⟩ : ∃ L, livesB dl f = L := ⟨_, rfl⟩
        rw [hL] at hfc hsucc
        have HF := Lib.hid hfc; have HS := Lib.hid hsucc; clear hfc hsucc hx hL hwf hbf
        cases L with
        | true =>
          go_wp2_with (go_at_call 17; refine (HF.out _ rfl).mono ?_; rintro e w' ⟨rfl, rfl⟩)
          go_round
          case rel => exact ⟨k + 1, by omega, by go_num, D, rfl, by omega, by show _ = _; rw [HS.out, HD.out]; rfl⟩
          case measure => simp [intOf]; omega
        | false =>
          go_wp2_with (go_at_call 17; refine (HF.out _ rfl).mono ?_; rintro e w' ⟨rfl, rfl⟩)
          go_round
          case rel => exact ⟨k + 1, by omega, by go_num, D + 1, by go_num, by omega, by show _ = _; rw [HS.out, HD.out]; rfl⟩
          case measure => simp [intOf]; omega
      · have hkn : cl.take k = cl := List.take_of_length_le (by rw [HN.out]; omega)
        rw [hkn] at HD
        obtain ⟨sA, sN, sC, cell8, hst, hn2, hm2⟩ : ∃ sA sN sC, w2.cell? ⟨w.heap.size + 1, 8, none⟩ = some (.slice sA sN sC) ∧ Sl (Rint .i64) w2 (lo w2.heap.size) sA st ∧ st.length = sN ∧ sN ≤ 9223372036854775807 :=
          ⟨x.standA, x.standN, x.standC, iw.2.2.2.2.2.2.2.2.1, OK.out.stand.below hb1 hb1.size, OK.out.standN, OK.out.standM⟩
        have HN2 := Lib.hid hn2; clear hn2
        clear hkn hs HN hnM
        go_wp2_with fail
        go_loop [5, 11, 41] (fun dd y i => ∃ k : Nat, k ≤ sN ∧ i = .int .i64 k ∧ ∃ L : Nat, dd = .int .i64 L ∧ L ≤ k ∧ Hid (liveN dl (st.take k) = L)) (fun _ _ i => sN - (intOf i).toNat)
        case atStart => exact ⟨0, Nat.zero_le _, rfl, 0, rfl, Nat.le_refl _, by simp [Hid, liveN]⟩
        case round =>
          obtain ⟨j, hj, rfl, M, rfl, hM, HM⟩ := hrel
          by_cases hlt2 : j < sN
          · obtain ⟨b, off, f, rfl, _, hx, hwf, hcell⟩ := hst.one (i := j) (by rw [HN2.out]; exact hlt2)
            have hbf := bounds_i64 hwf
            have hfc := fun W (hW : w2 = W) => lives_any f (w.heap.size + 1) x.deadA x.deadN x.deadC dl W (hW ▸ cell16) (hW ▸ (OK.out.dead.below hb1 hb1.size)) OK.out.deadN OK.out.deadM hbf.1
            have hsucc := liveN_succ (dl := dl) hx
            obtain ⟨L, hL⟩ : ∃ L, livesB dl f = L := ⟨_, rfl⟩
            rw [hL] at hfc hsucc
            have HF := Lib.hid hfc; have HS := Lib.hid hsucc; clear hfc hsucc hx hL hwf hbf
            cases L with
            | true =>
              go_wp2_with (go_at_call 17; refine (HF.out _ rfl).mono ?_; rintro e w' ⟨rfl, rfl⟩)
              go_round
              case rel => exact ⟨j + 1, by omega, by go_num, M + 1, by go_num, by omega, by show _ = _; rw [HS.out, HM.out]; rfl⟩
              case measure => simp [intOf]; omega
            | false =>
              go_wp2_with (go_at_call 17; refine (HF.out _ rfl).mono ?_; rintro e w' ⟨rfl, rfl⟩)
              go_round
              case rel => exact ⟨j + 1, by omega, by go_num, M, rfl, by omega, by show _ = _; rw [HS.out, HM.out]; rfl⟩
              case measure => simp [intOf]; omega
          · have hjn : st.take j = st := List.take_of_length_le (by rw [HN2.out]; omega)
            rw [hjn] at HM
            clear hjn
            go_wp2
            go_ret2
            exact ⟨by rw [HCL.out, HD.out, HM.out]; rfl, hb1⟩
  · have HC := Lib.hid (show chainOf c ch = ch by unfold chainOf; rw [if_neg (by rw [OK.out.chainN]; exact h0)])
    have d0 : ((x.chainN : Int) == 0) = false := by simp; omega
    clear h0
    go_enter Try.func14, Try.ntmps14
    go_wp2_with fail
    have iw := IsWd.new (w.alloc (.cells #[.slice c.A c.n c.cap, .int .i64 c.ch, .int .i64 c.sb, .int .i64 c.cl, .int .i64 c.qu, .int .i64 c.close, .int .i64 c.long, .int .i64 c.ag, .int .i64 c.wi, .int .u64 c.r, .int .u64 c.sq] 25)) x 56 (b := w.heap.size + 1) (by simp)
    have hb1 : Below w.heap.size w ((w.alloc (.cells #[.slice c.A c.n c.cap, .int .i64 c.ch, .int .i64 c.sb, .int .i64 c.cl, .int .i64 c.qu, .int .i64 c.close, .int .i64 c.long, .int .i64 c.ag, .int .i64 c.wi, .int .u64 c.r, .int .u64 c.sq] 25)).alloc (.cells #[.int .i64 x.now, .slice x.listA x.listN x.listC, .slice x.fatesA x.fatesN x.fatesC, .int .i64 x.node, .int .u64 x.epoch, .int .u64 x.round, .slice x.chainA x.chainN x.chainC, .slice x.peersA x.peersN x.peersC, .slice x.standA x.standN x.standC, .int .i64 x.start, .bool x.closed, .slice x.onA x.onN x.onC, .slice x.backA x.backN x.backC, .bool x.noch, .bool x.chalt, .slice x.serversA x.serversN x.serversC, .slice x.deadA x.deadN x.deadC, .slice x.clientsA x.clientsN x.clientsC, .slice x.drawsA x.drawsN x.drawsC, .slice x.lastA x.lastN x.lastC, .slice x.boxesA x.boxesN x.boxesC, .slice x.logA x.logN x.logC, .bool x.halted] 56)) := ((Below.refl _ _).alloc (Nat.le_refl _) _).alloc (by simp) _
    have hs := OK.out.chain.below hb1 hb1.size
    rw [← HC.out] at hs
    have HN := Lib.hid (show (chainOf c ch).length = x.chainN by rw [HC.out]; exact OK.out.chainN)
    have hnM := OK.out.chainM
    generalize (w.alloc (.cells #[.slice c.A c.n c.cap, .int .i64 c.ch, .int .i64 c.sb, .int .i64 c.cl, .int .i64 c.qu, .int .i64 c.close, .int .i64 c.long, .int .i64 c.ag, .int .i64 c.wi, .int .u64 c.r, .int .u64 c.sq] 25)).alloc (.cells #[.int .i64 x.now, .slice x.listA x.listN x.listC, .slice x.fatesA x.fatesN x.fatesC, .int .i64 x.node, .int .u64 x.epoch, .int .u64 x.round, .slice x.chainA x.chainN x.chainC, .slice x.peersA x.peersN x.peersC, .slice x.standA x.standN x.standC, .int .i64 x.start, .bool x.closed, .slice x.onA x.onN x.onC, .slice x.backA x.backN x.backC, .bool x.noch, .bool x.chalt, .slice x.serversA x.serversN x.serversC, .slice x.deadA x.deadN x.deadC, .slice x.clientsA x.clientsN x.clientsC, .slice x.drawsA x.drawsN x.drawsC, .slice x.lastA x.lastN x.lastC, .slice x.boxesA x.boxesN x.boxesC, .slice x.logA x.logN x.logC, .bool x.halted] 56) = w2 at *
    generalize x.chainN = n at *
    generalize x.chainA = A at *
    clear HC d0
    generalize hch : chainOf c ch = cl at *
    have HCL := Lib.hid hch; clear hch
    go_loop [4, 9, 26] (fun dd y i => ∃ k : Nat, k ≤ n ∧ i = .int .i64 k ∧ ∃ D : Nat, dd = .int .i64 D ∧ D ≤ k ∧ Hid (deadN dl (cl.take k) = D)) (fun _ _ i => n - (intOf i).toNat)
    case atStart => exact ⟨0, Nat.zero_le _, rfl, 0, rfl, Nat.le_refl _, by simp [Hid, deadN]⟩
    case round =>
      obtain ⟨k, hk, rfl, D, rfl, hD, HD⟩ := hrel
      have cell16 : w2.cell? ⟨w.heap.size + 1, 16, none⟩ = some (.slice x.deadA x.deadN x.deadC) := iw.2.2.2.2.2.2.2.2.2.2.2.2.2.2.2.2.1
      by_cases hlt : k < n
      · obtain ⟨b, off, f, rfl, _, hx, hwf, hcell⟩ := hs.one (i := k) (by rw [HN.out]; exact hlt)
        have hbf := bounds_i64 hwf
        have hfc := fun W (hW : w2 = W) => lives_any f (w.heap.size + 1) x.deadA x.deadN x.deadC dl W (hW ▸ cell16) (hW ▸ (OK.out.dead.below hb1 hb1.size)) OK.out.deadN OK.out.deadM hbf.1
        have hsucc := deadN_succ (dl := dl) hx
        obtain ⟨L, hL⟩ : ∃ L, livesB dl f = L := ⟨_, rfl⟩
        rw [hL] at hfc hsucc
        have HF := Lib.hid hfc; have HS := Lib.hid hsucc; clear hfc hsucc hx hL hwf hbf
        cases L with
        | true =>
          go_wp2_with (go_at_call 17; refine (HF.out _ rfl).mono ?_; rintro e w' ⟨rfl, rfl⟩)
          go_round
          case rel => exact ⟨k + 1, by omega, by go_num, D, rfl, by omega, by show _ = _; rw [HS.out, HD.out]; rfl⟩
          case measure => simp [intOf]; omega
        | false =>
          go_wp2_with (go_at_call 17; refine (HF.out _ rfl).mono ?_; rintro e w' ⟨rfl, rfl⟩)
          go_round
          case rel => exact ⟨k + 1, by omega, by go_num, D + 1, by go_num, by omega, by show _ = _; rw [HS.out, HD.out]; rfl⟩
          case measure => simp [intOf]; omega
      · have hkn : cl.take k = cl := List.take_of_length_le (by rw [HN.out]; omega)
        rw [hkn] at HD
        obtain ⟨sA, sN, sC, cell8, hst, hn2, hm2⟩ : ∃ sA sN sC, w2.cell? ⟨w.heap.size + 1, 8, none⟩ = some (.slice sA sN sC) ∧ Sl (Rint .i64) w2 (lo w2.heap.size) sA st ∧ st.length = sN ∧ sN ≤ 9223372036854775807 :=
          ⟨x.standA, x.standN, x.standC, iw.2.2.2.2.2.2.2.2.1, OK.out.stand.below hb1 hb1.size, OK.out.standN, OK.out.standM⟩
        have HN2 := Lib.hid hn2; clear hn2
        clear hkn hs HN hnM
        go_wp2_with fail
        go_loop [5, 11, 41] (fun dd y i => ∃ k : Nat, k ≤ sN ∧ i = .int .i64 k ∧ ∃ L : Nat, dd = .int .i64 L ∧ L ≤ k ∧ Hid (liveN dl (st.take k) = L)) (fun _ _ i => sN - (intOf i).toNat)
        case atStart => exact ⟨0, Nat.zero_le _, rfl, 0, rfl, Nat.le_refl _, by simp [Hid, liveN]⟩
        case round =>
          obtain ⟨j, hj, rfl, M, rfl, hM, HM⟩ := hrel
          by_cases hlt2 : j < sN
          · obtain ⟨b, off, f, rfl, _, hx, hwf, hcell⟩ := hst.one (i := j) (by rw [HN2.out]; exact hlt2)
            have hbf := bounds_i64 hwf
            have hfc := fun W (hW : w2 = W) => lives_any f (w.heap.size + 1) x.deadA x.deadN x.deadC dl W (hW ▸ cell16) (hW ▸ (OK.out.dead.below hb1 hb1.size)) OK.out.deadN OK.out.deadM hbf.1
            have hsucc := liveN_succ (dl := dl) hx
            obtain ⟨L, hL⟩ : ∃ L, livesB dl f = L := ⟨_, rfl⟩
            rw [hL] at hfc hsucc
            have HF := Lib.hid hfc; have HS := Lib.hid hsucc; clear hfc hsucc hx hL hwf hbf
            cases L with
            | true =>
              go_wp2_with (go_at_call 17; refine (HF.out _ rfl).mono ?_; rintro e w' ⟨rfl, rfl⟩)
              go_round
              case rel => exact ⟨j + 1, by omega, by go_num, M + 1, by go_num, by omega, by show _ = _; rw [HS.out, HM.out]; rfl⟩
              case measure => simp [intOf]; omega
            | false =>
              go_wp2_with (go_at_call 17; refine (HF.out _ rfl).mono ?_; rintro e w' ⟨rfl, rfl⟩)
              go_round
              case rel => exact ⟨j + 1, by omega, by go_num, M, rfl, by omega, by show _ = _; rw [HS.out, HM.out]; rfl⟩
              case measure => simp [intOf]; omega
          · have hjn : st.take j = st := List.take_of_length_le (by rw [HN2.out]; omega)
            rw [hjn] at HM
            clear hjn
            go_wp2
            go_ret2
            exact ⟨by rw [HCL.out, HD.out, HM.out]; rfl, hb1⟩
end Go.Proofs.Ytigpalnmeefphaa
