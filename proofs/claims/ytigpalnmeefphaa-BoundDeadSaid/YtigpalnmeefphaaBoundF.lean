/-
  The contract of Sure (P22.2).
-/
import Derived.Test.YtigpalnmeefphaaBoundE
namespace Go.Proofs.Ytigpalnmeefphaa
open Go.RowKit Go.Sort
set_option linter.unusedVariables false

/-- The chain's live servers and those that stand by decide. -/
def restB (D L s : Nat) : Bool := decide (D < L) || (decide (D = 0) && decide (s = 0))
def lateR : Int := 18446744073709550615
def sureB (c : Cf) (x : Wd) (ch st : List Int) (dl : List Bool) (ft : List Int) (d : Int) : Bool :=
  longB c d && fineB ft d && !x.halted && decide (x.round ≤ lateR) && restB (deadN dl (chainOf c ch)) (liveN dl st) st.length
theorem long_at {c : Cf} {d : Int} {b : Bool} (h : longB c d = b) (w : World) : Calls Try.prog 12 #[.agg #[.slice c.A c.n c.cap, .int .i64 c.ch, .int .i64 c.sb, .int .i64 c.cl, .int .i64 c.qu, .int .i64 c.close, .int .i64 c.long, .int .i64 c.ag, .int .i64 c.wi, .int .u64 c.r, .int .u64 c.sq], .int .i64 d] w fun e w' => e = .returned (.bool b) ∧ Below w.heap.size w w' := by
  subst h; exact long_any c d w
theorem fine_at {A : Option Addr} {xs : List Int} {n cap : Nat} (hn : xs.length = n) {d : Int} {b : Bool} (hb : fineB xs d = b) (w : World) {S : Nat → Prop} (h : Sl (Rint .i64) w S A xs) (hm : n ≤ 9223372036854775807) :
    Calls Try.prog 11 #[.slice A n cap, .int .i64 d] w fun e w' => e = .returned (.bool b) ∧ w = w' := by
  subst hb; exact fine_any A xs n cap hn d w h hm
theorem failed_at {c : Cf} {x : Wd} {ch st : List Int} {dl : List Bool} {ft : List Int} {w : World} (ok : WdOk w w.heap.size x ch st dl ft) {D L : Nat} (hD : deadN dl (chainOf c ch) = D) (hL : liveN dl st = L) :
    Calls Try.prog 14 #[.agg #[.slice c.A c.n c.cap, .int .i64 c.ch, .int .i64 c.sb, .int .i64 c.cl, .int .i64 c.qu, .int .i64 c.close, .int .i64 c.long, .int .i64 c.ag, .int .i64 c.wi, .int .u64 c.r, .int .u64 c.sq], .agg #[.int .i64 x.now, .slice x.listA x.listN x.listC, .slice x.fatesA x.fatesN x.fatesC, .int .i64 x.node, .int .u64 x.epoch, .int .u64 x.round, .slice x.chainA x.chainN x.chainC, .slice x.peersA x.peersN x.peersC, .slice x.standA x.standN x.standC, .int .i64 x.start, .bool x.closed, .slice x.onA x.onN x.onC, .slice x.backA x.backN x.backC, .bool x.noch, .bool x.chalt, .slice x.serversA x.serversN x.serversC, .slice x.deadA x.deadN x.deadC, .slice x.clientsA x.clientsN x.clientsC, .slice x.drawsA x.drawsN x.drawsC, .slice x.lastA x.lastN x.lastC, .slice x.boxesA x.boxesN x.boxesC, .slice x.logA x.logN x.logC, .bool x.halted]] w fun e w' => e = .returned (.tuple #[.int .i64 (D : Nat), .int .i64 (L : Nat)]) ∧ Below w.heap.size w w' := by
  subst hD; subst hL; exact failed_any c x ch st dl ft w ok

theorem failed_at' (b : Bool) {c : Cf} {x : Wd} {ch st : List Int} {dl : List Bool} {ft : List Int} {w : World} (ok : WdOk w w.heap.size x ch st dl ft) {D L : Nat} (hD : deadN dl (chainOf c ch) = D) (hL : liveN dl st = L) :
    Calls Try.prog 14 #[.agg #[.slice c.A c.n c.cap, .int .i64 c.ch, .int .i64 c.sb, .int .i64 c.cl, .int .i64 c.qu, .int .i64 c.close, .int .i64 c.long, .int .i64 c.ag, .int .i64 c.wi, .int .u64 c.r, .int .u64 c.sq], .agg #[.int .i64 x.now, .slice x.listA x.listN x.listC, .slice x.fatesA x.fatesN x.fatesC, .int .i64 x.node, .int .u64 x.epoch, .int .u64 x.round, .slice x.chainA x.chainN x.chainC, .slice x.peersA x.peersN x.peersC, .slice x.standA x.standN x.standC, .int .i64 x.start, .bool x.closed, .slice x.onA x.onN x.onC, .slice x.backA x.backN x.backC, .bool x.noch, .bool x.chalt, .slice x.serversA x.serversN x.serversC, .slice x.deadA x.deadN x.deadC, .slice x.clientsA x.clientsN x.clientsC, .slice x.drawsA x.drawsN x.drawsC, .slice x.lastA x.lastN x.lastC, .slice x.boxesA x.boxesN x.boxesC, .slice x.logA x.logN x.logC, .bool b]] w fun e w' => e = .returned (.tuple #[.int .i64 (D : Nat), .int .i64 (L : Nat)]) ∧ Below w.heap.size w w' :=
  failed_at (x := { x with halted := b }) ⟨ok.chain, ok.chainN, ok.chainM, ok.stand, ok.standN, ok.standM, ok.dead, ok.deadN, ok.deadM, ok.fates, ok.fatesN, ok.fatesM⟩ hD hL

theorem size_cfg : (Try.prog.info? 25).map (·.size) = some 11 := by kernel_rfl
theorem size_wd : (Try.prog.info? 56).map (·.size) = some 23 := by kernel_rfl
set_option maxHeartbeats 1000000 in
set_option maxRecDepth 100000 in
theorem sure_L0 {c : Cf} {x : Wd} {ch st : List Int} {dl : List Bool} {ft : List Int} {d : Int} {w : World} {H F : Bool} {D V : Nat} (OK : Hid (WdOk w w.heap.size x ch st dl ft)) (HL : Hid (longB c d = false)) (HF : Hid (fineB ft d = F))  (HH : Hid (x.halted = H))
    (HD : Hid (deadN dl (chainOf c ch) = D)) (HLv : Hid (liveN dl st = V)) (HS : Hid (sureB c x ch st dl ft d = false)) :
    Calls Try.prog 13 #[.agg #[.slice c.A c.n c.cap, .int .i64 c.ch, .int .i64 c.sb, .int .i64 c.cl, .int .i64 c.qu, .int .i64 c.close, .int .i64 c.long, .int .i64 c.ag, .int .i64 c.wi, .int .u64 c.r, .int .u64 c.sq], .agg #[.int .i64 x.now, .slice x.listA x.listN x.listC, .slice x.fatesA x.fatesN x.fatesC, .int .i64 x.node, .int .u64 x.epoch, .int .u64 x.round, .slice x.chainA x.chainN x.chainC, .slice x.peersA x.peersN x.peersC, .slice x.standA x.standN x.standC, .int .i64 x.start, .bool x.closed, .slice x.onA x.onN x.onC, .slice x.backA x.backN x.backC, .bool x.noch, .bool x.chalt, .slice x.serversA x.serversN x.serversC, .slice x.deadA x.deadN x.deadC, .slice x.clientsA x.clientsN x.clientsC, .slice x.drawsA x.drawsN x.drawsC, .slice x.lastA x.lastN x.lastC, .slice x.boxesA x.boxesN x.boxesC, .slice x.logA x.logN x.logC, .bool x.halted], .int .i64 d] w fun e w' => e = .returned (.bool (sureB c x ch st dl ft d)) ∧ Below w.heap.size w w' := by
  go_enter Try.func13, Try.ntmps13
  go_wp2_with (first
    | (with_reducible refine wpList_load_blk (by with_unfolding_all rfl) 56 (.tmp 4) rfl _ (by with_unfolding_all rfl) gW Try.underlying56 (by with_unfolding_all rfl) size_wd (by with_unfolding_all rfl) ?_)
    | (with_reducible refine wpList_load_blk (by with_unfolding_all rfl) 25 (.tmp 3) rfl _ (by with_unfolding_all rfl) gC Try.underlying25 (by with_unfolding_all rfl) size_cfg (by with_unfolding_all rfl) ?_)
    | (go_at_call 12; refine (long_at HL.out _).mono ?_; rintro e w1 ⟨rfl, hb1⟩
       have gC := ((Blk.new w 25 #[.slice c.A c.n c.cap, .int .i64 c.ch, .int .i64 c.sb, .int .i64 c.cl, .int .i64 c.qu, .int .i64 c.close, .int .i64 c.long, .int .i64 c.ag, .int .i64 c.wi, .int .u64 c.r, .int .u64 c.sq] rfl).alloc (.cells #[.int .i64 x.now, .slice x.listA x.listN x.listC, .slice x.fatesA x.fatesN x.fatesC, .int .i64 x.node, .int .u64 x.epoch, .int .u64 x.round, .slice x.chainA x.chainN x.chainC, .slice x.peersA x.peersN x.peersC, .slice x.standA x.standN x.standC, .int .i64 x.start, .bool x.closed, .slice x.onA x.onN x.onC, .slice x.backA x.backN x.backC, .bool x.noch, .bool x.chalt, .slice x.serversA x.serversN x.serversC, .slice x.deadA x.deadN x.deadC, .slice x.clientsA x.clientsN x.clientsC, .slice x.drawsA x.drawsN x.drawsC, .slice x.lastA x.lastN x.lastC, .slice x.boxesA x.boxesN x.boxesC, .slice x.logA x.logN x.logC, .bool x.halted] 56)).below hb1 (by simp; omega)
       have gW := (Blk.new (w.alloc (.cells #[.slice c.A c.n c.cap, .int .i64 c.ch, .int .i64 c.sb, .int .i64 c.cl, .int .i64 c.qu, .int .i64 c.close, .int .i64 c.long, .int .i64 c.ag, .int .i64 c.wi, .int .u64 c.r, .int .u64 c.sq] 25)) 56 #[.int .i64 x.now, .slice x.listA x.listN x.listC, .slice x.fatesA x.fatesN x.fatesC, .int .i64 x.node, .int .u64 x.epoch, .int .u64 x.round, .slice x.chainA x.chainN x.chainC, .slice x.peersA x.peersN x.peersC, .slice x.standA x.standN x.standC, .int .i64 x.start, .bool x.closed, .slice x.onA x.onN x.onC, .slice x.backA x.backN x.backC, .bool x.noch, .bool x.chalt, .slice x.serversA x.serversN x.serversC, .slice x.deadA x.deadN x.deadC, .slice x.clientsA x.clientsN x.clientsC, .slice x.drawsA x.drawsN x.drawsC, .slice x.lastA x.lastN x.lastC, .slice x.boxesA x.boxesN x.boxesC, .slice x.logA x.logN x.logC, .bool x.halted] rfl).below hb1 (by simp)
       simp only [World.size_alloc] at gW
       have hb : Below w.heap.size w w1 := (((Below.refl _ _).alloc (Nat.le_refl _) _).alloc (by simp) _).trans (hb1.mono (by simp; omega))
       have y2 := gW.cell 2 rfl; have y5 := gW.cell 5 rfl; have y8 := gW.cell 8 rfl; have y22 := gW.cell 22 rfl
       rw [HH.out] at y22
       clear hb1)
    | (go_at_call 11; refine (fine_at OK.out.fatesN HF.out _ (OK.out.fates.below hb (Nat.le_refl _)) OK.out.fatesM).mono ?_; rintro e w' ⟨rfl, rfl⟩)
    | (go_at_call 14; refine (failed_at (OK.out.below hb hb.size) HD.out HLv.out).mono ?_; rintro e w2 ⟨rfl, hb2⟩
       have y8' := (hb2.cell (World.block_lt_of_cell? _ _ y8)).trans y8
       have hb' := hb.trans (hb2.mono hb.size); clear hb2))
  go_ret
  refine ⟨ret_bool HS.out.symm, ?_⟩
  first | exact hb' | exact hb

set_option maxHeartbeats 1000000 in
set_option maxRecDepth 100000 in
theorem sure_F0 {c : Cf} {x : Wd} {ch st : List Int} {dl : List Bool} {ft : List Int} {d : Int} {w : World} {H F : Bool} {D V : Nat} (OK : Hid (WdOk w w.heap.size x ch st dl ft)) (HL : Hid (longB c d = true)) (HF : Hid (fineB ft d = false))  (HH : Hid (x.halted = H))
    (HD : Hid (deadN dl (chainOf c ch) = D)) (HLv : Hid (liveN dl st = V)) (HS : Hid (sureB c x ch st dl ft d = false)) :
    Calls Try.prog 13 #[.agg #[.slice c.A c.n c.cap, .int .i64 c.ch, .int .i64 c.sb, .int .i64 c.cl, .int .i64 c.qu, .int .i64 c.close, .int .i64 c.long, .int .i64 c.ag, .int .i64 c.wi, .int .u64 c.r, .int .u64 c.sq], .agg #[.int .i64 x.now, .slice x.listA x.listN x.listC, .slice x.fatesA x.fatesN x.fatesC, .int .i64 x.node, .int .u64 x.epoch, .int .u64 x.round, .slice x.chainA x.chainN x.chainC, .slice x.peersA x.peersN x.peersC, .slice x.standA x.standN x.standC, .int .i64 x.start, .bool x.closed, .slice x.onA x.onN x.onC, .slice x.backA x.backN x.backC, .bool x.noch, .bool x.chalt, .slice x.serversA x.serversN x.serversC, .slice x.deadA x.deadN x.deadC, .slice x.clientsA x.clientsN x.clientsC, .slice x.drawsA x.drawsN x.drawsC, .slice x.lastA x.lastN x.lastC, .slice x.boxesA x.boxesN x.boxesC, .slice x.logA x.logN x.logC, .bool x.halted], .int .i64 d] w fun e w' => e = .returned (.bool (sureB c x ch st dl ft d)) ∧ Below w.heap.size w w' := by
  go_enter Try.func13, Try.ntmps13
  go_wp2_with (first
    | (with_reducible refine wpList_load_blk (by with_unfolding_all rfl) 56 (.tmp 4) rfl _ (by with_unfolding_all rfl) gW Try.underlying56 (by with_unfolding_all rfl) size_wd (by with_unfolding_all rfl) ?_)
    | (with_reducible refine wpList_load_blk (by with_unfolding_all rfl) 25 (.tmp 3) rfl _ (by with_unfolding_all rfl) gC Try.underlying25 (by with_unfolding_all rfl) size_cfg (by with_unfolding_all rfl) ?_)
    | (go_at_call 12; refine (long_at HL.out _).mono ?_; rintro e w1 ⟨rfl, hb1⟩
       have gC := ((Blk.new w 25 #[.slice c.A c.n c.cap, .int .i64 c.ch, .int .i64 c.sb, .int .i64 c.cl, .int .i64 c.qu, .int .i64 c.close, .int .i64 c.long, .int .i64 c.ag, .int .i64 c.wi, .int .u64 c.r, .int .u64 c.sq] rfl).alloc (.cells #[.int .i64 x.now, .slice x.listA x.listN x.listC, .slice x.fatesA x.fatesN x.fatesC, .int .i64 x.node, .int .u64 x.epoch, .int .u64 x.round, .slice x.chainA x.chainN x.chainC, .slice x.peersA x.peersN x.peersC, .slice x.standA x.standN x.standC, .int .i64 x.start, .bool x.closed, .slice x.onA x.onN x.onC, .slice x.backA x.backN x.backC, .bool x.noch, .bool x.chalt, .slice x.serversA x.serversN x.serversC, .slice x.deadA x.deadN x.deadC, .slice x.clientsA x.clientsN x.clientsC, .slice x.drawsA x.drawsN x.drawsC, .slice x.lastA x.lastN x.lastC, .slice x.boxesA x.boxesN x.boxesC, .slice x.logA x.logN x.logC, .bool x.halted] 56)).below hb1 (by simp; omega)
       have gW := (Blk.new (w.alloc (.cells #[.slice c.A c.n c.cap, .int .i64 c.ch, .int .i64 c.sb, .int .i64 c.cl, .int .i64 c.qu, .int .i64 c.close, .int .i64 c.long, .int .i64 c.ag, .int .i64 c.wi, .int .u64 c.r, .int .u64 c.sq] 25)) 56 #[.int .i64 x.now, .slice x.listA x.listN x.listC, .slice x.fatesA x.fatesN x.fatesC, .int .i64 x.node, .int .u64 x.epoch, .int .u64 x.round, .slice x.chainA x.chainN x.chainC, .slice x.peersA x.peersN x.peersC, .slice x.standA x.standN x.standC, .int .i64 x.start, .bool x.closed, .slice x.onA x.onN x.onC, .slice x.backA x.backN x.backC, .bool x.noch, .bool x.chalt, .slice x.serversA x.serversN x.serversC, .slice x.deadA x.deadN x.deadC, .slice x.clientsA x.clientsN x.clientsC, .slice x.drawsA x.drawsN x.drawsC, .slice x.lastA x.lastN x.lastC, .slice x.boxesA x.boxesN x.boxesC, .slice x.logA x.logN x.logC, .bool x.halted] rfl).below hb1 (by simp)
       simp only [World.size_alloc] at gW
       have hb : Below w.heap.size w w1 := (((Below.refl _ _).alloc (Nat.le_refl _) _).alloc (by simp) _).trans (hb1.mono (by simp; omega))
       have y2 := gW.cell 2 rfl; have y5 := gW.cell 5 rfl; have y8 := gW.cell 8 rfl; have y22 := gW.cell 22 rfl
       rw [HH.out] at y22
       clear hb1)
    | (go_at_call 11; refine (fine_at OK.out.fatesN HF.out _ (OK.out.fates.below hb (Nat.le_refl _)) OK.out.fatesM).mono ?_; rintro e w' ⟨rfl, rfl⟩)
    | (go_at_call 14; refine (failed_at (OK.out.below hb hb.size) HD.out HLv.out).mono ?_; rintro e w2 ⟨rfl, hb2⟩
       have y8' := (hb2.cell (World.block_lt_of_cell? _ _ y8)).trans y8
       have hb' := hb.trans (hb2.mono hb.size); clear hb2))
  go_ret
  refine ⟨ret_bool HS.out.symm, ?_⟩
  first | exact hb' | exact hb

set_option maxHeartbeats 1000000 in
set_option maxRecDepth 100000 in
theorem sure_H1 {c : Cf} {x : Wd} {ch st : List Int} {dl : List Bool} {ft : List Int} {d : Int} {w : World} {H F : Bool} {D V : Nat} (OK : Hid (WdOk w w.heap.size x ch st dl ft)) (HL : Hid (longB c d = true)) (HF : Hid (fineB ft d = true)) (HH : Hid (x.halted = true))
    (HD : Hid (deadN dl (chainOf c ch) = D)) (HLv : Hid (liveN dl st = V)) (HS : Hid (sureB c x ch st dl ft d = false)) :
    Calls Try.prog 13 #[.agg #[.slice c.A c.n c.cap, .int .i64 c.ch, .int .i64 c.sb, .int .i64 c.cl, .int .i64 c.qu, .int .i64 c.close, .int .i64 c.long, .int .i64 c.ag, .int .i64 c.wi, .int .u64 c.r, .int .u64 c.sq], .agg #[.int .i64 x.now, .slice x.listA x.listN x.listC, .slice x.fatesA x.fatesN x.fatesC, .int .i64 x.node, .int .u64 x.epoch, .int .u64 x.round, .slice x.chainA x.chainN x.chainC, .slice x.peersA x.peersN x.peersC, .slice x.standA x.standN x.standC, .int .i64 x.start, .bool x.closed, .slice x.onA x.onN x.onC, .slice x.backA x.backN x.backC, .bool x.noch, .bool x.chalt, .slice x.serversA x.serversN x.serversC, .slice x.deadA x.deadN x.deadC, .slice x.clientsA x.clientsN x.clientsC, .slice x.drawsA x.drawsN x.drawsC, .slice x.lastA x.lastN x.lastC, .slice x.boxesA x.boxesN x.boxesC, .slice x.logA x.logN x.logC, .bool x.halted], .int .i64 d] w fun e w' => e = .returned (.bool (sureB c x ch st dl ft d)) ∧ Below w.heap.size w w' := by
  go_enter Try.func13, Try.ntmps13
  go_wp2_with (first
    | (with_reducible refine wpList_load_blk (by with_unfolding_all rfl) 56 (.tmp 4) rfl _ (by with_unfolding_all rfl) gW Try.underlying56 (by with_unfolding_all rfl) size_wd (by with_unfolding_all rfl) ?_)
    | (with_reducible refine wpList_load_blk (by with_unfolding_all rfl) 25 (.tmp 3) rfl _ (by with_unfolding_all rfl) gC Try.underlying25 (by with_unfolding_all rfl) size_cfg (by with_unfolding_all rfl) ?_)
    | (go_at_call 12; refine (long_at HL.out _).mono ?_; rintro e w1 ⟨rfl, hb1⟩
       have gC := ((Blk.new w 25 #[.slice c.A c.n c.cap, .int .i64 c.ch, .int .i64 c.sb, .int .i64 c.cl, .int .i64 c.qu, .int .i64 c.close, .int .i64 c.long, .int .i64 c.ag, .int .i64 c.wi, .int .u64 c.r, .int .u64 c.sq] rfl).alloc (.cells #[.int .i64 x.now, .slice x.listA x.listN x.listC, .slice x.fatesA x.fatesN x.fatesC, .int .i64 x.node, .int .u64 x.epoch, .int .u64 x.round, .slice x.chainA x.chainN x.chainC, .slice x.peersA x.peersN x.peersC, .slice x.standA x.standN x.standC, .int .i64 x.start, .bool x.closed, .slice x.onA x.onN x.onC, .slice x.backA x.backN x.backC, .bool x.noch, .bool x.chalt, .slice x.serversA x.serversN x.serversC, .slice x.deadA x.deadN x.deadC, .slice x.clientsA x.clientsN x.clientsC, .slice x.drawsA x.drawsN x.drawsC, .slice x.lastA x.lastN x.lastC, .slice x.boxesA x.boxesN x.boxesC, .slice x.logA x.logN x.logC, .bool x.halted] 56)).below hb1 (by simp; omega)
       have gW := (Blk.new (w.alloc (.cells #[.slice c.A c.n c.cap, .int .i64 c.ch, .int .i64 c.sb, .int .i64 c.cl, .int .i64 c.qu, .int .i64 c.close, .int .i64 c.long, .int .i64 c.ag, .int .i64 c.wi, .int .u64 c.r, .int .u64 c.sq] 25)) 56 #[.int .i64 x.now, .slice x.listA x.listN x.listC, .slice x.fatesA x.fatesN x.fatesC, .int .i64 x.node, .int .u64 x.epoch, .int .u64 x.round, .slice x.chainA x.chainN x.chainC, .slice x.peersA x.peersN x.peersC, .slice x.standA x.standN x.standC, .int .i64 x.start, .bool x.closed, .slice x.onA x.onN x.onC, .slice x.backA x.backN x.backC, .bool x.noch, .bool x.chalt, .slice x.serversA x.serversN x.serversC, .slice x.deadA x.deadN x.deadC, .slice x.clientsA x.clientsN x.clientsC, .slice x.drawsA x.drawsN x.drawsC, .slice x.lastA x.lastN x.lastC, .slice x.boxesA x.boxesN x.boxesC, .slice x.logA x.logN x.logC, .bool x.halted] rfl).below hb1 (by simp)
       simp only [World.size_alloc] at gW
       have hb : Below w.heap.size w w1 := (((Below.refl _ _).alloc (Nat.le_refl _) _).alloc (by simp) _).trans (hb1.mono (by simp; omega))
       have y2 := gW.cell 2 rfl; have y5 := gW.cell 5 rfl; have y8 := gW.cell 8 rfl; have y22 := gW.cell 22 rfl
       rw [HH.out] at y22
       clear hb1)
    | (go_at_call 11; refine (fine_at OK.out.fatesN HF.out _ (OK.out.fates.below hb (Nat.le_refl _)) OK.out.fatesM).mono ?_; rintro e w' ⟨rfl, rfl⟩)
    | (go_at_call 14; refine (failed_at (OK.out.below hb hb.size) HD.out HLv.out).mono ?_; rintro e w2 ⟨rfl, hb2⟩
       have y8' := (hb2.cell (World.block_lt_of_cell? _ _ y8)).trans y8
       have hb' := hb.trans (hb2.mono hb.size); clear hb2))
  go_ret
  refine ⟨ret_bool HS.out.symm, ?_⟩
  first | exact hb' | exact hb

set_option maxHeartbeats 1000000 in
set_option maxRecDepth 100000 in
theorem sure_R0 {c : Cf} {x : Wd} {ch st : List Int} {dl : List Bool} {ft : List Int} {d : Int} {w : World} {H F : Bool} {D V : Nat} (OK : Hid (WdOk w w.heap.size x ch st dl ft)) (HL : Hid (longB c d = true)) (HF : Hid (fineB ft d = true)) (HH : Hid (x.halted = false))
    (HD : Hid (deadN dl (chainOf c ch) = D)) (HLv : Hid (liveN dl st = V)) (d1 : decide ((18446744073709550615 : Int) < x.round) = true) (HS : Hid (sureB c x ch st dl ft d = false)) :
    Calls Try.prog 13 #[.agg #[.slice c.A c.n c.cap, .int .i64 c.ch, .int .i64 c.sb, .int .i64 c.cl, .int .i64 c.qu, .int .i64 c.close, .int .i64 c.long, .int .i64 c.ag, .int .i64 c.wi, .int .u64 c.r, .int .u64 c.sq], .agg #[.int .i64 x.now, .slice x.listA x.listN x.listC, .slice x.fatesA x.fatesN x.fatesC, .int .i64 x.node, .int .u64 x.epoch, .int .u64 x.round, .slice x.chainA x.chainN x.chainC, .slice x.peersA x.peersN x.peersC, .slice x.standA x.standN x.standC, .int .i64 x.start, .bool x.closed, .slice x.onA x.onN x.onC, .slice x.backA x.backN x.backC, .bool x.noch, .bool x.chalt, .slice x.serversA x.serversN x.serversC, .slice x.deadA x.deadN x.deadC, .slice x.clientsA x.clientsN x.clientsC, .slice x.drawsA x.drawsN x.drawsC, .slice x.lastA x.lastN x.lastC, .slice x.boxesA x.boxesN x.boxesC, .slice x.logA x.logN x.logC, .bool x.halted], .int .i64 d] w fun e w' => e = .returned (.bool (sureB c x ch st dl ft d)) ∧ Below w.heap.size w w' := by
  go_enter Try.func13, Try.ntmps13
  go_wp2_with (first
    | (with_reducible refine wpList_load_blk (by with_unfolding_all rfl) 56 (.tmp 4) rfl _ (by with_unfolding_all rfl) gW Try.underlying56 (by with_unfolding_all rfl) size_wd (by with_unfolding_all rfl) ?_)
    | (with_reducible refine wpList_load_blk (by with_unfolding_all rfl) 25 (.tmp 3) rfl _ (by with_unfolding_all rfl) gC Try.underlying25 (by with_unfolding_all rfl) size_cfg (by with_unfolding_all rfl) ?_)
    | (go_at_call 12; refine (long_at HL.out _).mono ?_; rintro e w1 ⟨rfl, hb1⟩
       have gC := ((Blk.new w 25 #[.slice c.A c.n c.cap, .int .i64 c.ch, .int .i64 c.sb, .int .i64 c.cl, .int .i64 c.qu, .int .i64 c.close, .int .i64 c.long, .int .i64 c.ag, .int .i64 c.wi, .int .u64 c.r, .int .u64 c.sq] rfl).alloc (.cells #[.int .i64 x.now, .slice x.listA x.listN x.listC, .slice x.fatesA x.fatesN x.fatesC, .int .i64 x.node, .int .u64 x.epoch, .int .u64 x.round, .slice x.chainA x.chainN x.chainC, .slice x.peersA x.peersN x.peersC, .slice x.standA x.standN x.standC, .int .i64 x.start, .bool x.closed, .slice x.onA x.onN x.onC, .slice x.backA x.backN x.backC, .bool x.noch, .bool x.chalt, .slice x.serversA x.serversN x.serversC, .slice x.deadA x.deadN x.deadC, .slice x.clientsA x.clientsN x.clientsC, .slice x.drawsA x.drawsN x.drawsC, .slice x.lastA x.lastN x.lastC, .slice x.boxesA x.boxesN x.boxesC, .slice x.logA x.logN x.logC, .bool x.halted] 56)).below hb1 (by simp; omega)
       have gW := (Blk.new (w.alloc (.cells #[.slice c.A c.n c.cap, .int .i64 c.ch, .int .i64 c.sb, .int .i64 c.cl, .int .i64 c.qu, .int .i64 c.close, .int .i64 c.long, .int .i64 c.ag, .int .i64 c.wi, .int .u64 c.r, .int .u64 c.sq] 25)) 56 #[.int .i64 x.now, .slice x.listA x.listN x.listC, .slice x.fatesA x.fatesN x.fatesC, .int .i64 x.node, .int .u64 x.epoch, .int .u64 x.round, .slice x.chainA x.chainN x.chainC, .slice x.peersA x.peersN x.peersC, .slice x.standA x.standN x.standC, .int .i64 x.start, .bool x.closed, .slice x.onA x.onN x.onC, .slice x.backA x.backN x.backC, .bool x.noch, .bool x.chalt, .slice x.serversA x.serversN x.serversC, .slice x.deadA x.deadN x.deadC, .slice x.clientsA x.clientsN x.clientsC, .slice x.drawsA x.drawsN x.drawsC, .slice x.lastA x.lastN x.lastC, .slice x.boxesA x.boxesN x.boxesC, .slice x.logA x.logN x.logC, .bool x.halted] rfl).below hb1 (by simp)
       simp only [World.size_alloc] at gW
       have hb : Below w.heap.size w w1 := (((Below.refl _ _).alloc (Nat.le_refl _) _).alloc (by simp) _).trans (hb1.mono (by simp; omega))
       have y2 := gW.cell 2 rfl; have y5 := gW.cell 5 rfl; have y8 := gW.cell 8 rfl; have y22 := gW.cell 22 rfl
       rw [HH.out] at y22
       clear hb1)
    | (go_at_call 11; refine (fine_at OK.out.fatesN HF.out _ (OK.out.fates.below hb (Nat.le_refl _)) OK.out.fatesM).mono ?_; rintro e w' ⟨rfl, rfl⟩)
    | (go_at_call 14; refine (failed_at (OK.out.below hb hb.size) HD.out HLv.out).mono ?_; rintro e w2 ⟨rfl, hb2⟩
       have y8' := (hb2.cell (World.block_lt_of_cell? _ _ y8)).trans y8
       have hb' := hb.trans (hb2.mono hb.size); clear hb2))
  go_ret
  refine ⟨ret_bool HS.out.symm, ?_⟩
  first | exact hb' | exact hb

set_option maxHeartbeats 1000000 in
set_option maxRecDepth 100000 in
theorem sure_a {c : Cf} {x : Wd} {ch st : List Int} {dl : List Bool} {ft : List Int} {d : Int} {w : World} {H F : Bool} {D V : Nat} (OK : Hid (WdOk w w.heap.size x ch st dl ft)) (HL : Hid (longB c d = true)) (HF : Hid (fineB ft d = true)) (HH : Hid (x.halted = false))
    (HD : Hid (deadN dl (chainOf c ch) = D)) (HLv : Hid (liveN dl st = V)) (d1 : decide ((18446744073709550615 : Int) < x.round) = false) (d2 : decide (D < V) = true) (HS : Hid (sureB c x ch st dl ft d = true)) :
    Calls Try.prog 13 #[.agg #[.slice c.A c.n c.cap, .int .i64 c.ch, .int .i64 c.sb, .int .i64 c.cl, .int .i64 c.qu, .int .i64 c.close, .int .i64 c.long, .int .i64 c.ag, .int .i64 c.wi, .int .u64 c.r, .int .u64 c.sq], .agg #[.int .i64 x.now, .slice x.listA x.listN x.listC, .slice x.fatesA x.fatesN x.fatesC, .int .i64 x.node, .int .u64 x.epoch, .int .u64 x.round, .slice x.chainA x.chainN x.chainC, .slice x.peersA x.peersN x.peersC, .slice x.standA x.standN x.standC, .int .i64 x.start, .bool x.closed, .slice x.onA x.onN x.onC, .slice x.backA x.backN x.backC, .bool x.noch, .bool x.chalt, .slice x.serversA x.serversN x.serversC, .slice x.deadA x.deadN x.deadC, .slice x.clientsA x.clientsN x.clientsC, .slice x.drawsA x.drawsN x.drawsC, .slice x.lastA x.lastN x.lastC, .slice x.boxesA x.boxesN x.boxesC, .slice x.logA x.logN x.logC, .bool x.halted], .int .i64 d] w fun e w' => e = .returned (.bool (sureB c x ch st dl ft d)) ∧ Below w.heap.size w w' := by
  go_enter Try.func13, Try.ntmps13
  go_wp2_with (first
    | (with_reducible refine wpList_load_blk (by with_unfolding_all rfl) 56 (.tmp 4) rfl _ (by with_unfolding_all rfl) gW Try.underlying56 (by with_unfolding_all rfl) size_wd (by with_unfolding_all rfl) ?_)
    | (with_reducible refine wpList_load_blk (by with_unfolding_all rfl) 25 (.tmp 3) rfl _ (by with_unfolding_all rfl) gC Try.underlying25 (by with_unfolding_all rfl) size_cfg (by with_unfolding_all rfl) ?_)
    | (go_at_call 12; refine (long_at HL.out _).mono ?_; rintro e w1 ⟨rfl, hb1⟩
       have gC := ((Blk.new w 25 #[.slice c.A c.n c.cap, .int .i64 c.ch, .int .i64 c.sb, .int .i64 c.cl, .int .i64 c.qu, .int .i64 c.close, .int .i64 c.long, .int .i64 c.ag, .int .i64 c.wi, .int .u64 c.r, .int .u64 c.sq] rfl).alloc (.cells #[.int .i64 x.now, .slice x.listA x.listN x.listC, .slice x.fatesA x.fatesN x.fatesC, .int .i64 x.node, .int .u64 x.epoch, .int .u64 x.round, .slice x.chainA x.chainN x.chainC, .slice x.peersA x.peersN x.peersC, .slice x.standA x.standN x.standC, .int .i64 x.start, .bool x.closed, .slice x.onA x.onN x.onC, .slice x.backA x.backN x.backC, .bool x.noch, .bool x.chalt, .slice x.serversA x.serversN x.serversC, .slice x.deadA x.deadN x.deadC, .slice x.clientsA x.clientsN x.clientsC, .slice x.drawsA x.drawsN x.drawsC, .slice x.lastA x.lastN x.lastC, .slice x.boxesA x.boxesN x.boxesC, .slice x.logA x.logN x.logC, .bool x.halted] 56)).below hb1 (by simp; omega)
       have gW := (Blk.new (w.alloc (.cells #[.slice c.A c.n c.cap, .int .i64 c.ch, .int .i64 c.sb, .int .i64 c.cl, .int .i64 c.qu, .int .i64 c.close, .int .i64 c.long, .int .i64 c.ag, .int .i64 c.wi, .int .u64 c.r, .int .u64 c.sq] 25)) 56 #[.int .i64 x.now, .slice x.listA x.listN x.listC, .slice x.fatesA x.fatesN x.fatesC, .int .i64 x.node, .int .u64 x.epoch, .int .u64 x.round, .slice x.chainA x.chainN x.chainC, .slice x.peersA x.peersN x.peersC, .slice x.standA x.standN x.standC, .int .i64 x.start, .bool x.closed, .slice x.onA x.onN x.onC, .slice x.backA x.backN x.backC, .bool x.noch, .bool x.chalt, .slice x.serversA x.serversN x.serversC, .slice x.deadA x.deadN x.deadC, .slice x.clientsA x.clientsN x.clientsC, .slice x.drawsA x.drawsN x.drawsC, .slice x.lastA x.lastN x.lastC, .slice x.boxesA x.boxesN x.boxesC, .slice x.logA x.logN x.logC, .bool x.halted] rfl).below hb1 (by simp)
       simp only [World.size_alloc] at gW
       have hb : Below w.heap.size w w1 := (((Below.refl _ _).alloc (Nat.le_refl _) _).alloc (by simp) _).trans (hb1.mono (by simp; omega))
       have y2 := gW.cell 2 rfl; have y5 := gW.cell 5 rfl; have y8 := gW.cell 8 rfl; have y22 := gW.cell 22 rfl
       rw [HH.out] at y22
       clear hb1)
    | (go_at_call 11; refine (fine_at OK.out.fatesN HF.out _ (OK.out.fates.below hb (Nat.le_refl _)) OK.out.fatesM).mono ?_; rintro e w' ⟨rfl, rfl⟩)
    | (go_at_call 14; refine (failed_at (OK.out.below hb hb.size) HD.out HLv.out).mono ?_; rintro e w2 ⟨rfl, hb2⟩
       have y8' := (hb2.cell (World.block_lt_of_cell? _ _ y8)).trans y8
       have hb' := hb.trans (hb2.mono hb.size); clear hb2))
  go_ret
  refine ⟨ret_bool HS.out.symm, ?_⟩
  first | exact hb' | exact hb

set_option maxHeartbeats 1000000 in
set_option maxRecDepth 100000 in
theorem sure_b {c : Cf} {x : Wd} {ch st : List Int} {dl : List Bool} {ft : List Int} {d : Int} {w : World} {H F : Bool} {D V : Nat} (OK : Hid (WdOk w w.heap.size x ch st dl ft)) (HL : Hid (longB c d = true)) (HF : Hid (fineB ft d = true)) (HH : Hid (x.halted = false))
    (HD : Hid (deadN dl (chainOf c ch) = D)) (HLv : Hid (liveN dl st = V)) (d1 : decide ((18446744073709550615 : Int) < x.round) = false) (d2 : decide (D < V) = false) (d3 : ((D : Int) == 0) = true) (d4 : ((x.standN : Int) == 0) = true) (HS : Hid (sureB c x ch st dl ft d = true)) :
    Calls Try.prog 13 #[.agg #[.slice c.A c.n c.cap, .int .i64 c.ch, .int .i64 c.sb, .int .i64 c.cl, .int .i64 c.qu, .int .i64 c.close, .int .i64 c.long, .int .i64 c.ag, .int .i64 c.wi, .int .u64 c.r, .int .u64 c.sq], .agg #[.int .i64 x.now, .slice x.listA x.listN x.listC, .slice x.fatesA x.fatesN x.fatesC, .int .i64 x.node, .int .u64 x.epoch, .int .u64 x.round, .slice x.chainA x.chainN x.chainC, .slice x.peersA x.peersN x.peersC, .slice x.standA x.standN x.standC, .int .i64 x.start, .bool x.closed, .slice x.onA x.onN x.onC, .slice x.backA x.backN x.backC, .bool x.noch, .bool x.chalt, .slice x.serversA x.serversN x.serversC, .slice x.deadA x.deadN x.deadC, .slice x.clientsA x.clientsN x.clientsC, .slice x.drawsA x.drawsN x.drawsC, .slice x.lastA x.lastN x.lastC, .slice x.boxesA x.boxesN x.boxesC, .slice x.logA x.logN x.logC, .bool x.halted], .int .i64 d] w fun e w' => e = .returned (.bool (sureB c x ch st dl ft d)) ∧ Below w.heap.size w w' := by
  go_enter Try.func13, Try.ntmps13
  go_wp2_with (first
    | (with_reducible refine wpList_load_blk (by with_unfolding_all rfl) 56 (.tmp 4) rfl _ (by with_unfolding_all rfl) gW Try.underlying56 (by with_unfolding_all rfl) size_wd (by with_unfolding_all rfl) ?_)
    | (with_reducible refine wpList_load_blk (by with_unfolding_all rfl) 25 (.tmp 3) rfl _ (by with_unfolding_all rfl) gC Try.underlying25 (by with_unfolding_all rfl) size_cfg (by with_unfolding_all rfl) ?_)
    | (go_at_call 12; refine (long_at HL.out _).mono ?_; rintro e w1 ⟨rfl, hb1⟩
       have gC := ((Blk.new w 25 #[.slice c.A c.n c.cap, .int .i64 c.ch, .int .i64 c.sb, .int .i64 c.cl, .int .i64 c.qu, .int .i64 c.close, .int .i64 c.long, .int .i64 c.ag, .int .i64 c.wi, .int .u64 c.r, .int .u64 c.sq] rfl).alloc (.cells #[.int .i64 x.now, .slice x.listA x.listN x.listC, .slice x.fatesA x.fatesN x.fatesC, .int .i64 x.node, .int .u64 x.epoch, .int .u64 x.round, .slice x.chainA x.chainN x.chainC, .slice x.peersA x.peersN x.peersC, .slice x.standA x.standN x.standC, .int .i64 x.start, .bool x.closed, .slice x.onA x.onN x.onC, .slice x.backA x.backN x.backC, .bool x.noch, .bool x.chalt, .slice x.serversA x.serversN x.serversC, .slice x.deadA x.deadN x.deadC, .slice x.clientsA x.clientsN x.clientsC, .slice x.drawsA x.drawsN x.drawsC, .slice x.lastA x.lastN x.lastC, .slice x.boxesA x.boxesN x.boxesC, .slice x.logA x.logN x.logC, .bool x.halted] 56)).below hb1 (by simp; omega)
       have gW := (Blk.new (w.alloc (.cells #[.slice c.A c.n c.cap, .int .i64 c.ch, .int .i64 c.sb, .int .i64 c.cl, .int .i64 c.qu, .int .i64 c.close, .int .i64 c.long, .int .i64 c.ag, .int .i64 c.wi, .int .u64 c.r, .int .u64 c.sq] 25)) 56 #[.int .i64 x.now, .slice x.listA x.listN x.listC, .slice x.fatesA x.fatesN x.fatesC, .int .i64 x.node, .int .u64 x.epoch, .int .u64 x.round, .slice x.chainA x.chainN x.chainC, .slice x.peersA x.peersN x.peersC, .slice x.standA x.standN x.standC, .int .i64 x.start, .bool x.closed, .slice x.onA x.onN x.onC, .slice x.backA x.backN x.backC, .bool x.noch, .bool x.chalt, .slice x.serversA x.serversN x.serversC, .slice x.deadA x.deadN x.deadC, .slice x.clientsA x.clientsN x.clientsC, .slice x.drawsA x.drawsN x.drawsC, .slice x.lastA x.lastN x.lastC, .slice x.boxesA x.boxesN x.boxesC, .slice x.logA x.logN x.logC, .bool x.halted] rfl).below hb1 (by simp)
       simp only [World.size_alloc] at gW
       have hb : Below w.heap.size w w1 := (((Below.refl _ _).alloc (Nat.le_refl _) _).alloc (by simp) _).trans (hb1.mono (by simp; omega))
       have y2 := gW.cell 2 rfl; have y5 := gW.cell 5 rfl; have y8 := gW.cell 8 rfl; have y22 := gW.cell 22 rfl
       rw [HH.out] at y22
       clear hb1)
    | (go_at_call 11; refine (fine_at OK.out.fatesN HF.out _ (OK.out.fates.below hb (Nat.le_refl _)) OK.out.fatesM).mono ?_; rintro e w' ⟨rfl, rfl⟩)
    | (go_at_call 14; refine (failed_at (OK.out.below hb hb.size) HD.out HLv.out).mono ?_; rintro e w2 ⟨rfl, hb2⟩
       have y8' := (hb2.cell (World.block_lt_of_cell? _ _ y8)).trans y8
       have hb' := hb.trans (hb2.mono hb.size); clear hb2))
  go_ret
  refine ⟨ret_bool HS.out.symm, ?_⟩
  first | exact hb' | exact hb

set_option maxHeartbeats 1000000 in
set_option maxRecDepth 100000 in
theorem sure_c {c : Cf} {x : Wd} {ch st : List Int} {dl : List Bool} {ft : List Int} {d : Int} {w : World} {H F : Bool} {D V : Nat} (OK : Hid (WdOk w w.heap.size x ch st dl ft)) (HL : Hid (longB c d = true)) (HF : Hid (fineB ft d = true)) (HH : Hid (x.halted = false))
    (HD : Hid (deadN dl (chainOf c ch) = D)) (HLv : Hid (liveN dl st = V)) (d1 : decide ((18446744073709550615 : Int) < x.round) = false) (d2 : decide (D < V) = false) (d3 : ((D : Int) == 0) = true) (d4 : ((x.standN : Int) == 0) = false) (HS : Hid (sureB c x ch st dl ft d = false)) :
    Calls Try.prog 13 #[.agg #[.slice c.A c.n c.cap, .int .i64 c.ch, .int .i64 c.sb, .int .i64 c.cl, .int .i64 c.qu, .int .i64 c.close, .int .i64 c.long, .int .i64 c.ag, .int .i64 c.wi, .int .u64 c.r, .int .u64 c.sq], .agg #[.int .i64 x.now, .slice x.listA x.listN x.listC, .slice x.fatesA x.fatesN x.fatesC, .int .i64 x.node, .int .u64 x.epoch, .int .u64 x.round, .slice x.chainA x.chainN x.chainC, .slice x.peersA x.peersN x.peersC, .slice x.standA x.standN x.standC, .int .i64 x.start, .bool x.closed, .slice x.onA x.onN x.onC, .slice x.backA x.backN x.backC, .bool x.noch, .bool x.chalt, .slice x.serversA x.serversN x.serversC, .slice x.deadA x.deadN x.deadC, .slice x.clientsA x.clientsN x.clientsC, .slice x.drawsA x.drawsN x.drawsC, .slice x.lastA x.lastN x.lastC, .slice x.boxesA x.boxesN x.boxesC, .slice x.logA x.logN x.logC, .bool x.halted], .int .i64 d] w fun e w' => e = .returned (.bool (sureB c x ch st dl ft d)) ∧ Below w.heap.size w w' := by
  go_enter Try.func13, Try.ntmps13
  go_wp2_with (first
    | (with_reducible refine wpList_load_blk (by with_unfolding_all rfl) 56 (.tmp 4) rfl _ (by with_unfolding_all rfl) gW Try.underlying56 (by with_unfolding_all rfl) size_wd (by with_unfolding_all rfl) ?_)
    | (with_reducible refine wpList_load_blk (by with_unfolding_all rfl) 25 (.tmp 3) rfl _ (by with_unfolding_all rfl) gC Try.underlying25 (by with_unfolding_all rfl) size_cfg (by with_unfolding_all rfl) ?_)
    | (go_at_call 12; refine (long_at HL.out _).mono ?_; rintro e w1 ⟨rfl, hb1⟩
       have gC := ((Blk.new w 25 #[.slice c.A c.n c.cap, .int .i64 c.ch, .int .i64 c.sb, .int .i64 c.cl, .int .i64 c.qu, .int .i64 c.close, .int .i64 c.long, .int .i64 c.ag, .int .i64 c.wi, .int .u64 c.r, .int .u64 c.sq] rfl).alloc (.cells #[.int .i64 x.now, .slice x.listA x.listN x.listC, .slice x.fatesA x.fatesN x.fatesC, .int .i64 x.node, .int .u64 x.epoch, .int .u64 x.round, .slice x.chainA x.chainN x.chainC, .slice x.peersA x.peersN x.peersC, .slice x.standA x.standN x.standC, .int .i64 x.start, .bool x.closed, .slice x.onA x.onN x.onC, .slice x.backA x.backN x.backC, .bool x.noch, .bool x.chalt, .slice x.serversA x.serversN x.serversC, .slice x.deadA x.deadN x.deadC, .slice x.clientsA x.clientsN x.clientsC, .slice x.drawsA x.drawsN x.drawsC, .slice x.lastA x.lastN x.lastC, .slice x.boxesA x.boxesN x.boxesC, .slice x.logA x.logN x.logC, .bool x.halted] 56)).below hb1 (by simp; omega)
       have gW := (Blk.new (w.alloc (.cells #[.slice c.A c.n c.cap, .int .i64 c.ch, .int .i64 c.sb, .int .i64 c.cl, .int .i64 c.qu, .int .i64 c.close, .int .i64 c.long, .int .i64 c.ag, .int .i64 c.wi, .int .u64 c.r, .int .u64 c.sq] 25)) 56 #[.int .i64 x.now, .slice x.listA x.listN x.listC, .slice x.fatesA x.fatesN x.fatesC, .int .i64 x.node, .int .u64 x.epoch, .int .u64 x.round, .slice x.chainA x.chainN x.chainC, .slice x.peersA x.peersN x.peersC, .slice x.standA x.standN x.standC, .int .i64 x.start, .bool x.closed, .slice x.onA x.onN x.onC, .slice x.backA x.backN x.backC, .bool x.noch, .bool x.chalt, .slice x.serversA x.serversN x.serversC, .slice x.deadA x.deadN x.deadC, .slice x.clientsA x.clientsN x.clientsC, .slice x.drawsA x.drawsN x.drawsC, .slice x.lastA x.lastN x.lastC, .slice x.boxesA x.boxesN x.boxesC, .slice x.logA x.logN x.logC, .bool x.halted] rfl).below hb1 (by simp)
       simp only [World.size_alloc] at gW
       have hb : Below w.heap.size w w1 := (((Below.refl _ _).alloc (Nat.le_refl _) _).alloc (by simp) _).trans (hb1.mono (by simp; omega))
       have y2 := gW.cell 2 rfl; have y5 := gW.cell 5 rfl; have y8 := gW.cell 8 rfl; have y22 := gW.cell 22 rfl
       rw [HH.out] at y22
       clear hb1)
    | (go_at_call 11; refine (fine_at OK.out.fatesN HF.out _ (OK.out.fates.below hb (Nat.le_refl _)) OK.out.fatesM).mono ?_; rintro e w' ⟨rfl, rfl⟩)
    | (go_at_call 14; refine (failed_at (OK.out.below hb hb.size) HD.out HLv.out).mono ?_; rintro e w2 ⟨rfl, hb2⟩
       have y8' := (hb2.cell (World.block_lt_of_cell? _ _ y8)).trans y8
       have hb' := hb.trans (hb2.mono hb.size); clear hb2))
  go_ret
  refine ⟨ret_bool HS.out.symm, ?_⟩
  first | exact hb' | exact hb

set_option maxHeartbeats 1000000 in
set_option maxRecDepth 100000 in
theorem sure_d {c : Cf} {x : Wd} {ch st : List Int} {dl : List Bool} {ft : List Int} {d : Int} {w : World} {H F : Bool} {D V : Nat} (OK : Hid (WdOk w w.heap.size x ch st dl ft)) (HL : Hid (longB c d = true)) (HF : Hid (fineB ft d = true)) (HH : Hid (x.halted = false))
    (HD : Hid (deadN dl (chainOf c ch) = D)) (HLv : Hid (liveN dl st = V)) (d1 : decide ((18446744073709550615 : Int) < x.round) = false) (d2 : decide (D < V) = false) (d3 : ((D : Int) == 0) = false) (HS : Hid (sureB c x ch st dl ft d = false)) :
    Calls Try.prog 13 #[.agg #[.slice c.A c.n c.cap, .int .i64 c.ch, .int .i64 c.sb, .int .i64 c.cl, .int .i64 c.qu, .int .i64 c.close, .int .i64 c.long, .int .i64 c.ag, .int .i64 c.wi, .int .u64 c.r, .int .u64 c.sq], .agg #[.int .i64 x.now, .slice x.listA x.listN x.listC, .slice x.fatesA x.fatesN x.fatesC, .int .i64 x.node, .int .u64 x.epoch, .int .u64 x.round, .slice x.chainA x.chainN x.chainC, .slice x.peersA x.peersN x.peersC, .slice x.standA x.standN x.standC, .int .i64 x.start, .bool x.closed, .slice x.onA x.onN x.onC, .slice x.backA x.backN x.backC, .bool x.noch, .bool x.chalt, .slice x.serversA x.serversN x.serversC, .slice x.deadA x.deadN x.deadC, .slice x.clientsA x.clientsN x.clientsC, .slice x.drawsA x.drawsN x.drawsC, .slice x.lastA x.lastN x.lastC, .slice x.boxesA x.boxesN x.boxesC, .slice x.logA x.logN x.logC, .bool x.halted], .int .i64 d] w fun e w' => e = .returned (.bool (sureB c x ch st dl ft d)) ∧ Below w.heap.size w w' := by
  go_enter Try.func13, Try.ntmps13
  go_wp2_with (first
    | (with_reducible refine wpList_load_blk (by with_unfolding_all rfl) 56 (.tmp 4) rfl _ (by with_unfolding_all rfl) gW Try.underlying56 (by with_unfolding_all rfl) size_wd (by with_unfolding_all rfl) ?_)
    | (with_reducible refine wpList_load_blk (by with_unfolding_all rfl) 25 (.tmp 3) rfl _ (by with_unfolding_all rfl) gC Try.underlying25 (by with_unfolding_all rfl) size_cfg (by with_unfolding_all rfl) ?_)
    | (go_at_call 12; refine (long_at HL.out _).mono ?_; rintro e w1 ⟨rfl, hb1⟩
       have gC := ((Blk.new w 25 #[.slice c.A c.n c.cap, .int .i64 c.ch, .int .i64 c.sb, .int .i64 c.cl, .int .i64 c.qu, .int .i64 c.close, .int .i64 c.long, .int .i64 c.ag, .int .i64 c.wi, .int .u64 c.r, .int .u64 c.sq] rfl).alloc (.cells #[.int .i64 x.now, .slice x.listA x.listN x.listC, .slice x.fatesA x.fatesN x.fatesC, .int .i64 x.node, .int .u64 x.epoch, .int .u64 x.round, .slice x.chainA x.chainN x.chainC, .slice x.peersA x.peersN x.peersC, .slice x.standA x.standN x.standC, .int .i64 x.start, .bool x.closed, .slice x.onA x.onN x.onC, .slice x.backA x.backN x.backC, .bool x.noch, .bool x.chalt, .slice x.serversA x.serversN x.serversC, .slice x.deadA x.deadN x.deadC, .slice x.clientsA x.clientsN x.clientsC, .slice x.drawsA x.drawsN x.drawsC, .slice x.lastA x.lastN x.lastC, .slice x.boxesA x.boxesN x.boxesC, .slice x.logA x.logN x.logC, .bool x.halted] 56)).below hb1 (by simp; omega)
       have gW := (Blk.new (w.alloc (.cells #[.slice c.A c.n c.cap, .int .i64 c.ch, .int .i64 c.sb, .int .i64 c.cl, .int .i64 c.qu, .int .i64 c.close, .int .i64 c.long, .int .i64 c.ag, .int .i64 c.wi, .int .u64 c.r, .int .u64 c.sq] 25)) 56 #[.int .i64 x.now, .slice x.listA x.listN x.listC, .slice x.fatesA x.fatesN x.fatesC, .int .i64 x.node, .int .u64 x.epoch, .int .u64 x.round, .slice x.chainA x.chainN x.chainC, .slice x.peersA x.peersN x.peersC, .slice x.standA x.standN x.standC, .int .i64 x.start, .bool x.closed, .slice x.onA x.onN x.onC, .slice x.backA x.backN x.backC, .bool x.noch, .bool x.chalt, .slice x.serversA x.serversN x.serversC, .slice x.deadA x.deadN x.deadC, .slice x.clientsA x.clientsN x.clientsC, .slice x.drawsA x.drawsN x.drawsC, .slice x.lastA x.lastN x.lastC, .slice x.boxesA x.boxesN x.boxesC, .slice x.logA x.logN x.logC, .bool x.halted] rfl).below hb1 (by simp)
       simp only [World.size_alloc] at gW
       have hb : Below w.heap.size w w1 := (((Below.refl _ _).alloc (Nat.le_refl _) _).alloc (by simp) _).trans (hb1.mono (by simp; omega))
       have y2 := gW.cell 2 rfl; have y5 := gW.cell 5 rfl; have y8 := gW.cell 8 rfl; have y22 := gW.cell 22 rfl
       rw [HH.out] at y22
       clear hb1)
    | (go_at_call 11; refine (fine_at OK.out.fatesN HF.out _ (OK.out.fates.below hb (Nat.le_refl _)) OK.out.fatesM).mono ?_; rintro e w' ⟨rfl, rfl⟩)
    | (go_at_call 14; refine (failed_at (OK.out.below hb hb.size) HD.out HLv.out).mono ?_; rintro e w2 ⟨rfl, hb2⟩
       have y8' := (hb2.cell (World.block_lt_of_cell? _ _ y8)).trans y8
       have hb' := hb.trans (hb2.mono hb.size); clear hb2))
  go_ret
  refine ⟨ret_bool HS.out.symm, ?_⟩
  first | exact hb' | exact hb

theorem sure_any (c : Cf) (x : Wd) (ch st : List Int) (dl : List Bool) (ft : List Int) (d : Int) (w : World) (ok : WdOk w w.heap.size x ch st dl ft) :
    Calls Try.prog 13 #[.agg #[.slice c.A c.n c.cap, .int .i64 c.ch, .int .i64 c.sb, .int .i64 c.cl, .int .i64 c.qu, .int .i64 c.close, .int .i64 c.long, .int .i64 c.ag, .int .i64 c.wi, .int .u64 c.r, .int .u64 c.sq], .agg #[.int .i64 x.now, .slice x.listA x.listN x.listC, .slice x.fatesA x.fatesN x.fatesC, .int .i64 x.node, .int .u64 x.epoch, .int .u64 x.round, .slice x.chainA x.chainN x.chainC, .slice x.peersA x.peersN x.peersC, .slice x.standA x.standN x.standC, .int .i64 x.start, .bool x.closed, .slice x.onA x.onN x.onC, .slice x.backA x.backN x.backC, .bool x.noch, .bool x.chalt, .slice x.serversA x.serversN x.serversC, .slice x.deadA x.deadN x.deadC, .slice x.clientsA x.clientsN x.clientsC, .slice x.drawsA x.drawsN x.drawsC, .slice x.lastA x.lastN x.lastC, .slice x.boxesA x.boxesN x.boxesC, .slice x.logA x.logN x.logC, .bool x.halted], .int .i64 d] w fun e w' => e = .returned (.bool (sureB c x ch st dl ft d)) ∧ Below w.heap.size w w' := by
  obtain ⟨L, hL⟩ : ∃ L, longB c d = L := ⟨_, rfl⟩
  obtain ⟨F, hF⟩ : ∃ F, fineB ft d = F := ⟨_, rfl⟩
  obtain ⟨H, hH⟩ : ∃ H, x.halted = H := ⟨_, rfl⟩
  obtain ⟨D, hD⟩ : ∃ D, deadN dl (chainOf c ch) = D := ⟨_, rfl⟩
  obtain ⟨V, hV⟩ : ∃ V, liveN dl st = V := ⟨_, rfl⟩
  have hs : sureB c x ch st dl ft d = (L && F && !H && decide (x.round ≤ lateR) && restB D V st.length) := by unfold sureB; rw [hL, hF, hH, hD, hV]
  have HN := ok.standN
  cases L with
  | false => exact sure_L0 (H := H) (F := F) ok hL hF hH hD hV (by rw [Hid, hs]; simp)
  | true =>
    cases F with
    | false => exact sure_F0 (H := H) (F := false) ok hL hF hH hD hV (by rw [Hid, hs]; simp)
    | true =>
      cases H with
      | true => exact sure_H1 (H := true) (F := true) ok hL hF hH hD hV (by rw [Hid, hs]; simp)
      | false =>
        by_cases hr : x.round ≤ lateR
        · rw [decide_eq_true hr] at hs
          have d1 : decide ((18446744073709550615 : Int) < x.round) = false := decide_eq_false (by unfold lateR at hr; omega)
          by_cases h1 : D < V
          · exact sure_a (H := false) (F := true) ok hL hF hH hD hV d1 (decide_eq_true h1) (by rw [Hid, hs]; simp [restB, h1])
          · by_cases h2 : D = 0
            · by_cases h3 : x.standN = 0
              · exact sure_b (H := false) (F := true) ok hL hF hH hD hV d1 (decide_eq_false h1) (by rw [h2]; rfl) (by rw [h3]; rfl) (by rw [Hid, hs]; simp [restB, h2, HN, h3])
              · exact sure_c (H := false) (F := true) ok hL hF hH hD hV d1 (decide_eq_false h1) (by rw [h2]; rfl) (by simp; omega) (by rw [Hid, hs]; subst h2; simp [restB, HN, h3]; omega)
            · exact sure_d (H := false) (F := true) ok hL hF hH hD hV d1 (decide_eq_false h1) (by simp; omega) (by rw [Hid, hs]; simp [restB, h1, h2])
        · rw [decide_eq_false hr] at hs
          have d1 : decide ((18446744073709550615 : Int) < x.round) = true := decide_eq_true (by unfold lateR at hr; omega)
          exact sure_R0 (H := false) (F := true) ok hL hF hH hD hV d1 (by rw [Hid, hs]; simp)
end Go.Proofs.Ytigpalnmeefphaa
