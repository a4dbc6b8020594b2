/-
  BoundDead: nobody is sure, if more servers of the chain are dead than stand by; with nobody dead, and nobody that stands by, the rest decides.
-/
import Derived.Test.YtigpalnmeefphaaBoundG
namespace Go.Proofs.Ytigpalnmeefphaa
open Go.RowKit Go.Sort
set_option linter.unusedVariables false

theorem liveN_all (dl : List Bool) (st : List Int) : liveN dl st ≤ st.length := List.length_filter_le _ _

set_option maxHeartbeats 1000000 in
set_option maxRecDepth 100000 in
theorem dead_t1 {c : Cf} {x : Wd} {ch st : List Int} {dl : List Bool} {ft : List Int} {d : Int} {w : World} {D V : Nat} (OK : Hid (WdOk w w.heap.size x ch st dl ft)) (e1 : decide (500 < (x.fatesN : Int)) = false) (e2 : decide (60 < (x.deadN : Int)) = false) (e3 : decide (60 < (x.standN : Int)) = false) (e4 : decide (60 < (x.chainN : Int)) = false)
    (HD : Hid (deadN dl (chainOf c ch) = D)) (HV : Hid (liveN dl st = V)) (v1 : decide (x.standN < V) = false) (HS : Hid (sureB c x ch st dl ft d = true)) (HH : Hid (x.halted = false)) (HL : Hid (longB c d = true)) (HF : Hid (fineB ft d = true)) (d1 : decide (V ≤ D) = false) (r1 : decide (x.round ≤ 18446744073709550615) = true)  :
    Calls Try.prog 6 #[.agg #[.slice c.A c.n c.cap, .int .i64 c.ch, .int .i64 c.sb, .int .i64 c.cl, .int .i64 c.qu, .int .i64 c.close, .int .i64 c.long, .int .i64 c.ag, .int .i64 c.wi, .int .u64 c.r, .int .u64 c.sq], .agg #[.int .i64 x.now, .slice x.listA x.listN x.listC, .slice x.fatesA x.fatesN x.fatesC, .int .i64 x.node, .int .u64 x.epoch, .int .u64 x.round, .slice x.chainA x.chainN x.chainC, .slice x.peersA x.peersN x.peersC, .slice x.standA x.standN x.standC, .int .i64 x.start, .bool x.closed, .slice x.onA x.onN x.onC, .slice x.backA x.backN x.backC, .bool x.noch, .bool x.chalt, .slice x.serversA x.serversN x.serversC, .slice x.deadA x.deadN x.deadC, .slice x.clientsA x.clientsN x.clientsC, .slice x.drawsA x.drawsN x.drawsC, .slice x.lastA x.lastN x.lastC, .slice x.boxesA x.boxesN x.boxesC, .slice x.logA x.logN x.logC, .bool x.halted], .int .i64 d] w fun e w' => e = .returned (.bool true) ∧ Below w.heap.size w w' := by
  go_enter Try.func6, Try.ntmps6
  go_wp2_with fail
  refine (live22 _).mono ?_; rintro e w' ⟨rfl, rfl⟩
  have gC := (Blk.new w 25 #[.slice c.A c.n c.cap, .int .i64 c.ch, .int .i64 c.sb, .int .i64 c.cl, .int .i64 c.qu, .int .i64 c.close, .int .i64 c.long, .int .i64 c.ag, .int .i64 c.wi, .int .u64 c.r, .int .u64 c.sq] rfl).alloc (.cells #[.int .i64 x.now, .slice x.listA x.listN x.listC, .slice x.fatesA x.fatesN x.fatesC, .int .i64 x.node, .int .u64 x.epoch, .int .u64 x.round, .slice x.chainA x.chainN x.chainC, .slice x.peersA x.peersN x.peersC, .slice x.standA x.standN x.standC, .int .i64 x.start, .bool x.closed, .slice x.onA x.onN x.onC, .slice x.backA x.backN x.backC, .bool x.noch, .bool x.chalt, .slice x.serversA x.serversN x.serversC, .slice x.deadA x.deadN x.deadC, .slice x.clientsA x.clientsN x.clientsC, .slice x.drawsA x.drawsN x.drawsC, .slice x.lastA x.lastN x.lastC, .slice x.boxesA x.boxesN x.boxesC, .slice x.logA x.logN x.logC, .bool x.halted] 56)
  have gW := Blk.new (w.alloc (.cells #[.slice c.A c.n c.cap, .int .i64 c.ch, .int .i64 c.sb, .int .i64 c.cl, .int .i64 c.qu, .int .i64 c.close, .int .i64 c.long, .int .i64 c.ag, .int .i64 c.wi, .int .u64 c.r, .int .u64 c.sq] 25)) 56 #[.int .i64 x.now, .slice x.listA x.listN x.listC, .slice x.fatesA x.fatesN x.fatesC, .int .i64 x.node, .int .u64 x.epoch, .int .u64 x.round, .slice x.chainA x.chainN x.chainC, .slice x.peersA x.peersN x.peersC, .slice x.standA x.standN x.standC, .int .i64 x.start, .bool x.closed, .slice x.onA x.onN x.onC, .slice x.backA x.backN x.backC, .bool x.noch, .bool x.chalt, .slice x.serversA x.serversN x.serversC, .slice x.deadA x.deadN x.deadC, .slice x.clientsA x.clientsN x.clientsC, .slice x.drawsA x.drawsN x.drawsC, .slice x.lastA x.lastN x.lastC, .slice x.boxesA x.boxesN x.boxesC, .slice x.logA x.logN x.logC, .bool x.halted] rfl
  simp only [World.size_alloc] at gW
  have hb : Below w.heap.size w ((w.alloc (.cells #[.slice c.A c.n c.cap, .int .i64 c.ch, .int .i64 c.sb, .int .i64 c.cl, .int .i64 c.qu, .int .i64 c.close, .int .i64 c.long, .int .i64 c.ag, .int .i64 c.wi, .int .u64 c.r, .int .u64 c.sq] 25)).alloc (.cells #[.int .i64 x.now, .slice x.listA x.listN x.listC, .slice x.fatesA x.fatesN x.fatesC, .int .i64 x.node, .int .u64 x.epoch, .int .u64 x.round, .slice x.chainA x.chainN x.chainC, .slice x.peersA x.peersN x.peersC, .slice x.standA x.standN x.standC, .int .i64 x.start, .bool x.closed, .slice x.onA x.onN x.onC, .slice x.backA x.backN x.backC, .bool x.noch, .bool x.chalt, .slice x.serversA x.serversN x.serversC, .slice x.deadA x.deadN x.deadC, .slice x.clientsA x.clientsN x.clientsC, .slice x.drawsA x.drawsN x.drawsC, .slice x.lastA x.lastN x.lastC, .slice x.boxesA x.boxesN x.boxesC, .slice x.logA x.logN x.logC, .bool x.halted] 56)) := ((Below.refl _ _).alloc (Nat.le_refl _) _).alloc (by simp) _
  go_wp2_with (first
    | (with_reducible refine wpList_load_blk (by with_unfolding_all rfl) 56 (.tmp 4) (by with_unfolding_all rfl) _ (by with_unfolding_all rfl) gW Try.underlying56 (by with_unfolding_all rfl) size_wd (by with_unfolding_all rfl) ?_)
    | (with_reducible refine wpList_load_blk (by with_unfolding_all rfl) 25 (.tmp 3) (by with_unfolding_all rfl) _ (by with_unfolding_all rfl) gC Try.underlying25 (by with_unfolding_all rfl) size_cfg (by with_unfolding_all rfl) ?_))
  refine (failed_at (OK.out.below hb hb.size) HD.out HV.out).mono ?_; rintro e w1 ⟨rfl, hb1⟩
  replace gC := gC.below hb1 gC.lt
  replace gW := gW.below hb1 (by simp)
  replace hb := hb.trans (hb1.mono (by simp; omega))
  clear hb1
  go_wp2_with (first
    | (with_reducible refine wpList_load_blk (by with_unfolding_all rfl) 56 (.tmp 4) (by with_unfolding_all rfl) _ (by with_unfolding_all rfl) gW Try.underlying56 (by with_unfolding_all rfl) size_wd (by with_unfolding_all rfl) ?_)
    | (with_reducible refine wpList_load_blk (by with_unfolding_all rfl) 25 (.tmp 3) (by with_unfolding_all rfl) _ (by with_unfolding_all rfl) gC Try.underlying25 (by with_unfolding_all rfl) size_cfg (by with_unfolding_all rfl) ?_))
  refine (sure_at (OK.out.below hb hb.size) HS.out).mono ?_; rintro e w2 ⟨rfl, hb1⟩
  replace gC := gC.below hb1 gC.lt
  replace gW := gW.below hb1 gW.lt
  replace hb := hb.trans (hb1.mono hb.size)
  clear hb1 w1
  have y2 := gW.cell 2 (v := .slice x.fatesA x.fatesN x.fatesC) rfl
  have y5 := gW.cell 5 (v := .int .u64 x.round) rfl
  have y8 := gW.cell 8 (v := .slice x.standA x.standN x.standC) rfl
  have y22 := gW.cell 22 (v := .bool x.halted) rfl
  rw [HH.out] at y22
  go_wp2_with (first
    | (with_reducible refine wpList_load_blk (by with_unfolding_all rfl) 56 (.tmp 4) (by with_unfolding_all rfl) _ (by with_unfolding_all rfl) gW Try.underlying56 (by with_unfolding_all rfl) size_wd (by with_unfolding_all rfl) ?_)
    | (with_reducible refine wpList_load_blk (by with_unfolding_all rfl) 25 (.tmp 3) (by with_unfolding_all rfl) _ (by with_unfolding_all rfl) gC Try.underlying25 (by with_unfolding_all rfl) size_cfg (by with_unfolding_all rfl) ?_))
  refine (long_at HL.out _).mono ?_; rintro e w3 ⟨rfl, hb1⟩
  replace gC := gC.below hb1 gC.lt
  replace gW := gW.below hb1 gW.lt
  replace hb := hb.trans (hb1.mono hb.size)
  replace y2 := gW.cell 2 (v := .slice x.fatesA x.fatesN x.fatesC) rfl
  replace y5 := gW.cell 5 (v := .int .u64 x.round) rfl
  replace y8 := gW.cell 8 (v := .slice x.standA x.standN x.standC) rfl
  replace y22 := gW.cell 22 (v := .bool x.halted) rfl
  rw [HH.out] at y22
  clear hb1
  go_wp2_with (first
    | (with_reducible refine wpList_load_blk (by with_unfolding_all rfl) 56 (.tmp 4) (by with_unfolding_all rfl) _ (by with_unfolding_all rfl) gW Try.underlying56 (by with_unfolding_all rfl) size_wd (by with_unfolding_all rfl) ?_)
    | (with_reducible refine wpList_load_blk (by with_unfolding_all rfl) 25 (.tmp 3) (by with_unfolding_all rfl) _ (by with_unfolding_all rfl) gC Try.underlying25 (by with_unfolding_all rfl) size_cfg (by with_unfolding_all rfl) ?_))
  refine (fine_at OK.out.fatesN HF.out _ (OK.out.fates.below hb (Nat.le_refl _)) OK.out.fatesM).mono ?_; rintro e w' ⟨rfl, rfl⟩
  go_wp2_with (first
    | (with_reducible refine wpList_load_blk (by with_unfolding_all rfl) 56 (.tmp 4) (by with_unfolding_all rfl) _ (by with_unfolding_all rfl) gW Try.underlying56 (by with_unfolding_all rfl) size_wd (by with_unfolding_all rfl) ?_)
    | (with_reducible refine wpList_load_blk (by with_unfolding_all rfl) 25 (.tmp 3) (by with_unfolding_all rfl) _ (by with_unfolding_all rfl) gC Try.underlying25 (by with_unfolding_all rfl) size_cfg (by with_unfolding_all rfl) ?_))
  refine (long_at HL.out _).mono ?_; rintro e w3 ⟨rfl, hb1⟩
  replace gC := gC.below hb1 gC.lt
  replace gW := gW.below hb1 gW.lt
  replace hb := hb.trans (hb1.mono hb.size)
  replace y2 := gW.cell 2 (v := .slice x.fatesA x.fatesN x.fatesC) rfl
  replace y5 := gW.cell 5 (v := .int .u64 x.round) rfl
  replace y8 := gW.cell 8 (v := .slice x.standA x.standN x.standC) rfl
  replace y22 := gW.cell 22 (v := .bool x.halted) rfl
  rw [HH.out] at y22
  clear hb1
  go_wp2_with (first
    | (with_reducible refine wpList_load_blk (by with_unfolding_all rfl) 56 (.tmp 4) (by with_unfolding_all rfl) _ (by with_unfolding_all rfl) gW Try.underlying56 (by with_unfolding_all rfl) size_wd (by with_unfolding_all rfl) ?_)
    | (with_reducible refine wpList_load_blk (by with_unfolding_all rfl) 25 (.tmp 3) (by with_unfolding_all rfl) _ (by with_unfolding_all rfl) gC Try.underlying25 (by with_unfolding_all rfl) size_cfg (by with_unfolding_all rfl) ?_))
  refine (fine_at OK.out.fatesN HF.out _ (OK.out.fates.below hb (Nat.le_refl _)) OK.out.fatesM).mono ?_; rintro e w' ⟨rfl, rfl⟩
  go_wp2_with (first
    | (with_reducible refine wpList_load_blk (by with_unfolding_all rfl) 56 (.tmp 4) (by with_unfolding_all rfl) _ (by with_unfolding_all rfl) gW Try.underlying56 (by with_unfolding_all rfl) size_wd (by with_unfolding_all rfl) ?_)
    | (with_reducible refine wpList_load_blk (by with_unfolding_all rfl) 25 (.tmp 3) (by with_unfolding_all rfl) _ (by with_unfolding_all rfl) gC Try.underlying25 (by with_unfolding_all rfl) size_cfg (by with_unfolding_all rfl) ?_))
  go_ret
  exact ⟨rfl, hb⟩

set_option maxHeartbeats 1000000 in
set_option maxRecDepth 100000 in
theorem dead_t2 {c : Cf} {x : Wd} {ch st : List Int} {dl : List Bool} {ft : List Int} {d : Int} {w : World} {D V : Nat} (OK : Hid (WdOk w w.heap.size x ch st dl ft)) (e1 : decide (500 < (x.fatesN : Int)) = false) (e2 : decide (60 < (x.deadN : Int)) = false) (e3 : decide (60 < (x.standN : Int)) = false) (e4 : decide (60 < (x.chainN : Int)) = false)
    (HD : Hid (deadN dl (chainOf c ch) = D)) (HV : Hid (liveN dl st = V)) (v1 : decide (x.standN < V) = false) (HS : Hid (sureB c x ch st dl ft d = true)) (HH : Hid (x.halted = false)) (HL : Hid (longB c d = true)) (HF : Hid (fineB ft d = true)) (d1 : decide (V ≤ D) = true) (d2 : decide (0 < D) = false) (d3 : decide (0 < x.standN) = false) (r1 : decide (x.round ≤ 18446744073709550615) = true)  :
    Calls Try.prog 6 #[.agg #[.slice c.A c.n c.cap, .int .i64 c.ch, .int .i64 c.sb, .int .i64 c.cl, .int .i64 c.qu, .int .i64 c.close, .int .i64 c.long, .int .i64 c.ag, .int .i64 c.wi, .int .u64 c.r, .int .u64 c.sq], .agg #[.int .i64 x.now, .slice x.listA x.listN x.listC, .slice x.fatesA x.fatesN x.fatesC, .int .i64 x.node, .int .u64 x.epoch, .int .u64 x.round, .slice x.chainA x.chainN x.chainC, .slice x.peersA x.peersN x.peersC, .slice x.standA x.standN x.standC, .int .i64 x.start, .bool x.closed, .slice x.onA x.onN x.onC, .slice x.backA x.backN x.backC, .bool x.noch, .bool x.chalt, .slice x.serversA x.serversN x.serversC, .slice x.deadA x.deadN x.deadC, .slice x.clientsA x.clientsN x.clientsC, .slice x.drawsA x.drawsN x.drawsC, .slice x.lastA x.lastN x.lastC, .slice x.boxesA x.boxesN x.boxesC, .slice x.logA x.logN x.logC, .bool x.halted], .int .i64 d] w fun e w' => e = .returned (.bool true) ∧ Below w.heap.size w w' := by
  go_enter Try.func6, Try.ntmps6
  go_wp2_with fail
  refine (live22 _).mono ?_; rintro e w' ⟨rfl, rfl⟩
  have gC := (Blk.new w 25 #[.slice c.A c.n c.cap, .int .i64 c.ch, .int .i64 c.sb, .int .i64 c.cl, .int .i64 c.qu, .int .i64 c.close, .int .i64 c.long, .int .i64 c.ag, .int .i64 c.wi, .int .u64 c.r, .int .u64 c.sq] rfl).alloc (.cells #[.int .i64 x.now, .slice x.listA x.listN x.listC, .slice x.fatesA x.fatesN x.fatesC, .int .i64 x.node, .int .u64 x.epoch, .int .u64 x.round, .slice x.chainA x.chainN x.chainC, .slice x.peersA x.peersN x.peersC, .slice x.standA x.standN x.standC, .int .i64 x.start, .bool x.closed, .slice x.onA x.onN x.onC, .slice x.backA x.backN x.backC, .bool x.noch, .bool x.chalt, .slice x.serversA x.serversN x.serversC, .slice x.deadA x.deadN x.deadC, .slice x.clientsA x.clientsN x.clientsC, .slice x.drawsA x.drawsN x.drawsC, .slice x.lastA x.lastN x.lastC, .slice x.boxesA x.boxesN x.boxesC, .slice x.logA x.logN x.logC, .bool x.halted] 56)
  have gW := Blk.new (w.alloc (.cells #[.slice c.A c.n c.cap, .int .i64 c.ch, .int .i64 c.sb, .int .i64 c.cl, .int .i64 c.qu, .int .i64 c.close, .int .i64 c.long, .int .i64 c.ag, .int .i64 c.wi, .int .u64 c.r, .int .u64 c.sq] 25)) 56 #[.int .i64 x.now, .slice x.listA x.listN x.listC, .slice x.fatesA x.fatesN x.fatesC, .int .i64 x.node, .int .u64 x.epoch, .int .u64 x.round, .slice x.chainA x.chainN x.chainC, .slice x.peersA x.peersN x.peersC, .slice x.standA x.standN x.standC, .int .i64 x.start, .bool x.closed, .slice x.onA x.onN x.onC, .slice x.backA x.backN x.backC, .bool x.noch, .bool x.chalt, .slice x.serversA x.serversN x.serversC, .slice x.deadA x.deadN x.deadC, .slice x.clientsA x.clientsN x.clientsC, .slice x.drawsA x.drawsN x.drawsC, .slice x.lastA x.lastN x.lastC, .slice x.boxesA x.boxesN x.boxesC, .slice x.logA x.logN x.logC, .bool x.halted] rfl
  simp only [World.size_alloc] at gW
  have hb : Below w.heap.size w ((w.alloc (.cells #[.slice c.A c.n c.cap, .int .i64 c.ch, .int .i64 c.sb, .int .i64 c.cl, .int .i64 c.qu, .int .i64 c.close, .int .i64 c.long, .int .i64 c.ag, .int .i64 c.wi, .int .u64 c.r, .int .u64 c.sq] 25)).alloc (.cells #[.int .i64 x.now, .slice x.listA x.listN x.listC, .slice x.fatesA x.fatesN x.fatesC, .int .i64 x.node, .int .u64 x.epoch, .int .u64 x.round, .slice x.chainA x.chainN x.chainC, .slice x.peersA x.peersN x.peersC, .slice x.standA x.standN x.standC, .int .i64 x.start, .bool x.closed, .slice x.onA x.onN x.onC, .slice x.backA x.backN x.backC, .bool x.noch, .bool x.chalt, .slice x.serversA x.serversN x.serversC, .slice x.deadA x.deadN x.deadC, .slice x.clientsA x.clientsN x.clientsC, .slice x.drawsA x.drawsN x.drawsC, .slice x.lastA x.lastN x.lastC, .slice x.boxesA x.boxesN x.boxesC, .slice x.logA x.logN x.logC, .bool x.halted] 56)) := ((Below.refl _ _).alloc (Nat.le_refl _) _).alloc (by simp) _
  go_wp2_with (first
    | (with_reducible refine wpList_load_blk (by with_unfolding_all rfl) 56 (.tmp 4) (by with_unfolding_all rfl) _ (by with_unfolding_all rfl) gW Try.underlying56 (by with_unfolding_all rfl) size_wd (by with_unfolding_all rfl) ?_)
    | (with_reducible refine wpList_load_blk (by with_unfolding_all rfl) 25 (.tmp 3) (by with_unfolding_all rfl) _ (by with_unfolding_all rfl) gC Try.underlying25 (by with_unfolding_all rfl) size_cfg (by with_unfolding_all rfl) ?_))
  refine (failed_at (OK.out.below hb hb.size) HD.out HV.out).mono ?_; rintro e w1 ⟨rfl, hb1⟩
  replace gC := gC.below hb1 gC.lt
  replace gW := gW.below hb1 (by simp)
  replace hb := hb.trans (hb1.mono (by simp; omega))
  clear hb1
  go_wp2_with (first
    | (with_reducible refine wpList_load_blk (by with_unfolding_all rfl) 56 (.tmp 4) (by with_unfolding_all rfl) _ (by with_unfolding_all rfl) gW Try.underlying56 (by with_unfolding_all rfl) size_wd (by with_unfolding_all rfl) ?_)
    | (with_reducible refine wpList_load_blk (by with_unfolding_all rfl) 25 (.tmp 3) (by with_unfolding_all rfl) _ (by with_unfolding_all rfl) gC Try.underlying25 (by with_unfolding_all rfl) size_cfg (by with_unfolding_all rfl) ?_))
  refine (sure_at (OK.out.below hb hb.size) HS.out).mono ?_; rintro e w2 ⟨rfl, hb1⟩
  replace gC := gC.below hb1 gC.lt
  replace gW := gW.below hb1 gW.lt
  replace hb := hb.trans (hb1.mono hb.size)
  clear hb1 w1
  have y2 := gW.cell 2 (v := .slice x.fatesA x.fatesN x.fatesC) rfl
  have y5 := gW.cell 5 (v := .int .u64 x.round) rfl
  have y8 := gW.cell 8 (v := .slice x.standA x.standN x.standC) rfl
  have y22 := gW.cell 22 (v := .bool x.halted) rfl
  rw [HH.out] at y22
  go_wp2_with (first
    | (with_reducible refine wpList_load_blk (by with_unfolding_all rfl) 56 (.tmp 4) (by with_unfolding_all rfl) _ (by with_unfolding_all rfl) gW Try.underlying56 (by with_unfolding_all rfl) size_wd (by with_unfolding_all rfl) ?_)
    | (with_reducible refine wpList_load_blk (by with_unfolding_all rfl) 25 (.tmp 3) (by with_unfolding_all rfl) _ (by with_unfolding_all rfl) gC Try.underlying25 (by with_unfolding_all rfl) size_cfg (by with_unfolding_all rfl) ?_))
  refine (long_at HL.out _).mono ?_; rintro e w3 ⟨rfl, hb1⟩
  replace gC := gC.below hb1 gC.lt
  replace gW := gW.below hb1 gW.lt
  replace hb := hb.trans (hb1.mono hb.size)
  replace y2 := gW.cell 2 (v := .slice x.fatesA x.fatesN x.fatesC) rfl
  replace y5 := gW.cell 5 (v := .int .u64 x.round) rfl
  replace y8 := gW.cell 8 (v := .slice x.standA x.standN x.standC) rfl
  replace y22 := gW.cell 22 (v := .bool x.halted) rfl
  rw [HH.out] at y22
  clear hb1
  go_wp2_with (first
    | (with_reducible refine wpList_load_blk (by with_unfolding_all rfl) 56 (.tmp 4) (by with_unfolding_all rfl) _ (by with_unfolding_all rfl) gW Try.underlying56 (by with_unfolding_all rfl) size_wd (by with_unfolding_all rfl) ?_)
    | (with_reducible refine wpList_load_blk (by with_unfolding_all rfl) 25 (.tmp 3) (by with_unfolding_all rfl) _ (by with_unfolding_all rfl) gC Try.underlying25 (by with_unfolding_all rfl) size_cfg (by with_unfolding_all rfl) ?_))
  refine (fine_at OK.out.fatesN HF.out _ (OK.out.fates.below hb (Nat.le_refl _)) OK.out.fatesM).mono ?_; rintro e w' ⟨rfl, rfl⟩
  go_wp2_with (first
    | (with_reducible refine wpList_load_blk (by with_unfolding_all rfl) 56 (.tmp 4) (by with_unfolding_all rfl) _ (by with_unfolding_all rfl) gW Try.underlying56 (by with_unfolding_all rfl) size_wd (by with_unfolding_all rfl) ?_)
    | (with_reducible refine wpList_load_blk (by with_unfolding_all rfl) 25 (.tmp 3) (by with_unfolding_all rfl) _ (by with_unfolding_all rfl) gC Try.underlying25 (by with_unfolding_all rfl) size_cfg (by with_unfolding_all rfl) ?_))
  refine (long_at HL.out _).mono ?_; rintro e w3 ⟨rfl, hb1⟩
  replace gC := gC.below hb1 gC.lt
  replace gW := gW.below hb1 gW.lt
  replace hb := hb.trans (hb1.mono hb.size)
  replace y2 := gW.cell 2 (v := .slice x.fatesA x.fatesN x.fatesC) rfl
  replace y5 := gW.cell 5 (v := .int .u64 x.round) rfl
  replace y8 := gW.cell 8 (v := .slice x.standA x.standN x.standC) rfl
  replace y22 := gW.cell 22 (v := .bool x.halted) rfl
  rw [HH.out] at y22
  clear hb1
  go_wp2_with (first
    | (with_reducible refine wpList_load_blk (by with_unfolding_all rfl) 56 (.tmp 4) (by with_unfolding_all rfl) _ (by with_unfolding_all rfl) gW Try.underlying56 (by with_unfolding_all rfl) size_wd (by with_unfolding_all rfl) ?_)
    | (with_reducible refine wpList_load_blk (by with_unfolding_all rfl) 25 (.tmp 3) (by with_unfolding_all rfl) _ (by with_unfolding_all rfl) gC Try.underlying25 (by with_unfolding_all rfl) size_cfg (by with_unfolding_all rfl) ?_))
  refine (fine_at OK.out.fatesN HF.out _ (OK.out.fates.below hb (Nat.le_refl _)) OK.out.fatesM).mono ?_; rintro e w' ⟨rfl, rfl⟩
  go_wp2_with (first
    | (with_reducible refine wpList_load_blk (by with_unfolding_all rfl) 56 (.tmp 4) (by with_unfolding_all rfl) _ (by with_unfolding_all rfl) gW Try.underlying56 (by with_unfolding_all rfl) size_wd (by with_unfolding_all rfl) ?_)
    | (with_reducible refine wpList_load_blk (by with_unfolding_all rfl) 25 (.tmp 3) (by with_unfolding_all rfl) _ (by with_unfolding_all rfl) gC Try.underlying25 (by with_unfolding_all rfl) size_cfg (by with_unfolding_all rfl) ?_))
  go_ret
  exact ⟨rfl, hb⟩

set_option maxHeartbeats 1000000 in
set_option maxRecDepth 100000 in
theorem dead_f1 {c : Cf} {x : Wd} {ch st : List Int} {dl : List Bool} {ft : List Int} {d : Int} {w : World} {D V : Nat} {H : Bool} (OK : Hid (WdOk w w.heap.size x ch st dl ft)) (e1 : decide (500 < (x.fatesN : Int)) = false) (e2 : decide (60 < (x.deadN : Int)) = false) (e3 : decide (60 < (x.standN : Int)) = false) (e4 : decide (60 < (x.chainN : Int)) = false)
    (HD : Hid (deadN dl (chainOf c ch) = D)) (HV : Hid (liveN dl st = V)) (v1 : decide (x.standN < V) = false) (HS : Hid (sureB c x ch st dl ft d = false)) (HH : Hid (x.halted = H)) (d1 : decide (V ≤ D) = true) (d2 : decide (0 < D) = true)  :
    Calls Try.prog 6 #[.agg #[.slice c.A c.n c.cap, .int .i64 c.ch, .int .i64 c.sb, .int .i64 c.cl, .int .i64 c.qu, .int .i64 c.close, .int .i64 c.long, .int .i64 c.ag, .int .i64 c.wi, .int .u64 c.r, .int .u64 c.sq], .agg #[.int .i64 x.now, .slice x.listA x.listN x.listC, .slice x.fatesA x.fatesN x.fatesC, .int .i64 x.node, .int .u64 x.epoch, .int .u64 x.round, .slice x.chainA x.chainN x.chainC, .slice x.peersA x.peersN x.peersC, .slice x.standA x.standN x.standC, .int .i64 x.start, .bool x.closed, .slice x.onA x.onN x.onC, .slice x.backA x.backN x.backC, .bool x.noch, .bool x.chalt, .slice x.serversA x.serversN x.serversC, .slice x.deadA x.deadN x.deadC, .slice x.clientsA x.clientsN x.clientsC, .slice x.drawsA x.drawsN x.drawsC, .slice x.lastA x.lastN x.lastC, .slice x.boxesA x.boxesN x.boxesC, .slice x.logA x.logN x.logC, .bool x.halted], .int .i64 d] w fun e w' => e = .returned (.bool true) ∧ Below w.heap.size w w' := by
  go_enter Try.func6, Try.ntmps6
  go_wp2_with fail
  refine (live22 _).mono ?_; rintro e w' ⟨rfl, rfl⟩
  have gC := (Blk.new w 25 #[.slice c.A c.n c.cap, .int .i64 c.ch, .int .i64 c.sb, .int .i64 c.cl, .int .i64 c.qu, .int .i64 c.close, .int .i64 c.long, .int .i64 c.ag, .int .i64 c.wi, .int .u64 c.r, .int .u64 c.sq] rfl).alloc (.cells #[.int .i64 x.now, .slice x.listA x.listN x.listC, .slice x.fatesA x.fatesN x.fatesC, .int .i64 x.node, .int .u64 x.epoch, .int .u64 x.round, .slice x.chainA x.chainN x.chainC, .slice x.peersA x.peersN x.peersC, .slice x.standA x.standN x.standC, .int .i64 x.start, .bool x.closed, .slice x.onA x.onN x.onC, .slice x.backA x.backN x.backC, .bool x.noch, .bool x.chalt, .slice x.serversA x.serversN x.serversC, .slice x.deadA x.deadN x.deadC, .slice x.clientsA x.clientsN x.clientsC, .slice x.drawsA x.drawsN x.drawsC, .slice x.lastA x.lastN x.lastC, .slice x.boxesA x.boxesN x.boxesC, .slice x.logA x.logN x.logC, .bool x.halted] 56)
  have gW := Blk.new (w.alloc (.cells #[.slice c.A c.n c.cap, .int .i64 c.ch, .int .i64 c.sb, .int .i64 c.cl, .int .i64 c.qu, .int .i64 c.close, .int .i64 c.long, .int .i64 c.ag, .int .i64 c.wi, .int .u64 c.r, .int .u64 c.sq] 25)) 56 #[.int .i64 x.now, .slice x.listA x.listN x.listC, .slice x.fatesA x.fatesN x.fatesC, .int .i64 x.node, .int .u64 x.epoch, .int .u64 x.round, .slice x.chainA x.chainN x.chainC, .slice x.peersA x.peersN x.peersC, .slice x.standA x.standN x.standC, .int .i64 x.start, .bool x.closed, .slice x.onA x.onN x.onC, .slice x.backA x.backN x.backC, .bool x.noch, .bool x.chalt, .slice x.serversA x.serversN x.serversC, .slice x.deadA x.deadN x.deadC, .slice x.clientsA x.clientsN x.clientsC, .slice x.drawsA x.drawsN x.drawsC, .slice x.lastA x.lastN x.lastC, .slice x.boxesA x.boxesN x.boxesC, .slice x.logA x.logN x.logC, .bool x.halted] rfl
  simp only [World.size_alloc] at gW
  have hb : Below w.heap.size w ((w.alloc (.cells #[.slice c.A c.n c.cap, .int .i64 c.ch, .int .i64 c.sb, .int .i64 c.cl, .int .i64 c.qu, .int .i64 c.close, .int .i64 c.long, .int .i64 c.ag, .int .i64 c.wi, .int .u64 c.r, .int .u64 c.sq] 25)).alloc (.cells #[.int .i64 x.now, .slice x.listA x.listN x.listC, .slice x.fatesA x.fatesN x.fatesC, .int .i64 x.node, .int .u64 x.epoch, .int .u64 x.round, .slice x.chainA x.chainN x.chainC, .slice x.peersA x.peersN x.peersC, .slice x.standA x.standN x.standC, .int .i64 x.start, .bool x.closed, .slice x.onA x.onN x.onC, .slice x.backA x.backN x.backC, .bool x.noch, .bool x.chalt, .slice x.serversA x.serversN x.serversC, .slice x.deadA x.deadN x.deadC, .slice x.clientsA x.clientsN x.clientsC, .slice x.drawsA x.drawsN x.drawsC, .slice x.lastA x.lastN x.lastC, .slice x.boxesA x.boxesN x.boxesC, .slice x.logA x.logN x.logC, .bool x.halted] 56)) := ((Below.refl _ _).alloc (Nat.le_refl _) _).alloc (by simp) _
  go_wp2_with (first
    | (with_reducible refine wpList_load_blk (by with_unfolding_all rfl) 56 (.tmp 4) (by with_unfolding_all rfl) _ (by with_unfolding_all rfl) gW Try.underlying56 (by with_unfolding_all rfl) size_wd (by with_unfolding_all rfl) ?_)
    | (with_reducible refine wpList_load_blk (by with_unfolding_all rfl) 25 (.tmp 3) (by with_unfolding_all rfl) _ (by with_unfolding_all rfl) gC Try.underlying25 (by with_unfolding_all rfl) size_cfg (by with_unfolding_all rfl) ?_))
  refine (failed_at (OK.out.below hb hb.size) HD.out HV.out).mono ?_; rintro e w1 ⟨rfl, hb1⟩
  replace gC := gC.below hb1 gC.lt
  replace gW := gW.below hb1 (by simp)
  replace hb := hb.trans (hb1.mono (by simp; omega))
  clear hb1
  go_wp2_with (first
    | (with_reducible refine wpList_load_blk (by with_unfolding_all rfl) 56 (.tmp 4) (by with_unfolding_all rfl) _ (by with_unfolding_all rfl) gW Try.underlying56 (by with_unfolding_all rfl) size_wd (by with_unfolding_all rfl) ?_)
    | (with_reducible refine wpList_load_blk (by with_unfolding_all rfl) 25 (.tmp 3) (by with_unfolding_all rfl) _ (by with_unfolding_all rfl) gC Try.underlying25 (by with_unfolding_all rfl) size_cfg (by with_unfolding_all rfl) ?_))
  refine (sure_at (OK.out.below hb hb.size) HS.out).mono ?_; rintro e w2 ⟨rfl, hb1⟩
  replace gC := gC.below hb1 gC.lt
  replace gW := gW.below hb1 gW.lt
  replace hb := hb.trans (hb1.mono hb.size)
  clear hb1 w1
  have y2 := gW.cell 2 (v := .slice x.fatesA x.fatesN x.fatesC) rfl
  have y5 := gW.cell 5 (v := .int .u64 x.round) rfl
  have y8 := gW.cell 8 (v := .slice x.standA x.standN x.standC) rfl
  have y22 := gW.cell 22 (v := .bool x.halted) rfl
  rw [HH.out] at y22
  go_wp2_with (first
    | (with_reducible refine wpList_load_blk (by with_unfolding_all rfl) 56 (.tmp 4) (by with_unfolding_all rfl) _ (by with_unfolding_all rfl) gW Try.underlying56 (by with_unfolding_all rfl) size_wd (by with_unfolding_all rfl) ?_)
    | (with_reducible refine wpList_load_blk (by with_unfolding_all rfl) 25 (.tmp 3) (by with_unfolding_all rfl) _ (by with_unfolding_all rfl) gC Try.underlying25 (by with_unfolding_all rfl) size_cfg (by with_unfolding_all rfl) ?_))
  go_ret
  exact ⟨rfl, hb⟩

set_option maxHeartbeats 1000000 in
set_option maxRecDepth 100000 in
theorem dead_f2 {c : Cf} {x : Wd} {ch st : List Int} {dl : List Bool} {ft : List Int} {d : Int} {w : World} {D V : Nat} {H : Bool} (OK : Hid (WdOk w w.heap.size x ch st dl ft)) (e1 : decide (500 < (x.fatesN : Int)) = false) (e2 : decide (60 < (x.deadN : Int)) = false) (e3 : decide (60 < (x.standN : Int)) = false) (e4 : decide (60 < (x.chainN : Int)) = false)
    (HD : Hid (deadN dl (chainOf c ch) = D)) (HV : Hid (liveN dl st = V)) (v1 : decide (x.standN < V) = false) (HS : Hid (sureB c x ch st dl ft d = false)) (HH : Hid (x.halted = H)) (d1 : decide (V ≤ D) = true) (d2 : decide (0 < D) = false) (d3 : decide (0 < x.standN) = true)  :
    Calls Try.prog 6 #[.agg #[.slice c.A c.n c.cap, .int .i64 c.ch, .int .i64 c.sb, .int .i64 c.cl, .int .i64 c.qu, .int .i64 c.close, .int .i64 c.long, .int .i64 c.ag, .int .i64 c.wi, .int .u64 c.r, .int .u64 c.sq], .agg #[.int .i64 x.now, .slice x.listA x.listN x.listC, .slice x.fatesA x.fatesN x.fatesC, .int .i64 x.node, .int .u64 x.epoch, .int .u64 x.round, .slice x.chainA x.chainN x.chainC, .slice x.peersA x.peersN x.peersC, .slice x.standA x.standN x.standC, .int .i64 x.start, .bool x.closed, .slice x.onA x.onN x.onC, .slice x.backA x.backN x.backC, .bool x.noch, .bool x.chalt, .slice x.serversA x.serversN x.serversC, .slice x.deadA x.deadN x.deadC, .slice x.clientsA x.clientsN x.clientsC, .slice x.drawsA x.drawsN x.drawsC, .slice x.lastA x.lastN x.lastC, .slice x.boxesA x.boxesN x.boxesC, .slice x.logA x.logN x.logC, .bool x.halted], .int .i64 d] w fun e w' => e = .returned (.bool true) ∧ Below w.heap.size w w' := by
  go_enter Try.func6, Try.ntmps6
  go_wp2_with fail
  refine (live22 _).mono ?_; rintro e w' ⟨rfl, rfl⟩
  have gC := (Blk.new w 25 #[.slice c.A c.n c.cap, .int .i64 c.ch, .int .i64 c.sb, .int .i64 c.cl, .int .i64 c.qu, .int .i64 c.close, .int .i64 c.long, .int .i64 c.ag, .int .i64 c.wi, .int .u64 c.r, .int .u64 c.sq] rfl).alloc (.cells #[.int .i64 x.now, .slice x.listA x.listN x.listC, .slice x.fatesA x.fatesN x.fatesC, .int .i64 x.node, .int .u64 x.epoch, .int .u64 x.round, .slice x.chainA x.chainN x.chainC, .slice x.peersA x.peersN x.peersC, .slice x.standA x.standN x.standC, .int .i64 x.start, .bool x.closed, .slice x.onA x.onN x.onC, .slice x.backA x.backN x.backC, .bool x.noch, .bool x.chalt, .slice x.serversA x.serversN x.serversC, .slice x.deadA x.deadN x.deadC, .slice x.clientsA x.clientsN x.clientsC, .slice x.drawsA x.drawsN x.drawsC, .slice x.lastA x.lastN x.lastC, .slice x.boxesA x.boxesN x.boxesC, .slice x.logA x.logN x.logC, .bool x.halted] 56)
  have gW := Blk.new (w.alloc (.cells #[.slice c.A c.n c.cap, .int .i64 c.ch, .int .i64 c.sb, .int .i64 c.cl, .int .i64 c.qu, .int .i64 c.close, .int .i64 c.long, .int .i64 c.ag, .int .i64 c.wi, .int .u64 c.r, .int .u64 c.sq] 25)) 56 #[.int .i64 x.now, .slice x.listA x.listN x.listC, .slice x.fatesA x.fatesN x.fatesC, .int .i64 x.node, .int .u64 x.epoch, .int .u64 x.round, .slice x.chainA x.chainN x.chainC, .slice x.peersA x.peersN x.peersC, .slice x.standA x.standN x.standC, .int .i64 x.start, .bool x.closed, .slice x.onA x.onN x.onC, .slice x.backA x.backN x.backC, .bool x.noch, .bool x.chalt, .slice x.serversA x.serversN x.serversC, .slice x.deadA x.deadN x.deadC, .slice x.clientsA x.clientsN x.clientsC, .slice x.drawsA x.drawsN x.drawsC, .slice x.lastA x.lastN x.lastC, .slice x.boxesA x.boxesN x.boxesC, .slice x.logA x.logN x.logC, .bool x.halted] rfl
  simp only [World.size_alloc] at gW
  have hb : Below w.heap.size w ((w.alloc (.cells #[.slice c.A c.n c.cap, .int .i64 c.ch, .int .i64 c.sb, .int .i64 c.cl, .int .i64 c.qu, .int .i64 c.close, .int .i64 c.long, .int .i64 c.ag, .int .i64 c.wi, .int .u64 c.r, .int .u64 c.sq] 25)).alloc (.cells #[.int .i64 x.now, .slice x.listA x.listN x.listC, .slice x.fatesA x.fatesN x.fatesC, .int .i64 x.node, .int .u64 x.epoch, .int .u64 x.round, .slice x.chainA x.chainN x.chainC, .slice x.peersA x.peersN x.peersC, .slice x.standA x.standN x.standC, .int .i64 x.start, .bool x.closed, .slice x.onA x.onN x.onC, .slice x.backA x.backN x.backC, .bool x.noch, .bool x.chalt, .slice x.serversA x.serversN x.serversC, .slice x.deadA x.deadN x.deadC, .slice x.clientsA x.clientsN x.clientsC, .slice x.drawsA x.drawsN x.drawsC, .slice x.lastA x.lastN x.lastC, .slice x.boxesA x.boxesN x.boxesC, .slice x.logA x.logN x.logC, .bool x.halted] 56)) := ((Below.refl _ _).alloc (Nat.le_refl _) _).alloc (by simp) _
  go_wp2_with (first
    | (with_reducible refine wpList_load_blk (by with_unfolding_all rfl) 56 (.tmp 4) (by with_unfolding_all rfl) _ (by with_unfolding_all rfl) gW Try.underlying56 (by with_unfolding_all rfl) size_wd (by with_unfolding_all rfl) ?_)
    | (with_reducible refine wpList_load_blk (by with_unfolding_all rfl) 25 (.tmp 3) (by with_unfolding_all rfl) _ (by with_unfolding_all rfl) gC Try.underlying25 (by with_unfolding_all rfl) size_cfg (by with_unfolding_all rfl) ?_))
  refine (failed_at (OK.out.below hb hb.size) HD.out HV.out).mono ?_; rintro e w1 ⟨rfl, hb1⟩
  replace gC := gC.below hb1 gC.lt
  replace gW := gW.below hb1 (by simp)
  replace hb := hb.trans (hb1.mono (by simp; omega))
  clear hb1
  go_wp2_with (first
    | (with_reducible refine wpList_load_blk (by with_unfolding_all rfl) 56 (.tmp 4) (by with_unfolding_all rfl) _ (by with_unfolding_all rfl) gW Try.underlying56 (by with_unfolding_all rfl) size_wd (by with_unfolding_all rfl) ?_)
    | (with_reducible refine wpList_load_blk (by with_unfolding_all rfl) 25 (.tmp 3) (by with_unfolding_all rfl) _ (by with_unfolding_all rfl) gC Try.underlying25 (by with_unfolding_all rfl) size_cfg (by with_unfolding_all rfl) ?_))
  refine (sure_at (OK.out.below hb hb.size) HS.out).mono ?_; rintro e w2 ⟨rfl, hb1⟩
  replace gC := gC.below hb1 gC.lt
  replace gW := gW.below hb1 gW.lt
  replace hb := hb.trans (hb1.mono hb.size)
  clear hb1 w1
  have y2 := gW.cell 2 (v := .slice x.fatesA x.fatesN x.fatesC) rfl
  have y5 := gW.cell 5 (v := .int .u64 x.round) rfl
  have y8 := gW.cell 8 (v := .slice x.standA x.standN x.standC) rfl
  have y22 := gW.cell 22 (v := .bool x.halted) rfl
  rw [HH.out] at y22
  go_wp2_with (first
    | (with_reducible refine wpList_load_blk (by with_unfolding_all rfl) 56 (.tmp 4) (by with_unfolding_all rfl) _ (by with_unfolding_all rfl) gW Try.underlying56 (by with_unfolding_all rfl) size_wd (by with_unfolding_all rfl) ?_)
    | (with_reducible refine wpList_load_blk (by with_unfolding_all rfl) 25 (.tmp 3) (by with_unfolding_all rfl) _ (by with_unfolding_all rfl) gC Try.underlying25 (by with_unfolding_all rfl) size_cfg (by with_unfolding_all rfl) ?_))
  go_ret
  exact ⟨rfl, hb⟩

set_option maxHeartbeats 1000000 in
set_option maxRecDepth 100000 in
theorem dead_la {c : Cf} {x : Wd} {ch st : List Int} {dl : List Bool} {ft : List Int} {d : Int} {w : World} {D V : Nat} {H : Bool} (OK : Hid (WdOk w w.heap.size x ch st dl ft)) (e1 : decide (500 < (x.fatesN : Int)) = false) (e2 : decide (60 < (x.deadN : Int)) = false) (e3 : decide (60 < (x.standN : Int)) = false) (e4 : decide (60 < (x.chainN : Int)) = false)
    (HD : Hid (deadN dl (chainOf c ch) = D)) (HV : Hid (liveN dl st = V)) (v1 : decide (x.standN < V) = false) (HS : Hid (sureB c x ch st dl ft d = false)) (HH : Hid (x.halted = H)) (HL : Hid (longB c d = false)) (d1 : decide (V ≤ D) = false)  :
    Calls Try.prog 6 #[.agg #[.slice c.A c.n c.cap, .int .i64 c.ch, .int .i64 c.sb, .int .i64 c.cl, .int .i64 c.qu, .int .i64 c.close, .int .i64 c.long, .int .i64 c.ag, .int .i64 c.wi, .int .u64 c.r, .int .u64 c.sq], .agg #[.int .i64 x.now, .slice x.listA x.listN x.listC, .slice x.fatesA x.fatesN x.fatesC, .int .i64 x.node, .int .u64 x.epoch, .int .u64 x.round, .slice x.chainA x.chainN x.chainC, .slice x.peersA x.peersN x.peersC, .slice x.standA x.standN x.standC, .int .i64 x.start, .bool x.closed, .slice x.onA x.onN x.onC, .slice x.backA x.backN x.backC, .bool x.noch, .bool x.chalt, .slice x.serversA x.serversN x.serversC, .slice x.deadA x.deadN x.deadC, .slice x.clientsA x.clientsN x.clientsC, .slice x.drawsA x.drawsN x.drawsC, .slice x.lastA x.lastN x.lastC, .slice x.boxesA x.boxesN x.boxesC, .slice x.logA x.logN x.logC, .bool x.halted], .int .i64 d] w fun e w' => e = .returned (.bool true) ∧ Below w.heap.size w w' := by
  go_enter Try.func6, Try.ntmps6
  go_wp2_with fail
  refine (live22 _).mono ?_; rintro e w' ⟨rfl, rfl⟩
  have gC := (Blk.new w 25 #[.slice c.A c.n c.cap, .int .i64 c.ch, .int .i64 c.sb, .int .i64 c.cl, .int .i64 c.qu, .int .i64 c.close, .int .i64 c.long, .int .i64 c.ag, .int .i64 c.wi, .int .u64 c.r, .int .u64 c.sq] rfl).alloc (.cells #[.int .i64 x.now, .slice x.listA x.listN x.listC, .slice x.fatesA x.fatesN x.fatesC, .int .i64 x.node, .int .u64 x.epoch, .int .u64 x.round, .slice x.chainA x.chainN x.chainC, .slice x.peersA x.peersN x.peersC, .slice x.standA x.standN x.standC, .int .i64 x.start, .bool x.closed, .slice x.onA x.onN x.onC, .slice x.backA x.backN x.backC, .bool x.noch, .bool x.chalt, .slice x.serversA x.serversN x.serversC, .slice x.deadA x.deadN x.deadC, .slice x.clientsA x.clientsN x.clientsC, .slice x.drawsA x.drawsN x.drawsC, .slice x.lastA x.lastN x.lastC, .slice x.boxesA x.boxesN x.boxesC, .slice x.logA x.logN x.logC, .bool x.halted] 56)
  have gW := Blk.new (w.alloc (.cells #[.slice c.A c.n c.cap, .int .i64 c.ch, .int .i64 c.sb, .int .i64 c.cl, .int .i64 c.qu, .int .i64 c.close, .int .i64 c.long, .int .i64 c.ag, .int .i64 c.wi, .int .u64 c.r, .int .u64 c.sq] 25)) 56 #[.int .i64 x.now, .slice x.listA x.listN x.listC, .slice x.fatesA x.fatesN x.fatesC, .int .i64 x.node, .int .u64 x.epoch, .int .u64 x.round, .slice x.chainA x.chainN x.chainC, .slice x.peersA x.peersN x.peersC, .slice x.standA x.standN x.standC, .int .i64 x.start, .bool x.closed, .slice x.onA x.onN x.onC, .slice x.backA x.backN x.backC, .bool x.noch, .bool x.chalt, .slice x.serversA x.serversN x.serversC, .slice x.deadA x.deadN x.deadC, .slice x.clientsA x.clientsN x.clientsC, .slice x.drawsA x.drawsN x.drawsC, .slice x.lastA x.lastN x.lastC, .slice x.boxesA x.boxesN x.boxesC, .slice x.logA x.logN x.logC, .bool x.halted] rfl
  simp only [World.size_alloc] at gW
  have hb : Below w.heap.size w ((w.alloc (.cells #[.slice c.A c.n c.cap, .int .i64 c.ch, .int .i64 c.sb, .int .i64 c.cl, .int .i64 c.qu, .int .i64 c.close, .int .i64 c.long, .int .i64 c.ag, .int .i64 c.wi, .int .u64 c.r, .int .u64 c.sq] 25)).alloc (.cells #[.int .i64 x.now, .slice x.listA x.listN x.listC, .slice x.fatesA x.fatesN x.fatesC, .int .i64 x.node, .int .u64 x.epoch, .int .u64 x.round, .slice x.chainA x.chainN x.chainC, .slice x.peersA x.peersN x.peersC, .slice x.standA x.standN x.standC, .int .i64 x.start, .bool x.closed, .slice x.onA x.onN x.onC, .slice x.backA x.backN x.backC, .bool x.noch, .bool x.chalt, .slice x.serversA x.serversN x.serversC, .slice x.deadA x.deadN x.deadC, .slice x.clientsA x.clientsN x.clientsC, .slice x.drawsA x.drawsN x.drawsC, .slice x.lastA x.lastN x.lastC, .slice x.boxesA x.boxesN x.boxesC, .slice x.logA x.logN x.logC, .bool x.halted] 56)) := ((Below.refl _ _).alloc (Nat.le_refl _) _).alloc (by simp) _
  go_wp2_with (first
    | (with_reducible refine wpList_load_blk (by with_unfolding_all rfl) 56 (.tmp 4) (by with_unfolding_all rfl) _ (by with_unfolding_all rfl) gW Try.underlying56 (by with_unfolding_all rfl) size_wd (by with_unfolding_all rfl) ?_)
    | (with_reducible refine wpList_load_blk (by with_unfolding_all rfl) 25 (.tmp 3) (by with_unfolding_all rfl) _ (by with_unfolding_all rfl) gC Try.underlying25 (by with_unfolding_all rfl) size_cfg (by with_unfolding_all rfl) ?_))
  refine (failed_at (OK.out.below hb hb.size) HD.out HV.out).mono ?_; rintro e w1 ⟨rfl, hb1⟩
  replace gC := gC.below hb1 gC.lt
  replace gW := gW.below hb1 (by simp)
  replace hb := hb.trans (hb1.mono (by simp; omega))
  clear hb1
  go_wp2_with (first
    | (with_reducible refine wpList_load_blk (by with_unfolding_all rfl) 56 (.tmp 4) (by with_unfolding_all rfl) _ (by with_unfolding_all rfl) gW Try.underlying56 (by with_unfolding_all rfl) size_wd (by with_unfolding_all rfl) ?_)
    | (with_reducible refine wpList_load_blk (by with_unfolding_all rfl) 25 (.tmp 3) (by with_unfolding_all rfl) _ (by with_unfolding_all rfl) gC Try.underlying25 (by with_unfolding_all rfl) size_cfg (by with_unfolding_all rfl) ?_))
  refine (sure_at (OK.out.below hb hb.size) HS.out).mono ?_; rintro e w2 ⟨rfl, hb1⟩
  replace gC := gC.below hb1 gC.lt
  replace gW := gW.below hb1 gW.lt
  replace hb := hb.trans (hb1.mono hb.size)
  clear hb1 w1
  have y2 := gW.cell 2 (v := .slice x.fatesA x.fatesN x.fatesC) rfl
  have y5 := gW.cell 5 (v := .int .u64 x.round) rfl
  have y8 := gW.cell 8 (v := .slice x.standA x.standN x.standC) rfl
  have y22 := gW.cell 22 (v := .bool x.halted) rfl
  rw [HH.out] at y22
  go_wp2_with (first
    | (with_reducible refine wpList_load_blk (by with_unfolding_all rfl) 56 (.tmp 4) (by with_unfolding_all rfl) _ (by with_unfolding_all rfl) gW Try.underlying56 (by with_unfolding_all rfl) size_wd (by with_unfolding_all rfl) ?_)
    | (with_reducible refine wpList_load_blk (by with_unfolding_all rfl) 25 (.tmp 3) (by with_unfolding_all rfl) _ (by with_unfolding_all rfl) gC Try.underlying25 (by with_unfolding_all rfl) size_cfg (by with_unfolding_all rfl) ?_))
  refine (long_at HL.out _).mono ?_; rintro e w3 ⟨rfl, hb1⟩
  replace gC := gC.below hb1 gC.lt
  replace gW := gW.below hb1 gW.lt
  replace hb := hb.trans (hb1.mono hb.size)
  replace y2 := gW.cell 2 (v := .slice x.fatesA x.fatesN x.fatesC) rfl
  replace y5 := gW.cell 5 (v := .int .u64 x.round) rfl
  replace y8 := gW.cell 8 (v := .slice x.standA x.standN x.standC) rfl
  replace y22 := gW.cell 22 (v := .bool x.halted) rfl
  rw [HH.out] at y22
  clear hb1
  go_wp2_with (first
    | (with_reducible refine wpList_load_blk (by with_unfolding_all rfl) 56 (.tmp 4) (by with_unfolding_all rfl) _ (by with_unfolding_all rfl) gW Try.underlying56 (by with_unfolding_all rfl) size_wd (by with_unfolding_all rfl) ?_)
    | (with_reducible refine wpList_load_blk (by with_unfolding_all rfl) 25 (.tmp 3) (by with_unfolding_all rfl) _ (by with_unfolding_all rfl) gC Try.underlying25 (by with_unfolding_all rfl) size_cfg (by with_unfolding_all rfl) ?_))
  go_ret
  exact ⟨rfl, hb⟩

set_option maxHeartbeats 1000000 in
set_option maxRecDepth 100000 in
theorem dead_na {c : Cf} {x : Wd} {ch st : List Int} {dl : List Bool} {ft : List Int} {d : Int} {w : World} {D V : Nat} {H : Bool} (OK : Hid (WdOk w w.heap.size x ch st dl ft)) (e1 : decide (500 < (x.fatesN : Int)) = false) (e2 : decide (60 < (x.deadN : Int)) = false) (e3 : decide (60 < (x.standN : Int)) = false) (e4 : decide (60 < (x.chainN : Int)) = false)
    (HD : Hid (deadN dl (chainOf c ch) = D)) (HV : Hid (liveN dl st = V)) (v1 : decide (x.standN < V) = false) (HS : Hid (sureB c x ch st dl ft d = false)) (HH : Hid (x.halted = H)) (HL : Hid (longB c d = true)) (HF : Hid (fineB ft d = false)) (d1 : decide (V ≤ D) = false)  :
    Calls Try.prog 6 #[.agg #[.slice c.A c.n c.cap, .int .i64 c.ch, .int .i64 c.sb, .int .i64 c.cl, .int .i64 c.qu, .int .i64 c.close, .int .i64 c.long, .int .i64 c.ag, .int .i64 c.wi, .int .u64 c.r, .int .u64 c.sq], .agg #[.int .i64 x.now, .slice x.listA x.listN x.listC, .slice x.fatesA x.fatesN x.fatesC, .int .i64 x.node, .int .u64 x.epoch, .int .u64 x.round, .slice x.chainA x.chainN x.chainC, .slice x.peersA x.peersN x.peersC, .slice x.standA x.standN x.standC, .int .i64 x.start, .bool x.closed, .slice x.onA x.onN x.onC, .slice x.backA x.backN x.backC, .bool x.noch, .bool x.chalt, .slice x.serversA x.serversN x.serversC, .slice x.deadA x.deadN x.deadC, .slice x.clientsA x.clientsN x.clientsC, .slice x.drawsA x.drawsN x.drawsC, .slice x.lastA x.lastN x.lastC, .slice x.boxesA x.boxesN x.boxesC, .slice x.logA x.logN x.logC, .bool x.halted], .int .i64 d] w fun e w' => e = .returned (.bool true) ∧ Below w.heap.size w w' := by
  go_enter Try.func6, Try.ntmps6
  go_wp2_with fail
  refine (live22 _).mono ?_; rintro e w' ⟨rfl, rfl⟩
  have gC := (Blk.new w 25 #[.slice c.A c.n c.cap, .int .i64 c.ch, .int .i64 c.sb, .int .i64 c.cl, .int .i64 c.qu, .int .i64 c.close, .int .i64 c.long, .int .i64 c.ag, .int .i64 c.wi, .int .u64 c.r, .int .u64 c.sq] rfl).alloc (.cells #[.int .i64 x.now, .slice x.listA x.listN x.listC, .slice x.fatesA x.fatesN x.fatesC, .int .i64 x.node, .int .u64 x.epoch, .int .u64 x.round, .slice x.chainA x.chainN x.chainC, .slice x.peersA x.peersN x.peersC, .slice x.standA x.standN x.standC, .int .i64 x.start, .bool x.closed, .slice x.onA x.onN x.onC, .slice x.backA x.backN x.backC, .bool x.noch, .bool x.chalt, .slice x.serversA x.serversN x.serversC, .slice x.deadA x.deadN x.deadC, .slice x.clientsA x.clientsN x.clientsC, .slice x.drawsA x.drawsN x.drawsC, .slice x.lastA x.lastN x.lastC, .slice x.boxesA x.boxesN x.boxesC, .slice x.logA x.logN x.logC, .bool x.halted] 56)
  have gW := Blk.new (w.alloc (.cells #[.slice c.A c.n c.cap, .int .i64 c.ch, .int .i64 c.sb, .int .i64 c.cl, .int .i64 c.qu, .int .i64 c.close, .int .i64 c.long, .int .i64 c.ag, .int .i64 c.wi, .int .u64 c.r, .int .u64 c.sq] 25)) 56 #[.int .i64 x.now, .slice x.listA x.listN x.listC, .slice x.fatesA x.fatesN x.fatesC, .int .i64 x.node, .int .u64 x.epoch, .int .u64 x.round, .slice x.chainA x.chainN x.chainC, .slice x.peersA x.peersN x.peersC, .slice x.standA x.standN x.standC, .int .i64 x.start, .bool x.closed, .slice x.onA x.onN x.onC, .slice x.backA x.backN x.backC, .bool x.noch, .bool x.chalt, .slice x.serversA x.serversN x.serversC, .slice x.deadA x.deadN x.deadC, .slice x.clientsA x.clientsN x.clientsC, .slice x.drawsA x.drawsN x.drawsC, .slice x.lastA x.lastN x.lastC, .slice x.boxesA x.boxesN x.boxesC, .slice x.logA x.logN x.logC, .bool x.halted] rfl
  simp only [World.size_alloc] at gW
  have hb : Below w.heap.size w ((w.alloc (.cells #[.slice c.A c.n c.cap, .int .i64 c.ch, .int .i64 c.sb, .int .i64 c.cl, .int .i64 c.qu, .int .i64 c.close, .int .i64 c.long, .int .i64 c.ag, .int .i64 c.wi, .int .u64 c.r, .int .u64 c.sq] 25)).alloc (.cells #[.int .i64 x.now, .slice x.listA x.listN x.listC, .slice x.fatesA x.fatesN x.fatesC, .int .i64 x.node, .int .u64 x.epoch, .int .u64 x.round, .slice x.chainA x.chainN x.chainC, .slice x.peersA x.peersN x.peersC, .slice x.standA x.standN x.standC, .int .i64 x.start, .bool x.closed, .slice x.onA x.onN x.onC, .slice x.backA x.backN x.backC, .bool x.noch, .bool x.chalt, .slice x.serversA x.serversN x.serversC, .slice x.deadA x.deadN x.deadC, .slice x.clientsA x.clientsN x.clientsC, .slice x.drawsA x.drawsN x.drawsC, .slice x.lastA x.lastN x.lastC, .slice x.boxesA x.boxesN x.boxesC, .slice x.logA x.logN x.logC, .bool x.halted] 56)) := ((Below.refl _ _).alloc (Nat.le_refl _) _).alloc (by simp) _
  go_wp2_with (first
    | (with_reducible refine wpList_load_blk (by with_unfolding_all rfl) 56 (.tmp 4) (by with_unfolding_all rfl) _ (by with_unfolding_all rfl) gW Try.underlying56 (by with_unfolding_all rfl) size_wd (by with_unfolding_all rfl) ?_)
    | (with_reducible refine wpList_load_blk (by with_unfolding_all rfl) 25 (.tmp 3) (by with_unfolding_all rfl) _ (by with_unfolding_all rfl) gC Try.underlying25 (by with_unfolding_all rfl) size_cfg (by with_unfolding_all rfl) ?_))
  refine (failed_at (OK.out.below hb hb.size) HD.out HV.out).mono ?_; rintro e w1 ⟨rfl, hb1⟩
  replace gC := gC.below hb1 gC.lt
  replace gW := gW.below hb1 (by simp)
  replace hb := hb.trans (hb1.mono (by simp; omega))
  clear hb1
  go_wp2_with (first
    | (with_reducible refine wpList_load_blk (by with_unfolding_all rfl) 56 (.tmp 4) (by with_unfolding_all rfl) _ (by with_unfolding_all rfl) gW Try.underlying56 (by with_unfolding_all rfl) size_wd (by with_unfolding_all rfl) ?_)
    | (with_reducible refine wpList_load_blk (by with_unfolding_all rfl) 25 (.tmp 3) (by with_unfolding_all rfl) _ (by with_unfolding_all rfl) gC Try.underlying25 (by with_unfolding_all rfl) size_cfg (by with_unfolding_all rfl) ?_))
  refine (sure_at (OK.out.below hb hb.size) HS.out).mono ?_; rintro e w2 ⟨rfl, hb1⟩
  replace gC := gC.below hb1 gC.lt
  replace gW := gW.below hb1 gW.lt
  replace hb := hb.trans (hb1.mono hb.size)
  clear hb1 w1
  have y2 := gW.cell 2 (v := .slice x.fatesA x.fatesN x.fatesC) rfl
  have y5 := gW.cell 5 (v := .int .u64 x.round) rfl
  have y8 := gW.cell 8 (v := .slice x.standA x.standN x.standC) rfl
  have y22 := gW.cell 22 (v := .bool x.halted) rfl
  rw [HH.out] at y22
  go_wp2_with (first
    | (with_reducible refine wpList_load_blk (by with_unfolding_all rfl) 56 (.tmp 4) (by with_unfolding_all rfl) _ (by with_unfolding_all rfl) gW Try.underlying56 (by with_unfolding_all rfl) size_wd (by with_unfolding_all rfl) ?_)
    | (with_reducible refine wpList_load_blk (by with_unfolding_all rfl) 25 (.tmp 3) (by with_unfolding_all rfl) _ (by with_unfolding_all rfl) gC Try.underlying25 (by with_unfolding_all rfl) size_cfg (by with_unfolding_all rfl) ?_))
  refine (long_at HL.out _).mono ?_; rintro e w3 ⟨rfl, hb1⟩
  replace gC := gC.below hb1 gC.lt
  replace gW := gW.below hb1 gW.lt
  replace hb := hb.trans (hb1.mono hb.size)
  replace y2 := gW.cell 2 (v := .slice x.fatesA x.fatesN x.fatesC) rfl
  replace y5 := gW.cell 5 (v := .int .u64 x.round) rfl
  replace y8 := gW.cell 8 (v := .slice x.standA x.standN x.standC) rfl
  replace y22 := gW.cell 22 (v := .bool x.halted) rfl
  rw [HH.out] at y22
  clear hb1
  go_wp2_with (first
    | (with_reducible refine wpList_load_blk (by with_unfolding_all rfl) 56 (.tmp 4) (by with_unfolding_all rfl) _ (by with_unfolding_all rfl) gW Try.underlying56 (by with_unfolding_all rfl) size_wd (by with_unfolding_all rfl) ?_)
    | (with_reducible refine wpList_load_blk (by with_unfolding_all rfl) 25 (.tmp 3) (by with_unfolding_all rfl) _ (by with_unfolding_all rfl) gC Try.underlying25 (by with_unfolding_all rfl) size_cfg (by with_unfolding_all rfl) ?_))
  refine (fine_at OK.out.fatesN HF.out _ (OK.out.fates.below hb (Nat.le_refl _)) OK.out.fatesM).mono ?_; rintro e w' ⟨rfl, rfl⟩
  go_wp2_with (first
    | (with_reducible refine wpList_load_blk (by with_unfolding_all rfl) 56 (.tmp 4) (by with_unfolding_all rfl) _ (by with_unfolding_all rfl) gW Try.underlying56 (by with_unfolding_all rfl) size_wd (by with_unfolding_all rfl) ?_)
    | (with_reducible refine wpList_load_blk (by with_unfolding_all rfl) 25 (.tmp 3) (by with_unfolding_all rfl) _ (by with_unfolding_all rfl) gC Try.underlying25 (by with_unfolding_all rfl) size_cfg (by with_unfolding_all rfl) ?_))
  go_ret
  exact ⟨rfl, hb⟩

set_option maxHeartbeats 1000000 in
set_option maxRecDepth 100000 in
theorem dead_ha {c : Cf} {x : Wd} {ch st : List Int} {dl : List Bool} {ft : List Int} {d : Int} {w : World} {D V : Nat} (OK : Hid (WdOk w w.heap.size x ch st dl ft)) (e1 : decide (500 < (x.fatesN : Int)) = false) (e2 : decide (60 < (x.deadN : Int)) = false) (e3 : decide (60 < (x.standN : Int)) = false) (e4 : decide (60 < (x.chainN : Int)) = false)
    (HD : Hid (deadN dl (chainOf c ch) = D)) (HV : Hid (liveN dl st = V)) (v1 : decide (x.standN < V) = false) (HS : Hid (sureB c x ch st dl ft d = false)) (HH : Hid (x.halted = true)) (HL : Hid (longB c d = true)) (HF : Hid (fineB ft d = true)) (d1 : decide (V ≤ D) = false)  :
    Calls Try.prog 6 #[.agg #[.slice c.A c.n c.cap, .int .i64 c.ch, .int .i64 c.sb, .int .i64 c.cl, .int .i64 c.qu, .int .i64 c.close, .int .i64 c.long, .int .i64 c.ag, .int .i64 c.wi, .int .u64 c.r, .int .u64 c.sq], .agg #[.int .i64 x.now, .slice x.listA x.listN x.listC, .slice x.fatesA x.fatesN x.fatesC, .int .i64 x.node, .int .u64 x.epoch, .int .u64 x.round, .slice x.chainA x.chainN x.chainC, .slice x.peersA x.peersN x.peersC, .slice x.standA x.standN x.standC, .int .i64 x.start, .bool x.closed, .slice x.onA x.onN x.onC, .slice x.backA x.backN x.backC, .bool x.noch, .bool x.chalt, .slice x.serversA x.serversN x.serversC, .slice x.deadA x.deadN x.deadC, .slice x.clientsA x.clientsN x.clientsC, .slice x.drawsA x.drawsN x.drawsC, .slice x.lastA x.lastN x.lastC, .slice x.boxesA x.boxesN x.boxesC, .slice x.logA x.logN x.logC, .bool x.halted], .int .i64 d] w fun e w' => e = .returned (.bool true) ∧ Below w.heap.size w w' := by
  go_enter Try.func6, Try.ntmps6
  go_wp2_with fail
  refine (live22 _).mono ?_; rintro e w' ⟨rfl, rfl⟩
  have gC := (Blk.new w 25 #[.slice c.A c.n c.cap, .int .i64 c.ch, .int .i64 c.sb, .int .i64 c.cl, .int .i64 c.qu, .int .i64 c.close, .int .i64 c.long, .int .i64 c.ag, .int .i64 c.wi, .int .u64 c.r, .int .u64 c.sq] rfl).alloc (.cells #[.int .i64 x.now, .slice x.listA x.listN x.listC, .slice x.fatesA x.fatesN x.fatesC, .int .i64 x.node, .int .u64 x.epoch, .int .u64 x.round, .slice x.chainA x.chainN x.chainC, .slice x.peersA x.peersN x.peersC, .slice x.standA x.standN x.standC, .int .i64 x.start, .bool x.closed, .slice x.onA x.onN x.onC, .slice x.backA x.backN x.backC, .bool x.noch, .bool x.chalt, .slice x.serversA x.serversN x.serversC, .slice x.deadA x.deadN x.deadC, .slice x.clientsA x.clientsN x.clientsC, .slice x.drawsA x.drawsN x.drawsC, .slice x.lastA x.lastN x.lastC, .slice x.boxesA x.boxesN x.boxesC, .slice x.logA x.logN x.logC, .bool x.halted] 56)
  have gW := Blk.new (w.alloc (.cells #[.slice c.A c.n c.cap, .int .i64 c.ch, .int .i64 c.sb, .int .i64 c.cl, .int .i64 c.qu, .int .i64 c.close, .int .i64 c.long, .int .i64 c.ag, .int .i64 c.wi, .int .u64 c.r, .int .u64 c.sq] 25)) 56 #[.int .i64 x.now, .slice x.listA x.listN x.listC, .slice x.fatesA x.fatesN x.fatesC, .int .i64 x.node, .int .u64 x.epoch, .int .u64 x.round, .slice x.chainA x.chainN x.chainC, .slice x.peersA x.peersN x.peersC, .slice x.standA x.standN x.standC, .int .i64 x.start, .bool x.closed, .slice x.onA x.onN x.onC, .slice x.backA x.backN x.backC, .bool x.noch, .bool x.chalt, .slice x.serversA x.serversN x.serversC, .slice x.deadA x.deadN x.deadC, .slice x.clientsA x.clientsN x.clientsC, .slice x.drawsA x.drawsN x.drawsC, .slice x.lastA x.lastN x.lastC, .slice x.boxesA x.boxesN x.boxesC, .slice x.logA x.logN x.logC, .bool x.halted] rfl
  simp only [World.size_alloc] at gW
  have hb : Below w.heap.size w ((w.alloc (.cells #[.slice c.A c.n c.cap, .int .i64 c.ch, .int .i64 c.sb, .int .i64 c.cl, .int .i64 c.qu, .int .i64 c.close, .int .i64 c.long, .int .i64 c.ag, .int .i64 c.wi, .int .u64 c.r, .int .u64 c.sq] 25)).alloc (.cells #[.int .i64 x.now, .slice x.listA x.listN x.listC, .slice x.fatesA x.fatesN x.fatesC, .int .i64 x.node, .int .u64 x.epoch, .int .u64 x.round, .slice x.chainA x.chainN x.chainC, .slice x.peersA x.peersN x.peersC, .slice x.standA x.standN x.standC, .int .i64 x.start, .bool x.closed, .slice x.onA x.onN x.onC, .slice x.backA x.backN x.backC, .bool x.noch, .bool x.chalt, .slice x.serversA x.serversN x.serversC, .slice x.deadA x.deadN x.deadC, .slice x.clientsA x.clientsN x.clientsC, .slice x.drawsA x.drawsN x.drawsC, .slice x.lastA x.lastN x.lastC, .slice x.boxesA x.boxesN x.boxesC, .slice x.logA x.logN x.logC, .bool x.halted] 56)) := ((Below.refl _ _).alloc (Nat.le_refl _) _).alloc (by simp) _
  go_wp2_with (first
    | (with_reducible refine wpList_load_blk (by with_unfolding_all rfl) 56 (.tmp 4) (by with_unfolding_all rfl) _ (by with_unfolding_all rfl) gW Try.underlying56 (by with_unfolding_all rfl) size_wd (by with_unfolding_all rfl) ?_)
    | (with_reducible refine wpList_load_blk (by with_unfolding_all rfl) 25 (.tmp 3) (by with_unfolding_all rfl) _ (by with_unfolding_all rfl) gC Try.underlying25 (by with_unfolding_all rfl) size_cfg (by with_unfolding_all rfl) ?_))
  refine (failed_at (OK.out.below hb hb.size) HD.out HV.out).mono ?_; rintro e w1 ⟨rfl, hb1⟩
  replace gC := gC.below hb1 gC.lt
  replace gW := gW.below hb1 (by simp)
  replace hb := hb.trans (hb1.mono (by simp; omega))
  clear hb1
  go_wp2_with (first
    | (with_reducible refine wpList_load_blk (by with_unfolding_all rfl) 56 (.tmp 4) (by with_unfolding_all rfl) _ (by with_unfolding_all rfl) gW Try.underlying56 (by with_unfolding_all rfl) size_wd (by with_unfolding_all rfl) ?_)
    | (with_reducible refine wpList_load_blk (by with_unfolding_all rfl) 25 (.tmp 3) (by with_unfolding_all rfl) _ (by with_unfolding_all rfl) gC Try.underlying25 (by with_unfolding_all rfl) size_cfg (by with_unfolding_all rfl) ?_))
  refine (sure_at (OK.out.below hb hb.size) HS.out).mono ?_; rintro e w2 ⟨rfl, hb1⟩
  replace gC := gC.below hb1 gC.lt
  replace gW := gW.below hb1 gW.lt
  replace hb := hb.trans (hb1.mono hb.size)
  clear hb1 w1
  have y2 := gW.cell 2 (v := .slice x.fatesA x.fatesN x.fatesC) rfl
  have y5 := gW.cell 5 (v := .int .u64 x.round) rfl
  have y8 := gW.cell 8 (v := .slice x.standA x.standN x.standC) rfl
  have y22 := gW.cell 22 (v := .bool x.halted) rfl
  rw [HH.out] at y22
  go_wp2_with (first
    | (with_reducible refine wpList_load_blk (by with_unfolding_all rfl) 56 (.tmp 4) (by with_unfolding_all rfl) _ (by with_unfolding_all rfl) gW Try.underlying56 (by with_unfolding_all rfl) size_wd (by with_unfolding_all rfl) ?_)
    | (with_reducible refine wpList_load_blk (by with_unfolding_all rfl) 25 (.tmp 3) (by with_unfolding_all rfl) _ (by with_unfolding_all rfl) gC Try.underlying25 (by with_unfolding_all rfl) size_cfg (by with_unfolding_all rfl) ?_))
  refine (long_at HL.out _).mono ?_; rintro e w3 ⟨rfl, hb1⟩
  replace gC := gC.below hb1 gC.lt
  replace gW := gW.below hb1 gW.lt
  replace hb := hb.trans (hb1.mono hb.size)
  replace y2 := gW.cell 2 (v := .slice x.fatesA x.fatesN x.fatesC) rfl
  replace y5 := gW.cell 5 (v := .int .u64 x.round) rfl
  replace y8 := gW.cell 8 (v := .slice x.standA x.standN x.standC) rfl
  replace y22 := gW.cell 22 (v := .bool x.halted) rfl
  rw [HH.out] at y22
  clear hb1
  go_wp2_with (first
    | (with_reducible refine wpList_load_blk (by with_unfolding_all rfl) 56 (.tmp 4) (by with_unfolding_all rfl) _ (by with_unfolding_all rfl) gW Try.underlying56 (by with_unfolding_all rfl) size_wd (by with_unfolding_all rfl) ?_)
    | (with_reducible refine wpList_load_blk (by with_unfolding_all rfl) 25 (.tmp 3) (by with_unfolding_all rfl) _ (by with_unfolding_all rfl) gC Try.underlying25 (by with_unfolding_all rfl) size_cfg (by with_unfolding_all rfl) ?_))
  refine (fine_at OK.out.fatesN HF.out _ (OK.out.fates.below hb (Nat.le_refl _)) OK.out.fatesM).mono ?_; rintro e w' ⟨rfl, rfl⟩
  go_wp2_with (first
    | (with_reducible refine wpList_load_blk (by with_unfolding_all rfl) 56 (.tmp 4) (by with_unfolding_all rfl) _ (by with_unfolding_all rfl) gW Try.underlying56 (by with_unfolding_all rfl) size_wd (by with_unfolding_all rfl) ?_)
    | (with_reducible refine wpList_load_blk (by with_unfolding_all rfl) 25 (.tmp 3) (by with_unfolding_all rfl) _ (by with_unfolding_all rfl) gC Try.underlying25 (by with_unfolding_all rfl) size_cfg (by with_unfolding_all rfl) ?_))
  go_ret
  exact ⟨rfl, hb⟩

set_option maxHeartbeats 1000000 in
set_option maxRecDepth 100000 in
theorem dead_ra {c : Cf} {x : Wd} {ch st : List Int} {dl : List Bool} {ft : List Int} {d : Int} {w : World} {D V : Nat} (OK : Hid (WdOk w w.heap.size x ch st dl ft)) (e1 : decide (500 < (x.fatesN : Int)) = false) (e2 : decide (60 < (x.deadN : Int)) = false) (e3 : decide (60 < (x.standN : Int)) = false) (e4 : decide (60 < (x.chainN : Int)) = false)
    (HD : Hid (deadN dl (chainOf c ch) = D)) (HV : Hid (liveN dl st = V)) (v1 : decide (x.standN < V) = false) (HS : Hid (sureB c x ch st dl ft d = false)) (HH : Hid (x.halted = false)) (HL : Hid (longB c d = true)) (HF : Hid (fineB ft d = true)) (r1 : decide (x.round ≤ 18446744073709550615) = false) (d1 : decide (V ≤ D) = false)  :
    Calls Try.prog 6 #[.agg #[.slice c.A c.n c.cap, .int .i64 c.ch, .int .i64 c.sb, .int .i64 c.cl, .int .i64 c.qu, .int .i64 c.close, .int .i64 c.long, .int .i64 c.ag, .int .i64 c.wi, .int .u64 c.r, .int .u64 c.sq], .agg #[.int .i64 x.now, .slice x.listA x.listN x.listC, .slice x.fatesA x.fatesN x.fatesC, .int .i64 x.node, .int .u64 x.epoch, .int .u64 x.round, .slice x.chainA x.chainN x.chainC, .slice x.peersA x.peersN x.peersC, .slice x.standA x.standN x.standC, .int .i64 x.start, .bool x.closed, .slice x.onA x.onN x.onC, .slice x.backA x.backN x.backC, .bool x.noch, .bool x.chalt, .slice x.serversA x.serversN x.serversC, .slice x.deadA x.deadN x.deadC, .slice x.clientsA x.clientsN x.clientsC, .slice x.drawsA x.drawsN x.drawsC, .slice x.lastA x.lastN x.lastC, .slice x.boxesA x.boxesN x.boxesC, .slice x.logA x.logN x.logC, .bool x.halted], .int .i64 d] w fun e w' => e = .returned (.bool true) ∧ Below w.heap.size w w' := by
  go_enter Try.func6, Try.ntmps6
  go_wp2_with fail
  refine (live22 _).mono ?_; rintro e w' ⟨rfl, rfl⟩
  have gC := (Blk.new w 25 #[.slice c.A c.n c.cap, .int .i64 c.ch, .int .i64 c.sb, .int .i64 c.cl, .int .i64 c.qu, .int .i64 c.close, .int .i64 c.long, .int .i64 c.ag, .int .i64 c.wi, .int .u64 c.r, .int .u64 c.sq] rfl).alloc (.cells #[.int .i64 x.now, .slice x.listA x.listN x.listC, .slice x.fatesA x.fatesN x.fatesC, .int .i64 x.node, .int .u64 x.epoch, .int .u64 x.round, .slice x.chainA x.chainN x.chainC, .slice x.peersA x.peersN x.peersC, .slice x.standA x.standN x.standC, .int .i64 x.start, .bool x.closed, .slice x.onA x.onN x.onC, .slice x.backA x.backN x.backC, .bool x.noch, .bool x.chalt, .slice x.serversA x.serversN x.serversC, .slice x.deadA x.deadN x.deadC, .slice x.clientsA x.clientsN x.clientsC, .slice x.drawsA x.drawsN x.drawsC, .slice x.lastA x.lastN x.lastC, .slice x.boxesA x.boxesN x.boxesC, .slice x.logA x.logN x.logC, .bool x.halted] 56)
  have gW := Blk.new (w.alloc (.cells #[.slice c.A c.n c.cap, .int .i64 c.ch, .int .i64 c.sb, .int .i64 c.cl, .int .i64 c.qu, .int .i64 c.close, .int .i64 c.long, .int .i64 c.ag, .int .i64 c.wi, .int .u64 c.r, .int .u64 c.sq] 25)) 56 #[.int .i64 x.now, .slice x.listA x.listN x.listC, .slice x.fatesA x.fatesN x.fatesC, .int .i64 x.node, .int .u64 x.epoch, .int .u64 x.round, .slice x.chainA x.chainN x.chainC, .slice x.peersA x.peersN x.peersC, .slice x.standA x.standN x.standC, .int .i64 x.start, .bool x.closed, .slice x.onA x.onN x.onC, .slice x.backA x.backN x.backC, .bool x.noch, .bool x.chalt, .slice x.serversA x.serversN x.serversC, .slice x.deadA x.deadN x.deadC, .slice x.clientsA x.clientsN x.clientsC, .slice x.drawsA x.drawsN x.drawsC, .slice x.lastA x.lastN x.lastC, .slice x.boxesA x.boxesN x.boxesC, .slice x.logA x.logN x.logC, .bool x.halted] rfl
  simp only [World.size_alloc] at gW
  have hb : Below w.heap.size w ((w.alloc (.cells #[.slice c.A c.n c.cap, .int .i64 c.ch, .int .i64 c.sb, .int .i64 c.cl, .int .i64 c.qu, .int .i64 c.close, .int .i64 c.long, .int .i64 c.ag, .int .i64 c.wi, .int .u64 c.r, .int .u64 c.sq] 25)).alloc (.cells #[.int .i64 x.now, .slice x.listA x.listN x.listC, .slice x.fatesA x.fatesN x.fatesC, .int .i64 x.node, .int .u64 x.epoch, .int .u64 x.round, .slice x.chainA x.chainN x.chainC, .slice x.peersA x.peersN x.peersC, .slice x.standA x.standN x.standC, .int .i64 x.start, .bool x.closed, .slice x.onA x.onN x.onC, .slice x.backA x.backN x.backC, .bool x.noch, .bool x.chalt, .slice x.serversA x.serversN x.serversC, .slice x.deadA x.deadN x.deadC, .slice x.clientsA x.clientsN x.clientsC, .slice x.drawsA x.drawsN x.drawsC, .slice x.lastA x.lastN x.lastC, .slice x.boxesA x.boxesN x.boxesC, .slice x.logA x.logN x.logC, .bool x.halted] 56)) := ((Below.refl _ _).alloc (Nat.le_refl _) _).alloc (by simp) _
  go_wp2_with (first
    | (with_reducible refine wpList_load_blk (by with_unfolding_all rfl) 56 (.tmp 4) (by with_unfolding_all rfl) _ (by with_unfolding_all rfl) gW Try.underlying56 (by with_unfolding_all rfl) size_wd (by with_unfolding_all rfl) ?_)
    | (with_reducible refine wpList_load_blk (by with_unfolding_all rfl) 25 (.tmp 3) (by with_unfolding_all rfl) _ (by with_unfolding_all rfl) gC Try.underlying25 (by with_unfolding_all rfl) size_cfg (by with_unfolding_all rfl) ?_))
  refine (failed_at (OK.out.below hb hb.size) HD.out HV.out).mono ?_; rintro e w1 ⟨rfl, hb1⟩
  replace gC := gC.below hb1 gC.lt
  replace gW := gW.below hb1 (by simp)
  replace hb := hb.trans (hb1.mono (by simp; omega))
  clear hb1
  go_wp2_with (first
    | (with_reducible refine wpList_load_blk (by with_unfolding_all rfl) 56 (.tmp 4) (by with_unfolding_all rfl) _ (by with_unfolding_all rfl) gW Try.underlying56 (by with_unfolding_all rfl) size_wd (by with_unfolding_all rfl) ?_)
    | (with_reducible refine wpList_load_blk (by with_unfolding_all rfl) 25 (.tmp 3) (by with_unfolding_all rfl) _ (by with_unfolding_all rfl) gC Try.underlying25 (by with_unfolding_all rfl) size_cfg (by with_unfolding_all rfl) ?_))
  refine (sure_at (OK.out.below hb hb.size) HS.out).mono ?_; rintro e w2 ⟨rfl, hb1⟩
  replace gC := gC.below hb1 gC.lt
  replace gW := gW.below hb1 gW.lt
  replace hb := hb.trans (hb1.mono hb.size)
  clear hb1 w1
  have y2 := gW.cell 2 (v := .slice x.fatesA x.fatesN x.fatesC) rfl
  have y5 := gW.cell 5 (v := .int .u64 x.round) rfl
  have y8 := gW.cell 8 (v := .slice x.standA x.standN x.standC) rfl
  have y22 := gW.cell 22 (v := .bool x.halted) rfl
  rw [HH.out] at y22
  go_wp2_with (first
    | (with_reducible refine wpList_load_blk (by with_unfolding_all rfl) 56 (.tmp 4) (by with_unfolding_all rfl) _ (by with_unfolding_all rfl) gW Try.underlying56 (by with_unfolding_all rfl) size_wd (by with_unfolding_all rfl) ?_)
    | (with_reducible refine wpList_load_blk (by with_unfolding_all rfl) 25 (.tmp 3) (by with_unfolding_all rfl) _ (by with_unfolding_all rfl) gC Try.underlying25 (by with_unfolding_all rfl) size_cfg (by with_unfolding_all rfl) ?_))
  refine (long_at HL.out _).mono ?_; rintro e w3 ⟨rfl, hb1⟩
  replace gC := gC.below hb1 gC.lt
  replace gW := gW.below hb1 gW.lt
  replace hb := hb.trans (hb1.mono hb.size)
  replace y2 := gW.cell 2 (v := .slice x.fatesA x.fatesN x.fatesC) rfl
  replace y5 := gW.cell 5 (v := .int .u64 x.round) rfl
  replace y8 := gW.cell 8 (v := .slice x.standA x.standN x.standC) rfl
  replace y22 := gW.cell 22 (v := .bool x.halted) rfl
  rw [HH.out] at y22
  clear hb1
  go_wp2_with (first
    | (with_reducible refine wpList_load_blk (by with_unfolding_all rfl) 56 (.tmp 4) (by with_unfolding_all rfl) _ (by with_unfolding_all rfl) gW Try.underlying56 (by with_unfolding_all rfl) size_wd (by with_unfolding_all rfl) ?_)
    | (with_reducible refine wpList_load_blk (by with_unfolding_all rfl) 25 (.tmp 3) (by with_unfolding_all rfl) _ (by with_unfolding_all rfl) gC Try.underlying25 (by with_unfolding_all rfl) size_cfg (by with_unfolding_all rfl) ?_))
  refine (fine_at OK.out.fatesN HF.out _ (OK.out.fates.below hb (Nat.le_refl _)) OK.out.fatesM).mono ?_; rintro e w' ⟨rfl, rfl⟩
  go_wp2_with (first
    | (with_reducible refine wpList_load_blk (by with_unfolding_all rfl) 56 (.tmp 4) (by with_unfolding_all rfl) _ (by with_unfolding_all rfl) gW Try.underlying56 (by with_unfolding_all rfl) size_wd (by with_unfolding_all rfl) ?_)
    | (with_reducible refine wpList_load_blk (by with_unfolding_all rfl) 25 (.tmp 3) (by with_unfolding_all rfl) _ (by with_unfolding_all rfl) gC Try.underlying25 (by with_unfolding_all rfl) size_cfg (by with_unfolding_all rfl) ?_))
  go_ret
  exact ⟨rfl, hb⟩

set_option maxHeartbeats 1000000 in
set_option maxRecDepth 100000 in
theorem dead_lb {c : Cf} {x : Wd} {ch st : List Int} {dl : List Bool} {ft : List Int} {d : Int} {w : World} {D V : Nat} {H : Bool} (OK : Hid (WdOk w w.heap.size x ch st dl ft)) (e1 : decide (500 < (x.fatesN : Int)) = false) (e2 : decide (60 < (x.deadN : Int)) = false) (e3 : decide (60 < (x.standN : Int)) = false) (e4 : decide (60 < (x.chainN : Int)) = false)
    (HD : Hid (deadN dl (chainOf c ch) = D)) (HV : Hid (liveN dl st = V)) (v1 : decide (x.standN < V) = false) (HS : Hid (sureB c x ch st dl ft d = false)) (HH : Hid (x.halted = H)) (HL : Hid (longB c d = false)) (d1 : decide (V ≤ D) = true) (d2 : decide (0 < D) = false) (d3 : decide (0 < x.standN) = false)  :
    Calls Try.prog 6 #[.agg #[.slice c.A c.n c.cap, .int .i64 c.ch, .int .i64 c.sb, .int .i64 c.cl, .int .i64 c.qu, .int .i64 c.close, .int .i64 c.long, .int .i64 c.ag, .int .i64 c.wi, .int .u64 c.r, .int .u64 c.sq], .agg #[.int .i64 x.now, .slice x.listA x.listN x.listC, .slice x.fatesA x.fatesN x.fatesC, .int .i64 x.node, .int .u64 x.epoch, .int .u64 x.round, .slice x.chainA x.chainN x.chainC, .slice x.peersA x.peersN x.peersC, .slice x.standA x.standN x.standC, .int .i64 x.start, .bool x.closed, .slice x.onA x.onN x.onC, .slice x.backA x.backN x.backC, .bool x.noch, .bool x.chalt, .slice x.serversA x.serversN x.serversC, .slice x.deadA x.deadN x.deadC, .slice x.clientsA x.clientsN x.clientsC, .slice x.drawsA x.drawsN x.drawsC, .slice x.lastA x.lastN x.lastC, .slice x.boxesA x.boxesN x.boxesC, .slice x.logA x.logN x.logC, .bool x.halted], .int .i64 d] w fun e w' => e = .returned (.bool true) ∧ Below w.heap.size w w' := by
  go_enter Try.func6, Try.ntmps6
  go_wp2_with fail
  refine (live22 _).mono ?_; rintro e w' ⟨rfl, rfl⟩
  have gC := (Blk.new w 25 #[.slice c.A c.n c.cap, .int .i64 c.ch, .int .i64 c.sb, .int .i64 c.cl, .int .i64 c.qu, .int .i64 c.close, .int .i64 c.long, .int .i64 c.ag, .int .i64 c.wi, .int .u64 c.r, .int .u64 c.sq] rfl).alloc (.cells #[.int .i64 x.now, .slice x.listA x.listN x.listC, .slice x.fatesA x.fatesN x.fatesC, .int .i64 x.node, .int .u64 x.epoch, .int .u64 x.round, .slice x.chainA x.chainN x.chainC, .slice x.peersA x.peersN x.peersC, .slice x.standA x.standN x.standC, .int .i64 x.start, .bool x.closed, .slice x.onA x.onN x.onC, .slice x.backA x.backN x.backC, .bool x.noch, .bool x.chalt, .slice x.serversA x.serversN x.serversC, .slice x.deadA x.deadN x.deadC, .slice x.clientsA x.clientsN x.clientsC, .slice x.drawsA x.drawsN x.drawsC, .slice x.lastA x.lastN x.lastC, .slice x.boxesA x.boxesN x.boxesC, .slice x.logA x.logN x.logC, .bool x.halted] 56)
  have gW := Blk.new (w.alloc (.cells #[.slice c.A c.n c.cap, .int .i64 c.ch, .int .i64 c.sb, .int .i64 c.cl, .int .i64 c.qu, .int .i64 c.close, .int .i64 c.long, .int .i64 c.ag, .int .i64 c.wi, .int .u64 c.r, .int .u64 c.sq] 25)) 56 #[.int .i64 x.now, .slice x.listA x.listN x.listC, .slice x.fatesA x.fatesN x.fatesC, .int .i64 x.node, .int .u64 x.epoch, .int .u64 x.round, .slice x.chainA x.chainN x.chainC, .slice x.peersA x.peersN x.peersC, .slice x.standA x.standN x.standC, .int .i64 x.start, .bool x.closed, .slice x.onA x.onN x.onC, .slice x.backA x.backN x.backC, .bool x.noch, .bool x.chalt, .slice x.serversA x.serversN x.serversC, .slice x.deadA x.deadN x.deadC, .slice x.clientsA x.clientsN x.clientsC, .slice x.drawsA x.drawsN x.drawsC, .slice x.lastA x.lastN x.lastC, .slice x.boxesA x.boxesN x.boxesC, .slice x.logA x.logN x.logC, .bool x.halted] rfl
  simp only [World.size_alloc] at gW
  have hb : Below w.heap.size w ((w.alloc (.cells #[.slice c.A c.n c.cap, .int .i64 c.ch, .int .i64 c.sb, .int .i64 c.cl, .int .i64 c.qu, .int .i64 c.close, .int .i64 c.long, .int .i64 c.ag, .int .i64 c.wi, .int .u64 c.r, .int .u64 c.sq] 25)).alloc (.cells #[.int .i64 x.now, .slice x.listA x.listN x.listC, .slice x.fatesA x.fatesN x.fatesC, .int .i64 x.node, .int .u64 x.epoch, .int .u64 x.round, .slice x.chainA x.chainN x.chainC, .slice x.peersA x.peersN x.peersC, .slice x.standA x.standN x.standC, .int .i64 x.start, .bool x.closed, .slice x.onA x.onN x.onC, .slice x.backA x.backN x.backC, .bool x.noch, .bool x.chalt, .slice x.serversA x.serversN x.serversC, .slice x.deadA x.deadN x.deadC, .slice x.clientsA x.clientsN x.clientsC, .slice x.drawsA x.drawsN x.drawsC, .slice x.lastA x.lastN x.lastC, .slice x.boxesA x.boxesN x.boxesC, .slice x.logA x.logN x.logC, .bool x.halted] 56)) := ((Below.refl _ _).alloc (Nat.le_refl _) _).alloc (by simp) _
  go_wp2_with (first
    | (with_reducible refine wpList_load_blk (by with_unfolding_all rfl) 56 (.tmp 4) (by with_unfolding_all rfl) _ (by with_unfolding_all rfl) gW Try.underlying56 (by with_unfolding_all rfl) size_wd (by with_unfolding_all rfl) ?_)
    | (with_reducible refine wpList_load_blk (by with_unfolding_all rfl) 25 (.tmp 3) (by with_unfolding_all rfl) _ (by with_unfolding_all rfl) gC Try.underlying25 (by with_unfolding_all rfl) size_cfg (by with_unfolding_all rfl) ?_))
  refine (failed_at (OK.out.below hb hb.size) HD.out HV.out).mono ?_; rintro e w1 ⟨rfl, hb1⟩
  replace gC := gC.below hb1 gC.lt
  replace gW := gW.below hb1 (by simp)
  replace hb := hb.trans (hb1.mono (by simp; omega))
  clear hb1
  go_wp2_with (first
    | (with_reducible refine wpList_load_blk (by with_unfolding_all rfl) 56 (.tmp 4) (by with_unfolding_all rfl) _ (by with_unfolding_all rfl) gW Try.underlying56 (by with_unfolding_all rfl) size_wd (by with_unfolding_all rfl) ?_)
    | (with_reducible refine wpList_load_blk (by with_unfolding_all rfl) 25 (.tmp 3) (by with_unfolding_all rfl) _ (by with_unfolding_all rfl) gC Try.underlying25 (by with_unfolding_all rfl) size_cfg (by with_unfolding_all rfl) ?_))
  refine (sure_at (OK.out.below hb hb.size) HS.out).mono ?_; rintro e w2 ⟨rfl, hb1⟩
  replace gC := gC.below hb1 gC.lt
  replace gW := gW.below hb1 gW.lt
  replace hb := hb.trans (hb1.mono hb.size)
  clear hb1 w1
  have y2 := gW.cell 2 (v := .slice x.fatesA x.fatesN x.fatesC) rfl
  have y5 := gW.cell 5 (v := .int .u64 x.round) rfl
  have y8 := gW.cell 8 (v := .slice x.standA x.standN x.standC) rfl
  have y22 := gW.cell 22 (v := .bool x.halted) rfl
  rw [HH.out] at y22
  go_wp2_with (first
    | (with_reducible refine wpList_load_blk (by with_unfolding_all rfl) 56 (.tmp 4) (by with_unfolding_all rfl) _ (by with_unfolding_all rfl) gW Try.underlying56 (by with_unfolding_all rfl) size_wd (by with_unfolding_all rfl) ?_)
    | (with_reducible refine wpList_load_blk (by with_unfolding_all rfl) 25 (.tmp 3) (by with_unfolding_all rfl) _ (by with_unfolding_all rfl) gC Try.underlying25 (by with_unfolding_all rfl) size_cfg (by with_unfolding_all rfl) ?_))
  refine (long_at HL.out _).mono ?_; rintro e w3 ⟨rfl, hb1⟩
  replace gC := gC.below hb1 gC.lt
  replace gW := gW.below hb1 gW.lt
  replace hb := hb.trans (hb1.mono hb.size)
  replace y2 := gW.cell 2 (v := .slice x.fatesA x.fatesN x.fatesC) rfl
  replace y5 := gW.cell 5 (v := .int .u64 x.round) rfl
  replace y8 := gW.cell 8 (v := .slice x.standA x.standN x.standC) rfl
  replace y22 := gW.cell 22 (v := .bool x.halted) rfl
  rw [HH.out] at y22
  clear hb1
  go_wp2_with (first
    | (with_reducible refine wpList_load_blk (by with_unfolding_all rfl) 56 (.tmp 4) (by with_unfolding_all rfl) _ (by with_unfolding_all rfl) gW Try.underlying56 (by with_unfolding_all rfl) size_wd (by with_unfolding_all rfl) ?_)
    | (with_reducible refine wpList_load_blk (by with_unfolding_all rfl) 25 (.tmp 3) (by with_unfolding_all rfl) _ (by with_unfolding_all rfl) gC Try.underlying25 (by with_unfolding_all rfl) size_cfg (by with_unfolding_all rfl) ?_))
  go_ret
  exact ⟨rfl, hb⟩

set_option maxHeartbeats 1000000 in
set_option maxRecDepth 100000 in
theorem dead_nb {c : Cf} {x : Wd} {ch st : List Int} {dl : List Bool} {ft : List Int} {d : Int} {w : World} {D V : Nat} {H : Bool} (OK : Hid (WdOk w w.heap.size x ch st dl ft)) (e1 : decide (500 < (x.fatesN : Int)) = false) (e2 : decide (60 < (x.deadN : Int)) = false) (e3 : decide (60 < (x.standN : Int)) = false) (e4 : decide (60 < (x.chainN : Int)) = false)
    (HD : Hid (deadN dl (chainOf c ch) = D)) (HV : Hid (liveN dl st = V)) (v1 : decide (x.standN < V) = false) (HS : Hid (sureB c x ch st dl ft d = false)) (HH : Hid (x.halted = H)) (HL : Hid (longB c d = true)) (HF : Hid (fineB ft d = false)) (d1 : decide (V ≤ D) = true) (d2 : decide (0 < D) = false) (d3 : decide (0 < x.standN) = false)  :
    Calls Try.prog 6 #[.agg #[.slice c.A c.n c.cap, .int .i64 c.ch, .int .i64 c.sb, .int .i64 c.cl, .int .i64 c.qu, .int .i64 c.close, .int .i64 c.long, .int .i64 c.ag, .int .i64 c.wi, .int .u64 c.r, .int .u64 c.sq], .agg #[.int .i64 x.now, .slice x.listA x.listN x.listC, .slice x.fatesA x.fatesN x.fatesC, .int .i64 x.node, .int .u64 x.epoch, .int .u64 x.round, .slice x.chainA x.chainN x.chainC, .slice x.peersA x.peersN x.peersC, .slice x.standA x.standN x.standC, .int .i64 x.start, .bool x.closed, .slice x.onA x.onN x.onC, .slice x.backA x.backN x.backC, .bool x.noch, .bool x.chalt, .slice x.serversA x.serversN x.serversC, .slice x.deadA x.deadN x.deadC, .slice x.clientsA x.clientsN x.clientsC, .slice x.drawsA x.drawsN x.drawsC, .slice x.lastA x.lastN x.lastC, .slice x.boxesA x.boxesN x.boxesC, .slice x.logA x.logN x.logC, .bool x.halted], .int .i64 d] w fun e w' => e = .returned (.bool true) ∧ Below w.heap.size w w' := by
  go_enter Try.func6, Try.ntmps6
  go_wp2_with fail
  refine (live22 _).mono ?_; rintro e w' ⟨rfl, rfl⟩
  have gC := (Blk.new w 25 #[.slice c.A c.n c.cap, .int .i64 c.ch, .int .i64 c.sb, .int .i64 c.cl, .int .i64 c.qu, .int .i64 c.close, .int .i64 c.long, .int .i64 c.ag, .int .i64 c.wi, .int .u64 c.r, .int .u64 c.sq] rfl).alloc (.cells #[.int .i64 x.now, .slice x.listA x.listN x.listC, .slice x.fatesA x.fatesN x.fatesC, .int .i64 x.node, .int .u64 x.epoch, .int .u64 x.round, .slice x.chainA x.chainN x.chainC, .slice x.peersA x.peersN x.peersC, .slice x.standA x.standN x.standC, .int .i64 x.start, .bool x.closed, .slice x.onA x.onN x.onC, .slice x.backA x.backN x.backC, .bool x.noch, .bool x.chalt, .slice x.serversA x.serversN x.serversC, .slice x.deadA x.deadN x.deadC, .slice x.clientsA x.clientsN x.clientsC, .slice x.drawsA x.drawsN x.drawsC, .slice x.lastA x.lastN x.lastC, .slice x.boxesA x.boxesN x.boxesC, .slice x.logA x.logN x.logC, .bool x.halted] 56)
  have gW := Blk.new (w.alloc (.cells #[.slice c.A c.n c.cap, .int .i64 c.ch, .int .i64 c.sb, .int .i64 c.cl, .int .i64 c.qu, .int .i64 c.close, .int .i64 c.long, .int .i64 c.ag, .int .i64 c.wi, .int .u64 c.r, .int .u64 c.sq] 25)) 56 #[.int .i64 x.now, .slice x.listA x.listN x.listC, .slice x.fatesA x.fatesN x.fatesC, .int .i64 x.node, .int .u64 x.epoch, .int .u64 x.round, .slice x.chainA x.chainN x.chainC, .slice x.peersA x.peersN x.peersC, .slice x.standA x.standN x.standC, .int .i64 x.start, .bool x.closed, .slice x.onA x.onN x.onC, .slice x.backA x.backN x.backC, .bool x.noch, .bool x.chalt, .slice x.serversA x.serversN x.serversC, .slice x.deadA x.deadN x.deadC, .slice x.clientsA x.clientsN x.clientsC, .slice x.drawsA x.drawsN x.drawsC, .slice x.lastA x.lastN x.lastC, .slice x.boxesA x.boxesN x.boxesC, .slice x.logA x.logN x.logC, .bool x.halted] rfl
  simp only [World.size_alloc] at gW
  have hb : Below w.heap.size w ((w.alloc (.cells #[.slice c.A c.n c.cap, .int .i64 c.ch, .int .i64 c.sb, .int .i64 c.cl, .int .i64 c.qu, .int .i64 c.close, .int .i64 c.long, .int .i64 c.ag, .int .i64 c.wi, .int .u64 c.r, .int .u64 c.sq] 25)).alloc (.cells #[.int .i64 x.now, .slice x.listA x.listN x.listC, .slice x.fatesA x.fatesN x.fatesC, .int .i64 x.node, .int .u64 x.epoch, .int .u64 x.round, .slice x.chainA x.chainN x.chainC, .slice x.peersA x.peersN x.peersC, .slice x.standA x.standN x.standC, .int .i64 x.start, .bool x.closed, .slice x.onA x.onN x.onC, .slice x.backA x.backN x.backC, .bool x.noch, .bool x.chalt, .slice x.serversA x.serversN x.serversC, .slice x.deadA x.deadN x.deadC, .slice x.clientsA x.clientsN x.clientsC, .slice x.drawsA x.drawsN x.drawsC, .slice x.lastA x.lastN x.lastC, .slice x.boxesA x.boxesN x.boxesC, .slice x.logA x.logN x.logC, .bool x.halted] 56)) := ((Below.refl _ _).alloc (Nat.le_refl _) _).alloc (by simp) _
  go_wp2_with (first
    | (with_reducible refine wpList_load_blk (by with_unfolding_all rfl) 56 (.tmp 4) (by with_unfolding_all rfl) _ (by with_unfolding_all rfl) gW Try.underlying56 (by with_unfolding_all rfl) size_wd (by with_unfolding_all rfl) ?_)
    | (with_reducible refine wpList_load_blk (by with_unfolding_all rfl) 25 (.tmp 3) (by with_unfolding_all rfl) _ (by with_unfolding_all rfl) gC Try.underlying25 (by with_unfolding_all rfl) size_cfg (by with_unfolding_all rfl) ?_))
  refine (failed_at (OK.out.below hb hb.size) HD.out HV.out).mono ?_; rintro e w1 ⟨rfl, hb1⟩
  replace gC := gC.below hb1 gC.lt
  replace gW := gW.below hb1 (by simp)
  replace hb := hb.trans (hb1.mono (by simp; omega))
  clear hb1
  go_wp2_with (first
    | (with_reducible refine wpList_load_blk (by with_unfolding_all rfl) 56 (.tmp 4) (by with_unfolding_all rfl) _ (by with_unfolding_all rfl) gW Try.underlying56 (by with_unfolding_all rfl) size_wd (by with_unfolding_all rfl) ?_)
    | (with_reducible refine wpList_load_blk (by with_unfolding_all rfl) 25 (.tmp 3) (by with_unfolding_all rfl) _ (by with_unfolding_all rfl) gC Try.underlying25 (by with_unfolding_all rfl) size_cfg (by with_unfolding_all rfl) ?_))
  refine (sure_at (OK.out.below hb hb.size) HS.out).mono ?_; rintro e w2 ⟨rfl, hb1⟩
  replace gC := gC.below hb1 gC.lt
  replace gW := gW.below hb1 gW.lt
  replace hb := hb.trans (hb1.mono hb.size)
  clear hb1 w1
  have y2 := gW.cell 2 (v := .slice x.fatesA x.fatesN x.fatesC) rfl
  have y5 := gW.cell 5 (v := .int .u64 x.round) rfl
  have y8 := gW.cell 8 (v := .slice x.standA x.standN x.standC) rfl
  have y22 := gW.cell 22 (v := .bool x.halted) rfl
  rw [HH.out] at y22
  go_wp2_with (first
    | (with_reducible refine wpList_load_blk (by with_unfolding_all rfl) 56 (.tmp 4) (by with_unfolding_all rfl) _ (by with_unfolding_all rfl) gW Try.underlying56 (by with_unfolding_all rfl) size_wd (by with_unfolding_all rfl) ?_)
    | (with_reducible refine wpList_load_blk (by with_unfolding_all rfl) 25 (.tmp 3) (by with_unfolding_all rfl) _ (by with_unfolding_all rfl) gC Try.underlying25 (by with_unfolding_all rfl) size_cfg (by with_unfolding_all rfl) ?_))
  refine (long_at HL.out _).mono ?_; rintro e w3 ⟨rfl, hb1⟩
  replace gC := gC.below hb1 gC.lt
  replace gW := gW.below hb1 gW.lt
  replace hb := hb.trans (hb1.mono hb.size)
  replace y2 := gW.cell 2 (v := .slice x.fatesA x.fatesN x.fatesC) rfl
  replace y5 := gW.cell 5 (v := .int .u64 x.round) rfl
  replace y8 := gW.cell 8 (v := .slice x.standA x.standN x.standC) rfl
  replace y22 := gW.cell 22 (v := .bool x.halted) rfl
  rw [HH.out] at y22
  clear hb1
  go_wp2_with (first
    | (with_reducible refine wpList_load_blk (by with_unfolding_all rfl) 56 (.tmp 4) (by with_unfolding_all rfl) _ (by with_unfolding_all rfl) gW Try.underlying56 (by with_unfolding_all rfl) size_wd (by with_unfolding_all rfl) ?_)
    | (with_reducible refine wpList_load_blk (by with_unfolding_all rfl) 25 (.tmp 3) (by with_unfolding_all rfl) _ (by with_unfolding_all rfl) gC Try.underlying25 (by with_unfolding_all rfl) size_cfg (by with_unfolding_all rfl) ?_))
  refine (fine_at OK.out.fatesN HF.out _ (OK.out.fates.below hb (Nat.le_refl _)) OK.out.fatesM).mono ?_; rintro e w' ⟨rfl, rfl⟩
  go_wp2_with (first
    | (with_reducible refine wpList_load_blk (by with_unfolding_all rfl) 56 (.tmp 4) (by with_unfolding_all rfl) _ (by with_unfolding_all rfl) gW Try.underlying56 (by with_unfolding_all rfl) size_wd (by with_unfolding_all rfl) ?_)
    | (with_reducible refine wpList_load_blk (by with_unfolding_all rfl) 25 (.tmp 3) (by with_unfolding_all rfl) _ (by with_unfolding_all rfl) gC Try.underlying25 (by with_unfolding_all rfl) size_cfg (by with_unfolding_all rfl) ?_))
  go_ret
  exact ⟨rfl, hb⟩

set_option maxHeartbeats 1000000 in
set_option maxRecDepth 100000 in
theorem dead_hb {c : Cf} {x : Wd} {ch st : List Int} {dl : List Bool} {ft : List Int} {d : Int} {w : World} {D V : Nat} (OK : Hid (WdOk w w.heap.size x ch st dl ft)) (e1 : decide (500 < (x.fatesN : Int)) = false) (e2 : decide (60 < (x.deadN : Int)) = false) (e3 : decide (60 < (x.standN : Int)) = false) (e4 : decide (60 < (x.chainN : Int)) = false)
    (HD : Hid (deadN dl (chainOf c ch) = D)) (HV : Hid (liveN dl st = V)) (v1 : decide (x.standN < V) = false) (HS : Hid (sureB c x ch st dl ft d = false)) (HH : Hid (x.halted = true)) (HL : Hid (longB c d = true)) (HF : Hid (fineB ft d = true)) (d1 : decide (V ≤ D) = true) (d2 : decide (0 < D) = false) (d3 : decide (0 < x.standN) = false)  :
    Calls Try.prog 6 #[.agg #[.slice c.A c.n c.cap, .int .i64 c.ch, .int .i64 c.sb, .int .i64 c.cl, .int .i64 c.qu, .int .i64 c.close, .int .i64 c.long, .int .i64 c.ag, .int .i64 c.wi, .int .u64 c.r, .int .u64 c.sq], .agg #[.int .i64 x.now, .slice x.listA x.listN x.listC, .slice x.fatesA x.fatesN x.fatesC, .int .i64 x.node, .int .u64 x.epoch, .int .u64 x.round, .slice x.chainA x.chainN x.chainC, .slice x.peersA x.peersN x.peersC, .slice x.standA x.standN x.standC, .int .i64 x.start, .bool x.closed, .slice x.onA x.onN x.onC, .slice x.backA x.backN x.backC, .bool x.noch, .bool x.chalt, .slice x.serversA x.serversN x.serversC, .slice x.deadA x.deadN x.deadC, .slice x.clientsA x.clientsN x.clientsC, .slice x.drawsA x.drawsN x.drawsC, .slice x.lastA x.lastN x.lastC, .slice x.boxesA x.boxesN x.boxesC, .slice x.logA x.logN x.logC, .bool x.halted], .int .i64 d] w fun e w' => e = .returned (.bool true) ∧ Below w.heap.size w w' := by
  go_enter Try.func6, Try.ntmps6
  go_wp2_with fail
  refine (live22 _).mono ?_; rintro e w' ⟨rfl, rfl⟩
  have gC := (Blk.new w 25 #[.slice c.A c.n c.cap, .int .i64 c.ch, .int .i64 c.sb, .int .i64 c.cl, .int .i64 c.qu, .int .i64 c.close, .int .i64 c.long, .int .i64 c.ag, .int .i64 c.wi, .int .u64 c.r, .int .u64 c.sq] rfl).alloc (.cells #[.int .i64 x.now, .slice x.listA x.listN x.listC, .slice x.fatesA x.fatesN x.fatesC, .int .i64 x.node, .int .u64 x.epoch, .int .u64 x.round, .slice x.chainA x.chainN x.chainC, .slice x.peersA x.peersN x.peersC, .slice x.standA x.standN x.standC, .int .i64 x.start, .bool x.closed, .slice x.onA x.onN x.onC, .slice x.backA x.backN x.backC, .bool x.noch, .bool x.chalt, .slice x.serversA x.serversN x.serversC, .slice x.deadA x.deadN x.deadC, .slice x.clientsA x.clientsN x.clientsC, .slice x.drawsA x.drawsN x.drawsC, .slice x.lastA x.lastN x.lastC, .slice x.boxesA x.boxesN x.boxesC, .slice x.logA x.logN x.logC, .bool x.halted] 56)
  have gW := Blk.new (w.alloc (.cells #[.slice c.A c.n c.cap, .int .i64 c.ch, .int .i64 c.sb, .int .i64 c.cl, .int .i64 c.qu, .int .i64 c.close, .int .i64 c.long, .int .i64 c.ag, .int .i64 c.wi, .int .u64 c.r, .int .u64 c.sq] 25)) 56 #[.int .i64 x.now, .slice x.listA x.listN x.listC, .slice x.fatesA x.fatesN x.fatesC, .int .i64 x.node, .int .u64 x.epoch, .int .u64 x.round, .slice x.chainA x.chainN x.chainC, .slice x.peersA x.peersN x.peersC, .slice x.standA x.standN x.standC, .int .i64 x.start, .bool x.closed, .slice x.onA x.onN x.onC, .slice x.backA x.backN x.backC, .bool x.noch, .bool x.chalt, .slice x.serversA x.serversN x.serversC, .slice x.deadA x.deadN x.deadC, .slice x.clientsA x.clientsN x.clientsC, .slice x.drawsA x.drawsN x.drawsC, .slice x.lastA x.lastN x.lastC, .slice x.boxesA x.boxesN x.boxesC, .slice x.logA x.logN x.logC, .bool x.halted] rfl
  simp only [World.size_alloc] at gW
  have hb : Below w.heap.size w ((w.alloc (.cells #[.slice c.A c.n c.cap, .int .i64 c.ch, .int .i64 c.sb, .int .i64 c.cl, .int .i64 c.qu, .int .i64 c.close, .int .i64 c.long, .int .i64 c.ag, .int .i64 c.wi, .int .u64 c.r, .int .u64 c.sq] 25)).alloc (.cells #[.int .i64 x.now, .slice x.listA x.listN x.listC, .slice x.fatesA x.fatesN x.fatesC, .int .i64 x.node, .int .u64 x.epoch, .int .u64 x.round, .slice x.chainA x.chainN x.chainC, .slice x.peersA x.peersN x.peersC, .slice x.standA x.standN x.standC, .int .i64 x.start, .bool x.closed, .slice x.onA x.onN x.onC, .slice x.backA x.backN x.backC, .bool x.noch, .bool x.chalt, .slice x.serversA x.serversN x.serversC, .slice x.deadA x.deadN x.deadC, .slice x.clientsA x.clientsN x.clientsC, .slice x.drawsA x.drawsN x.drawsC, .slice x.lastA x.lastN x.lastC, .slice x.boxesA x.boxesN x.boxesC, .slice x.logA x.logN x.logC, .bool x.halted] 56)) := ((Below.refl _ _).alloc (Nat.le_refl _) _).alloc (by simp) _
  go_wp2_with (first
    | (with_reducible refine wpList_load_blk (by with_unfolding_all rfl) 56 (.tmp 4) (by with_unfolding_all rfl) _ (by with_unfolding_all rfl) gW Try.underlying56 (by with_unfolding_all rfl) size_wd (by with_unfolding_all rfl) ?_)
    | (with_reducible refine wpList_load_blk (by with_unfolding_all rfl) 25 (.tmp 3) (by with_unfolding_all rfl) _ (by with_unfolding_all rfl) gC Try.underlying25 (by with_unfolding_all rfl) size_cfg (by with_unfolding_all rfl) ?_))
  refine (failed_at (OK.out.below hb hb.size) HD.out HV.out).mono ?_; rintro e w1 ⟨rfl, hb1⟩
  replace gC := gC.below hb1 gC.lt
  replace gW := gW.below hb1 (by simp)
  replace hb := hb.trans (hb1.mono (by simp; omega))
  clear hb1
  go_wp2_with (first
    | (with_reducible refine wpList_load_blk (by with_unfolding_all rfl) 56 (.tmp 4) (by with_unfolding_all rfl) _ (by with_unfolding_all rfl) gW Try.underlying56 (by with_unfolding_all rfl) size_wd (by with_unfolding_all rfl) ?_)
    | (with_reducible refine wpList_load_blk (by with_unfolding_all rfl) 25 (.tmp 3) (by with_unfolding_all rfl) _ (by with_unfolding_all rfl) gC Try.underlying25 (by with_unfolding_all rfl) size_cfg (by with_unfolding_all rfl) ?_))
  refine (sure_at (OK.out.below hb hb.size) HS.out).mono ?_; rintro e w2 ⟨rfl, hb1⟩
  replace gC := gC.below hb1 gC.lt
  replace gW := gW.below hb1 gW.lt
  replace hb := hb.trans (hb1.mono hb.size)
  clear hb1 w1
  have y2 := gW.cell 2 (v := .slice x.fatesA x.fatesN x.fatesC) rfl
  have y5 := gW.cell 5 (v := .int .u64 x.round) rfl
  have y8 := gW.cell 8 (v := .slice x.standA x.standN x.standC) rfl
  have y22 := gW.cell 22 (v := .bool x.halted) rfl
  rw [HH.out] at y22
  go_wp2_with (first
    | (with_reducible refine wpList_load_blk (by with_unfolding_all rfl) 56 (.tmp 4) (by with_unfolding_all rfl) _ (by with_unfolding_all rfl) gW Try.underlying56 (by with_unfolding_all rfl) size_wd (by with_unfolding_all rfl) ?_)
    | (with_reducible refine wpList_load_blk (by with_unfolding_all rfl) 25 (.tmp 3) (by with_unfolding_all rfl) _ (by with_unfolding_all rfl) gC Try.underlying25 (by with_unfolding_all rfl) size_cfg (by with_unfolding_all rfl) ?_))
  refine (long_at HL.out _).mono ?_; rintro e w3 ⟨rfl, hb1⟩
  replace gC := gC.below hb1 gC.lt
  replace gW := gW.below hb1 gW.lt
  replace hb := hb.trans (hb1.mono hb.size)
  replace y2 := gW.cell 2 (v := .slice x.fatesA x.fatesN x.fatesC) rfl
  replace y5 := gW.cell 5 (v := .int .u64 x.round) rfl
  replace y8 := gW.cell 8 (v := .slice x.standA x.standN x.standC) rfl
  replace y22 := gW.cell 22 (v := .bool x.halted) rfl
  rw [HH.out] at y22
  clear hb1
  go_wp2_with (first
    | (with_reducible refine wpList_load_blk (by with_unfolding_all rfl) 56 (.tmp 4) (by with_unfolding_all rfl) _ (by with_unfolding_all rfl) gW Try.underlying56 (by with_unfolding_all rfl) size_wd (by with_unfolding_all rfl) ?_)
    | (with_reducible refine wpList_load_blk (by with_unfolding_all rfl) 25 (.tmp 3) (by with_unfolding_all rfl) _ (by with_unfolding_all rfl) gC Try.underlying25 (by with_unfolding_all rfl) size_cfg (by with_unfolding_all rfl) ?_))
  refine (fine_at OK.out.fatesN HF.out _ (OK.out.fates.below hb (Nat.le_refl _)) OK.out.fatesM).mono ?_; rintro e w' ⟨rfl, rfl⟩
  go_wp2_with (first
    | (with_reducible refine wpList_load_blk (by with_unfolding_all rfl) 56 (.tmp 4) (by with_unfolding_all rfl) _ (by with_unfolding_all rfl) gW Try.underlying56 (by with_unfolding_all rfl) size_wd (by with_unfolding_all rfl) ?_)
    | (with_reducible refine wpList_load_blk (by with_unfolding_all rfl) 25 (.tmp 3) (by with_unfolding_all rfl) _ (by with_unfolding_all rfl) gC Try.underlying25 (by with_unfolding_all rfl) size_cfg (by with_unfolding_all rfl) ?_))
  go_ret
  exact ⟨rfl, hb⟩

set_option maxHeartbeats 1000000 in
set_option maxRecDepth 100000 in
theorem dead_rb {c : Cf} {x : Wd} {ch st : List Int} {dl : List Bool} {ft : List Int} {d : Int} {w : World} {D V : Nat} (OK : Hid (WdOk w w.heap.size x ch st dl ft)) (e1 : decide (500 < (x.fatesN : Int)) = false) (e2 : decide (60 < (x.deadN : Int)) = false) (e3 : decide (60 < (x.standN : Int)) = false) (e4 : decide (60 < (x.chainN : Int)) = false)
    (HD : Hid (deadN dl (chainOf c ch) = D)) (HV : Hid (liveN dl st = V)) (v1 : decide (x.standN < V) = false) (HS : Hid (sureB c x ch st dl ft d = false)) (HH : Hid (x.halted = false)) (HL : Hid (longB c d = true)) (HF : Hid (fineB ft d = true)) (r1 : decide (x.round ≤ 18446744073709550615) = false) (d1 : decide (V ≤ D) = true) (d2 : decide (0 < D) = false) (d3 : decide (0 < x.standN) = false)  :
    Calls Try.prog 6 #[.agg #[.slice c.A c.n c.cap, .int .i64 c.ch, .int .i64 c.sb, .int .i64 c.cl, .int .i64 c.qu, .int .i64 c.close, .int .i64 c.long, .int .i64 c.ag, .int .i64 c.wi, .int .u64 c.r, .int .u64 c.sq], .agg #[.int .i64 x.now, .slice x.listA x.listN x.listC, .slice x.fatesA x.fatesN x.fatesC, .int .i64 x.node, .int .u64 x.epoch, .int .u64 x.round, .slice x.chainA x.chainN x.chainC, .slice x.peersA x.peersN x.peersC, .slice x.standA x.standN x.standC, .int .i64 x.start, .bool x.closed, .slice x.onA x.onN x.onC, .slice x.backA x.backN x.backC, .bool x.noch, .bool x.chalt, .slice x.serversA x.serversN x.serversC, .slice x.deadA x.deadN x.deadC, .slice x.clientsA x.clientsN x.clientsC, .slice x.drawsA x.drawsN x.drawsC, .slice x.lastA x.lastN x.lastC, .slice x.boxesA x.boxesN x.boxesC, .slice x.logA x.logN x.logC, .bool x.halted], .int .i64 d] w fun e w' => e = .returned (.bool true) ∧ Below w.heap.size w w' := by
  go_enter Try.func6, Try.ntmps6
  go_wp2_with fail
  refine (live22 _).mono ?_; rintro e w' ⟨rfl, rfl⟩
  have gC := (Blk.new w 25 #[.slice c.A c.n c.cap, .int .i64 c.ch, .int .i64 c.sb, .int .i64 c.cl, .int .i64 c.qu, .int .i64 c.close, .int .i64 c.long, .int .i64 c.ag, .int .i64 c.wi, .int .u64 c.r, .int .u64 c.sq] rfl).alloc (.cells #[.int .i64 x.now, .slice x.listA x.listN x.listC, .slice x.fatesA x.fatesN x.fatesC, .int .i64 x.node, .int .u64 x.epoch, .int .u64 x.round, .slice x.chainA x.chainN x.chainC, .slice x.peersA x.peersN x.peersC, .slice x.standA x.standN x.standC, .int .i64 x.start, .bool x.closed, .slice x.onA x.onN x.onC, .slice x.backA x.backN x.backC, .bool x.noch, .bool x.chalt, .slice x.serversA x.serversN x.serversC, .slice x.deadA x.deadN x.deadC, .slice x.clientsA x.clientsN x.clientsC, .slice x.drawsA x.drawsN x.drawsC, .slice x.lastA x.lastN x.lastC, .slice x.boxesA x.boxesN x.boxesC, .slice x.logA x.logN x.logC, .bool x.halted] 56)
  have gW := Blk.new (w.alloc (.cells #[.slice c.A c.n c.cap, .int .i64 c.ch, .int .i64 c.sb, .int .i64 c.cl, .int .i64 c.qu, .int .i64 c.close, .int .i64 c.long, .int .i64 c.ag, .int .i64 c.wi, .int .u64 c.r, .int .u64 c.sq] 25)) 56 #[.int .i64 x.now, .slice x.listA x.listN x.listC, .slice x.fatesA x.fatesN x.fatesC, .int .i64 x.node, .int .u64 x.epoch, .int .u64 x.round, .slice x.chainA x.chainN x.chainC, .slice x.peersA x.peersN x.peersC, .slice x.standA x.standN x.standC, .int .i64 x.start, .bool x.closed, .slice x.onA x.onN x.onC, .slice x.backA x.backN x.backC, .bool x.noch, .bool x.chalt, .slice x.serversA x.serversN x.serversC, .slice x.deadA x.deadN x.deadC, .slice x.clientsA x.clientsN x.clientsC, .slice x.drawsA x.drawsN x.drawsC, .slice x.lastA x.lastN x.lastC, .slice x.boxesA x.boxesN x.boxesC, .slice x.logA x.logN x.logC, .bool x.halted] rfl
  simp only [World.size_alloc] at gW
  have hb : Below w.heap.size w ((w.alloc (.cells #[.slice c.A c.n c.cap, .int .i64 c.ch, .int .i64 c.sb, .int .i64 c.cl, .int .i64 c.qu, .int .i64 c.close, .int .i64 c.long, .int .i64 c.ag, .int .i64 c.wi, .int .u64 c.r, .int .u64 c.sq] 25)).alloc (.cells #[.int .i64 x.now, .slice x.listA x.listN x.listC, .slice x.fatesA x.fatesN x.fatesC, .int .i64 x.node, .int .u64 x.epoch, .int .u64 x.round, .slice x.chainA x.chainN x.chainC, .slice x.peersA x.peersN x.peersC, .slice x.standA x.standN x.standC, .int .i64 x.start, .bool x.closed, .slice x.onA x.onN x.onC, .slice x.backA x.backN x.backC, .bool x.noch, .bool x.chalt, .slice x.serversA x.serversN x.serversC, .slice x.deadA x.deadN x.deadC, .slice x.clientsA x.clientsN x.clientsC, .slice x.drawsA x.drawsN x.drawsC, .slice x.lastA x.lastN x.lastC, .slice x.boxesA x.boxesN x.boxesC, .slice x.logA x.logN x.logC, .bool x.halted] 56)) := ((Below.refl _ _).alloc (Nat.le_refl _) _).alloc (by simp) _
  go_wp2_with (first
    | (with_reducible refine wpList_load_blk (by with_unfolding_all rfl) 56 (.tmp 4) (by with_unfolding_all rfl) _ (by with_unfolding_all rfl) gW Try.underlying56 (by with_unfolding_all rfl) size_wd (by with_unfolding_all rfl) ?_)
    | (with_reducible refine wpList_load_blk (by with_unfolding_all rfl) 25 (.tmp 3) (by with_unfolding_all rfl) _ (by with_unfolding_all rfl) gC Try.underlying25 (by with_unfolding_all rfl) size_cfg (by with_unfolding_all rfl) ?_))
  refine (failed_at (OK.out.below hb hb.size) HD.out HV.out).mono ?_; rintro e w1 ⟨rfl, hb1⟩
  replace gC := gC.below hb1 gC.lt
  replace gW := gW.below hb1 (by simp)
  replace hb := hb.trans (hb1.mono (by simp; omega))
  clear hb1
  go_wp2_with (first
    | (with_reducible refine wpList_load_blk (by with_unfolding_all rfl) 56 (.tmp 4) (by with_unfolding_all rfl) _ (by with_unfolding_all rfl) gW Try.underlying56 (by with_unfolding_all rfl) size_wd (by with_unfolding_all rfl) ?_)
    | (with_reducible refine wpList_load_blk (by with_unfolding_all rfl) 25 (.tmp 3) (by with_unfolding_all rfl) _ (by with_unfolding_all rfl) gC Try.underlying25 (by with_unfolding_all rfl) size_cfg (by with_unfolding_all rfl) ?_))
  refine (sure_at (OK.out.below hb hb.size) HS.out).mono ?_; rintro e w2 ⟨rfl, hb1⟩
  replace gC := gC.below hb1 gC.lt
  replace gW := gW.below hb1 gW.lt
  replace hb := hb.trans (hb1.mono hb.size)
  clear hb1 w1
  have y2 := gW.cell 2 (v := .slice x.fatesA x.fatesN x.fatesC) rfl
  have y5 := gW.cell 5 (v := .int .u64 x.round) rfl
  have y8 := gW.cell 8 (v := .slice x.standA x.standN x.standC) rfl
  have y22 := gW.cell 22 (v := .bool x.halted) rfl
  rw [HH.out] at y22
  go_wp2_with (first
    | (with_reducible refine wpList_load_blk (by with_unfolding_all rfl) 56 (.tmp 4) (by with_unfolding_all rfl) _ (by with_unfolding_all rfl) gW Try.underlying56 (by with_unfolding_all rfl) size_wd (by with_unfolding_all rfl) ?_)
    | (with_reducible refine wpList_load_blk (by with_unfolding_all rfl) 25 (.tmp 3) (by with_unfolding_all rfl) _ (by with_unfolding_all rfl) gC Try.underlying25 (by with_unfolding_all rfl) size_cfg (by with_unfolding_all rfl) ?_))
  refine (long_at HL.out _).mono ?_; rintro e w3 ⟨rfl, hb1⟩
  replace gC := gC.below hb1 gC.lt
  replace gW := gW.below hb1 gW.lt
  replace hb := hb.trans (hb1.mono hb.size)
  replace y2 := gW.cell 2 (v := .slice x.fatesA x.fatesN x.fatesC) rfl
  replace y5 := gW.cell 5 (v := .int .u64 x.round) rfl
  replace y8 := gW.cell 8 (v := .slice x.standA x.standN x.standC) rfl
  replace y22 := gW.cell 22 (v := .bool x.halted) rfl
  rw [HH.out] at y22
  clear hb1
  go_wp2_with (first
    | (with_reducible refine wpList_load_blk (by with_unfolding_all rfl) 56 (.tmp 4) (by with_unfolding_all rfl) _ (by with_unfolding_all rfl) gW Try.underlying56 (by with_unfolding_all rfl) size_wd (by with_unfolding_all rfl) ?_)
    | (with_reducible refine wpList_load_blk (by with_unfolding_all rfl) 25 (.tmp 3) (by with_unfolding_all rfl) _ (by with_unfolding_all rfl) gC Try.underlying25 (by with_unfolding_all rfl) size_cfg (by with_unfolding_all rfl) ?_))
  refine (fine_at OK.out.fatesN HF.out _ (OK.out.fates.below hb (Nat.le_refl _)) OK.out.fatesM).mono ?_; rintro e w' ⟨rfl, rfl⟩
  go_wp2_with (first
    | (with_reducible refine wpList_load_blk (by with_unfolding_all rfl) 56 (.tmp 4) (by with_unfolding_all rfl) _ (by with_unfolding_all rfl) gW Try.underlying56 (by with_unfolding_all rfl) size_wd (by with_unfolding_all rfl) ?_)
    | (with_reducible refine wpList_load_blk (by with_unfolding_all rfl) 25 (.tmp 3) (by with_unfolding_all rfl) _ (by with_unfolding_all rfl) gC Try.underlying25 (by with_unfolding_all rfl) size_cfg (by with_unfolding_all rfl) ?_))
  go_ret
  exact ⟨rfl, hb⟩

set_option maxHeartbeats 1000000 in
theorem dead_small {c : Cf} {x : Wd} {d : Int} {w : World} (h : 500 < x.fatesN ∨ 60 < x.deadN ∨ 60 < x.standN ∨ 60 < x.chainN) :
    Calls Try.prog 6 #[.agg #[.slice c.A c.n c.cap, .int .i64 c.ch, .int .i64 c.sb, .int .i64 c.cl, .int .i64 c.qu, .int .i64 c.close, .int .i64 c.long, .int .i64 c.ag, .int .i64 c.wi, .int .u64 c.r, .int .u64 c.sq], .agg #[.int .i64 x.now, .slice x.listA x.listN x.listC, .slice x.fatesA x.fatesN x.fatesC, .int .i64 x.node, .int .u64 x.epoch, .int .u64 x.round, .slice x.chainA x.chainN x.chainC, .slice x.peersA x.peersN x.peersC, .slice x.standA x.standN x.standC, .int .i64 x.start, .bool x.closed, .slice x.onA x.onN x.onC, .slice x.backA x.backN x.backC, .bool x.noch, .bool x.chalt, .slice x.serversA x.serversN x.serversC, .slice x.deadA x.deadN x.deadC, .slice x.clientsA x.clientsN x.clientsC, .slice x.drawsA x.drawsN x.drawsC, .slice x.lastA x.lastN x.lastC, .slice x.boxesA x.boxesN x.boxesC, .slice x.logA x.logN x.logC, .bool x.halted], .int .i64 d] w fun e w' => e = .returned (.bool true) ∧ Below w.heap.size w w' := by
  go_enter Try.func6, Try.ntmps6
  go_wp2_with (go_at_call 7; refine (live22 _).mono ?_; rintro e w' ⟨rfl, rfl⟩)
  all_goals first
    | (exfalso; omega)
    | (go_ret; exact ⟨rfl, ((Below.refl _ _).alloc (Nat.le_refl _) _).alloc (by simp) _⟩)
theorem dead_any (c : Cf) (x : Wd) (ch st : List Int) (dl : List Bool) (ft : List Int) (d : Int) (w : World) (ok : WdOk w w.heap.size x ch st dl ft) :
    Calls Try.prog 6 #[.agg #[.slice c.A c.n c.cap, .int .i64 c.ch, .int .i64 c.sb, .int .i64 c.cl, .int .i64 c.qu, .int .i64 c.close, .int .i64 c.long, .int .i64 c.ag, .int .i64 c.wi, .int .u64 c.r, .int .u64 c.sq], .agg #[.int .i64 x.now, .slice x.listA x.listN x.listC, .slice x.fatesA x.fatesN x.fatesC, .int .i64 x.node, .int .u64 x.epoch, .int .u64 x.round, .slice x.chainA x.chainN x.chainC, .slice x.peersA x.peersN x.peersC, .slice x.standA x.standN x.standC, .int .i64 x.start, .bool x.closed, .slice x.onA x.onN x.onC, .slice x.backA x.backN x.backC, .bool x.noch, .bool x.chalt, .slice x.serversA x.serversN x.serversC, .slice x.deadA x.deadN x.deadC, .slice x.clientsA x.clientsN x.clientsC, .slice x.drawsA x.drawsN x.drawsC, .slice x.lastA x.lastN x.lastC, .slice x.boxesA x.boxesN x.boxesC, .slice x.logA x.logN x.logC, .bool x.halted], .int .i64 d] w fun e w' => e = .returned (.bool true) ∧ Below w.heap.size w w' := by
  by_cases hs : 500 < x.fatesN ∨ 60 < x.deadN ∨ 60 < x.standN ∨ 60 < x.chainN
  · exact dead_small hs
  · have e1 : decide (500 < (x.fatesN : Int)) = false := decide_eq_false (by omega)
    have e2 : decide (60 < (x.deadN : Int)) = false := decide_eq_false (by omega)
    have e3 : decide (60 < (x.standN : Int)) = false := decide_eq_false (by omega)
    have e4 : decide (60 < (x.chainN : Int)) = false := decide_eq_false (by omega)
    obtain ⟨D, hD⟩ : ∃ D, deadN dl (chainOf c ch) = D := ⟨_, rfl⟩
    obtain ⟨V, hV⟩ : ∃ V, liveN dl st = V := ⟨_, rfl⟩
    have v1 : decide (x.standN < V) = false := decide_eq_false (by have := liveN_all dl st; have := ok.standN; omega)
    have hsv : sureB c x ch st dl ft d = (longB c d && fineB ft d && !x.halted && decide (x.round ≤ lateR) && restB D V x.standN) := by unfold sureB; rw [hD, hV, ok.standN]
    have hr : decide (x.round ≤ 18446744073709550615) = decide (x.round ≤ lateR) := by unfold lateR; rfl
    by_cases h1 : V ≤ D
    · by_cases h2 : 0 < D
      · exact dead_f1 ok e1 e2 e3 e4 hD hV v1 (by rw [Hid, hsv, restB, decide_eq_false (show ¬ D < V by omega), decide_eq_false (show ¬ D = 0 by omega)]; simp) rfl (decide_eq_true h1) (decide_eq_true (by omega))
      · by_cases h3 : 0 < x.standN
        · exact dead_f2 ok e1 e2 e3 e4 hD hV v1 (by rw [Hid, hsv, restB, decide_eq_false (show ¬ D < V by omega), decide_eq_false (show ¬ x.standN = 0 by omega)]; simp) rfl (decide_eq_true h1) (decide_eq_false (by omega)) (decide_eq_true (by omega))
        · have hrest : restB D V x.standN = true := by rw [restB, decide_eq_true (show D = 0 by omega), decide_eq_true (show x.standN = 0 by omega)]; simp
          rw [hrest, Bool.and_true] at hsv
          have d1 : decide (V ≤ D) = true := decide_eq_true h1
          have d2 : decide (0 < D) = false := decide_eq_false (by omega)
          have d3 : decide (0 < x.standN) = false := decide_eq_false (by omega)
          cases hL : longB c d
          · exact dead_lb ok e1 e2 e3 e4 hD hV v1 (by rw [Hid, hsv, hL]; rfl) rfl hL d1 d2 d3
          · cases hF : fineB ft d
            · exact dead_nb ok e1 e2 e3 e4 hD hV v1 (by rw [Hid, hsv, hL, hF]; rfl) rfl hL hF d1 d2 d3
            · obtain ⟨H, hH⟩ : ∃ H, x.halted = H := ⟨_, rfl⟩
              cases H
              · cases hR : decide (x.round ≤ lateR)
                · exact dead_rb ok e1 e2 e3 e4 hD hV v1 (by rw [Hid, hsv, hL, hF, hH, hR]; simp) hH hL hF (hr.trans hR) d1 d2 d3
                · exact dead_t2 ok e1 e2 e3 e4 hD hV v1 (by rw [Hid, hsv, hL, hF, hH, hR]; simp) hH hL hF d1 d2 d3 (hr.trans hR)
              · exact dead_hb ok e1 e2 e3 e4 hD hV v1 (by rw [Hid, hsv, hL, hF, hH]; simp) hH hL hF d1 d2 d3
    · have hrest : restB D V x.standN = true := by rw [restB, decide_eq_true (show D < V by omega)]; simp
      rw [hrest, Bool.and_true] at hsv
      have d1 : decide (V ≤ D) = false := decide_eq_false h1
      cases hL : longB c d
      · exact dead_la ok e1 e2 e3 e4 hD hV v1 (by rw [Hid, hsv, hL]; rfl) rfl hL d1
      · cases hF : fineB ft d
        · exact dead_na ok e1 e2 e3 e4 hD hV v1 (by rw [Hid, hsv, hL, hF]; rfl) rfl hL hF d1
        · obtain ⟨H, hH⟩ : ∃ H, x.halted = H := ⟨_, rfl⟩
          cases H
          · cases hR : decide (x.round ≤ lateR)
            · exact dead_ra ok e1 e2 e3 e4 hD hV v1 (by rw [Hid, hsv, hL, hF, hH, hR]; simp) hH hL hF (hr.trans hR) d1
            · exact dead_t1 ok e1 e2 e3 e4 hD hV v1 (by rw [Hid, hsv, hL, hF, hH, hR]; simp) hH hL hF d1 (hr.trans hR)
          · exact dead_ha ok e1 e2 e3 e4 hD hV v1 (by rw [Hid, hsv, hL, hF, hH]; simp) hH hL hF d1
end Go.Proofs.Ytigpalnmeefphaa
