/-
  BoundMore: who is sure with late frames is so with less late ones; a longer wait makes nobody less sure.
-/
import Derived.Test.YtigpalnmeefphaaBoundF
import Derived.Deep.Cut
namespace Go.Proofs.Ytigpalnmeefphaa
open Go.RowKit Go.Sort
set_option linter.unusedVariables false

theorem sure_at {c : Cf} {x : Wd} {ch st : List Int} {dl : List Bool} {ft : List Int} {d : Int} {w : World} (ok : WdOk w w.heap.size x ch st dl ft) {b : Bool} (h : sureB c x ch st dl ft d = b) :
    Calls Try.prog 13 #[.agg #[.slice c.A c.n c.cap, .int .i64 c.ch, .int .i64 c.sb, .int .i64 c.cl, .int .i64 c.qu, .int .i64 c.close, .int .i64 c.long, .int .i64 c.ag, .int .i64 c.wi, .int .u64 c.r, .int .u64 c.sq], .agg #[.int .i64 x.now, .slice x.listA x.listN x.listC, .slice x.fatesA x.fatesN x.fatesC, .int .i64 x.node, .int .u64 x.epoch, .int .u64 x.round, .slice x.chainA x.chainN x.chainC, .slice x.peersA x.peersN x.peersC, .slice x.standA x.standN x.standC, .int .i64 x.start, .bool x.closed, .slice x.onA x.onN x.onC, .slice x.backA x.backN x.backC, .bool x.noch, .bool x.chalt, .slice x.serversA x.serversN x.serversC, .slice x.deadA x.deadN x.deadC, .slice x.clientsA x.clientsN x.clientsC, .slice x.drawsA x.drawsN x.drawsC, .slice x.lastA x.lastN x.lastC, .slice x.boxesA x.boxesN x.boxesC, .slice x.logA x.logN x.logC, .bool x.halted], .int .i64 d] w fun e w' => e = .returned (.bool b) ∧ Below w.heap.size w w' := by
  subst h; exact sure_any c x ch st dl ft d w ok
/-- The world without fates. -/
def calmOf (x : Wd) : Wd := { x with fatesA := none, fatesN := 0, fatesC := 0 }
theorem WdOk.calm {w : World} {B : Nat} {x : Wd} {ch st : List Int} {dl : List Bool} {ft : List Int} (ok : WdOk w B x ch st dl ft) : WdOk w B (calmOf x) ch st dl [] :=
  ⟨ok.chain, ok.chainN, ok.chainM, ok.stand, ok.standN, ok.standM, ok.dead, ok.deadN, ok.deadM, Sl.nil _ _ _ _, rfl, by simp [calmOf]⟩
theorem calm_at {c : Cf} {x : Wd} {ch st : List Int} {dl : List Bool} {ft : List Int} {d : Int} {w : World} (ok : WdOk w w.heap.size x ch st dl ft) {b : Bool} (h : sureB c (calmOf x) ch st dl [] d = b) :
    Calls Try.prog 13 #[.agg #[.slice c.A c.n c.cap, .int .i64 c.ch, .int .i64 c.sb, .int .i64 c.cl, .int .i64 c.qu, .int .i64 c.close, .int .i64 c.long, .int .i64 c.ag, .int .i64 c.wi, .int .u64 c.r, .int .u64 c.sq], .agg #[.int .i64 x.now, .slice x.listA x.listN x.listC, .slice none 0 0, .int .i64 x.node, .int .u64 x.epoch, .int .u64 x.round, .slice x.chainA x.chainN x.chainC, .slice x.peersA x.peersN x.peersC, .slice x.standA x.standN x.standC, .int .i64 x.start, .bool x.closed, .slice x.onA x.onN x.onC, .slice x.backA x.backN x.backC, .bool x.noch, .bool x.chalt, .slice x.serversA x.serversN x.serversC, .slice x.deadA x.deadN x.deadC, .slice x.clientsA x.clientsN x.clientsC, .slice x.drawsA x.drawsN x.drawsC, .slice x.lastA x.lastN x.lastC, .slice x.boxesA x.boxesN x.boxesC, .slice x.logA x.logN x.logC, .bool x.halted], .int .i64 d] w fun e w' => e = .returned (.bool b) ∧ Below w.heap.size w w' :=
  sure_at ok.calm h
theorem longB_less {c : Cf} {d : Int} (h2 : 2 ≤ d) (h : longB c d = true) : longB c (d - 1) = true := by
  unfold longB at h
  simp only [Bool.and_eq_true, decide_eq_true_eq] at h
  obtain ⟨h0, h1, h3, h4, h5⟩ := h
  have hb := okCf_bd h0
  have e : 2 * (c.ch + 1) * (d - 1) = 2 * (c.ch + 1) * d - 2 * (c.ch + 1) := by rw [Int.mul_sub, Int.mul_one]
  exact longB_yes h0 (by omega)
theorem fineB_less {ft : List Int} {d : Int} (h : fineB ft (d - 1) = true) : fineB ft d = true := by
  unfold fineB at *
  rw [List.all_eq_true] at *
  intro f hf
  have := h f hf
  simp only [Bool.and_eq_true, decide_eq_true_eq] at *
  omega
theorem sureB_calm {c : Cf} {x : Wd} {ch st : List Int} {dl : List Bool} {ft : List Int} {d : Int} (h : sureB c x ch st dl ft d = true) : sureB c (calmOf x) ch st dl [] d = true := by
  unfold sureB calmOf at *
  simp only [Bool.and_eq_true] at *
  obtain ⟨⟨⟨⟨h1, _⟩, h3⟩, h4⟩, h5⟩ := h
  exact ⟨⟨⟨⟨h1, rfl⟩, h3⟩, h4⟩, h5⟩
theorem sureB_less {c : Cf} {x : Wd} {ch st : List Int} {dl : List Bool} {d : Int} (h2 : 2 ≤ d) (h : sureB c (calmOf x) ch st dl [] d = true) : sureB c (calmOf x) ch st dl [] (d - 1) = true := by
  unfold sureB at *
  simp only [Bool.and_eq_true] at *
  obtain ⟨⟨⟨⟨h1, _⟩, h3⟩, h4⟩, h5⟩ := h
  exact ⟨⟨⟨⟨longB_less h2 h1, rfl⟩, h3⟩, h4⟩, h5⟩

set_option maxHeartbeats 1000000 in
set_option maxRecDepth 100000 in
theorem more_fff {c : Cf} {x : Wd} {ch st : List Int} {dl : List Bool} {ft : List Int} {d : Int} {w : World} (OK : Hid (WdOk w w.heap.size x ch st dl ft)) (e1 : decide (500 < (x.fatesN : Int)) = false) (e2 : decide (60 < (x.deadN : Int)) = false) (e3 : decide (60 < (x.standN : Int)) = false)
    (e4 : decide (d < 2) = false) (e5 : decide (100 < d) = false) (g1 : 2 ≤ d) (g2 : d ≤ 100) (HL1 : Hid (longB c d = false)) (HF1 : Hid (fineB ft (d - 1) = false)) (HS1 : Hid (sureB c x ch st dl ft d = false)) :
    Calls Try.prog 5 #[.agg #[.slice c.A c.n c.cap, .int .i64 c.ch, .int .i64 c.sb, .int .i64 c.cl, .int .i64 c.qu, .int .i64 c.close, .int .i64 c.long, .int .i64 c.ag, .int .i64 c.wi, .int .u64 c.r, .int .u64 c.sq], .agg #[.int .i64 x.now, .slice x.listA x.listN x.listC, .slice x.fatesA x.fatesN x.fatesC, .int .i64 x.node, .int .u64 x.epoch, .int .u64 x.round, .slice x.chainA x.chainN x.chainC, .slice x.peersA x.peersN x.peersC, .slice x.standA x.standN x.standC, .int .i64 x.start, .bool x.closed, .slice x.onA x.onN x.onC, .slice x.backA x.backN x.backC, .bool x.noch, .bool x.chalt, .slice x.serversA x.serversN x.serversC, .slice x.deadA x.deadN x.deadC, .slice x.clientsA x.clientsN x.clientsC, .slice x.drawsA x.drawsN x.drawsC, .slice x.lastA x.lastN x.lastC, .slice x.boxesA x.boxesN x.boxesC, .slice x.logA x.logN x.logC, .bool x.halted], .int .i64 d] w fun e w' => e = .returned (.bool true) ∧ Below w.heap.size w w' := by
  go_enter Try.func5, Try.ntmps5
  go_wp2_with fail
  refine (live22 _).mono ?_; rintro e w' ⟨rfl, rfl⟩
  have gC := (Blk.new w 25 #[.slice c.A c.n c.cap, .int .i64 c.ch, .int .i64 c.sb, .int .i64 c.cl, .int .i64 c.qu, .int .i64 c.close, .int .i64 c.long, .int .i64 c.ag, .int .i64 c.wi, .int .u64 c.r, .int .u64 c.sq] rfl).alloc (.cells #[.int .i64 x.now, .slice x.listA x.listN x.listC, .slice x.fatesA x.fatesN x.fatesC, .int .i64 x.node, .int .u64 x.epoch, .int .u64 x.round, .slice x.chainA x.chainN x.chainC, .slice x.peersA x.peersN x.peersC, .slice x.standA x.standN x.standC, .int .i64 x.start, .bool x.closed, .slice x.onA x.onN x.onC, .slice x.backA x.backN x.backC, .bool x.noch, .bool x.chalt, .slice x.serversA x.serversN x.serversC, .slice x.deadA x.deadN x.deadC, .slice x.clientsA x.clientsN x.clientsC, .slice x.drawsA x.drawsN x.drawsC, .slice x.lastA x.lastN x.lastC, .slice x.boxesA x.boxesN x.boxesC, .slice x.logA x.logN x.logC, .bool x.halted] 56)
  have gW := Blk.new (w.alloc (.cells #[.slice c.A c.n c.cap, .int .i64 c.ch, .int .i64 c.sb, .int .i64 c.cl, .int .i64 c.qu, .int .i64 c.close, .int .i64 c.long, .int .i64 c.ag, .int .i64 c.wi, .int .u64 c.r, .int .u64 c.sq] 25)) 56 #[.int .i64 x.now, .slice x.listA x.listN x.listC, .slice x.fatesA x.fatesN x.fatesC, .int .i64 x.node, .int .u64 x.epoch, .int .u64 x.round, .slice x.chainA x.chainN x.chainC, .slice x.peersA x.peersN x.peersC, .slice x.standA x.standN x.standC, .int .i64 x.start, .bool x.closed, .slice x.onA x.onN x.onC, .slice x.backA x.backN x.backC, .bool x.noch, .bool x.chalt, .slice x.serversA x.serversN x.serversC, .slice x.deadA x.deadN x.deadC, .slice x.clientsA x.clientsN x.clientsC, .slice x.drawsA x.drawsN x.drawsC, .slice x.lastA x.lastN x.lastC, .slice x.boxesA x.boxesN x.boxesC, .slice x.logA x.logN x.logC, .bool x.halted] rfl
  simp only [World.size_alloc] at gW
  have hb : Below w.heap.size w ((w.alloc (.cells #[.slice c.A c.n c.cap, .int .i64 c.ch, .int .i64 c.sb, .int .i64 c.cl, .int .i64 c.qu, .int .i64 c.close, .int .i64 c.long, .int .i64 c.ag, .int .i64 c.wi, .int .u64 c.r, .int .u64 c.sq] 25)).alloc (.cells #[.int .i64 x.now, .slice x.listA x.listN x.listC, .slice x.fatesA x.fatesN x.fatesC, .int .i64 x.node, .int .u64 x.epoch, .int .u64 x.round, .slice x.chainA x.chainN x.chainC, .slice x.peersA x.peersN x.peersC, .slice x.standA x.standN x.standC, .int .i64 x.start, .bool x.closed, .slice x.onA x.onN x.onC, .slice x.backA x.backN x.backC, .bool x.noch, .bool x.chalt, .slice x.serversA x.serversN x.serversC, .slice x.deadA x.deadN x.deadC, .slice x.clientsA x.clientsN x.clientsC, .slice x.drawsA x.drawsN x.drawsC, .slice x.lastA x.lastN x.lastC, .slice x.boxesA x.boxesN x.boxesC, .slice x.logA x.logN x.logC, .bool x.halted] 56)) := ((Below.refl _ _).alloc (Nat.le_refl _) _).alloc (by simp) _
  go_wp2_with (first
    | (with_reducible refine wpList_load_blk (by with_unfolding_all rfl) 56 (.tmp 4) (by with_unfolding_all rfl) _ (by with_unfolding_all rfl) gW Try.underlying56 (by with_unfolding_all rfl) size_wd (by with_unfolding_all rfl) ?_)
    | (with_reducible refine wpList_load_blk (by with_unfolding_all rfl) 56 (.tmp 7) (by with_unfolding_all rfl) _ (by with_unfolding_all rfl) gK Try.underlying56 (by with_unfolding_all rfl) size_wd (by with_unfolding_all rfl) ?_)
    | (with_reducible refine wpList_load_blk (by with_unfolding_all rfl) 25 (.tmp 3) (by with_unfolding_all rfl) _ (by with_unfolding_all rfl) gC Try.underlying25 (by with_unfolding_all rfl) size_cfg (by with_unfolding_all rfl) ?_))
  refine (long_at HL1.out _).mono ?_; rintro e w1 ⟨rfl, hb1⟩
  replace gC := gC.below hb1 gC.lt
  replace gW := gW.below hb1 (by simp)
  replace hb := hb.trans (hb1.mono (by simp; omega))
  clear hb1
  have y2 := gW.cell 2 (v := .slice x.fatesA x.fatesN x.fatesC) rfl
  go_wp2_with (first
    | (with_reducible refine wpList_load_blk (by with_unfolding_all rfl) 56 (.tmp 4) (by with_unfolding_all rfl) _ (by with_unfolding_all rfl) gW Try.underlying56 (by with_unfolding_all rfl) size_wd (by with_unfolding_all rfl) ?_)
    | (with_reducible refine wpList_load_blk (by with_unfolding_all rfl) 56 (.tmp 7) (by with_unfolding_all rfl) _ (by with_unfolding_all rfl) gK Try.underlying56 (by with_unfolding_all rfl) size_wd (by with_unfolding_all rfl) ?_)
    | (with_reducible refine wpList_load_blk (by with_unfolding_all rfl) 25 (.tmp 3) (by with_unfolding_all rfl) _ (by with_unfolding_all rfl) gC Try.underlying25 (by with_unfolding_all rfl) size_cfg (by with_unfolding_all rfl) ?_))
  refine (fine_at OK.out.fatesN HF1.out _ (OK.out.fates.below hb (Nat.le_refl _)) OK.out.fatesM).mono ?_; rintro e w' ⟨rfl, rfl⟩
  go_upto_region 11 with (first
    | (with_reducible refine wpList_load_blk (by with_unfolding_all rfl) 56 (.tmp 4) (by with_unfolding_all rfl) _ (by with_unfolding_all rfl) gW Try.underlying56 (by with_unfolding_all rfl) size_wd (by with_unfolding_all rfl) ?_)
    | (with_reducible refine wpList_store_new (by with_unfolding_all rfl) (.tmp 7) (.tmp 60) (by with_unfolding_all rfl) (by with_unfolding_all rfl) (by with_unfolding_all rfl) size_wd (by with_unfolding_all rfl) (by with_unfolding_all rfl) (by with_unfolding_all rfl) ?_))
  replace gC := gC.alloc (.cells #[.int .i64 x.now, .slice x.listA x.listN x.listC, .slice none 0 0, .int .i64 x.node, .int .u64 x.epoch, .int .u64 x.round, .slice x.chainA x.chainN x.chainC, .slice x.peersA x.peersN x.peersC, .slice x.standA x.standN x.standC, .int .i64 x.start, .bool x.closed, .slice x.onA x.onN x.onC, .slice x.backA x.backN x.backC, .bool x.noch, .bool x.chalt, .slice x.serversA x.serversN x.serversC, .slice x.deadA x.deadN x.deadC, .slice x.clientsA x.clientsN x.clientsC, .slice x.drawsA x.drawsN x.drawsC, .slice x.lastA x.lastN x.lastC, .slice x.boxesA x.boxesN x.boxesC, .slice x.logA x.logN x.logC, .bool x.halted] 56)
  replace gW := gW.alloc (.cells #[.int .i64 x.now, .slice x.listA x.listN x.listC, .slice none 0 0, .int .i64 x.node, .int .u64 x.epoch, .int .u64 x.round, .slice x.chainA x.chainN x.chainC, .slice x.peersA x.peersN x.peersC, .slice x.standA x.standN x.standC, .int .i64 x.start, .bool x.closed, .slice x.onA x.onN x.onC, .slice x.backA x.backN x.backC, .bool x.noch, .bool x.chalt, .slice x.serversA x.serversN x.serversC, .slice x.deadA x.deadN x.deadC, .slice x.clientsA x.clientsN x.clientsC, .slice x.drawsA x.drawsN x.drawsC, .slice x.lastA x.lastN x.lastC, .slice x.boxesA x.boxesN x.boxesC, .slice x.logA x.logN x.logC, .bool x.halted] 56)
  have gK := Blk.new w1 56 #[.int .i64 x.now, .slice x.listA x.listN x.listC, .slice none 0 0, .int .i64 x.node, .int .u64 x.epoch, .int .u64 x.round, .slice x.chainA x.chainN x.chainC, .slice x.peersA x.peersN x.peersC, .slice x.standA x.standN x.standC, .int .i64 x.start, .bool x.closed, .slice x.onA x.onN x.onC, .slice x.backA x.backN x.backC, .bool x.noch, .bool x.chalt, .slice x.serversA x.serversN x.serversC, .slice x.deadA x.deadN x.deadC, .slice x.clientsA x.clientsN x.clientsC, .slice x.drawsA x.drawsN x.drawsC, .slice x.lastA x.lastN x.lastC, .slice x.boxesA x.boxesN x.boxesC, .slice x.logA x.logN x.logC, .bool x.halted] rfl
  replace hb := hb.alloc hb.size (.cells #[.int .i64 x.now, .slice x.listA x.listN x.listC, .slice none 0 0, .int .i64 x.node, .int .u64 x.epoch, .int .u64 x.round, .slice x.chainA x.chainN x.chainC, .slice x.peersA x.peersN x.peersC, .slice x.standA x.standN x.standC, .int .i64 x.start, .bool x.closed, .slice x.onA x.onN x.onC, .slice x.backA x.backN x.backC, .bool x.noch, .bool x.chalt, .slice x.serversA x.serversN x.serversC, .slice x.deadA x.deadN x.deadC, .slice x.clientsA x.clientsN x.clientsC, .slice x.drawsA x.drawsN x.drawsC, .slice x.lastA x.lastN x.lastC, .slice x.boxesA x.boxesN x.boxesC, .slice x.logA x.logN x.logC, .bool x.halted] 56)
  clear y2
  go_wp2_with (first
    | (with_reducible refine wpList_load_blk (by with_unfolding_all rfl) 56 (.tmp 4) (by with_unfolding_all rfl) _ (by with_unfolding_all rfl) gW Try.underlying56 (by with_unfolding_all rfl) size_wd (by with_unfolding_all rfl) ?_)
    | (with_reducible refine wpList_load_blk (by with_unfolding_all rfl) 56 (.tmp 7) (by with_unfolding_all rfl) _ (by with_unfolding_all rfl) gK Try.underlying56 (by with_unfolding_all rfl) size_wd (by with_unfolding_all rfl) ?_)
    | (with_reducible refine wpList_load_blk (by with_unfolding_all rfl) 25 (.tmp 3) (by with_unfolding_all rfl) _ (by with_unfolding_all rfl) gC Try.underlying25 (by with_unfolding_all rfl) size_cfg (by with_unfolding_all rfl) ?_))
  refine (sure_at (OK.out.below hb hb.size) HS1.out).mono ?_; rintro e w3 ⟨rfl, hb1⟩
  replace gC := gC.below hb1 gC.lt
  replace gW := gW.below hb1 gW.lt
  replace gK := gK.below hb1 gK.lt
  replace hb := hb.trans (hb1.mono hb.size)
  clear hb1
  go_wp2_with (first
    | (with_reducible refine wpList_load_blk (by with_unfolding_all rfl) 56 (.tmp 4) (by with_unfolding_all rfl) _ (by with_unfolding_all rfl) gW Try.underlying56 (by with_unfolding_all rfl) size_wd (by with_unfolding_all rfl) ?_)
    | (with_reducible refine wpList_load_blk (by with_unfolding_all rfl) 56 (.tmp 7) (by with_unfolding_all rfl) _ (by with_unfolding_all rfl) gK Try.underlying56 (by with_unfolding_all rfl) size_wd (by with_unfolding_all rfl) ?_)
    | (with_reducible refine wpList_load_blk (by with_unfolding_all rfl) 25 (.tmp 3) (by with_unfolding_all rfl) _ (by with_unfolding_all rfl) gC Try.underlying25 (by with_unfolding_all rfl) size_cfg (by with_unfolding_all rfl) ?_))
  go_ret
  exact ⟨rfl, hb⟩

set_option maxHeartbeats 1000000 in
set_option maxRecDepth 100000 in
theorem more_fft {c : Cf} {x : Wd} {ch st : List Int} {dl : List Bool} {ft : List Int} {d : Int} {w : World} (OK : Hid (WdOk w w.heap.size x ch st dl ft)) (e1 : decide (500 < (x.fatesN : Int)) = false) (e2 : decide (60 < (x.deadN : Int)) = false) (e3 : decide (60 < (x.standN : Int)) = false)
    (e4 : decide (d < 2) = false) (e5 : decide (100 < d) = false) (g1 : 2 ≤ d) (g2 : d ≤ 100) (HL1 : Hid (longB c d = false)) (HF1 : Hid (fineB ft (d - 1) = false)) (HS1 : Hid (sureB c x ch st dl ft d = true)) (HS2 : Hid (sureB c (calmOf x) ch st dl [] d = true)) (HS3 : Hid (sureB c (calmOf x) ch st dl [] (d - 1) = true)) :
    Calls Try.prog 5 #[.agg #[.slice c.A c.n c.cap, .int .i64 c.ch, .int .i64 c.sb, .int .i64 c.cl, .int .i64 c.qu, .int .i64 c.close, .int .i64 c.long, .int .i64 c.ag, .int .i64 c.wi, .int .u64 c.r, .int .u64 c.sq], .agg #[.int .i64 x.now, .slice x.listA x.listN x.listC, .slice x.fatesA x.fatesN x.fatesC, .int .i64 x.node, .int .u64 x.epoch, .int .u64 x.round, .slice x.chainA x.chainN x.chainC, .slice x.peersA x.peersN x.peersC, .slice x.standA x.standN x.standC, .int .i64 x.start, .bool x.closed, .slice x.onA x.onN x.onC, .slice x.backA x.backN x.backC, .bool x.noch, .bool x.chalt, .slice x.serversA x.serversN x.serversC, .slice x.deadA x.deadN x.deadC, .slice x.clientsA x.clientsN x.clientsC, .slice x.drawsA x.drawsN x.drawsC, .slice x.lastA x.lastN x.lastC, .slice x.boxesA x.boxesN x.boxesC, .slice x.logA x.logN x.logC, .bool x.halted], .int .i64 d] w fun e w' => e = .returned (.bool true) ∧ Below w.heap.size w w' := by
  go_enter Try.func5, Try.ntmps5
  go_wp2_with fail
  refine (live22 _).mono ?_; rintro e w' ⟨rfl, rfl⟩
  have gC := (Blk.new w 25 #[.slice c.A c.n c.cap, .int .i64 c.ch, .int .i64 c.sb, .int .i64 c.cl, .int .i64 c.qu, .int .i64 c.close, .int .i64 c.long, .int .i64 c.ag, .int .i64 c.wi, .int .u64 c.r, .int .u64 c.sq] rfl).alloc (.cells #[.int .i64 x.now, .slice x.listA x.listN x.listC, .slice x.fatesA x.fatesN x.fatesC, .int .i64 x.node, .int .u64 x.epoch, .int .u64 x.round, .slice x.chainA x.chainN x.chainC, .slice x.peersA x.peersN x.peersC, .slice x.standA x.standN x.standC, .int .i64 x.start, .bool x.closed, .slice x.onA x.onN x.onC, .slice x.backA x.backN x.backC, .bool x.noch, .bool x.chalt, .slice x.serversA x.serversN x.serversC, .slice x.deadA x.deadN x.deadC, .slice x.clientsA x.clientsN x.clientsC, .slice x.drawsA x.drawsN x.drawsC, .slice x.lastA x.lastN x.lastC, .slice x.boxesA x.boxesN x.boxesC, .slice x.logA x.logN x.logC, .bool x.halted] 56)
  have gW := Blk.new (w.alloc (.cells #[.slice c.A c.n c.cap, .int .i64 c.ch, .int .i64 c.sb, .int .i64 c.cl, .int .i64 c.qu, .int .i64 c.close, .int .i64 c.long, .int .i64 c.ag, .int .i64 c.wi, .int .u64 c.r, .int .u64 c.sq] 25)) 56 #[.int .i64 x.now, .slice x.listA x.listN x.listC, .slice x.fatesA x.fatesN x.fatesC, .int .i64 x.node, .int .u64 x.epoch, .int .u64 x.round, .slice x.chainA x.chainN x.chainC, .slice x.peersA x.peersN x.peersC, .slice x.standA x.standN x.standC, .int .i64 x.start, .bool x.closed, .slice x.onA x.onN x.onC, .slice x.backA x.backN x.backC, .bool x.noch, .bool x.chalt, .slice x.serversA x.serversN x.serversC, .slice x.deadA x.deadN x.deadC, .slice x.clientsA x.clientsN x.clientsC, .slice x.drawsA x.drawsN x.drawsC, .slice x.lastA x.lastN x.lastC, .slice x.boxesA x.boxesN x.boxesC, .slice x.logA x.logN x.logC, .bool x.halted] rfl
  simp only [World.size_alloc] at gW
  have hb : Below w.heap.size w ((w.alloc (.cells #[.slice c.A c.n c.cap, .int .i64 c.ch, .int .i64 c.sb, .int .i64 c.cl, .int .i64 c.qu, .int .i64 c.close, .int .i64 c.long, .int .i64 c.ag, .int .i64 c.wi, .int .u64 c.r, .int .u64 c.sq] 25)).alloc (.cells #[.int .i64 x.now, .slice x.listA x.listN x.listC, .slice x.fatesA x.fatesN x.fatesC, .int .i64 x.node, .int .u64 x.epoch, .int .u64 x.round, .slice x.chainA x.chainN x.chainC, .slice x.peersA x.peersN x.peersC, .slice x.standA x.standN x.standC, .int .i64 x.start, .bool x.closed, .slice x.onA x.onN x.onC, .slice x.backA x.backN x.backC, .bool x.noch, .bool x.chalt, .slice x.serversA x.serversN x.serversC, .slice x.deadA x.deadN x.deadC, .slice x.clientsA x.clientsN x.clientsC, .slice x.drawsA x.drawsN x.drawsC, .slice x.lastA x.lastN x.lastC, .slice x.boxesA x.boxesN x.boxesC, .slice x.logA x.logN x.logC, .bool x.halted] 56)) := ((Below.refl _ _).alloc (Nat.le_refl _) _).alloc (by simp) _
  go_wp2_with (first
    | (with_reducible refine wpList_load_blk (by with_unfolding_all rfl) 56 (.tmp 4) (by with_unfolding_all rfl) _ (by with_unfolding_all rfl) gW Try.underlying56 (by with_unfolding_all rfl) size_wd (by with_unfolding_all rfl) ?_)
    | (with_reducible refine wpList_load_blk (by with_unfolding_all rfl) 56 (.tmp 7) (by with_unfolding_all rfl) _ (by with_unfolding_all rfl) gK Try.underlying56 (by with_unfolding_all rfl) size_wd (by with_unfolding_all rfl) ?_)
    | (with_reducible refine wpList_load_blk (by with_unfolding_all rfl) 25 (.tmp 3) (by with_unfolding_all rfl) _ (by with_unfolding_all rfl) gC Try.underlying25 (by with_unfolding_all rfl) size_cfg (by with_unfolding_all rfl) ?_))
  refine (long_at HL1.out _).mono ?_; rintro e w1 ⟨rfl, hb1⟩
  replace gC := gC.below hb1 gC.lt
  replace gW := gW.below hb1 (by simp)
  replace hb := hb.trans (hb1.mono (by simp; omega))
  clear hb1
  have y2 := gW.cell 2 (v := .slice x.fatesA x.fatesN x.fatesC) rfl
  go_wp2_with (first
    | (with_reducible refine wpList_load_blk (by with_unfolding_all rfl) 56 (.tmp 4) (by with_unfolding_all rfl) _ (by with_unfolding_all rfl) gW Try.underlying56 (by with_unfolding_all rfl) size_wd (by with_unfolding_all rfl) ?_)
    | (with_reducible refine wpList_load_blk (by with_unfolding_all rfl) 56 (.tmp 7) (by with_unfolding_all rfl) _ (by with_unfolding_all rfl) gK Try.underlying56 (by with_unfolding_all rfl) size_wd (by with_unfolding_all rfl) ?_)
    | (with_reducible refine wpList_load_blk (by with_unfolding_all rfl) 25 (.tmp 3) (by with_unfolding_all rfl) _ (by with_unfolding_all rfl) gC Try.underlying25 (by with_unfolding_all rfl) size_cfg (by with_unfolding_all rfl) ?_))
  refine (fine_at OK.out.fatesN HF1.out _ (OK.out.fates.below hb (Nat.le_refl _)) OK.out.fatesM).mono ?_; rintro e w' ⟨rfl, rfl⟩
  go_upto_region 11 with (first
    | (with_reducible refine wpList_load_blk (by with_unfolding_all rfl) 56 (.tmp 4) (by with_unfolding_all rfl) _ (by with_unfolding_all rfl) gW Try.underlying56 (by with_unfolding_all rfl) size_wd (by with_unfolding_all rfl) ?_)
    | (with_reducible refine wpList_store_new (by with_unfolding_all rfl) (.tmp 7) (.tmp 60) (by with_unfolding_all rfl) (by with_unfolding_all rfl) (by with_unfolding_all rfl) size_wd (by with_unfolding_all rfl) (by with_unfolding_all rfl) (by with_unfolding_all rfl) ?_))
  replace gC := gC.alloc (.cells #[.int .i64 x.now, .slice x.listA x.listN x.listC, .slice none 0 0, .int .i64 x.node, .int .u64 x.epoch, .int .u64 x.round, .slice x.chainA x.chainN x.chainC, .slice x.peersA x.peersN x.peersC, .slice x.standA x.standN x.standC, .int .i64 x.start, .bool x.closed, .slice x.onA x.onN x.onC, .slice x.backA x.backN x.backC, .bool x.noch, .bool x.chalt, .slice x.serversA x.serversN x.serversC, .slice x.deadA x.deadN x.deadC, .slice x.clientsA x.clientsN x.clientsC, .slice x.drawsA x.drawsN x.drawsC, .slice x.lastA x.lastN x.lastC, .slice x.boxesA x.boxesN x.boxesC, .slice x.logA x.logN x.logC, .bool x.halted] 56)
  replace gW := gW.alloc (.cells #[.int .i64 x.now, .slice x.listA x.listN x.listC, .slice none 0 0, .int .i64 x.node, .int .u64 x.epoch, .int .u64 x.round, .slice x.chainA x.chainN x.chainC, .slice x.peersA x.peersN x.peersC, .slice x.standA x.standN x.standC, .int .i64 x.start, .bool x.closed, .slice x.onA x.onN x.onC, .slice x.backA x.backN x.backC, .bool x.noch, .bool x.chalt, .slice x.serversA x.serversN x.serversC, .slice x.deadA x.deadN x.deadC, .slice x.clientsA x.clientsN x.clientsC, .slice x.drawsA x.drawsN x.drawsC, .slice x.lastA x.lastN x.lastC, .slice x.boxesA x.boxesN x.boxesC, .slice x.logA x.logN x.logC, .bool x.halted] 56)
  have gK := Blk.new w1 56 #[.int .i64 x.now, .slice x.listA x.listN x.listC, .slice none 0 0, .int .i64 x.node, .int .u64 x.epoch, .int .u64 x.round, .slice x.chainA x.chainN x.chainC, .slice x.peersA x.peersN x.peersC, .slice x.standA x.standN x.standC, .int .i64 x.start, .bool x.closed, .slice x.onA x.onN x.onC, .slice x.backA x.backN x.backC, .bool x.noch, .bool x.chalt, .slice x.serversA x.serversN x.serversC, .slice x.deadA x.deadN x.deadC, .slice x.clientsA x.clientsN x.clientsC, .slice x.drawsA x.drawsN x.drawsC, .slice x.lastA x.lastN x.lastC, .slice x.boxesA x.boxesN x.boxesC, .slice x.logA x.logN x.logC, .bool x.halted] rfl
  replace hb := hb.alloc hb.size (.cells #[.int .i64 x.now, .slice x.listA x.listN x.listC, .slice none 0 0, .int .i64 x.node, .int .u64 x.epoch, .int .u64 x.round, .slice x.chainA x.chainN x.chainC, .slice x.peersA x.peersN x.peersC, .slice x.standA x.standN x.standC, .int .i64 x.start, .bool x.closed, .slice x.onA x.onN x.onC, .slice x.backA x.backN x.backC, .bool x.noch, .bool x.chalt, .slice x.serversA x.serversN x.serversC, .slice x.deadA x.deadN x.deadC, .slice x.clientsA x.clientsN x.clientsC, .slice x.drawsA x.drawsN x.drawsC, .slice x.lastA x.lastN x.lastC, .slice x.boxesA x.boxesN x.boxesC, .slice x.logA x.logN x.logC, .bool x.halted] 56)
  clear y2
  go_wp2_with (first
    | (with_reducible refine wpList_load_blk (by with_unfolding_all rfl) 56 (.tmp 4) (by with_unfolding_all rfl) _ (by with_unfolding_all rfl) gW Try.underlying56 (by with_unfolding_all rfl) size_wd (by with_unfolding_all rfl) ?_)
    | (with_reducible refine wpList_load_blk (by with_unfolding_all rfl) 56 (.tmp 7) (by with_unfolding_all rfl) _ (by with_unfolding_all rfl) gK Try.underlying56 (by with_unfolding_all rfl) size_wd (by with_unfolding_all rfl) ?_)
    | (with_reducible refine wpList_load_blk (by with_unfolding_all rfl) 25 (.tmp 3) (by with_unfolding_all rfl) _ (by with_unfolding_all rfl) gC Try.underlying25 (by with_unfolding_all rfl) size_cfg (by with_unfolding_all rfl) ?_))
  refine (sure_at (OK.out.below hb hb.size) HS1.out).mono ?_; rintro e w3 ⟨rfl, hb1⟩
  replace gC := gC.below hb1 gC.lt
  replace gW := gW.below hb1 gW.lt
  replace gK := gK.below hb1 gK.lt
  replace hb := hb.trans (hb1.mono hb.size)
  clear hb1
  go_wp2_with (first
    | (with_reducible refine wpList_load_blk (by with_unfolding_all rfl) 56 (.tmp 4) (by with_unfolding_all rfl) _ (by with_unfolding_all rfl) gW Try.underlying56 (by with_unfolding_all rfl) size_wd (by with_unfolding_all rfl) ?_)
    | (with_reducible refine wpList_load_blk (by with_unfolding_all rfl) 56 (.tmp 7) (by with_unfolding_all rfl) _ (by with_unfolding_all rfl) gK Try.underlying56 (by with_unfolding_all rfl) size_wd (by with_unfolding_all rfl) ?_)
    | (with_reducible refine wpList_load_blk (by with_unfolding_all rfl) 25 (.tmp 3) (by with_unfolding_all rfl) _ (by with_unfolding_all rfl) gC Try.underlying25 (by with_unfolding_all rfl) size_cfg (by with_unfolding_all rfl) ?_))
  refine (calm_at (OK.out.below hb hb.size) HS2.out).mono ?_; rintro e w4 ⟨rfl, hb1⟩
  replace gC := gC.below hb1 gC.lt
  replace gW := gW.below hb1 gW.lt
  replace gK := gK.below hb1 gK.lt
  replace hb := hb.trans (hb1.mono hb.size)
  clear hb1
  go_wp2_with (first
    | (with_reducible refine wpList_load_blk (by with_unfolding_all rfl) 56 (.tmp 4) (by with_unfolding_all rfl) _ (by with_unfolding_all rfl) gW Try.underlying56 (by with_unfolding_all rfl) size_wd (by with_unfolding_all rfl) ?_)
    | (with_reducible refine wpList_load_blk (by with_unfolding_all rfl) 56 (.tmp 7) (by with_unfolding_all rfl) _ (by with_unfolding_all rfl) gK Try.underlying56 (by with_unfolding_all rfl) size_wd (by with_unfolding_all rfl) ?_)
    | (with_reducible refine wpList_load_blk (by with_unfolding_all rfl) 25 (.tmp 3) (by with_unfolding_all rfl) _ (by with_unfolding_all rfl) gC Try.underlying25 (by with_unfolding_all rfl) size_cfg (by with_unfolding_all rfl) ?_))
  refine (calm_at (OK.out.below hb hb.size) HS3.out).mono ?_; rintro e w5 ⟨rfl, hb1⟩
  replace gC := gC.below hb1 gC.lt
  replace gW := gW.below hb1 gW.lt
  replace gK := gK.below hb1 gK.lt
  replace hb := hb.trans (hb1.mono hb.size)
  clear hb1
  go_wp2_with (first
    | (with_reducible refine wpList_load_blk (by with_unfolding_all rfl) 56 (.tmp 4) (by with_unfolding_all rfl) _ (by with_unfolding_all rfl) gW Try.underlying56 (by with_unfolding_all rfl) size_wd (by with_unfolding_all rfl) ?_)
    | (with_reducible refine wpList_load_blk (by with_unfolding_all rfl) 56 (.tmp 7) (by with_unfolding_all rfl) _ (by with_unfolding_all rfl) gK Try.underlying56 (by with_unfolding_all rfl) size_wd (by with_unfolding_all rfl) ?_)
    | (with_reducible refine wpList_load_blk (by with_unfolding_all rfl) 25 (.tmp 3) (by with_unfolding_all rfl) _ (by with_unfolding_all rfl) gC Try.underlying25 (by with_unfolding_all rfl) size_cfg (by with_unfolding_all rfl) ?_))
  go_ret
  exact ⟨rfl, hb⟩

set_option maxHeartbeats 1000000 in
set_option maxRecDepth 100000 in
theorem more_ftf {c : Cf} {x : Wd} {ch st : List Int} {dl : List Bool} {ft : List Int} {d : Int} {w : World} (OK : Hid (WdOk w w.heap.size x ch st dl ft)) (e1 : decide (500 < (x.fatesN : Int)) = false) (e2 : decide (60 < (x.deadN : Int)) = false) (e3 : decide (60 < (x.standN : Int)) = false)
    (e4 : decide (d < 2) = false) (e5 : decide (100 < d) = false) (g1 : 2 ≤ d) (g2 : d ≤ 100) (HL1 : Hid (longB c d = false)) (HF1 : Hid (fineB ft (d - 1) = true)) (HF2 : Hid (fineB ft d = true)) (HS1 : Hid (sureB c x ch st dl ft d = false)) :
    Calls Try.prog 5 #[.agg #[.slice c.A c.n c.cap, .int .i64 c.ch, .int .i64 c.sb, .int .i64 c.cl, .int .i64 c.qu, .int .i64 c.close, .int .i64 c.long, .int .i64 c.ag, .int .i64 c.wi, .int .u64 c.r, .int .u64 c.sq], .agg #[.int .i64 x.now, .slice x.listA x.listN x.listC, .slice x.fatesA x.fatesN x.fatesC, .int .i64 x.node, .int .u64 x.epoch, .int .u64 x.round, .slice x.chainA x.chainN x.chainC, .slice x.peersA x.peersN x.peersC, .slice x.standA x.standN x.standC, .int .i64 x.start, .bool x.closed, .slice x.onA x.onN x.onC, .slice x.backA x.backN x.backC, .bool x.noch, .bool x.chalt, .slice x.serversA x.serversN x.serversC, .slice x.deadA x.deadN x.deadC, .slice x.clientsA x.clientsN x.clientsC, .slice x.drawsA x.drawsN x.drawsC, .slice x.lastA x.lastN x.lastC, .slice x.boxesA x.boxesN x.boxesC, .slice x.logA x.logN x.logC, .bool x.halted], .int .i64 d] w fun e w' => e = .returned (.bool true) ∧ Below w.heap.size w w' := by
  go_enter Try.func5, Try.ntmps5
  go_wp2_with fail
  refine (live22 _).mono ?_; rintro e w' ⟨rfl, rfl⟩
  have gC := (Blk.new w 25 #[.slice c.A c.n c.cap, .int .i64 c.ch, .int .i64 c.sb, .int .i64 c.cl, .int .i64 c.qu, .int .i64 c.close, .int .i64 c.long, .int .i64 c.ag, .int .i64 c.wi, .int .u64 c.r, .int .u64 c.sq] rfl).alloc (.cells #[.int .i64 x.now, .slice x.listA x.listN x.listC, .slice x.fatesA x.fatesN x.fatesC, .int .i64 x.node, .int .u64 x.epoch, .int .u64 x.round, .slice x.chainA x.chainN x.chainC, .slice x.peersA x.peersN x.peersC, .slice x.standA x.standN x.standC, .int .i64 x.start, .bool x.closed, .slice x.onA x.onN x.onC, .slice x.backA x.backN x.backC, .bool x.noch, .bool x.chalt, .slice x.serversA x.serversN x.serversC, .slice x.deadA x.deadN x.deadC, .slice x.clientsA x.clientsN x.clientsC, .slice x.drawsA x.drawsN x.drawsC, .slice x.lastA x.lastN x.lastC, .slice x.boxesA x.boxesN x.boxesC, .slice x.logA x.logN x.logC, .bool x.halted] 56)
  have gW := Blk.new (w.alloc (.cells #[.slice c.A c.n c.cap, .int .i64 c.ch, .int .i64 c.sb, .int .i64 c.cl, .int .i64 c.qu, .int .i64 c.close, .int .i64 c.long, .int .i64 c.ag, .int .i64 c.wi, .int .u64 c.r, .int .u64 c.sq] 25)) 56 #[.int .i64 x.now, .slice x.listA x.listN x.listC, .slice x.fatesA x.fatesN x.fatesC, .int .i64 x.node, .int .u64 x.epoch, .int .u64 x.round, .slice x.chainA x.chainN x.chainC, .slice x.peersA x.peersN x.peersC, .slice x.standA x.standN x.standC, .int .i64 x.start, .bool x.closed, .slice x.onA x.onN x.onC, .slice x.backA x.backN x.backC, .bool x.noch, .bool x.chalt, .slice x.serversA x.serversN x.serversC, .slice x.deadA x.deadN x.deadC, .slice x.clientsA x.clientsN x.clientsC, .slice x.drawsA x.drawsN x.drawsC, .slice x.lastA x.lastN x.lastC, .slice x.boxesA x.boxesN x.boxesC, .slice x.logA x.logN x.logC, .bool x.halted] rfl
  simp only [World.size_alloc] at gW
  have hb : Below w.heap.size w ((w.alloc (.cells #[.slice c.A c.n c.cap, .int .i64 c.ch, .int .i64 c.sb, .int .i64 c.cl, .int .i64 c.qu, .int .i64 c.close, .int .i64 c.long, .int .i64 c.ag, .int .i64 c.wi, .int .u64 c.r, .int .u64 c.sq] 25)).alloc (.cells #[.int .i64 x.now, .slice x.listA x.listN x.listC, .slice x.fatesA x.fatesN x.fatesC, .int .i64 x.node, .int .u64 x.epoch, .int .u64 x.round, .slice x.chainA x.chainN x.chainC, .slice x.peersA x.peersN x.peersC, .slice x.standA x.standN x.standC, .int .i64 x.start, .bool x.closed, .slice x.onA x.onN x.onC, .slice x.backA x.backN x.backC, .bool x.noch, .bool x.chalt, .slice x.serversA x.serversN x.serversC, .slice x.deadA x.deadN x.deadC, .slice x.clientsA x.clientsN x.clientsC, .slice x.drawsA x.drawsN x.drawsC, .slice x.lastA x.lastN x.lastC, .slice x.boxesA x.boxesN x.boxesC, .slice x.logA x.logN x.logC, .bool x.halted] 56)) := ((Below.refl _ _).alloc (Nat.le_refl _) _).alloc (by simp) _
  go_wp2_with (first
    | (with_reducible refine wpList_load_blk (by with_unfolding_all rfl) 56 (.tmp 4) (by with_unfolding_all rfl) _ (by with_unfolding_all rfl) gW Try.underlying56 (by with_unfolding_all rfl) size_wd (by with_unfolding_all rfl) ?_)
    | (with_reducible refine wpList_load_blk (by with_unfolding_all rfl) 56 (.tmp 7) (by with_unfolding_all rfl) _ (by with_unfolding_all rfl) gK Try.underlying56 (by with_unfolding_all rfl) size_wd (by with_unfolding_all rfl) ?_)
    | (with_reducible refine wpList_load_blk (by with_unfolding_all rfl) 25 (.tmp 3) (by with_unfolding_all rfl) _ (by with_unfolding_all rfl) gC Try.underlying25 (by with_unfolding_all rfl) size_cfg (by with_unfolding_all rfl) ?_))
  refine (long_at HL1.out _).mono ?_; rintro e w1 ⟨rfl, hb1⟩
  replace gC := gC.below hb1 gC.lt
  replace gW := gW.below hb1 (by simp)
  replace hb := hb.trans (hb1.mono (by simp; omega))
  clear hb1
  have y2 := gW.cell 2 (v := .slice x.fatesA x.fatesN x.fatesC) rfl
  go_wp2_with (first
    | (with_reducible refine wpList_load_blk (by with_unfolding_all rfl) 56 (.tmp 4) (by with_unfolding_all rfl) _ (by with_unfolding_all rfl) gW Try.underlying56 (by with_unfolding_all rfl) size_wd (by with_unfolding_all rfl) ?_)
    | (with_reducible refine wpList_load_blk (by with_unfolding_all rfl) 56 (.tmp 7) (by with_unfolding_all rfl) _ (by with_unfolding_all rfl) gK Try.underlying56 (by with_unfolding_all rfl) size_wd (by with_unfolding_all rfl) ?_)
    | (with_reducible refine wpList_load_blk (by with_unfolding_all rfl) 25 (.tmp 3) (by with_unfolding_all rfl) _ (by with_unfolding_all rfl) gC Try.underlying25 (by with_unfolding_all rfl) size_cfg (by with_unfolding_all rfl) ?_))
  refine (fine_at OK.out.fatesN HF1.out _ (OK.out.fates.below hb (Nat.le_refl _)) OK.out.fatesM).mono ?_; rintro e w' ⟨rfl, rfl⟩
  go_wp2_with (first
    | (with_reducible refine wpList_load_blk (by with_unfolding_all rfl) 56 (.tmp 4) (by with_unfolding_all rfl) _ (by with_unfolding_all rfl) gW Try.underlying56 (by with_unfolding_all rfl) size_wd (by with_unfolding_all rfl) ?_)
    | (with_reducible refine wpList_load_blk (by with_unfolding_all rfl) 56 (.tmp 7) (by with_unfolding_all rfl) _ (by with_unfolding_all rfl) gK Try.underlying56 (by with_unfolding_all rfl) size_wd (by with_unfolding_all rfl) ?_)
    | (with_reducible refine wpList_load_blk (by with_unfolding_all rfl) 25 (.tmp 3) (by with_unfolding_all rfl) _ (by with_unfolding_all rfl) gC Try.underlying25 (by with_unfolding_all rfl) size_cfg (by with_unfolding_all rfl) ?_))
  refine (fine_at OK.out.fatesN HF2.out _ (OK.out.fates.below hb (Nat.le_refl _)) OK.out.fatesM).mono ?_; rintro e w' ⟨rfl, rfl⟩
  go_upto_region 11 with (first
    | (with_reducible refine wpList_load_blk (by with_unfolding_all rfl) 56 (.tmp 4) (by with_unfolding_all rfl) _ (by with_unfolding_all rfl) gW Try.underlying56 (by with_unfolding_all rfl) size_wd (by with_unfolding_all rfl) ?_)
    | (with_reducible refine wpList_store_new (by with_unfolding_all rfl) (.tmp 7) (.tmp 60) (by with_unfolding_all rfl) (by with_unfolding_all rfl) (by with_unfolding_all rfl) size_wd (by with_unfolding_all rfl) (by with_unfolding_all rfl) (by with_unfolding_all rfl) ?_))
  replace gC := gC.alloc (.cells #[.int .i64 x.now, .slice x.listA x.listN x.listC, .slice none 0 0, .int .i64 x.node, .int .u64 x.epoch, .int .u64 x.round, .slice x.chainA x.chainN x.chainC, .slice x.peersA x.peersN x.peersC, .slice x.standA x.standN x.standC, .int .i64 x.start, .bool x.closed, .slice x.onA x.onN x.onC, .slice x.backA x.backN x.backC, .bool x.noch, .bool x.chalt, .slice x.serversA x.serversN x.serversC, .slice x.deadA x.deadN x.deadC, .slice x.clientsA x.clientsN x.clientsC, .slice x.drawsA x.drawsN x.drawsC, .slice x.lastA x.lastN x.lastC, .slice x.boxesA x.boxesN x.boxesC, .slice x.logA x.logN x.logC, .bool x.halted] 56)
  replace gW := gW.alloc (.cells #[.int .i64 x.now, .slice x.listA x.listN x.listC, .slice none 0 0, .int .i64 x.node, .int .u64 x.epoch, .int .u64 x.round, .slice x.chainA x.chainN x.chainC, .slice x.peersA x.peersN x.peersC, .slice x.standA x.standN x.standC, .int .i64 x.start, .bool x.closed, .slice x.onA x.onN x.onC, .slice x.backA x.backN x.backC, .bool x.noch, .bool x.chalt, .slice x.serversA x.serversN x.serversC, .slice x.deadA x.deadN x.deadC, .slice x.clientsA x.clientsN x.clientsC, .slice x.drawsA x.drawsN x.drawsC, .slice x.lastA x.lastN x.lastC, .slice x.boxesA x.boxesN x.boxesC, .slice x.logA x.logN x.logC, .bool x.halted] 56)
  have gK := Blk.new w1 56 #[.int .i64 x.now, .slice x.listA x.listN x.listC, .slice none 0 0, .int .i64 x.node, .int .u64 x.epoch, .int .u64 x.round, .slice x.chainA x.chainN x.chainC, .slice x.peersA x.peersN x.peersC, .slice x.standA x.standN x.standC, .int .i64 x.start, .bool x.closed, .slice x.onA x.onN x.onC, .slice x.backA x.backN x.backC, .bool x.noch, .bool x.chalt, .slice x.serversA x.serversN x.serversC, .slice x.deadA x.deadN x.deadC, .slice x.clientsA x.clientsN x.clientsC, .slice x.drawsA x.drawsN x.drawsC, .slice x.lastA x.lastN x.lastC, .slice x.boxesA x.boxesN x.boxesC, .slice x.logA x.logN x.logC, .bool x.halted] rfl
  replace hb := hb.alloc hb.size (.cells #[.int .i64 x.now, .slice x.listA x.listN x.listC, .slice none 0 0, .int .i64 x.node, .int .u64 x.epoch, .int .u64 x.round, .slice x.chainA x.chainN x.chainC, .slice x.peersA x.peersN x.peersC, .slice x.standA x.standN x.standC, .int .i64 x.start, .bool x.closed, .slice x.onA x.onN x.onC, .slice x.backA x.backN x.backC, .bool x.noch, .bool x.chalt, .slice x.serversA x.serversN x.serversC, .slice x.deadA x.deadN x.deadC, .slice x.clientsA x.clientsN x.clientsC, .slice x.drawsA x.drawsN x.drawsC, .slice x.lastA x.lastN x.lastC, .slice x.boxesA x.boxesN x.boxesC, .slice x.logA x.logN x.logC, .bool x.halted] 56)
  clear y2
  go_wp2_with (first
    | (with_reducible refine wpList_load_blk (by with_unfolding_all rfl) 56 (.tmp 4) (by with_unfolding_all rfl) _ (by with_unfolding_all rfl) gW Try.underlying56 (by with_unfolding_all rfl) size_wd (by with_unfolding_all rfl) ?_)
    | (with_reducible refine wpList_load_blk (by with_unfolding_all rfl) 56 (.tmp 7) (by with_unfolding_all rfl) _ (by with_unfolding_all rfl) gK Try.underlying56 (by with_unfolding_all rfl) size_wd (by with_unfolding_all rfl) ?_)
    | (with_reducible refine wpList_load_blk (by with_unfolding_all rfl) 25 (.tmp 3) (by with_unfolding_all rfl) _ (by with_unfolding_all rfl) gC Try.underlying25 (by with_unfolding_all rfl) size_cfg (by with_unfolding_all rfl) ?_))
  refine (sure_at (OK.out.below hb hb.size) HS1.out).mono ?_; rintro e w3 ⟨rfl, hb1⟩
  replace gC := gC.below hb1 gC.lt
  replace gW := gW.below hb1 gW.lt
  replace gK := gK.below hb1 gK.lt
  replace hb := hb.trans (hb1.mono hb.size)
  clear hb1
  go_wp2_with (first
    | (with_reducible refine wpList_load_blk (by with_unfolding_all rfl) 56 (.tmp 4) (by with_unfolding_all rfl) _ (by with_unfolding_all rfl) gW Try.underlying56 (by with_unfolding_all rfl) size_wd (by with_unfolding_all rfl) ?_)
    | (with_reducible refine wpList_load_blk (by with_unfolding_all rfl) 56 (.tmp 7) (by with_unfolding_all rfl) _ (by with_unfolding_all rfl) gK Try.underlying56 (by with_unfolding_all rfl) size_wd (by with_unfolding_all rfl) ?_)
    | (with_reducible refine wpList_load_blk (by with_unfolding_all rfl) 25 (.tmp 3) (by with_unfolding_all rfl) _ (by with_unfolding_all rfl) gC Try.underlying25 (by with_unfolding_all rfl) size_cfg (by with_unfolding_all rfl) ?_))
  go_ret
  exact ⟨rfl, hb⟩

set_option maxHeartbeats 1000000 in
set_option maxRecDepth 100000 in
theorem more_ftt {c : Cf} {x : Wd} {ch st : List Int} {dl : List Bool} {ft : List Int} {d : Int} {w : World} (OK : Hid (WdOk w w.heap.size x ch st dl ft)) (e1 : decide (500 < (x.fatesN : Int)) = false) (e2 : decide (60 < (x.deadN : Int)) = false) (e3 : decide (60 < (x.standN : Int)) = false)
    (e4 : decide (d < 2) = false) (e5 : decide (100 < d) = false) (g1 : 2 ≤ d) (g2 : d ≤ 100) (HL1 : Hid (longB c d = false)) (HF1 : Hid (fineB ft (d - 1) = true)) (HF2 : Hid (fineB ft d = true)) (HS1 : Hid (sureB c x ch st dl ft d = true)) (HS2 : Hid (sureB c (calmOf x) ch st dl [] d = true)) (HS3 : Hid (sureB c (calmOf x) ch st dl [] (d - 1) = true)) :
    Calls Try.prog 5 #[.agg #[.slice c.A c.n c.cap, .int .i64 c.ch, .int .i64 c.sb, .int .i64 c.cl, .int .i64 c.qu, .int .i64 c.close, .int .i64 c.long, .int .i64 c.ag, .int .i64 c.wi, .int .u64 c.r, .int .u64 c.sq], .agg #[.int .i64 x.now, .slice x.listA x.listN x.listC, .slice x.fatesA x.fatesN x.fatesC, .int .i64 x.node, .int .u64 x.epoch, .int .u64 x.round, .slice x.chainA x.chainN x.chainC, .slice x.peersA x.peersN x.peersC, .slice x.standA x.standN x.standC, .int .i64 x.start, .bool x.closed, .slice x.onA x.onN x.onC, .slice x.backA x.backN x.backC, .bool x.noch, .bool x.chalt, .slice x.serversA x.serversN x.serversC, .slice x.deadA x.deadN x.deadC, .slice x.clientsA x.clientsN x.clientsC, .slice x.drawsA x.drawsN x.drawsC, .slice x.lastA x.lastN x.lastC, .slice x.boxesA x.boxesN x.boxesC, .slice x.logA x.logN x.logC, .bool x.halted], .int .i64 d] w fun e w' => e = .returned (.bool true) ∧ Below w.heap.size w w' := by
  go_enter Try.func5, Try.ntmps5
  go_wp2_with fail
  refine (live22 _).mono ?_; rintro e w' ⟨rfl, rfl⟩
  have gC := (Blk.new w 25 #[.slice c.A c.n c.cap, .int .i64 c.ch, .int .i64 c.sb, .int .i64 c.cl, .int .i64 c.qu, .int .i64 c.close, .int .i64 c.long, .int .i64 c.ag, .int .i64 c.wi, .int .u64 c.r, .int .u64 c.sq] rfl).alloc (.cells #[.int .i64 x.now, .slice x.listA x.listN x.listC, .slice x.fatesA x.fatesN x.fatesC, .int .i64 x.node, .int .u64 x.epoch, .int .u64 x.round, .slice x.chainA x.chainN x.chainC, .slice x.peersA x.peersN x.peersC, .slice x.standA x.standN x.standC, .int .i64 x.start, .bool x.closed, .slice x.onA x.onN x.onC, .slice x.backA x.backN x.backC, .bool x.noch, .bool x.chalt, .slice x.serversA x.serversN x.serversC, .slice x.deadA x.deadN x.deadC, .slice x.clientsA x.clientsN x.clientsC, .slice x.drawsA x.drawsN x.drawsC, .slice x.lastA x.lastN x.lastC, .slice x.boxesA x.boxesN x.boxesC, .slice x.logA x.logN x.logC, .bool x.halted] 56)
  have gW := Blk.new (w.alloc (.cells #[.slice c.A c.n c.cap, .int .i64 c.ch, .int .i64 c.sb, .int .i64 c.cl, .int .i64 c.qu, .int .i64 c.close, .int .i64 c.long, .int .i64 c.ag, .int .i64 c.wi, .int .u64 c.r, .int .u64 c.sq] 25)) 56 #[.int .i64 x.now, .slice x.listA x.listN x.listC, .slice x.fatesA x.fatesN x.fatesC, .int .i64 x.node, .int .u64 x.epoch, .int .u64 x.round, .slice x.chainA x.chainN x.chainC, .slice x.peersA x.peersN x.peersC, .slice x.standA x.standN x.standC, .int .i64 x.start, .bool x.closed, .slice x.onA x.onN x.onC, .slice x.backA x.backN x.backC, .bool x.noch, .bool x.chalt, .slice x.serversA x.serversN x.serversC, .slice x.deadA x.deadN x.deadC, .slice x.clientsA x.clientsN x.clientsC, .slice x.drawsA x.drawsN x.drawsC, .slice x.lastA x.lastN x.lastC, .slice x.boxesA x.boxesN x.boxesC, .slice x.logA x.logN x.logC, .bool x.halted] rfl
  simp only [World.size_alloc] at gW
  have hb : Below w.heap.size w ((w.alloc (.cells #[.slice c.A c.n c.cap, .int .i64 c.ch, .int .i64 c.sb, .int .i64 c.cl, .int .i64 c.qu, .int .i64 c.close, .int .i64 c.long, .int .i64 c.ag, .int .i64 c.wi, .int .u64 c.r, .int .u64 c.sq] 25)).alloc (.cells #[.int .i64 x.now, .slice x.listA x.listN x.listC, .slice x.fatesA x.fatesN x.fatesC, .int .i64 x.node, .int .u64 x.epoch, .int .u64 x.round, .slice x.chainA x.chainN x.chainC, .slice x.peersA x.peersN x.peersC, .slice x.standA x.standN x.standC, .int .i64 x.start, .bool x.closed, .slice x.onA x.onN x.onC, .slice x.backA x.backN x.backC, .bool x.noch, .bool x.chalt, .slice x.serversA x.serversN x.serversC, .slice x.deadA x.deadN x.deadC, .slice x.clientsA x.clientsN x.clientsC, .slice x.drawsA x.drawsN x.drawsC, .slice x.lastA x.lastN x.lastC, .slice x.boxesA x.boxesN x.boxesC, .slice x.logA x.logN x.logC, .bool x.halted] 56)) := ((Below.refl _ _).alloc (Nat.le_refl _) _).alloc (by simp) _
  go_wp2_with (first
    | (with_reducible refine wpList_load_blk (by with_unfolding_all rfl) 56 (.tmp 4) (by with_unfolding_all rfl) _ (by with_unfolding_all rfl) gW Try.underlying56 (by with_unfolding_all rfl) size_wd (by with_unfolding_all rfl) ?_)
    | (with_reducible refine wpList_load_blk (by with_unfolding_all rfl) 56 (.tmp 7) (by with_unfolding_all rfl) _ (by with_unfolding_all rfl) gK Try.underlying56 (by with_unfolding_all rfl) size_wd (by with_unfolding_all rfl) ?_)
    | (with_reducible refine wpList_load_blk (by with_unfolding_all rfl) 25 (.tmp 3) (by with_unfolding_all rfl) _ (by with_unfolding_all rfl) gC Try.underlying25 (by with_unfolding_all rfl) size_cfg (by with_unfolding_all rfl) ?_))
  refine (long_at HL1.out _).mono ?_; rintro e w1 ⟨rfl, hb1⟩
  replace gC := gC.below hb1 gC.lt
  replace gW := gW.below hb1 (by simp)
  replace hb := hb.trans (hb1.mono (by simp; omega))
  clear hb1
  have y2 := gW.cell 2 (v := .slice x.fatesA x.fatesN x.fatesC) rfl
  go_wp2_with (first
    | (with_reducible refine wpList_load_blk (by with_unfolding_all rfl) 56 (.tmp 4) (by with_unfolding_all rfl) _ (by with_unfolding_all rfl) gW Try.underlying56 (by with_unfolding_all rfl) size_wd (by with_unfolding_all rfl) ?_)
    | (with_reducible refine wpList_load_blk (by with_unfolding_all rfl) 56 (.tmp 7) (by with_unfolding_all rfl) _ (by with_unfolding_all rfl) gK Try.underlying56 (by with_unfolding_all rfl) size_wd (by with_unfolding_all rfl) ?_)
    | (with_reducible refine wpList_load_blk (by with_unfolding_all rfl) 25 (.tmp 3) (by with_unfolding_all rfl) _ (by with_unfolding_all rfl) gC Try.underlying25 (by with_unfolding_all rfl) size_cfg (by with_unfolding_all rfl) ?_))
  refine (fine_at OK.out.fatesN HF1.out _ (OK.out.fates.below hb (Nat.le_refl _)) OK.out.fatesM).mono ?_; rintro e w' ⟨rfl, rfl⟩
  go_wp2_with (first
    | (with_reducible refine wpList_load_blk (by with_unfolding_all rfl) 56 (.tmp 4) (by with_unfolding_all rfl) _ (by with_unfolding_all rfl) gW Try.underlying56 (by with_unfolding_all rfl) size_wd (by with_unfolding_all rfl) ?_)
    | (with_reducible refine wpList_load_blk (by with_unfolding_all rfl) 56 (.tmp 7) (by with_unfolding_all rfl) _ (by with_unfolding_all rfl) gK Try.underlying56 (by with_unfolding_all rfl) size_wd (by with_unfolding_all rfl) ?_)
    | (with_reducible refine wpList_load_blk (by with_unfolding_all rfl) 25 (.tmp 3) (by with_unfolding_all rfl) _ (by with_unfolding_all rfl) gC Try.underlying25 (by with_unfolding_all rfl) size_cfg (by with_unfolding_all rfl) ?_))
  refine (fine_at OK.out.fatesN HF2.out _ (OK.out.fates.below hb (Nat.le_refl _)) OK.out.fatesM).mono ?_; rintro e w' ⟨rfl, rfl⟩
  go_upto_region 11 with (first
    | (with_reducible refine wpList_load_blk (by with_unfolding_all rfl) 56 (.tmp 4) (by with_unfolding_all rfl) _ (by with_unfolding_all rfl) gW Try.underlying56 (by with_unfolding_all rfl) size_wd (by with_unfolding_all rfl) ?_)
    | (with_reducible refine wpList_store_new (by with_unfolding_all rfl) (.tmp 7) (.tmp 60) (by with_unfolding_all rfl) (by with_unfolding_all rfl) (by with_unfolding_all rfl) size_wd (by with_unfolding_all rfl) (by with_unfolding_all rfl) (by with_unfolding_all rfl) ?_))
  replace gC := gC.alloc (.cells #[.int .i64 x.now, .slice x.listA x.listN x.listC, .slice none 0 0, .int .i64 x.node, .int .u64 x.epoch, .int .u64 x.round, .slice x.chainA x.chainN x.chainC, .slice x.peersA x.peersN x.peersC, .slice x.standA x.standN x.standC, .int .i64 x.start, .bool x.closed, .slice x.onA x.onN x.onC, .slice x.backA x.backN x.backC, .bool x.noch, .bool x.chalt, .slice x.serversA x.serversN x.serversC, .slice x.deadA x.deadN x.deadC, .slice x.clientsA x.clientsN x.clientsC, .slice x.drawsA x.drawsN x.drawsC, .slice x.lastA x.lastN x.lastC, .slice x.boxesA x.boxesN x.boxesC, .slice x.logA x.logN x.logC, .bool x.halted] 56)
  replace gW := gW.alloc (.cells #[.int .i64 x.now, .slice x.listA x.listN x.listC, .slice none 0 0, .int .i64 x.node, .int .u64 x.epoch, .int .u64 x.round, .slice x.chainA x.chainN x.chainC, .slice x.peersA x.peersN x.peersC, .slice x.standA x.standN x.standC, .int .i64 x.start, .bool x.closed, .slice x.onA x.onN x.onC, .slice x.backA x.backN x.backC, .bool x.noch, .bool x.chalt, .slice x.serversA x.serversN x.serversC, .slice x.deadA x.deadN x.deadC, .slice x.clientsA x.clientsN x.clientsC, .slice x.drawsA x.drawsN x.drawsC, .slice x.lastA x.lastN x.lastC, .slice x.boxesA x.boxesN x.boxesC, .slice x.logA x.logN x.logC, .bool x.halted] 56)
  have gK := Blk.new w1 56 #[.int .i64 x.now, .slice x.listA x.listN x.listC, .slice none 0 0, .int .i64 x.node, .int .u64 x.epoch, .int .u64 x.round, .slice x.chainA x.chainN x.chainC, .slice x.peersA x.peersN x.peersC, .slice x.standA x.standN x.standC, .int .i64 x.start, .bool x.closed, .slice x.onA x.onN x.onC, .slice x.backA x.backN x.backC, .bool x.noch, .bool x.chalt, .slice x.serversA x.serversN x.serversC, .slice x.deadA x.deadN x.deadC, .slice x.clientsA x.clientsN x.clientsC, .slice x.drawsA x.drawsN x.drawsC, .slice x.lastA x.lastN x.lastC, .slice x.boxesA x.boxesN x.boxesC, .slice x.logA x.logN x.logC, .bool x.halted] rfl
  replace hb := hb.alloc hb.size (.cells #[.int .i64 x.now, .slice x.listA x.listN x.listC, .slice none 0 0, .int .i64 x.node, .int .u64 x.epoch, .int .u64 x.round, .slice x.chainA x.chainN x.chainC, .slice x.peersA x.peersN x.peersC, .slice x.standA x.standN x.standC, .int .i64 x.start, .bool x.closed, .slice x.onA x.onN x.onC, .slice x.backA x.backN x.backC, .bool x.noch, .bool x.chalt, .slice x.serversA x.serversN x.serversC, .slice x.deadA x.deadN x.deadC, .slice x.clientsA x.clientsN x.clientsC, .slice x.drawsA x.drawsN x.drawsC, .slice x.lastA x.lastN x.lastC, .slice x.boxesA x.boxesN x.boxesC, .slice x.logA x.logN x.logC, .bool x.halted] 56)
  clear y2
  go_wp2_with (first
    | (with_reducible refine wpList_load_blk (by with_unfolding_all rfl) 56 (.tmp 4) (by with_unfolding_all rfl) _ (by with_unfolding_all rfl) gW Try.underlying56 (by with_unfolding_all rfl) size_wd (by with_unfolding_all rfl) ?_)
    | (with_reducible refine wpList_load_blk (by with_unfolding_all rfl) 56 (.tmp 7) (by with_unfolding_all rfl) _ (by with_unfolding_all rfl) gK Try.underlying56 (by with_unfolding_all rfl) size_wd (by with_unfolding_all rfl) ?_)
    | (with_reducible refine wpList_load_blk (by with_unfolding_all rfl) 25 (.tmp 3) (by with_unfolding_all rfl) _ (by with_unfolding_all rfl) gC Try.underlying25 (by with_unfolding_all rfl) size_cfg (by with_unfolding_all rfl) ?_))
  refine (sure_at (OK.out.below hb hb.size) HS1.out).mono ?_; rintro e w3 ⟨rfl, hb1⟩
  replace gC := gC.below hb1 gC.lt
  replace gW := gW.below hb1 gW.lt
  replace gK := gK.below hb1 gK.lt
  replace hb := hb.trans (hb1.mono hb.size)
  clear hb1
  go_wp2_with (first
    | (with_reducible refine wpList_load_blk (by with_unfolding_all rfl) 56 (.tmp 4) (by with_unfolding_all rfl) _ (by with_unfolding_all rfl) gW Try.underlying56 (by with_unfolding_all rfl) size_wd (by with_unfolding_all rfl) ?_)
    | (with_reducible refine wpList_load_blk (by with_unfolding_all rfl) 56 (.tmp 7) (by with_unfolding_all rfl) _ (by with_unfolding_all rfl) gK Try.underlying56 (by with_unfolding_all rfl) size_wd (by with_unfolding_all rfl) ?_)
    | (with_reducible refine wpList_load_blk (by with_unfolding_all rfl) 25 (.tmp 3) (by with_unfolding_all rfl) _ (by with_unfolding_all rfl) gC Try.underlying25 (by with_unfolding_all rfl) size_cfg (by with_unfolding_all rfl) ?_))
  refine (calm_at (OK.out.below hb hb.size) HS2.out).mono ?_; rintro e w4 ⟨rfl, hb1⟩
  replace gC := gC.below hb1 gC.lt
  replace gW := gW.below hb1 gW.lt
  replace gK := gK.below hb1 gK.lt
  replace hb := hb.trans (hb1.mono hb.size)
  clear hb1
  go_wp2_with (first
    | (with_reducible refine wpList_load_blk (by with_unfolding_all rfl) 56 (.tmp 4) (by with_unfolding_all rfl) _ (by with_unfolding_all rfl) gW Try.underlying56 (by with_unfolding_all rfl) size_wd (by with_unfolding_all rfl) ?_)
    | (with_reducible refine wpList_load_blk (by with_unfolding_all rfl) 56 (.tmp 7) (by with_unfolding_all rfl) _ (by with_unfolding_all rfl) gK Try.underlying56 (by with_unfolding_all rfl) size_wd (by with_unfolding_all rfl) ?_)
    | (with_reducible refine wpList_load_blk (by with_unfolding_all rfl) 25 (.tmp 3) (by with_unfolding_all rfl) _ (by with_unfolding_all rfl) gC Try.underlying25 (by with_unfolding_all rfl) size_cfg (by with_unfolding_all rfl) ?_))
  refine (calm_at (OK.out.below hb hb.size) HS3.out).mono ?_; rintro e w5 ⟨rfl, hb1⟩
  replace gC := gC.below hb1 gC.lt
  replace gW := gW.below hb1 gW.lt
  replace gK := gK.below hb1 gK.lt
  replace hb := hb.trans (hb1.mono hb.size)
  clear hb1
  go_wp2_with (first
    | (with_reducible refine wpList_load_blk (by with_unfolding_all rfl) 56 (.tmp 4) (by with_unfolding_all rfl) _ (by with_unfolding_all rfl) gW Try.underlying56 (by with_unfolding_all rfl) size_wd (by with_unfolding_all rfl) ?_)
    | (with_reducible refine wpList_load_blk (by with_unfolding_all rfl) 56 (.tmp 7) (by with_unfolding_all rfl) _ (by with_unfolding_all rfl) gK Try.underlying56 (by with_unfolding_all rfl) size_wd (by with_unfolding_all rfl) ?_)
    | (with_reducible refine wpList_load_blk (by with_unfolding_all rfl) 25 (.tmp 3) (by with_unfolding_all rfl) _ (by with_unfolding_all rfl) gC Try.underlying25 (by with_unfolding_all rfl) size_cfg (by with_unfolding_all rfl) ?_))
  go_ret
  exact ⟨rfl, hb⟩

set_option maxHeartbeats 1000000 in
set_option maxRecDepth 100000 in
theorem more_tff {c : Cf} {x : Wd} {ch st : List Int} {dl : List Bool} {ft : List Int} {d : Int} {w : World} (OK : Hid (WdOk w w.heap.size x ch st dl ft)) (e1 : decide (500 < (x.fatesN : Int)) = false) (e2 : decide (60 < (x.deadN : Int)) = false) (e3 : decide (60 < (x.standN : Int)) = false)
    (e4 : decide (d < 2) = false) (e5 : decide (100 < d) = false) (g1 : 2 ≤ d) (g2 : d ≤ 100) (HL1 : Hid (longB c d = true)) (HL2 : Hid (longB c (d - 1) = true)) (HF1 : Hid (fineB ft (d - 1) = false)) (HS1 : Hid (sureB c x ch st dl ft d = false)) :
    Calls Try.prog 5 #[.agg #[.slice c.A c.n c.cap, .int .i64 c.ch, .int .i64 c.sb, .int .i64 c.cl, .int .i64 c.qu, .int .i64 c.close, .int .i64 c.long, .int .i64 c.ag, .int .i64 c.wi, .int .u64 c.r, .int .u64 c.sq], .agg #[.int .i64 x.now, .slice x.listA x.listN x.listC, .slice x.fatesA x.fatesN x.fatesC, .int .i64 x.node, .int .u64 x.epoch, .int .u64 x.round, .slice x.chainA x.chainN x.chainC, .slice x.peersA x.peersN x.peersC, .slice x.standA x.standN x.standC, .int .i64 x.start, .bool x.closed, .slice x.onA x.onN x.onC, .slice x.backA x.backN x.backC, .bool x.noch, .bool x.chalt, .slice x.serversA x.serversN x.serversC, .slice x.deadA x.deadN x.deadC, .slice x.clientsA x.clientsN x.clientsC, .slice x.drawsA x.drawsN x.drawsC, .slice x.lastA x.lastN x.lastC, .slice x.boxesA x.boxesN x.boxesC, .slice x.logA x.logN x.logC, .bool x.halted], .int .i64 d] w fun e w' => e = .returned (.bool true) ∧ Below w.heap.size w w' := by
  go_enter Try.func5, Try.ntmps5
  go_wp2_with fail
  refine (live22 _).mono ?_; rintro e w' ⟨rfl, rfl⟩
  have gC := (Blk.new w 25 #[.slice c.A c.n c.cap, .int .i64 c.ch, .int .i64 c.sb, .int .i64 c.cl, .int .i64 c.qu, .int .i64 c.close, .int .i64 c.long, .int .i64 c.ag, .int .i64 c.wi, .int .u64 c.r, .int .u64 c.sq] rfl).alloc (.cells #[.int .i64 x.now, .slice x.listA x.listN x.listC, .slice x.fatesA x.fatesN x.fatesC, .int .i64 x.node, .int .u64 x.epoch, .int .u64 x.round, .slice x.chainA x.chainN x.chainC, .slice x.peersA x.peersN x.peersC, .slice x.standA x.standN x.standC, .int .i64 x.start, .bool x.closed, .slice x.onA x.onN x.onC, .slice x.backA x.backN x.backC, .bool x.noch, .bool x.chalt, .slice x.serversA x.serversN x.serversC, .slice x.deadA x.deadN x.deadC, .slice x.clientsA x.clientsN x.clientsC, .slice x.drawsA x.drawsN x.drawsC, .slice x.lastA x.lastN x.lastC, .slice x.boxesA x.boxesN x.boxesC, .slice x.logA x.logN x.logC, .bool x.halted] 56)
  have gW := Blk.new (w.alloc (.cells #[.slice c.A c.n c.cap, .int .i64 c.ch, .int .i64 c.sb, .int .i64 c.cl, .int .i64 c.qu, .int .i64 c.close, .int .i64 c.long, .int .i64 c.ag, .int .i64 c.wi, .int .u64 c.r, .int .u64 c.sq] 25)) 56 #[.int .i64 x.now, .slice x.listA x.listN x.listC, .slice x.fatesA x.fatesN x.fatesC, .int .i64 x.node, .int .u64 x.epoch, .int .u64 x.round, .slice x.chainA x.chainN x.chainC, .slice x.peersA x.peersN x.peersC, .slice x.standA x.standN x.standC, .int .i64 x.start, .bool x.closed, .slice x.onA x.onN x.onC, .slice x.backA x.backN x.backC, .bool x.noch, .bool x.chalt, .slice x.serversA x.serversN x.serversC, .slice x.deadA x.deadN x.deadC, .slice x.clientsA x.clientsN x.clientsC, .slice x.drawsA x.drawsN x.drawsC, .slice x.lastA x.lastN x.lastC, .slice x.boxesA x.boxesN x.boxesC, .slice x.logA x.logN x.logC, .bool x.halted] rfl
  simp only [World.size_alloc] at gW
  have hb : Below w.heap.size w ((w.alloc (.cells #[.slice c.A c.n c.cap, .int .i64 c.ch, .int .i64 c.sb, .int .i64 c.cl, .int .i64 c.qu, .int .i64 c.close, .int .i64 c.long, .int .i64 c.ag, .int .i64 c.wi, .int .u64 c.r, .int .u64 c.sq] 25)).alloc (.cells #[.int .i64 x.now, .slice x.listA x.listN x.listC, .slice x.fatesA x.fatesN x.fatesC, .int .i64 x.node, .int .u64 x.epoch, .int .u64 x.round, .slice x.chainA x.chainN x.chainC, .slice x.peersA x.peersN x.peersC, .slice x.standA x.standN x.standC, .int .i64 x.start, .bool x.closed, .slice x.onA x.onN x.onC, .slice x.backA x.backN x.backC, .bool x.noch, .bool x.chalt, .slice x.serversA x.serversN x.serversC, .slice x.deadA x.deadN x.deadC, .slice x.clientsA x.clientsN x.clientsC, .slice x.drawsA x.drawsN x.drawsC, .slice x.lastA x.lastN x.lastC, .slice x.boxesA x.boxesN x.boxesC, .slice x.logA x.logN x.logC, .bool x.halted] 56)) := ((Below.refl _ _).alloc (Nat.le_refl _) _).alloc (by simp) _
  go_wp2_with (first
    | (with_reducible refine wpList_load_blk (by with_unfolding_all rfl) 56 (.tmp 4) (by with_unfolding_all rfl) _ (by with_unfolding_all rfl) gW Try.underlying56 (by with_unfolding_all rfl) size_wd (by with_unfolding_all rfl) ?_)
    | (with_reducible refine wpList_load_blk (by with_unfolding_all rfl) 56 (.tmp 7) (by with_unfolding_all rfl) _ (by with_unfolding_all rfl) gK Try.underlying56 (by with_unfolding_all rfl) size_wd (by with_unfolding_all rfl) ?_)
    | (with_reducible refine wpList_load_blk (by with_unfolding_all rfl) 25 (.tmp 3) (by with_unfolding_all rfl) _ (by with_unfolding_all rfl) gC Try.underlying25 (by with_unfolding_all rfl) size_cfg (by with_unfolding_all rfl) ?_))
  refine (long_at HL1.out _).mono ?_; rintro e w1 ⟨rfl, hb1⟩
  replace gC := gC.below hb1 gC.lt
  replace gW := gW.below hb1 (by simp)
  replace hb := hb.trans (hb1.mono (by simp; omega))
  clear hb1
  go_wp2_with (first
    | (with_reducible refine wpList_load_blk (by with_unfolding_all rfl) 56 (.tmp 4) (by with_unfolding_all rfl) _ (by with_unfolding_all rfl) gW Try.underlying56 (by with_unfolding_all rfl) size_wd (by with_unfolding_all rfl) ?_)
    | (with_reducible refine wpList_load_blk (by with_unfolding_all rfl) 56 (.tmp 7) (by with_unfolding_all rfl) _ (by with_unfolding_all rfl) gK Try.underlying56 (by with_unfolding_all rfl) size_wd (by with_unfolding_all rfl) ?_)
    | (with_reducible refine wpList_load_blk (by with_unfolding_all rfl) 25 (.tmp 3) (by with_unfolding_all rfl) _ (by with_unfolding_all rfl) gC Try.underlying25 (by with_unfolding_all rfl) size_cfg (by with_unfolding_all rfl) ?_))
  refine (long_at HL2.out _).mono ?_; rintro e w2 ⟨rfl, hb1⟩
  replace gC := gC.below hb1 gC.lt
  replace gW := gW.below hb1 gW.lt
  replace hb := hb.trans (hb1.mono hb.size)
  clear hb1 w1
  have y2 := gW.cell 2 (v := .slice x.fatesA x.fatesN x.fatesC) rfl
  go_wp2_with (first
    | (with_reducible refine wpList_load_blk (by with_unfolding_all rfl) 56 (.tmp 4) (by with_unfolding_all rfl) _ (by with_unfolding_all rfl) gW Try.underlying56 (by with_unfolding_all rfl) size_wd (by with_unfolding_all rfl) ?_)
    | (with_reducible refine wpList_load_blk (by with_unfolding_all rfl) 56 (.tmp 7) (by with_unfolding_all rfl) _ (by with_unfolding_all rfl) gK Try.underlying56 (by with_unfolding_all rfl) size_wd (by with_unfolding_all rfl) ?_)
    | (with_reducible refine wpList_load_blk (by with_unfolding_all rfl) 25 (.tmp 3) (by with_unfolding_all rfl) _ (by with_unfolding_all rfl) gC Try.underlying25 (by with_unfolding_all rfl) size_cfg (by with_unfolding_all rfl) ?_))
  refine (fine_at OK.out.fatesN HF1.out _ (OK.out.fates.below hb (Nat.le_refl _)) OK.out.fatesM).mono ?_; rintro e w' ⟨rfl, rfl⟩
  go_upto_region 11 with (first
    | (with_reducible refine wpList_load_blk (by with_unfolding_all rfl) 56 (.tmp 4) (by with_unfolding_all rfl) _ (by with_unfolding_all rfl) gW Try.underlying56 (by with_unfolding_all rfl) size_wd (by with_unfolding_all rfl) ?_)
    | (with_reducible refine wpList_store_new (by with_unfolding_all rfl) (.tmp 7) (.tmp 60) (by with_unfolding_all rfl) (by with_unfolding_all rfl) (by with_unfolding_all rfl) size_wd (by with_unfolding_all rfl) (by with_unfolding_all rfl) (by with_unfolding_all rfl) ?_))
  replace gC := gC.alloc (.cells #[.int .i64 x.now, .slice x.listA x.listN x.listC, .slice none 0 0, .int .i64 x.node, .int .u64 x.epoch, .int .u64 x.round, .slice x.chainA x.chainN x.chainC, .slice x.peersA x.peersN x.peersC, .slice x.standA x.standN x.standC, .int .i64 x.start, .bool x.closed, .slice x.onA x.onN x.onC, .slice x.backA x.backN x.backC, .bool x.noch, .bool x.chalt, .slice x.serversA x.serversN x.serversC, .slice x.deadA x.deadN x.deadC, .slice x.clientsA x.clientsN x.clientsC, .slice x.drawsA x.drawsN x.drawsC, .slice x.lastA x.lastN x.lastC, .slice x.boxesA x.boxesN x.boxesC, .slice x.logA x.logN x.logC, .bool x.halted] 56)
  replace gW := gW.alloc (.cells #[.int .i64 x.now, .slice x.listA x.listN x.listC, .slice none 0 0, .int .i64 x.node, .int .u64 x.epoch, .int .u64 x.round, .slice x.chainA x.chainN x.chainC, .slice x.peersA x.peersN x.peersC, .slice x.standA x.standN x.standC, .int .i64 x.start, .bool x.closed, .slice x.onA x.onN x.onC, .slice x.backA x.backN x.backC, .bool x.noch, .bool x.chalt, .slice x.serversA x.serversN x.serversC, .slice x.deadA x.deadN x.deadC, .slice x.clientsA x.clientsN x.clientsC, .slice x.drawsA x.drawsN x.drawsC, .slice x.lastA x.lastN x.lastC, .slice x.boxesA x.boxesN x.boxesC, .slice x.logA x.logN x.logC, .bool x.halted] 56)
  have gK := Blk.new w2 56 #[.int .i64 x.now, .slice x.listA x.listN x.listC, .slice none 0 0, .int .i64 x.node, .int .u64 x.epoch, .int .u64 x.round, .slice x.chainA x.chainN x.chainC, .slice x.peersA x.peersN x.peersC, .slice x.standA x.standN x.standC, .int .i64 x.start, .bool x.closed, .slice x.onA x.onN x.onC, .slice x.backA x.backN x.backC, .bool x.noch, .bool x.chalt, .slice x.serversA x.serversN x.serversC, .slice x.deadA x.deadN x.deadC, .slice x.clientsA x.clientsN x.clientsC, .slice x.drawsA x.drawsN x.drawsC, .slice x.lastA x.lastN x.lastC, .slice x.boxesA x.boxesN x.boxesC, .slice x.logA x.logN x.logC, .bool x.halted] rfl
  replace hb := hb.alloc hb.size (.cells #[.int .i64 x.now, .slice x.listA x.listN x.listC, .slice none 0 0, .int .i64 x.node, .int .u64 x.epoch, .int .u64 x.round, .slice x.chainA x.chainN x.chainC, .slice x.peersA x.peersN x.peersC, .slice x.standA x.standN x.standC, .int .i64 x.start, .bool x.closed, .slice x.onA x.onN x.onC, .slice x.backA x.backN x.backC, .bool x.noch, .bool x.chalt, .slice x.serversA x.serversN x.serversC, .slice x.deadA x.deadN x.deadC, .slice x.clientsA x.clientsN x.clientsC, .slice x.drawsA x.drawsN x.drawsC, .slice x.lastA x.lastN x.lastC, .slice x.boxesA x.boxesN x.boxesC, .slice x.logA x.logN x.logC, .bool x.halted] 56)
  clear y2
  go_wp2_with (first
    | (with_reducible refine wpList_load_blk (by with_unfolding_all rfl) 56 (.tmp 4) (by with_unfolding_all rfl) _ (by with_unfolding_all rfl) gW Try.underlying56 (by with_unfolding_all rfl) size_wd (by with_unfolding_all rfl) ?_)
    | (with_reducible refine wpList_load_blk (by with_unfolding_all rfl) 56 (.tmp 7) (by with_unfolding_all rfl) _ (by with_unfolding_all rfl) gK Try.underlying56 (by with_unfolding_all rfl) size_wd (by with_unfolding_all rfl) ?_)
    | (with_reducible refine wpList_load_blk (by with_unfolding_all rfl) 25 (.tmp 3) (by with_unfolding_all rfl) _ (by with_unfolding_all rfl) gC Try.underlying25 (by with_unfolding_all rfl) size_cfg (by with_unfolding_all rfl) ?_))
  refine (sure_at (OK.out.below hb hb.size) HS1.out).mono ?_; rintro e w3 ⟨rfl, hb1⟩
  replace gC := gC.below hb1 gC.lt
  replace gW := gW.below hb1 gW.lt
  replace gK := gK.below hb1 gK.lt
  replace hb := hb.trans (hb1.mono hb.size)
  clear hb1
  go_wp2_with (first
    | (with_reducible refine wpList_load_blk (by with_unfolding_all rfl) 56 (.tmp 4) (by with_unfolding_all rfl) _ (by with_unfolding_all rfl) gW Try.underlying56 (by with_unfolding_all rfl) size_wd (by with_unfolding_all rfl) ?_)
    | (with_reducible refine wpList_load_blk (by with_unfolding_all rfl) 56 (.tmp 7) (by with_unfolding_all rfl) _ (by with_unfolding_all rfl) gK Try.underlying56 (by with_unfolding_all rfl) size_wd (by with_unfolding_all rfl) ?_)
    | (with_reducible refine wpList_load_blk (by with_unfolding_all rfl) 25 (.tmp 3) (by with_unfolding_all rfl) _ (by with_unfolding_all rfl) gC Try.underlying25 (by with_unfolding_all rfl) size_cfg (by with_unfolding_all rfl) ?_))
  go_ret
  exact ⟨rfl, hb⟩

set_option maxHeartbeats 1000000 in
set_option maxRecDepth 100000 in
theorem more_tft {c : Cf} {x : Wd} {ch st : List Int} {dl : List Bool} {ft : List Int} {d : Int} {w : World} (OK : Hid (WdOk w w.heap.size x ch st dl ft)) (e1 : decide (500 < (x.fatesN : Int)) = false) (e2 : decide (60 < (x.deadN : Int)) = false) (e3 : decide (60 < (x.standN : Int)) = false)
    (e4 : decide (d < 2) = false) (e5 : decide (100 < d) = false) (g1 : 2 ≤ d) (g2 : d ≤ 100) (HL1 : Hid (longB c d = true)) (HL2 : Hid (longB c (d - 1) = true)) (HF1 : Hid (fineB ft (d - 1) = false)) (HS1 : Hid (sureB c x ch st dl ft d = true)) (HS2 : Hid (sureB c (calmOf x) ch st dl [] d = true)) (HS3 : Hid (sureB c (calmOf x) ch st dl [] (d - 1) = true)) :
    Calls Try.prog 5 #[.agg #[.slice c.A c.n c.cap, .int .i64 c.ch, .int .i64 c.sb, .int .i64 c.cl, .int .i64 c.qu, .int .i64 c.close, .int .i64 c.long, .int .i64 c.ag, .int .i64 c.wi, .int .u64 c.r, .int .u64 c.sq], .agg #[.int .i64 x.now, .slice x.listA x.listN x.listC, .slice x.fatesA x.fatesN x.fatesC, .int .i64 x.node, .int .u64 x.epoch, .int .u64 x.round, .slice x.chainA x.chainN x.chainC, .slice x.peersA x.peersN x.peersC, .slice x.standA x.standN x.standC, .int .i64 x.start, .bool x.closed, .slice x.onA x.onN x.onC, .slice x.backA x.backN x.backC, .bool x.noch, .bool x.chalt, .slice x.serversA x.serversN x.serversC, .slice x.deadA x.deadN x.deadC, .slice x.clientsA x.clientsN x.clientsC, .slice x.drawsA x.drawsN x.drawsC, .slice x.lastA x.lastN x.lastC, .slice x.boxesA x.boxesN x.boxesC, .slice x.logA x.logN x.logC, .bool x.halted], .int .i64 d] w fun e w' => e = .returned (.bool true) ∧ Below w.heap.size w w' := by
  go_enter Try.func5, Try.ntmps5
  go_wp2_with fail
  refine (live22 _).mono ?_; rintro e w' ⟨rfl, rfl⟩
  have gC := (Blk.new w 25 #[.slice c.A c.n c.cap, .int .i64 c.ch, .int .i64 c.sb, .int .i64 c.cl, .int .i64 c.qu, .int .i64 c.close, .int .i64 c.long, .int .i64 c.ag, .int .i64 c.wi, .int .u64 c.r, .int .u64 c.sq] rfl).alloc (.cells #[.int .i64 x.now, .slice x.listA x.listN x.listC, .slice x.fatesA x.fatesN x.fatesC, .int .i64 x.node, .int .u64 x.epoch, .int .u64 x.round, .slice x.chainA x.chainN x.chainC, .slice x.peersA x.peersN x.peersC, .slice x.standA x.standN x.standC, .int .i64 x.start, .bool x.closed, .slice x.onA x.onN x.onC, .slice x.backA x.backN x.backC, .bool x.noch, .bool x.chalt, .slice x.serversA x.serversN x.serversC, .slice x.deadA x.deadN x.deadC, .slice x.clientsA x.clientsN x.clientsC, .slice x.drawsA x.drawsN x.drawsC, .slice x.lastA x.lastN x.lastC, .slice x.boxesA x.boxesN x.boxesC, .slice x.logA x.logN x.logC, .bool x.halted] 56)
  have gW := Blk.new (w.alloc (.cells #[.slice c.A c.n c.cap, .int .i64 c.ch, .int .i64 c.sb, .int .i64 c.cl, .int .i64 c.qu, .int .i64 c.close, .int .i64 c.long, .int .i64 c.ag, .int .i64 c.wi, .int .u64 c.r, .int .u64 c.sq] 25)) 56 #[.int .i64 x.now, .slice x.listA x.listN x.listC, .slice x.fatesA x.fatesN x.fatesC, .int .i64 x.node, .int .u64 x.epoch, .int .u64 x.round, .slice x.chainA x.chainN x.chainC, .slice x.peersA x.peersN x.peersC, .slice x.standA x.standN x.standC, .int .i64 x.start, .bool x.closed, .slice x.onA x.onN x.onC, .slice x.backA x.backN x.backC, .bool x.noch, .bool x.chalt, .slice x.serversA x.serversN x.serversC, .slice x.deadA x.deadN x.deadC, .slice x.clientsA x.clientsN x.clientsC, .slice x.drawsA x.drawsN x.drawsC, .slice x.lastA x.lastN x.lastC, .slice x.boxesA x.boxesN x.boxesC, .slice x.logA x.logN x.logC, .bool x.halted] rfl
  simp only [World.size_alloc] at gW
  have hb : Below w.heap.size w ((w.alloc (.cells #[.slice c.A c.n c.cap, .int .i64 c.ch, .int .i64 c.sb, .int .i64 c.cl, .int .i64 c.qu, .int .i64 c.close, .int .i64 c.long, .int .i64 c.ag, .int .i64 c.wi, .int .u64 c.r, .int .u64 c.sq] 25)).alloc (.cells #[.int .i64 x.now, .slice x.listA x.listN x.listC, .slice x.fatesA x.fatesN x.fatesC, .int .i64 x.node, .int .u64 x.epoch, .int .u64 x.round, .slice x.chainA x.chainN x.chainC, .slice x.peersA x.peersN x.peersC, .slice x.standA x.standN x.standC, .int .i64 x.start, .bool x.closed, .slice x.onA x.onN x.onC, .slice x.backA x.backN x.backC, .bool x.noch, .bool x.chalt, .slice x.serversA x.serversN x.serversC, .slice x.deadA x.deadN x.deadC, .slice x.clientsA x.clientsN x.clientsC, .slice x.drawsA x.drawsN x.drawsC, .slice x.lastA x.lastN x.lastC, .slice x.boxesA x.boxesN x.boxesC, .slice x.logA x.logN x.logC, .bool x.halted] 56)) := ((Below.refl _ _).alloc (Nat.le_refl _) _).alloc (by simp) _
  go_wp2_with (first
    | (with_reducible refine wpList_load_blk (by with_unfolding_all rfl) 56 (.tmp 4) (by with_unfolding_all rfl) _ (by with_unfolding_all rfl) gW Try.underlying56 (by with_unfolding_all rfl) size_wd (by with_unfolding_all rfl) ?_)
    | (with_reducible refine wpList_load_blk (by with_unfolding_all rfl) 56 (.tmp 7) (by with_unfolding_all rfl) _ (by with_unfolding_all rfl) gK Try.underlying56 (by with_unfolding_all rfl) size_wd (by with_unfolding_all rfl) ?_)
    | (with_reducible refine wpList_load_blk (by with_unfolding_all rfl) 25 (.tmp 3) (by with_unfolding_all rfl) _ (by with_unfolding_all rfl) gC Try.underlying25 (by with_unfolding_all rfl) size_cfg (by with_unfolding_all rfl) ?_))
  refine (long_at HL1.out _).mono ?_; rintro e w1 ⟨rfl, hb1⟩
  replace gC := gC.below hb1 gC.lt
  replace gW := gW.below hb1 (by simp)
  replace hb := hb.trans (hb1.mono (by simp; omega))
  clear hb1
  go_wp2_with (first
    | (with_reducible refine wpList_load_blk (by with_unfolding_all rfl) 56 (.tmp 4) (by with_unfolding_all rfl) _ (by with_unfolding_all rfl) gW Try.underlying56 (by with_unfolding_all rfl) size_wd (by with_unfolding_all rfl) ?_)
    | (with_reducible refine wpList_load_blk (by with_unfolding_all rfl) 56 (.tmp 7) (by with_unfolding_all rfl) _ (by with_unfolding_all rfl) gK Try.underlying56 (by with_unfolding_all rfl) size_wd (by with_unfolding_all rfl) ?_)
    | (with_reducible refine wpList_load_blk (by with_unfolding_all rfl) 25 (.tmp 3) (by with_unfolding_all rfl) _ (by with_unfolding_all rfl) gC Try.underlying25 (by with_unfolding_all rfl) size_cfg (by with_unfolding_all rfl) ?_))
  refine (long_at HL2.out _).mono ?_; rintro e w2 ⟨rfl, hb1⟩
  replace gC := gC.below hb1 gC.lt
  replace gW := gW.below hb1 gW.lt
  replace hb := hb.trans (hb1.mono hb.size)
  clear hb1 w1
  have y2 := gW.cell 2 (v := .slice x.fatesA x.fatesN x.fatesC) rfl
  go_wp2_with (first
    | (with_reducible refine wpList_load_blk (by with_unfolding_all rfl) 56 (.tmp 4) (by with_unfolding_all rfl) _ (by with_unfolding_all rfl) gW Try.underlying56 (by with_unfolding_all rfl) size_wd (by with_unfolding_all rfl) ?_)
    | (with_reducible refine wpList_load_blk (by with_unfolding_all rfl) 56 (.tmp 7) (by with_unfolding_all rfl) _ (by with_unfolding_all rfl) gK Try.underlying56 (by with_unfolding_all rfl) size_wd (by with_unfolding_all rfl) ?_)
    | (with_reducible refine wpList_load_blk (by with_unfolding_all rfl) 25 (.tmp 3) (by with_unfolding_all rfl) _ (by with_unfolding_all rfl) gC Try.underlying25 (by with_unfolding_all rfl) size_cfg (by with_unfolding_all rfl) ?_))
  refine (fine_at OK.out.fatesN HF1.out _ (OK.out.fates.below hb (Nat.le_refl _)) OK.out.fatesM).mono ?_; rintro e w' ⟨rfl, rfl⟩
  go_upto_region 11 with (first
    | (with_reducible refine wpList_load_blk (by with_unfolding_all rfl) 56 (.tmp 4) (by with_unfolding_all rfl) _ (by with_unfolding_all rfl) gW Try.underlying56 (by with_unfolding_all rfl) size_wd (by with_unfolding_all rfl) ?_)
    | (with_reducible refine wpList_store_new (by with_unfolding_all rfl) (.tmp 7) (.tmp 60) (by with_unfolding_all rfl) (by with_unfolding_all rfl) (by with_unfolding_all rfl) size_wd (by with_unfolding_all rfl) (by with_unfolding_all rfl) (by with_unfolding_all rfl) ?_))
  replace gC := gC.alloc (.cells #[.int .i64 x.now, .slice x.listA x.listN x.listC, .slice none 0 0, .int .i64 x.node, .int .u64 x.epoch, .int .u64 x.round, .slice x.chainA x.chainN x.chainC, .slice x.peersA x.peersN x.peersC, .slice x.standA x.standN x.standC, .int .i64 x.start, .bool x.closed, .slice x.onA x.onN x.onC, .slice x.backA x.backN x.backC, .bool x.noch, .bool x.chalt, .slice x.serversA x.serversN x.serversC, .slice x.deadA x.deadN x.deadC, .slice x.clientsA x.clientsN x.clientsC, .slice x.drawsA x.drawsN x.drawsC, .slice x.lastA x.lastN x.lastC, .slice x.boxesA x.boxesN x.boxesC, .slice x.logA x.logN x.logC, .bool x.halted] 56)
  replace gW := gW.alloc (.cells #[.int .i64 x.now, .slice x.listA x.listN x.listC, .slice none 0 0, .int .i64 x.node, .int .u64 x.epoch, .int .u64 x.round, .slice x.chainA x.chainN x.chainC, .slice x.peersA x.peersN x.peersC, .slice x.standA x.standN x.standC, .int .i64 x.start, .bool x.closed, .slice x.onA x.onN x.onC, .slice x.backA x.backN x.backC, .bool x.noch, .bool x.chalt, .slice x.serversA x.serversN x.serversC, .slice x.deadA x.deadN x.deadC, .slice x.clientsA x.clientsN x.clientsC, .slice x.drawsA x.drawsN x.drawsC, .slice x.lastA x.lastN x.lastC, .slice x.boxesA x.boxesN x.boxesC, .slice x.logA x.logN x.logC, .bool x.halted] 56)
  have gK := Blk.new w2 56 #[.int .i64 x.now, .slice x.listA x.listN x.listC, .slice none 0 0, .int .i64 x.node, .int .u64 x.epoch, .int .u64 x.round, .slice x.chainA x.chainN x.chainC, .slice x.peersA x.peersN x.peersC, .slice x.standA x.standN x.standC, .int .i64 x.start, .bool x.closed, .slice x.onA x.onN x.onC, .slice x.backA x.backN x.backC, .bool x.noch, .bool x.chalt, .slice x.serversA x.serversN x.serversC, .slice x.deadA x.deadN x.deadC, .slice x.clientsA x.clientsN x.clientsC, .slice x.drawsA x.drawsN x.drawsC, .slice x.lastA x.lastN x.lastC, .slice x.boxesA x.boxesN x.boxesC, .slice x.logA x.logN x.logC, .bool x.halted] rfl
  replace hb := hb.alloc hb.size (.cells #[.int .i64 x.now, .slice x.listA x.listN x.listC, .slice none 0 0, .int .i64 x.node, .int .u64 x.epoch, .int .u64 x.round, .slice x.chainA x.chainN x.chainC, .slice x.peersA x.peersN x.peersC, .slice x.standA x.standN x.standC, .int .i64 x.start, .bool x.closed, .slice x.onA x.onN x.onC, .slice x.backA x.backN x.backC, .bool x.noch, .bool x.chalt, .slice x.serversA x.serversN x.serversC, .slice x.deadA x.deadN x.deadC, .slice x.clientsA x.clientsN x.clientsC, .slice x.drawsA x.drawsN x.drawsC, .slice x.lastA x.lastN x.lastC, .slice x.boxesA x.boxesN x.boxesC, .slice x.logA x.logN x.logC, .bool x.halted] 56)
  clear y2
  go_wp2_with (first
    | (with_reducible refine wpList_load_blk (by with_unfolding_all rfl) 56 (.tmp 4) (by with_unfolding_all rfl) _ (by with_unfolding_all rfl) gW Try.underlying56 (by with_unfolding_all rfl) size_wd (by with_unfolding_all rfl) ?_)
    | (with_reducible refine wpList_load_blk (by with_unfolding_all rfl) 56 (.tmp 7) (by with_unfolding_all rfl) _ (by with_unfolding_all rfl) gK Try.underlying56 (by with_unfolding_all rfl) size_wd (by with_unfolding_all rfl) ?_)
    | (with_reducible refine wpList_load_blk (by with_unfolding_all rfl) 25 (.tmp 3) (by with_unfolding_all rfl) _ (by with_unfolding_all rfl) gC Try.underlying25 (by with_unfolding_all rfl) size_cfg (by with_unfolding_all rfl) ?_))
  refine (sure_at (OK.out.below hb hb.size) HS1.out).mono ?_; rintro e w3 ⟨rfl, hb1⟩
  replace gC := gC.below hb1 gC.lt
  replace gW := gW.below hb1 gW.lt
  replace gK := gK.below hb1 gK.lt
  replace hb := hb.trans (hb1.mono hb.size)
  clear hb1
  go_wp2_with (first
    | (with_reducible refine wpList_load_blk (by with_unfolding_all rfl) 56 (.tmp 4) (by with_unfolding_all rfl) _ (by with_unfolding_all rfl) gW Try.underlying56 (by with_unfolding_all rfl) size_wd (by with_unfolding_all rfl) ?_)
    | (with_reducible refine wpList_load_blk (by with_unfolding_all rfl) 56 (.tmp 7) (by with_unfolding_all rfl) _ (by with_unfolding_all rfl) gK Try.underlying56 (by with_unfolding_all rfl) size_wd (by with_unfolding_all rfl) ?_)
    | (with_reducible refine wpList_load_blk (by with_unfolding_all rfl) 25 (.tmp 3) (by with_unfolding_all rfl) _ (by with_unfolding_all rfl) gC Try.underlying25 (by with_unfolding_all rfl) size_cfg (by with_unfolding_all rfl) ?_))
  refine (calm_at (OK.out.below hb hb.size) HS2.out).mono ?_; rintro e w4 ⟨rfl, hb1⟩
  replace gC := gC.below hb1 gC.lt
  replace gW := gW.below hb1 gW.lt
  replace gK := gK.below hb1 gK.lt
  replace hb := hb.trans (hb1.mono hb.size)
  clear hb1
  go_wp2_with (first
    | (with_reducible refine wpList_load_blk (by with_unfolding_all rfl) 56 (.tmp 4) (by with_unfolding_all rfl) _ (by with_unfolding_all rfl) gW Try.underlying56 (by with_unfolding_all rfl) size_wd (by with_unfolding_all rfl) ?_)
    | (with_reducible refine wpList_load_blk (by with_unfolding_all rfl) 56 (.tmp 7) (by with_unfolding_all rfl) _ (by with_unfolding_all rfl) gK Try.underlying56 (by with_unfolding_all rfl) size_wd (by with_unfolding_all rfl) ?_)
    | (with_reducible refine wpList_load_blk (by with_unfolding_all rfl) 25 (.tmp 3) (by with_unfolding_all rfl) _ (by with_unfolding_all rfl) gC Try.underlying25 (by with_unfolding_all rfl) size_cfg (by with_unfolding_all rfl) ?_))
  refine (calm_at (OK.out.below hb hb.size) HS3.out).mono ?_; rintro e w5 ⟨rfl, hb1⟩
  replace gC := gC.below hb1 gC.lt
  replace gW := gW.below hb1 gW.lt
  replace gK := gK.below hb1 gK.lt
  replace hb := hb.trans (hb1.mono hb.size)
  clear hb1
  go_wp2_with (first
    | (with_reducible refine wpList_load_blk (by with_unfolding_all rfl) 56 (.tmp 4) (by with_unfolding_all rfl) _ (by with_unfolding_all rfl) gW Try.underlying56 (by with_unfolding_all rfl) size_wd (by with_unfolding_all rfl) ?_)
    | (with_reducible refine wpList_load_blk (by with_unfolding_all rfl) 56 (.tmp 7) (by with_unfolding_all rfl) _ (by with_unfolding_all rfl) gK Try.underlying56 (by with_unfolding_all rfl) size_wd (by with_unfolding_all rfl) ?_)
    | (with_reducible refine wpList_load_blk (by with_unfolding_all rfl) 25 (.tmp 3) (by with_unfolding_all rfl) _ (by with_unfolding_all rfl) gC Try.underlying25 (by with_unfolding_all rfl) size_cfg (by with_unfolding_all rfl) ?_))
  go_ret
  exact ⟨rfl, hb⟩

set_option maxHeartbeats 1000000 in
set_option maxRecDepth 100000 in
theorem more_ttf {c : Cf} {x : Wd} {ch st : List Int} {dl : List Bool} {ft : List Int} {d : Int} {w : World} (OK : Hid (WdOk w w.heap.size x ch st dl ft)) (e1 : decide (500 < (x.fatesN : Int)) = false) (e2 : decide (60 < (x.deadN : Int)) = false) (e3 : decide (60 < (x.standN : Int)) = false)
    (e4 : decide (d < 2) = false) (e5 : decide (100 < d) = false) (g1 : 2 ≤ d) (g2 : d ≤ 100) (HL1 : Hid (longB c d = true)) (HL2 : Hid (longB c (d - 1) = true)) (HF1 : Hid (fineB ft (d - 1) = true)) (HF2 : Hid (fineB ft d = true)) (HS1 : Hid (sureB c x ch st dl ft d = false)) :
    Calls Try.prog 5 #[.agg #[.slice c.A c.n c.cap, .int .i64 c.ch, .int .i64 c.sb, .int .i64 c.cl, .int .i64 c.qu, .int .i64 c.close, .int .i64 c.long, .int .i64 c.ag, .int .i64 c.wi, .int .u64 c.r, .int .u64 c.sq], .agg #[.int .i64 x.now, .slice x.listA x.listN x.listC, .slice x.fatesA x.fatesN x.fatesC, .int .i64 x.node, .int .u64 x.epoch, .int .u64 x.round, .slice x.chainA x.chainN x.chainC, .slice x.peersA x.peersN x.peersC, .slice x.standA x.standN x.standC, .int .i64 x.start, .bool x.closed, .slice x.onA x.onN x.onC, .slice x.backA x.backN x.backC, .bool x.noch, .bool x.chalt, .slice x.serversA x.serversN x.serversC, .slice x.deadA x.deadN x.deadC, .slice x.clientsA x.clientsN x.clientsC, .slice x.drawsA x.drawsN x.drawsC, .slice x.lastA x.lastN x.lastC, .slice x.boxesA x.boxesN x.boxesC, .slice x.logA x.logN x.logC, .bool x.halted], .int .i64 d] w fun e w' => e = .returned (.bool true) ∧ Below w.heap.size w w' := by
  go_enter Try.func5, Try.ntmps5
  go_wp2_with fail
  refine (live22 _).mono ?_; rintro e w' ⟨rfl, rfl⟩
  have gC := (Blk.new w 25 #[.slice c.A c.n c.cap, .int .i64 c.ch, .int .i64 c.sb, .int .i64 c.cl, .int .i64 c.qu, .int .i64 c.close, .int .i64 c.long, .int .i64 c.ag, .int .i64 c.wi, .int .u64 c.r, .int .u64 c.sq] rfl).alloc (.cells #[.int .i64 x.now, .slice x.listA x.listN x.listC, .slice x.fatesA x.fatesN x.fatesC, .int .i64 x.node, .int .u64 x.epoch, .int .u64 x.round, .slice x.chainA x.chainN x.chainC, .slice x.peersA x.peersN x.peersC, .slice x.standA x.standN x.standC, .int .i64 x.start, .bool x.closed, .slice x.onA x.onN x.onC, .slice x.backA x.backN x.backC, .bool x.noch, .bool x.chalt, .slice x.serversA x.serversN x.serversC, .slice x.deadA x.deadN x.deadC, .slice x.clientsA x.clientsN x.clientsC, .slice x.drawsA x.drawsN x.drawsC, .slice x.lastA x.lastN x.lastC, .slice x.boxesA x.boxesN x.boxesC, .slice x.logA x.logN x.logC, .bool x.halted] 56)
  have gW := Blk.new (w.alloc (.cells #[.slice c.A c.n c.cap, .int .i64 c.ch, .int .i64 c.sb, .int .i64 c.cl, .int .i64 c.qu, .int .i64 c.close, .int .i64 c.long, .int .i64 c.ag, .int .i64 c.wi, .int .u64 c.r, .int .u64 c.sq] 25)) 56 #[.int .i64 x.now, .slice x.listA x.listN x.listC, .slice x.fatesA x.fatesN x.fatesC, .int .i64 x.node, .int .u64 x.epoch, .int .u64 x.round, .slice x.chainA x.chainN x.chainC, .slice x.peersA x.peersN x.peersC, .slice x.standA x.standN x.standC, .int .i64 x.start, .bool x.closed, .slice x.onA x.onN x.onC, .slice x.backA x.backN x.backC, .bool x.noch, .bool x.chalt, .slice x.serversA x.serversN x.serversC, .slice x.deadA x.deadN x.deadC, .slice x.clientsA x.clientsN x.clientsC, .slice x.drawsA x.drawsN x.drawsC, .slice x.lastA x.lastN x.lastC, .slice x.boxesA x.boxesN x.boxesC, .slice x.logA x.logN x.logC, .bool x.halted] rfl
  simp only [World.size_alloc] at gW
  have hb : Below w.heap.size w ((w.alloc (.cells #[.slice c.A c.n c.cap, .int .i64 c.ch, .int .i64 c.sb, .int .i64 c.cl, .int .i64 c.qu, .int .i64 c.close, .int .i64 c.long, .int .i64 c.ag, .int .i64 c.wi, .int .u64 c.r, .int .u64 c.sq] 25)).alloc (.cells #[.int .i64 x.now, .slice x.listA x.listN x.listC, .slice x.fatesA x.fatesN x.fatesC, .int .i64 x.node, .int .u64 x.epoch, .int .u64 x.round, .slice x.chainA x.chainN x.chainC, .slice x.peersA x.peersN x.peersC, .slice x.standA x.standN x.standC, .int .i64 x.start, .bool x.closed, .slice x.onA x.onN x.onC, .slice x.backA x.backN x.backC, .bool x.noch, .bool x.chalt, .slice x.serversA x.serversN x.serversC, .slice x.deadA x.deadN x.deadC, .slice x.clientsA x.clientsN x.clientsC, .slice x.drawsA x.drawsN x.drawsC, .slice x.lastA x.lastN x.lastC, .slice x.boxesA x.boxesN x.boxesC, .slice x.logA x.logN x.logC, .bool x.halted] 56)) := ((Below.refl _ _).alloc (Nat.le_refl _) _).alloc (by simp) _
  go_wp2_with (first
    | (with_reducible refine wpList_load_blk (by with_unfolding_all rfl) 56 (.tmp 4) (by with_unfolding_all rfl) _ (by with_unfolding_all rfl) gW Try.underlying56 (by with_unfolding_all rfl) size_wd (by with_unfolding_all rfl) ?_)
    | (with_reducible refine wpList_load_blk (by with_unfolding_all rfl) 56 (.tmp 7) (by with_unfolding_all rfl) _ (by with_unfolding_all rfl) gK Try.underlying56 (by with_unfolding_all rfl) size_wd (by with_unfolding_all rfl) ?_)
    | (with_reducible refine wpList_load_blk (by with_unfolding_all rfl) 25 (.tmp 3) (by with_unfolding_all rfl) _ (by with_unfolding_all rfl) gC Try.underlying25 (by with_unfolding_all rfl) size_cfg (by with_unfolding_all rfl) ?_))
  refine (long_at HL1.out _).mono ?_; rintro e w1 ⟨rfl, hb1⟩
  replace gC := gC.below hb1 gC.lt
  replace gW := gW.below hb1 (by simp)
  replace hb := hb.trans (hb1.mono (by simp; omega))
  clear hb1
  go_wp2_with (first
    | (with_reducible refine wpList_load_blk (by with_unfolding_all rfl) 56 (.tmp 4) (by with_unfolding_all rfl) _ (by with_unfolding_all rfl) gW Try.underlying56 (by with_unfolding_all rfl) size_wd (by with_unfolding_all rfl) ?_)
    | (with_reducible refine wpList_load_blk (by with_unfolding_all rfl) 56 (.tmp 7) (by with_unfolding_all rfl) _ (by with_unfolding_all rfl) gK Try.underlying56 (by with_unfolding_all rfl) size_wd (by with_unfolding_all rfl) ?_)
    | (with_reducible refine wpList_load_blk (by with_unfolding_all rfl) 25 (.tmp 3) (by with_unfolding_all rfl) _ (by with_unfolding_all rfl) gC Try.underlying25 (by with_unfolding_all rfl) size_cfg (by with_unfolding_all rfl) ?_))
  refine (long_at HL2.out _).mono ?_; rintro e w2 ⟨rfl, hb1⟩
  replace gC := gC.below hb1 gC.lt
  replace gW := gW.below hb1 gW.lt
  replace hb := hb.trans (hb1.mono hb.size)
  clear hb1 w1
  have y2 := gW.cell 2 (v := .slice x.fatesA x.fatesN x.fatesC) rfl
  go_wp2_with (first
    | (with_reducible refine wpList_load_blk (by with_unfolding_all rfl) 56 (.tmp 4) (by with_unfolding_all rfl) _ (by with_unfolding_all rfl) gW Try.underlying56 (by with_unfolding_all rfl) size_wd (by with_unfolding_all rfl) ?_)
    | (with_reducible refine wpList_load_blk (by with_unfolding_all rfl) 56 (.tmp 7) (by with_unfolding_all rfl) _ (by with_unfolding_all rfl) gK Try.underlying56 (by with_unfolding_all rfl) size_wd (by with_unfolding_all rfl) ?_)
    | (with_reducible refine wpList_load_blk (by with_unfolding_all rfl) 25 (.tmp 3) (by with_unfolding_all rfl) _ (by with_unfolding_all rfl) gC Try.underlying25 (by with_unfolding_all rfl) size_cfg (by with_unfolding_all rfl) ?_))
  refine (fine_at OK.out.fatesN HF1.out _ (OK.out.fates.below hb (Nat.le_refl _)) OK.out.fatesM).mono ?_; rintro e w' ⟨rfl, rfl⟩
  go_wp2_with (first
    | (with_reducible refine wpList_load_blk (by with_unfolding_all rfl) 56 (.tmp 4) (by with_unfolding_all rfl) _ (by with_unfolding_all rfl) gW Try.underlying56 (by with_unfolding_all rfl) size_wd (by with_unfolding_all rfl) ?_)
    | (with_reducible refine wpList_load_blk (by with_unfolding_all rfl) 56 (.tmp 7) (by with_unfolding_all rfl) _ (by with_unfolding_all rfl) gK Try.underlying56 (by with_unfolding_all rfl) size_wd (by with_unfolding_all rfl) ?_)
    | (with_reducible refine wpList_load_blk (by with_unfolding_all rfl) 25 (.tmp 3) (by with_unfolding_all rfl) _ (by with_unfolding_all rfl) gC Try.underlying25 (by with_unfolding_all rfl) size_cfg (by with_unfolding_all rfl) ?_))
  refine (fine_at OK.out.fatesN HF2.out _ (OK.out.fates.below hb (Nat.le_refl _)) OK.out.fatesM).mono ?_; rintro e w' ⟨rfl, rfl⟩
  go_upto_region 11 with (first
    | (with_reducible refine wpList_load_blk (by with_unfolding_all rfl) 56 (.tmp 4) (by with_unfolding_all rfl) _ (by with_unfolding_all rfl) gW Try.underlying56 (by with_unfolding_all rfl) size_wd (by with_unfolding_all rfl) ?_)
    | (with_reducible refine wpList_store_new (by with_unfolding_all rfl) (.tmp 7) (.tmp 60) (by with_unfolding_all rfl) (by with_unfolding_all rfl) (by with_unfolding_all rfl) size_wd (by with_unfolding_all rfl) (by with_unfolding_all rfl) (by with_unfolding_all rfl) ?_))
  replace gC := gC.alloc (.cells #[.int .i64 x.now, .slice x.listA x.listN x.listC, .slice none 0 0, .int .i64 x.node, .int .u64 x.epoch, .int .u64 x.round, .slice x.chainA x.chainN x.chainC, .slice x.peersA x.peersN x.peersC, .slice x.standA x.standN x.standC, .int .i64 x.start, .bool x.closed, .slice x.onA x.onN x.onC, .slice x.backA x.backN x.backC, .bool x.noch, .bool x.chalt, .slice x.serversA x.serversN x.serversC, .slice x.deadA x.deadN x.deadC, .slice x.clientsA x.clientsN x.clientsC, .slice x.drawsA x.drawsN x.drawsC, .slice x.lastA x.lastN x.lastC, .slice x.boxesA x.boxesN x.boxesC, .slice x.logA x.logN x.logC, .bool x.halted] 56)
  replace gW := gW.alloc (.cells #[.int .i64 x.now, .slice x.listA x.listN x.listC, .slice none 0 0, .int .i64 x.node, .int .u64 x.epoch, .int .u64 x.round, .slice x.chainA x.chainN x.chainC, .slice x.peersA x.peersN x.peersC, .slice x.standA x.standN x.standC, .int .i64 x.start, .bool x.closed, .slice x.onA x.onN x.onC, .slice x.backA x.backN x.backC, .bool x.noch, .bool x.chalt, .slice x.serversA x.serversN x.serversC, .slice x.deadA x.deadN x.deadC, .slice x.clientsA x.clientsN x.clientsC, .slice x.drawsA x.drawsN x.drawsC, .slice x.lastA x.lastN x.lastC, .slice x.boxesA x.boxesN x.boxesC, .slice x.logA x.logN x.logC, .bool x.halted] 56)
  have gK := Blk.new w2 56 #[.int .i64 x.now, .slice x.listA x.listN x.listC, .slice none 0 0, .int .i64 x.node, .int .u64 x.epoch, .int .u64 x.round, .slice x.chainA x.chainN x.chainC, .slice x.peersA x.peersN x.peersC, .slice x.standA x.standN x.standC, .int .i64 x.start, .bool x.closed, .slice x.onA x.onN x.onC, .slice x.backA x.backN x.backC, .bool x.noch, .bool x.chalt, .slice x.serversA x.serversN x.serversC, .slice x.deadA x.deadN x.deadC, .slice x.clientsA x.clientsN x.clientsC, .slice x.drawsA x.drawsN x.drawsC, .slice x.lastA x.lastN x.lastC, .slice x.boxesA x.boxesN x.boxesC, .slice x.logA x.logN x.logC, .bool x.halted] rfl
  replace hb := hb.alloc hb.size (.cells #[.int .i64 x.now, .slice x.listA x.listN x.listC, .slice none 0 0, .int .i64 x.node, .int .u64 x.epoch, .int .u64 x.round, .slice x.chainA x.chainN x.chainC, .slice x.peersA x.peersN x.peersC, .slice x.standA x.standN x.standC, .int .i64 x.start, .bool x.closed, .slice x.onA x.onN x.onC, .slice x.backA x.backN x.backC, .bool x.noch, .bool x.chalt, .slice x.serversA x.serversN x.serversC, .slice x.deadA x.deadN x.deadC, .slice x.clientsA x.clientsN x.clientsC, .slice x.drawsA x.drawsN x.drawsC, .slice x.lastA x.lastN x.lastC, .slice x.boxesA x.boxesN x.boxesC, .slice x.logA x.logN x.logC, .bool x.halted] 56)
  clear y2
  go_wp2_with (first
    | (with_reducible refine wpList_load_blk (by with_unfolding_all rfl) 56 (.tmp 4) (by with_unfolding_all rfl) _ (by with_unfolding_all rfl) gW Try.underlying56 (by with_unfolding_all rfl) size_wd (by with_unfolding_all rfl) ?_)
    | (with_reducible refine wpList_load_blk (by with_unfolding_all rfl) 56 (.tmp 7) (by with_unfolding_all rfl) _ (by with_unfolding_all rfl) gK Try.underlying56 (by with_unfolding_all rfl) size_wd (by with_unfolding_all rfl) ?_)
    | (with_reducible refine wpList_load_blk (by with_unfolding_all rfl) 25 (.tmp 3) (by with_unfolding_all rfl) _ (by with_unfolding_all rfl) gC Try.underlying25 (by with_unfolding_all rfl) size_cfg (by with_unfolding_all rfl) ?_))
  refine (sure_at (OK.out.below hb hb.size) HS1.out).mono ?_; rintro e w3 ⟨rfl, hb1⟩
  replace gC := gC.below hb1 gC.lt
  replace gW := gW.below hb1 gW.lt
  replace gK := gK.below hb1 gK.lt
  replace hb := hb.trans (hb1.mono hb.size)
  clear hb1
  go_wp2_with (first
    | (with_reducible refine wpList_load_blk (by with_unfolding_all rfl) 56 (.tmp 4) (by with_unfolding_all rfl) _ (by with_unfolding_all rfl) gW Try.underlying56 (by with_unfolding_all rfl) size_wd (by with_unfolding_all rfl) ?_)
    | (with_reducible refine wpList_load_blk (by with_unfolding_all rfl) 56 (.tmp 7) (by with_unfolding_all rfl) _ (by with_unfolding_all rfl) gK Try.underlying56 (by with_unfolding_all rfl) size_wd (by with_unfolding_all rfl) ?_)
    | (with_reducible refine wpList_load_blk (by with_unfolding_all rfl) 25 (.tmp 3) (by with_unfolding_all rfl) _ (by with_unfolding_all rfl) gC Try.underlying25 (by with_unfolding_all rfl) size_cfg (by with_unfolding_all rfl) ?_))
  go_ret
  exact ⟨rfl, hb⟩

set_option maxHeartbeats 1000000 in
set_option maxRecDepth 100000 in
theorem more_ttt {c : Cf} {x : Wd} {ch st : List Int} {dl : List Bool} {ft : List Int} {d : Int} {w : World} (OK : Hid (WdOk w w.heap.size x ch st dl ft)) (e1 : decide (500 < (x.fatesN : Int)) = false) (e2 : decide (60 < (x.deadN : Int)) = false) (e3 : decide (60 < (x.standN : Int)) = false)
    (e4 : decide (d < 2) = false) (e5 : decide (100 < d) = false) (g1 : 2 ≤ d) (g2 : d ≤ 100) (HL1 : Hid (longB c d = true)) (HL2 : Hid (longB c (d - 1) = true)) (HF1 : Hid (fineB ft (d - 1) = true)) (HF2 : Hid (fineB ft d = true)) (HS1 : Hid (sureB c x ch st dl ft d = true)) (HS2 : Hid (sureB c (calmOf x) ch st dl [] d = true)) (HS3 : Hid (sureB c (calmOf x) ch st dl [] (d - 1) = true)) :
    Calls Try.prog 5 #[.agg #[.slice c.A c.n c.cap, .int .i64 c.ch, .int .i64 c.sb, .int .i64 c.cl, .int .i64 c.qu, .int .i64 c.close, .int .i64 c.long, .int .i64 c.ag, .int .i64 c.wi, .int .u64 c.r, .int .u64 c.sq], .agg #[.int .i64 x.now, .slice x.listA x.listN x.listC, .slice x.fatesA x.fatesN x.fatesC, .int .i64 x.node, .int .u64 x.epoch, .int .u64 x.round, .slice x.chainA x.chainN x.chainC, .slice x.peersA x.peersN x.peersC, .slice x.standA x.standN x.standC, .int .i64 x.start, .bool x.closed, .slice x.onA x.onN x.onC, .slice x.backA x.backN x.backC, .bool x.noch, .bool x.chalt, .slice x.serversA x.serversN x.serversC, .slice x.deadA x.deadN x.deadC, .slice x.clientsA x.clientsN x.clientsC, .slice x.drawsA x.drawsN x.drawsC, .slice x.lastA x.lastN x.lastC, .slice x.boxesA x.boxesN x.boxesC, .slice x.logA x.logN x.logC, .bool x.halted], .int .i64 d] w fun e w' => e = .returned (.bool true) ∧ Below w.heap.size w w' := by
  go_enter Try.func5, Try.ntmps5
  go_wp2_with fail
  refine (live22 _).mono ?_; rintro e w' ⟨rfl, rfl⟩
  have gC := (Blk.new w 25 #[.slice c.A c.n c.cap, .int .i64 c.ch, .int .i64 c.sb, .int .i64 c.cl, .int .i64 c.qu, .int .i64 c.close, .int .i64 c.long, .int .i64 c.ag, .int .i64 c.wi, .int .u64 c.r, .int .u64 c.sq] rfl).alloc (.cells #[.int .i64 x.now, .slice x.listA x.listN x.listC, .slice x.fatesA x.fatesN x.fatesC, .int .i64 x.node, .int .u64 x.epoch, .int .u64 x.round, .slice x.chainA x.chainN x.chainC, .slice x.peersA x.peersN x.peersC, .slice x.standA x.standN x.standC, .int .i64 x.start, .bool x.closed, .slice x.onA x.onN x.onC, .slice x.backA x.backN x.backC, .bool x.noch, .bool x.chalt, .slice x.serversA x.serversN x.serversC, .slice x.deadA x.deadN x.deadC, .slice x.clientsA x.clientsN x.clientsC, .slice x.drawsA x.drawsN x.drawsC, .slice x.lastA x.lastN x.lastC, .slice x.boxesA x.boxesN x.boxesC, .slice x.logA x.logN x.logC, .bool x.halted] 56)
  have gW := Blk.new (w.alloc (.cells #[.slice c.A c.n c.cap, .int .i64 c.ch, .int .i64 c.sb, .int .i64 c.cl, .int .i64 c.qu, .int .i64 c.close, .int .i64 c.long, .int .i64 c.ag, .int .i64 c.wi, .int .u64 c.r, .int .u64 c.sq] 25)) 56 #[.int .i64 x.now, .slice x.listA x.listN x.listC, .slice x.fatesA x.fatesN x.fatesC, .int .i64 x.node, .int .u64 x.epoch, .int .u64 x.round, .slice x.chainA x.chainN x.chainC, .slice x.peersA x.peersN x.peersC, .slice x.standA x.standN x.standC, .int .i64 x.start, .bool x.closed, .slice x.onA x.onN x.onC, .slice x.backA x.backN x.backC, .bool x.noch, .bool x.chalt, .slice x.serversA x.serversN x.serversC, .slice x.deadA x.deadN x.deadC, .slice x.clientsA x.clientsN x.clientsC, .slice x.drawsA x.drawsN x.drawsC, .slice x.lastA x.lastN x.lastC, .slice x.boxesA x.boxesN x.boxesC, .slice x.logA x.logN x.logC, .bool x.halted] rfl
  simp only [World.size_alloc] at gW
  have hb : Below w.heap.size w ((w.alloc (.cells #[.slice c.A c.n c.cap, .int .i64 c.ch, .int .i64 c.sb, .int .i64 c.cl, .int .i64 c.qu, .int .i64 c.close, .int .i64 c.long, .int .i64 c.ag, .int .i64 c.wi, .int .u64 c.r, .int .u64 c.sq] 25)).alloc (.cells #[.int .i64 x.now, .slice x.listA x.listN x.listC, .slice x.fatesA x.fatesN x.fatesC, .int .i64 x.node, .int .u64 x.epoch, .int .u64 x.round, .slice x.chainA x.chainN x.chainC, .slice x.peersA x.peersN x.peersC, .slice x.standA x.standN x.standC, .int .i64 x.start, .bool x.closed, .slice x.onA x.onN x.onC, .slice x.backA x.backN x.backC, .bool x.noch, .bool x.chalt, .slice x.serversA x.serversN x.serversC, .slice x.deadA x.deadN x.deadC, .slice x.clientsA x.clientsN x.clientsC, .slice x.drawsA x.drawsN x.drawsC, .slice x.lastA x.lastN x.lastC, .slice x.boxesA x.boxesN x.boxesC, .slice x.logA x.logN x.logC, .bool x.halted] 56)) := ((Below.refl _ _).alloc (Nat.le_refl _) _).alloc (by simp) _
  go_wp2_with (first
    | (with_reducible refine wpList_load_blk (by with_unfolding_all rfl) 56 (.tmp 4) (by with_unfolding_all rfl) _ (by with_unfolding_all rfl) gW Try.underlying56 (by with_unfolding_all rfl) size_wd (by with_unfolding_all rfl) ?_)
    | (with_reducible refine wpList_load_blk (by with_unfolding_all rfl) 56 (.tmp 7) (by with_unfolding_all rfl) _ (by with_unfolding_all rfl) gK Try.underlying56 (by with_unfolding_all rfl) size_wd (by with_unfolding_all rfl) ?_)
    | (with_reducible refine wpList_load_blk (by with_unfolding_all rfl) 25 (.tmp 3) (by with_unfolding_all rfl) _ (by with_unfolding_all rfl) gC Try.underlying25 (by with_unfolding_all rfl) size_cfg (by with_unfolding_all rfl) ?_))
  refine (long_at HL1.out _).mono ?_; rintro e w1 ⟨rfl, hb1⟩
  replace gC := gC.below hb1 gC.lt
  replace gW := gW.below hb1 (by simp)
  replace hb := hb.trans (hb1.mono (by simp; omega))
  clear hb1
  go_wp2_with (first
    | (with_reducible refine wpList_load_blk (by with_unfolding_all rfl) 56 (.tmp 4) (by with_unfolding_all rfl) _ (by with_unfolding_all rfl) gW Try.underlying56 (by with_unfolding_all rfl) size_wd (by with_unfolding_all rfl) ?_)
    | (with_reducible refine wpList_load_blk (by with_unfolding_all rfl) 56 (.tmp 7) (by with_unfolding_all rfl) _ (by with_unfolding_all rfl) gK Try.underlying56 (by with_unfolding_all rfl) size_wd (by with_unfolding_all rfl) ?_)
    | (with_reducible refine wpList_load_blk (by with_unfolding_all rfl) 25 (.tmp 3) (by with_unfolding_all rfl) _ (by with_unfolding_all rfl) gC Try.underlying25 (by with_unfolding_all rfl) size_cfg (by with_unfolding_all rfl) ?_))
  refine (long_at HL2.out _).mono ?_; rintro e w2 ⟨rfl, hb1⟩
  replace gC := gC.below hb1 gC.lt
  replace gW := gW.below hb1 gW.lt
  replace hb := hb.trans (hb1.mono hb.size)
  clear hb1 w1
  have y2 := gW.cell 2 (v := .slice x.fatesA x.fatesN x.fatesC) rfl
  go_wp2_with (first
    | (with_reducible refine wpList_load_blk (by with_unfolding_all rfl) 56 (.tmp 4) (by with_unfolding_all rfl) _ (by with_unfolding_all rfl) gW Try.underlying56 (by with_unfolding_all rfl) size_wd (by with_unfolding_all rfl) ?_)
    | (with_reducible refine wpList_load_blk (by with_unfolding_all rfl) 56 (.tmp 7) (by with_unfolding_all rfl) _ (by with_unfolding_all rfl) gK Try.underlying56 (by with_unfolding_all rfl) size_wd (by with_unfolding_all rfl) ?_)
    | (with_reducible refine wpList_load_blk (by with_unfolding_all rfl) 25 (.tmp 3) (by with_unfolding_all rfl) _ (by with_unfolding_all rfl) gC Try.underlying25 (by with_unfolding_all rfl) size_cfg (by with_unfolding_all rfl) ?_))
  refine (fine_at OK.out.fatesN HF1.out _ (OK.out.fates.below hb (Nat.le_refl _)) OK.out.fatesM).mono ?_; rintro e w' ⟨rfl, rfl⟩
  go_wp2_with (first
    | (with_reducible refine wpList_load_blk (by with_unfolding_all rfl) 56 (.tmp 4) (by with_unfolding_all rfl) _ (by with_unfolding_all rfl) gW Try.underlying56 (by with_unfolding_all rfl) size_wd (by with_unfolding_all rfl) ?_)
    | (with_reducible refine wpList_load_blk (by with_unfolding_all rfl) 56 (.tmp 7) (by with_unfolding_all rfl) _ (by with_unfolding_all rfl) gK Try.underlying56 (by with_unfolding_all rfl) size_wd (by with_unfolding_all rfl) ?_)
    | (with_reducible refine wpList_load_blk (by with_unfolding_all rfl) 25 (.tmp 3) (by with_unfolding_all rfl) _ (by with_unfolding_all rfl) gC Try.underlying25 (by with_unfolding_all rfl) size_cfg (by with_unfolding_all rfl) ?_))
  refine (fine_at OK.out.fatesN HF2.out _ (OK.out.fates.below hb (Nat.le_refl _)) OK.out.fatesM).mono ?_; rintro e w' ⟨rfl, rfl⟩
  go_upto_region 11 with (first
    | (with_reducible refine wpList_load_blk (by with_unfolding_all rfl) 56 (.tmp 4) (by with_unfolding_all rfl) _ (by with_unfolding_all rfl) gW Try.underlying56 (by with_unfolding_all rfl) size_wd (by with_unfolding_all rfl) ?_)
    | (with_reducible refine wpList_store_new (by with_unfolding_all rfl) (.tmp 7) (.tmp 60) (by with_unfolding_all rfl) (by with_unfolding_all rfl) (by with_unfolding_all rfl) size_wd (by with_unfolding_all rfl) (by with_unfolding_all rfl) (by with_unfolding_all rfl) ?_))
  replace gC := gC.alloc (.cells #[.int .i64 x.now, .slice x.listA x.listN x.listC, .slice none 0 0, .int .i64 x.node, .int .u64 x.epoch, .int .u64 x.round, .slice x.chainA x.chainN x.chainC, .slice x.peersA x.peersN x.peersC, .slice x.standA x.standN x.standC, .int .i64 x.start, .bool x.closed, .slice x.onA x.onN x.onC, .slice x.backA x.backN x.backC, .bool x.noch, .bool x.chalt, .slice x.serversA x.serversN x.serversC, .slice x.deadA x.deadN x.deadC, .slice x.clientsA x.clientsN x.clientsC, .slice x.drawsA x.drawsN x.drawsC, .slice x.lastA x.lastN x.lastC, .slice x.boxesA x.boxesN x.boxesC, .slice x.logA x.logN x.logC, .bool x.halted] 56)
  replace gW := gW.alloc (.cells #[.int .i64 x.now, .slice x.listA x.listN x.listC, .slice none 0 0, .int .i64 x.node, .int .u64 x.epoch, .int .u64 x.round, .slice x.chainA x.chainN x.chainC, .slice x.peersA x.peersN x.peersC, .slice x.standA x.standN x.standC, .int .i64 x.start, .bool x.closed, .slice x.onA x.onN x.onC, .slice x.backA x.backN x.backC, .bool x.noch, .bool x.chalt, .slice x.serversA x.serversN x.serversC, .slice x.deadA x.deadN x.deadC, .slice x.clientsA x.clientsN x.clientsC, .slice x.drawsA x.drawsN x.drawsC, .slice x.lastA x.lastN x.lastC, .slice x.boxesA x.boxesN x.boxesC, .slice x.logA x.logN x.logC, .bool x.halted] 56)
  have gK := Blk.new w2 56 #[.int .i64 x.now, .slice x.listA x.listN x.listC, .slice none 0 0, .int .i64 x.node, .int .u64 x.epoch, .int .u64 x.round, .slice x.chainA x.chainN x.chainC, .slice x.peersA x.peersN x.peersC, .slice x.standA x.standN x.standC, .int .i64 x.start, .bool x.closed, .slice x.onA x.onN x.onC, .slice x.backA x.backN x.backC, .bool x.noch, .bool x.chalt, .slice x.serversA x.serversN x.serversC, .slice x.deadA x.deadN x.deadC, .slice x.clientsA x.clientsN x.clientsC, .slice x.drawsA x.drawsN x.drawsC, .slice x.lastA x.lastN x.lastC, .slice x.boxesA x.boxesN x.boxesC, .slice x.logA x.logN x.logC, .bool x.halted] rfl
  replace hb := hb.alloc hb.size (.cells #[.int .i64 x.now, .slice x.listA x.listN x.listC, .slice none 0 0, .int .i64 x.node, .int .u64 x.epoch, .int .u64 x.round, .slice x.chainA x.chainN x.chainC, .slice x.peersA x.peersN x.peersC, .slice x.standA x.standN x.standC, .int .i64 x.start, .bool x.closed, .slice x.onA x.onN x.onC, .slice x.backA x.backN x.backC, .bool x.noch, .bool x.chalt, .slice x.serversA x.serversN x.serversC, .slice x.deadA x.deadN x.deadC, .slice x.clientsA x.clientsN x.clientsC, .slice x.drawsA x.drawsN x.drawsC, .slice x.lastA x.lastN x.lastC, .slice x.boxesA x.boxesN x.boxesC, .slice x.logA x.logN x.logC, .bool x.halted] 56)
  clear y2
  go_wp2_with (first
    | (with_reducible refine wpList_load_blk (by with_unfolding_all rfl) 56 (.tmp 4) (by with_unfolding_all rfl) _ (by with_unfolding_all rfl) gW Try.underlying56 (by with_unfolding_all rfl) size_wd (by with_unfolding_all rfl) ?_)
    | (with_reducible refine wpList_load_blk (by with_unfolding_all rfl) 56 (.tmp 7) (by with_unfolding_all rfl) _ (by with_unfolding_all rfl) gK Try.underlying56 (by with_unfolding_all rfl) size_wd (by with_unfolding_all rfl) ?_)
    | (with_reducible refine wpList_load_blk (by with_unfolding_all rfl) 25 (.tmp 3) (by with_unfolding_all rfl) _ (by with_unfolding_all rfl) gC Try.underlying25 (by with_unfolding_all rfl) size_cfg (by with_unfolding_all rfl) ?_))
  refine (sure_at (OK.out.below hb hb.size) HS1.out).mono ?_; rintro e w3 ⟨rfl, hb1⟩
  replace gC := gC.below hb1 gC.lt
  replace gW := gW.below hb1 gW.lt
  replace gK := gK.below hb1 gK.lt
  replace hb := hb.trans (hb1.mono hb.size)
  clear hb1
  go_wp2_with (first
    | (with_reducible refine wpList_load_blk (by with_unfolding_all rfl) 56 (.tmp 4) (by with_unfolding_all rfl) _ (by with_unfolding_all rfl) gW Try.underlying56 (by with_unfolding_all rfl) size_wd (by with_unfolding_all rfl) ?_)
    | (with_reducible refine wpList_load_blk (by with_unfolding_all rfl) 56 (.tmp 7) (by with_unfolding_all rfl) _ (by with_unfolding_all rfl) gK Try.underlying56 (by with_unfolding_all rfl) size_wd (by with_unfolding_all rfl) ?_)
    | (with_reducible refine wpList_load_blk (by with_unfolding_all rfl) 25 (.tmp 3) (by with_unfolding_all rfl) _ (by with_unfolding_all rfl) gC Try.underlying25 (by with_unfolding_all rfl) size_cfg (by with_unfolding_all rfl) ?_))
  refine (calm_at (OK.out.below hb hb.size) HS2.out).mono ?_; rintro e w4 ⟨rfl, hb1⟩
  replace gC := gC.below hb1 gC.lt
  replace gW := gW.below hb1 gW.lt
  replace gK := gK.below hb1 gK.lt
  replace hb := hb.trans (hb1.mono hb.size)
  clear hb1
  go_wp2_with (first
    | (with_reducible refine wpList_load_blk (by with_unfolding_all rfl) 56 (.tmp 4) (by with_unfolding_all rfl) _ (by with_unfolding_all rfl) gW Try.underlying56 (by with_unfolding_all rfl) size_wd (by with_unfolding_all rfl) ?_)
    | (with_reducible refine wpList_load_blk (by with_unfolding_all rfl) 56 (.tmp 7) (by with_unfolding_all rfl) _ (by with_unfolding_all rfl) gK Try.underlying56 (by with_unfolding_all rfl) size_wd (by with_unfolding_all rfl) ?_)
    | (with_reducible refine wpList_load_blk (by with_unfolding_all rfl) 25 (.tmp 3) (by with_unfolding_all rfl) _ (by with_unfolding_all rfl) gC Try.underlying25 (by with_unfolding_all rfl) size_cfg (by with_unfolding_all rfl) ?_))
  refine (calm_at (OK.out.below hb hb.size) HS3.out).mono ?_; rintro e w5 ⟨rfl, hb1⟩
  replace gC := gC.below hb1 gC.lt
  replace gW := gW.below hb1 gW.lt
  replace gK := gK.below hb1 gK.lt
  replace hb := hb.trans (hb1.mono hb.size)
  clear hb1
  go_wp2_with (first
    | (with_reducible refine wpList_load_blk (by with_unfolding_all rfl) 56 (.tmp 4) (by with_unfolding_all rfl) _ (by with_unfolding_all rfl) gW Try.underlying56 (by with_unfolding_all rfl) size_wd (by with_unfolding_all rfl) ?_)
    | (with_reducible refine wpList_load_blk (by with_unfolding_all rfl) 56 (.tmp 7) (by with_unfolding_all rfl) _ (by with_unfolding_all rfl) gK Try.underlying56 (by with_unfolding_all rfl) size_wd (by with_unfolding_all rfl) ?_)
    | (with_reducible refine wpList_load_blk (by with_unfolding_all rfl) 25 (.tmp 3) (by with_unfolding_all rfl) _ (by with_unfolding_all rfl) gC Try.underlying25 (by with_unfolding_all rfl) size_cfg (by with_unfolding_all rfl) ?_))
  go_ret
  exact ⟨rfl, hb⟩

set_option maxHeartbeats 1000000 in
theorem more_small {c : Cf} {x : Wd} {d : Int} {w : World} (h : 500 < x.fatesN ∨ 60 < x.deadN ∨ 60 < x.standN ∨ d < 2 ∨ 100 < d) :
    Calls Try.prog 5 #[.agg #[.slice c.A c.n c.cap, .int .i64 c.ch, .int .i64 c.sb, .int .i64 c.cl, .int .i64 c.qu, .int .i64 c.close, .int .i64 c.long, .int .i64 c.ag, .int .i64 c.wi, .int .u64 c.r, .int .u64 c.sq], .agg #[.int .i64 x.now, .slice x.listA x.listN x.listC, .slice x.fatesA x.fatesN x.fatesC, .int .i64 x.node, .int .u64 x.epoch, .int .u64 x.round, .slice x.chainA x.chainN x.chainC, .slice x.peersA x.peersN x.peersC, .slice x.standA x.standN x.standC, .int .i64 x.start, .bool x.closed, .slice x.onA x.onN x.onC, .slice x.backA x.backN x.backC, .bool x.noch, .bool x.chalt, .slice x.serversA x.serversN x.serversC, .slice x.deadA x.deadN x.deadC, .slice x.clientsA x.clientsN x.clientsC, .slice x.drawsA x.drawsN x.drawsC, .slice x.lastA x.lastN x.lastC, .slice x.boxesA x.boxesN x.boxesC, .slice x.logA x.logN x.logC, .bool x.halted], .int .i64 d] w fun e w' => e = .returned (.bool true) ∧ Below w.heap.size w w' := by
  go_enter Try.func5, Try.ntmps5
  go_wp2_with (go_at_call 7; refine (live22 _).mono ?_; rintro e w' ⟨rfl, rfl⟩)
  all_goals first
    | (exfalso; omega)
    | (go_ret; exact ⟨rfl, ((Below.refl _ _).alloc (Nat.le_refl _) _).alloc (by simp) _⟩)
theorem more_any (c : Cf) (x : Wd) (ch st : List Int) (dl : List Bool) (ft : List Int) (d : Int) (w : World) (ok : WdOk w w.heap.size x ch st dl ft) :
    Calls Try.prog 5 #[.agg #[.slice c.A c.n c.cap, .int .i64 c.ch, .int .i64 c.sb, .int .i64 c.cl, .int .i64 c.qu, .int .i64 c.close, .int .i64 c.long, .int .i64 c.ag, .int .i64 c.wi, .int .u64 c.r, .int .u64 c.sq], .agg #[.int .i64 x.now, .slice x.listA x.listN x.listC, .slice x.fatesA x.fatesN x.fatesC, .int .i64 x.node, .int .u64 x.epoch, .int .u64 x.round, .slice x.chainA x.chainN x.chainC, .slice x.peersA x.peersN x.peersC, .slice x.standA x.standN x.standC, .int .i64 x.start, .bool x.closed, .slice x.onA x.onN x.onC, .slice x.backA x.backN x.backC, .bool x.noch, .bool x.chalt, .slice x.serversA x.serversN x.serversC, .slice x.deadA x.deadN x.deadC, .slice x.clientsA x.clientsN x.clientsC, .slice x.drawsA x.drawsN x.drawsC, .slice x.lastA x.lastN x.lastC, .slice x.boxesA x.boxesN x.boxesC, .slice x.logA x.logN x.logC, .bool x.halted], .int .i64 d] w fun e w' => e = .returned (.bool true) ∧ Below w.heap.size w w' := by
  by_cases hs : 500 < x.fatesN ∨ 60 < x.deadN ∨ 60 < x.standN ∨ d < 2 ∨ 100 < d
  · exact more_small hs
  · have e1 : decide (500 < (x.fatesN : Int)) = false := decide_eq_false (by omega)
    have e2 : decide (60 < (x.deadN : Int)) = false := decide_eq_false (by omega)
    have e3 : decide (60 < (x.standN : Int)) = false := decide_eq_false (by omega)
    have e4 : decide (d < 2) = false := decide_eq_false (by omega)
    have e5 : decide (100 < d) = false := decide_eq_false (by omega)
    have g1 : 2 ≤ d := by omega
    have g2 : d ≤ 100 := by omega
    cases hL : longB c d <;> cases hF : fineB ft (d - 1) <;> cases hS : sureB c x ch st dl ft d
    · exact more_fff ok e1 e2 e3 e4 e5 g1 g2 hL hF hS
    · exact more_fft ok e1 e2 e3 e4 e5 g1 g2 hL hF hS (sureB_calm hS) (sureB_less g1 (sureB_calm hS))
    · exact more_ftf ok e1 e2 e3 e4 e5 g1 g2 hL hF (fineB_less hF) hS
    · exact more_ftt ok e1 e2 e3 e4 e5 g1 g2 hL hF (fineB_less hF) hS (sureB_calm hS) (sureB_less g1 (sureB_calm hS))
    · exact more_tff ok e1 e2 e3 e4 e5 g1 g2 hL (longB_less g1 hL) hF hS
    · exact more_tft ok e1 e2 e3 e4 e5 g1 g2 hL (longB_less g1 hL) hF hS (sureB_calm hS) (sureB_less g1 (sureB_calm hS))
    · exact more_ttf ok e1 e2 e3 e4 e5 g1 g2 hL (longB_less g1 hL) hF (fineB_less hF) hS
    · exact more_ttt ok e1 e2 e3 e4 e5 g1 g2 hL (longB_less g1 hL) hF (fineB_less hF) hS (sureB_calm hS) (sureB_less g1 (sureB_calm hS))
end Go.Proofs.Ytigpalnmeefphaa
