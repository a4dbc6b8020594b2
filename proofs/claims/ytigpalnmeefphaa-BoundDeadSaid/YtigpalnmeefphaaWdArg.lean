/-
  A configuration and a world as arguments, as the records Cf and Wd.
-/
import Derived.Test.YtigpalnmeefphaaCfgArg
import Derived.Test.YtigpalnmeefphaaBoundE
namespace Go.Proofs.Ytigpalnmeefphaa
open Go.ChangeShapes Go.WideShapes Go.ChangeAt Go.RowKit

theorem opens_bools : Opens Try.prog 43 (Rsl 1 Rbool) := Opens.slice Try.underlying43 (by kernel_rfl) (by kernel_rfl) (by decide) opens_bool
abbrev Rints := Rsl 8 (Rint .i64)
abbrev RnetP := Rcons Rany (Rcons Rints Rnil)
theorem opens_net : Opens Try.prog 37 RnetP := Opens.struct Try.underlying37 (by kernel_rfl) (.cons rfl (Opens.any Try.underlying35 (by kernel_rfl)) (.cons rfl opens_ints .nil))
abbrev RstampP := Rcons (Rint .u64) (Rcons (Rint .u64) (Rcons Rints Rnil))
theorem opens_stamp : Opens Try.prog 39 RstampP := Opens.struct Try.underlying39 (by kernel_rfl) (.cons rfl opens_u64 (.cons rfl opens_u64 (.cons rfl opens_ints .nil)))
abbrev RpostP := Rcons (Rint .i64) (Rcons RstampP (Rcons Rany Rnil))
theorem opens_post : Opens Try.prog 42 RpostP := Opens.struct Try.underlying42 (by kernel_rfl) (.cons rfl opens_int (.cons rfl opens_stamp (.cons rfl (Opens.any Try.underlying40 (by kernel_rfl)) .nil)))
abbrev RcoordP := Rcons RpostP (Rcons Rints (Rcons (Rint .i64) (Rcons Rbool (Rcons Rany (Rcons Rany (Rcons Rbool (Rcons Rbool Rnil)))))))
theorem opens_coord : Opens Try.prog 45 RcoordP := Opens.struct Try.underlying45 (by kernel_rfl)
  (.cons rfl opens_post (.cons rfl opens_ints (.cons rfl opens_int (.cons rfl opens_bool (.cons rfl (Opens.any Try.underlying43 (by kernel_rfl)) (.cons rfl (Opens.any Try.underlying43 (by kernel_rfl)) (.cons rfl opens_bool (.cons rfl opens_bool .nil))))))))
abbrev RstoreP := Rcons Rany (Rcons Rany Rnil)
theorem opens_store : Opens Try.prog 51 RstoreP := Opens.struct Try.underlying51 (by kernel_rfl) (.cons rfl (Opens.any Try.underlying48 (by kernel_rfl)) (.cons rfl (Opens.any Try.underlying49 (by kernel_rfl)) .nil))
abbrev RsharedP := Rcons Rany (Rcons RstoreP Rnil)
theorem opens_shared : Opens Try.prog 53 RsharedP := Opens.struct Try.underlying53 (by kernel_rfl) (.cons rfl (Opens.any Try.underlying32 (by kernel_rfl)) (.cons rfl opens_store .nil))
abbrev RwdP := Rcons (Rint .i64) (Rcons RnetP (Rcons RcoordP (Rcons Rany (Rcons (Rsl 1 Rbool) (Rcons Rany (Rcons RsharedP (Rcons Rany (Rcons Rbool Rnil))))))))
theorem opens_wd : Opens Try.prog 56 RwdP := Opens.struct Try.underlying56 (by kernel_rfl)
  (.cons rfl opens_int (.cons rfl opens_net (.cons rfl opens_coord (.cons rfl (Opens.any Try.underlying46 (by kernel_rfl)) (.cons rfl opens_bools (.cons rfl (Opens.any Try.underlying47 (by kernel_rfl)) (.cons rfl opens_shared
    (.cons rfl (Opens.any Try.underlying54 (by kernel_rfl)) (.cons rfl opens_bool .nil)))))))))

theorem arg_cf {H : Type} {enc : TypeId × Value → H} {w : World} {r : Reach} {b0 : Nat} {v : Value} {d : DataW H} {ps : List MemPlace} (hv : Value.okWide Try.prog w r b0 25 v)
    (ht : DataW.Trod enc Try.prog w 0 (fun _ => true) true 25 v d ps) : ∃ c : Cf, v = .agg #[.slice c.A c.n c.cap, .int .i64 c.ch, .int .i64 c.sb, .int .i64 c.cl, .int .i64 c.qu, .int .i64 c.close, .int .i64 c.long, .int .i64 c.ag, .int .i64 c.wi, .int .u64 c.r, .int .u64 c.sq] := by
  obtain ⟨A, seed, cap, ch, sb, cl, qu, close, long, ag, wi, r, sq, rfl, _⟩ := arg_cfg hv ht
  exact ⟨⟨A, seed.length, cap, ch, sb, cl, qu, close, long, ag, wi, r, sq⟩, rfl⟩
theorem arg_wd {H : Type} {enc : TypeId × Value → H} {w : World} {r : Reach} {b0 : Nat} {v : Value} {d : DataW H} {ps : List MemPlace} (hv : Value.okWide Try.prog w r b0 56 v)
    (ht : DataW.Trod enc Try.prog w 0 (fun _ => true) true 56 v d ps) : ∃ (x : Wd) (ch st : List Int) (dl : List Bool) (ft : List Int), v = .agg #[.int .i64 x.now, .slice x.listA x.listN x.listC, .slice x.fatesA x.fatesN x.fatesC, .int .i64 x.node, .int .u64 x.epoch, .int .u64 x.round, .slice x.chainA x.chainN x.chainC, .slice x.peersA x.peersN x.peersC, .slice x.standA x.standN x.standC, .int .i64 x.start, .bool x.closed, .slice x.onA x.onN x.onC, .slice x.backA x.backN x.backC, .bool x.noch, .bool x.chalt, .slice x.serversA x.serversN x.serversC, .slice x.deadA x.deadN x.deadC, .slice x.clientsA x.clientsN x.clientsC, .slice x.drawsA x.drawsN x.drawsC, .slice x.lastA x.lastN x.lastC, .slice x.boxesA x.boxesN x.boxesC, .slice x.logA x.logN x.logC, .bool x.halted] ∧ WdOk w w.heap.size x ch st dl ft := by
  obtain ⟨⟨now, ⟨_, ft, _⟩, ⟨⟨node, ⟨epoch, round, ch, _⟩, _, _⟩, st, start, closed, _, _, noch, chalt, _⟩, _, dl, _, ⟨_, ⟨_, _, _⟩, _⟩, _, halted, _⟩, hr, _⟩ := opens_wd.arg ht
  obtain ⟨_, _, h, ⟨rfl, _⟩, _, _, rfl, ⟨_, _, rfl, ⟨listA, listN, listC, rfl⟩, _, _, rfl, ⟨fA, fC, rfl, f1, f2, f3⟩, rfl⟩, _, _, rfl, ⟨_, _, rfl, ⟨_, _, rfl, ⟨rfl, _⟩, _, _, rfl, ⟨_, _, rfl, ⟨rfl, _⟩, _, _, rfl, ⟨rfl, _⟩, _, _, rfl, ⟨cA, cC, rfl, c1, c2, c3⟩, rfl⟩, _, _, rfl, ⟨peersA, peersN, peersC, rfl⟩, rfl⟩,
    _, _, rfl, ⟨sA, sC, rfl, s1, s2, s3⟩, _, _, rfl, ⟨rfl, _⟩, _, _, rfl, rfl, _, _, rfl, ⟨onA, onN, onC, rfl⟩, _, _, rfl, ⟨backA, backN, backC, rfl⟩, _, _, rfl, rfl, _, _, rfl, rfl, rfl⟩, _, _, rfl, ⟨serversA, serversN, serversC, rfl⟩, _, _, rfl, ⟨dA, dC, rfl, d1, d2, d3⟩, _, _, rfl, ⟨clientsA, clientsN, clientsC, rfl⟩,
    _, _, rfl, ⟨_, _, rfl, ⟨drawsA, drawsN, drawsC, rfl⟩, _, _, rfl, ⟨_, _, rfl, ⟨lastA, lastN, lastC, rfl⟩, _, _, rfl, ⟨boxesA, boxesN, boxesC, rfl⟩, rfl⟩, rfl⟩, _, _, rfl, ⟨logA, logN, logC, rfl⟩, _, _, rfl, rfl, rfl⟩ := hr
  refine ⟨⟨now, listA, listN, listC, fA, ft.length, fC, node, epoch, round, cA, ch.length, cC, peersA, peersN, peersC, sA, st.length, sC, start, closed, onA, onN, onC, backA, backN, backC, noch, chalt, serversA, serversN, serversC, dA, dl.length, dC, clientsA, clientsN, clientsC, drawsA, drawsN, drawsC, lastA, lastN, lastC, boxesA, boxesN, boxesC, logA, logN, logC, halted⟩,
    ch, st, dl, ft, arg_agg Try.underlying56 hv h, ⟨c3, rfl, Nat.le_trans c1 (maxLen_le c2), s3, rfl, Nat.le_trans s1 (maxLen_le s2), d3, rfl, Nat.le_trans d1 (maxLen_le d2), f3, rfl, Nat.le_trans f1 (maxLen_le f2)⟩⟩
end Go.Proofs.Ytigpalnmeefphaa
