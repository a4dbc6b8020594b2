/-
  A configuration, and a world, as arguments: their values opened.
-/
import Derived.Test.YtigpalnmeefphaaBase
namespace Go.Proofs.Ytigpalnmeefphaa
open Go.ChangeShapes Go.WideShapes Go.ChangeAt Go.RowKit

theorem cells_cfg : Try.prog.cellsOf 25 = 11 := by kernel_rfl
theorem cells_u8 : Try.prog.cellsOf 5 = 1 := by kernel_rfl
theorem cells_int : Try.prog.cellsOf 3 = 1 := by kernel_rfl
theorem cells_u64 : Try.prog.cellsOf 23 = 1 := by kernel_rfl
theorem cells_bool : Try.prog.cellsOf 4 = 1 := by kernel_rfl
theorem cells_bytes : Try.prog.cellsOf 22 = 1 := by kernel_rfl
theorem bytes_u8 : Try.prog.bytesOf 5 = 1 := by kernel_rfl
theorem opens_int : Opens Try.prog 3 (Rint .i64) := Opens.int Try.underlying3 cells_int
theorem opens_u64 : Opens Try.prog 23 (Rint .u64) := Opens.int Try.underlying23 cells_u64
theorem opens_u8 : Opens Try.prog 5 (Rint .u8) := Opens.int Try.underlying5 cells_u8
theorem opens_bool : Opens Try.prog 4 Rbool := Opens.bool Try.underlying4 cells_bool
theorem opens_bytes : Opens Try.prog 22 (Rsl 1 (Rint .u8)) := Opens.slice Try.underlying22 cells_bytes bytes_u8 (by decide) opens_u8

abbrev RcfgP := Rcons (Rsl 1 (Rint .u8)) (Rcons (Rint .i64) (Rcons (Rint .i64) (Rcons (Rint .i64) (Rcons (Rint .i64) (Rcons (Rint .i64) (Rcons (Rint .i64) (Rcons (Rint .i64) (Rcons (Rint .i64) (Rcons (Rint .u64) (Rcons (Rint .u64) Rnil))))))))))
theorem opens_cfg : Opens Try.prog 25 RcfgP :=
  Opens.struct Try.underlying25 cells_cfg
    (.cons rfl opens_bytes (.cons rfl opens_int (.cons rfl opens_int (.cons rfl opens_int (.cons rfl opens_int (.cons rfl opens_int (.cons rfl opens_int (.cons rfl opens_int (.cons rfl opens_int (.cons rfl opens_u64 (.cons rfl opens_u64 .nil)))))))))))
theorem arg_agg {P : Program} {w : World} {r : Reach} {b0 : Nat} {t : TypeId} {fs : Array Field} {v : Value} (ht : P.underlying t = some (.struct fs)) (h : Value.okWide P w r b0 t v) {l : List Value} (hc : v.cells.toList = l) : v = .agg l.toArray := by
  obtain ⟨cs, rfl, _⟩ := okWide_struct ht h
  subst hc
  simp [Value.cells]
/-- A configuration that came in: its value. -/
theorem arg_cfg {H : Type} {enc : TypeId × Value → H} {w : World} {r : Reach} {b0 : Nat} {v : Value} {d : DataW H} {ps : List MemPlace} (hv : Value.okWide Try.prog w r b0 25 v)
    (ht : DataW.Trod enc Try.prog w 0 (fun _ => true) true 25 v d ps) :
    ∃ (A : Option Addr) (seed : List Int) (cap : Nat) (ch sb cl qu close long ag wi r sq : Int), v = .agg #[.slice A seed.length cap, .int .i64 ch, .int .i64 sb, .int .i64 cl, .int .i64 qu, .int .i64 close, .int .i64 long, .int .i64 ag, .int .i64 wi, .int .u64 r, .int .u64 sq] ∧
      Sl (Rint .u8) w (lo w.heap.size) A seed ∧ seed.length ≤ cap ∧ cap ≤ maxLen := by
  obtain ⟨⟨seed, ch, sb, cl, qu, close, long, ag, wi, r, sq, _⟩, hr, _⟩ := opens_cfg.arg ht
  obtain ⟨_, _, h, ⟨A, cap, rfl, hl, hm, hs⟩, _, _, rfl, ⟨rfl, _⟩, _, _, rfl, ⟨rfl, _⟩, _, _, rfl, ⟨rfl, _⟩, _, _, rfl, ⟨rfl, _⟩, _, _, rfl, ⟨rfl, _⟩, _, _, rfl, ⟨rfl, _⟩, _, _, rfl, ⟨rfl, _⟩, _, _, rfl, ⟨rfl, _⟩, _, _, rfl, ⟨rfl, _⟩, _, _, rfl, ⟨rfl, _⟩, rfl⟩ := hr
  exact ⟨A, seed, cap, ch, sb, cl, qu, close, long, ag, wi, r, sq, arg_agg Try.underlying25 hv h, hs, hl, hm⟩
theorem cells_ints : Try.prog.cellsOf 32 = 1 := by kernel_rfl
theorem bytes_int : Try.prog.bytesOf 3 = 8 := by kernel_rfl
theorem opens_ints : Opens Try.prog 32 (Rsl 8 (Rint .i64)) := Opens.slice Try.underlying32 cells_ints bytes_int (by decide) opens_int
theorem arg_sl {α : Type} {R : Rdr α} {P : Program} {t e : TypeId} {bytes : Nat} (ht : P.underlying t = some (.slice e)) (ho : Opens P t (Rsl bytes R)) {H : Type} {enc : TypeId × Value → H} {w : World} {r : Reach} {b0 : Nat} {v : Value} {d : DataW H} {ps : List MemPlace}
    (hv : Value.okWide P w r b0 t v) (h : DataW.Trod enc P w 0 (fun _ => true) true t v d ps) (hz : ∀ n ∈ d.weights P t, n ≤ reachBytes) :
    ∃ (A : Option Addr) (xs : List α) (n cap : Nat), v = .slice A n cap ∧ xs.length = n ∧ n ≤ cap ∧ cap ≤ maxLen ∧ Sl R w (lo w.heap.size) A xs ∧ n * bytes ≤ reachBytes ∧ ∀ x ∈ xs, R.fit reachBytes x := by
  obtain ⟨A, n, cap, rfl⟩ := okWide_slice ht hv
  obtain ⟨xs, ⟨A', cap', hc, hl, hm, hs⟩, hf⟩ := ho.arg h
  simp only [Value.cells, List.cons.injEq, and_true, Value.slice.injEq] at hc
  obtain ⟨rfl, rfl, rfl⟩ := hc
  obtain ⟨h1, h2⟩ := hf hz
  exact ⟨A, xs, _, cap, rfl, rfl, hl, hm, hs, h1, h2⟩
theorem maxLen_le {n : Nat} (h : n ≤ maxLen) : n ≤ 9223372036854775807 := h
end Go.Proofs.Ytigpalnmeefphaa
