/-
  Flights of a net: how they lie in cells; copyFlights.
-/
import Derived.Test.YtponbodiibkopaaBytes
import Derived.Test.YtponbodiibkopaaOwnX
namespace Go.Proofs.Ytponbodiibkopaa
open Go.RowKit Go.Sort
set_option linter.unusedVariables false

structure Fl where
  tm : Int
  fr : Int
  tgt : Int
  body : List Int
theorem Fl.ext_iff' {l m : Fl} : l = m ↔ l.tm = m.tm ∧ l.fr = m.fr ∧ l.tgt = m.tgt ∧ l.body = m.body := by
  cases l; cases m; simp
/-- A flight's four cells. -/
def Rfl : Rdr Fl where
  size := 4
  fit := fun K l => l.body.length ≤ K
  rd := fun w S l cs => ∃ (A : Option Addr) (cap : Nat), cs = [.int .i64 l.tm, .int .i64 l.fr, .int .i64 l.tgt, .slice A l.body.length cap] ∧ (Lit.int .i64 l.tm).wf = true ∧ (Lit.int .i64 l.fr).wf = true ∧ (Lit.int .i64 l.tgt).wf = true ∧ l.body.length ≤ cap ∧ cap ≤ maxLen ∧ Sl (Rint .u8) w S A l.body
  len := by rintro _ _ _ _ ⟨_, _, rfl, _⟩; rfl
  one := by
    rintro _ _ _ _ ⟨_, _, rfl, _⟩ v hv
    simp only [List.mem_cons, List.not_mem_nil, or_false] at hv
    rcases hv with rfl | rfl | rfl | rfl <;> rfl
  keep := fun ⟨A, cap, h, h1, h2, h3, hl, hc, hs⟩ hk hm => ⟨A, cap, h, h1, h2, h3, hl, hc, hs.keep hk hm⟩
  more := fun h hK => Nat.le_trans h hK
theorem Sl.flight {w : World} {S : Nat → Prop} {A : Option Addr} {xs : List Fl} (h : Sl Rfl w S A xs) {i : Nat} {x : Fl} (hx : xs[i]? = some x) :
    ∃ (b off : Nat) (T : Option Addr) (n cap : Nat), A = some ⟨b, off, none⟩ ∧ S b ∧ (Lit.int .i64 x.tm).wf = true ∧ (Lit.int .i64 x.fr).wf = true ∧ (Lit.int .i64 x.tgt).wf = true ∧ x.body.length = n ∧ n ≤ cap ∧ cap ≤ maxLen ∧ Sl (Rint .u8) w S T x.body ∧
      w.cell? ⟨b, off + i * 4, none⟩ = some (.int .i64 x.tm) ∧ w.cell? ⟨b, off + i * 4 + 1, none⟩ = some (.int .i64 x.fr) ∧ w.cell? ⟨b, off + i * 4 + 2, none⟩ = some (.int .i64 x.tgt) ∧ w.cell? ⟨b, off + i * 4 + 3, none⟩ = some (.slice T n cap) := by
  obtain ⟨b, off, cs, hA, hb, ⟨T, cap, rfl, h1, h2, h3, hl, hm, hs⟩, hc⟩ := h i x hx
  exact ⟨b, off, T, _, cap, hA, hb, h1, h2, h3, rfl, hl, hm, hs, hc 0 _ rfl, hc 1 _ rfl, hc 2 _ rfl, hc 3 _ rfl⟩
theorem Sl.more {α : Type} {R : Rdr α} {w : World} {S S' : Nat → Prop} {A : Option Addr} {xs : List α} (h : Sl R w S A xs) (hs : ∀ b, S b → S' b) : Sl R w S' A xs := h.keep (fun _ _ => rfl) hs
theorem Sl.set {α : Type} {R : Rdr α} {w : World} {S : Nat → Prop} {A : Option Addr} {xs : List α} (h : Sl R w S A xs) {p : Addr} (hp : ¬ S p.block) (u : Value) : Sl R (w.setCell p u) S A xs :=
  h.keep (fun q hq => World.cell?_setCell_other w p q u (fun e => hp (by subst e; exact hq))) fun _ h => h
theorem maxLen_le {n : Nat} (h : n ≤ maxLen) : n ≤ 9223372036854775807 := h
theorem ret_bool {a b : Bool} (h : a = b) : Ending.returned (.bool a) = .returned (.bool b) := by rw [h]
theorem ei_flights : EI Try.prog 22 37 4 48 := .mk' (.agg #[.int .i64 0, .int .i64 0, .int .i64 0, .slice none 0 0]) Try.underlying22 (by decide) rfl (by kernel_rfl)
theorem flight_round {G q j B : Nat} {t : TypeId} {wi W w5 w0 : World} {y : Fl} {xs : List Fl} {T5 : Option Addr} {n5 c5 : Nat} (hF : Fill Rfl wi (fun b => G < b ∧ b < wi.heap.size) G t q (xs.take j)) (hy : xs[j]? = some y) (hq : xs.length = q) (hlt : j < q)
    (hW : Below wi.heap.size wi W) (hb5 : Below wi.heap.size W w5) (hs : Sl (Rint .u8) w5 (mid wi.heap.size w5.heap.size) T5 y.body) (w1 : (Lit.int .i64 y.tm).wf = true) (w2 : (Lit.int .i64 y.fr).wf = true) (w3 : (Lit.int .i64 y.tgt).wf = true)
    (hn : y.body.length = n5) (hl : n5 ≤ c5) (hm : c5 ≤ maxLen) (hB : B ≤ G) (hbi : Below B w0 wi) (w6 : World)
    (hw6 : w6 = (((w5.setCell ⟨G, j * 4, none⟩ (.int .i64 y.tm)).setCell ⟨G, j * 4 + 1, none⟩ (.int .i64 y.fr)).setCell ⟨G, j * 4 + 2, none⟩ (.int .i64 y.tgt)).setCell ⟨G, j * 4 + 3, none⟩ (.slice T5 n5 c5)) :
    ∃ j1 : Nat, j1 ≤ q ∧ Value.int .i64 ((j : Int) + 1) = .int .i64 j1 ∧ Fill Rfl w6 (fun b => G < b ∧ b < w6.heap.size) G t q (xs.take j1) ∧ Below B w0 w6 := by
  subst hw6
  have hb6 := hW.trans hb5
  have hG := hF.lt
  have hj := (List.getElem?_eq_some_iff.1 hy).1
  have e1 := take_snoc' hy
  have e2 : (xs.take j).length = j := by rw [List.length_take]; omega
  subst hn
  have h1 : Fill Rfl w5 (fun b => G < b ∧ b < w5.heap.size) G t q (xs.take j) := hF.up hb6 (fun b h => h.2) (fun b h => ⟨h.1, by have := hb6.size; have := h.2; omega⟩)
  have h2 := h1.store (x := y) (cs := [.int .i64 y.tm, .int .i64 y.fr, .int .i64 y.tgt, .slice T5 y.body.length c5]) (by rw [e2]; omega) ⟨T5, c5, rfl, w1, w2, w3, hl, hm, hs.more fun b h => ⟨by have := h.1; omega, h.2⟩⟩ (by simp)
  rw [e2] at h2
  refine ⟨j + 1, by omega, by go_num, ?_, setCells_below [.int .i64 y.tm, .int .i64 y.fr, .int .i64 y.tgt, .slice T5 y.body.length c5] (j * 4) w5 (hbi.trans (hb6.mono (by have := hbi.size; omega))) hB⟩
  rw [e1]
  have h3 := setCells_size G [.int .i64 y.tm, .int .i64 y.fr, .int .i64 y.tgt, .slice T5 y.body.length c5] (j * 4) w5
  exact h2.more (fun b hb => ⟨hb.1, by have : b < w5.heap.size := hb.2; rw [← h3] at this; exact this⟩)
/-- A list of one's own. -/
def OwnPost {α : Type} (R : Rdr α) (e : TypeId) (xs : List α) (w : World) (en : Ending) (w' : World) : Prop :=
  ∃ (A : Option Addr) (n c : Nat), en = .returned (.slice A n c) ∧ xs.length = n ∧ OwnX R w' w.heap.size e (fun _ => False) (.slice A n c) xs ∧ Below w.heap.size w w'
end Go.Proofs.Ytponbodiibkopaa
