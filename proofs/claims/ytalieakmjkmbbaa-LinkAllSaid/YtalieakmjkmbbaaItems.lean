/-
  Items of a link, and lists of bodies: how they lie in cells; copyItem, copyItems, copyBodies.
-/
import Derived.Test.YtalieakmjkmbbaaBytes
import Derived.Test.YtalieakmjkmbbaaOwnX
namespace Go.Proofs.Ytalieakmjkmbbaa
open Go.RowKit Go.Sort
set_option linter.unusedVariables false

structure It where
  sq : Int
  body : List Int
  tm : Int
theorem It.ext_iff' {l m : It} : l = m ↔ l.sq = m.sq ∧ l.body = m.body ∧ l.tm = m.tm := by
  cases l; cases m; simp
/-- An item's three cells. -/
def Rit : Rdr It where
  size := 3
  fit := fun K l => l.body.length ≤ K
  rd := fun w S l cs => ∃ (A : Option Addr) (cap : Nat), cs = [.int .i64 l.sq, .slice A l.body.length cap, .int .i64 l.tm] ∧ (Lit.int .i64 l.sq).wf = true ∧ (Lit.int .i64 l.tm).wf = true ∧ l.body.length ≤ cap ∧ cap ≤ maxLen ∧ Sl (Rint .u8) w S A l.body
  len := by rintro _ _ _ _ ⟨_, _, rfl, _⟩; rfl
  one := by
    rintro _ _ _ _ ⟨_, _, rfl, _⟩ v hv
    simp only [List.mem_cons, List.not_mem_nil, or_false] at hv
    rcases hv with rfl | rfl | rfl <;> rfl
  keep := fun ⟨A, cap, h, h1, h2, hl, hc, hs⟩ hk hm => ⟨A, cap, h, h1, h2, hl, hc, hs.keep hk hm⟩
  more := fun h hK => Nat.le_trans h hK
/-- A body as an element. -/
abbrev Rbd : Rdr (List Int) := Rsl 1 (Rint .u8)
theorem Sl.item {w : World} {S : Nat → Prop} {A : Option Addr} {xs : List It} (h : Sl Rit w S A xs) {i : Nat} {x : It} (hx : xs[i]? = some x) :
    ∃ (b off : Nat) (T : Option Addr) (n cap : Nat), A = some ⟨b, off, none⟩ ∧ S b ∧ (Lit.int .i64 x.sq).wf = true ∧ (Lit.int .i64 x.tm).wf = true ∧ x.body.length = n ∧ n ≤ cap ∧ cap ≤ maxLen ∧ Sl (Rint .u8) w S T x.body ∧
      w.cell? ⟨b, off + i * 3, none⟩ = some (.int .i64 x.sq) ∧ w.cell? ⟨b, off + i * 3 + 1, none⟩ = some (.slice T n cap) ∧ w.cell? ⟨b, off + i * 3 + 2, none⟩ = some (.int .i64 x.tm) := by
  obtain ⟨b, off, cs, hA, hb, ⟨T, cap, rfl, h1, h2, hl, hm, hs⟩, hc⟩ := h i x hx
  exact ⟨b, off, T, _, cap, hA, hb, h1, h2, rfl, hl, hm, hs, hc 0 _ rfl, hc 1 _ rfl, hc 2 _ rfl⟩
/-- Element i of a slice of slices: its one cell. -/
theorem Sl.sub {α : Type} {R : Rdr α} {by_ : Nat} {w : World} {S : Nat → Prop} {A : Option Addr} {xs : List (List α)} (h : Sl (Rsl by_ R) w S A xs) {i : Nat} {x : List α} (hx : xs[i]? = some x) :
    ∃ (b off : Nat) (T : Option Addr) (n cap : Nat), A = some ⟨b, off, none⟩ ∧ S b ∧ x.length = n ∧ n ≤ cap ∧ cap ≤ maxLen ∧ Sl R w S T x ∧ w.cell? ⟨b, off + i, none⟩ = some (.slice T n cap) := by
  obtain ⟨b, off, cs, hA, hb, ⟨T, cap, rfl, hl, hm, hs⟩, hc⟩ := h i x hx
  exact ⟨b, off, T, _, cap, hA, hb, rfl, hl, hm, hs, by simpa [Rsl] using hc 0 _ rfl⟩
theorem Sl.more {α : Type} {R : Rdr α} {w : World} {S S' : Nat → Prop} {A : Option Addr} {xs : List α} (h : Sl R w S A xs) (hs : ∀ b, S b → S' b) : Sl R w S' A xs := h.keep (fun _ _ => rfl) hs
theorem Sl.set {α : Type} {R : Rdr α} {w : World} {S : Nat → Prop} {A : Option Addr} {xs : List α} (h : Sl R w S A xs) {p : Addr} (hp : ¬ S p.block) (u : Value) : Sl R (w.setCell p u) S A xs :=
  h.keep (fun q hq => World.cell?_setCell_other w p q u (fun e => hp (by subst e; exact hq))) fun _ h => h
theorem maxLen_le {n : Nat} (h : n ≤ maxLen) : n ≤ 9223372036854775807 := h
theorem ret_bool {a b : Bool} (h : a = b) : Ending.returned (.bool a) = .returned (.bool b) := by rw [h]
theorem ei_items : EI Try.prog 22 38 3 40 := .mk' (.agg #[.int .i64 0, .slice none 0 0, .int .i64 0]) Try.underlying22 (by decide) rfl (by kernel_rfl)
theorem ei_bodies : EI Try.prog 28 25 1 24 := .mk' (.slice none 0 0) Try.underlying28 (by decide) rfl (by kernel_rfl)

/-! ### copyItem -/
/-- An item of one's own. -/
def ItPost (l : It) (w : World) (e : Ending) (w' : World) : Prop :=
  ∃ (T : Option Addr) (n c : Nat), e = .returned (.agg #[.int .i64 l.sq, .slice T n c, .int .i64 l.tm]) ∧ l.body.length = n ∧ n ≤ c ∧ c ≤ maxLen ∧ Sl (Rint .u8) w' (mid w.heap.size w'.heap.size) T l.body ∧ Below w.heap.size w w'
set_option maxHeartbeats 1000000 in
theorem copyItem_any (l : It) (T : Option Addr) (n c : Nat) (hn : l.body.length = n) (w : World) (h : Sl (Rint .u8) w (lo w.heap.size) T l.body) (hz : n ≤ 140737488355328) :
    Calls Try.prog 29 #[.agg #[.int .i64 l.sq, .slice T n c, .int .i64 l.tm]] w (ItPost l w) := by
  have hb0 : Below w.heap.size w ((w.alloc (.cells #[.int .i64 l.sq, .slice T n c, .int .i64 l.tm] 38)).alloc (.cells #[.int .i64 0, .slice none 0 0, .int .i64 0] 38)) := ((Below.refl _ _).alloc (Nat.le_refl _) _).alloc (by simp) _
  have h0 := h.below hb0 hb0.size
  have HH := Lib.hid (And.intro hb0 (And.intro h0 hn)); clear hb0 h0 hn h
  go_enter Try.func29, Try.ntmps29
  go_wp2_with (go_at_call 26; refine (cloneB_any T l.body n c HH.out.2.2 _ HH.out.2.1 (by omega)).mono ?_; rintro e w1 ⟨T1, n1, c1, rfl, hn1, hl1, hm1, hs1, hb1⟩
               have gB := ((Blk.new w 38 #[.int .i64 l.sq, .slice T n c, .int .i64 l.tm] rfl).alloc (.cells #[.int .i64 0, .slice none 0 0, .int .i64 0] 38)).below hb1 (by simp; omega)
               have gR := (Blk.new (w.alloc (.cells #[.int .i64 l.sq, .slice T n c, .int .i64 l.tm] 38)) 38 #[.int .i64 0, .slice none 0 0, .int .i64 0] (g := w.heap.size + 1) (by simp)).below hb1 (by simp)
               have HN1 := Lib.hid hn1
               have b0 := gB.cell 0 (v := .int .i64 l.sq) rfl; have b1 := gB.cell 1 (v := .slice T n c) rfl; have b2 := gB.cell 2 (v := .int .i64 l.tm) rfl
               have r0 := gR.cell 0 (v := .int .i64 0) rfl; have r1 := gR.cell 1 (v := .slice none 0 0) rfl; have r2 := gR.cell 2 (v := .int .i64 0) rfl
               have fB := gB.frozen; have fR := gR.frozen
               clear hn1 gB gR)
  have hbw : Below w.heap.size w w1 := HH.out.1.trans (hb1.mono HH.out.1.size)
  have hs2 : Sl (Rint .u8) w1 (mid (w.heap.size + 2) w1.heap.size) T1 l.body := hs1.more fun b hb => ⟨by have := hb.1; simp at this; omega, hb.2⟩
  refine bodyPost_ret (v := .agg #[.int .i64 l.sq, .slice T1 n1 c1, .int .i64 l.tm]) (by simp [results, Try.results29, go_sem, r0, r1, r2]) rfl ?_
  refine ⟨T1, n1, c1, rfl, HN1.out, hl1, hm1, ?_, ?_⟩
  · refine Sl.more ((((hs2.set ?_ _).set ?_ _).set ?_ _).set ?_ _) (fun b hb => ⟨by have := hb.1; omega, by have := hb.2; simpa using this⟩)
    all_goals (intro hm; have h9 : w.heap.size + 2 ≤ _ := hm.1; dsimp only at h9; omega)
  · exact (((hbw.setCell (by simp) _).setCell (by simp) _).setCell (by simp) _).setCell (by simp) _

/-! ### copyItems -/
theorem item_round {G q j B : Nat} {t : TypeId} {wi W w5 w0 : World} {y : It} {xs : List It} {T5 : Option Addr} {n5 c5 : Nat} (hF : Fill Rit wi (fun b => G < b ∧ b < wi.heap.size) G t q (xs.take j)) (hy : xs[j]? = some y) (hq : xs.length = q) (hlt : j < q)
    (hW : Below wi.heap.size wi W) (hb5 : Below W.heap.size W w5) (hs : Sl (Rint .u8) w5 (mid W.heap.size w5.heap.size) T5 y.body) (w1 : (Lit.int .i64 y.sq).wf = true) (w2 : (Lit.int .i64 y.tm).wf = true)
    (hn : y.body.length = n5) (hl : n5 ≤ c5) (hm : c5 ≤ maxLen) (hB : B ≤ G) (hbi : Below B w0 wi) (w6 : World)
    (hw6 : w6 = ((w5.setCell ⟨G, j * 3, none⟩ (.int .i64 y.sq)).setCell ⟨G, j * 3 + 1, none⟩ (.slice T5 n5 c5)).setCell ⟨G, j * 3 + 2, none⟩ (.int .i64 y.tm)) :
    ∃ j1 : Nat, j1 ≤ q ∧ Value.int .i64 ((j : Int) + 1) = .int .i64 j1 ∧ Fill Rit w6 (fun b => G < b ∧ b < w6.heap.size) G t q (xs.take j1) ∧ Below B w0 w6 := by
  subst hw6
  have hb6 := hW.trans (hb5.mono hW.size)
  have hG := hF.lt
  have hj := (List.getElem?_eq_some_iff.1 hy).1
  have e1 := take_snoc' hy
  have e2 : (xs.take j).length = j := by rw [List.length_take]; omega
  subst hn
  have h1 : Fill Rit w5 (fun b => G < b ∧ b < w5.heap.size) G t q (xs.take j) := hF.up hb6 (fun b h => h.2) (fun b h => ⟨h.1, by have := hb6.size; have := h.2; omega⟩)
  have h2 := h1.store (x := y) (cs := [.int .i64 y.sq, .slice T5 y.body.length c5, .int .i64 y.tm]) (by rw [e2]; omega) ⟨T5, c5, rfl, w1, w2, hl, hm, hs.more fun b h => ⟨by have := h.1; have := hW.size; omega, h.2⟩⟩ (by simp)
  rw [e2] at h2
  refine ⟨j + 1, by omega, by go_num, ?_, setCells_below [.int .i64 y.sq, .slice T5 y.body.length c5, .int .i64 y.tm] (j * 3) w5 (hbi.trans (hb6.mono (by have := hbi.size; omega))) hB⟩
  rw [e1]
  have h3 := setCells_size G [.int .i64 y.sq, .slice T5 y.body.length c5, .int .i64 y.tm] (j * 3) w5
  exact h2.more (fun b hb => ⟨hb.1, by have : b < w5.heap.size := hb.2; rw [← h3] at this; exact this⟩)
/-- A list of one's own. -/
def OwnPost {α : Type} (R : Rdr α) (e : TypeId) (xs : List α) (w : World) (en : Ending) (w' : World) : Prop :=
  ∃ (A : Option Addr) (n c : Nat), en = .returned (.slice A n c) ∧ xs.length = n ∧ OwnX R w' w.heap.size e (fun _ => False) (.slice A n c) xs ∧ Below w.heap.size w w'
set_option maxHeartbeats 2000000 in
theorem copyItems_any (A : Option Addr) (n c : Nat) (xs : List It) (hn : xs.length = n) (w : World) (h : Sl Rit w (lo w.heap.size) A xs) (hz : n * 40 ≤ 140737488355328) (ht : ∀ x ∈ xs, x.body.length ≤ 140737488355328) :
    Calls Try.prog 24 #[.slice A n c] w (OwnPost Rit 38 xs w) := by
  obtain ⟨mk, hmk, hmake⟩ := ei_items.make n (by omega) (by omega)
  have HMK := Lib.hid hmk
  have HX := Lib.hid (And.intro hn (And.intro h ht)); clear hmk hn h ht
  go_enter Try.func24, Try.ntmps24
  go_wp2
  go_loopw [4, 11] (fun _ i wr => ∃ j : Nat, j ≤ n ∧ i = .int .i64 j ∧ Fill Rit wr (fun b => w.heap.size < b ∧ b < wr.heap.size) w.heap.size 38 n (xs.take j) ∧ Below w.heap.size w wr) (fun _ i _ => n - (intOf i).toNat)
  case atStart => exact ⟨0, Nat.zero_le _, rfl, Fill.start (Blk.new _ _ _ rfl) HMK.out, (Below.refl _ _).alloc (Nat.le_refl _) _⟩
  case round =>
    obtain ⟨wi, rfl⟩ : ∃ wi : World, wi = wr := ⟨_, rfl⟩
    obtain ⟨j, hj, rfl, hF, hbi⟩ := hrel
    by_cases hlt : j < n
    · have hy := List.getElem?_eq_getElem (l := xs) (i := j) (by rw [HX.out.1]; exact hlt)
      generalize xs[j]'(by rw [HX.out.1]; exact hlt) = y at hy
      have htz := HX.out.2.2 y (List.mem_of_getElem? hy)
      obtain ⟨b', off', T', tn', tc', rfl, _, w1, w2, htn', _, _, hts', y0, y1, y2⟩ := (HX.out.2.1.below hbi hbi.size).item hy
      obtain ⟨p0, hp0⟩ := hF.cell (i := j * 3) (by show _ < n * 3; omega)
      obtain ⟨p1, hp1⟩ := hF.cell (i := j * 3 + 1) (by show _ < n * 3; omega)
      obtain ⟨p2, hp2⟩ := hF.cell (i := j * 3 + 2) (by show _ < n * 3; omega)
      have fG := hF.frozen
      have hGl := hF.lt
      rw [htn'] at htz
      have HY := Lib.hid (And.intro hy (And.intro htn' (And.intro hts' (And.intro w1 (And.intro w2 (And.intro hF hbi))))))
      clear hy htn' hts' w1 w2 hF hbi
      go_wp2_with (go_at_call 29
                   go_loud (skip
                            refine (copyItem_any y T' tn' tc' HY.out.2.1 _ (HY.out.2.2.1.below ((Below.refl _ _).alloc (Nat.le_refl _) _) (by simp)) htz).mono ?_
                            rintro e w5 ⟨T5, n5, c5, rfl, hn5, hl5, hm5, hs5, hb5⟩
                            obtain ⟨hcc, hff⟩ := bcell hb5
                            have q0 := (hcc w.heap.size (j * 3) (by simp; omega)).trans ((World.cell?_alloc_lt _ _ _ hGl).trans hp0)
                            have q1 := (hcc w.heap.size (j * 3 + 1) (by simp; omega)).trans ((World.cell?_alloc_lt _ _ _ hGl).trans hp1)
                            have q2 := (hcc w.heap.size (j * 3 + 2) (by simp; omega)).trans ((World.cell?_alloc_lt _ _ _ hGl).trans hp2)
                            have fz : ∀ o, w5.frozen? ⟨w.heap.size, o, none⟩ = false := by (intro o; rw [hff w.heap.size o (by simp; omega)]; exact (World.frozen?_alloc_past _ w.heap.size o hGl).trans (fG o))
                            have H5 := Lib.hid (And.intro hn5 (And.intro hl5 (And.intro hm5 (And.intro hs5 hb5))))
                            clear hcc hff hn5 hl5 hm5 hs5 hb5))
      have H9 := Lib.hid (fun w6 => item_round (B := w.heap.size) (w0 := w) (W := wi.alloc (.cells #[.int .i64 y.sq, .slice T' tn' tc', .int .i64 y.tm] 38)) HY.out.2.2.2.2.2.1 HY.out.1 HX.out.1 hlt ((Below.refl wi.heap.size wi).alloc (Nat.le_refl _) _) H5.out.2.2.2.2 H5.out.2.2.2.1 HY.out.2.2.2.1 HY.out.2.2.2.2.1 H5.out.1 H5.out.2.1 H5.out.2.2.1 (Nat.le_refl _) HY.out.2.2.2.2.2.2 w6)
      clear q0 q1 q2 fz
      go_roundw
      case measure => simp [intOf]; omega
      case rel => exact H9.out _ rfl
    · have hF' := hF
      rw [List.take_of_length_le (by rw [HX.out.1]; omega)] at hF'
      have HF := Lib.hid (And.intro hF' hbi)
      clear hF hF' hbi
      go_wp2
      go_ret
      exact ⟨_, n, n, rfl, HX.out.1, OwnX.ofFill HF.out.1 HX.out.1 (by simp only [maxLen]; omega) (fun k hk => ⟨by have := hk.1; omega, hk.2, fun h => h, by have := hk.1; omega⟩) (Nat.le_refl _) (fun h => h), HF.out.2⟩
end Go.Proofs.Ytalieakmjkmbbaa
