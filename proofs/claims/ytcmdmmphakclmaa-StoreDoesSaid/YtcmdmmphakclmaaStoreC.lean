/-
  copyLetter, copyOf: what they make shares nothing with what came in.
-/
import Derived.Test.YtcmdmmphakclmaaStoreB
import Derived.Test.YtcmdmmphakclmaaFill
import Derived.Deep.RegionHeld3
import Derived.Deep.DeepCutAuto
import Derived.Deep.MidRow
namespace Go.Proofs.Ytcmdmmphakclmaa
open Go.RowKit Go.Sort
set_option linter.unusedVariables false

theorem Sl.set {α : Type} {R : Rdr α} {w : World} {S : Nat → Prop} {A : Option Addr} {xs : List α} (h : Sl R w S A xs) {p : Addr} (hp : ¬ S p.block) (u : Value) : Sl R (w.setCell p u) S A xs :=
  h.keep (fun q hq => World.cell?_setCell_other w p q u (fun e => hp (by subst e; exact hq))) fun _ h => h
theorem Sl.more {α : Type} {R : Rdr α} {w : World} {S S' : Nat → Prop} {A : Option Addr} {xs : List α} (h : Sl R w S A xs) (hs : ∀ b, S b → S' b) : Sl R w S' A xs := h.keep (fun _ _ => rfl) hs
theorem size_lt : (Try.prog.info? 34).map (·.size) = some 5 := by kernel_rfl
/-- A letter of one's own. -/
def LetPost (l : Lt) (w : World) (e : Ending) (w' : World) : Prop :=
  ∃ (T : Option Addr) (n c : Nat), e = .returned (.agg #[.bool l.cover, .int .i64 l.fr, .int .i64 l.to, .int .u64 l.sq, .slice T n c]) ∧ l.text.length = n ∧ n ≤ c ∧ c ≤ maxLen ∧ Sl (Rint .u8) w' (mid w.heap.size w'.heap.size) T l.text ∧ Below w.heap.size w w'
set_option maxHeartbeats 1000000 in
theorem copyLetter_any (l : Lt) (T : Option Addr) (n c : Nat) (hn : l.text.length = n) (w : World) (h : Sl (Rint .u8) w (lo w.heap.size) T l.text) (hz : n ≤ 140737488355328) :
    Calls Try.prog 25 #[.agg #[.bool l.cover, .int .i64 l.fr, .int .i64 l.to, .int .u64 l.sq, .slice T n c]] w (LetPost l w) := by
  have hb0 : Below w.heap.size w ((w.alloc (.cells #[.bool l.cover, .int .i64 l.fr, .int .i64 l.to, .int .u64 l.sq, .slice T n c] 34)).alloc (.cells #[.bool false, .int .i64 0, .int .i64 0, .int .u64 0, .slice none 0 0] 34)) := ((Below.refl _ _).alloc (Nat.le_refl _) _).alloc (by simp) _
  have h0 := h.below hb0 hb0.size
  have HH := Lib.hid (And.intro hb0 (And.intro h0 hn)); clear hb0 h0 hn h
  go_enter Try.func25, Try.ntmps25
  go_wp2_with (go_at_call 31; refine (cloneB_any T l.text n c HH.out.2.2 _ HH.out.2.1 (by omega)).mono ?_; rintro e w1 ⟨T1, n1, c1, rfl, hn1, hl1, hm1, hs1, hb1⟩
               have gB := ((Blk.new w 34 #[.bool l.cover, .int .i64 l.fr, .int .i64 l.to, .int .u64 l.sq, .slice T n c] rfl).alloc (.cells #[.bool false, .int .i64 0, .int .i64 0, .int .u64 0, .slice none 0 0] 34)).below hb1 (by simp; omega)
               have gR := (Blk.new (w.alloc (.cells #[.bool l.cover, .int .i64 l.fr, .int .i64 l.to, .int .u64 l.sq, .slice T n c] 34)) 34 #[.bool false, .int .i64 0, .int .i64 0, .int .u64 0, .slice none 0 0] (g := w.heap.size + 1) (by simp)).below hb1 (by simp)
               have HN1 := Lib.hid hn1
               have b0 := gB.cell 0 (v := .bool l.cover) rfl; have b1 := gB.cell 1 (v := .int .i64 l.fr) rfl; have b2 := gB.cell 2 (v := .int .i64 l.to) rfl; have b3 := gB.cell 3 (v := .int .u64 l.sq) rfl; have b4 := gB.cell 4 (v := .slice T n c) rfl
               have r0 := gR.cell 0 (v := .bool false) rfl; have r1 := gR.cell 1 (v := .int .i64 0) rfl; have r2 := gR.cell 2 (v := .int .i64 0) rfl; have r3 := gR.cell 3 (v := .int .u64 0) rfl; have r4 := gR.cell 4 (v := .slice none 0 0) rfl
               have fB := gB.frozen; have fR := gR.frozen
               clear hn1 gB gR)
  have hbw : Below w.heap.size w w1 := HH.out.1.trans (hb1.mono HH.out.1.size)
  have hs2 : Sl (Rint .u8) w1 (mid (w.heap.size + 2) w1.heap.size) T1 l.text := hs1.more fun b hb => ⟨by have := hb.1; simp at this; omega, hb.2⟩
  refine bodyPost_ret (v := .agg #[.bool l.cover, .int .i64 l.fr, .int .i64 l.to, .int .u64 l.sq, .slice T1 n1 c1]) (by simp [results, Try.results25, go_sem, r0, r1, r2, r3, r4]) rfl ?_
  refine ⟨T1, n1, c1, rfl, HN1.out, hl1, hm1, ?_, ?_⟩
  · refine Sl.more ((((((hs2.set ?_ _).set ?_ _).set ?_ _).set ?_ _).set ?_ _).set ?_ _) (fun b hb => ⟨by have := hb.1; omega, by have := hb.2; simpa using this⟩)
    all_goals (intro hm; have h9 : w.heap.size + 2 ≤ _ := hm.1; dsimp only at h9; omega)
  · exact (((((hbw.setCell (by simp) _).setCell (by simp) _).setCell (by simp) _).setCell (by simp) _).setCell (by simp) _).setCell (by simp) _

/-! ### copyOf -/
theorem ei_u64s : EI Try.prog 25 22 1 8 := .mk' (.int .u64 0) Try.underlying25 (by decide) rfl (by kernel_rfl)
theorem ei_boxes : EI Try.prog 26 23 1 24 := .mk' (.slice none 0 0) Try.underlying26 (by decide) rfl (by kernel_rfl)
theorem ei_letters : EI Try.prog 23 34 5 56 := .mk' (.agg #[.bool false, .int .i64 0, .int .i64 0, .int .u64 0, .slice none 0 0]) Try.underlying23 (by decide) rfl (by kernel_rfl)
/-- A copy in a row of its own. -/
def CloneOwn {α : Type} (R : Rdr α) (t : TypeId) (xs : List α) (w : World) (e : Ending) (w' : World) : Prop :=
  ∃ (h n c : Nat), e = .returned (.slice (some ⟨h, 0, none⟩) n c) ∧ xs.length = n ∧ n ≤ c ∧ c ≤ maxLen ∧ Fill R w' NoS h t c xs ∧ w.heap.size ≤ h ∧ Below w.heap.size w w'
set_option maxHeartbeats 400000 in
theorem cloneU_own (A : Option Addr) (xs : List Int) (n c : Nat) (hn : xs.length = n) (w : World) (h : Sl (Rint .u64) w (lo w.heap.size) A xs) (hz : n * 8 ≤ 140737488355328) (h0 : 0 < xs.length) :
    Calls Try.prog 29 #[.slice A n c] w (CloneOwn (Rint .u64) 22 xs w) := by
  obtain ⟨news, he, hc⟩ := h.inRow
  have HN := Lib.hid hn; have H0 := Lib.hid h0; clear hn
  have hnil := Lib.run_eql_slice_nil (P := Try.prog) w 25 22 A n c 0 0 Try.underlying25
  obtain ⟨a0, rfl⟩ : ∃ a0 : Addr, A = some a0 := by (obtain ⟨b0, off0, _, hA, _⟩ := h 0 _ (List.getElem?_eq_getElem h0); exact ⟨_, hA⟩)
  clear h h0
  go_enter Try.func29, Try.ntmps29
  go_wp2_with (at_builtin
               refine wpList_append_own' _ rfl (.tmp 5) (.tmp 6) _ rfl ei_u64s _ rfl (Own.empty (Rint .u64) NoS (Blk.new w _ #[] rfl) (Nat.le_refl _)) (fun _ h => h.elim) (some _) n c rfl HN.out (hc.up ((Below.refl _ _).alloc (Nat.le_refl _) _)) he.flat (by simp; omega) (by simp [maxLen]; omega) (by simp) ?_
               intro v1 w1 hown1 hg1 hat1
               have hb1 : Below w.heap.size w w1 := ((Below.refl _ _).alloc (Nat.le_refl _) _).grown hg1 (by simp) (fun g hg => Nat.le_of_eq (Option.some.inj hg))
               obtain ⟨g1, c1, rfl, hbg, hl1, hm1, hf1⟩ := hown1.fill (by have := H0.out; simpa using this)
               have HF := Lib.hid hf1
               clear hat1 hg1 hown1 hf1)
  go_ret
  exact ⟨g1, _, c1, rfl, by simp, hl1, hm1, by simpa using HF.out, hbg, hb1⟩
/-- What a store's sizes are. -/
structure StFit (K : Nat) (s : St) : Prop where
  last : s.last.length * 8 ≤ K
  boxes : s.boxes.length * 24 ≤ K
  box : ∀ b ∈ s.boxes, b.length * 56 ≤ K
  text : ∀ b ∈ s.boxes, ∀ l ∈ b, l.text.length ≤ K

/-- Behind the copy's own row and its variable. -/
def Cut1 (W : World) (xs : List Int) (mk1 : Array Value) (m : Nat) (h n1 c1 v g : Nat) (wx : World) : Prop :=
  Blk wx v 28 #[.slice (some ⟨h, 0, none⟩) n1 c1, .slice (some ⟨g, 0, none⟩) m m] ∧ Blk wx g 23 mk1 ∧ W.heap.size ≤ g ∧ W.heap.size ≤ v ∧ g ≠ v ∧ W.heap.size ≤ h ∧ h ≠ g ∧ h ≠ v ∧
    Fill (Rint .u64) wx NoS h 22 c1 xs ∧ Below W.heap.size W wx
section
variable {W w1 : World} {xs : List Int} {mk1 : Array Value} {m n1 c1 h : Nat}
theorem cut1_a (hb : Below W.drew.heap.size W.drew w1) (hh : W.drew.heap.size ≤ h) (hs : Fill (Rint .u64) w1 NoS h 22 c1 xs) : Cut1 W xs mk1 m h n1 c1 (w1.heap.size + 1) (w1.heap.size) ((w1.alloc (.cells mk1 23)).alloc (.cells #[.slice (some ⟨h, 0, none⟩) n1 c1, .slice (some ⟨w1.heap.size, 0, none⟩) m m] 28)) := by
  replace hb : Below W.heap.size W w1 := ((Below.refl _ _).drew).trans hb
  have hz := hb.size; have hlt := hs.lt; (try simp at hz); (try simp at hh)
  exact ⟨Blk.new _ _ _ (by simp), (Blk.new _ _ _ rfl).alloc _, (by omega), (by omega), (by omega), (by omega), (by omega), (by omega), (hs.alloc (fun _ h => h.elim) _).alloc (fun _ h => h.elim) _, (hb.alloc (by omega) _).alloc (by simp; omega) _⟩
theorem cut1_b (hb : Below W.drew.heap.size W.drew w1) (hh : W.drew.heap.size ≤ h) (hs : Fill (Rint .u64) w1 NoS h 22 c1 xs) : Cut1 W xs mk1 m h n1 c1 (w1.heap.size) (w1.heap.size + 1) ((w1.alloc (.cells #[.slice (some ⟨h, 0, none⟩) n1 c1, .slice (some ⟨w1.heap.size + 1, 0, none⟩) m m] 28)).alloc (.cells mk1 23)) := by
  replace hb : Below W.heap.size W w1 := ((Below.refl _ _).drew).trans hb
  have hz := hb.size; have hlt := hs.lt; (try simp at hz); (try simp at hh)
  exact ⟨(Blk.new _ _ _ rfl).alloc _, Blk.new _ _ _ (by simp), (by omega), (by omega), (by omega), (by omega), (by omega), (by omega), (hs.alloc (fun _ h => h.elim) _).alloc (fun _ h => h.elim) _, (hb.alloc (by omega) _).alloc (by simp; omega) _⟩
theorem cut1_c {H : Nat} (hH : H = W.heap.size) (hb : Below (W.alloc (.cells mk1 23)).drew.heap.size (W.alloc (.cells mk1 23)).drew w1) (hh : (W.alloc (.cells mk1 23)).drew.heap.size ≤ h) (hs : Fill (Rint .u64) w1 NoS h 22 c1 xs) : Cut1 W xs mk1 m h n1 c1 (w1.heap.size) (H) (w1.alloc (.cells #[.slice (some ⟨h, 0, none⟩) n1 c1, .slice (some ⟨H, 0, none⟩) m m] 28)) := by
  subst hH
  replace hb := ((Below.refl _ _).drew).trans hb
  have hz := hb.size; have hlt := hs.lt; (try simp at hz); (try simp at hh)
  exact ⟨Blk.new _ _ _ rfl, ((Blk.new W _ mk1 rfl).below hb (by simp)).alloc _, (by omega), (by omega), (by omega), (by omega), (by omega), (by omega), hs.alloc (fun _ h => h.elim) _, (((Below.refl _ _).alloc (Nat.le_refl _) _).trans (hb.mono (by simp))).alloc (by omega) _⟩
theorem cut1_d {H : Nat} (hH : H = W.heap.size) (hb : Below ((W.alloc (.cells mk1 23)).alloc (.cells #[.slice none 0 0, .slice none 0 0] 28)).drew.heap.size ((W.alloc (.cells mk1 23)).alloc (.cells #[.slice none 0 0, .slice none 0 0] 28)).drew w1) (hh : ((W.alloc (.cells mk1 23)).alloc (.cells #[.slice none 0 0, .slice none 0 0] 28)).drew.heap.size ≤ h) (hs : Fill (Rint .u64) w1 NoS h 22 c1 xs) : Cut1 W xs mk1 m h n1 c1 (H + 1) (H) (((w1.setCell ⟨H + 1, 0, none⟩ (.slice (some ⟨h, 0, none⟩) n1 c1)).setCell ⟨H + 1, 1, none⟩ (.slice (some ⟨H, 0, none⟩) m m))) := by
  subst hH
  replace hb := ((Below.refl _ _).drew).trans hb
  have hz := hb.size; have hlt := hs.lt; (try simp at hz); (try simp at hh)
  exact ⟨(((Blk.new _ _ _ (by simp)).below hb (by simp)).set 0 _).set 1 _, ((((Blk.new W _ mk1 rfl).alloc _).below hb (by simp; omega)).far (by simp) _).far (by simp) _, (by omega), (by omega), (by omega), (by omega), (by omega), (by omega), ((hs.far (by simp; omega) (fun h => h) _).far (by simp; omega) (fun h => h) _), (((((Below.refl _ _).alloc (Nat.le_refl _) _).alloc (by simp) _).trans (hb.mono (by simp; omega))).setCell (by simp) _).setCell (by simp) _⟩
theorem cut1_e {H : Nat} (hH : H = W.heap.size) (hb : Below (W.alloc (.cells #[.slice none 0 0, .slice none 0 0] 28)).drew.heap.size (W.alloc (.cells #[.slice none 0 0, .slice none 0 0] 28)).drew w1) (hh : (W.alloc (.cells #[.slice none 0 0, .slice none 0 0] 28)).drew.heap.size ≤ h) (hs : Fill (Rint .u64) w1 NoS h 22 c1 xs) : Cut1 W xs mk1 m h n1 c1 (H) (w1.heap.size) (((w1.setCell ⟨H, 0, none⟩ (.slice (some ⟨h, 0, none⟩) n1 c1)).setCell ⟨H, 1, none⟩ (.slice (some ⟨w1.heap.size, 0, none⟩) m m)).alloc (.cells mk1 23)) := by
  subst hH
  replace hb := ((Below.refl _ _).drew).trans hb
  have hz := hb.size; have hlt := hs.lt; (try simp at hz); (try simp at hh)
  exact ⟨((((Blk.new W _ _ rfl).below hb (by simp)).set 0 _).set 1 _).alloc _, Blk.new _ _ _ (by simp [World.setCell]), (by omega), (by omega), (by omega), (by omega), (by omega), (by omega), ((hs.far (by simp; omega) (fun h => h) _).far (by simp; omega) (fun h => h) _).alloc (fun _ h => h.elim) _, (((((Below.refl _ _).alloc (Nat.le_refl _) _).trans (hb.mono (by simp))).setCell (by simp) _).setCell (by simp) _).alloc (by simp [World.setCell]; omega) _⟩
theorem cut1_f {H : Nat} (hH : H = W.heap.size) (hb : Below ((W.alloc (.cells #[.slice none 0 0, .slice none 0 0] 28)).alloc (.cells mk1 23)).drew.heap.size ((W.alloc (.cells #[.slice none 0 0, .slice none 0 0] 28)).alloc (.cells mk1 23)).drew w1) (hh : ((W.alloc (.cells #[.slice none 0 0, .slice none 0 0] 28)).alloc (.cells mk1 23)).drew.heap.size ≤ h) (hs : Fill (Rint .u64) w1 NoS h 22 c1 xs) : Cut1 W xs mk1 m h n1 c1 (H) (H + 1) (((w1.setCell ⟨H, 0, none⟩ (.slice (some ⟨h, 0, none⟩) n1 c1)).setCell ⟨H, 1, none⟩ (.slice (some ⟨H + 1, 0, none⟩) m m))) := by
  subst hH
  replace hb := ((Below.refl _ _).drew).trans hb
  have hz := hb.size; have hlt := hs.lt; (try simp at hz); (try simp at hh)
  exact ⟨((((Blk.new W _ _ rfl).alloc _).below hb (by simp; omega)).set 0 _).set 1 _, (((Blk.new _ _ mk1 (by simp)).below hb (by simp)).far (by simp) _).far (by simp) _, (by omega), (by omega), (by omega), (by omega), (by omega), (by omega), ((hs.far (by simp; omega) (fun h => h) _).far (by simp; omega) (fun h => h) _), (((((Below.refl _ _).alloc (Nat.le_refl _) _).alloc (by simp) _).trans (hb.mono (by simp; omega))).setCell (by simp) _).setCell (by simp) _⟩
end
theorem heap_alloc2 (w : World) (o o' : Obj) : ((w.alloc o).alloc o').heap.size = w.heap.size + 2 := by simp
end Go.Proofs.Ytcmdmmphakclmaa
