/-
  Put: what a store is behind it.
-/
import Derived.Test.YtcmdmmphakclmaaStoreD
import Derived.Deep.DrawnRows
import Derived.Deep.RegionLawGrows
namespace Go.Proofs.Ytcmdmmphakclmaa
open Go.RowKit Go.Sort
set_option linter.unusedVariables false
attribute [local go_sem ↓] Go.wp_at_zero Go.wp_at_succ

/-- The three blocks that Put lays first. -/
theorem mem3 {w w1 : World} {s0 s1 l0 l1 l2 l3 l4 : Value} {B : Nat} (hb : Below B (((w.alloc (.cells #[s0, s1] 28)).alloc (.cells #[l0, l1, l2, l3, l4] 34)).alloc (.cells #[.slice none 0 0, .slice none 0 0] 28)) w1) (hB : B = w.heap.size + 3) :
    Blk w1 w.heap.size 28 #[s0, s1] ∧ Blk w1 (w.heap.size + 1) 34 #[l0, l1, l2, l3, l4] ∧ Blk w1 (w.heap.size + 2) 28 #[.slice none 0 0, .slice none 0 0] := by
  subst hB
  exact ⟨(((Blk.new _ _ _ rfl).alloc _).alloc _).below hb (by omega), ((Blk.new _ _ _ (by simp)).alloc _).below hb (by omega), (Blk.new _ _ _ (by simp)).below hb (by omega)⟩
def W3 (w : World) (s0 s1 l0 l1 l2 l3 l4 : Value) : World := ((w.alloc (.cells #[s0, s1] 28)).alloc (.cells #[l0, l1, l2, l3, l4] 34)).alloc (.cells #[.slice none 0 0, .slice none 0 0] 28)
theorem W3.size (w : World) (s0 s1 l0 l1 l2 l3 l4 : Value) : (W3 w s0 s1 l0 l1 l2 l3 l4).heap.size = w.heap.size + 3 := by simp [W3]
theorem W3.below (w : World) (s0 s1 l0 l1 l2 l3 l4 : Value) : Below w.heap.size w (W3 w s0 s1 l0 l1 l2 l3 l4) := (((Below.refl _ _).alloc (Nat.le_refl _) _).alloc (by simp) _).alloc (by simp; omega) _

/-! ### what Put comes to -/
def lastOf (s : St) (i : Int) : Int := s.last.getD i.toNat 0
def boxOf (s : St) (i : Int) : List Lt := s.boxes.getD i.toNat []
/-- The store with the letter in it. -/
def putIn (s : St) (l : Lt) : St := { last := s.last.set l.fr.toNat l.sq, boxes := s.boxes.set l.to.toNat (boxOf s l.to ++ [l]) }
def putS (s : St) (l : Lt) : St × Int :=
  if keepLt l = true ∧ l.fr < s.last.length ∧ l.to < s.last.length then
    if l.sq ≤ lastOf s l.fr then (s, 1) else if l.sq - lastOf s l.fr = 1 then (putIn s l, 1) else (s, 0)
  else (s, 0)
def noSt : St := { last := [], boxes := [] }
/-- A store, a number, an error. -/
def StoreRet (s : St) (c e : Int) (w : World) (en : Ending) (w' : World) : Prop :=
  ∃ A n cap B m cap', en = .returned (.tuple #[.agg #[.slice A n cap, .slice B m cap'], .int .u8 c, .int .i64 e]) ∧ StAt w' (mid w.heap.size w'.heap.size) A n B m s ∧ n ≤ cap ∧ cap ≤ maxLen ∧ m ≤ cap' ∧ cap' ≤ maxLen ∧ Below w.heap.size w w'
theorem StAt.none (w : World) (S : Nat → Prop) : StAt w S none 0 none 0 noSt := ⟨Sl.nil _ _ _ _, rfl, Sl.nil _ _ _ _, rfl⟩
theorem Sl.imp {α : Type} {R Q : Rdr α} {w : World} {S : Nat → Prop} {A : Option Addr} {xs : List α} (h : Sl R w S A xs) (hsz : R.size = Q.size) (hi : ∀ x cs, R.rd w S x cs → Q.rd w S x cs) : Sl Q w S A xs := by
  intro i x hx
  obtain ⟨b, off, cs, hA, hb, hr, hc⟩ := h i x hx
  exact ⟨b, off, cs, hA, hb, hi _ _ hr, by rw [← hsz]; exact hc⟩
/-- A copy, read as a store. -/
theorem next_at {w : World} {S S' : Nat → Prop} {h g n c m : Nat} {t1 t2 : TypeId} {s : St} (hL : Fill (Rint .u64) w NoS h t1 c s.last) (hn : s.last.length = n) (hB : Fill (Rfull 56 Rlt) w S g t2 m s.boxes) (hm : s.boxes.length = m) (hS : ∀ b, S b → S' b) (hh : S' h) (hg : S' g) :
    StAt w S' (some ⟨h, 0, none⟩) n (some ⟨g, 0, none⟩) m s := by
  refine ⟨hL.sl (fun _ h => h.elim) hh, hn, (hB.sl hS hg).imp rfl ?_, hm⟩
  rintro x cs ⟨G, rfl, hl, hs⟩
  exact ⟨_, _, rfl, Nat.le_refl _, hl, hs⟩
theorem StAt.lo {w : World} {a : Nat} {A : Option Addr} {n : Nat} {B : Option Addr} {m : Nat} {s : St} (h : StAt w (mid a w.heap.size) A n B m s) : StAt w (Proofs.Ytcmdmmphakclmaa.lo w.heap.size) A n B m s :=
  ⟨h.last.keep (fun _ _ => rfl) fun _ h => h.2, h.lastN, h.boxes.keep (fun _ _ => rfl) fun _ h => h.2, h.boxesN⟩
/-- Behind the copy and mayKeep: the copy's two rows, as they stand. -/
theorem put_frame {w w1 w2 w3 : World} {o : Obj} {W0 : World} {h g c m : Nat} {t1 t2 : TypeId} {s : St} (h0 : Below w.heap.size w W0) (z0 : W0.heap.size = w.heap.size + 3) (hb1 : Below (w.heap.size + 3) W0 w1) (hb2 : Below w1.heap.size w1 w2) (hb3 : Below (w2.alloc o).heap.size (w2.alloc o) w3)
    (hL : Fill (Rint .u64) w2 NoS h t1 c s.last) (hB : Fill (Rfull 56 Rlt) w2 (fun b => w1.heap.size ≤ b ∧ b < w2.heap.size ∧ b ≠ g ∧ b ≠ h) g t2 m s.boxes) :
    Fill (Rint .u64) w3 NoS h t1 c s.last ∧ Fill (Rfull 56 Rlt) w3 (fun b => w1.heap.size ≤ b ∧ b < w2.heap.size ∧ b ≠ g ∧ b ≠ h) g t2 m s.boxes ∧ Below w.heap.size w w3 := by
  have hz := hb1.size
  have hz2 := hb2.size
  have hz3 := hb3.size
  have b23 : Below w2.heap.size w2 w3 := ((Below.refl _ _).alloc (Nat.le_refl _) _).trans (hb3.mono (by simp))
  exact ⟨hL.up b23 (fun _ h => h.elim) (fun _ h => h), hB.up b23 (fun b h => h.2.1) (fun b h => h), h0.trans ((hb1.mono (by omega)).trans ((hb2.mono (by omega)).trans (b23.mono (by omega))))⟩
theorem hLast_lt {α : Type} {R : Rdr α} {w : World} {S : Nat → Prop} {g : Nat} {t : TypeId} {n : Nat} {xs : List α} (h : Fill R w S g t n xs) : g < w.heap.size := h.lt

set_option maxHeartbeats 1000000 in
theorem put_bad (A : Option Addr) (n cap : Nat) (B : Option Addr) (m cap' : Nat) (s : St) (l : Lt) (T : Option Addr) (tn tc : Nat) (w : World) (hs : StAt w (lo w.heap.size) A n B m s) (hc : checkB s = false) :
    Calls Try.prog 11 #[.agg #[.slice A n cap, .slice B m cap'], .agg #[.bool l.cover, .int .i64 l.fr, .int .i64 l.to, .int .u64 l.sq, .slice T tn tc]] w (StoreRet noSt 0 1 w) := by
  have HC := Lib.hid (show errArg (checkB s) = 1 by rw [hc]; rfl); clear hc
  have HS := Lib.hid (hs.below (W3.below w (.slice A n cap) (.slice B m cap') (.bool l.cover) (.int .i64 l.fr) (.int .i64 l.to) (.int .u64 l.sq) (.slice T tn tc)) (W3.below w (.slice A n cap) (.slice B m cap') (.bool l.cover) (.int .i64 l.fr) (.int .i64 l.to) (.int .u64 l.sq) (.slice T tn tc)).size); clear hs
  go_enter Try.func11, Try.ntmps11
  go_wp2_with (go_at_call 15; refine (check_any A n cap B m cap' s _ HS.out).mono ?_; rintro e w1 ⟨rfl, hb1⟩; rw [HC.out]
               obtain ⟨gS, gL, gR⟩ := mem3 hb1 (W3.size _ _ _ _ _ _ _ _)
               have r0 := gR.cell 0 (v := .slice none 0 0) rfl; have r1 := gR.cell 1 (v := .slice none 0 0) rfl; have fR := gR.frozen
               have HB1 := Lib.hid ((W3.below w (.slice A n cap) (.slice B m cap') (.bool l.cover) (.int .i64 l.fr) (.int .i64 l.to) (.int .u64 l.sq) (.slice T tn tc)).trans (hb1.mono (W3.below w (.slice A n cap) (.slice B m cap') (.bool l.cover) (.int .i64 l.fr) (.int .i64 l.to) (.int .u64 l.sq) (.slice T tn tc)).size))
               clear gS gL gR hb1)
  refine bodyPost_ret (v := .tuple #[.agg #[.slice none 0 0, .slice none 0 0], .int .u8 0, .int .i64 1]) (by simp [results, Try.results11, go_sem, r0, r1]) rfl ?_
  exact ⟨_, _, _, _, _, _, rfl, StAt.none _ _, by simp, by simp, by simp, by simp, (HB1.out.setCell (by simp; omega) _).setCell (by simp; omega) _⟩
set_option maxHeartbeats 1000000 in
theorem put_unkept (A : Option Addr) (n cap : Nat) (B : Option Addr) (m cap' : Nat) (s : St) (l : Lt) (T : Option Addr) (tn tc : Nat) (w : World) (hs : StAt w (lo w.heap.size) A n B m s) (hf : StFit 140737488355328 s) (hc : checkB s = true) (hpos : 0 < s.last.length)
    (hsq : 0 ≤ l.sq) (hk : keepL l.cover l.fr l.to l.sq tn = false) :
    Calls Try.prog 11 #[.agg #[.slice A n cap, .slice B m cap'], .agg #[.bool l.cover, .int .i64 l.fr, .int .i64 l.to, .int .u64 l.sq, .slice T tn tc]] w (StoreRet s 0 0 w) := by
  obtain ⟨hcl, hok⟩ : checkB s = true ∧ True := ⟨hc, trivial⟩
  have HC := Lib.hid (show errArg (checkB s) = 0 by rw [hc]; rfl); clear hc hcl hok
  have HS := Lib.hid (hs.below (W3.below w (.slice A n cap) (.slice B m cap') (.bool l.cover) (.int .i64 l.fr) (.int .i64 l.to) (.int .u64 l.sq) (.slice T tn tc)) (W3.below w (.slice A n cap) (.slice B m cap') (.bool l.cover) (.int .i64 l.fr) (.int .i64 l.to) (.int .u64 l.sq) (.slice T tn tc)).size); clear hs
  have HF := Lib.hid hf; clear hf
  have HP := Lib.hid hpos; clear hpos
  have HSQ := Lib.hid hsq; have HK := Lib.hid hk; clear hk
  go_enter Try.func11, Try.ntmps11
  go_wp2_with (first
    | (go_at_call 15
       go_loud (skip
                refine (check_any A n cap B m cap' s _ HS.out).mono ?_; rintro e w1 ⟨rfl, hb1⟩; rw [HC.out]
                have HB1 := Lib.hid (show Below (w.heap.size + 3) (W3 w (.slice A n cap) (.slice B m cap') (.bool l.cover) (.int .i64 l.fr) (.int .i64 l.to) (.int .u64 l.sq) (.slice T tn tc)) w1 from by have := hb1; rw [← W3.size w (.slice A n cap) (.slice B m cap') (.bool l.cover) (.int .i64 l.fr) (.int .i64 l.to) (.int .u64 l.sq) (.slice T tn tc)]; exact hb1)
                have z1 : w.heap.size + 3 ≤ w1.heap.size := by (have h9 := HB1.out.size; rw [W3.size] at h9; omega)
                obtain ⟨gS, gL, gR⟩ := mem3 HB1.out rfl
                have a0 := gS.cell 0 (v := .slice A n cap) rfl; have a1 := gS.cell 1 (v := .slice B m cap') rfl
                have HM1 := Lib.hid (And.intro gS (And.intro gL gR))
                clear gS gL gR hb1
                skip))
    | (go_at_call 23
       go_loud (skip
                refine (copyOf_any A n cap B m cap' s w1 (HS.out.below (show Below _ _ w1 from by rw [W3.size]; exact HB1.out) (by rw [W3.size]; exact z1)) HF.out HP.out).mono ?_; rintro e w2 ⟨h, n2, c2, g, m2, rfl, hn2, hc2, hcm, hm2, hmm, hH, hG, hhg, hLast, hBox, hb2⟩
                obtain rfl : n2 = n := hn2.symm.trans HS.out.lastN
                obtain rfl : m2 = m := hm2.symm.trans HS.out.boxesN
                have z2 : w.heap.size + 3 ≤ w2.heap.size := by (have := hb2.size; omega)
                have zA : w.heap.size < w2.heap.size := by omega
                have zB : w.heap.size + 1 < w2.heap.size := by omega
                have zC : w.heap.size + 1 + 1 < w2.heap.size := by omega
                have g2 := (And.intro (HM1.out.1.below hb2 (by omega)) (And.intro (HM1.out.2.1.below hb2 (by omega)) (HM1.out.2.2.below hb2 (by omega))))
                clear a0 a1
                have a0 := g2.1.cell 0 (v := .slice A n2 cap) rfl; have a1 := g2.1.cell 1 (v := .slice B m2 cap') rfl
                have l0 := g2.2.1.cell 0 (v := .bool l.cover) rfl; have l1 := g2.2.1.cell 1 (v := .int .i64 l.fr) rfl; have l2 := g2.2.1.cell 2 (v := .int .i64 l.to) rfl; have l3 := g2.2.1.cell 3 (v := .int .u64 l.sq) rfl; have l4 := g2.2.1.cell 4 (v := .slice T tn tc) rfl
                have HM2 := Lib.hid g2
                have HX := Lib.hid (And.intro hn2 (And.intro hc2 (And.intro hcm (And.intro hm2 (And.intro hmm (And.intro hLast (And.intro hBox hb2)))))))
                have HQ := Lib.hid (And.intro hH (And.intro hG hhg))
                clear g2 hn2 hc2 hcm hm2 hmm hLast hBox hb2 HM1 hH hG hhg
                skip))
    | (go_at_call 24
       go_loud (skip
                refine (keep_any l.cover l.fr l.to l.sq HSQ.out T tn tc _).mono ?_; rintro e w3 ⟨rfl, hb3⟩; rw [HK.out]
                have z3 : w2.heap.size < w3.heap.size := by (have := hb3.size; simp at this; omega)
                have g3 := And.intro ((HM2.out.1.alloc _).below hb3 (by simp; omega)) (And.intro ((HM2.out.2.1.alloc _).below hb3 (by simp; omega)) (And.intro ((HM2.out.2.2.alloc _).below hb3 (by simp; omega)) ((Blk.new w2 28 #[.slice (some ⟨h, 0, none⟩) n2 c2, .slice (some ⟨g, 0, none⟩) m2 m2] rfl).below hb3 (by simp))))
                clear a0 a1 l0 l1 l2 l3 l4
                have a0 := g3.1.cell 0 (v := .slice A n2 cap) rfl; have a1 := g3.1.cell 1 (v := .slice B m2 cap') rfl
                have l0 := g3.2.1.cell 0 (v := .bool l.cover) rfl; have l1 := g3.2.1.cell 1 (v := .int .i64 l.fr) rfl; have l2 := g3.2.1.cell 2 (v := .int .i64 l.to) rfl; have l3 := g3.2.1.cell 3 (v := .int .u64 l.sq) rfl; have l4 := g3.2.1.cell 4 (v := .slice T tn tc) rfl
                have r0 := g3.2.2.1.cell 0 (v := .slice none 0 0) rfl; have r1 := g3.2.2.1.cell 1 (v := .slice none 0 0) rfl; have fR := g3.2.2.1.frozen
                have x0 := g3.2.2.2.cell 0 (v := .slice (some ⟨h, 0, none⟩) n2 c2) rfl; have x1 := g3.2.2.2.cell 1 (v := .slice (some ⟨g, 0, none⟩) m2 m2) rfl
                have HM3 := Lib.hid g3; have HB3 := Lib.hid hb3
                clear g3 hb3 HM2
                skip)))
  refine bodyPost_ret (v := .tuple #[.agg #[.slice (some ⟨h, 0, none⟩) n2 c2, .slice (some ⟨g, 0, none⟩) m2 m2], .int .u8 0, .int .i64 0]) (by simp [results, Try.results11, go_sem, r0, r1]) rfl ?_
  obtain ⟨q1, q2, q3⟩ := put_frame (W3.below w _ _ _ _ _ _ _) (W3.size w _ _ _ _ _ _ _) HB1.out HX.out.2.2.2.2.2.2.2 HB3.out HX.out.2.2.2.2.2.1 HX.out.2.2.2.2.2.2.1
  have hq1 := HQ.out.1; have hq2 := HQ.out.2.1
  have y1 := hLast_lt q1; have y2 := q2.lt
  refine ⟨_, _, _, _, _, _, rfl, next_at ((q1.far (by simp; omega) (fun h => h) _).far (by simp; omega) (fun h => h) _) HX.out.1 ((q2.far (by simp; omega) (fun hb => by have := hb.1; simp at this; omega) _).far (by simp; omega) (fun hb => by have := hb.1; simp at this; omega) _) HX.out.2.2.2.1 (fun b hb => ⟨by have := hb.1; omega, by have := hb.2.1; simp [World.setCell]; omega⟩) ⟨by omega, by simp [World.setCell]; omega⟩ ⟨by omega, by simp [World.setCell]; omega⟩, HX.out.2.1, HX.out.2.2.1, Nat.le_refl _, HX.out.2.2.2.2.1, (q3.setCell (by simp; omega) _).setCell (by simp; omega) _⟩
set_option maxHeartbeats 1000000 in
theorem put_far1 (A : Option Addr) (n cap : Nat) (B : Option Addr) (m cap' : Nat) (s : St) (f t : Nat) (sq : Int) (T : Option Addr) (tn tc : Nat) (w : World) (hs : StAt w (lo w.heap.size) A n B m s) (hf : StFit 140737488355328 s) (hc : checkB s = true) (hpos : 0 < s.last.length)
    (hsq : 0 ≤ sq) (hk : keepL false (f : Int) (t : Int) sq tn = true) (d1 : decide (n ≤ f) = true) :
    Calls Try.prog 11 #[.agg #[.slice A n cap, .slice B m cap'], .agg #[.bool false, .int .i64 (f : Int), .int .i64 (t : Int), .int .u64 sq, .slice T tn tc]] w (StoreRet s 0 0 w) := by
  obtain ⟨hcl, hok⟩ : checkB s = true ∧ True := ⟨hc, trivial⟩
  have HC := Lib.hid (show errArg (checkB s) = 0 by rw [hc]; rfl); clear hc hcl hok
  have HS := Lib.hid (hs.below (W3.below w (.slice A n cap) (.slice B m cap') (.bool false) (.int .i64 (f:Int)) (.int .i64 (t:Int)) (.int .u64 sq) (.slice T tn tc)) (W3.below w (.slice A n cap) (.slice B m cap') (.bool false) (.int .i64 (f:Int)) (.int .i64 (t:Int)) (.int .u64 sq) (.slice T tn tc)).size); clear hs
  have HF := Lib.hid hf; clear hf
  have HP := Lib.hid hpos; clear hpos
  have HSQ := Lib.hid hsq; have HK := Lib.hid hk; clear hk
  go_enter Try.func11, Try.ntmps11
  go_wp2_with (first
    | (go_at_call 15
       go_loud (skip
                refine (check_any A n cap B m cap' s _ HS.out).mono ?_; rintro e w1 ⟨rfl, hb1⟩; rw [HC.out]
                have HB1 := Lib.hid (show Below (w.heap.size + 3) (W3 w (.slice A n cap) (.slice B m cap') (.bool false) (.int .i64 (f:Int)) (.int .i64 (t:Int)) (.int .u64 sq) (.slice T tn tc)) w1 from by have := hb1; rw [← W3.size w (.slice A n cap) (.slice B m cap') (.bool false) (.int .i64 (f:Int)) (.int .i64 (t:Int)) (.int .u64 sq) (.slice T tn tc)]; exact hb1)
                have z1 : w.heap.size + 3 ≤ w1.heap.size := by (have h9 := HB1.out.size; rw [W3.size] at h9; omega)
                obtain ⟨gS, gL, gR⟩ := mem3 HB1.out rfl
                have a0 := gS.cell 0 (v := .slice A n cap) rfl; have a1 := gS.cell 1 (v := .slice B m cap') rfl
                have HM1 := Lib.hid (And.intro gS (And.intro gL gR))
                clear gS gL gR hb1
                skip))
    | (go_at_call 23
       go_loud (skip
                refine (copyOf_any A n cap B m cap' s w1 (HS.out.below (show Below _ _ w1 from by rw [W3.size]; exact HB1.out) (by rw [W3.size]; exact z1)) HF.out HP.out).mono ?_; rintro e w2 ⟨h, n2, c2, g, m2, rfl, hn2, hc2, hcm, hm2, hmm, hH, hG, hhg, hLast, hBox, hb2⟩
                obtain rfl : n2 = n := hn2.symm.trans HS.out.lastN
                obtain rfl : m2 = m := hm2.symm.trans HS.out.boxesN
                have z2 : w.heap.size + 3 ≤ w2.heap.size := by (have := hb2.size; omega)
                have zA : w.heap.size < w2.heap.size := by omega
                have zB : w.heap.size + 1 < w2.heap.size := by omega
                have zC : w.heap.size + 1 + 1 < w2.heap.size := by omega
                have g2 := (And.intro (HM1.out.1.below hb2 (by omega)) (And.intro (HM1.out.2.1.below hb2 (by omega)) (HM1.out.2.2.below hb2 (by omega))))
                clear a0 a1
                have a0 := g2.1.cell 0 (v := .slice A n2 cap) rfl; have a1 := g2.1.cell 1 (v := .slice B m2 cap') rfl
                have l0 := g2.2.1.cell 0 (v := .bool false) rfl; have l1 := g2.2.1.cell 1 (v := .int .i64 (f:Int)) rfl; have l2 := g2.2.1.cell 2 (v := .int .i64 (t:Int)) rfl; have l3 := g2.2.1.cell 3 (v := .int .u64 sq) rfl; have l4 := g2.2.1.cell 4 (v := .slice T tn tc) rfl
                have HM2 := Lib.hid g2
                have HX := Lib.hid (And.intro hn2 (And.intro hc2 (And.intro hcm (And.intro hm2 (And.intro hmm (And.intro hLast (And.intro hBox hb2)))))))
                have HQ := Lib.hid (And.intro hH (And.intro hG hhg))
                clear g2 hn2 hc2 hcm hm2 hmm hLast hBox hb2 HM1 hH hG hhg
                skip))
    | (go_at_call 24
       go_loud (skip
                refine (keep_any false (f:Int) (t:Int) sq HSQ.out T tn tc _).mono ?_; rintro e w3 ⟨rfl, hb3⟩; rw [HK.out]
                have z3 : w2.heap.size < w3.heap.size := by (have := hb3.size; simp at this; omega)
                have g3 := And.intro ((HM2.out.1.alloc _).below hb3 (by simp; omega)) (And.intro ((HM2.out.2.1.alloc _).below hb3 (by simp; omega)) (And.intro ((HM2.out.2.2.alloc _).below hb3 (by simp; omega)) ((Blk.new w2 28 #[.slice (some ⟨h, 0, none⟩) n2 c2, .slice (some ⟨g, 0, none⟩) m2 m2] rfl).below hb3 (by simp))))
                clear a0 a1 l0 l1 l2 l3 l4
                have a0 := g3.1.cell 0 (v := .slice A n2 cap) rfl; have a1 := g3.1.cell 1 (v := .slice B m2 cap') rfl
                have l0 := g3.2.1.cell 0 (v := .bool false) rfl; have l1 := g3.2.1.cell 1 (v := .int .i64 (f:Int)) rfl; have l2 := g3.2.1.cell 2 (v := .int .i64 (t:Int)) rfl; have l3 := g3.2.1.cell 3 (v := .int .u64 sq) rfl; have l4 := g3.2.1.cell 4 (v := .slice T tn tc) rfl
                have r0 := g3.2.2.1.cell 0 (v := .slice none 0 0) rfl; have r1 := g3.2.2.1.cell 1 (v := .slice none 0 0) rfl; have fR := g3.2.2.1.frozen
                have x0 := g3.2.2.2.cell 0 (v := .slice (some ⟨h, 0, none⟩) n2 c2) rfl; have x1 := g3.2.2.2.cell 1 (v := .slice (some ⟨g, 0, none⟩) m2 m2) rfl
                have HM3 := Lib.hid g3; have HB3 := Lib.hid hb3
                clear g3 hb3 HM2
                skip)))
  refine bodyPost_ret (v := .tuple #[.agg #[.slice (some ⟨h, 0, none⟩) n2 c2, .slice (some ⟨g, 0, none⟩) m2 m2], .int .u8 0, .int .i64 0]) (by simp [results, Try.results11, go_sem, r0, r1]) rfl ?_
  obtain ⟨q1, q2, q3⟩ := put_frame (W3.below w _ _ _ _ _ _ _) (W3.size w _ _ _ _ _ _ _) HB1.out HX.out.2.2.2.2.2.2.2 HB3.out HX.out.2.2.2.2.2.1 HX.out.2.2.2.2.2.2.1
  have hq1 := HQ.out.1; have hq2 := HQ.out.2.1
  have y1 := hLast_lt q1; have y2 := q2.lt
  refine ⟨_, _, _, _, _, _, rfl, next_at ((q1.far (by simp; omega) (fun h => h) _).far (by simp; omega) (fun h => h) _) HX.out.1 ((q2.far (by simp; omega) (fun hb => by have := hb.1; simp at this; omega) _).far (by simp; omega) (fun hb => by have := hb.1; simp at this; omega) _) HX.out.2.2.2.1 (fun b hb => ⟨by have := hb.1; omega, by have := hb.2.1; simp [World.setCell]; omega⟩) ⟨by omega, by simp [World.setCell]; omega⟩ ⟨by omega, by simp [World.setCell]; omega⟩, HX.out.2.1, HX.out.2.2.1, Nat.le_refl _, HX.out.2.2.2.2.1, (q3.setCell (by simp; omega) _).setCell (by simp; omega) _⟩
set_option maxHeartbeats 1000000 in
theorem put_far2 (A : Option Addr) (n cap : Nat) (B : Option Addr) (m cap' : Nat) (s : St) (f t : Nat) (sq : Int) (T : Option Addr) (tn tc : Nat) (w : World) (hs : StAt w (lo w.heap.size) A n B m s) (hf : StFit 140737488355328 s) (hc : checkB s = true) (hpos : 0 < s.last.length)
    (hsq : 0 ≤ sq) (hk : keepL false (f : Int) (t : Int) sq tn = true) (d1 : decide (n ≤ f) = false) (d2 : decide (n ≤ t) = true) :
    Calls Try.prog 11 #[.agg #[.slice A n cap, .slice B m cap'], .agg #[.bool false, .int .i64 (f : Int), .int .i64 (t : Int), .int .u64 sq, .slice T tn tc]] w (StoreRet s 0 0 w) := by
  obtain ⟨hcl, hok⟩ : checkB s = true ∧ True := ⟨hc, trivial⟩
  have HC := Lib.hid (show errArg (checkB s) = 0 by rw [hc]; rfl); clear hc hcl hok
  have HS := Lib.hid (hs.below (W3.below w (.slice A n cap) (.slice B m cap') (.bool false) (.int .i64 (f:Int)) (.int .i64 (t:Int)) (.int .u64 sq) (.slice T tn tc)) (W3.below w (.slice A n cap) (.slice B m cap') (.bool false) (.int .i64 (f:Int)) (.int .i64 (t:Int)) (.int .u64 sq) (.slice T tn tc)).size); clear hs
  have HF := Lib.hid hf; clear hf
  have HP := Lib.hid hpos; clear hpos
  have HSQ := Lib.hid hsq; have HK := Lib.hid hk; clear hk
  go_enter Try.func11, Try.ntmps11
  go_wp2_with (first
    | (go_at_call 15
       go_loud (skip
                refine (check_any A n cap B m cap' s _ HS.out).mono ?_; rintro e w1 ⟨rfl, hb1⟩; rw [HC.out]
                have HB1 := Lib.hid (show Below (w.heap.size + 3) (W3 w (.slice A n cap) (.slice B m cap') (.bool false) (.int .i64 (f:Int)) (.int .i64 (t:Int)) (.int .u64 sq) (.slice T tn tc)) w1 from by have := hb1; rw [← W3.size w (.slice A n cap) (.slice B m cap') (.bool false) (.int .i64 (f:Int)) (.int .i64 (t:Int)) (.int .u64 sq) (.slice T tn tc)]; exact hb1)
                have z1 : w.heap.size + 3 ≤ w1.heap.size := by (have h9 := HB1.out.size; rw [W3.size] at h9; omega)
                obtain ⟨gS, gL, gR⟩ := mem3 HB1.out rfl
                have a0 := gS.cell 0 (v := .slice A n cap) rfl; have a1 := gS.cell 1 (v := .slice B m cap') rfl
                have HM1 := Lib.hid (And.intro gS (And.intro gL gR))
                clear gS gL gR hb1
                skip))
    | (go_at_call 23
       go_loud (skip
                refine (copyOf_any A n cap B m cap' s w1 (HS.out.below (show Below _ _ w1 from by rw [W3.size]; exact HB1.out) (by rw [W3.size]; exact z1)) HF.out HP.out).mono ?_; rintro e w2 ⟨h, n2, c2, g, m2, rfl, hn2, hc2, hcm, hm2, hmm, hH, hG, hhg, hLast, hBox, hb2⟩
                obtain rfl : n2 = n := hn2.symm.trans HS.out.lastN
                obtain rfl : m2 = m := hm2.symm.trans HS.out.boxesN
                have z2 : w.heap.size + 3 ≤ w2.heap.size := by (have := hb2.size; omega)
                have zA : w.heap.size < w2.heap.size := by omega
                have zB : w.heap.size + 1 < w2.heap.size := by omega
                have zC : w.heap.size + 1 + 1 < w2.heap.size := by omega
                have g2 := (And.intro (HM1.out.1.below hb2 (by omega)) (And.intro (HM1.out.2.1.below hb2 (by omega)) (HM1.out.2.2.below hb2 (by omega))))
                clear a0 a1
                have a0 := g2.1.cell 0 (v := .slice A n2 cap) rfl; have a1 := g2.1.cell 1 (v := .slice B m2 cap') rfl
                have l0 := g2.2.1.cell 0 (v := .bool false) rfl; have l1 := g2.2.1.cell 1 (v := .int .i64 (f:Int)) rfl; have l2 := g2.2.1.cell 2 (v := .int .i64 (t:Int)) rfl; have l3 := g2.2.1.cell 3 (v := .int .u64 sq) rfl; have l4 := g2.2.1.cell 4 (v := .slice T tn tc) rfl
                have HM2 := Lib.hid g2
                have HX := Lib.hid (And.intro hn2 (And.intro hc2 (And.intro hcm (And.intro hm2 (And.intro hmm (And.intro hLast (And.intro hBox hb2)))))))
                have HQ := Lib.hid (And.intro hH (And.intro hG hhg))
                clear g2 hn2 hc2 hcm hm2 hmm hLast hBox hb2 HM1 hH hG hhg
                skip))
    | (go_at_call 24
       go_loud (skip
                refine (keep_any false (f:Int) (t:Int) sq HSQ.out T tn tc _).mono ?_; rintro e w3 ⟨rfl, hb3⟩; rw [HK.out]
                have z3 : w2.heap.size < w3.heap.size := by (have := hb3.size; simp at this; omega)
                have g3 := And.intro ((HM2.out.1.alloc _).below hb3 (by simp; omega)) (And.intro ((HM2.out.2.1.alloc _).below hb3 (by simp; omega)) (And.intro ((HM2.out.2.2.alloc _).below hb3 (by simp; omega)) ((Blk.new w2 28 #[.slice (some ⟨h, 0, none⟩) n2 c2, .slice (some ⟨g, 0, none⟩) m2 m2] rfl).below hb3 (by simp))))
                clear a0 a1 l0 l1 l2 l3 l4
                have a0 := g3.1.cell 0 (v := .slice A n2 cap) rfl; have a1 := g3.1.cell 1 (v := .slice B m2 cap') rfl
                have l0 := g3.2.1.cell 0 (v := .bool false) rfl; have l1 := g3.2.1.cell 1 (v := .int .i64 (f:Int)) rfl; have l2 := g3.2.1.cell 2 (v := .int .i64 (t:Int)) rfl; have l3 := g3.2.1.cell 3 (v := .int .u64 sq) rfl; have l4 := g3.2.1.cell 4 (v := .slice T tn tc) rfl
                have r0 := g3.2.2.1.cell 0 (v := .slice none 0 0) rfl; have r1 := g3.2.2.1.cell 1 (v := .slice none 0 0) rfl; have fR := g3.2.2.1.frozen
                have x0 := g3.2.2.2.cell 0 (v := .slice (some ⟨h, 0, none⟩) n2 c2) rfl; have x1 := g3.2.2.2.cell 1 (v := .slice (some ⟨g, 0, none⟩) m2 m2) rfl
                have HM3 := Lib.hid g3; have HB3 := Lib.hid hb3
                clear g3 hb3 HM2
                skip)))
  refine bodyPost_ret (v := .tuple #[.agg #[.slice (some ⟨h, 0, none⟩) n2 c2, .slice (some ⟨g, 0, none⟩) m2 m2], .int .u8 0, .int .i64 0]) (by simp [results, Try.results11, go_sem, r0, r1]) rfl ?_
  obtain ⟨q1, q2, q3⟩ := put_frame (W3.below w _ _ _ _ _ _ _) (W3.size w _ _ _ _ _ _ _) HB1.out HX.out.2.2.2.2.2.2.2 HB3.out HX.out.2.2.2.2.2.1 HX.out.2.2.2.2.2.2.1
  have hq1 := HQ.out.1; have hq2 := HQ.out.2.1
  have y1 := hLast_lt q1; have y2 := q2.lt
  refine ⟨_, _, _, _, _, _, rfl, next_at ((q1.far (by simp; omega) (fun h => h) _).far (by simp; omega) (fun h => h) _) HX.out.1 ((q2.far (by simp; omega) (fun hb => by have := hb.1; simp at this; omega) _).far (by simp; omega) (fun hb => by have := hb.1; simp at this; omega) _) HX.out.2.2.2.1 (fun b hb => ⟨by have := hb.1; omega, by have := hb.2.1; simp [World.setCell]; omega⟩) ⟨by omega, by simp [World.setCell]; omega⟩ ⟨by omega, by simp [World.setCell]; omega⟩, HX.out.2.1, HX.out.2.2.1, Nat.le_refl _, HX.out.2.2.2.2.1, (q3.setCell (by simp; omega) _).setCell (by simp; omega) _⟩
set_option maxHeartbeats 1000000 in
theorem put_old (A : Option Addr) (n cap : Nat) (B : Option Addr) (m cap' : Nat) (s : St) (f t : Nat) (sq : Int) (T : Option Addr) (tn tc : Nat) (w : World) (hs : StAt w (lo w.heap.size) A n B m s) (hf : StFit 140737488355328 s) (hc : checkB s = true) (hpos : 0 < s.last.length)
    (hsq : 0 ≤ sq) (hk : keepL false (f : Int) (t : Int) sq tn = true) (d1 : decide (n ≤ f) = false) (d2 : decide (n ≤ t) = false) (hfn : f < n) (htn : t < n) (x : Int) (hx : s.last[f]? = some x) (d3 : decide (sq ≤ x) = true) :
    Calls Try.prog 11 #[.agg #[.slice A n cap, .slice B m cap'], .agg #[.bool false, .int .i64 (f : Int), .int .i64 (t : Int), .int .u64 sq, .slice T tn tc]] w (StoreRet s 1 0 w) := by
  obtain ⟨b, off, rfl, hbl, hxw, hx0⟩ := hs.last.int hx
  have hxb := bounds_u64 hxw
  clear hxw
  obtain ⟨hcl, hok⟩ : checkB s = true ∧ True := ⟨hc, trivial⟩
  have HC := Lib.hid (show errArg (checkB s) = 0 by rw [hc]; rfl); clear hc hcl hok
  have HS := Lib.hid (hs.below (W3.below w (.slice (some ⟨b, off, none⟩) n cap) (.slice B m cap') (.bool false) (.int .i64 (f:Int)) (.int .i64 (t:Int)) (.int .u64 sq) (.slice T tn tc)) (W3.below w (.slice (some ⟨b, off, none⟩) n cap) (.slice B m cap') (.bool false) (.int .i64 (f:Int)) (.int .i64 (t:Int)) (.int .u64 sq) (.slice T tn tc)).size); clear hs
  have HF := Lib.hid hf; clear hf
  have HP := Lib.hid hpos; clear hpos
  have HSQ := Lib.hid hsq; have HK := Lib.hid hk; clear hk
  go_enter Try.func11, Try.ntmps11
  go_wp2_with (first
    | (go_at_call 15
       go_loud (skip
                refine (check_any (some ⟨b, off, none⟩) n cap B m cap' s _ HS.out).mono ?_; rintro e w1 ⟨rfl, hb1⟩; rw [HC.out]
                have HB1 := Lib.hid (show Below (w.heap.size + 3) (W3 w (.slice (some ⟨b, off, none⟩) n cap) (.slice B m cap') (.bool false) (.int .i64 (f:Int)) (.int .i64 (t:Int)) (.int .u64 sq) (.slice T tn tc)) w1 from by have := hb1; rw [← W3.size w (.slice (some ⟨b, off, none⟩) n cap) (.slice B m cap') (.bool false) (.int .i64 (f:Int)) (.int .i64 (t:Int)) (.int .u64 sq) (.slice T tn tc)]; exact hb1)
                have z1 : w.heap.size + 3 ≤ w1.heap.size := by (have h9 := HB1.out.size; rw [W3.size] at h9; omega)
                obtain ⟨gS, gL, gR⟩ := mem3 HB1.out rfl
                have a0 := gS.cell 0 (v := .slice (some ⟨b, off, none⟩) n cap) rfl; have a1 := gS.cell 1 (v := .slice B m cap') rfl
                have HM1 := Lib.hid (And.intro gS (And.intro gL gR))
                clear gS gL gR hb1
                skip))
    | (go_at_call 23
       go_loud (skip
                refine (copyOf_any (some ⟨b, off, none⟩) n cap B m cap' s w1 (HS.out.below (show Below _ _ w1 from by rw [W3.size]; exact HB1.out) (by rw [W3.size]; exact z1)) HF.out HP.out).mono ?_; rintro e w2 ⟨h, n2, c2, g, m2, rfl, hn2, hc2, hcm, hm2, hmm, hH, hG, hhg, hLast, hBox, hb2⟩
                obtain rfl : n2 = n := hn2.symm.trans HS.out.lastN
                obtain rfl : m2 = m := hm2.symm.trans HS.out.boxesN
                have z2 : w.heap.size + 3 ≤ w2.heap.size := by (have := hb2.size; omega)
                have zA : w.heap.size < w2.heap.size := by omega
                have zB : w.heap.size + 1 < w2.heap.size := by omega
                have zC : w.heap.size + 1 + 1 < w2.heap.size := by omega
                have g2 := (And.intro (HM1.out.1.below hb2 (by omega)) (And.intro (HM1.out.2.1.below hb2 (by omega)) (HM1.out.2.2.below hb2 (by omega))))
                clear a0 a1
                have a0 := g2.1.cell 0 (v := .slice (some ⟨b, off, none⟩) n2 cap) rfl; have a1 := g2.1.cell 1 (v := .slice B m2 cap') rfl
                have l0 := g2.2.1.cell 0 (v := .bool false) rfl; have l1 := g2.2.1.cell 1 (v := .int .i64 (f:Int)) rfl; have l2 := g2.2.1.cell 2 (v := .int .i64 (t:Int)) rfl; have l3 := g2.2.1.cell 3 (v := .int .u64 sq) rfl; have l4 := g2.2.1.cell 4 (v := .slice T tn tc) rfl
                have HM2 := Lib.hid g2
                have HX := Lib.hid (And.intro hn2 (And.intro hc2 (And.intro hcm (And.intro hm2 (And.intro hmm (And.intro hLast (And.intro hBox hb2)))))))
                have HQ := Lib.hid (And.intro hH (And.intro hG hhg))
                clear g2 hn2 hc2 hcm hm2 hmm hLast hBox hb2 HM1 hH hG hhg
                skip))
    | (go_at_call 24
       go_loud (skip
                refine (keep_any false (f:Int) (t:Int) sq HSQ.out T tn tc _).mono ?_; rintro e w3 ⟨rfl, hb3⟩; rw [HK.out]
                have z3 : w2.heap.size < w3.heap.size := by (have := hb3.size; simp at this; omega)
                have g3 := And.intro ((HM2.out.1.alloc _).below hb3 (by simp; omega)) (And.intro ((HM2.out.2.1.alloc _).below hb3 (by simp; omega)) (And.intro ((HM2.out.2.2.alloc _).below hb3 (by simp; omega)) ((Blk.new w2 28 #[.slice (some ⟨h, 0, none⟩) n2 c2, .slice (some ⟨g, 0, none⟩) m2 m2] rfl).below hb3 (by simp))))
                clear a0 a1 l0 l1 l2 l3 l4
                have a0 := g3.1.cell 0 (v := .slice (some ⟨b, off, none⟩) n2 cap) rfl; have a1 := g3.1.cell 1 (v := .slice B m2 cap') rfl
                have l0 := g3.2.1.cell 0 (v := .bool false) rfl; have l1 := g3.2.1.cell 1 (v := .int .i64 (f:Int)) rfl; have l2 := g3.2.1.cell 2 (v := .int .i64 (t:Int)) rfl; have l3 := g3.2.1.cell 3 (v := .int .u64 sq) rfl; have l4 := g3.2.1.cell 4 (v := .slice T tn tc) rfl
                have r0 := g3.2.2.1.cell 0 (v := .slice none 0 0) rfl; have r1 := g3.2.2.1.cell 1 (v := .slice none 0 0) rfl; have fR := g3.2.2.1.frozen
                have x0 := g3.2.2.2.cell 0 (v := .slice (some ⟨h, 0, none⟩) n2 c2) rfl; have x1 := g3.2.2.2.cell 1 (v := .slice (some ⟨g, 0, none⟩) m2 m2) rfl
                have HM3 := Lib.hid g3; have HB3 := Lib.hid hb3
                clear g3 hb3 HM2
                have xl := ((put_frame (W3.below w _ _ _ _ _ _ _) (W3.size w _ _ _ _ _ _ _) HB1.out HX.out.2.2.2.2.2.2.2 HB3.out HX.out.2.2.2.2.2.1 HX.out.2.2.2.2.2.2.1).2.2.cell (p := ⟨b, off + f, none⟩) hbl).trans hx0)))
  refine bodyPost_ret (v := .tuple #[.agg #[.slice (some ⟨h, 0, none⟩) n2 c2, .slice (some ⟨g, 0, none⟩) m2 m2], .int .u8 1, .int .i64 0]) (by simp [results, Try.results11, go_sem, r0, r1]) rfl ?_
  obtain ⟨q1, q2, q3⟩ := put_frame (W3.below w _ _ _ _ _ _ _) (W3.size w _ _ _ _ _ _ _) HB1.out HX.out.2.2.2.2.2.2.2 HB3.out HX.out.2.2.2.2.2.1 HX.out.2.2.2.2.2.2.1
  have hq1 := HQ.out.1; have hq2 := HQ.out.2.1
  have y1 := hLast_lt q1; have y2 := q2.lt
  refine ⟨_, _, _, _, _, _, rfl, next_at ((q1.far (by simp; omega) (fun h => h) _).far (by simp; omega) (fun h => h) _) HX.out.1 ((q2.far (by simp; omega) (fun hb => by have := hb.1; simp at this; omega) _).far (by simp; omega) (fun hb => by have := hb.1; simp at this; omega) _) HX.out.2.2.2.1 (fun b hb => ⟨by have := hb.1; omega, by have := hb.2.1; simp [World.setCell]; omega⟩) ⟨by omega, by simp [World.setCell]; omega⟩ ⟨by omega, by simp [World.setCell]; omega⟩, HX.out.2.1, HX.out.2.2.1, Nat.le_refl _, HX.out.2.2.2.2.1, (q3.setCell (by simp; omega) _).setCell (by simp; omega) _⟩
set_option maxHeartbeats 1000000 in
theorem put_gap (A : Option Addr) (n cap : Nat) (B : Option Addr) (m cap' : Nat) (s : St) (f t : Nat) (sq : Int) (T : Option Addr) (tn tc : Nat) (w : World) (hs : StAt w (lo w.heap.size) A n B m s) (hf : StFit 140737488355328 s) (hc : checkB s = true) (hpos : 0 < s.last.length)
    (hsq : 0 ≤ sq) (hk : keepL false (f : Int) (t : Int) sq tn = true) (d1 : decide (n ≤ f) = false) (d2 : decide (n ≤ t) = false) (hfn : f < n) (htn : t < n) (x : Int) (hx : s.last[f]? = some x) (hsq2 : sq < 18446744073709551616) (hlt : x < sq) (d3 : decide (sq ≤ x) = false) (d4 : (sq - x != 1) = true) :
    Calls Try.prog 11 #[.agg #[.slice A n cap, .slice B m cap'], .agg #[.bool false, .int .i64 (f : Int), .int .i64 (t : Int), .int .u64 sq, .slice T tn tc]] w (StoreRet s 0 0 w) := by
  obtain ⟨b, off, rfl, hbl, hxw, hx0⟩ := hs.last.int hx
  have hxb := bounds_u64 hxw
  clear hxw
  obtain ⟨hcl, hok⟩ : checkB s = true ∧ True := ⟨hc, trivial⟩
  have HC := Lib.hid (show errArg (checkB s) = 0 by rw [hc]; rfl); clear hc hcl hok
  have HS := Lib.hid (hs.below (W3.below w (.slice (some ⟨b, off, none⟩) n cap) (.slice B m cap') (.bool false) (.int .i64 (f:Int)) (.int .i64 (t:Int)) (.int .u64 sq) (.slice T tn tc)) (W3.below w (.slice (some ⟨b, off, none⟩) n cap) (.slice B m cap') (.bool false) (.int .i64 (f:Int)) (.int .i64 (t:Int)) (.int .u64 sq) (.slice T tn tc)).size); clear hs
  have HF := Lib.hid hf; clear hf
  have HP := Lib.hid hpos; clear hpos
  have HSQ := Lib.hid hsq; have HK := Lib.hid hk; clear hk
  go_enter Try.func11, Try.ntmps11
  go_wp2_with (first
    | (go_at_call 15
       go_loud (skip
                refine (check_any (some ⟨b, off, none⟩) n cap B m cap' s _ HS.out).mono ?_; rintro e w1 ⟨rfl, hb1⟩; rw [HC.out]
                have HB1 := Lib.hid (show Below (w.heap.size + 3) (W3 w (.slice (some ⟨b, off, none⟩) n cap) (.slice B m cap') (.bool false) (.int .i64 (f:Int)) (.int .i64 (t:Int)) (.int .u64 sq) (.slice T tn tc)) w1 from by have := hb1; rw [← W3.size w (.slice (some ⟨b, off, none⟩) n cap) (.slice B m cap') (.bool false) (.int .i64 (f:Int)) (.int .i64 (t:Int)) (.int .u64 sq) (.slice T tn tc)]; exact hb1)
                have z1 : w.heap.size + 3 ≤ w1.heap.size := by (have h9 := HB1.out.size; rw [W3.size] at h9; omega)
                obtain ⟨gS, gL, gR⟩ := mem3 HB1.out rfl
                have a0 := gS.cell 0 (v := .slice (some ⟨b, off, none⟩) n cap) rfl; have a1 := gS.cell 1 (v := .slice B m cap') rfl
                have HM1 := Lib.hid (And.intro gS (And.intro gL gR))
                clear gS gL gR hb1
                skip))
    | (go_at_call 23
       go_loud (skip
                refine (copyOf_any (some ⟨b, off, none⟩) n cap B m cap' s w1 (HS.out.below (show Below _ _ w1 from by rw [W3.size]; exact HB1.out) (by rw [W3.size]; exact z1)) HF.out HP.out).mono ?_; rintro e w2 ⟨h, n2, c2, g, m2, rfl, hn2, hc2, hcm, hm2, hmm, hH, hG, hhg, hLast, hBox, hb2⟩
                obtain rfl : n2 = n := hn2.symm.trans HS.out.lastN
                obtain rfl : m2 = m := hm2.symm.trans HS.out.boxesN
                have z2 : w.heap.size + 3 ≤ w2.heap.size := by (have := hb2.size; omega)
                have zA : w.heap.size < w2.heap.size := by omega
                have zB : w.heap.size + 1 < w2.heap.size := by omega
                have zC : w.heap.size + 1 + 1 < w2.heap.size := by omega
                have g2 := (And.intro (HM1.out.1.below hb2 (by omega)) (And.intro (HM1.out.2.1.below hb2 (by omega)) (HM1.out.2.2.below hb2 (by omega))))
                clear a0 a1
                have a0 := g2.1.cell 0 (v := .slice (some ⟨b, off, none⟩) n2 cap) rfl; have a1 := g2.1.cell 1 (v := .slice B m2 cap') rfl
                have l0 := g2.2.1.cell 0 (v := .bool false) rfl; have l1 := g2.2.1.cell 1 (v := .int .i64 (f:Int)) rfl; have l2 := g2.2.1.cell 2 (v := .int .i64 (t:Int)) rfl; have l3 := g2.2.1.cell 3 (v := .int .u64 sq) rfl; have l4 := g2.2.1.cell 4 (v := .slice T tn tc) rfl
                have HM2 := Lib.hid g2
                have HX := Lib.hid (And.intro hn2 (And.intro hc2 (And.intro hcm (And.intro hm2 (And.intro hmm (And.intro hLast (And.intro hBox hb2)))))))
                have HQ := Lib.hid (And.intro hH (And.intro hG hhg))
                clear g2 hn2 hc2 hcm hm2 hmm hLast hBox hb2 HM1 hH hG hhg
                skip))
    | (go_at_call 24
       go_loud (skip
                refine (keep_any false (f:Int) (t:Int) sq HSQ.out T tn tc _).mono ?_; rintro e w3 ⟨rfl, hb3⟩; rw [HK.out]
                have z3 : w2.heap.size < w3.heap.size := by (have := hb3.size; simp at this; omega)
                have g3 := And.intro ((HM2.out.1.alloc _).below hb3 (by simp; omega)) (And.intro ((HM2.out.2.1.alloc _).below hb3 (by simp; omega)) (And.intro ((HM2.out.2.2.alloc _).below hb3 (by simp; omega)) ((Blk.new w2 28 #[.slice (some ⟨h, 0, none⟩) n2 c2, .slice (some ⟨g, 0, none⟩) m2 m2] rfl).below hb3 (by simp))))
                clear a0 a1 l0 l1 l2 l3 l4
                have a0 := g3.1.cell 0 (v := .slice (some ⟨b, off, none⟩) n2 cap) rfl; have a1 := g3.1.cell 1 (v := .slice B m2 cap') rfl
                have l0 := g3.2.1.cell 0 (v := .bool false) rfl; have l1 := g3.2.1.cell 1 (v := .int .i64 (f:Int)) rfl; have l2 := g3.2.1.cell 2 (v := .int .i64 (t:Int)) rfl; have l3 := g3.2.1.cell 3 (v := .int .u64 sq) rfl; have l4 := g3.2.1.cell 4 (v := .slice T tn tc) rfl
                have r0 := g3.2.2.1.cell 0 (v := .slice none 0 0) rfl; have r1 := g3.2.2.1.cell 1 (v := .slice none 0 0) rfl; have fR := g3.2.2.1.frozen
                have x0 := g3.2.2.2.cell 0 (v := .slice (some ⟨h, 0, none⟩) n2 c2) rfl; have x1 := g3.2.2.2.cell 1 (v := .slice (some ⟨g, 0, none⟩) m2 m2) rfl
                have HM3 := Lib.hid g3; have HB3 := Lib.hid hb3
                clear g3 hb3 HM2
                have xl := ((put_frame (W3.below w _ _ _ _ _ _ _) (W3.size w _ _ _ _ _ _ _) HB1.out HX.out.2.2.2.2.2.2.2 HB3.out HX.out.2.2.2.2.2.1 HX.out.2.2.2.2.2.2.1).2.2.cell (p := ⟨b, off + f, none⟩) hbl).trans hx0)))
  refine bodyPost_ret (v := .tuple #[.agg #[.slice (some ⟨h, 0, none⟩) n2 c2, .slice (some ⟨g, 0, none⟩) m2 m2], .int .u8 0, .int .i64 0]) (by simp [results, Try.results11, go_sem, r0, r1]) rfl ?_
  obtain ⟨q1, q2, q3⟩ := put_frame (W3.below w _ _ _ _ _ _ _) (W3.size w _ _ _ _ _ _ _) HB1.out HX.out.2.2.2.2.2.2.2 HB3.out HX.out.2.2.2.2.2.1 HX.out.2.2.2.2.2.2.1
  have hq1 := HQ.out.1; have hq2 := HQ.out.2.1
  have y1 := hLast_lt q1; have y2 := q2.lt
  refine ⟨_, _, _, _, _, _, rfl, next_at ((q1.far (by simp; omega) (fun h => h) _).far (by simp; omega) (fun h => h) _) HX.out.1 ((q2.far (by simp; omega) (fun hb => by have := hb.1; simp at this; omega) _).far (by simp; omega) (fun hb => by have := hb.1; simp at this; omega) _) HX.out.2.2.2.1 (fun b hb => ⟨by have := hb.1; omega, by have := hb.2.1; simp [World.setCell]; omega⟩) ⟨by omega, by simp [World.setCell]; omega⟩ ⟨by omega, by simp [World.setCell]; omega⟩, HX.out.2.1, HX.out.2.2.1, Nat.le_refl _, HX.out.2.2.2.2.1, (q3.setCell (by simp; omega) _).setCell (by simp; omega) _⟩
end Go.Proofs.Ytcmdmmphakclmaa
