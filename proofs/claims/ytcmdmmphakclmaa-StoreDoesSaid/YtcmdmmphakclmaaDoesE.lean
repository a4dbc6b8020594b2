/-
  The reference's Put: the ways that change nothing.
-/
import Derived.Test.YtcmdmmphakclmaaDoesD
namespace Go.Proofs.Ytcmdmmphakclmaa
open Go.RowKit Go.Sort
set_option linter.unusedVariables false
attribute [local go_sem ↓] Go.wp_at_zero Go.wp_at_succ

/-- What the reference's Put leaves. -/
def RPutRet (s : St) (c e : Int) (w : World) (en : Ending) (w' : World) : Prop :=
  ∃ A n cap B m cap', en = .returned (.tuple #[.agg #[.slice A n cap, .slice B m cap'], .int .u8 c, .int .i64 e]) ∧ StAt w' (lo w'.heap.size) A n B m s ∧ Below w.heap.size w w'
set_option maxHeartbeats 1000000 in
theorem rput_bad (A : Option Addr) (n cap : Nat) (B : Option Addr) (m cap' : Nat) (s : St) (cv : Bool) (fr tt sq : Int) (T : Option Addr) (tn tc : Nat) (w : World) (hs : StAt w (lo w.heap.size) A n B m s) (hc : checkB s = false) :
    Calls Try.prog 19 #[.agg #[.slice A n cap, .slice B m cap'], .agg #[.bool cv, .int .i64 fr, .int .i64 tt, .int .u64 sq, .slice T tn tc]] w (RPutRet noSt 0 1 w) := by
  have HC := Lib.hid (show errArg (checkB s) = 1 by rw [hc]; rfl); clear hc
  have HS := Lib.hid (hs.below (W3.below w (.slice A n cap) (.slice B m cap') (.bool cv) (.int .i64 fr) (.int .i64 tt) (.int .u64 sq) (.slice T tn tc)) (W3.below w (.slice A n cap) (.slice B m cap') (.bool cv) (.int .i64 fr) (.int .i64 tt) (.int .u64 sq) (.slice T tn tc)).size); clear hs
  go_enter Try.func19, Try.ntmps19
  go_wp2_with (first
    | (go_at_call 22
       go_loud (skip
                refine (rcheck_any A n cap B m cap' s _ HS.out).mono ?_; rintro e w1 ⟨rfl, hb1⟩; rw [HC.out]
                have HB1 := Lib.hid (show Below (w.heap.size + 3) (W3 w (.slice A n cap) (.slice B m cap') (.bool cv) (.int .i64 fr) (.int .i64 tt) (.int .u64 sq) (.slice T tn tc)) w1 from by have := hb1; rw [← W3.size w (.slice A n cap) (.slice B m cap') (.bool cv) (.int .i64 fr) (.int .i64 tt) (.int .u64 sq) (.slice T tn tc)]; exact hb1)
                have z1 : w.heap.size + 3 ≤ w1.heap.size := by (have h9 := HB1.out.size; rw [W3.size] at h9; omega)
                obtain ⟨gS, gL, gR⟩ := mem3 HB1.out rfl
                have r0 := gR.cell 0 (v := .slice none 0 0) rfl; have r1 := gR.cell 1 (v := .slice none 0 0) rfl; have fR := gR.frozen
                have HBW := Lib.hid ((W3.below w (.slice A n cap) (.slice B m cap') (.bool cv) (.int .i64 fr) (.int .i64 tt) (.int .u64 sq) (.slice T tn tc)).trans (HB1.out.mono (by omega)))
                clear gS gL gR hb1)))
  refine bodyPost_ret (v := .tuple #[.agg #[.slice none 0 0, .slice none 0 0], .int .u8 0, .int .i64 1]) (by simp [results, Try.results19, go_sem, r0, r1]) rfl ?_
  exact ⟨_, _, _, _, _, _, rfl, StAt.none _ _, (HBW.out.setCell (by simp <;> omega) _).setCell (by simp <;> omega) _⟩
set_option maxRecDepth 100000 in
set_option maxHeartbeats 4000000 in
theorem rput_cover (A : Option Addr) (n cap : Nat) (B : Option Addr) (m cap' : Nat) (s : St) (fr tt sq : Int) (T : Option Addr) (tn tc : Nat) (w : World) (hs : StAt w (lo w.heap.size) A n B m s) (hf : StFit 140737488355328 s) (hc : checkB s = true) :
    Calls Try.prog 19 #[.agg #[.slice A n cap, .slice B m cap'], .agg #[.bool true, .int .i64 fr, .int .i64 tt, .int .u64 sq, .slice T tn tc]] w (RPutRet s 0 0 w) := by
  have HC := Lib.hid (show errArg (checkB s) = 0 by rw [hc]; rfl); clear hc
  have HS0 := Lib.hid hs
  have HS := Lib.hid (hs.below (W3.below w (.slice A n cap) (.slice B m cap') (.bool true) (.int .i64 fr) (.int .i64 tt) (.int .u64 sq) (.slice T tn tc)) (W3.below w (.slice A n cap) (.slice B m cap') (.bool true) (.int .i64 fr) (.int .i64 tt) (.int .u64 sq) (.slice T tn tc)).size); clear hs
  have HF := Lib.hid hf; clear hf
  go_enter Try.func19, Try.ntmps19
  go_upto_region 5 with (first
    | (go_at_call 22
       go_loud (skip
                refine (rcheck_any A n cap B m cap' s _ HS.out).mono ?_; rintro e w1 ⟨rfl, hb1⟩; rw [HC.out]
                have HB1 := Lib.hid (show Below (w.heap.size + 3) (W3 w (.slice A n cap) (.slice B m cap') (.bool true) (.int .i64 fr) (.int .i64 tt) (.int .u64 sq) (.slice T tn tc)) w1 from by have := hb1; rw [← W3.size w (.slice A n cap) (.slice B m cap') (.bool true) (.int .i64 fr) (.int .i64 tt) (.int .u64 sq) (.slice T tn tc)]; exact hb1)
                have z1 : w.heap.size + 3 ≤ w1.heap.size := by (have h9 := HB1.out.size; rw [W3.size] at h9; omega)
                obtain ⟨gS, gL, gR⟩ := mem3 HB1.out rfl
                have a0 := gS.cell 0 (v := .slice A n cap) rfl; have a1 := gS.cell 1 (v := .slice B m cap') rfl
                have HM1 := Lib.hid (And.intro gS (And.intro gL gR))
                have HBW := Lib.hid ((W3.below w (.slice A n cap) (.slice B m cap') (.bool true) (.int .i64 fr) (.int .i64 tt) (.int .u64 sq) (.slice T tn tc)).trans (HB1.out.mono (by omega)))
                clear gS gL gR hb1))
    | (go_at_call 27
       go_loud (skip
                refine (own_any w1 A n cap B m cap' s w.heap.size (by omega) (HS0.out.keep (fun p hp => HBW.out.cell hp) (fun _ h => h)) HF.out).mono ?_
                rintro e w2 ⟨W, ρ, A2, n2, c2, B2, m2, k2, bvs, rfl, hO, hn2, hm2, hW1, hW2, hb2⟩
                obtain rfl : n2 = n := hn2.symm.trans HS.out.lastN
                obtain rfl : m2 = m := hm2.symm.trans HS.out.boxesN
                have z2 := hb2.size
                have HO := Lib.hid (And.intro hO (And.intro hm2 (And.intro hb2 hn2)))
                clear hO hn2 hm2 hb2 a0 a1)))
  obtain ⟨w3, hw3⟩ : ∃ w3, w2.alloc (.cells #[.slice A2 n2 c2, .slice B2 m2 k2] 28) = w3 := ⟨_, rfl⟩
  have hba : Below w2.heap.size w2 w3 := by rw [← hw3]; exact (Below.refl _ _).alloc (Nat.le_refl _) _
  have z3 : w3.heap.size = w2.heap.size + 1 := by rw [← hw3]; simp
  have hH3 : Blk w3 w2.heap.size 28 #[.slice A2 n2 c2, .slice B2 m2 k2] := by rw [← hw3]; exact Blk.new _ _ _ rfl
  have hb13 : Below w1.heap.size w1 w3 := HO.out.2.2.1.trans (hba.mono z2)
  have hS3 := HM1.out.1.below hb13 (by omega)
  have hL3 := HM1.out.2.1.below hb13 (by omega)
  have hR3 := HM1.out.2.2.below hb13 (by omega)
  have hO3 := HO.out.1.up hba (by omega)
  have hW3 : W ≤ w3.heap.size := by omega
  have hbw3 : Below w.heap.size w w3 := HBW.out.trans (hb13.mono (by omega))
  rw [hw3]
  have a0 := hS3.cell 0 (v := .slice A n2 cap) rfl; have a1 := hS3.cell 1 (v := .slice B m2 cap') rfl
  have l0 := hL3.cell 0 (v := .bool true) rfl; have l1 := hL3.cell 1 (v := .int .i64 fr) rfl; have l2 := hL3.cell 2 (v := .int .i64 tt) rfl; have l3 := hL3.cell 3 (v := .int .u64 sq) rfl; have l4 := hL3.cell 4 (v := .slice T tn tc) rfl
  have r0 := hR3.cell 0 (v := .slice none 0 0) rfl; have r1 := hR3.cell 1 (v := .slice none 0 0) rfl; have fR := hR3.frozen
  have x0 := hH3.cell 0 (v := .slice A2 n2 c2) rfl; have x1 := hH3.cell 1 (v := .slice B2 m2 k2) rfl
  have H3 := Lib.hid (And.intro hO3 (And.intro hH3 (And.intro hS3 (And.intro hL3 (And.intro hR3 hbw3)))))
  clear hO3 hH3 hS3 hL3 hR3 hbw3 hba hw3 hb13
  go_wp2
  refine bodyPost_ret (v := .tuple #[.agg #[.slice A2 n2 c2, .slice B2 m2 k2], .int .u8 0, .int .i64 0]) (by simp [results, Try.results19, go_sem, r0, r1]) rfl ?_
  have hfin := (H3.out.1.setLow (P := w.heap.size + 1 + 1) (by omega) (by omega) 0 (.slice A2 n2 c2)).setLow (P := w.heap.size + 1 + 1) (by omega) (by omega) 1 (.slice B2 m2 k2)
  exact ⟨A2, n2, c2, B2, m2, k2, rfl, (hfin.read (by simp [World.setCell]; omega)).1, (H3.out.2.2.2.2.2.setCell (p := ⟨w.heap.size + 1 + 1, 0, none⟩) (by show w.heap.size ≤ w.heap.size + 1 + 1; omega) _).setCell (p := ⟨w.heap.size + 1 + 1, 1, none⟩) (by show w.heap.size ≤ w.heap.size + 1 + 1; omega) _⟩
set_option maxRecDepth 100000 in
set_option maxHeartbeats 4000000 in
theorem rput_err (A : Option Addr) (n cap : Nat) (B : Option Addr) (m cap' : Nat) (s : St) (fr tt sq : Int) (hsq0 : 0 ≤ sq) (T : Option Addr) (tn tc : Nat) (w : World) (hs : StAt w (lo w.heap.size) A n B m s) (hf : StFit 140737488355328 s) (hc : checkB s = true) (E : Int) (hE : errLet false fr tt sq tn = E) (hE0 : E ≠ 0) :
    Calls Try.prog 19 #[.agg #[.slice A n cap, .slice B m cap'], .agg #[.bool false, .int .i64 fr, .int .i64 tt, .int .u64 sq, .slice T tn tc]] w (RPutRet s 0 0 w) := by
  have HE := Lib.hid hE; clear hE
  have d1 : (E != 0) = true := by simpa using hE0
  have d2 : (E == 0) = false := by simpa using hE0
  have HC := Lib.hid (show errArg (checkB s) = 0 by rw [hc]; rfl); clear hc
  have HS0 := Lib.hid hs
  have HS := Lib.hid (hs.below (W3.below w (.slice A n cap) (.slice B m cap') (.bool false) (.int .i64 fr) (.int .i64 tt) (.int .u64 sq) (.slice T tn tc)) (W3.below w (.slice A n cap) (.slice B m cap') (.bool false) (.int .i64 fr) (.int .i64 tt) (.int .u64 sq) (.slice T tn tc)).size); clear hs
  have HF := Lib.hid hf; clear hf
  go_enter Try.func19, Try.ntmps19
  go_upto_region 5 with (first
    | (go_at_call 22
       go_loud (skip
                refine (rcheck_any A n cap B m cap' s _ HS.out).mono ?_; rintro e w1 ⟨rfl, hb1⟩; rw [HC.out]
                have HB1 := Lib.hid (show Below (w.heap.size + 3) (W3 w (.slice A n cap) (.slice B m cap') (.bool false) (.int .i64 fr) (.int .i64 tt) (.int .u64 sq) (.slice T tn tc)) w1 from by have := hb1; rw [← W3.size w (.slice A n cap) (.slice B m cap') (.bool false) (.int .i64 fr) (.int .i64 tt) (.int .u64 sq) (.slice T tn tc)]; exact hb1)
                have z1 : w.heap.size + 3 ≤ w1.heap.size := by (have h9 := HB1.out.size; rw [W3.size] at h9; omega)
                obtain ⟨gS, gL, gR⟩ := mem3 HB1.out rfl
                have a0 := gS.cell 0 (v := .slice A n cap) rfl; have a1 := gS.cell 1 (v := .slice B m cap') rfl
                have HM1 := Lib.hid (And.intro gS (And.intro gL gR))
                have HBW := Lib.hid ((W3.below w (.slice A n cap) (.slice B m cap') (.bool false) (.int .i64 fr) (.int .i64 tt) (.int .u64 sq) (.slice T tn tc)).trans (HB1.out.mono (by omega)))
                clear gS gL gR hb1))
    | (go_at_call 27
       go_loud (skip
                refine (own_any w1 A n cap B m cap' s w.heap.size (by omega) (HS0.out.keep (fun p hp => HBW.out.cell hp) (fun _ h => h)) HF.out).mono ?_
                rintro e w2 ⟨W, ρ, A2, n2, c2, B2, m2, k2, bvs, rfl, hO, hn2, hm2, hW1, hW2, hb2⟩
                obtain rfl : n2 = n := hn2.symm.trans HS.out.lastN
                obtain rfl : m2 = m := hm2.symm.trans HS.out.boxesN
                have z2 := hb2.size
                have HO := Lib.hid (And.intro hO (And.intro hm2 (And.intro hb2 hn2)))
                clear hO hn2 hm2 hb2 a0 a1)))
  obtain ⟨w3, hw3⟩ : ∃ w3, w2.alloc (.cells #[.slice A2 n2 c2, .slice B2 m2 k2] 28) = w3 := ⟨_, rfl⟩
  have hba : Below w2.heap.size w2 w3 := by rw [← hw3]; exact (Below.refl _ _).alloc (Nat.le_refl _) _
  have z3 : w3.heap.size = w2.heap.size + 1 := by rw [← hw3]; simp
  have hH3 : Blk w3 w2.heap.size 28 #[.slice A2 n2 c2, .slice B2 m2 k2] := by rw [← hw3]; exact Blk.new _ _ _ rfl
  have hb13 : Below w1.heap.size w1 w3 := HO.out.2.2.1.trans (hba.mono z2)
  have hS3 := HM1.out.1.below hb13 (by omega)
  have hL3 := HM1.out.2.1.below hb13 (by omega)
  have hR3 := HM1.out.2.2.below hb13 (by omega)
  have hO3 := HO.out.1.up hba (by omega)
  have hW3 : W ≤ w3.heap.size := by omega
  have hbw3 : Below w.heap.size w w3 := HBW.out.trans (hb13.mono (by omega))
  rw [hw3]
  have a0 := hS3.cell 0 (v := .slice A n2 cap) rfl; have a1 := hS3.cell 1 (v := .slice B m2 cap') rfl
  have l0 := hL3.cell 0 (v := .bool false) rfl; have l1 := hL3.cell 1 (v := .int .i64 fr) rfl; have l2 := hL3.cell 2 (v := .int .i64 tt) rfl; have l3 := hL3.cell 3 (v := .int .u64 sq) rfl; have l4 := hL3.cell 4 (v := .slice T tn tc) rfl
  have r0 := hR3.cell 0 (v := .slice none 0 0) rfl; have r1 := hR3.cell 1 (v := .slice none 0 0) rfl; have fR := hR3.frozen
  have x0 := hH3.cell 0 (v := .slice A2 n2 c2) rfl; have x1 := hH3.cell 1 (v := .slice B2 m2 k2) rfl
  have H3 := Lib.hid (And.intro hO3 (And.intro hH3 (And.intro hS3 (And.intro hL3 (And.intro hR3 hbw3)))))
  clear hO3 hH3 hS3 hL3 hR3 hbw3 hba hw3 hb13
  go_wp2_with (first
    | (go_at_call 12
       go_loud (skip
                refine (r10check_any false fr tt sq hsq0 T tn tc w3).mono ?_; rintro e w4 ⟨rfl, hb4⟩; rw [HE.out]
                have z4 := hb4.size
                have hS4 := H3.out.2.2.1.below hb4 (by omega)
                have hL4 := H3.out.2.2.2.1.below hb4 (by omega)
                have hR4 := H3.out.2.2.2.2.1.below hb4 (by omega)
                have hH4 := H3.out.2.1.below hb4 (by omega)
                clear a0 a1 l0 l1 l2 l3 l4 r0 r1 fR x0 x1
                have a0 := hS4.cell 0 (v := .slice A n2 cap) rfl; have a1 := hS4.cell 1 (v := .slice B m2 cap') rfl
                have l0 := hL4.cell 0 (v := .bool false) rfl; have l1 := hL4.cell 1 (v := .int .i64 fr) rfl; have l2 := hL4.cell 2 (v := .int .i64 tt) rfl; have l3 := hL4.cell 3 (v := .int .u64 sq) rfl; have l4 := hL4.cell 4 (v := .slice T tn tc) rfl
                have r0 := hR4.cell 0 (v := .slice none 0 0) rfl; have r1 := hR4.cell 1 (v := .slice none 0 0) rfl; have fR := hR4.frozen
                have x0 := hH4.cell 0 (v := .slice A2 n2 c2) rfl; have x1 := hH4.cell 1 (v := .slice B2 m2 k2) rfl
                have lS4 := hS4.lt; have lL4 := hL4.lt; have lR4 := hR4.lt; have lH4 := hH4.lt
                have H4 := Lib.hid (And.intro (H3.out.1.up hb4 (by omega)) (And.intro hH4 (And.intro hS4 (And.intro hL4 (And.intro hR4 (H3.out.2.2.2.2.2.trans (hb4.mono (by omega))))))))
                clear hb4 hS4 hL4 hR4 hH4)))
  refine bodyPost_ret (v := .tuple #[.agg #[.slice A2 n2 c2, .slice B2 m2 k2], .int .u8 0, .int .i64 0]) (by simp [results, Try.results19, go_sem, r0, r1]) rfl ?_
  have hfin := (H4.out.1.setLow (P := w.heap.size + 1 + 1) (by omega) (by omega) 0 (.slice A2 n2 c2)).setLow (P := w.heap.size + 1 + 1) (by omega) (by omega) 1 (.slice B2 m2 k2)
  exact ⟨A2, n2, c2, B2, m2, k2, rfl, (hfin.read (by simp [World.setCell]; omega)).1, (H4.out.2.2.2.2.2.setCell (p := ⟨w.heap.size + 1 + 1, 0, none⟩) (by show w.heap.size ≤ w.heap.size + 1 + 1; omega) _).setCell (p := ⟨w.heap.size + 1 + 1, 1, none⟩) (by show w.heap.size ≤ w.heap.size + 1 + 1; omega) _⟩
set_option maxRecDepth 100000 in
set_option maxHeartbeats 4000000 in
theorem rput_far1 (A : Option Addr) (n cap : Nat) (B : Option Addr) (m cap' : Nat) (s : St) (f t : Nat) (sq : Int) (hsq0 : 0 ≤ sq) (T : Option Addr) (tn tc : Nat) (w : World) (hs : StAt w (lo w.heap.size) A n B m s) (hf : StFit 140737488355328 s) (hc : checkB s = true) (hE : errLet false (f : Int) (t : Int) sq tn = 0) (d1 : decide (n ≤ f) = true) :
    Calls Try.prog 19 #[.agg #[.slice A n cap, .slice B m cap'], .agg #[.bool false, .int .i64 (f : Int), .int .i64 (t : Int), .int .u64 sq, .slice T tn tc]] w (RPutRet s 0 0 w) := by
  have HE := Lib.hid hE; clear hE
  have HC := Lib.hid (show errArg (checkB s) = 0 by rw [hc]; rfl); clear hc
  have HS0 := Lib.hid hs
  have HS := Lib.hid (hs.below (W3.below w (.slice A n cap) (.slice B m cap') (.bool false) (.int .i64 (f : Int)) (.int .i64 (t : Int)) (.int .u64 sq) (.slice T tn tc)) (W3.below w (.slice A n cap) (.slice B m cap') (.bool false) (.int .i64 (f : Int)) (.int .i64 (t : Int)) (.int .u64 sq) (.slice T tn tc)).size); clear hs
  have HF := Lib.hid hf; clear hf
  go_enter Try.func19, Try.ntmps19
  go_upto_region 5 with (first
    | (go_at_call 22
       go_loud (skip
                refine (rcheck_any A n cap B m cap' s _ HS.out).mono ?_; rintro e w1 ⟨rfl, hb1⟩; rw [HC.out]
                have HB1 := Lib.hid (show Below (w.heap.size + 3) (W3 w (.slice A n cap) (.slice B m cap') (.bool false) (.int .i64 (f : Int)) (.int .i64 (t : Int)) (.int .u64 sq) (.slice T tn tc)) w1 from by have := hb1; rw [← W3.size w (.slice A n cap) (.slice B m cap') (.bool false) (.int .i64 (f : Int)) (.int .i64 (t : Int)) (.int .u64 sq) (.slice T tn tc)]; exact hb1)
                have z1 : w.heap.size + 3 ≤ w1.heap.size := by (have h9 := HB1.out.size; rw [W3.size] at h9; omega)
                obtain ⟨gS, gL, gR⟩ := mem3 HB1.out rfl
                have a0 := gS.cell 0 (v := .slice A n cap) rfl; have a1 := gS.cell 1 (v := .slice B m cap') rfl
                have HM1 := Lib.hid (And.intro gS (And.intro gL gR))
                have HBW := Lib.hid ((W3.below w (.slice A n cap) (.slice B m cap') (.bool false) (.int .i64 (f : Int)) (.int .i64 (t : Int)) (.int .u64 sq) (.slice T tn tc)).trans (HB1.out.mono (by omega)))
                clear gS gL gR hb1))
    | (go_at_call 27
       go_loud (skip
                refine (own_any w1 A n cap B m cap' s w.heap.size (by omega) (HS0.out.keep (fun p hp => HBW.out.cell hp) (fun _ h => h)) HF.out).mono ?_
                rintro e w2 ⟨W, ρ, A2, n2, c2, B2, m2, k2, bvs, rfl, hO, hn2, hm2, hW1, hW2, hb2⟩
                obtain rfl : n2 = n := hn2.symm.trans HS.out.lastN
                obtain rfl : m2 = m := hm2.symm.trans HS.out.boxesN
                have z2 := hb2.size
                have HO := Lib.hid (And.intro hO (And.intro hm2 (And.intro hb2 hn2)))
                clear hO hn2 hm2 hb2 a0 a1)))
  obtain ⟨w3, hw3⟩ : ∃ w3, w2.alloc (.cells #[.slice A2 n2 c2, .slice B2 m2 k2] 28) = w3 := ⟨_, rfl⟩
  have hba : Below w2.heap.size w2 w3 := by rw [← hw3]; exact (Below.refl _ _).alloc (Nat.le_refl _) _
  have z3 : w3.heap.size = w2.heap.size + 1 := by rw [← hw3]; simp
  have hH3 : Blk w3 w2.heap.size 28 #[.slice A2 n2 c2, .slice B2 m2 k2] := by rw [← hw3]; exact Blk.new _ _ _ rfl
  have hb13 : Below w1.heap.size w1 w3 := HO.out.2.2.1.trans (hba.mono z2)
  have hS3 := HM1.out.1.below hb13 (by omega)
  have hL3 := HM1.out.2.1.below hb13 (by omega)
  have hR3 := HM1.out.2.2.below hb13 (by omega)
  have hO3 := HO.out.1.up hba (by omega)
  have hW3 : W ≤ w3.heap.size := by omega
  have hbw3 : Below w.heap.size w w3 := HBW.out.trans (hb13.mono (by omega))
  rw [hw3]
  have a0 := hS3.cell 0 (v := .slice A n2 cap) rfl; have a1 := hS3.cell 1 (v := .slice B m2 cap') rfl
  have l0 := hL3.cell 0 (v := .bool false) rfl; have l1 := hL3.cell 1 (v := .int .i64 (f : Int)) rfl; have l2 := hL3.cell 2 (v := .int .i64 (t : Int)) rfl; have l3 := hL3.cell 3 (v := .int .u64 sq) rfl; have l4 := hL3.cell 4 (v := .slice T tn tc) rfl
  have r0 := hR3.cell 0 (v := .slice none 0 0) rfl; have r1 := hR3.cell 1 (v := .slice none 0 0) rfl; have fR := hR3.frozen
  have x0 := hH3.cell 0 (v := .slice A2 n2 c2) rfl; have x1 := hH3.cell 1 (v := .slice B2 m2 k2) rfl
  have H3 := Lib.hid (And.intro hO3 (And.intro hH3 (And.intro hS3 (And.intro hL3 (And.intro hR3 hbw3)))))
  clear hO3 hH3 hS3 hL3 hR3 hbw3 hba hw3 hb13
  go_wp2_with (first
    | (go_at_call 12
       go_loud (skip
                refine (r10check_any false (f : Int) (t : Int) sq hsq0 T tn tc w3).mono ?_; rintro e w4 ⟨rfl, hb4⟩; rw [HE.out]
                have z4 := hb4.size
                have hS4 := H3.out.2.2.1.below hb4 (by omega)
                have hL4 := H3.out.2.2.2.1.below hb4 (by omega)
                have hR4 := H3.out.2.2.2.2.1.below hb4 (by omega)
                have hH4 := H3.out.2.1.below hb4 (by omega)
                clear a0 a1 l0 l1 l2 l3 l4 r0 r1 fR x0 x1
                have a0 := hS4.cell 0 (v := .slice A n2 cap) rfl; have a1 := hS4.cell 1 (v := .slice B m2 cap') rfl
                have l0 := hL4.cell 0 (v := .bool false) rfl; have l1 := hL4.cell 1 (v := .int .i64 (f : Int)) rfl; have l2 := hL4.cell 2 (v := .int .i64 (t : Int)) rfl; have l3 := hL4.cell 3 (v := .int .u64 sq) rfl; have l4 := hL4.cell 4 (v := .slice T tn tc) rfl
                have r0 := hR4.cell 0 (v := .slice none 0 0) rfl; have r1 := hR4.cell 1 (v := .slice none 0 0) rfl; have fR := hR4.frozen
                have x0 := hH4.cell 0 (v := .slice A2 n2 c2) rfl; have x1 := hH4.cell 1 (v := .slice B2 m2 k2) rfl
                have lS4 := hS4.lt; have lL4 := hL4.lt; have lR4 := hR4.lt; have lH4 := hH4.lt
                have H4 := Lib.hid (And.intro (H3.out.1.up hb4 (by omega)) (And.intro hH4 (And.intro hS4 (And.intro hL4 (And.intro hR4 (H3.out.2.2.2.2.2.trans (hb4.mono (by omega))))))))
                clear hb4 hS4 hL4 hR4 hH4)))
  refine bodyPost_ret (v := .tuple #[.agg #[.slice A2 n2 c2, .slice B2 m2 k2], .int .u8 0, .int .i64 0]) (by simp [results, Try.results19, go_sem, r0, r1]) rfl ?_
  have hfin := (H4.out.1.setLow (P := w.heap.size + 1 + 1) (by omega) (by omega) 0 (.slice A2 n2 c2)).setLow (P := w.heap.size + 1 + 1) (by omega) (by omega) 1 (.slice B2 m2 k2)
  exact ⟨A2, n2, c2, B2, m2, k2, rfl, (hfin.read (by simp [World.setCell]; omega)).1, (H4.out.2.2.2.2.2.setCell (p := ⟨w.heap.size + 1 + 1, 0, none⟩) (by show w.heap.size ≤ w.heap.size + 1 + 1; omega) _).setCell (p := ⟨w.heap.size + 1 + 1, 1, none⟩) (by show w.heap.size ≤ w.heap.size + 1 + 1; omega) _⟩
set_option maxRecDepth 100000 in
set_option maxHeartbeats 4000000 in
theorem rput_far2 (A : Option Addr) (n cap : Nat) (B : Option Addr) (m cap' : Nat) (s : St) (f t : Nat) (sq : Int) (hsq0 : 0 ≤ sq) (T : Option Addr) (tn tc : Nat) (w : World) (hs : StAt w (lo w.heap.size) A n B m s) (hf : StFit 140737488355328 s) (hc : checkB s = true) (hE : errLet false (f : Int) (t : Int) sq tn = 0) (d1 : decide (n ≤ f) = false) (d2 : decide (n ≤ t) = true) :
    Calls Try.prog 19 #[.agg #[.slice A n cap, .slice B m cap'], .agg #[.bool false, .int .i64 (f : Int), .int .i64 (t : Int), .int .u64 sq, .slice T tn tc]] w (RPutRet s 0 0 w) := by
  have HE := Lib.hid hE; clear hE
  have HC := Lib.hid (show errArg (checkB s) = 0 by rw [hc]; rfl); clear hc
  have HS0 := Lib.hid hs
  have HS := Lib.hid (hs.below (W3.below w (.slice A n cap) (.slice B m cap') (.bool false) (.int .i64 (f : Int)) (.int .i64 (t : Int)) (.int .u64 sq) (.slice T tn tc)) (W3.below w (.slice A n cap) (.slice B m cap') (.bool false) (.int .i64 (f : Int)) (.int .i64 (t : Int)) (.int .u64 sq) (.slice T tn tc)).size); clear hs
  have HF := Lib.hid hf; clear hf
  go_enter Try.func19, Try.ntmps19
  go_upto_region 5 with (first
    | (go_at_call 22
       go_loud (skip
                refine (rcheck_any A n cap B m cap' s _ HS.out).mono ?_; rintro e w1 ⟨rfl, hb1⟩; rw [HC.out]
                have HB1 := Lib.hid (show Below (w.heap.size + 3) (W3 w (.slice A n cap) (.slice B m cap') (.bool false) (.int .i64 (f : Int)) (.int .i64 (t : Int)) (.int .u64 sq) (.slice T tn tc)) w1 from by have := hb1; rw [← W3.size w (.slice A n cap) (.slice B m cap') (.bool false) (.int .i64 (f : Int)) (.int .i64 (t : Int)) (.int .u64 sq) (.slice T tn tc)]; exact hb1)
                have z1 : w.heap.size + 3 ≤ w1.heap.size := by (have h9 := HB1.out.size; rw [W3.size] at h9; omega)
                obtain ⟨gS, gL, gR⟩ := mem3 HB1.out rfl
                have a0 := gS.cell 0 (v := .slice A n cap) rfl; have a1 := gS.cell 1 (v := .slice B m cap') rfl
                have HM1 := Lib.hid (And.intro gS (And.intro gL gR))
                have HBW := Lib.hid ((W3.below w (.slice A n cap) (.slice B m cap') (.bool false) (.int .i64 (f : Int)) (.int .i64 (t : Int)) (.int .u64 sq) (.slice T tn tc)).trans (HB1.out.mono (by omega)))
                clear gS gL gR hb1))
    | (go_at_call 27
       go_loud (skip
                refine (own_any w1 A n cap B m cap' s w.heap.size (by omega) (HS0.out.keep (fun p hp => HBW.out.cell hp) (fun _ h => h)) HF.out).mono ?_
                rintro e w2 ⟨W, ρ, A2, n2, c2, B2, m2, k2, bvs, rfl, hO, hn2, hm2, hW1, hW2, hb2⟩
                obtain rfl : n2 = n := hn2.symm.trans HS.out.lastN
                obtain rfl : m2 = m := hm2.symm.trans HS.out.boxesN
                have z2 := hb2.size
                have HO := Lib.hid (And.intro hO (And.intro hm2 (And.intro hb2 hn2)))
                clear hO hn2 hm2 hb2 a0 a1)))
  obtain ⟨w3, hw3⟩ : ∃ w3, w2.alloc (.cells #[.slice A2 n2 c2, .slice B2 m2 k2] 28) = w3 := ⟨_, rfl⟩
  have hba : Below w2.heap.size w2 w3 := by rw [← hw3]; exact (Below.refl _ _).alloc (Nat.le_refl _) _
  have z3 : w3.heap.size = w2.heap.size + 1 := by rw [← hw3]; simp
  have hH3 : Blk w3 w2.heap.size 28 #[.slice A2 n2 c2, .slice B2 m2 k2] := by rw [← hw3]; exact Blk.new _ _ _ rfl
  have hb13 : Below w1.heap.size w1 w3 := HO.out.2.2.1.trans (hba.mono z2)
  have hS3 := HM1.out.1.below hb13 (by omega)
  have hL3 := HM1.out.2.1.below hb13 (by omega)
  have hR3 := HM1.out.2.2.below hb13 (by omega)
  have hO3 := HO.out.1.up hba (by omega)
  have hW3 : W ≤ w3.heap.size := by omega
  have hbw3 : Below w.heap.size w w3 := HBW.out.trans (hb13.mono (by omega))
  rw [hw3]
  have a0 := hS3.cell 0 (v := .slice A n2 cap) rfl; have a1 := hS3.cell 1 (v := .slice B m2 cap') rfl
  have l0 := hL3.cell 0 (v := .bool false) rfl; have l1 := hL3.cell 1 (v := .int .i64 (f : Int)) rfl; have l2 := hL3.cell 2 (v := .int .i64 (t : Int)) rfl; have l3 := hL3.cell 3 (v := .int .u64 sq) rfl; have l4 := hL3.cell 4 (v := .slice T tn tc) rfl
  have r0 := hR3.cell 0 (v := .slice none 0 0) rfl; have r1 := hR3.cell 1 (v := .slice none 0 0) rfl; have fR := hR3.frozen
  have x0 := hH3.cell 0 (v := .slice A2 n2 c2) rfl; have x1 := hH3.cell 1 (v := .slice B2 m2 k2) rfl
  have H3 := Lib.hid (And.intro hO3 (And.intro hH3 (And.intro hS3 (And.intro hL3 (And.intro hR3 hbw3)))))
  clear hO3 hH3 hS3 hL3 hR3 hbw3 hba hw3 hb13
  go_wp2_with (first
    | (go_at_call 12
       go_loud (skip
                refine (r10check_any false (f : Int) (t : Int) sq hsq0 T tn tc w3).mono ?_; rintro e w4 ⟨rfl, hb4⟩; rw [HE.out]
                have z4 := hb4.size
                have hS4 := H3.out.2.2.1.below hb4 (by omega)
                have hL4 := H3.out.2.2.2.1.below hb4 (by omega)
                have hR4 := H3.out.2.2.2.2.1.below hb4 (by omega)
                have hH4 := H3.out.2.1.below hb4 (by omega)
                clear a0 a1 l0 l1 l2 l3 l4 r0 r1 fR x0 x1
                have a0 := hS4.cell 0 (v := .slice A n2 cap) rfl; have a1 := hS4.cell 1 (v := .slice B m2 cap') rfl
                have l0 := hL4.cell 0 (v := .bool false) rfl; have l1 := hL4.cell 1 (v := .int .i64 (f : Int)) rfl; have l2 := hL4.cell 2 (v := .int .i64 (t : Int)) rfl; have l3 := hL4.cell 3 (v := .int .u64 sq) rfl; have l4 := hL4.cell 4 (v := .slice T tn tc) rfl
                have r0 := hR4.cell 0 (v := .slice none 0 0) rfl; have r1 := hR4.cell 1 (v := .slice none 0 0) rfl; have fR := hR4.frozen
                have x0 := hH4.cell 0 (v := .slice A2 n2 c2) rfl; have x1 := hH4.cell 1 (v := .slice B2 m2 k2) rfl
                have lS4 := hS4.lt; have lL4 := hL4.lt; have lR4 := hR4.lt; have lH4 := hH4.lt
                have H4 := Lib.hid (And.intro (H3.out.1.up hb4 (by omega)) (And.intro hH4 (And.intro hS4 (And.intro hL4 (And.intro hR4 (H3.out.2.2.2.2.2.trans (hb4.mono (by omega))))))))
                clear hb4 hS4 hL4 hR4 hH4)))
  refine bodyPost_ret (v := .tuple #[.agg #[.slice A2 n2 c2, .slice B2 m2 k2], .int .u8 0, .int .i64 0]) (by simp [results, Try.results19, go_sem, r0, r1]) rfl ?_
  have hfin := (H4.out.1.setLow (P := w.heap.size + 1 + 1) (by omega) (by omega) 0 (.slice A2 n2 c2)).setLow (P := w.heap.size + 1 + 1) (by omega) (by omega) 1 (.slice B2 m2 k2)
  exact ⟨A2, n2, c2, B2, m2, k2, rfl, (hfin.read (by simp [World.setCell]; omega)).1, (H4.out.2.2.2.2.2.setCell (p := ⟨w.heap.size + 1 + 1, 0, none⟩) (by show w.heap.size ≤ w.heap.size + 1 + 1; omega) _).setCell (p := ⟨w.heap.size + 1 + 1, 1, none⟩) (by show w.heap.size ≤ w.heap.size + 1 + 1; omega) _⟩
end Go.Proofs.Ytcmdmmphakclmaa
