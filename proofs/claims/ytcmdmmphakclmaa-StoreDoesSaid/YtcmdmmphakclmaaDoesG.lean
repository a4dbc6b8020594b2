/-
  The reference's Put: an old letter, a gap, the letter goes in; the whole.
-/
import Derived.Test.YtcmdmmphakclmaaDoesF
namespace Go.Proofs.Ytcmdmmphakclmaa
open Go.RowKit Go.Sort
set_option linter.unusedVariables false
attribute [local go_sem ↓] Go.wp_at_zero Go.wp_at_succ

set_option maxRecDepth 100000 in
set_option maxHeartbeats 4000000 in
theorem rput_old (b off : Nat) (n cap : Nat) (B : Option Addr) (m cap' : Nat) (s : St) (f t : Nat) (sq : Int) (hsq0 : 0 ≤ sq) (T : Option Addr) (tn tc : Nat) (w : World) (hs : StAt w (lo w.heap.size) (some ⟨b, off, none⟩) n B m s) (hf : StFit 140737488355328 s) (hc : checkB s = true) (hE : errLet false (f : Int) (t : Int) sq tn = 0) (d1 : decide (n ≤ f) = false) (d2 : decide (n ≤ t) = false) (hfn : f < n) (x : Int) (hbl : b < w.heap.size) (hx : w.cell? ⟨b, off + f, none⟩ = some (.int .u64 x)) (hle : decide (sq ≤ x) = true) :
    Calls Try.prog 19 #[.agg #[.slice (some ⟨b, off, none⟩) n cap, .slice B m cap'], .agg #[.bool false, .int .i64 (f : Int), .int .i64 (t : Int), .int .u64 sq, .slice T tn tc]] w (RPutRet s 1 0 w) := by
  have HE := Lib.hid hE; clear hE
  have HC := Lib.hid (show errArg (checkB s) = 0 by rw [hc]; rfl); clear hc
  have HS0 := Lib.hid hs
  have HS := Lib.hid (hs.below (W3.below w (.slice (some ⟨b, off, none⟩) n cap) (.slice B m cap') (.bool false) (.int .i64 (f : Int)) (.int .i64 (t : Int)) (.int .u64 sq) (.slice T tn tc)) (W3.below w (.slice (some ⟨b, off, none⟩) n cap) (.slice B m cap') (.bool false) (.int .i64 (f : Int)) (.int .i64 (t : Int)) (.int .u64 sq) (.slice T tn tc)).size); clear hs
  have HF := Lib.hid hf; clear hf
  go_enter Try.func19, Try.ntmps19
  go_upto_region 5 with (first
    | (go_at_call 22
       go_loud (skip
                refine (rcheck_any (some ⟨b, off, none⟩) n cap B m cap' s _ HS.out).mono ?_; rintro e w1 ⟨rfl, hb1⟩; rw [HC.out]
                have HB1 := Lib.hid (show Below (w.heap.size + 3) (W3 w (.slice (some ⟨b, off, none⟩) n cap) (.slice B m cap') (.bool false) (.int .i64 (f : Int)) (.int .i64 (t : Int)) (.int .u64 sq) (.slice T tn tc)) w1 from by have := hb1; rw [← W3.size w (.slice (some ⟨b, off, none⟩) n cap) (.slice B m cap') (.bool false) (.int .i64 (f : Int)) (.int .i64 (t : Int)) (.int .u64 sq) (.slice T tn tc)]; exact hb1)
                have z1 : w.heap.size + 3 ≤ w1.heap.size := by (have h9 := HB1.out.size; rw [W3.size] at h9; omega)
                obtain ⟨gS, gL, gR⟩ := mem3 HB1.out rfl
                have a0 := gS.cell 0 (v := .slice (some ⟨b, off, none⟩) n cap) rfl; have a1 := gS.cell 1 (v := .slice B m cap') rfl
                have HM1 := Lib.hid (And.intro gS (And.intro gL gR))
                have HBW := Lib.hid ((W3.below w (.slice (some ⟨b, off, none⟩) n cap) (.slice B m cap') (.bool false) (.int .i64 (f : Int)) (.int .i64 (t : Int)) (.int .u64 sq) (.slice T tn tc)).trans (HB1.out.mono (by omega)))
                clear gS gL gR hb1))
    | (go_at_call 27
       go_loud (skip
                refine (own_any w1 (some ⟨b, off, none⟩) n cap B m cap' s w.heap.size (by omega) (HS0.out.keep (fun p hp => HBW.out.cell hp) (fun _ h => h)) HF.out).mono ?_
                rintro e w2 ⟨W, ρ, A2, n2, c2, B2, m2, k2, bvs, rfl, hO, hn2, hm2, hW1, hW2, hb2⟩
                obtain rfl : n2 = n := hn2.symm.trans HS.out.lastN
                obtain rfl : m2 = m := hm2.symm.trans HS.out.boxesN
                have z2 := hb2.size
                have HO := Lib.hid (And.intro hO (And.intro hm2 (And.intro hb2 hn2)))
                clear hO hn2 hm2 hb2 a0 a1)))
  obtain ⟨w3, hw3⟩ : ∃ w3, w2.alloc (.cells #[.slice A2 n2 c2, .slice B2 m2 k2] 28) = w3 := ⟨_, rfl⟩
  have hba : Below w2.heap.size w2 w3 := by rw [← hw3]; exact (Below.refl _ _).alloc (Nat.le_refl _) _
  have z3 : w3.heap.size = w2.heap.size + 1 := by rw [← hw3]; simp
  have hH3 : Blk w3 w2.heap.size 28 #[.slice A2 n2 c2, .slice B2 m2 k2] := by rw [← hw3]; exact Blk.new _ _ _ rfl
  have hb13 : Below w1.heap.size w1 w3 := HO.out.2.2.1.trans (hba.mono z2)
  have hS3 := HM1.out.1.below hb13 (by omega)
  have hL3 := HM1.out.2.1.below hb13 (by omega)
  have hR3 := HM1.out.2.2.below hb13 (by omega)
  have hO3 := HO.out.1.up hba (by omega)
  have hW3 : W ≤ w3.heap.size := by omega
  have hbw3 : Below w.heap.size w w3 := HBW.out.trans (hb13.mono (by omega))
  rw [hw3]
  have a0 := hS3.cell 0 (v := .slice (some ⟨b, off, none⟩) n2 cap) rfl; have a1 := hS3.cell 1 (v := .slice B m2 cap') rfl
  have l0 := hL3.cell 0 (v := .bool false) rfl; have l1 := hL3.cell 1 (v := .int .i64 (f : Int)) rfl; have l2 := hL3.cell 2 (v := .int .i64 (t : Int)) rfl; have l3 := hL3.cell 3 (v := .int .u64 sq) rfl; have l4 := hL3.cell 4 (v := .slice T tn tc) rfl
  have r0 := hR3.cell 0 (v := .slice none 0 0) rfl; have r1 := hR3.cell 1 (v := .slice none 0 0) rfl; have fR := hR3.frozen
  have x0 := hH3.cell 0 (v := .slice A2 n2 c2) rfl; have x1 := hH3.cell 1 (v := .slice B2 m2 k2) rfl
  have H3 := Lib.hid (And.intro hO3 (And.intro hH3 (And.intro hS3 (And.intro hL3 (And.intro hR3 hbw3)))))
  clear hO3 hH3 hS3 hL3 hR3 hbw3 hba hw3 hb13
  go_upto_region 7 with (first
    | (go_at_call 12
       go_loud (skip
                refine (r10check_any false (f : Int) (t : Int) sq hsq0 T tn tc w3).mono ?_; rintro e w4 ⟨rfl, hb4⟩; rw [HE.out]
                have z4 := hb4.size
                have hS4 := H3.out.2.2.1.below hb4 (by omega)
                have hL4 := H3.out.2.2.2.1.below hb4 (by omega)
                have hR4 := H3.out.2.2.2.2.1.below hb4 (by omega)
                have hH4 := H3.out.2.1.below hb4 (by omega)
                clear a0 a1 l0 l1 l2 l3 l4 r0 r1 fR x0 x1
                have a0 := hS4.cell 0 (v := .slice (some ⟨b, off, none⟩) n2 cap) rfl; have a1 := hS4.cell 1 (v := .slice B m2 cap') rfl
                have l0 := hL4.cell 0 (v := .bool false) rfl; have l1 := hL4.cell 1 (v := .int .i64 (f : Int)) rfl; have l2 := hL4.cell 2 (v := .int .i64 (t : Int)) rfl; have l3 := hL4.cell 3 (v := .int .u64 sq) rfl; have l4 := hL4.cell 4 (v := .slice T tn tc) rfl
                have r0 := hR4.cell 0 (v := .slice none 0 0) rfl; have r1 := hR4.cell 1 (v := .slice none 0 0) rfl; have fR := hR4.frozen
                have x0 := hH4.cell 0 (v := .slice A2 n2 c2) rfl; have x1 := hH4.cell 1 (v := .slice B2 m2 k2) rfl
                have lS4 := hS4.lt; have lL4 := hL4.lt; have lR4 := hR4.lt; have lH4 := hH4.lt
                have H4 := Lib.hid (And.intro (H3.out.1.up hb4 (by omega)) (And.intro hH4 (And.intro hS4 (And.intro hL4 (And.intro hR4 (H3.out.2.2.2.2.2.trans (hb4.mono (by omega))))))))
                clear hb4 hS4 hL4 hR4 hH4)))
  have hx4 := (H4.out.2.2.2.2.2.cell (p := ⟨b, off + f, none⟩) hbl).trans hx
  refine rput_r7 w4 w.heap.size (w.heap.size + 1) b off n2 cap f sq x a0 l1 l3 hx4 hfn ?_
  intro d41 d42 d43 d44 d45 d46 d47 d48 w5 hb5
  rw [hle]
  clear hx4
  have hS9 := H4.out.2.2.1.below hb5 (by omega)
  have hL9 := H4.out.2.2.2.1.below hb5 (by omega)
  have hR9 := H4.out.2.2.2.2.1.below hb5 (by omega)
  have hH9 := H4.out.2.1.below hb5 (by omega)
  have zzw5 := hb5.size
  clear a0 a1 l0 l1 l2 l3 l4 r0 r1 fR x0 x1
  have a0 := hS9.cell 0 (v := .slice (some ⟨b, off, none⟩) n2 cap) rfl; have a1 := hS9.cell 1 (v := .slice B m2 cap') rfl
  have l0 := hL9.cell 0 (v := .bool false) rfl; have l1 := hL9.cell 1 (v := .int .i64 (f : Int)) rfl; have l2 := hL9.cell 2 (v := .int .i64 (t : Int)) rfl; have l3 := hL9.cell 3 (v := .int .u64 sq) rfl; have l4 := hL9.cell 4 (v := .slice T tn tc) rfl
  have r0 := hR9.cell 0 (v := .slice none 0 0) rfl; have r1 := hR9.cell 1 (v := .slice none 0 0) rfl; have fR := hR9.frozen
  have x0 := hH9.cell 0 (v := .slice A2 n2 c2) rfl; have x1 := hH9.cell 1 (v := .slice B2 m2 k2) rfl
  have H5 := Lib.hid (And.intro (H4.out.1.up hb5 (by omega)) (And.intro hH9 (And.intro hS9 (And.intro hL9 (And.intro hR9 (H4.out.2.2.2.2.2.trans (hb5.mono (by omega))))))))
  clear hb5 hS9 hL9 hR9 hH9
  go_wp2
  refine bodyPost_ret (v := .tuple #[.agg #[.slice A2 n2 c2, .slice B2 m2 k2], .int .u8 1, .int .i64 0]) (by simp [results, Try.results19, go_sem, r0, r1]) rfl ?_
  have hfin := (H5.out.1.setLow (P := w.heap.size + 1 + 1) (by omega) (by omega) 0 (.slice A2 n2 c2)).setLow (P := w.heap.size + 1 + 1) (by omega) (by omega) 1 (.slice B2 m2 k2)
  exact ⟨A2, n2, c2, B2, m2, k2, rfl, (hfin.read (by simp [World.setCell]; omega)).1, (H5.out.2.2.2.2.2.setCell (p := ⟨w.heap.size + 1 + 1, 0, none⟩) (by show w.heap.size ≤ w.heap.size + 1 + 1; omega) _).setCell (p := ⟨w.heap.size + 1 + 1, 1, none⟩) (by show w.heap.size ≤ w.heap.size + 1 + 1; omega) _⟩
set_option maxRecDepth 100000 in
set_option maxHeartbeats 4000000 in
theorem rput_gap (b off : Nat) (n cap : Nat) (B : Option Addr) (m cap' : Nat) (s : St) (f t : Nat) (sq : Int) (hsq0 : 0 ≤ sq) (T : Option Addr) (tn tc : Nat) (w : World) (hs : StAt w (lo w.heap.size) (some ⟨b, off, none⟩) n B m s) (hf : StFit 140737488355328 s) (hc : checkB s = true) (hE : errLet false (f : Int) (t : Int) sq tn = 0) (d1 : decide (n ≤ f) = false) (d2 : decide (n ≤ t) = false) (hfn : f < n) (x : Int) (hbl : b < w.heap.size) (hx : w.cell? ⟨b, off + f, none⟩ = some (.int .u64 x)) (hle : decide (sq ≤ x) = false) (hs1 : 1 ≤ sq) (hs2 : sq ≤ 18446744073709551615) (hgap : (sq - 1 != x) = true) :
    Calls Try.prog 19 #[.agg #[.slice (some ⟨b, off, none⟩) n cap, .slice B m cap'], .agg #[.bool false, .int .i64 (f : Int), .int .i64 (t : Int), .int .u64 sq, .slice T tn tc]] w (RPutRet s 0 0 w) := by
  have HE := Lib.hid hE; clear hE
  have HC := Lib.hid (show errArg (checkB s) = 0 by rw [hc]; rfl); clear hc
  have HS0 := Lib.hid hs
  have HS := Lib.hid (hs.below (W3.below w (.slice (some ⟨b, off, none⟩) n cap) (.slice B m cap') (.bool false) (.int .i64 (f : Int)) (.int .i64 (t : Int)) (.int .u64 sq) (.slice T tn tc)) (W3.below w (.slice (some ⟨b, off, none⟩) n cap) (.slice B m cap') (.bool false) (.int .i64 (f : Int)) (.int .i64 (t : Int)) (.int .u64 sq) (.slice T tn tc)).size); clear hs
  have HF := Lib.hid hf; clear hf
  go_enter Try.func19, Try.ntmps19
  go_upto_region 5 with (first
    | (go_at_call 22
       go_loud (skip
                refine (rcheck_any (some ⟨b, off, none⟩) n cap B m cap' s _ HS.out).mono ?_; rintro e w1 ⟨rfl, hb1⟩; rw [HC.out]
                have HB1 := Lib.hid (show Below (w.heap.size + 3) (W3 w (.slice (some ⟨b, off, none⟩) n cap) (.slice B m cap') (.bool false) (.int .i64 (f : Int)) (.int .i64 (t : Int)) (.int .u64 sq) (.slice T tn tc)) w1 from by have := hb1; rw [← W3.size w (.slice (some ⟨b, off, none⟩) n cap) (.slice B m cap') (.bool false) (.int .i64 (f : Int)) (.int .i64 (t : Int)) (.int .u64 sq) (.slice T tn tc)]; exact hb1)
                have z1 : w.heap.size + 3 ≤ w1.heap.size := by (have h9 := HB1.out.size; rw [W3.size] at h9; omega)
                obtain ⟨gS, gL, gR⟩ := mem3 HB1.out rfl
                have a0 := gS.cell 0 (v := .slice (some ⟨b, off, none⟩) n cap) rfl; have a1 := gS.cell 1 (v := .slice B m cap') rfl
                have HM1 := Lib.hid (And.intro gS (And.intro gL gR))
                have HBW := Lib.hid ((W3.below w (.slice (some ⟨b, off, none⟩) n cap) (.slice B m cap') (.bool false) (.int .i64 (f : Int)) (.int .i64 (t : Int)) (.int .u64 sq) (.slice T tn tc)).trans (HB1.out.mono (by omega)))
                clear gS gL gR hb1))
    | (go_at_call 27
       go_loud (skip
                refine (own_any w1 (some ⟨b, off, none⟩) n cap B m cap' s w.heap.size (by omega) (HS0.out.keep (fun p hp => HBW.out.cell hp) (fun _ h => h)) HF.out).mono ?_
                rintro e w2 ⟨W, ρ, A2, n2, c2, B2, m2, k2, bvs, rfl, hO, hn2, hm2, hW1, hW2, hb2⟩
                obtain rfl : n2 = n := hn2.symm.trans HS.out.lastN
                obtain rfl : m2 = m := hm2.symm.trans HS.out.boxesN
                have z2 := hb2.size
                have HO := Lib.hid (And.intro hO (And.intro hm2 (And.intro hb2 hn2)))
                clear hO hn2 hm2 hb2 a0 a1)))
  obtain ⟨w3, hw3⟩ : ∃ w3, w2.alloc (.cells #[.slice A2 n2 c2, .slice B2 m2 k2] 28) = w3 := ⟨_, rfl⟩
  have hba : Below w2.heap.size w2 w3 := by rw [← hw3]; exact (Below.refl _ _).alloc (Nat.le_refl _) _
  have z3 : w3.heap.size = w2.heap.size + 1 := by rw [← hw3]; simp
  have hH3 : Blk w3 w2.heap.size 28 #[.slice A2 n2 c2, .slice B2 m2 k2] := by rw [← hw3]; exact Blk.new _ _ _ rfl
  have hb13 : Below w1.heap.size w1 w3 := HO.out.2.2.1.trans (hba.mono z2)
  have hS3 := HM1.out.1.below hb13 (by omega)
  have hL3 := HM1.out.2.1.below hb13 (by omega)
  have hR3 := HM1.out.2.2.below hb13 (by omega)
  have hO3 := HO.out.1.up hba (by omega)
  have hW3 : W ≤ w3.heap.size := by omega
  have hbw3 : Below w.heap.size w w3 := HBW.out.trans (hb13.mono (by omega))
  rw [hw3]
  have a0 := hS3.cell 0 (v := .slice (some ⟨b, off, none⟩) n2 cap) rfl; have a1 := hS3.cell 1 (v := .slice B m2 cap') rfl
  have l0 := hL3.cell 0 (v := .bool false) rfl; have l1 := hL3.cell 1 (v := .int .i64 (f : Int)) rfl; have l2 := hL3.cell 2 (v := .int .i64 (t : Int)) rfl; have l3 := hL3.cell 3 (v := .int .u64 sq) rfl; have l4 := hL3.cell 4 (v := .slice T tn tc) rfl
  have r0 := hR3.cell 0 (v := .slice none 0 0) rfl; have r1 := hR3.cell 1 (v := .slice none 0 0) rfl; have fR := hR3.frozen
  have x0 := hH3.cell 0 (v := .slice A2 n2 c2) rfl; have x1 := hH3.cell 1 (v := .slice B2 m2 k2) rfl
  have H3 := Lib.hid (And.intro hO3 (And.intro hH3 (And.intro hS3 (And.intro hL3 (And.intro hR3 hbw3)))))
  clear hO3 hH3 hS3 hL3 hR3 hbw3 hba hw3 hb13
  go_upto_region 7 with (first
    | (go_at_call 12
       go_loud (skip
                refine (r10check_any false (f : Int) (t : Int) sq hsq0 T tn tc w3).mono ?_; rintro e w4 ⟨rfl, hb4⟩; rw [HE.out]
                have z4 := hb4.size
                have hS4 := H3.out.2.2.1.below hb4 (by omega)
                have hL4 := H3.out.2.2.2.1.below hb4 (by omega)
                have hR4 := H3.out.2.2.2.2.1.below hb4 (by omega)
                have hH4 := H3.out.2.1.below hb4 (by omega)
                clear a0 a1 l0 l1 l2 l3 l4 r0 r1 fR x0 x1
                have a0 := hS4.cell 0 (v := .slice (some ⟨b, off, none⟩) n2 cap) rfl; have a1 := hS4.cell 1 (v := .slice B m2 cap') rfl
                have l0 := hL4.cell 0 (v := .bool false) rfl; have l1 := hL4.cell 1 (v := .int .i64 (f : Int)) rfl; have l2 := hL4.cell 2 (v := .int .i64 (t : Int)) rfl; have l3 := hL4.cell 3 (v := .int .u64 sq) rfl; have l4 := hL4.cell 4 (v := .slice T tn tc) rfl
                have r0 := hR4.cell 0 (v := .slice none 0 0) rfl; have r1 := hR4.cell 1 (v := .slice none 0 0) rfl; have fR := hR4.frozen
                have x0 := hH4.cell 0 (v := .slice A2 n2 c2) rfl; have x1 := hH4.cell 1 (v := .slice B2 m2 k2) rfl
                have lS4 := hS4.lt; have lL4 := hL4.lt; have lR4 := hR4.lt; have lH4 := hH4.lt
                have H4 := Lib.hid (And.intro (H3.out.1.up hb4 (by omega)) (And.intro hH4 (And.intro hS4 (And.intro hL4 (And.intro hR4 (H3.out.2.2.2.2.2.trans (hb4.mono (by omega))))))))
                clear hb4 hS4 hL4 hR4 hH4)))
  have hx4 := (H4.out.2.2.2.2.2.cell (p := ⟨b, off + f, none⟩) hbl).trans hx
  refine rput_r7 w4 w.heap.size (w.heap.size + 1) b off n2 cap f sq x a0 l1 l3 hx4 hfn ?_
  intro d41 d42 d43 d44 d45 d46 d47 d48 w5 hb5
  rw [hle]
  clear hx4
  have hS9 := H4.out.2.2.1.below hb5 (by omega)
  have hL9 := H4.out.2.2.2.1.below hb5 (by omega)
  have hR9 := H4.out.2.2.2.2.1.below hb5 (by omega)
  have hH9 := H4.out.2.1.below hb5 (by omega)
  have zzw5 := hb5.size
  clear a0 a1 l0 l1 l2 l3 l4 r0 r1 fR x0 x1
  have a0 := hS9.cell 0 (v := .slice (some ⟨b, off, none⟩) n2 cap) rfl; have a1 := hS9.cell 1 (v := .slice B m2 cap') rfl
  have l0 := hL9.cell 0 (v := .bool false) rfl; have l1 := hL9.cell 1 (v := .int .i64 (f : Int)) rfl; have l2 := hL9.cell 2 (v := .int .i64 (t : Int)) rfl; have l3 := hL9.cell 3 (v := .int .u64 sq) rfl; have l4 := hL9.cell 4 (v := .slice T tn tc) rfl
  have r0 := hR9.cell 0 (v := .slice none 0 0) rfl; have r1 := hR9.cell 1 (v := .slice none 0 0) rfl; have fR := hR9.frozen
  have x0 := hH9.cell 0 (v := .slice A2 n2 c2) rfl; have x1 := hH9.cell 1 (v := .slice B2 m2 k2) rfl
  have H5 := Lib.hid (And.intro (H4.out.1.up hb5 (by omega)) (And.intro hH9 (And.intro hS9 (And.intro hL9 (And.intro hR9 (H4.out.2.2.2.2.2.trans (hb5.mono (by omega))))))))
  clear hb5 hS9 hL9 hR9 hH9
  have hx5 := (H5.out.2.2.2.2.2.cell (p := ⟨b, off + f, none⟩) hbl).trans hx
  go_upto_region 9 with fail
  refine rput_r9 w5 w.heap.size (w.heap.size + 1) b off n2 cap f sq x a0 l1 l3 hx5 hfn hs1 hs2 ?_
  intro d51 d52 d53 d54 d55 d56 d57 d58 d59 w6 hb6
  rw [hgap]
  clear hx5
  have hS9 := H5.out.2.2.1.below hb6 (by omega)
  have hL9 := H5.out.2.2.2.1.below hb6 (by omega)
  have hR9 := H5.out.2.2.2.2.1.below hb6 (by omega)
  have hH9 := H5.out.2.1.below hb6 (by omega)
  have zzw6 := hb6.size
  clear a0 a1 l0 l1 l2 l3 l4 r0 r1 fR x0 x1
  have a0 := hS9.cell 0 (v := .slice (some ⟨b, off, none⟩) n2 cap) rfl; have a1 := hS9.cell 1 (v := .slice B m2 cap') rfl
  have l0 := hL9.cell 0 (v := .bool false) rfl; have l1 := hL9.cell 1 (v := .int .i64 (f : Int)) rfl; have l2 := hL9.cell 2 (v := .int .i64 (t : Int)) rfl; have l3 := hL9.cell 3 (v := .int .u64 sq) rfl; have l4 := hL9.cell 4 (v := .slice T tn tc) rfl
  have r0 := hR9.cell 0 (v := .slice none 0 0) rfl; have r1 := hR9.cell 1 (v := .slice none 0 0) rfl; have fR := hR9.frozen
  have x0 := hH9.cell 0 (v := .slice A2 n2 c2) rfl; have x1 := hH9.cell 1 (v := .slice B2 m2 k2) rfl
  have H6 := Lib.hid (And.intro (H5.out.1.up hb6 (by omega)) (And.intro hH9 (And.intro hS9 (And.intro hL9 (And.intro hR9 (H5.out.2.2.2.2.2.trans (hb6.mono (by omega))))))))
  clear hb6 hS9 hL9 hR9 hH9
  go_wp2
  refine bodyPost_ret (v := .tuple #[.agg #[.slice A2 n2 c2, .slice B2 m2 k2], .int .u8 0, .int .i64 0]) (by simp [results, Try.results19, go_sem, r0, r1]) rfl ?_
  have hfin := (H6.out.1.setLow (P := w.heap.size + 1 + 1) (by omega) (by omega) 0 (.slice A2 n2 c2)).setLow (P := w.heap.size + 1 + 1) (by omega) (by omega) 1 (.slice B2 m2 k2)
  exact ⟨A2, n2, c2, B2, m2, k2, rfl, (hfin.read (by simp [World.setCell]; omega)).1, (H6.out.2.2.2.2.2.setCell (p := ⟨w.heap.size + 1 + 1, 0, none⟩) (by show w.heap.size ≤ w.heap.size + 1 + 1; omega) _).setCell (p := ⟨w.heap.size + 1 + 1, 1, none⟩) (by show w.heap.size ≤ w.heap.size + 1 + 1; omega) _⟩
set_option maxRecDepth 100000 in
set_option maxHeartbeats 4000000 in
theorem rput_new (b off : Nat) (n cap : Nat) (B : Option Addr) (m cap' : Nat) (s : St) (f t : Nat) (sq : Int) (hsq0 : 0 ≤ sq) (T : Option Addr) (tn tc : Nat) (w : World) (hs : StAt w (lo w.heap.size) (some ⟨b, off, none⟩) n B m s) (hf : StFit 140737488355328 s) (hc : checkB s = true) (hE : errLet false (f : Int) (t : Int) sq tn = 0) (d1 : decide (n ≤ f) = false) (d2 : decide (n ≤ t) = false) (hfn : f < n) (x : Int) (hbl : b < w.heap.size) (hx : w.cell? ⟨b, off + f, none⟩ = some (.int .u64 x)) (hle : decide (sq ≤ x) = false) (hs1 : 1 ≤ sq) (hs2 : sq ≤ 18446744073709551615) (hgap : (sq - 1 != x) = false) (hsx : sq = x + 1) (hx0 : 0 ≤ x) (hxl : s.last[f]? = some x) (htm : t < m) (hm8 : m ≤ 8) (bx : List Lt) (hbx : s.boxes[t]? = some bx) (hq2 : bx.length ≤ 2513169434915) (text : List Int) (hl : LtAt w (lo w.heap.size) T tn tc ⟨false, (f : Int), (t : Int), sq, text⟩) :
    Calls Try.prog 19 #[.agg #[.slice (some ⟨b, off, none⟩) n cap, .slice B m cap'], .agg #[.bool false, .int .i64 (f : Int), .int .i64 (t : Int), .int .u64 sq, .slice T tn tc]] w (RPutRet { last := s.last.set f sq, boxes := s.boxes.set t (bx ++ [⟨false, (f : Int), (t : Int), sq, text⟩]) } 1 0 w) := by
  have HE := Lib.hid hE; clear hE
  have HL := Lib.hid (And.intro hl (And.intro hxl (And.intro hbx hsx))); clear hl hxl hbx hsx
  have HC := Lib.hid (show errArg (checkB s) = 0 by rw [hc]; rfl); clear hc
  have HS0 := Lib.hid hs
  have HS := Lib.hid (hs.below (W3.below w (.slice (some ⟨b, off, none⟩) n cap) (.slice B m cap') (.bool false) (.int .i64 (f : Int)) (.int .i64 (t : Int)) (.int .u64 sq) (.slice T tn tc)) (W3.below w (.slice (some ⟨b, off, none⟩) n cap) (.slice B m cap') (.bool false) (.int .i64 (f : Int)) (.int .i64 (t : Int)) (.int .u64 sq) (.slice T tn tc)).size); clear hs
  have HF := Lib.hid hf; clear hf
  go_enter Try.func19, Try.ntmps19
  go_upto_region 5 with (first
    | (go_at_call 22
       go_loud (skip
                refine (rcheck_any (some ⟨b, off, none⟩) n cap B m cap' s _ HS.out).mono ?_; rintro e w1 ⟨rfl, hb1⟩; rw [HC.out]
                have HB1 := Lib.hid (show Below (w.heap.size + 3) (W3 w (.slice (some ⟨b, off, none⟩) n cap) (.slice B m cap') (.bool false) (.int .i64 (f : Int)) (.int .i64 (t : Int)) (.int .u64 sq) (.slice T tn tc)) w1 from by have := hb1; rw [← W3.size w (.slice (some ⟨b, off, none⟩) n cap) (.slice B m cap') (.bool false) (.int .i64 (f : Int)) (.int .i64 (t : Int)) (.int .u64 sq) (.slice T tn tc)]; exact hb1)
                have z1 : w.heap.size + 3 ≤ w1.heap.size := by (have h9 := HB1.out.size; rw [W3.size] at h9; omega)
                obtain ⟨gS, gL, gR⟩ := mem3 HB1.out rfl
                have a0 := gS.cell 0 (v := .slice (some ⟨b, off, none⟩) n cap) rfl; have a1 := gS.cell 1 (v := .slice B m cap') rfl
                have HM1 := Lib.hid (And.intro gS (And.intro gL gR))
                have HBW := Lib.hid ((W3.below w (.slice (some ⟨b, off, none⟩) n cap) (.slice B m cap') (.bool false) (.int .i64 (f : Int)) (.int .i64 (t : Int)) (.int .u64 sq) (.slice T tn tc)).trans (HB1.out.mono (by omega)))
                clear gS gL gR hb1))
    | (go_at_call 27
       go_loud (skip
                refine (own_any w1 (some ⟨b, off, none⟩) n cap B m cap' s w.heap.size (by omega) (HS0.out.keep (fun p hp => HBW.out.cell hp) (fun _ h => h)) HF.out).mono ?_
                rintro e w2 ⟨W, ρ, A2, n2, c2, B2, m2, k2, bvs, rfl, hO, hn2, hm2, hW1, hW2, hb2⟩
                obtain rfl : n2 = n := hn2.symm.trans HS.out.lastN
                obtain rfl : m2 = m := hm2.symm.trans HS.out.boxesN
                have z2 := hb2.size
                have HO := Lib.hid (And.intro hO (And.intro hm2 (And.intro hb2 hn2)))
                clear hO hn2 hm2 hb2 a0 a1)))
  obtain ⟨w3, hw3⟩ : ∃ w3, w2.alloc (.cells #[.slice A2 n2 c2, .slice B2 m2 k2] 28) = w3 := ⟨_, rfl⟩
  have hba : Below w2.heap.size w2 w3 := by rw [← hw3]; exact (Below.refl _ _).alloc (Nat.le_refl _) _
  have z3 : w3.heap.size = w2.heap.size + 1 := by rw [← hw3]; simp
  have hH3 : Blk w3 w2.heap.size 28 #[.slice A2 n2 c2, .slice B2 m2 k2] := by rw [← hw3]; exact Blk.new _ _ _ rfl
  have hb13 : Below w1.heap.size w1 w3 := HO.out.2.2.1.trans (hba.mono z2)
  have hS3 := HM1.out.1.below hb13 (by omega)
  have hL3 := HM1.out.2.1.below hb13 (by omega)
  have hR3 := HM1.out.2.2.below hb13 (by omega)
  have hO3 := HO.out.1.up hba (by omega)
  have hW3 : W ≤ w3.heap.size := by omega
  have hbw3 : Below w.heap.size w w3 := HBW.out.trans (hb13.mono (by omega))
  rw [hw3]
  have a0 := hS3.cell 0 (v := .slice (some ⟨b, off, none⟩) n2 cap) rfl; have a1 := hS3.cell 1 (v := .slice B m2 cap') rfl
  have l0 := hL3.cell 0 (v := .bool false) rfl; have l1 := hL3.cell 1 (v := .int .i64 (f : Int)) rfl; have l2 := hL3.cell 2 (v := .int .i64 (t : Int)) rfl; have l3 := hL3.cell 3 (v := .int .u64 sq) rfl; have l4 := hL3.cell 4 (v := .slice T tn tc) rfl
  have r0 := hR3.cell 0 (v := .slice none 0 0) rfl; have r1 := hR3.cell 1 (v := .slice none 0 0) rfl; have fR := hR3.frozen
  have x0 := hH3.cell 0 (v := .slice A2 n2 c2) rfl; have x1 := hH3.cell 1 (v := .slice B2 m2 k2) rfl
  have H3 := Lib.hid (And.intro hO3 (And.intro hH3 (And.intro hS3 (And.intro hL3 (And.intro hR3 hbw3)))))
  clear hO3 hH3 hS3 hL3 hR3 hbw3 hba hw3 hb13
  go_upto_region 7 with (first
    | (go_at_call 12
       go_loud (skip
                refine (r10check_any false (f : Int) (t : Int) sq hsq0 T tn tc w3).mono ?_; rintro e w4 ⟨rfl, hb4⟩; rw [HE.out]
                have z4 := hb4.size
                have hS4 := H3.out.2.2.1.below hb4 (by omega)
                have hL4 := H3.out.2.2.2.1.below hb4 (by omega)
                have hR4 := H3.out.2.2.2.2.1.below hb4 (by omega)
                have hH4 := H3.out.2.1.below hb4 (by omega)
                clear a0 a1 l0 l1 l2 l3 l4 r0 r1 fR x0 x1
                have a0 := hS4.cell 0 (v := .slice (some ⟨b, off, none⟩) n2 cap) rfl; have a1 := hS4.cell 1 (v := .slice B m2 cap') rfl
                have l0 := hL4.cell 0 (v := .bool false) rfl; have l1 := hL4.cell 1 (v := .int .i64 (f : Int)) rfl; have l2 := hL4.cell 2 (v := .int .i64 (t : Int)) rfl; have l3 := hL4.cell 3 (v := .int .u64 sq) rfl; have l4 := hL4.cell 4 (v := .slice T tn tc) rfl
                have r0 := hR4.cell 0 (v := .slice none 0 0) rfl; have r1 := hR4.cell 1 (v := .slice none 0 0) rfl; have fR := hR4.frozen
                have x0 := hH4.cell 0 (v := .slice A2 n2 c2) rfl; have x1 := hH4.cell 1 (v := .slice B2 m2 k2) rfl
                have lS4 := hS4.lt; have lL4 := hL4.lt; have lR4 := hR4.lt; have lH4 := hH4.lt
                have H4 := Lib.hid (And.intro (H3.out.1.up hb4 (by omega)) (And.intro hH4 (And.intro hS4 (And.intro hL4 (And.intro hR4 (H3.out.2.2.2.2.2.trans (hb4.mono (by omega))))))))
                clear hb4 hS4 hL4 hR4 hH4)))
  have hx4 := (H4.out.2.2.2.2.2.cell (p := ⟨b, off + f, none⟩) hbl).trans hx
  refine rput_r7 w4 w.heap.size (w.heap.size + 1) b off n2 cap f sq x a0 l1 l3 hx4 hfn ?_
  intro d41 d42 d43 d44 d45 d46 d47 d48 w5 hb5
  rw [hle]
  clear hx4
  have hS9 := H4.out.2.2.1.below hb5 (by omega)
  have hL9 := H4.out.2.2.2.1.below hb5 (by omega)
  have hR9 := H4.out.2.2.2.2.1.below hb5 (by omega)
  have hH9 := H4.out.2.1.below hb5 (by omega)
  have zzw5 := hb5.size
  clear a0 a1 l0 l1 l2 l3 l4 r0 r1 fR x0 x1
  have a0 := hS9.cell 0 (v := .slice (some ⟨b, off, none⟩) n2 cap) rfl; have a1 := hS9.cell 1 (v := .slice B m2 cap') rfl
  have l0 := hL9.cell 0 (v := .bool false) rfl; have l1 := hL9.cell 1 (v := .int .i64 (f : Int)) rfl; have l2 := hL9.cell 2 (v := .int .i64 (t : Int)) rfl; have l3 := hL9.cell 3 (v := .int .u64 sq) rfl; have l4 := hL9.cell 4 (v := .slice T tn tc) rfl
  have r0 := hR9.cell 0 (v := .slice none 0 0) rfl; have r1 := hR9.cell 1 (v := .slice none 0 0) rfl; have fR := hR9.frozen
  have x0 := hH9.cell 0 (v := .slice A2 n2 c2) rfl; have x1 := hH9.cell 1 (v := .slice B2 m2 k2) rfl
  have H5 := Lib.hid (And.intro (H4.out.1.up hb5 (by omega)) (And.intro hH9 (And.intro hS9 (And.intro hL9 (And.intro hR9 (H4.out.2.2.2.2.2.trans (hb5.mono (by omega))))))))
  clear hb5 hS9 hL9 hR9 hH9
  have hx5 := (H5.out.2.2.2.2.2.cell (p := ⟨b, off + f, none⟩) hbl).trans hx
  go_upto_region 9 with fail
  refine rput_r9 w5 w.heap.size (w.heap.size + 1) b off n2 cap f sq x a0 l1 l3 hx5 hfn hs1 hs2 ?_
  intro d51 d52 d53 d54 d55 d56 d57 d58 d59 w6 hb6
  rw [hgap]
  clear hx5
  have hS9 := H5.out.2.2.1.below hb6 (by omega)
  have hL9 := H5.out.2.2.2.1.below hb6 (by omega)
  have hR9 := H5.out.2.2.2.2.1.below hb6 (by omega)
  have hH9 := H5.out.2.1.below hb6 (by omega)
  have zzw6 := hb6.size
  clear a0 a1 l0 l1 l2 l3 l4 r0 r1 fR x0 x1
  have a0 := hS9.cell 0 (v := .slice (some ⟨b, off, none⟩) n2 cap) rfl; have a1 := hS9.cell 1 (v := .slice B m2 cap') rfl
  have l0 := hL9.cell 0 (v := .bool false) rfl; have l1 := hL9.cell 1 (v := .int .i64 (f : Int)) rfl; have l2 := hL9.cell 2 (v := .int .i64 (t : Int)) rfl; have l3 := hL9.cell 3 (v := .int .u64 sq) rfl; have l4 := hL9.cell 4 (v := .slice T tn tc) rfl
  have r0 := hR9.cell 0 (v := .slice none 0 0) rfl; have r1 := hR9.cell 1 (v := .slice none 0 0) rfl; have fR := hR9.frozen
  have x0 := hH9.cell 0 (v := .slice A2 n2 c2) rfl; have x1 := hH9.cell 1 (v := .slice B2 m2 k2) rfl
  have H6 := Lib.hid (And.intro (H5.out.1.up hb6 (by omega)) (And.intro hH9 (And.intro hS9 (And.intro hL9 (And.intro hR9 (H5.out.2.2.2.2.2.trans (hb6.mono (by omega))))))))
  clear hb6 hS9 hL9 hR9 hH9
  obtain ⟨gL, hgLA, hgLW, hgLl, hgLf, -, -⟩ := H6.out.1.last.addr (by rw [HO.out.2.2.2]; omega)
  subst hgLA
  have hxg : w6.cell? ⟨gL, f, none⟩ = some (.int .u64 x) := by
    obtain ⟨cells, hel, hce⟩ := H6.out.1.last.cells
    obtain ⟨cs, ⟨rfl, _⟩, hcc⟩ := hel.2 f x HL.out.2.1
    have h9 := hcc 0 _ rfl
    obtain ⟨bb, oo, hA, hcell⟩ := hce _ _ h9
    injection hA with e; injection e with e1 e2
    subst e1 e2
    simpa [Rint] using hcell
  have e1 : (0 : Int) ≤ (f : Int) := by omega
  have e2 : (f : Int) < (n2 : Int) := by omega
  have hx1 : x + 1 ≤ 18446744073709551615 := by have := HL.out.2.2.2; omega
  go_upto_region 12 with fail
  obtain ⟨w7, hw7⟩ : ∃ w7, w6.setCell ⟨gL, f, none⟩ (.int .u64 (x + 1)) = w7 := ⟨_, rfl⟩
  have hO7 := H6.out.1.putLast (by omega) (i := f) (by rw [HO.out.2.2.2]; exact hfn) (x := x + 1) (WalkArith.wf_u64 ⟨by omega, by omega⟩)
  have hk7 : ∀ k, k ≠ gL → w7.heap[k]? = w6.heap[k]? := fun k hk => by rw [← hw7]; exact Below.heap_setCell w6 ⟨gL, f, none⟩ _ k hk
  have hz7 : w7.heap.size = w6.heap.size := by rw [← hw7]; simp [World.setCell]
  have hb7 : Below W w6 w7 := by rw [← hw7]; exact (Below.refl W w6).setCell (p := ⟨gL, f, none⟩) hgLW _
  rw [hw7] at hO7 ⊢
  have hgLH : gL ≠ w2.heap.size := by
    intro e9
    have h9 := H6.out.1.lastR gL rfl
    have h8 : newR w5 (newR w4 (newR w3 (newR w2 ρ))) w2.heap.size = 0 := by
      rw [newR_old (by omega), newR_old (by omega), newR_old (by omega)]
      exact if_neg (by omega)
    rw [e9] at h9
    omega
  obtain ⟨g, hgA, hgW, hgl, hgf, -, -⟩ := hO7.row.addr (by rw [hO7.len, HO.out.2.1]; omega)
  subst hgA
  have hv := List.getElem?_eq_getElem (l := bvs) (i := t) (by rw [hO7.len]; show t < s.boxes.length; rw [HO.out.2.1]; exact htm)
  generalize bvs[t]'(by rw [hO7.len]; show t < s.boxes.length; rw [HO.out.2.1]; exact htm) = v at hv
  obtain ⟨ho, hor⟩ := hO7.box t v bx hv HL.out.2.2.1
  obtain ⟨AB, qc, rfl⟩ := ho.form
  obtain ⟨q, hq⟩ : ∃ q, bx.length = q := ⟨_, rfl⟩
  rw [hq] at ho hor hv hq2
  have hgc : w7.cell? ⟨g, t, none⟩ = some (.slice AB q qc) := by
    obtain ⟨cells, hel, hce⟩ := hO7.row.cells
    obtain ⟨cs, ⟨rfl, _⟩, hcc⟩ := hel.2 t _ hv
    have h9 := hcc 0 _ rfl
    obtain ⟨bb, oo, hA, hcell⟩ := hce _ _ h9
    injection hA with e; injection e with e1 e2
    subst e1 e2
    simpa [Rraw] using hcell
  have hg2 := hO7.rowR g rfl
  have hρH : newR w5 (newR w4 (newR w3 (newR w2 ρ))) w2.heap.size = 0 := by
    rw [newR_old (by omega), newR_old (by omega), newR_old (by omega)]
    exact if_neg (by omega)
  have hgH : w2.heap.size ≠ g := by intro e9; rw [← e9, hρH] at hg2; omega
  have hH7 := (hk7 w2.heap.size (fun e => hgLH e.symm)).trans H6.out.2.1
  have hX7 := (hk7 (w.heap.size + 1) (by omega)).trans H6.out.2.2.2.1
  have hR7 := (hk7 (w.heap.size + 2) (by omega)).trans H6.out.2.2.2.2.1
  have hbw7 : Below w.heap.size w w7 := H6.out.2.2.2.2.2.trans (hb7.mono (by omega))
  have hWw7 : W ≤ w7.heap.size := by omega
  have H7 := Lib.hid (And.intro hO7 (And.intro hH7 (And.intro hX7 (And.intro hR7 (And.intro hbw7 (And.intro ho (And.intro hor (And.intro hq hgc))))))))
  have HF7 := Lib.hid hgf
  clear hO7 hH7 hX7 hR7 hbw7 ho hor hq hgc hgf hv hk7 hw7 hg2 hb7 hxg hgLf
  refine rput_r12 w7 W w.heap.size w2.heap.size (w.heap.size + 1) g m2 k2 t q qc _ AB ⟨false, (f : Int), (t : Int), sq, text⟩ T tn tc bx H7.out.2.1 H7.out.2.2.1 rfl H7.out.2.2.2.2.2.2.2.2 HF7.out hgl hgH (by omega) htm hm8 H7.out.2.2.2.2.2.1 H7.out.2.2.2.2.2.2.2.1 (by omega) (by omega) hWw7 ⟨HL.out.1.fr, HL.out.1.to_, HL.out.1.sq, HL.out.1.len, HL.out.1.le, HL.out.1.cap, HL.out.1.text.keep (fun p hp => H7.out.2.2.2.2.1.cell hp) (fun _ h => h)⟩ (fun k hk => by
    have h9 := H7.out.2.2.2.2.2.2.1 k hk
    have h8 := (H7.out.2.2.2.2.2.1.lt hk).1
    refine ⟨fun e9 => ?_, fun e9 => by omega, fun e9 => ?_⟩
    · rw [e9, hρH] at h9; omega
    · have h7 := H7.out.1.rowR g rfl; rw [e9, h7] at h9; omega) ?_
  intro d70 d71 d72 d73 d74 d75 d76 d77 d78 d79 d80 d81 d82 d83 A' c' w8 ho8 hk8 hb8 hne8
  have zz8 := hb8.size
  have hsl8 := (ho8.slice (S' := fun k => Ap w8 w.heap.size W k ∧ k ≠ g) (fun b' hb' => by have h9 : b' < w.heap.size := hb'; exact ⟨⟨by omega, .inl h9⟩, by omega⟩) (fun g' hg' hlt => ⟨⟨hlt, .inr (ho8.lt hg').1⟩, hne8 g' hg'⟩))
  have hPB := H7.out.1.putBox (w' := w8) (i := t) (by omega) hWw7 (by show t < s.boxes.length; rw [HO.out.2.1]; exact htm) (fun k hk h9 => hk8 k hk (fun e9 => by
    have h8 := H7.out.2.2.2.2.2.2.1 k e9
    have h7 := (H7.out.2.2.2.2.2.1.lt e9).1
    rcases h9 with h9 | h9
    · omega
    · exact h9 h8)) zz8 hsl8.2.2.2 (c' := c') (by rw [List.length_append, H7.out.2.2.2.2.2.2.2.1]; try rfl) (by have := hsl8.2.1; rw [List.length_append, H7.out.2.2.2.2.2.2.2.1] at this; exact this) hsl8.2.2.1
  have hzs : (w8.setCell ⟨g, t, none⟩ (.slice A' (q + 1) c')).heap.size = w8.heap.size := by simp [World.setCell]
  have nown : ∀ k, k < w7.heap.size → k ≠ g → (∀ h9 : (Value.slice AB q qc).ownBlock = some k, False) → (w8.setCell ⟨g, t, none⟩ (.slice A' (q + 1) c')).heap[k]? = w7.heap[k]? := fun k hk hkg hn => (Below.heap_setCell w8 ⟨g, t, none⟩ _ k hkg).trans (hk8 k hk (fun e9 => hn e9))
  have hH8 : Blk (w8.setCell ⟨g, t, none⟩ (.slice A' (q + 1) c')) w2.heap.size 28 #[.slice (some ⟨gL, 0, none⟩) n2 c2, .slice (some ⟨g, 0, none⟩) m2 k2] := (nown _ (by omega) hgH (fun e9 => by have h9 := H7.out.2.2.2.2.2.2.1 _ e9; rw [hρH] at h9; omega)).trans H7.out.2.1
  have hR8 : Blk (w8.setCell ⟨g, t, none⟩ (.slice A' (q + 1) c')) (w.heap.size + 2) 28 #[.slice none 0 0, .slice none 0 0] := (nown _ (by omega) (by omega) (fun e9 => by have h8 := (H7.out.2.2.2.2.2.1.lt e9).1; omega)).trans H7.out.2.2.2.1
  have hbw8 : Below w.heap.size w (w8.setCell ⟨g, t, none⟩ (.slice A' (q + 1) c')) := (H7.out.2.2.2.2.1.trans (hb8.mono (by omega))).setCell (p := ⟨g, t, none⟩) (by show w.heap.size ≤ g; omega) _
  have H8 := Lib.hid (And.intro hPB (And.intro hR8 hbw8))
  have x0' := hH8.cell 0 (v := .slice (some ⟨gL, 0, none⟩) n2 c2) rfl; have x1' := hH8.cell 1 (v := .slice (some ⟨g, 0, none⟩) m2 k2) rfl
  have r0' := hR8.cell 0 (v := .slice none 0 0) rfl; have r1' := hR8.cell 1 (v := .slice none 0 0) rfl; have fR8 := hR8.frozen
  have lH8 := hH8.lt; have lR8 := hR8.lt
  clear hPB hR8 hbw8 hsl8 ho8 hk8 hb8 nown hH8 a0 a1 l0 l1 l2 l3 l4 r0 r1 fR x0 x1
  generalize (w8.setCell ⟨g, t, none⟩ (.slice A' (q + 1) c')) = w9 at *
  go_wp2
  refine bodyPost_ret (v := .tuple #[.agg #[.slice (some ⟨gL, 0, none⟩) n2 c2, .slice (some ⟨g, 0, none⟩) m2 k2], .int .u8 1, .int .i64 0]) (by simp [results, Try.results19, go_sem, r0', r1']) rfl ?_
  refine ⟨_, _, _, _, _, _, rfl, ?_, (H8.out.2.2.setCell (p := ⟨w.heap.size + 1 + 1, 0, none⟩) (by show w.heap.size ≤ w.heap.size + 1 + 1; omega) _).setCell (p := ⟨w.heap.size + 1 + 1, 1, none⟩) (by show w.heap.size ≤ w.heap.size + 1 + 1; omega) _⟩
  have hfin := H8.out.1
  rw [show x + 1 = sq from HL.out.2.2.2.symm] at hfin
  refine hfin.keep (fun p hp => World.cell?_of_block ((Below.heap_setCell _ ⟨w.heap.size + 1 + 1, 1, none⟩ _ _ ?_).trans (Below.heap_setCell _ ⟨w.heap.size + 1 + 1, 0, none⟩ _ _ ?_))) (fun b' hb' => by have h9 := hb'.1; simp [World.setCell, lo]; omega)
  · show p.block ≠ w.heap.size + 1 + 1
    rcases hp.2 with h9 | h9 <;> omega
  · show p.block ≠ w.heap.size + 1 + 1
    rcases hp.2 with h9 | h9 <;> omega
theorem rnew_any (c sq : Int) (hc : (Lit.int .i64 c).wf = true) (hq : (Lit.int .u64 sq).wf = true) (w : World) : Calls Try.prog 18 #[.int .i64 c, .int .u64 sq] w (RNewRet (newS c sq).1 (newS c sq).2 w) := by
  have hb := bounds_u64 hq
  by_cases h : 1 ≤ c ∧ c ≤ 8 ∧ sq ≠ 0
  · have e : newS c sq = ({ last := List.replicate c.toNat (sq - 1), boxes := List.replicate c.toNat [] }, 0) := by unfold newS; rw [if_pos h]
    rw [e]
    obtain ⟨k, rfl⟩ : ∃ k : Nat, c = k := ⟨c.toNat, by omega⟩
    rw [Int.toNat_natCast]
    exact rnew_ok k sq (by omega) (by omega) (by omega) hb.2 w
  · have e : newS c sq = (noSt, 1) := by unfold newS; rw [if_neg h]
    rw [e]
    exact rnew_bad c sq h w
theorem rput_any (A : Option Addr) (n cap : Nat) (B : Option Addr) (m cap' : Nat) (s : St) (l : Lt) (T : Option Addr) (tn tc : Nat) (w : World) (hs : StAt w (lo w.heap.size) A n B m s) (hf : StFit 140737488355272 s) (hl : LtAt w (lo w.heap.size) T tn tc l) :
    Calls Try.prog 19 #[.agg #[.slice A n cap, .slice B m cap'], .agg #[.bool l.cover, .int .i64 l.fr, .int .i64 l.to, .int .u64 l.sq, .slice T tn tc]] w (RPutRet (putR s l).1 (putR s l).2.1 (putR s l).2.2 w) := by
  have hsq := bounds_u64 hl.sq
  have hf' : StFit 140737488355328 s := ⟨by have := hf.last; omega, by have := hf.boxes; omega, fun b hb => by have := hf.box b hb; omega, fun b hb l hl => by have := hf.text b hb l hl; omega⟩
  by_cases hc : checkB s = true
  rotate_left
  · have e : putR s l = (noSt, 0, 1) := by unfold putR; rw [if_neg hc]
    rw [e]
    exact rput_bad A n cap B m cap' s l.cover l.fr l.to l.sq T tn tc w hs (by simpa using hc)
  obtain ⟨hp1, hp8, hpm⟩ := check_lens hc
  have hn := hs.lastN; have hm := hs.boxesN
  have e : putR s l = ((putS s l).1, (putS s l).2, 0) := by unfold putR; rw [if_pos hc]
  rw [e]
  have hkl : keepLt l = keepL l.cover l.fr l.to l.sq tn := by unfold keepLt; rw [hl.len]
  by_cases hk : keepLt l = true
  rotate_left
  · have e2 : putS s l = (s, 0) := by unfold putS; rw [if_neg (fun h => hk h.1)]
    rw [e2]
    rw [hkl] at hk
    obtain ⟨cv, fr, tt, sq, tx⟩ := l
    cases cv with
    | true => exact rput_cover A n cap B m cap' s fr tt sq T tn tc w hs hf' hc
    | false => exact rput_err A n cap B m cap' s fr tt sq hsq.1 T tn tc w hs hf' hc _ rfl (fun h0 => hk (by show keepL false fr tt sq tn = true; unfold keepL; rw [h0]; rfl))
  have hk' : keepL l.cover l.fr l.to l.sq tn = true := hkl.symm.trans hk
  obtain ⟨hcv, hf0, hf7, ht0, ht7, hq1, ht64⟩ := keep_bounds hk'
  obtain ⟨f, hff⟩ : ∃ f : Nat, l.fr = f := ⟨l.fr.toNat, by omega⟩
  obtain ⟨t, htt⟩ : ∃ t : Nat, l.to = t := ⟨l.to.toNat, by omega⟩
  obtain ⟨cv, fr, tt, sq, tx⟩ := l
  simp only at hcv hff htt hq1 hsq hf0 hf7 ht0 ht7
  subst hcv hff htt
  have hE : errLet false (f : Int) (t : Int) sq tn = 0 := by
    have h9 : keepL false (f : Int) (t : Int) sq tn = true := hk'
    unfold keepL at h9
    simpa using h9
  by_cases hfn : f < n
  rotate_left
  · have e2 : putS s ⟨false, (f : Int), (t : Int), sq, tx⟩ = (s, 0) := by unfold putS; rw [if_neg (fun h => by have h9 : (f : Int) < s.last.length := h.2.1; omega)]
    rw [e2]
    exact rput_far1 A n cap B m cap' s f t sq hsq.1 T tn tc w hs hf' hc hE (decide_eq_true (by omega))
  by_cases htn : t < n
  rotate_left
  · have e2 : putS s ⟨false, (f : Int), (t : Int), sq, tx⟩ = (s, 0) := by unfold putS; rw [if_neg (fun h => by have h9 : (t : Int) < s.last.length := h.2.2; omega)]
    rw [e2]
    exact rput_far2 A n cap B m cap' s f t sq hsq.1 T tn tc w hs hf' hc hE (decide_eq_false (by omega)) (decide_eq_true (by omega))
  have hx := List.getElem?_eq_getElem (l := s.last) (i := f) (by omega)
  generalize s.last[f]'(by omega) = x at hx
  have hlo : lastOf s (f : Int) = x := by unfold lastOf; rw [Int.toNat_natCast, List.getD_eq_getElem?_getD, hx]; rfl
  have hA := hs.last.int hx
  obtain ⟨b, off, rfl, hbl, hxw, hxc⟩ := hA
  have hxb := bounds_u64 hxw
  have hyes : keepLt ⟨false, (f : Int), (t : Int), sq, tx⟩ = true ∧ (f : Int) < s.last.length ∧ (t : Int) < s.last.length := ⟨hk, by omega, by omega⟩
  by_cases hle : sq ≤ x
  · have e2 : putS s ⟨false, (f : Int), (t : Int), sq, tx⟩ = (s, 1) := by unfold putS; rw [if_pos hyes, hlo, if_pos hle]
    rw [e2]
    exact rput_old b off n cap B m cap' s f t sq hsq.1 T tn tc w hs hf' hc hE (decide_eq_false (by omega)) (decide_eq_false (by omega)) hfn x hbl hxc (decide_eq_true hle)
  by_cases hg : sq - x = 1
  · have e2 : putS s ⟨false, (f : Int), (t : Int), sq, tx⟩ = (putIn s ⟨false, (f : Int), (t : Int), sq, tx⟩, 1) := by unfold putS; rw [if_pos hyes, hlo, if_neg hle, if_pos hg]
    rw [e2]
    have hbx := List.getElem?_eq_getElem (l := s.boxes) (i := t) (by omega)
    generalize s.boxes[t]'(by omega) = box at hbx
    have hbo : boxOf s (t : Int) = box := by unfold boxOf; rw [Int.toNat_natCast, List.getD_eq_getElem?_getD, hbx]; rfl
    have e3 : putIn s ⟨false, (f : Int), (t : Int), sq, tx⟩ = { last := s.last.set f sq, boxes := s.boxes.set t (box ++ [⟨false, (f : Int), (t : Int), sq, tx⟩]) } := by
      unfold putIn; simp only [Int.toNat_natCast, hbo]
    rw [e3]
    exact rput_new b off n cap B m cap' s f t sq hsq.1 T tn tc w hs hf' hc hE (decide_eq_false (by omega)) (decide_eq_false (by omega)) hfn x hbl hxc (decide_eq_false hle) hq1 hsq.2 (by simp; omega) (by omega) hxb.1 hx (by omega) (by omega) box hbx (by have := hf.box _ (List.mem_of_getElem? hbx); omega) tx hl
  · have e2 : putS s ⟨false, (f : Int), (t : Int), sq, tx⟩ = (s, 0) := by unfold putS; rw [if_pos hyes, hlo, if_neg hle, if_neg hg]
    rw [e2]
    exact rput_gap b off n cap B m cap' s f t sq hsq.1 T tn tc w hs hf' hc hE (decide_eq_false (by omega)) (decide_eq_false (by omega)) hfn x hbl hxc (decide_eq_false hle) hq1 hsq.2 (by simp; omega)
end Go.Proofs.Ytcmdmmphakclmaa
