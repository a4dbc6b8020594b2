/-
  NetDoes: the walk.
-/
import Derived.Test.YtponbodiibkopaaRSend
import Derived.Test.YtponbodiibkopaaRDue
namespace Go.Proofs.Ytponbodiibkopaa
open Go.RowKit Go.Sort
set_option linter.unusedVariables false

/-- A net in a variable. -/
structure NB (w : World) (g : Nat) (A : Option Addr) (n c : Nat) (B : Option Addr) (m d : Nat) (x : Nt) : Prop where
  blk : Blk w g 25 #[.slice A n c, .slice B m d]
  net : NtAt w (lo w.heap.size) A n B m x
  n64 : n ≤ 9223372036854775807
  m64 : m ≤ 9223372036854775807
theorem NB.below {w w' : World} {g : Nat} {A : Option Addr} {n c : Nat} {B : Option Addr} {m d : Nat} {x : Nt} (h : NB w g A n c B m d x) (hb : Below w.heap.size w w') : NB w' g A n c B m d x :=
  ⟨h.blk.below hb h.blk.lt, h.net.below hb hb.size, h.n64, h.m64⟩
theorem NB.new {w : World} {A : Option Addr} {n c : Nat} {B : Option Addr} {m d : Nat} {x : Nt} (h : NtAt w (lo w.heap.size) A n B m x) (hn : n ≤ 9223372036854775807) (hm : m ≤ 9223372036854775807) : NB (w.alloc (.cells #[.slice A n c, .slice B m d] 25)) w.heap.size A n c B m d x :=
  ⟨Blk.new _ _ _ rfl, h.up1 _, hn, hm⟩
theorem NB.alloc {w : World} {g : Nat} {A : Option Addr} {n c : Nat} {B : Option Addr} {m d : Nat} {x : Nt} (h : NB w g A n c B m d x) (o : Obj) : NB (w.alloc o) g A n c B m d x := h.below ((Below.refl _ _).alloc (Nat.le_refl _) _)
theorem sameNet_at (w : World) (x y : Nt) (A : Option Addr) (n c : Nat) (B : Option Addr) (m d : Nat) (A2 : Option Addr) (n2 c2 : Nat) (B2 : Option Addr) (m2 d2 : Nat) (h : NtAt w (lo w.heap.size) A n B m x) (k : NtAt w (lo w.heap.size) A2 n2 B2 m2 y) (hn : n ≤ 9223372036854775807) (hm : m ≤ 9223372036854775807) (hxy : x = y) :
    Calls Try.prog 15 #[.agg #[.slice A n c, .slice B m d], .agg #[.slice A2 n2 c2, .slice B2 m2 d2]] w fun e w' => e = .returned (.bool true) ∧ Below w.heap.size w w' := by
  subst hxy
  have hb0 : RowKit.Below w.heap.size w ((w.alloc (.cells #[.slice A n c, .slice B m d] 25)).alloc (.cells #[.slice A2 n2 c2, .slice B2 m2 d2] 25)) := ((Below.refl _ _).alloc (Nat.le_refl _) _).alloc (by simp) _
  have hB := (Blk.new w 25 #[.slice A n c, .slice B m d] (g := w.heap.size) rfl).alloc (.cells #[.slice A2 n2 c2, .slice B2 m2 d2] 25)
  have hR := Blk.new (w.alloc (.cells #[.slice A n c, .slice B m d] 25)) 25 #[.slice A2 n2 c2, .slice B2 m2 d2] (g := w.heap.size + 1) (by simp)
  have h0 := h.below hb0 hb0.size; have k0 := k.below hb0 hb0.size
  clear h k
  go_enter Try.func15, Try.ntmps15
  go_upto_region 1 with fail
  generalize ((w.alloc (.cells #[.slice A n c, .slice B m d] 25)).alloc (.cells #[.slice A2 n2 c2, .slice B2 m2 d2] 25)) = w0 at *
  have b0 := hB.cell 0 (v := .slice A n c) rfl; have b1 := hB.cell 1 (v := .slice B m d) rfl
  have c0 := hR.cell 0 (v := .slice A2 n2 c2) rfl; have c1 := hR.cell 1 (v := .slice B2 m2 d2) rfl
  have H0 := Lib.hid (And.intro hb0 (And.intro hB (And.intro hR (And.intro h0 k0))))
  clear hb0 hB hR h0 k0
  go_wp2_with (first
    | (go_at_call 16
       go_loud (skip
                refine (sameFlights_any A x.list n c H0.out.2.2.2.1.listN A2 x.list n2 c2 H0.out.2.2.2.2.listN w0 H0.out.2.2.2.1.list H0.out.2.2.2.2.list hn).mono ?_
                rintro e w1 ⟨rfl, hb1⟩
                rw [decide_eq_true rfl]
                clear b0 b1 c0 c1
                have b1 := (H0.out.2.1.below hb1 H0.out.2.1.lt).cell 1 (v := .slice B m d) rfl
                have c1 := (H0.out.2.2.1.below hb1 H0.out.2.2.1.lt).cell 1 (v := .slice B2 m2 d2) rfl
                have H1 := Lib.hid hb1
                clear hb1))
    | (go_at_call 18
       go_loud (skip
                refine (sameInts_any B x.fates m d H0.out.2.2.2.1.fatesN B2 x.fates m2 d2 H0.out.2.2.2.2.fatesN w1 (H0.out.2.2.2.1.below H1.out H1.out.size).fates (H0.out.2.2.2.2.below H1.out H1.out.size).fates hm).mono ?_
                rintro e w2 ⟨rfl, hb2⟩
                rw [decide_eq_true rfl]
                have H2 := Lib.hid (H1.out.trans (hb2.mono H1.out.size))
                clear hb2)))
  go_ret
  exact ⟨rfl, H0.out.1.trans (H2.out.mono H0.out.1.size)⟩
set_option maxRecDepth 100000 in
set_option maxHeartbeats 4000000 in
theorem netDoes_walk (x : Nt) (A : Option Addr) (n c : Nat) (B : Option Addr) (m d : Nat) (now fr tgt : Int) (T : Option Addr) (body : List Int) (k kc : Nat) (w : World) (hs : NtArg w A n c B m d x) (hfr : (Lit.int .i64 fr).wf = true) (htg : (Lit.int .i64 tgt).wf = true) (hk : body.length = k) (hkc : k ≤ kc) (hkm : kc ≤ maxLen) (hT : Sl (Rint .u8) w (lo w.heap.size) T body) :
    Calls Try.prog 3 #[.agg #[.slice A n c, .slice B m d], .int .i64 now, .int .i64 fr, .int .i64 tgt, .slice T k kc] w fun e w' => e = .returned (.bool true) ∧ Below w.heap.size w w' := by
  have HS := Lib.hid hs; clear hs
  have hn64 := HS.out.n64; have hm64 := HS.out.m64
  have hnl : n * 48 ≤ 140737488355328 := by have h1 := HS.out.fit.list; rw [HS.out.at_.listN] at h1; omega
  have hml : m * 8 ≤ 140737488355328 := by have h1 := HS.out.fit.fates; rw [HS.out.at_.fatesN] at h1; exact h1
  have HT := Lib.hid (And.intro hk hT); clear hk hT
  have HW := Lib.hid (And.intro hfr htg); clear hfr htg
  go_enter Try.func3, Try.ntmps3
  go_upto_region 5 with (first
    | (go_at_call 9
       go_loud (skip
                refine (live_any _).mono ?_
                rintro e w1 ⟨rfl, hb1⟩
                have HM1 := Lib.hid ((Law1.start w 25 #[.slice A n c, .slice B m d]).up hb1)
                have a0 := HM1.out.1.cell 0 (v := .slice A n c) rfl; have a1 := HM1.out.1.cell 1 (v := .slice B m d) rfl
                clear hb1))
    | (go_at_call 10
       go_loud (skip
                refine (few_any _ x A n c B m d (HS.out.at_.below HM1.out.2.1 HM1.out.2.1.size) HS.out.n64).mono ?_
                rintro e w2 ⟨⟨few, rfl⟩, hb2⟩
                have HM2 := Lib.hid (HM1.out.up hb2)
                clear a0 a1
                have a0 := HM2.out.1.cell 0 (v := .slice A n c) rfl; have a1 := HM2.out.1.cell 1 (v := .slice B m d) rfl
                clear hb2 HM1))
    )
  all_goals try (go_ret; exact ⟨rfl, HM2.out.2.1⟩)
  have hk3 : k ≤ 300 := by omega
  refine does_r5 w2 w.heap.size w2.heap.size (Nat.le_refl _) x.list x.fates A n c B m d HM2.out.1 HS.out.at_.listN HS.out.at_.fatesN (HS.out.below HM2.out.2.1).at_.list (HS.out.below HM2.out.2.1).at_.fates hnl hml ?_
  intro d28 d29 d30 d31 d32 d33 d34 E A3 c3 B3 d3 w3 gE hL hF hb3 hE0 hd1 hd2
  have hA3 : NB w3 E A3 n c3 B3 m d3 x := by
    obtain ⟨q1, _, _, q4⟩ := hL.slice (S' := lo w3.heap.size) (fun b hb => by have h8 : b < w2.heap.size := hb; have := hb3.size; show b < _; omega) (fun g _ hlt => hlt)
    obtain ⟨p1, _, _, p4⟩ := hF.slice (S' := lo w3.heap.size) (fun b hb => by have h8 : b < w2.heap.size := hb; have := hb3.size; show b < _; omega) (fun g _ hlt => hlt)
    exact ⟨gE, ⟨q4, q1.symm, p4, p1.symm⟩, hn64, hm64⟩
  have HM3 := Lib.hid (HM2.out.up hb3)
  have H3 := Lib.hid hA3
  clear gE hL hF hb3 hE0 hd1 hd2 hA3 a0 a1
  have a0 := HM3.out.1.cell 0 (v := .slice A n c) rfl; have a1 := HM3.out.1.cell 1 (v := .slice B m d) rfl
  go_upto_region 7 with (go_at_call 11
                         go_loud (skip
                                  refine (send_any w3 x A n c B m d now fr tgt body T k kc (HS.out.at_.below HM3.out.2.1 HM3.out.2.1.size) HS.out.fit HS.out.md HS.out.dm HT.out.1 (HT.out.2.below HM3.out.2.1 HM3.out.2.1.size) (by omega) HW.out.1 HW.out.2).mono ?_
                                  rintro e w4 ⟨A4, n4, c4, B4, m4, d4, rfl, hnt, hc4, hcm4, hmd4, hdm4, hb4⟩
                                  have HM4 := Lib.hid (HM3.out.up hb4)
                                  have H4 := Lib.hid (And.intro (H3.out.below hb4) (show NtAt w4 (lo w4.heap.size) A4 n4 B4 m4 _ from ⟨hnt.list.more (fun b hb => hb.2), hnt.listN, hnt.fates.more (fun b hb => hb.2), hnt.fatesN⟩))
                                  have hn4 := maxLen_le (Nat.le_trans hc4 hcm4); have hm4 := maxLen_le (Nat.le_trans hmd4 hdm4)
                                  clear hnt hb4 a0 a1))
  have HM5 := Lib.hid (HM4.out.alloc (.cells #[.slice A4 n4 c4, .slice B4 m4 d4] 25))
  have H5 := Lib.hid (And.intro (NB.new (c := c4) (d := d4) H4.out.2 hn4 hm4) (H4.out.1.alloc (.cells #[.slice A4 n4 c4, .slice B4 m4 d4] 25)))
  generalize (w4.alloc (.cells #[.slice A4 n4 c4, .slice B4 m4 d4] 25)) = w5 at *
  have a0 := HM5.out.1.cell 0 (v := .slice A n c) rfl; have a1 := HM5.out.1.cell 1 (v := .slice B m d) rfl
  go_upto_region 8 with (go_at_call 12
                         go_loud (skip
                                  refine (rsend_any w5 x A n c B m d now fr tgt body T k kc (HS.out.below HM5.out.2.1) HT.out.1 hkc hkm (HT.out.2.below HM5.out.2.1 HM5.out.2.1.size) HW.out.1 HW.out.2).mono ?_
                                  rintro e w6 ⟨A6, n6, c6, B6, m6, d6, rfl, hnt, hn6, hm6, hb6⟩
                                  have HM6 := Lib.hid (HM5.out.up hb6)
                                  have H6 := Lib.hid (And.intro (H5.out.1.below hb6) (And.intro (H5.out.2.below hb6) hnt))
                                  clear hnt hb6 a0 a1))
  have HM7 := Lib.hid (HM6.out.alloc (.cells #[.slice A6 n6 c6, .slice B6 m6 d6] 25))
  have H7 := Lib.hid (And.intro (NB.new (c := c6) (d := d6) H6.out.2.2 hn6 hm6) (And.intro (H6.out.1.alloc (.cells #[.slice A6 n6 c6, .slice B6 m6 d6] 25)) (H6.out.2.1.alloc (.cells #[.slice A6 n6 c6, .slice B6 m6 d6] 25))))
  generalize (w6.alloc (.cells #[.slice A6 n6 c6, .slice B6 m6 d6] 25)) = w7 at *
  have a0 := HM7.out.1.cell 0 (v := .slice A n c) rfl; have a1 := HM7.out.1.cell 1 (v := .slice B m d) rfl
  go_upto_region 9 with (go_at_call 13
                         go_loud (skip
                                  refine (due_full w7 x A n c B m d now (HS.out.below HM7.out.2.1)).mono ?_
                                  rintro e w8 ⟨A8, n8, c8, A9, n9, c9, B9, m9, d9, l, rfl, hd8, hn8, hc8, hm8, hs8, ha8, hb8⟩
                                  have HM8 := Lib.hid (HM7.out.up hb8)
                                  have zw8 := HM8.out.2.2
                                  have hn9 := ha8.n64; have hm9 := ha8.m64; have hn8z := maxLen_le (Nat.le_trans hc8 hm8)
                                  have H8 := Lib.hid (And.intro (H7.out.1.below hb8) (And.intro (H7.out.2.1.below hb8) (And.intro (H7.out.2.2.below hb8) (And.intro hd8 (And.intro hn8 (And.intro hs8 ha8.at_))))))
                                  clear hd8 hn8 hc8 hm8 hs8 ha8 hb8 a0 a1))
  have HM9 := Lib.hid (HM8.out.alloc (.cells #[.slice A9 n9 c9, .slice B9 m9 d9] 25))
  have H9 := Lib.hid (And.intro (NB.new (c := c9) (d := d9) H8.out.2.2.2.2.2.2 hn9 hm9) (And.intro (H8.out.1.alloc (.cells #[.slice A9 n9 c9, .slice B9 m9 d9] 25)) (And.intro (H8.out.2.1.alloc (.cells #[.slice A9 n9 c9, .slice B9 m9 d9] 25)) (And.intro (H8.out.2.2.1.alloc (.cells #[.slice A9 n9 c9, .slice B9 m9 d9] 25)) (H8.out.2.2.2.2.2.1.up1 (.cells #[.slice A9 n9 c9, .slice B9 m9 d9] 25))))))
  generalize (w8.alloc (.cells #[.slice A9 n9 c9, .slice B9 m9 d9] 25)) = w9 at *
  have a0 := HM9.out.1.cell 0 (v := .slice A n c) rfl; have a1 := HM9.out.1.cell 1 (v := .slice B m d) rfl
  go_upto_region 10 with (go_at_call 14
                          go_loud (skip
                                   refine (rdue_any w9 x A n c B m d now (HS.out.below HM9.out.2.1)).mono ?_
                                   rintro e w10 ⟨A10, n10, c10, A11, n11, c11, B11, m11, d11, j, rfl, hd10, hn10, hc10, hm10, hs10, ha10, hb10⟩
                                   have HM10 := Lib.hid (HM9.out.up hb10)
                                   have zw10 := HM10.out.2.2
                                   have hn11 := ha10.n64; have hm11 := ha10.m64
                                   have H10 := Lib.hid (And.intro (H9.out.1.below hb10) (And.intro (H9.out.2.1.below hb10) (And.intro (H9.out.2.2.1.below hb10) (And.intro (H9.out.2.2.2.1.below hb10) (And.intro (H9.out.2.2.2.2.below hb10 hb10.size) (And.intro hn10 (And.intro hs10 (And.intro ha10.at_ (H8.out.2.2.2.1.unique hd10)))))))))
                                   clear hd10 hn10 hc10 hm10 hs10 ha10 hb10 a0 a1))
  have HM11 := Lib.hid (HM10.out.alloc (.cells #[.slice A11 n11 c11, .slice B11 m11 d11] 25))
  have H11 := Lib.hid (And.intro (NB.new (c := c11) (d := d11) H10.out.2.2.2.2.2.2.2.1 hn11 hm11) (And.intro (H10.out.1.alloc (.cells #[.slice A11 n11 c11, .slice B11 m11 d11] 25)) (And.intro (H10.out.2.1.alloc (.cells #[.slice A11 n11 c11, .slice B11 m11 d11] 25)) (And.intro (H10.out.2.2.1.alloc (.cells #[.slice A11 n11 c11, .slice B11 m11 d11] 25)) (And.intro (H10.out.2.2.2.1.alloc (.cells #[.slice A11 n11 c11, .slice B11 m11 d11] 25)) (And.intro (H10.out.2.2.2.2.1.up1 (.cells #[.slice A11 n11 c11, .slice B11 m11 d11] 25)) (H10.out.2.2.2.2.2.2.1.up1 (.cells #[.slice A11 n11 c11, .slice B11 m11 d11] 25))))))))
  generalize (w10.alloc (.cells #[.slice A11 n11 c11, .slice B11 m11 d11] 25)) = w11 at *
  have x0 := H11.out.2.2.2.1.blk.cell 0 (v := .slice A4 n4 c4) rfl; have x1 := H11.out.2.2.2.1.blk.cell 1 (v := .slice B4 m4 d4) rfl
  have y0 := H11.out.2.2.1.blk.cell 0 (v := .slice A6 n6 c6) rfl; have y1 := H11.out.2.2.1.blk.cell 1 (v := .slice B6 m6 d6) rfl
  have F1 : True := trivial
  have F2 : True := trivial
  go_wp2_with (first
    | (go_at_call 15
       clear F1
       go_loud (skip
                refine (sameNet_at w11 _ _ A4 n4 c4 B4 m4 d4 A6 n6 c6 B6 m6 d6 H11.out.2.2.2.1.net H11.out.2.2.1.net hn4 hm4 rfl).mono ?_
                rintro e w12 ⟨rfl, hb12⟩
                have H12 := Lib.hid hb12
                clear hb12 x0 x1 y0 y1))
    | (go_at_call 16
       go_loud (skip
                refine (sameFlights_any A8 l n8 c8 H8.out.2.2.2.2.1 A10 j n10 c10 H10.out.2.2.2.2.2.1 w12 (H11.out.2.2.2.2.2.1.below H12.out H12.out.size) (H11.out.2.2.2.2.2.2.below H12.out H12.out.size) hn8z).mono ?_
                rintro e w13 ⟨rfl, hb13⟩
                rw [decide_eq_true H10.out.2.2.2.2.2.2.2.2]
                have H13 := Lib.hid (H12.out.trans (hb13.mono H12.out.size))
                have p0 := (H11.out.1.below H13.out).blk.cell 0 (v := .slice A11 n11 c11) rfl; have p1 := (H11.out.1.below H13.out).blk.cell 1 (v := .slice B11 m11 d11) rfl
                have q0 := (H11.out.2.1.below H13.out).blk.cell 0 (v := .slice A9 n9 c9) rfl; have q1 := (H11.out.2.1.below H13.out).blk.cell 1 (v := .slice B9 m9 d9) rfl
                clear hb13))
    | (go_at_call 15
       clear F2
       go_loud (skip
                refine (sameNet_at w13 _ _ A9 n9 c9 B9 m9 d9 A11 n11 c11 B11 m11 d11 (H11.out.2.1.below H13.out).net (H11.out.1.below H13.out).net hn9 hm9 rfl).mono ?_
                rintro e w14 ⟨rfl, hb14⟩
                have H14 := Lib.hid (H13.out.trans (hb14.mono H13.out.size))
                have HM14 := Lib.hid (HM11.out.up H14.out)
                have a0 := HM14.out.1.cell 0 (v := .slice A n c) rfl; have a1 := HM14.out.1.cell 1 (v := .slice B m d) rfl
                have r0 := (H11.out.2.2.2.2.1.below H14.out).blk.cell 0 (v := .slice A3 n c3) rfl; have r1 := (H11.out.2.2.2.2.1.below H14.out).blk.cell 1 (v := .slice B3 m d3) rfl
                clear hb14 p0 p1 q0 q1))
    | (go_at_call 15
       go_loud (skip
                refine (sameNet_at w14 x x A n c B m d A3 n c3 B3 m d3 (HS.out.below HM14.out.2.1).at_ (H11.out.2.2.2.2.1.below H14.out).net hn64 hm64 rfl).mono ?_
                rintro e w15 ⟨rfl, hb15⟩
                have H15 := Lib.hid (HM14.out.up hb15)
                clear hb15)))
  go_ret
  exact ⟨rfl, H15.out.2.1⟩
end Go.Proofs.Ytponbodiibkopaa
