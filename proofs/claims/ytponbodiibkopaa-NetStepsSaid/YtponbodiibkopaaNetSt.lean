/-
  NetSteps: the walk.
-/
import Derived.Test.YtponbodiibkopaaDueN
namespace Go.Proofs.Ytponbodiibkopaa
open Go.RowKit Go.Sort
set_option linter.unusedVariables false

theorem Own.nil0 {α : Type} (R : Rdr α) (w : World) (base : Nat) (e : TypeId) (S : Nat → Prop) : Own R w base e S (.slice none 0 0) [] := Own.nil R w base e S
set_option maxRecDepth 100000 in
set_option maxHeartbeats 4000000 in
theorem netSteps_walk (x : Nt) (A : Option Addr) (n c : Nat) (B : Option Addr) (m d : Nat) (a b : Int) (w : World) (hs : NtArg w A n c B m d x) :
    Calls Try.prog 6 #[.agg #[.slice A n c, .slice B m d], .int .i64 a, .int .i64 b] w fun e w' => e = .returned (.bool true) ∧ Below w.heap.size w w' := by
  have HS := Lib.hid hs; clear hs
  have hn64 := HS.out.n64; have hm64 := HS.out.m64
  go_enter Try.func6, Try.ntmps6
  go_upto_region 5 with (first
    | (go_at_call 9
       go_loud (skip
                refine (live_any _).mono ?_
                rintro e w1 ⟨rfl, hb1⟩
                have HM1 := Lib.hid ((Law1.start w 25 #[.slice A n c, .slice B m d]).up hb1)
                have a0 := HM1.out.1.cell 0 (v := .slice A n c) rfl; have a1 := HM1.out.1.cell 1 (v := .slice B m d) rfl
                clear hb1))
    | (go_at_call 10
       go_loud (skip
                refine (few_any _ x A n c B m d (HS.out.at_.below HM1.out.2.1 HM1.out.2.1.size) HS.out.n64).mono ?_
                rintro e w2 ⟨⟨few, rfl⟩, hb2⟩
                have HM2 := Lib.hid (HM1.out.up hb2)
                clear a0 a1
                have a0 := HM2.out.1.cell 0 (v := .slice A n c) rfl; have a1 := HM2.out.1.cell 1 (v := .slice B m d) rfl
                clear hb2 HM1))
    )
  all_goals try (go_ret; exact ⟨rfl, HM2.out.2.1⟩)
  have hab : a ≤ b := by omega
  have HAB := Lib.hid hab; clear hab
  go_upto_region 6 with (go_at_call 13
                         go_loud (skip
                                  refine (due_full w2 x A n c B m d a (HS.out.below HM2.out.2.1)).mono ?_
                                  rintro e w3 ⟨A3, n3, c3, A4, n4, c4, B4, m4, d4, l, rfl, hd3, hn3, hc3, hm3, hs3, ha3, hb3⟩
                                  have HM3 := Lib.hid (HM2.out.up hb3)
                                  have zw3 := HM3.out.2.2
                                  clear a0 a1
                                  have H3 := Lib.hid (And.intro hd3 (And.intro hn3 (And.intro hs3 (And.intro ha3 (And.intro hc3 hm3)))))
                                  clear hd3 hn3 hc3 hm3 hs3 ha3 hb3))
  have HM4 := Lib.hid (HM3.out.alloc (.cells #[.slice A4 n4 c4, .slice B4 m4 d4] 25))
  have H4 := Lib.hid (And.intro (Blk.new w3 25 #[.slice A4 n4 c4, .slice B4 m4 d4] (g := w3.heap.size) rfl) (And.intro (H3.out.2.2.1.up1 (.cells #[.slice A4 n4 c4, .slice B4 m4 d4] 25)) (H3.out.2.2.2.1.up1 (.cells #[.slice A4 n4 c4, .slice B4 m4 d4] 25))))
  generalize (w3.alloc (.cells #[.slice A4 n4 c4, .slice B4 m4 d4] 25)) = w4 at *
  have e0 := H4.out.1.cell 0 (v := .slice A4 n4 c4) rfl; have e1 := H4.out.1.cell 1 (v := .slice B4 m4 d4) rfl
  go_upto_region 7 with (go_at_call 13
                         go_loud (skip
                                  refine (due_full w4 ⟨leftL Fl.tm a x.list, x.fates⟩ A4 n4 c4 B4 m4 d4 b H4.out.2.2).mono ?_
                                  rintro e w5 ⟨A5, n5, c5, A6, n6, c6, B6, m6, d6, k, rfl, hd5, hn5, hc5, hm5, hs5, ha5, hb5⟩
                                  have HM5 := Lib.hid (HM4.out.up hb5)
                                  have zw5 := HM5.out.2.2
                                  clear e0 e1
                                  have a0 := HM5.out.1.cell 0 (v := .slice A n c) rfl; have a1 := HM5.out.1.cell 1 (v := .slice B m d) rfl
                                  have H5 := Lib.hid (And.intro hd5 (And.intro hn5 (And.intro hs5 (And.intro ha5 (And.intro (H4.out.2.1.below hb5 hb5.size) (And.intro hc5 hm5))))))
                                  clear hd5 hn5 hc5 hm5 hs5 ha5 hb5))
  have HM6 := Lib.hid (HM5.out.alloc (.cells #[.slice A6 n6 c6, .slice B6 m6 d6] 25))
  have H6 := Lib.hid (And.intro (Blk.new w5 25 #[.slice A6 n6 c6, .slice B6 m6 d6] (g := w5.heap.size) rfl) (And.intro (H5.out.2.2.1.up1 (.cells #[.slice A6 n6 c6, .slice B6 m6 d6] 25)) (And.intro (H5.out.2.2.2.1.up1 (.cells #[.slice A6 n6 c6, .slice B6 m6 d6] 25)) (H5.out.2.2.2.2.1.up1 (.cells #[.slice A6 n6 c6, .slice B6 m6 d6] 25)))))
  have zz6 : w5.heap.size < (w5.alloc (.cells #[.slice A6 n6 c6, .slice B6 m6 d6] 25)).heap.size := by simp
  generalize (w5.alloc (.cells #[.slice A6 n6 c6, .slice B6 m6 d6] 25)) = w6 at *
  clear a0 a1
  have a0 := HM6.out.1.cell 0 (v := .slice A n c) rfl; have a1 := HM6.out.1.cell 1 (v := .slice B m d) rfl
  go_upto_region 8 with (go_at_call 13
                         go_loud (skip
                                  refine (due_full w6 x A n c B m d b (HS.out.below HM6.out.2.1)).mono ?_
                                  rintro e w7 ⟨A7, n7, c7, A8, n8, c8, B8, m8, d8, y, rfl, hd7, hn7, hc7, hm7, hs7, ha7, hb7⟩
                                  have hy := steps_pure HAB.out H3.out.1 H5.out.1 hd7
                                  have HM7 := Lib.hid (HM6.out.up hb7)
                                  have zw7 := HM7.out.2.2
                                  have zz7 := hb7.size
                                  clear a0 a1
                                  have H7 := Lib.hid (And.intro hy (And.intro hn7 (And.intro hs7 (And.intro ha7 (And.intro (H6.out.1.below hb7 H6.out.1.lt) (And.intro (H6.out.2.1.below hb7 hb7.size) (And.intro (H6.out.2.2.1.below hb7) (And.intro (H6.out.2.2.2.below hb7 hb7.size) (And.intro hc7 (And.intro hm7 hd7.len))))))))))
                                  clear hd7 hn7 hc7 hm7 hs7 ha7 hb7 hy))
  have HM8 := Lib.hid (HM7.out.alloc (.cells #[.slice A8 n8 c8, .slice B8 m8 d8] 25))
  have H8 := Lib.hid (And.intro (Blk.new w7 25 #[.slice A8 n8 c8, .slice B8 m8 d8] (g := w7.heap.size) rfl) (And.intro (H7.out.2.2.1.up1 (.cells #[.slice A8 n8 c8, .slice B8 m8 d8] 25)) (And.intro (H7.out.2.2.2.1.up1 (.cells #[.slice A8 n8 c8, .slice B8 m8 d8] 25)) (And.intro (H7.out.2.2.2.2.1.alloc (.cells #[.slice A8 n8 c8, .slice B8 m8 d8] 25)) (And.intro (H7.out.2.2.2.2.2.1.up1 (.cells #[.slice A8 n8 c8, .slice B8 m8 d8] 25)) (And.intro (H7.out.2.2.2.2.2.2.1.up1 (.cells #[.slice A8 n8 c8, .slice B8 m8 d8] 25)) (H7.out.2.2.2.2.2.2.2.1.up1 (.cells #[.slice A8 n8 c8, .slice B8 m8 d8] 25))))))))
  have zz8 : w7.heap.size < (w7.alloc (.cells #[.slice A8 n8 c8, .slice B8 m8 d8] 25)).heap.size := by simp
  generalize (w7.alloc (.cells #[.slice A8 n8 c8, .slice B8 m8 d8] 25)) = w8 at *
  have hlk : y.length = l.length + k.length := by rw [H7.out.1, List.length_append]
  have hyx : (y.length + 2) * 48 ≤ 140737488355328 := by have h1 := HS.out.fit.list; have h2 := dueL_le b x.list; have h3 := H7.out.2.2.2.2.2.2.2.2.2.2; omega
  have hn3 := H3.out.2.1; have hn5 := H5.out.2.1; have hn7 := H7.out.2.1
  obtain ⟨newl, hel, hcl⟩ := H8.out.2.2.2.2.2.2.inRow
  obtain ⟨newk, hek, hck⟩ := H8.out.2.2.2.2.1.inRow
  have HN := Lib.hid (And.intro hlk (And.intro hyx (And.intro hn3 (And.intro hn5 hn7))))
  have HE := Lib.hid (And.intro hel (And.intro hcl (And.intro hek hck)))
  have hn7z : n7 ≤ 9223372036854775807 := by omega
  clear hlk hyx hn3 hn5 hn7 hel hcl hek hck
  have FL : True := trivial
  go_wp2_with (first
    | (at_builtin
       clear FL
       go_loud (skip
                refine wpList_append_own' w8 rfl (.const (.slice none 0 0)) (.tmp 42) _ rfl ei_flights (S := lo w8.heap.size) (base := w8.heap.size) (.slice none 0 0) rfl (Own.nil0 Rfl w8 _ _ _) (fun b hb => ⟨hb, by simp [Value.ownBlock]⟩) A3 n3 c3 (ys := l) rfl HN.out.2.2.1 HE.out.2.1 HE.out.1 (by have h1 := HN.out; simp; omega) (by have h1 := HN.out; simp [maxLen]; omega) (Nat.le_refl _) ?_
                intro v9 w9 hox hg1 hat1
                obtain ⟨A9, c9, hv9⟩ := hox.form
                obtain ⟨n9, hn9⟩ : ∃ n9, ([] ++ l).length = n9 := ⟨_, rfl⟩
                rw [hn9] at hv9
                subst hv9
                have hb9 : RowKit.Below w8.heap.size w8 w9 := (Below.refl _ w8).grown hg1 (Nat.le_refl _) (fun g hg => by simp [Value.ownBlock] at hg)
                have H9 := Lib.hid (And.intro hox (And.intro hb9 hn9))
                clear hox hg1 hat1 hb9 hn9))
    | (at_builtin
       go_loud (skip
                refine wpList_append_own' w9 rfl (.tmp 43) (.tmp 44) _ rfl ei_flights (S := lo w8.heap.size) (base := w8.heap.size) _ rfl H9.out.1 (fun b hb => ⟨by have h1 := H9.out.2.1.size; have : b < w8.heap.size := hb; omega, fun e => by have h1 := (H9.out.1.lt e).1; have : b < w8.heap.size := hb; omega⟩) A5 n5 c5 (ys := k) rfl HN.out.2.2.2.1 (HE.out.2.2.2.up H9.out.2.1) (HE.out.2.2.1.keep (fun p hp => H9.out.2.1.cell hp) (fun _ h => h)) (by have h1 := HN.out; simp; omega) (by have h1 := HN.out; simp [maxLen]; omega) H9.out.2.1.size ?_
                intro v10 w10 hox hg1 hat1
                obtain ⟨A10, c10, hv10⟩ := hox.form
                obtain ⟨n10, hn10⟩ : ∃ n10, ([] ++ l ++ k).length = n10 := ⟨_, rfl⟩
                rw [hn10] at hv10
                subst hv10
                have hb10 : RowKit.Below w8.heap.size w8 w10 := H9.out.2.1.trans ((Below.refl _ w9).grown hg1 H9.out.2.1.size (fun g hg => (H9.out.1.lt hg).1))
                have hsl := (hox.slice (S' := lo w10.heap.size) (fun b hb => by have h1 := hb10.size; have : b < w8.heap.size := hb; show b < _; omega) (fun g _ hlt => hlt)).2.2.2
                have H10 := Lib.hid (And.intro hsl (And.intro hb10 hn10))
                clear hox hg1 hat1 hb10 hn10 hsl))
    | (go_at_call 16
       go_loud (skip
                refine (sameFlights_any A7 y n7 c7 HN.out.2.2.2.2 A10 ([] ++ l ++ k) n10 c10 H10.out.2.2 w10 (H8.out.2.1.below H10.out.2.1 H10.out.2.1.size) H10.out.1 hn7z).mono ?_
                rintro e w11 ⟨rfl, hb11⟩
                rw [decide_eq_true (show y = [] ++ l ++ k by rw [H7.out.1]; rfl)]
                have hb12 : RowKit.Below w8.heap.size w8 w11 := H10.out.2.1.trans (hb11.mono H10.out.2.1.size)
                have f0 := (H8.out.2.2.2.1.below hb12 H8.out.2.2.2.1.lt).cell 0 (v := .slice A6 n6 c6) rfl; have f1 := (H8.out.2.2.2.1.below hb12 H8.out.2.2.2.1.lt).cell 1 (v := .slice B6 m6 d6) rfl
                have g0 := (H8.out.1.below hb12 H8.out.1.lt).cell 0 (v := .slice A8 n8 c8) rfl; have g1 := (H8.out.1.below hb12 H8.out.1.lt).cell 1 (v := .slice B8 m8 d8) rfl
                have H11 := Lib.hid hb12
                clear hb11 hb12))
    | (go_at_call 15
       go_loud (skip
                refine (sameNet_any w11 _ _ A6 n6 c6 B6 m6 d6 A8 n8 c8 B8 m8 d8 (H8.out.2.2.2.2.2.1.below H11.out) (H8.out.2.2.1.below H11.out) (by rw [left_left HAB.out])).mono ?_
                rintro e w12 ⟨rfl, hb12⟩
                have H12 := Lib.hid (H11.out.trans (hb12.mono H11.out.size))
                clear hb12)))
  go_ret
  exact ⟨rfl, (HM8.out.up H12.out).2.1⟩
end Go.Proofs.Ytponbodiibkopaa
