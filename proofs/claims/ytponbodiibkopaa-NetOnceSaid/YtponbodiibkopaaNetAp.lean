/-
  NetApart: the walk.
-/
import Derived.Test.YtponbodiibkopaaNetL
namespace Go.Proofs.Ytponbodiibkopaa
open Go.RowKit Go.Sort
set_option linter.unusedVariables false

/-- The world behind a call, and the argument's variable in it. -/
def Law1 (w W : World) (t : TypeId) (cs : Array Value) : Prop := Blk W w.heap.size t cs ∧ Below w.heap.size w W ∧ w.heap.size < W.heap.size
theorem Law1.start (w : World) (t : TypeId) (cs : Array Value) : Law1 w (w.alloc (.cells cs t)) t cs := ⟨Blk.new _ _ _ rfl, (Below.refl _ _).alloc (Nat.le_refl _) _, by simp⟩
theorem Law1.up {w W W' : World} {t : TypeId} {cs : Array Value} (h : Law1 w W t cs) (hb : Below W.heap.size W W') : Law1 w W' t cs :=
  ⟨h.1.below hb h.2.2, h.2.1.trans (hb.mono h.2.1.size), Nat.lt_of_lt_of_le h.2.2 hb.size⟩
theorem Law1.alloc {w W : World} {t : TypeId} {cs : Array Value} (h : Law1 w W t cs) (o : Obj) : Law1 w (W.alloc o) t cs := h.up ((Below.refl _ _).alloc (Nat.le_refl _) _)
theorem Sl.take' {α : Type} {R : Rdr α} {w : World} {S : Nat → Prop} {A : Option Addr} {xs ys : List α} (h : Sl R w S A (xs ++ ys)) : Sl R w S A xs := by
  intro i x hx
  exact h i x (by rw [List.getElem?_append_left (List.getElem?_eq_some_iff.1 hx).1]; exact hx)
noncomputable def apart_r7_code : Code := regionOf Try.f7 7
set_option maxRecDepth 100000 in
set_option maxHeartbeats 2000000 in
theorem apart_r7 {Q : Exit → Act → World → Prop} {s0 s1 s2 s3 s4 s6 s7 s8 s9 s10 s13 s14 s15 s16 s17 s18 s19 s20 s21 s22 s23 s24 s25 s26 s27 s28 s29 s30 s31 s32 s33 s34 s35 s36 s37 s38 s39 s40 s41 s42 s43 s44 s45 s46 s47 s48 s49 s50 s51 s52 s53 s54 s55 s56 s57 s58 s59 s60 s61 s62 s63 s64 s65 s66 s67 s68 s69 s70 s71 s72 s73 s74 s75 s76 s77 s78 s79 s80 s81 s82 s83 s84 s85 s86 s87 s88 s89 s90 s91 s92 s93 s94 s95 s96 s97 s98 s99 s100 s101 s102 s103 : Value} (w : World) (G E : Nat) (A A1 B B1 : Option Addr) (n n1 c c1 m m1 d d1 : Nat) (xs ys : List Fl)
    (hG : Blk w G 25 #[.slice A n c, .slice B m d]) (hE : Blk w E 25 #[.slice A1 n1 c1, .slice B1 m1 d1]) (hn : xs.length = n) (hx : Sl Rfl w (lo w.heap.size) A xs) (hy : Sl Rfl w (lo w.heap.size) A1 (xs ++ ys)) (hz : n ≤ 9223372036854775807) (hr : n ≤ n1) (hr2 : n1 ≤ n + 2) (hc1 : n1 ≤ c1) (hcm : c1 ≤ maxLen) (hm1 : m1 = m - 1) (hmz : m ≤ 9223372036854775807)
    (hK : ∀ (d38 d39 d40 d41 d42 d43 d44 d45 d46 d47 d48 d49 d50 d51 d52 d53 d54 d55 d56 d57 d58 d59 d60 d61 d62 d63 d64 d65 : Value) (w' : World), Below w.heap.size w w' → Q .normal ⟨#[s0, s1, s2, s3, s4, .pointer (some ⟨G, 0, none⟩), s6, s7, s8, s9, s10, .pointer (some ⟨E, 0, none⟩), .int .i64 ((n1 : Int) - (n : Int)), s13, s14, s15, s16, s17, s18, s19, s20, s21, s22, s23, s24, s25, s26, s27, s28, s29, s30, s31, s32, s33, s34, s35, s36, s37, d38, d39, d40, d41, d42, d43, d44, d45, d46, d47, d48, d49, d50, d51, d52, d53, d54, d55, d56, d57, d58, d59, d60, d61, d62, d63, d64, d65, .bool false, s67, s68, s69, s70, s71, s72, s73, s74, s75, s76, s77, s78, s79, s80, s81, s82, s83, s84, s85, s86, s87, s88, s89, s90, s91, s92, s93, s94, s95, s96, s97, s98, s99, s100, s101, s102, s103], []⟩ w') :
    Code.wp Try.prog apart_r7_code Q ⟨#[s0, s1, s2, s3, s4, .pointer (some ⟨G, 0, none⟩), s6, s7, s8, s9, s10, .pointer (some ⟨E, 0, none⟩), .int .i64 ((n1 : Int) - (n : Int)), s13, s14, s15, s16, s17, s18, s19, s20, s21, s22, s23, s24, s25, s26, s27, s28, s29, s30, s31, s32, s33, s34, s35, s36, s37, s38, s39, s40, s41, s42, s43, s44, s45, s46, s47, s48, s49, s50, s51, s52, s53, s54, s55, s56, s57, s58, s59, s60, s61, s62, s63, s64, s65, s66, s67, s68, s69, s70, s71, s72, s73, s74, s75, s76, s77, s78, s79, s80, s81, s82, s83, s84, s85, s86, s87, s88, s89, s90, s91, s92, s93, s94, s95, s96, s97, s98, s99, s100, s101, s102, s103], []⟩ w := by
  have HK := Lib.hid hK; clear hK
  have k0 := cell_regrown (hG.cell 0 (v := .slice A n c) rfl); have k1 := cell_regrown (hG.cell 1 (v := .slice B m d) rfl)
  have l0 := cell_regrown (hE.cell 0 (v := .slice A1 n1 c1) rfl); have l1 := cell_regrown (hE.cell 1 (v := .slice B1 m1 d1) rfl)
  have t1 : decide ((n1 : Int) - (n : Int) < 0) = false := decide_eq_false (by omega)
  have t2 : decide ((n1 : Int) - (n : Int) > 2) = false := decide_eq_false (by omega)
  have t2' : decide (2 < (n1 : Int) - (n : Int)) = false := t2
  have hnc : n ≤ c1 := by omega
  have HM := Lib.hid (show ((m1 : Int) != (if (m : Int) - 1 < 0 then 0 else (m : Int) - 1)) = false by by_cases h0 : (m : Int) - 1 < 0 <;> simp [h0] <;> omega); clear hm1
  have CS := Lib.hid (fun d os => Calls.regrown_of ((sameFlights_any A1 xs n c1 hn A xs n c hn (grow (redrawn w d) os) (hy.take'.below (below_regrown w d os) (below_regrown w d os).size) (hx.below (below_regrown w d os) (below_regrown w d os).size) hz).mono (fun e w' h => (⟨by rw [h.1]; simp, h.2⟩ : e = .returned (.bool true) ∧ Below (grow (redrawn w d) os).heap.size (grow (redrawn w d) os) w'))))
  clear hG hE hx hy hn
  conv => arg 2; whnf
  refine wp_region_quiet_below (by kernel_rfl) (by kernel_rfl) ?_
  repeat (any_goals (first | go_big_quiet_step (with_reducible exact CS.out _ _) | quiet_step (with_reducible exact CS.out _ _)))
  refine wpQuiet_nil ?_
  rintro _ ⟨⟨dq, osq⟩, rfl⟩
  rw [HM.out]
  exact HK.out _ _ _ _ _ _ _ _ _ _ _ _ _ _ _ _ _ _ _ _ _ _ _ _ _ _ _ _ _ (below_regrown w dq osq)
theorem Sl.dropAt {w : World} {S : Nat → Prop} {A : Option Addr} {xs ys : List Fl} {n c : Nat} (h : Sl Rfl w S A (xs ++ ys)) (hn : xs.length = n) (hc : c = n → ys = []) : Sl Rfl w S (if c = n then A else Option.map (fun x => x.add (n * 4)) A) ys := by
  by_cases h0 : c = n
  · rw [hc h0]; exact Sl.nil _ _ _ _
  · rw [if_neg h0]
    intro i y hy
    obtain ⟨b, off, cs, hA, hb, hr, hcs⟩ := h (n + i) y (by rw [List.getElem?_append_right (by omega)]; rw [hn, Nat.add_sub_cancel_left]; exact hy)
    refine ⟨b, off + n * 4, cs, by rw [hA]; simp [addr_add], hb, hr, fun j v hj => ?_⟩
    have h9 := hcs j v hj
    rw [show off + (n + i) * Rfl.size + j = off + n * 4 + i * Rfl.size + j by rw [show Rfl.size = 4 from rfl, Nat.add_mul]; omega] at h9
    exact h9
noncomputable def apart_loop_code : Code := blockOf Try.f7 0
set_option maxRecDepth 100000 in
set_option maxHeartbeats 2000000 in
theorem apart_loop {Q : Exit → Act → World → Prop} {s0 s1 s5 s6 s7 s8 s9 s10 s11 s12 s13 s14 s15 s16 s17 s18 s19 s20 s21 s22 s23 s24 s25 s26 s27 s28 s29 s30 s31 s32 s33 s34 s35 s36 s37 s38 s39 s40 s41 s42 s43 s44 s45 s46 s47 s48 s49 s50 s51 s52 s53 s54 s55 s56 s57 s58 s59 s60 s61 s62 s63 s64 s65 s66 s67 s68 s69 s70 s71 s75 s76 s77 s78 s79 s80 s81 s82 s83 s84 s85 s86 s87 s88 s89 s90 s91 s92 s93 s94 s95 s96 s97 s98 s99 s100 s101 s102 s103 : Value} (w : World) (AF T : Option Addr) (r cr k kc : Nat) (ys : List Fl) (fr tgt : Int) (body : List Int)
    (hn : ys.length = r) (hy : Sl Rfl w (lo w.heap.size) AF ys) (hz : r ≤ 9223372036854775807) (hall : ∀ y ∈ ys, y.fr = fr ∧ y.tgt = tgt ∧ y.body = body) (hk : body.length = k) (hT : Sl (Rint .u8) w (lo w.heap.size) T body)
    (hK : ∀ (d10 d14 d75 d76 d77 d78 d79 d80 d81 d82 d83 d84 d85 d86 d87 d88 d89 d90 d91 d92 d93 d94 d95 : Value) (w' : World), Below w.heap.size w w' → Q .normal ⟨#[s0, s1, .int .i64 fr, .int .i64 tgt, .slice T k kc, s5, s6, s7, s8, s9, d10, s11, s12, s13, d14, s15, s16, s17, s18, s19, s20, s21, s22, s23, s24, s25, s26, s27, s28, s29, s30, s31, s32, s33, s34, s35, s36, s37, s38, s39, s40, s41, s42, s43, s44, s45, s46, s47, s48, s49, s50, s51, s52, s53, s54, s55, s56, s57, s58, s59, s60, s61, s62, s63, s64, s65, s66, s67, s68, s69, s70, s71, .slice AF r cr, .int .i64 (r : Nat), .int .i64 (r : Nat), d75, d76, d77, d78, d79, d80, d81, d82, d83, d84, d85, d86, d87, d88, d89, d90, d91, d92, d93, d94, d95, s96, s97, s98, s99, s100, s101, s102, s103], []⟩ w') :
    Code.wp Try.prog apart_loop_code Q ⟨#[s0, s1, .int .i64 fr, .int .i64 tgt, .slice T k kc, s5, s6, s7, s8, s9, s10, s11, s12, s13, s14, s15, s16, s17, s18, s19, s20, s21, s22, s23, s24, s25, s26, s27, s28, s29, s30, s31, s32, s33, s34, s35, s36, s37, s38, s39, s40, s41, s42, s43, s44, s45, s46, s47, s48, s49, s50, s51, s52, s53, s54, s55, s56, s57, s58, s59, s60, s61, s62, s63, s64, s65, s66, s67, s68, s69, s70, s71, .slice AF r cr, .int .i64 (r : Nat), .int .i64 0, s75, s76, s77, s78, s79, s80, s81, s82, s83, s84, s85, s86, s87, s88, s89, s90, s91, s92, s93, s94, s95, s96, s97, s98, s99, s100, s101, s102, s103], []⟩ w := by
  have HK := Lib.hid hK; clear hK
  have HX := Lib.hid (And.intro hn (And.intro hy (And.intro hall (And.intro hk hT))))
  clear hn hy hall hk hT
  conv => arg 2; whnf
  go_wp2
  go_loopw [74] (fun i wr => ∃ j : Nat, j ≤ r ∧ i = .int .i64 j ∧ Below w.heap.size w wr) (fun i _ => r - (intOf i).toNat)
  case atStart => exact ⟨0, Nat.zero_le _, rfl, Below.refl _ _⟩
  case round =>
    obtain ⟨j, hj, rfl, hbel⟩ := hrel
    by_cases hlt : j < r
    · have hx := List.getElem?_eq_getElem (l := ys) (i := j) (by rw [HX.out.1]; exact hlt)
      generalize ys[j]'(by rw [HX.out.1]; exact hlt) = y at hx
      obtain ⟨h1, h2, h3⟩ := HX.out.2.2.1 y (List.mem_of_getElem? hx)
      obtain ⟨yt, yf, yg, yb⟩ := y
      dsimp only at h1 h2 h3
      subst h1 h2 h3
      obtain ⟨b', off', T', tn', tc', rfl, hlb, w1, w2', w3, htn', hl', hm', hts', y0, y1, y2, y3⟩ := (HX.out.2.1.below hbel hbel.size).flight hx
      have hlb' : b' < wr.heap.size := hlb
      have d1 : (yf != yf) = false := by simp
      have d2 : (yg != yg) = false := by simp
      have HY := Lib.hid (And.intro htn' (And.intro hts' hbel))
      clear hx w1 w2' w3 htn' hts' hl' hm' hlb
      go_wp2_with (go_at_call 17
                   go_loud (skip
                            refine (same_any T' yb tn' tc' HY.out.1 T yb k kc HX.out.2.2.2.1 _ (HY.out.2.1.up1 _) ((HX.out.2.2.2.2.below HY.out.2.2 HY.out.2.2.size).up1 _)).mono ?_
                            rintro e w9 ⟨rfl, rfl⟩))
      go_roundw
      case measure => simp [intOf]; omega
      case rel => exact ⟨j + 1, by omega, by go_num, HY.out.2.2.alloc HY.out.2.2.size _⟩
    · obtain rfl : j = r := by omega
      have HB := Lib.hid hbel; clear hbel
      go_wp2
      exact HK.out _ _ _ _ _ _ _ _ _ _ _ _ _ _ _ _ _ _ _ _ _ _ _ _ HB.out
theorem sendN_ap (x : Nt) (now fr tgt : Int) (b : List Int) : ∃ r, (sendN x now fr tgt b).list.length = x.list.length + r ∧ r ≤ 2 ∧ (sendN x now fr tgt b).fates.length = x.fates.length - 1 ∧ (x.fates.length = 0 → r = 1) := by
  refine ⟨(sendL now (fateN x) fr tgt b).length, by simp [sendN], sendL_len _ _ _ _ _, by simp [sendN], fun h => sendL_none (List.length_eq_zero_iff.1 h)⟩
set_option maxRecDepth 100000 in
set_option maxHeartbeats 4000000 in
theorem netApart_walk (x : Nt) (A : Option Addr) (n c : Nat) (B : Option Addr) (m d : Nat) (now fr tgt : Int) (T : Option Addr) (body : List Int) (k kc : Nat) (w : World) (hs : NtArg w A n c B m d x) (hfr : (Lit.int .i64 fr).wf = true) (htg : (Lit.int .i64 tgt).wf = true) (hk : body.length = k) (hT : Sl (Rint .u8) w (lo w.heap.size) T body) :
    Calls Try.prog 7 #[.agg #[.slice A n c, .slice B m d], .int .i64 now, .int .i64 fr, .int .i64 tgt, .slice T k kc] w fun e w' => e = .returned (.bool true) ∧ Below w.heap.size w w' := by
  have HS := Lib.hid hs; clear hs
  have hn64 := HS.out.n64; have hm64 := HS.out.m64
  have HT := Lib.hid (And.intro hk hT); clear hk hT
  have HW := Lib.hid (And.intro hfr htg); clear hfr htg
  go_enter Try.func7, Try.ntmps7
  go_upto_region 5 with (first
    | (go_at_call 9
       go_loud (skip
                refine (live_any _).mono ?_
                rintro e w1 ⟨rfl, hb1⟩
                have HM1 := Lib.hid ((Law1.start w 25 #[.slice A n c, .slice B m d]).up hb1)
                have a0 := HM1.out.1.cell 0 (v := .slice A n c) rfl; have a1 := HM1.out.1.cell 1 (v := .slice B m d) rfl
                clear hb1))
    | (go_at_call 10
       go_loud (skip
                refine (few_any _ x A n c B m d (HS.out.at_.below HM1.out.2.1 HM1.out.2.1.size) HS.out.n64).mono ?_
                rintro e w2 ⟨⟨few, rfl⟩, hb2⟩
                have HM2 := Lib.hid (HM1.out.up hb2)
                clear a0 a1
                have a0 := HM2.out.1.cell 0 (v := .slice A n c) rfl; have a1 := HM2.out.1.cell 1 (v := .slice B m d) rfl
                clear hb2 HM1))
    )
  all_goals try (go_ret; exact ⟨rfl, HM2.out.2.1⟩)
  have hk3 : k ≤ 300 := by omega
  obtain ⟨r, hr1, hr2, hr3, hr4⟩ := sendN_ap x now fr tgt body
  go_upto_region 7 with (go_at_call 11
                         go_loud (skip
                                  refine (send_any w2 x A n c B m d now fr tgt body T k kc (HS.out.at_.below HM2.out.2.1 HM2.out.2.1.size) HS.out.fit HS.out.md HS.out.dm HT.out.1 (HT.out.2.below HM2.out.2.1 HM2.out.2.1.size) (by omega) HW.out.1 HW.out.2).mono ?_
                                  rintro e w3 ⟨A1, n1, c1, B1, m1, d1, rfl, hnt, hc1, hcm1, hmd1, hdm1, hb3⟩
                                  have hn1z := maxLen_le (Nat.le_trans hc1 hcm1); have hm1z := maxLen_le (Nat.le_trans hmd1 hdm1)
                                  have hn1a : n ≤ n1 := by rw [← hnt.listN, hr1, HS.out.at_.listN]; omega
                                  have hn1b : n1 ≤ n + 2 := by rw [← hnt.listN, hr1, HS.out.at_.listN]; omega
                                  have hnr : n1 = n + r := by rw [← hnt.listN, hr1, HS.out.at_.listN]
                                  have hm1e : m1 = m - 1 := by rw [← hnt.fatesN, hr3, HS.out.at_.fatesN]
                                  have HM3 := Lib.hid (HM2.out.up hb3)
                                  have zw3 := HM3.out.2.2
                                  clear a0 a1
                                  have a0 := HM3.out.1.cell 0 (v := .slice A n c) rfl; have a1 := HM3.out.1.cell 1 (v := .slice B m d) rfl
                                  have H3 := Lib.hid (And.intro hnt (And.intro hm1e hnr))
                                  clear hnt hb3 hm1e hnr))
  have HM4 := Lib.hid (HM3.out.alloc (.cells #[.slice A1 n1 c1, .slice B1 m1 d1] 25))
  have H4 := Lib.hid (And.intro (Blk.new w3 25 #[.slice A1 n1 c1, .slice B1 m1 d1] (g := w3.heap.size) rfl) (And.intro ((H3.out.1.list.more (fun b hb => hb.2)).up1 (.cells #[.slice A1 n1 c1, .slice B1 m1 d1] 25)) (show Below w3.heap.size w3 (w3.alloc (.cells #[.slice A1 n1 c1, .slice B1 m1 d1] 25)) from (Below.refl _ _).alloc (Nat.le_refl _) _)))
  generalize (w3.alloc (.cells #[.slice A1 n1 c1, .slice B1 m1 d1] 25)) = w4 at *
  clear a0 a1
  refine apart_r7 w4 w.heap.size w3.heap.size A A1 B B1 n n1 c c1 m m1 d d1 x.list (sendL now (fateN x) fr tgt body) HM4.out.1 H4.out.1 HS.out.at_.listN (HS.out.at_.list.below HM4.out.2.1 HM4.out.2.1.size) H4.out.2.1 hn64 hn1a hn1b hc1 hcm1 H3.out.2.1 hm64 ?_
  intro d38 d39 d40 d41 d42 d43 d44 d45 d46 d47 d48 d49 d50 d51 d52 d53 d54 d55 d56 d57 d58 d59 d60 d61 d62 d63 d64 d65 w5 hb5
  have HM5 := Lib.hid (HM4.out.up hb5)
  have H5 := Lib.hid (And.intro (H4.out.1.below hb5 H4.out.1.lt) (And.intro (H4.out.2.1.below hb5 hb5.size) hb5))
  have a0 := HM5.out.1.cell 0 (v := .slice A n c) rfl; have a1 := HM5.out.1.cell 1 (v := .slice B m d) rfl
  have e0 := H5.out.1.cell 0 (v := .slice A1 n1 c1) rfl; have e1 := H5.out.1.cell 1 (v := .slice B1 m1 d1) rfl
  clear hb5 hr1 hr3
  go_upto_block 0 with fail
  refine apart_loop w5 _ T (n1 - n) (c1 - n) k kc (sendL now (fateN x) fr tgt body) fr tgt body (by have := H3.out.1.listN; simp only [sendN, List.length_append, HS.out.at_.listN] at this; omega) (H5.out.2.1.dropAt HS.out.at_.listN (fun h => List.length_eq_zero_iff.1 (by have := H3.out.1.listN; simp only [sendN, List.length_append, HS.out.at_.listN] at this; omega))) (by omega) (fun y hy => sendL_mem y hy) HT.out.1 (HT.out.2.below HM5.out.2.1 HM5.out.2.1.size) ?_
  intro d10 d14 d75 d76 d77 d78 d79 d80 d81 d82 d83 d84 d85 d86 d87 d88 d89 d90 d91 d92 d93 d94 d95 w6 hb6
  have HM6 := Lib.hid (HM5.out.up hb6)
  clear a0 a1 e0 e1 hb6
  have a1 := HM6.out.1.cell 1 (v := .slice B m d) rfl
  by_cases hm0 : 0 < m
  · have dd : decide (0 < m) = true := decide_eq_true hm0
    clear hm0
    go_wp2
    all_goals go_ret
    all_goals exact ⟨rfl, HM6.out.2.1⟩
  · have dd : decide (0 < m) = false := decide_eq_false hm0
    have d3 : ((n1 : Int) - (n : Int) == 1) = true := by
      have h9 := hr4 (by rw [HS.out.at_.fatesN]; omega)
      have h8 := H3.out.2.2
      simp; omega
    clear hm0
    go_wp2
    all_goals go_ret
    all_goals exact ⟨rfl, HM6.out.2.1⟩
end Go.Proofs.Ytponbodiibkopaa
