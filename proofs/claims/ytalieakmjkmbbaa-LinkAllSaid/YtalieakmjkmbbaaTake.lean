/-
  Take: the walk.
-/
import Derived.Test.YtalieakmjkmbbaaTakeA
import Derived.Laws.OwnMore
import Derived.Laws.MakeOwn
import Derived.Deep.Cut
namespace Go.Proofs.Ytalieakmjkmbbaa
open Go.RowKit Go.Sort Go.Maps
set_option linter.unusedVariables false
attribute [local go_sem ↓] Go.wp_at_zero Go.wp_at_succ

theorem make_bools (n : Nat) (h : n ≤ 4000000000000) (w : World) : (Instr.makeSlice 59 (.int .i64 (n : Int)) (.int .i64 (n : Int))).run Try.prog w = .ok (.slice (some ⟨w.heap.size, 0, none⟩) n n) (w.alloc (.cells (flArr (List.replicate n false)) 4)) := by
  obtain ⟨i, hi, h1, h2, h3⟩ := info_parts (show (Try.prog.info? 4).map (fun i => (i.zero, i.size, i.bytes)) = some (some (.bool false), 1, 1) by kernel_rfl)
  have hr := run_make (P := Try.prog) w 59 4 i (.bool false) Try.underlying59 hi h1 .i64 .i64 n n (by omega) (by omega) (by rw [h3]; omega) (by omega)
  have e : madeCells (Value.cells (.bool false)) (n * i.size) = flArr (List.replicate n false) := by
    rw [h2, Nat.mul_one]
    apply Array.ext'
    rw [show Value.cells (.bool false) = #[.bool false] from rfl, toList_madeCells_one]
    simp [flArr]
  rw [← e]
  simpa using hr
noncomputable def take_r21_code : Code := regionOf Try.f10 21
set_option maxRecDepth 100000 in
set_option maxHeartbeats 2000000 in
theorem take_r21 {Q : Exit → Act → World → Prop} {s0 s1 s2 s3 s4 s5 s6 s7 s9 s10 s11 s12 s13 s14 s16 s18 s19 s20 s21 s22 s23 s24 s25 s26 s27 s28 s29 s30 s31 s32 s33 s34 s35 s36 s37 s38 s39 s40 s41 s42 s43 s44 s45 s46 s47 s48 s49 s50 s51 s52 s53 s54 s55 s56 s57 s58 s59 s60 s61 s62 s63 s64 s65 s66 s67 s68 s69 s70 s71 s72 s73 s74 s75 s76 s77 s78 s79 s80 s81 s82 s83 s84 s85 s86 s87 s88 s89 s90 s91 s92 s93 s94 s95 s96 s97 s98 s99 s100 s101 s102 s103 s104 s105 s106 s107 s108 s109 s110 s111 s112 : Value} (w : World) (B H E : Nat) (e : Int) (A : Option Addr) (n c : Nat) (vT : Value) (hE : Blk w E 24 #[.int .i64 e, .slice A n c]) (hH : Blk w H 24 #[.int .i64 0, .slice none 0 0]) (hBH : B ≤ H) (hEH : E ≠ H)
    (hK : ∀ (d109 d110 d111 d112 : Value) (w' : World), Blk w' H 24 #[.int .i64 e, .slice A n c] → (∀ k, k < w.heap.size → k ≠ H → w'.heap[k]? = w.heap[k]?) → Below B w w' → Q .normal ⟨#[s0, s1, s2, s3, s4, s5, s6, s7, .pointer (some ⟨H, 0, none⟩), vT, .int .i64 e, s11, s12, s13, s14, .pointer (some ⟨E, 0, none⟩), s16, vT, s18, s19, s20, s21, s22, s23, s24, s25, s26, s27, s28, s29, s30, s31, s32, s33, s34, s35, s36, s37, s38, s39, s40, s41, s42, s43, s44, s45, s46, s47, s48, s49, s50, s51, s52, s53, s54, s55, s56, s57, s58, s59, s60, s61, s62, s63, s64, s65, s66, s67, s68, s69, s70, s71, s72, s73, s74, s75, s76, s77, s78, s79, s80, s81, s82, s83, s84, s85, s86, s87, s88, s89, s90, s91, s92, s93, s94, s95, s96, s97, s98, s99, s100, s101, s102, s103, s104, s105, s106, s107, s108, d109, d110, d111, d112], []⟩ w') :
    Code.wp Try.prog take_r21_code Q ⟨#[s0, s1, s2, s3, s4, s5, s6, s7, .pointer (some ⟨H, 0, none⟩), s9, s10, s11, s12, s13, s14, .pointer (some ⟨E, 0, none⟩), s16, vT, s18, s19, s20, s21, s22, s23, s24, s25, s26, s27, s28, s29, s30, s31, s32, s33, s34, s35, s36, s37, s38, s39, s40, s41, s42, s43, s44, s45, s46, s47, s48, s49, s50, s51, s52, s53, s54, s55, s56, s57, s58, s59, s60, s61, s62, s63, s64, s65, s66, s67, s68, s69, s70, s71, s72, s73, s74, s75, s76, s77, s78, s79, s80, s81, s82, s83, s84, s85, s86, s87, s88, s89, s90, s91, s92, s93, s94, s95, s96, s97, s98, s99, s100, s101, s102, s103, s104, s105, s106, s107, s108, s109, s110, s111, s112], []⟩ w := by
  have HK := Lib.hid hK; clear hK
  have HB := Lib.hid (And.intro hE hH)
  have e0 := hE.cell 0 (v := .int .i64 e) rfl; have e1 := hE.cell 1 (v := .slice A n c) rfl
  have h0 := hH.cell 0 (v := .int .i64 0) rfl; have h1 := hH.cell 1 (v := .slice none 0 0) rfl; have fH := hH.frozen
  have lE := hE.lt; have lH := hH.lt
  clear hE hH
  conv => arg 2; whnf
  refine wp_region_noPanic ?_
  go_region
  all_goals refine NoPanic.normal ?_
  all_goals exact HK.out _ _ _ _ _ ((HB.out.2.set 0 _).set 1 _) (fun k hk hne => (Below.heap_setCell (w.setCell ⟨H, 0, none⟩ (.int .i64 e)) ⟨H, 1, none⟩ _ k hne).trans (Below.heap_setCell _ ⟨H, 0, none⟩ _ k hne)) ((((Below.refl B w).setCell (p := ⟨H, 0, none⟩) hBH _).setCell (p := ⟨H, 1, none⟩) hBH _).drew)
/-- What Take tells. -/
def TakeRet (held : List It) (told : List (List Int)) (e' : Int) (w : World) (en : Ending) (w' : World) : Prop :=
  ∃ (A : Option Addr) (n c : Nat) (T : Option Addr) (k kc : Nat), en = .returned (.tuple #[.agg #[.int .i64 e', .slice A n c], .slice T k kc, .int .i64 e']) ∧ held.length = n ∧ n ≤ c ∧ c ≤ maxLen ∧ Sl Rit w' (mid w.heap.size w'.heap.size) A held ∧ told.length = k ∧ k ≤ kc ∧ kc ≤ maxLen ∧ Sl Rbd w' (mid w.heap.size w'.heap.size) T told ∧ Below w.heap.size w w'
def TkCut (w0 wx : World) (B M : Nat) (v : Value) (ys : List It) : Prop :=
  ∃ (A : Option Addr) (N c : Nat), v = .slice A N c ∧ ys.length = N ∧ OwnX Rit wx B 38 (fun k => k = M) (.slice A N c) ys ∧ MapF wx M N (firstF ys) ∧ Below B w0 wx
set_option maxRecDepth 100000 in
set_option maxHeartbeats 4000000 in
theorem take_any (w : World) (e : Int) (xs : List It) (A : Option Addr) (n c : Nat) (seq : Int) (body : List Int) (T : Option Addr) (nb cb : Nat) (window : Int) (hn : xs.length = n) (hx : Sl Rit w (lo w.heap.size) A xs) (hnb : body.length = nb) (hT : Sl (Rint .u8) w (lo w.heap.size) T body) (hz : n ≤ 3518437208880) (ht : ∀ x ∈ xs, x.body.length ≤ 140737488355328) (hz2 : nb ≤ 140737488355328)
    (h1 : -9223372036854775808 ≤ e) (h2 : e ≤ 9223372036854775807) (hs : (Lit.int .i64 seq).wf = true) :
    Calls Try.prog 10 #[.agg #[.int .i64 e, .slice A n c], .int .i64 seq, .slice T nb cb, .int .i64 window] w (TakeRet (takeP xs e seq body window).1 (takeP xs e seq body window).2.1 (takeP xs e seq body window).2.2 w) := by
  have hb0 : RowKit.Below w.heap.size w ((w.alloc (.cells #[.int .i64 e, .slice A n c] 24)).alloc (.cells #[.int .i64 0, .slice none 0 0] 24)) := ((Below.refl _ _).alloc (Nat.le_refl _) _).alloc (by simp) _
  have hz0 : ((w.alloc (.cells #[.int .i64 e, .slice A n c] 24)).alloc (.cells #[.int .i64 0, .slice none 0 0] 24)).heap.size = w.heap.size + 2 := by simp
  have hB := (Blk.new w 24 #[.int .i64 e, .slice A n c] (g := w.heap.size) rfl).alloc (.cells #[.int .i64 0, .slice none 0 0] 24)
  have hR := Blk.new (w.alloc (.cells #[.int .i64 e, .slice A n c] 24)) 24 #[.int .i64 0, .slice none 0 0] (g := w.heap.size + 1) (by simp)
  have hT0 := hT.below hb0 hb0.size
  have hx0 := hx.below hb0 hb0.size
  go_enter Try.func10, Try.ntmps10
  go_upto_region 1 with fail
  generalize ((w.alloc (.cells #[.int .i64 e, .slice A n c] 24)).alloc (.cells #[.int .i64 0, .slice none 0 0] 24)) = w0 at *
  have b0 := hB.cell 0 (v := .int .i64 e) rfl; have b1 := hB.cell 1 (v := .slice A n c) rfl
  have H0 := Lib.hid (And.intro hb0 (And.intro hB (And.intro hR (And.intro hT0 (And.intro hx0 (And.intro ht (And.intro hn hnb)))))))
  clear hb0 hB hR hT0 hT hx0 hx ht hn hnb
  go_upto_region 3 with (first
    | (go_at_call 24
       go_loud (skip
                refine (copyItems_any A n c xs H0.out.2.2.2.2.2.2.1 w0 H0.out.2.2.2.2.1 (lim40 (by omega)) H0.out.2.2.2.2.2.1).mono ?_
                rintro en w1 ⟨A1, n1, c1, rfl, hn1, ho1, hb1⟩
                obtain rfl : n1 = n := by rw [← hn1]; exact H0.out.2.2.2.2.2.2.1
                have H1 := Lib.hid (And.intro ho1 hb1)
                clear hn1 ho1 hb1))
    | (go_at_call 25
       go_loud (skip
                refine (places_any A1 n1 c1 xs H0.out.2.2.2.2.2.2.1 w1 (H1.out.1.sl.2.2.2.more (fun b hb => hb.2.1)) (by omega)).mono ?_
                rintro en w2 ⟨rfl, hM2, hb2⟩
                have H2 := Lib.hid (And.intro hM2 hb2)
                clear hM2 hb2)))
  have hz1 := H1.out.2.size
  have hz2' := H2.out.2.size
  have hbw2 : RowKit.Below w0.heap.size w0 w2 := H1.out.2.trans (H2.out.2.mono hz1)
  have hXM : ∀ g, (Value.slice A1 n1 c1).ownBlock = some g → g ≠ w1.heap.size := fun g e => by have := (H1.out.1.lt e).2.1; omega
  have hox2 : OwnX Rit w2 w0.heap.size 38 (fun k => k = w1.heap.size) (.slice A1 n1 c1) xs := H1.out.1.frame (fun k h3 h4 _ => H2.out.2.block k h4) hz2' (fun k h3 h4 _ h5 => by omega)
  clear b0 b1
  have b0 := (hbw2.cell (p := ⟨w.heap.size, 0, none⟩) (by show w.heap.size < _; omega)).trans (H0.out.2.1.cell 0 (v := .int .i64 e) rfl)
  have b1 := (hbw2.cell (p := ⟨w.heap.size, 1, none⟩) (by show w.heap.size < _; omega)).trans (H0.out.2.1.cell 1 (v := .slice A n1 c) rfl)
  obtain ⟨M, hMeq⟩ : ∃ M, w1.heap.size = M := ⟨_, rfl⟩
  have hM2 := H2.out.1
  rw [H0.out.2.2.2.2.2.2.1] at hM2
  rw [hMeq] at hox2 hXM hM2 ⊢
  have hMl := hM2.lt
  have hM0 : w0.heap.size ≤ M := by omega
  have H3 := Lib.hid (And.intro hox2 (And.intro hM2 (And.intro hbw2 hXM)))
  have HM := Lib.hid hMeq
  clear hox2 hM2 hbw2 hXM hMeq
  go_upto_region 4 with (at_lookup
                         go_loud (skip
                                  refine wpList_lookup_F _ rfl _ _ rfl M n1 (firstF xs) rfl H3.out.2.1 seq rfl hs ?_
                                  rw [metIn_firstF]))
  obtain ⟨met, hmet⟩ : ∃ met, metIn xs seq = met := ⟨_, rfl⟩
  rw [hmet]
  obtain ⟨a1, ha1⟩ : ∃ a1 : Bool, decide (e ≤ seq) = a1 := ⟨_, rfl⟩
  obtain ⟨a2, ha2⟩ : ∃ a2 : Bool, decide (seq < wrap64 (e + window)) = a2 := ⟨_, rfl⟩
  go_cut [48] from 33 (fun s48 wx => wx = w2 ∧ s48 = .bool (a1 && (a2 && !met)))
  case first =>
    cases a1 <;> cases a2 <;> cases met <;> (go_wp2; go_meet; exact ⟨rfl, rfl⟩)
  case rest =>
    obtain ⟨rfl, rfl⟩ := hcut
    have HTI := Lib.hid (show takeIn xs e seq body window = if (a1 && (a2 && !met)) = true then xs ++ [⟨seq, body, 0⟩] else xs by
      unfold takeIn; rw [← ha1, ← ha2, ← hmet]; by_cases q1 : e ≤ seq <;> by_cases q2 : seq < wrap64 (e + window) <;> cases q3 : metIn xs seq <;> simp [q1, q2])
    have HC := Lib.hid (show (a1 && (a2 && !met)) = true → metIn xs seq = false by rw [hmet]; cases a1 <;> cases a2 <;> cases met <;> simp)
    generalize (a1 && (a2 && !met)) = cc at *
    clear ha1 ha2 hmet
    go_upto_if 48 with fail
    go_cut [11] from 22 (fun s11 wx => TkCut w0 wx w0.heap.size M s11 (takeIn xs e seq body window))
    case first =>
      cases cc with
      | false =>
        go_wp2
        go_meet
        exact ⟨A1, n1, c1, rfl, by rw [HTI.out]; exact H0.out.2.2.2.2.2.2.1, by rw [HTI.out]; exact H3.out.1, by rw [HTI.out]; exact H3.out.2.1, H3.out.2.2.1⟩
      | true =>
        go_wp2_with (first
          | (at_mapUpdate
             go_loud (skip
                      refine wpList_update_F _ rfl _ _ _ rfl M n1 (firstF xs) rfl H3.out.2.1 (by simp only [maxLen]; omega) seq rfl hs (n1 : Int) rfl (WalkArith.wf_i64 ⟨by omega, by omega⟩) ?_
                      intro w6 hF6 hg6
                      have H6 := Lib.hid (And.intro hF6 hg6)
                      have hz6 : wc.heap.size ≤ w6.heap.size := (by obtain ⟨_, _, _, hh, _⟩ := hg6; exact hh)
                      clear hF6 hg6))
          | (go_at_call 26
             go_loud (skip
                      refine (cloneB_any T body nb cb H0.out.2.2.2.2.2.2.2 w6 (H0.out.2.2.2.1.below (H3.out.2.2.1.grown H6.out.2 (by omega) (fun g hg => by cases hg; omega)) (by omega)) (by omega)).mono ?_
                      rintro en w7 ⟨T7, n7, c7, rfl, hn7, hl7, hm7, hs7, hb7⟩
                      have H7 := Lib.hid (And.intro hn7 (And.intro hl7 (And.intro hm7 (And.intro hs7 hb7))))
                      have hz7 := hb7.size
                      clear hn7 hl7 hm7 hs7 hb7))
          | (at_builtin
             go_loud (skip
                      have hb68 : RowKit.Below w6.heap.size w6 (w7.alloc (.cells #[.int .i64 seq, .slice T7 n7 c7, .int .i64 0] 38)) := H7.out.2.2.2.2.trans (((Below.refl _ _).alloc (Nat.le_refl _) _).mono hz7)
                      have ho6 : OwnX Rit w6 w0.heap.size 38 (fun k => k = M) (.slice A1 n1 c1) xs := H3.out.1.frame (fun k h3 h4 h5 => H6.out.2.block k h4 (fun e => h5 (Option.some.inj e))) hz6 (fun _ _ _ h => h)
                      refine wpList_append_X rfl (.tmp 53) (.tmp 58) rfl ei_items rfl (ho6.up hb68) (some _) 1 1 (ys := [⟨seq, body, 0⟩]) rfl rfl (cellsNew (by simp)) (newItem (S := mid w6.heap.size w7.heap.size) (l := ⟨seq, body, 0⟩) H7.out.1 hs (show (Lit.int .i64 0).wf = true by decide) H7.out.2.1 H7.out.2.2.1 (H7.out.2.2.2.1.keep (fun p hp => World.cell?_alloc_lt _ _ _ hp.2) (fun b hb => hb))) (fun k hk => ⟨by have := hk.1; omega, by have := hk.2; simp; omega, fun h => by have := hk.1; omega, fun e => by have h9 := (H3.out.1.lt e).2.1; have := hk.1; omega⟩) (fun h => by simp at h; omega) (by rw [H0.out.2.2.2.2.2.2.1]; exact lim40 (by omega)) (by rw [H0.out.2.2.2.2.2.2.1]; simp only [maxLen]; omega) (by simp; omega) ?_
                      rw [H0.out.2.2.2.2.2.2.1]
                      intro A' cap w8 hox hg1 hat1 hbb1
                      have H8 := Lib.hid (And.intro hox (And.intro hg1 (And.intro hbb1 hb68)))
                      clear hox hg1 hat1 hbb1 ho6 hb68)))
        go_meet
        refine ⟨A', n1 + 1, cap, rfl, by rw [HTI.out]; simp [H0.out.2.2.2.2.2.2.1], by rw [HTI.out]; exact H8.out.1, ?_, ?_⟩
        · have hf : firstF (takeIn xs e seq body window) = fun j => if j = seq then some (n1 : Int) else firstF xs j := funext fun j => by
            rw [HTI.out, if_pos (by trivial), firstF_snoc, metIn_firstF, H0.out.2.2.2.2.2.2.1]
            by_cases hj : j = seq
            · rw [hj, HC.out True.intro]; simp
            · simp only [hj, if_false]
              cases q : firstF xs j with
              | none => rw [← metIn_firstF, q]; simp
              | some v => rw [← metIn_firstF, q]; simp
          rw [hf]
          exact H6.out.1.keep ((H8.out.2.1.block M (by simp; omega) (fun e => H3.out.2.2.2 M e.symm rfl)).trans (H8.out.2.2.2.block M (by omega)))
        · exact ((H3.out.2.2.1.grown H6.out.2 (by omega) (fun g hg => by cases hg; omega)).trans (H8.out.2.2.2.mono (by omega))).trans H8.out.2.2.1
    case rest =>
      have HPt := Lib.hid (show takeP xs e seq body window = takeGo (takeIn xs e seq body window).length (takeIn xs e seq body window) e from rfl)
      have hyl : (takeIn xs e seq body window).length ≤ n1 + 1 := by (rw [HTI.out]; have := H0.out.2.2.2.2.2.2.1; split <;> simp <;> omega)
      clear HTI HC
      generalize takeIn xs e seq body window = ys at *
      obtain ⟨A2, N, c2, rfl, hN, ho, hMF, hbc⟩ := hcut
      have hNl : N ≤ n1 + 1 := by omega
      have zc := hbc.size
      clear b0 b1
      have b0 := (hbc.cell (p := ⟨w.heap.size, 0, none⟩) (by show w.heap.size < _; omega)).trans (H0.out.2.1.cell 0 (v := .int .i64 e) rfl)
      have hMc := hMF.lt
      have hmake := make_bools N (by omega)
      have HC := Lib.hid (And.intro hN (And.intro ho (And.intro hMF hbc)))
      clear hN ho hMF hbc hyl
      go_upto_block 0 with fail
      have hE5 : Blk ((wc.alloc (.cells #[.int .i64 e, .slice none 0 0] 24)).alloc (.cells (flArr (List.replicate N false)) 4)) wc.heap.size 24 #[.int .i64 e, .slice none 0 0] := (Blk.new wc _ _ rfl).alloc _
      have hG5 : Blk ((wc.alloc (.cells #[.int .i64 e, .slice none 0 0] 24)).alloc (.cells (flArr (List.replicate N false)) 4)) (wc.heap.size + 1) 4 (flArr (List.replicate N false)) := Blk.new _ _ _ (by simp)
      have hb5 : RowKit.Below wc.heap.size wc ((wc.alloc (.cells #[.int .i64 e, .slice none 0 0] 24)).alloc (.cells (flArr (List.replicate N false)) 4)) := ((Below.refl _ _).alloc (Nat.le_refl _) _).alloc (by simp) _
      have hz5 : ((wc.alloc (.cells #[.int .i64 e, .slice none 0 0] 24)).alloc (.cells (flArr (List.replicate N false)) 4)).heap.size = wc.heap.size + 2 := by simp
      clear hmake
      generalize ((wc.alloc (.cells #[.int .i64 e, .slice none 0 0] 24)).alloc (.cells (flArr (List.replicate N false)) 4)) = w5 at *
      have hx5 : Sl Rit w5 (mid w0.heap.size wc.heap.size) A2 ys := HC.out.2.1.sl.2.2.2.keep (fun p hp => hb5.cell hp.2.1) (fun b hb => ⟨hb.1, hb.2.1⟩)
      refine take_loop1 w5 w0.heap.size wc.heap.size (wc.heap.size + 1) M ys N c2 A2 e HC.out.1 hE5 hG5 (HC.out.2.2.1.keep (hb5.block M hMc)) hx5 hMc (by omega) (by omega) h1 h2 ?_
      intro d18 d19 d66 d67 d68 d69 d70 d71 d72 d73 d74 d75 d76 d77 d78 d79 d80 d81 d82 d83 d84 d85 d86 d87 d88 d89 vT r fl told w6 hW hgo
      obtain ⟨tA, tc, rfl⟩ := hW.hT.form
      have z6 := hW.bel.size
      have HW := Lib.hid (And.intro hW (And.intro hgo (And.intro hx5 hb5)))
      clear hW hgo hx5 hb5 hE5 hG5
      go_upto_block 2 with fail
      refine take_loop2 w6 w0.heap.size wc.heap.size (wc.heap.size + 1) ys fl N c2 A2 (expAt e r) HC.out.1 (HW.out.1.p.len.trans HC.out.1) HW.out.1.hE HW.out.1.hG (HW.out.2.2.1.keep (fun p hp => HW.out.1.bel.cell hp.2) (fun _ h => h)) (by omega) (by omega) ?_
      intro d20 d21 d92 d93 d94 d95 d96 d97 d98 d99 d100 d101 d102 d103 d104 d105 d106 d107 d108 v w7 hV
      obtain ⟨vA, vc, rfl⟩ := hV.hT.form
      have z7 := hV.bel.size
      have hR7 : Blk w7 (w.heap.size + 1) 24 #[.int .i64 0, .slice none 0 0] := (hV.bel.block _ (by omega)).trans ((HW.out.1.bel.block _ (by omega)).trans ((HW.out.2.2.2.block _ (by omega)).trans ((HC.out.2.2.2.block _ (by omega)).trans H0.out.2.2.1)))
      have HV := Lib.hid (And.intro hV hR7)
      clear hV hR7
      go_upto_region 21 with fail
      refine take_r21 w7 w.heap.size (w.heap.size + 1) wc.heap.size (expAt e r) vA _ vc _ HV.out.1.hE HV.out.2 (by omega) (by omega) ?_
      intro d109 d110 d111 d112 w8 hH8 hf8 hb8
      have z8 := hb8.size
      have r0 := hH8.cell 0 (v := .int .i64 (expAt e r)) rfl; have r1 := hH8.cell 1 (v := .slice vA (keptF ys fl).length vc) rfl
      have H8 := Lib.hid (And.intro hf8 hb8)
      clear hH8 hf8 hb8
      go_wp2
      refine bodyPost_ret (v := .tuple #[.agg #[.int .i64 (expAt e r), .slice vA (keptF ys fl).length vc], .slice tA told.length tc, .int .i64 (expAt e r)]) (by simp [results, Try.results10, go_sem, r0, r1]) rfl ?_
      have k8 := (HV.out.1.hT.keep (w' := w8) (fun g hg => H8.out.1 g (HV.out.1.hT.lt hg).2 (by have := (HV.out.1.hT.lt hg).1; omega)) (fun p hp => World.cell?_of_block (H8.out.1 p.block (by have := hp.2; omega) (by have := hp.1; omega))) (fun _ h => h)).slice (S' := mid w.heap.size w8.heap.size) (fun b hb => ⟨by have := hb.1; omega, by have := hb.2; omega⟩) (fun g hg hlt => ⟨by have := (HV.out.1.hT.lt hg).1; omega, hlt⟩)
      have t8 := (HW.out.1.hT.keep (w' := w8) (fun g hg => (H8.out.1 g (by have := (HW.out.1.hT.lt hg).2; omega) (by have := (HW.out.1.hT.lt hg).1; omega)).trans (HV.out.1.fr g (HW.out.1.hT.lt hg).2 (by have := (HW.out.1.hT.lt hg).1; omega))) (fun p hp => (World.cell?_of_block (H8.out.1 p.block (by have := hp.2; omega) (by have := hp.1; omega))).trans (HV.out.1.bel.cell hp.2)) (fun _ h => h)).slice (S' := mid w.heap.size w8.heap.size) (fun b hb => ⟨by have := hb.1; omega, by have := hb.2; omega⟩) (fun g hg hlt => ⟨by have := (HW.out.1.hT.lt hg).1; omega, hlt⟩)
      rw [HPt.out, HC.out.1, HW.out.2.1]
      exact ⟨vA, _, vc, tA, _, tc, rfl, rfl, k8.2.1, k8.2.2.1, k8.2.2.2, rfl, t8.2.1, t8.2.2.1, t8.2.2.2, ((((H0.out.1.trans (HC.out.2.2.2.mono (by omega))).trans (HW.out.2.2.2.mono (by omega))).trans (HW.out.1.bel.mono (by omega))).trans (HV.out.1.bel.mono (by omega))).trans H8.out.2⟩
end Go.Proofs.Ytalieakmjkmbbaa
