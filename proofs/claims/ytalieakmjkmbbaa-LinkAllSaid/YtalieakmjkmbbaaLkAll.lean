/-
  LinkAll: the plain law of a round; the first loop; an item comes, one behind the other.
-/
import Derived.Test.YtalieakmjkmbbaaWayF
import Derived.Test.YtalieakmjkmbbaaLkNum
import Derived.Lib.QuietBelow
import Derived.BigQuiet
namespace Go.Proofs.Ytalieakmjkmbbaa
open Go.RowKit Go.Sort
set_option linter.unusedVariables false
attribute [local go_sem ↓] Go.wp_at_zero Go.wp_at_succ

/-- All that was sent is sent again, three ticks later. -/
theorem WyI.all {win : Int} {s : Wy} {lo nx ex : Nat} (h : WyI win s lo nx ex) : (againP s.o 3 (s.now + 3)).2.length = s.o.sent.length ∧ ∀ j x, (againP s.o 3 (s.now + 3)).2[j]? = some x → x.sq = ((lo + j : Nat) : Int) ∧ Good s.sent nx x := by
  have hall : s.o.sent.filter (fun x => decide (3 ≤ s.now + 3 - x.tm)) = s.o.sent := List.filter_eq_self.2 fun x hx => by
    have := h.tm x hx
    simp; omega
  have e : (againP s.o 3 (s.now + 3)).2 = s.o.sent.map (fun x => ⟨x.sq, x.body, s.now + 3⟩) := by
    show againTold 3 (s.now + 3) s.o.sent = _
    unfold againTold
    rw [hall]
  rw [e]
  refine ⟨by rw [List.length_map], fun j x hx => ?_⟩
  rw [List.getElem?_map] at hx
  obtain ⟨y, hy, rfl⟩ := Option.map_eq_some_iff.1 hx
  have h1 := h.row.get hy
  have hj := (List.getElem?_eq_some_iff.1 hy).1
  exact ⟨h1.1, lo + j, by have := h.rowN; omega, h1.1, h1.2⟩
noncomputable def all_loop1_code : Code := blockOf Try.f7 0
set_option maxRecDepth 100000 in
set_option maxHeartbeats 4000000 in
theorem all_loop1 {Q : Exit → Act → World → Prop} {s1 s2 s3 s4 s6 s7 s8 s9 s10 s11 s12 s13 s14 s15 s16 s17 s18 s19 s20 s21 s22 s23 s24 s25 s26 s27 s31 s32 s33 s34 s35 s36 s37 s38 s39 s40 s41 s42 s43 s44 s45 s46 s47 s48 s49 s50 s51 s52 s53 s54 s55 s56 s57 s58 s59 s60 s61 s62 s63 s64 s65 s66 s67 s68 s69 s70 s71 s72 s73 s74 s75 s76 s77 s78 s79 s80 s81 s82 s83 s84 s85 s86 s87 s88 s89 s90 s91 s92 s93 s94 s95 s96 s97 s98 s99 s100 s101 s102 s103 s104 s105 s106 s107 s108 s109 s110 s111 s112 s113 s114 s115 s116 s117 s118 s119 s120 s121 s122 s123 s124 s125 : Value} (w : World) (P : Nat) (win : Int) (SA : Option Addr) (steps : List Int) (N cS : Nat) (hs : Sl (Rint .i64) w (lo P) SA steps) (hN : steps.length = N) (hN60 : N ≤ 60) (hw1 : 1 ≤ win) (hw2 : win ≤ 20) (h0 : WyB w P P win Wy.zero)
    (hK : ∀ (d4 d7 d31 d32 d33 d34 d35 d36 d37 d38 d39 d40 d41 d42 d43 d44 d45 : Value) (w' : World), WyNext P P win N w w' → Q .normal ⟨#[.int .i64 win, s1, s2, s3, d4, .pointer (some ⟨P, 0, none⟩), s6, d7, s8, s9, s10, s11, s12, s13, s14, s15, s16, s17, s18, s19, s20, s21, s22, s23, s24, s25, s26, s27, .slice SA N cS, .int .i64 N, .int .i64 N, d31, d32, d33, d34, d35, d36, d37, d38, d39, d40, d41, d42, d43, d44, d45, s46, s47, s48, s49, s50, s51, s52, s53, s54, s55, s56, s57, s58, s59, s60, s61, s62, s63, s64, s65, s66, s67, s68, s69, s70, s71, s72, s73, s74, s75, s76, s77, s78, s79, s80, s81, s82, s83, s84, s85, s86, s87, s88, s89, s90, s91, s92, s93, s94, s95, s96, s97, s98, s99, s100, s101, s102, s103, s104, s105, s106, s107, s108, s109, s110, s111, s112, s113, s114, s115, s116, s117, s118, s119, s120, s121, s122, s123, s124, s125], []⟩ w')
    (hR : ∀ (d7 d30 d31 d32 d33 d34 d35 d36 d37 d38 d39 d40 d41 d42 d43 d44 d45 : Value) (w' : World), Below P w w' → Q .ret ⟨#[.int .i64 win, s1, s2, s3, .bool true, .pointer (some ⟨P, 0, none⟩), s6, d7, s8, s9, s10, s11, s12, s13, s14, s15, s16, s17, s18, s19, s20, s21, s22, s23, s24, s25, s26, s27, .slice SA N cS, .int .i64 N, d30, d31, d32, d33, d34, d35, d36, d37, d38, d39, d40, d41, d42, d43, d44, d45, s46, s47, s48, s49, s50, s51, s52, s53, s54, s55, s56, s57, s58, s59, s60, s61, s62, s63, s64, s65, s66, s67, s68, s69, s70, s71, s72, s73, s74, s75, s76, s77, s78, s79, s80, s81, s82, s83, s84, s85, s86, s87, s88, s89, s90, s91, s92, s93, s94, s95, s96, s97, s98, s99, s100, s101, s102, s103, s104, s105, s106, s107, s108, s109, s110, s111, s112, s113, s114, s115, s116, s117, s118, s119, s120, s121, s122, s123, s124, s125], []⟩ w') :
    Code.wp Try.prog all_loop1_code Q ⟨#[.int .i64 win, s1, s2, s3, s4, .pointer (some ⟨P, 0, none⟩), s6, s7, s8, s9, s10, s11, s12, s13, s14, s15, s16, s17, s18, s19, s20, s21, s22, s23, s24, s25, s26, s27, .slice SA N cS, .int .i64 N, .int .i64 0, s31, s32, s33, s34, s35, s36, s37, s38, s39, s40, s41, s42, s43, s44, s45, s46, s47, s48, s49, s50, s51, s52, s53, s54, s55, s56, s57, s58, s59, s60, s61, s62, s63, s64, s65, s66, s67, s68, s69, s70, s71, s72, s73, s74, s75, s76, s77, s78, s79, s80, s81, s82, s83, s84, s85, s86, s87, s88, s89, s90, s91, s92, s93, s94, s95, s96, s97, s98, s99, s100, s101, s102, s103, s104, s105, s106, s107, s108, s109, s110, s111, s112, s113, s114, s115, s116, s117, s118, s119, s120, s121, s122, s123, s124, s125], []⟩ w := by
  have HK := Lib.hid hK; clear hK
  have HR := Lib.hid hR; clear hR
  have H0 := Lib.hid (And.intro h0 (And.intro hs hN)); clear h0 hs hN
  conv => arg 2; whnf
  go_wp2
  go_loopw [30] (fun i wr => ∃ k : Nat, k ≤ N ∧ i = .int .i64 k ∧ WyNext P P win k w wr) (fun i _ => N - (intOf i).toNat)
  case atStart => exact ⟨0, Nat.zero_le _, rfl, Wy.zero, 0, 0, 0, H0.out.1, WyI.zero hw1, WyK.zero, Below.refl _ _⟩
  case round =>
    obtain ⟨wr, rfl⟩ : ∃ wx : World, wx = wr := ⟨_, rfl⟩
    obtain ⟨k, hk, rfl, s, lo, nx, ex, hB, hI, hKk, hb⟩ := hrel
    by_cases hlt : k < N
    · have hx := List.getElem?_eq_getElem (l := steps) (i := k) (by rw [H0.out.2.2]; exact hlt)
      generalize steps[k]'(by rw [H0.out.2.2]; exact hlt) = sv at hx
      obtain ⟨b, off, rfl, hlb, hwf, x0⟩ := (H0.out.2.1.keep (w' := wr) (fun p hp => hb.cell hp) (fun _ h => h)).int hx
      have hbs := bounds_i64 hwf
      have hPr : P ≤ wr.heap.size := by
        obtain ⟨_, _, _, _, _, _, _, _, _, _, _, _, _, _, _, _, _, _, _, _, _, _, hB2, _⟩ := hB
        exact Nat.le_of_lt hB2.lt
      by_cases hneg : sv < 0
      · have d0 : decide (sv < 0) = true := decide_eq_true hneg
        have H := Lib.hid hb
        clear hB hI hKk hb hx hwf
        go_wp2
        exact HR.out _ _ _ _ _ _ _ _ _ _ _ _ _ _ _ _ _ _ H.out
      · have d0 : decide (sv < 0) = false := decide_eq_false hneg
        have HC := Lib.hid (step_any wr P P win s lo nx ex k sv hB hI hKk hw1 hw2 (by omega) hPr (by omega) (by omega))
        have H := Lib.hid hb
        clear hB hI hKk hb hx hwf
        go_upto_region 12 with (first
          | (go_at_call 20
             go_loud (skip
                      refine HC.out.mono ?_
                      rintro en w1 ⟨⟨v, rfl⟩, hN1⟩
                      have H1 := Lib.hid hN1
                      clear hN1 x0)))
        obtain ⟨s1, lo1, nx1, ex1, hB1, hI1, hK1, hb1⟩ := H1.out
        have hB1' := hB1
        obtain ⟨ρ, AS, nS, cS', AW, nW, cW, AH, nH, cH, AI, nI, cI, AA, nA, cA, AB, nB, cB, AT, nT, cT, hBk, hM, hnI, hnA, hnB, hnT⟩ := hB1'
        have p5 := hBk.cell 5 (v := .slice AI nI cI) rfl
        have lP := hBk.lt
        have hnI5 : nI ≤ 5000 := by have := hK1.items; omega
        have d1 : decide ((5000 : Int) < (nI : Int)) = false := decide_eq_false (by omega)
        have HN2 := Lib.hid (show WyNext P P win (k + 1) w w1 from ⟨s1, lo1, nx1, ex1, hB1, hI1, hK1, H.out.trans hb1⟩)
        clear HC hB1 hI1 hK1 hb1 hBk hM hnI hnA hnB hnT H1
        go_wp2
        go_roundw
        case measure => simp [intOf]; omega
        case rel => exact ⟨k + 1, by omega, by go_num, HN2.out⟩
    · obtain rfl : k = N := by omega
      have H := Lib.hid (show WyNext P P win k w wr from ⟨s, lo, nx, ex, hB, hI, hKk, hb⟩)
      clear hB hI hKk hb
      go_wp2
      exact HK.out _ _ _ _ _ _ _ _ _ _ _ _ _ _ _ _ _ _ H.out
/-- Counts in the second half. -/
structure WyR (s : Wy) (i a n : Nat) : Prop where
  items : s.items.length ≤ i
  acks : s.acks.length ≤ a
  now : s.now ≤ n
noncomputable def all_inner_code : Code := blockOf Try.f7 4
set_option maxRecDepth 100000 in
set_option maxHeartbeats 4000000 in
theorem all_inner {Q : Exit → Act → World → Prop} {s0 s1 s2 s3 s4 s6 s7 s8 s9 s10 s11 s12 s13 s14 s15 s16 s17 s18 s19 s20 s21 s22 s23 s24 s25 s26 s27 s28 s29 s30 s31 s32 s33 s34 s35 s36 s37 s38 s39 s40 s41 s42 s43 s44 s45 s46 s47 s48 s49 s50 s51 s52 s53 s54 s55 s56 s57 s58 s59 s60 s61 s62 s63 s64 s65 s66 s67 s68 s69 s70 s71 s72 s73 s74 s75 s76 s77 s78 s79 s80 s84 s85 s86 s87 s88 s89 s90 s91 s92 s93 s94 s95 s96 s97 s98 s99 s100 s101 s102 s103 s104 s105 s106 s107 s108 s109 s110 s111 s112 s113 s114 s115 s116 s117 s118 s119 s120 s121 s122 s123 s124 s125 : Value} (w : World) (P : Nat) (win : Int) (ρ : Nat → Nat) (s : Wy) (lw nx ex : Nat) (bs : List (List Int)) (l : List It) (T : Option Addr) (t tc i a n : Nat) (hB : WyBr w P P win ρ s) (hI : WyI win s lw nx ex) (hbs : s.sent = bs) (hR : WyR s i a n) (hl : Sl Rit w (Dat w P ρ) T l) (ht : l.length = t)
    (hg : ∀ j x, l[j]? = some x → x.sq = ((lw + j : Nat) : Int) ∧ Good bs nx x) (hw1 : 1 ≤ win) (hw2 : win ≤ 20) (ht20 : t ≤ 20) (hi : i ≤ 100000) (ha : a ≤ 100000) (hn : n ≤ 100000)
    (hK : ∀ (d11 d84 d85 d86 d87 d88 d89 d90 : Value) (w' : World) (s' : Wy) (ex' : Nat), WyB w' P P win s' → WyI win s' lw nx ex' → s'.sent = bs → WyR s' i (a + t) n → lw + t ≤ ex' → Below P w w' → Q .normal ⟨#[s0, s1, s2, s3, s4, .pointer (some ⟨P, 0, none⟩), s6, s7, s8, s9, s10, d11, s12, s13, s14, s15, s16, s17, s18, s19, s20, s21, s22, s23, s24, s25, s26, s27, s28, s29, s30, s31, s32, s33, s34, s35, s36, s37, s38, s39, s40, s41, s42, s43, s44, s45, s46, s47, s48, s49, s50, s51, s52, s53, s54, s55, s56, s57, s58, s59, s60, s61, s62, s63, s64, s65, s66, s67, s68, s69, s70, s71, s72, s73, s74, s75, s76, s77, s78, s79, s80, .slice T t tc, .int .i64 t, .int .i64 t, d84, d85, d86, d87, d88, d89, d90, s91, s92, s93, s94, s95, s96, s97, s98, s99, s100, s101, s102, s103, s104, s105, s106, s107, s108, s109, s110, s111, s112, s113, s114, s115, s116, s117, s118, s119, s120, s121, s122, s123, s124, s125], []⟩ w') :
    Code.wp Try.prog all_inner_code Q ⟨#[s0, s1, s2, s3, s4, .pointer (some ⟨P, 0, none⟩), s6, s7, s8, s9, s10, s11, s12, s13, s14, s15, s16, s17, s18, s19, s20, s21, s22, s23, s24, s25, s26, s27, s28, s29, s30, s31, s32, s33, s34, s35, s36, s37, s38, s39, s40, s41, s42, s43, s44, s45, s46, s47, s48, s49, s50, s51, s52, s53, s54, s55, s56, s57, s58, s59, s60, s61, s62, s63, s64, s65, s66, s67, s68, s69, s70, s71, s72, s73, s74, s75, s76, s77, s78, s79, s80, .slice T t tc, .int .i64 t, .int .i64 0, s84, s85, s86, s87, s88, s89, s90, s91, s92, s93, s94, s95, s96, s97, s98, s99, s100, s101, s102, s103, s104, s105, s106, s107, s108, s109, s110, s111, s112, s113, s114, s115, s116, s117, s118, s119, s120, s121, s122, s123, s124, s125], []⟩ w := by
  have HK := Lib.hid hK; clear hK
  have H0 := Lib.hid (And.intro hB (And.intro hI (And.intro hbs (And.intro hR (And.intro hl (And.intro ht hg))))))
  clear hB hI hbs hR hl ht hg
  conv => arg 2; whnf
  go_wp2
  go_loopw [83] (fun iv wr => ∃ j : Nat, j ≤ t ∧ iv = .int .i64 j ∧ ∃ s' ρ' ex', WyBr wr P P win ρ' s' ∧ WyI win s' lw nx ex' ∧ s'.sent = bs ∧ WyR s' i (a + j) n ∧ lw + j ≤ ex' ∧ Fr w wr ρ ρ' ∧ Below P w wr) (fun iv _ => t - (intOf iv).toNat)
  case atStart => exact ⟨0, Nat.zero_le _, rfl, s, ρ, ex, H0.out.1, H0.out.2.1, H0.out.2.2.1, H0.out.2.2.2.1, H0.out.2.1.loex, Fr.refl _ _, Below.refl _ _⟩
  case round =>
    obtain ⟨wr, rfl⟩ : ∃ wx : World, wx = wr := ⟨_, rfl⟩
    obtain ⟨j, hj, rfl, s', ρ', ex', hB, hI, hbs, hR, hlo, hF, hb⟩ := hrel
    by_cases hlt : j < t
    · have hx := List.getElem?_eq_getElem (l := l) (i := j) (by rw [H0.out.2.2.2.2.2.1]; exact hlt)
      generalize l[j]'(by rw [H0.out.2.2.2.2.2.1]; exact hlt) = x at hx
      obtain ⟨hxs, hxg⟩ := H0.out.2.2.2.2.2.2 j x hx
      obtain ⟨b', off', T', tn', tc', rfl, hlb, w1, w2', htn', hl', hm', hts', y0, y1, y2⟩ := (hF.sl H0.out.2.2.2.2.1).item hx
      have hlb' : b' < wr.heap.size := hlb.2.1
      have hPr : P < wr.heap.size := by
        obtain ⟨_, _, _, _, _, _, _, _, _, _, _, _, _, _, _, _, _, _, _, _, _, hB2, _⟩ := hB
        exact hB2.lt
      have hf := hI.fit hw2 (by have := hR.items; omega) (by have := hR.acks; omega) (by have := hR.now; omega)
      have hcf := hI.comeFit hw1 (by omega) (by rw [hbs]; exact hxg)
      obtain ⟨cc, hIc, hcc⟩ := hI.come hw1 (by omega) (x := x) (by rw [hbs]; exact hxg)
      have hlo' : lw + (j + 1) ≤ ex' + cc := by
        rcases Nat.lt_or_ge (lw + j) ex' with h9 | h9
        · omega
        · have := hcc (by rw [hxs]; congr 1; omega)
          omega
      have HC := Lib.hid (show ∀ w2, RowKit.Below wr.heap.size wr w2 → Calls Try.prog 22 #[.pointer (some ⟨P, 0, none⟩), .agg #[.int .i64 x.sq, .slice T' tn' tc', .int .i64 x.tm]] w2 fun en w3 => (∃ v, en = .returned v) ∧ ((∃ ρ3, WyBr w3 P P win ρ3 (s'.come x win) ∧ Fr wr w3 ρ' ρ3) ∧ Below P wr w3) from fun w2 hb2 =>
        (come_fr w2 P P win (newRole wr ρ') s' x T' tn' tc' (hB.up hb2) hf (by have := hb2.size; omega) htn' (hts'.keep (fun p hp => hb2.cell hp.2.1) (fun b hb => Nat.lt_of_lt_of_le hb.2.1 hb2.size)) (by have := hxg.small (by rw [← hbs]; exact hI.text); omega) w1 hcf.1 hcf.2).mono fun en w3 ⟨e1, ⟨ρ3, e2, e4⟩, e3⟩ => ⟨e1, ⟨ρ3, e2, (Fr.up ρ' hb2).trans e4⟩, (hb2.mono (by omega)).trans e3⟩)
      have HR := Lib.hid (show WyR (s'.come x win) i (a + (j + 1)) n from ⟨hR.items, by show (s'.acks ++ [_]).length ≤ _; have := hR.acks; rw [List.length_append]; simp; omega, hR.now⟩)
      have HI := Lib.hid (And.intro hIc (And.intro (show (s'.come x win).sent = bs from hbs) (And.intro hlo' (And.intro hF hb))))
      clear hB hI hbs hR hlo hF hb hx hxs hxg w1 w2' htn' hl' hm' hts' hf hcf hIc hcc hlo'
      go_wp2_with (first
        | (go_at_call 22
           go_loud (skip
                    refine (HC.out _ ((Below.refl _ _).alloc (Nat.le_refl _) _)).mono ?_
                    rintro en w3 ⟨⟨v, rfl⟩, hR3⟩
                    have H3 := Lib.hid hR3
                    clear hR3 y0 y1 y2)))
      go_roundw
      case measure => simp [intOf]; omega
      case rel =>
        obtain ⟨⟨ρ3, e1, e2⟩, e3⟩ := H3.out
        exact ⟨j + 1, by omega, by go_num, _, ρ3, _, e1, HI.out.1, HI.out.2.1, HR.out, HI.out.2.2.1, HI.out.2.2.2.1.trans e2, HI.out.2.2.2.2.trans e3⟩
    · obtain rfl : j = t := by omega
      have H := Lib.hid (show (WyB wr P P win s' ∧ WyI win s' lw nx ex' ∧ s'.sent = bs ∧ WyR s' i (a + j) n ∧ lw + j ≤ ex' ∧ Below P w wr) from ⟨⟨ρ', hB⟩, hI, hbs, hR, hlo, hb⟩)
      clear hB hI hbs hR hlo hF hb
      go_wp2
      exact HK.out _ _ _ _ _ _ _ _ _ s' ex' H.out.1 H.out.2.1 H.out.2.2.1 H.out.2.2.2.1 H.out.2.2.2.2.1 H.out.2.2.2.2.2
end Go.Proofs.Ytalieakmjkmbbaa
