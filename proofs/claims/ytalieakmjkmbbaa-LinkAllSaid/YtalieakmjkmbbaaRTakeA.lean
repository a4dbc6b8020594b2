/-
  The reference's Take: plain facts; its small pieces.
-/
import Derived.Test.YtalieakmjkmbbaaLive
namespace Go.Proofs.Ytalieakmjkmbbaa
open Go.RowKit Go.Sort Go.Maps
set_option linter.unusedVariables false

structure RkP (xs : List It) (e0 : Int) (r : Nat) (cur : List It) (told : List (List Int)) : Prop where
  cnt : cur.length + r = xs.length
  tl : told.length = r
  go : takeGo xs.length xs e0 = ((takeGo (xs.length - r) cur (expAt e0 r)).1, told ++ (takeGo (xs.length - r) cur (expAt e0 r)).2.1, (takeGo (xs.length - r) cur (expAt e0 r)).2.2)
theorem RkP.start (xs : List It) (e0 : Int) : RkP xs e0 0 xs [] := ⟨rfl, rfl, rfl⟩
theorem findIdx_get {f : It → Bool} : ∀ {xs : List It} {p : Nat}, xs.findIdx? f = some p → ∃ y, xs[p]? = some y ∧ f y = true ∧ xs.find? f = some y ∧ xs.eraseP f = xs.take p ++ xs.drop (p + 1)
  | [], p, h => by simp at h
  | x :: r, p, h => by
    rw [List.findIdx?_cons] at h
    by_cases hx : f x = true
    · rw [if_pos hx] at h
      obtain rfl := Option.some.inj h
      exact ⟨x, rfl, hx, by simp [List.find?_cons, hx], by simp [List.eraseP_cons, hx]⟩
    · rw [if_neg hx] at h
      obtain ⟨q, hq, rfl⟩ := Option.map_eq_some_iff.1 h
      obtain ⟨y, h1, h2, h3, h4⟩ := findIdx_get hq
      have hx' : f x = false := by simpa using hx
      exact ⟨y, by simpa using h1, h2, by simp [List.find?_cons, hx', h3], by simp [List.eraseP_cons, hx', h4]⟩
theorem RkP.step {xs : List It} {e0 : Int} {r : Nat} {cur : List It} {told : List (List Int)} (h : RkP xs e0 r cur told) {p : Nat} (hp : cur.findIdx? (isE (expAt e0 r)) = some p) :
    ∃ y, cur[p]? = some y ∧ r < xs.length ∧ p < cur.length ∧ RkP xs e0 (r + 1) (cur.take p ++ cur.drop (p + 1)) (told ++ [y.body]) := by
  obtain ⟨y, h1, h2, h3, h4⟩ := findIdx_get hp
  have hpl := (List.getElem?_eq_some_iff.1 h1).1
  have hc := h.cnt
  refine ⟨y, h1, by omega, hpl, ⟨?_, by simp [h.tl], ?_⟩⟩
  · rw [List.length_append, List.length_take, List.length_drop]; omega
  · rw [h.go, show xs.length - r = (xs.length - (r + 1)) + 1 by omega, takeGo_some h3, h4]
    simp [expAt]
theorem RkP.stop {xs : List It} {e0 : Int} {r : Nat} {cur : List It} {told : List (List Int)} (h : RkP xs e0 r cur told) (hp : cur.findIdx? (isE (expAt e0 r)) = none) : takeGo xs.length xs e0 = (cur, told, expAt e0 r) := by
  have : cur.find? (isE (expAt e0 r)) = none := by
    rw [List.find?_eq_none]
    intro x hx
    rw [List.findIdx?_eq_none_iff] at hp
    have := hp x hx
    simpa using this
  rw [h.go, takeGo_none this, List.append_nil]
theorem metIn_snoc (xs : List It) (y : It) (seq : Int) : metIn (xs ++ [y]) seq = (metIn xs seq || decide (y.sq = seq)) := by
  unfold metIn; rw [List.any_append]; simp
theorem Own.item {w : World} {B : Nat} {e : TypeId} {S : Nat → Prop} {A : Option Addr} {n c : Nat} {xs : List It} (h : Own Rit w B e S (.slice A n c) xs) {i : Nat} {x : It} (hx : xs[i]? = some x) :
    ∃ (g : Nat) (T : Option Addr) (m mc : Nat), A = some ⟨g, 0, none⟩ ∧ (Lit.int .i64 x.sq).wf = true ∧ (Lit.int .i64 x.tm).wf = true ∧ x.body.length = m ∧ m ≤ mc ∧ mc ≤ maxLen ∧ Sl (Rint .u8) w S T x.body ∧
      w.cell? ⟨g, i * 3, none⟩ = some (.int .i64 x.sq) ∧ w.cell? ⟨g, i * 3 + 1, none⟩ = some (.slice T m mc) ∧ w.cell? ⟨g, i * 3 + 2, none⟩ = some (.int .i64 x.tm) ∧ B ≤ g ∧ g < w.heap.size ∧ n = xs.length ∧ n ≤ c := by
  obtain ⟨cells, ⟨hl, h1⟩, he⟩ := h
  have hi := (List.getElem?_eq_some_iff.1 hx).1
  rcases h1 with ⟨hv, hn⟩ | ⟨g, cap, cur, hv, hb, hh, hle, hm, hsz, htake⟩
  · omega
  · injection hv with e1 e2 e3
    subst e1 e2 e3
    have hblk : Blk w g e cur := hh
    obtain ⟨cs, ⟨T, mc, rfl, w1, w2, hl1, hm1, hs⟩, hc⟩ := he.2 i x hx
    have key : ∀ j v, [Value.int .i64 x.sq, Value.slice T x.body.length mc, Value.int .i64 x.tm][j]? = some v → w.cell? ⟨g, i * 3 + j, none⟩ = some v := fun j v hj => by
      have h9 := hc j v hj
      have h9' : cells[i * 3 + j]? = some v := h9
      rw [← htake, List.getElem?_take] at h9'
      split at h9'
      · exact hblk.cell _ (by simpa using h9')
      · cases h9'
    exact ⟨g, T, _, mc, rfl, w1, w2, rfl, hl1, hm1, hs, key 0 _ rfl, key 1 _ rfl, key 2 _ rfl, hb, hblk.lt, rfl, hle⟩

/-! ### the first loop: is the number held -/
noncomputable def rt_loop0_code : Code := blockOf Try.f11 0
set_option maxRecDepth 100000 in
set_option maxHeartbeats 2000000 in
theorem rt_loop0 {Q : Exit → Act → World → Prop} {s0 s2 s3 s4 s5 s6 s7 s8 s9 s10 s11 s13 s14 s15 s16 s17 s18 s19 s20 s21 s22 s23 s24 s25 s29 s30 s31 s32 s33 s34 s35 s36 s37 s38 s39 s40 s41 s42 s43 s44 s45 s46 s47 s48 s49 s50 s51 s52 s53 s54 s55 s56 s57 s58 s59 s60 s61 s62 s63 s64 s65 s66 s67 s68 s69 s70 s71 s72 s73 s74 s75 s76 s77 s78 s79 s80 s81 s82 s83 s84 s85 s86 s87 s88 s89 s90 s91 s92 s93 s94 s95 s96 s97 s98 s99 s100 s101 s102 s103 s104 s105 s106 s107 s108 s109 s110 s111 s112 s113 : Value} (w : World) (W : Nat) (A : Option Addr) (n c : Nat) (xs : List It) (seq : Int) (hn : xs.length = n) (hx : Sl Rit w (lo W) A xs) (hW : W ≤ w.heap.size) (hz : n ≤ 9223372036854775807)
    (hK : ∀ (d14 d29 d30 d31 d32 d33 d34 d35 d36 d37 d38 d39 : Value) (w' : World), Below w.heap.size w w' → Q .normal ⟨#[s0, .int .i64 seq, s2, s3, s4, s5, s6, s7, s8, s9, s10, s11, .bool (metIn xs seq), s13, d14, s15, s16, s17, s18, s19, s20, s21, s22, s23, s24, s25, .slice A n c, .int .i64 n, .int .i64 n, d29, d30, d31, d32, d33, d34, d35, d36, d37, d38, d39, s40, s41, s42, s43, s44, s45, s46, s47, s48, s49, s50, s51, s52, s53, s54, s55, s56, s57, s58, s59, s60, s61, s62, s63, s64, s65, s66, s67, s68, s69, s70, s71, s72, s73, s74, s75, s76, s77, s78, s79, s80, s81, s82, s83, s84, s85, s86, s87, s88, s89, s90, s91, s92, s93, s94, s95, s96, s97, s98, s99, s100, s101, s102, s103, s104, s105, s106, s107, s108, s109, s110, s111, s112, s113], []⟩ w') :
    Code.wp Try.prog rt_loop0_code Q ⟨#[s0, .int .i64 seq, s2, s3, s4, s5, s6, s7, s8, s9, s10, s11, .bool false, s13, s14, s15, s16, s17, s18, s19, s20, s21, s22, s23, s24, s25, .slice A n c, .int .i64 n, .int .i64 0, s29, s30, s31, s32, s33, s34, s35, s36, s37, s38, s39, s40, s41, s42, s43, s44, s45, s46, s47, s48, s49, s50, s51, s52, s53, s54, s55, s56, s57, s58, s59, s60, s61, s62, s63, s64, s65, s66, s67, s68, s69, s70, s71, s72, s73, s74, s75, s76, s77, s78, s79, s80, s81, s82, s83, s84, s85, s86, s87, s88, s89, s90, s91, s92, s93, s94, s95, s96, s97, s98, s99, s100, s101, s102, s103, s104, s105, s106, s107, s108, s109, s110, s111, s112, s113], []⟩ w := by
  have HK := Lib.hid hK; clear hK
  have HX := Lib.hid (And.intro hn hx); clear hn hx
  conv => arg 2; whnf
  go_wp2
  go_loopw [12, 28] (fun q i wr => ∃ k : Nat, k ≤ n ∧ i = .int .i64 k ∧ q = .bool (metIn (xs.take k) seq) ∧ Below w.heap.size w wr) (fun _ i _ => n - (intOf i).toNat)
  case atStart => exact ⟨0, Nat.zero_le _, rfl, rfl, Below.refl _ _⟩
  case round =>
    obtain ⟨wr, rfl⟩ : ∃ wx : World, wx = wr := ⟨_, rfl⟩
    obtain ⟨k, hk, rfl, rfl, hb⟩ := hrel
    have hz1 := hb.size
    by_cases hlt : k < n
    · have hy := List.getElem?_eq_getElem (l := xs) (i := k) (by rw [HX.out.1]; exact hlt)
      generalize xs[k]'(by rw [HX.out.1]; exact hlt) = y at hy
      obtain ⟨b', off', T', tn', tc', rfl, hlb, w1, w2, htn', _, _, hts', y0, y1, y2⟩ := (HX.out.2.keep (w' := wr) (S' := lo W) (fun p hp => hb.cell (by have : p.block < W := hp; omega)) (fun _ h => h)).item hy
      have hlb' : b' < W := hlb
      obtain ⟨mk, hmk⟩ : ∃ mk, metIn (xs.take k) seq = mk := ⟨_, rfl⟩
      obtain ⟨qq, hqq⟩ : ∃ qq, decide (y.sq = seq) = qq := ⟨_, rfl⟩
      have hq2 : (y.sq == seq) = qq := by rw [← hqq]; by_cases h : y.sq = seq <;> simp [h]
      have HS := Lib.hid (show metIn (xs.take (k + 1)) seq = (mk || qq) by rw [take_snoc' hy, metIn_snoc, hmk, hqq])
      rw [hmk]
      have HB := Lib.hid (hb.alloc hz1 (.cells #[.int .i64 y.sq, .slice T' tn' tc', .int .i64 y.tm] 38))
      clear hb hmk hqq hy w1 w2 htn' hts'
      cases mk
      · go_wp2
        go_roundw
        case measure => simp [intOf]; omega
        case rel => exact ⟨k + 1, by omega, by go_num, by rw [HS.out]; simp, HB.out⟩
      · go_wp2
        go_roundw
        case measure => simp [intOf]; omega
        case rel => exact ⟨k + 1, by omega, by go_num, by rw [HS.out]; simp, HB.out⟩
    · have hf : xs.take k = xs := List.take_of_length_le (by rw [HX.out.1]; omega)
      obtain rfl : k = n := by omega
      rw [hf]
      have HB := Lib.hid hb; clear hb hf
      go_wp2
      exact HK.out _ _ _ _ _ _ _ _ _ _ _ _ _ HB.out
/-! ### the search -/
theorem firstF_lt {xs : List It} {e : Int} {v : Int} (h : firstF xs e = some v) : 0 ≤ v ∧ v < xs.length := by
  obtain ⟨p, rfl, hp⟩ := firstF_some h
  have := (List.getElem?_eq_some_iff.1 (findIdx_get hp).choose_spec.1).1
  omega
noncomputable def rt_find_code : Code := blockOf Try.f11 4
set_option maxRecDepth 100000 in
set_option maxHeartbeats 2000000 in
theorem rt_find {Q : Exit → Act → World → Prop} {s0 s1 s2 s3 s4 s5 s6 s7 s8 s9 s10 s12 s13 s14 s15 s17 s18 s19 s20 s21 s22 s23 s24 s25 s26 s27 s28 s29 s30 s31 s32 s33 s34 s35 s36 s37 s38 s39 s40 s41 s42 s43 s44 s45 s46 s47 s48 s49 s50 s51 s52 s53 s54 s55 s56 s57 s58 s59 s60 s61 s62 s63 s64 s68 s69 s70 s71 s72 s73 s74 s75 s76 s77 s78 s79 s80 s81 s82 s83 s84 s85 s86 s87 s88 s89 s90 s91 s92 s93 s94 s95 s96 s97 s98 s99 s100 s101 s102 s103 s104 s105 s106 s107 s108 s109 s110 s111 s112 s113 : Value} (w : World) (W B H : Nat) (v : Value) (e : Int) (A : Option Addr) (n c : Nat) (xs : List It) (hn : xs.length = n) (hx : Own Rit w B 38 (lo W) (.slice A n c) xs) (hW : W ≤ w.heap.size) (hz : n ≤ 3518437208883) (hH : Blk w H 24 #[.int .i64 e, v])
    (hK : ∀ (d17 d18 d68 d69 d70 d71 d72 d73 d74 d75 d76 d77 d78 d79 d80 d81 d82 : Value) (w' : World), Below w.heap.size w w' → Q .normal ⟨#[s0, s1, s2, s3, s4, s5, s6, s7, s8, s9, s10, .pointer (some ⟨H, 0, none⟩), s12, s13, s14, s15, .int .i64 ((firstF xs e).getD (-1)), d17, d18, s19, s20, s21, s22, s23, s24, s25, s26, s27, s28, s29, s30, s31, s32, s33, s34, s35, s36, s37, s38, s39, s40, s41, s42, s43, s44, s45, s46, s47, s48, s49, s50, s51, s52, s53, s54, s55, s56, s57, s58, s59, s60, s61, s62, s63, s64, .slice A n c, .int .i64 n, .int .i64 n, d68, d69, d70, d71, d72, d73, d74, d75, d76, d77, d78, d79, d80, d81, d82, s83, s84, s85, s86, s87, s88, s89, s90, s91, s92, s93, s94, s95, s96, s97, s98, s99, s100, s101, s102, s103, s104, s105, s106, s107, s108, s109, s110, s111, s112, s113], []⟩ w') :
    Code.wp Try.prog rt_find_code Q ⟨#[s0, s1, s2, s3, s4, s5, s6, s7, s8, s9, s10, .pointer (some ⟨H, 0, none⟩), s12, s13, s14, s15, .int .i64 (-1), s17, s18, s19, s20, s21, s22, s23, s24, s25, s26, s27, s28, s29, s30, s31, s32, s33, s34, s35, s36, s37, s38, s39, s40, s41, s42, s43, s44, s45, s46, s47, s48, s49, s50, s51, s52, s53, s54, s55, s56, s57, s58, s59, s60, s61, s62, s63, s64, .slice A n c, .int .i64 n, .int .i64 0, s68, s69, s70, s71, s72, s73, s74, s75, s76, s77, s78, s79, s80, s81, s82, s83, s84, s85, s86, s87, s88, s89, s90, s91, s92, s93, s94, s95, s96, s97, s98, s99, s100, s101, s102, s103, s104, s105, s106, s107, s108, s109, s110, s111, s112, s113], []⟩ w := by
  have HK := Lib.hid hK; clear hK
  have HX := Lib.hid (And.intro hn (And.intro hx hH)); clear hn hx
  have hlH := hH.lt
  clear hH
  conv => arg 2; whnf
  go_wp2
  go_loopw [16, 67] (fun q i wr => ∃ k : Nat, k ≤ n ∧ i = .int .i64 k ∧ q = .int .i64 ((firstF (xs.take k) e).getD (-1)) ∧ Below w.heap.size w wr) (fun _ i _ => n - (intOf i).toNat)
  case atStart => exact ⟨0, Nat.zero_le _, rfl, rfl, Below.refl _ _⟩
  case round =>
    obtain ⟨wr, rfl⟩ : ∃ wx : World, wx = wr := ⟨_, rfl⟩
    obtain ⟨k, hk, rfl, rfl, hb⟩ := hrel
    have hz1 := hb.size
    by_cases hlt : k < n
    · have hy := List.getElem?_eq_getElem (l := xs) (i := k) (by rw [HX.out.1]; exact hlt)
      generalize xs[k]'(by rw [HX.out.1]; exact hlt) = y at hy
      obtain ⟨b', T', tn', tc', rfl, w1, w2, htn', _, _, hts', y0, y1, y2, hlb, hlb2, _, hcc⟩ := (HX.out.2.1.keep (w' := wr) (fun g hg => hb.block g (HX.out.2.1.lt hg).2) (fun p hp => hb.cell (by have : p.block < W := hp; omega)) (fun _ h => h)).item hy
      have hHr := HX.out.2.2.below hb hlH
      have e0 := hHr.cell 0 (v := .int .i64 e) rfl
      have hlHr := hHr.lt
      obtain ⟨o, ho⟩ : ∃ o, firstF (xs.take k) e = o := ⟨_, rfl⟩
      have hs : firstF (xs.take (k + 1)) e = if o.isSome = true then o else if e = y.sq then some (k : Int) else none := by
        rw [take_snoc' hy, firstF_snoc, List.length_take, Nat.min_eq_left (by have := HX.out.1; omega), ho]
      have HV := Lib.hid (show ∀ v', o = some v' → 0 ≤ v' ∧ v' < 4000000000000 from fun v' hv' => by
        have := firstF_lt (ho.trans hv')
        have h9 : (xs.take k).length ≤ n := by rw [List.length_take, HX.out.1]; omega
        omega)
      rw [ho]
      have HB := Lib.hid (And.intro (hb.alloc hz1 (.cells #[.int .i64 y.sq, .slice T' tn' tc', .int .i64 y.tm] 38)) hs)
      clear hb hs ho hy w1 w2 htn' hts' hHr
      cases o with
      | some v' =>
        obtain ⟨hv1, hv2⟩ := HV.out v' rfl
        simp only [Option.getD_some]
        have hvd : decide (v' < 0) = false := by simp; omega
        go_wp2
        go_roundw
        case measure => simp [intOf]; omega
        case rel => exact ⟨k + 1, by omega, by go_num, by rw [HB.out.2]; simp, HB.out.1⟩
      | none =>
        simp only [Option.getD_none]
        obtain ⟨qq, hqq⟩ : ∃ qq, decide (e = y.sq) = qq := ⟨_, rfl⟩
        have hq2 : (y.sq == e) = qq := by rw [← hqq]; by_cases h : e = y.sq <;> simp [h]; exact fun h9 => h h9.symm
        have HQ := Lib.hid hqq
        clear hqq
        cases qq
        · go_wp2
          go_roundw
          case measure => simp [intOf]; omega
          case rel => exact ⟨k + 1, by omega, by go_num, by rw [HB.out.2]; have h9 := HQ.out; simp at h9; simp [h9], HB.out.1⟩
        · go_wp2
          go_roundw
          case measure => simp [intOf]; omega
          case rel => exact ⟨k + 1, by omega, by go_num, by rw [HB.out.2]; have h9 := HQ.out; simp at h9; simp [h9], HB.out.1⟩
    · have hf : xs.take k = xs := List.take_of_length_le (by rw [HX.out.1]; omega)
      obtain rfl : k = n := by omega
      rw [hf]
      have HB := Lib.hid hb; clear hb hf
      go_wp2
      exact HK.out _ _ _ _ _ _ _ _ _ _ _ _ _ _ _ _ _ _ HB.out
end Go.Proofs.Ytalieakmjkmbbaa
