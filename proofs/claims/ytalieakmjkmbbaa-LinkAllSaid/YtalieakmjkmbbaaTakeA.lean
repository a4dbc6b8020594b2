/-
  Take: its two loops.
-/
import Derived.Test.YtalieakmjkmbbaaTakeP
import Derived.Test.YtalieakmjkmbbaaAck
namespace Go.Proofs.Ytalieakmjkmbbaa
open Go.RowKit Go.Sort Go.Maps
set_option linter.unusedVariables false

def flArr (fl : List Bool) : Array Value := (fl.map Value.bool).toArray
theorem flArr_get {fl : List Bool} {i : Nat} {b : Bool} (h : fl[i]? = some b) : (flArr fl)[i]? = some (.bool b) := by
  simp [flArr, h]
theorem flArr_set (fl : List Bool) (i : Nat) : (flArr fl).setIfInBounds i (.bool true) = flArr (fl.set i true) := by
  simp [flArr, List.map_set]
def lenOf : Value → Nat
  | .slice _ n _ => n
  | _ => 0
theorem lim40 {n : Nat} (h : n ≤ 3518437208883) : n * 40 ≤ 140737488355328 := Nat.le_trans (Nat.mul_le_mul_right 40 h) (by decide)
theorem lim24 {n : Nat} (h : n ≤ 3518437208883) : n * 24 ≤ 140737488355328 := Nat.le_trans (Nat.mul_le_mul_right 24 h) (by decide)
theorem blk_cell_eq {w w' : World} {p : Addr} (h : w'.heap[p.block]? = w.heap[p.block]?) : w'.cell? p = w.cell? p := World.cell?_of_block h
/-- What holds at the first loop's head. -/
structure TkW (w wr : World) (B E G : Nat) (xs : List It) (e0 : Int) (vT : Value) (r : Nat) (fl : List Bool) (told : List (List Int)) : Prop where
  hE : Blk wr E 24 #[.int .i64 (expAt e0 r), .slice none 0 0]
  hG : Blk wr G 4 (flArr fl)
  hT : Own Rbd wr w.heap.size 25 (mid B E) vT told
  bel : Below E w wr
  p : TkP xs e0 r fl told
/-- The world behind a round. -/
theorem TkW.next {w wr w2 w6 : World} {B E G : Nat} {xs : List It} {e0 : Int} {vT vT' : Value} {r : Nat} {fl fl' : List Bool} {told told' : List (List Int)} (h : TkW w wr B E G xs e0 vT r fl told) (hEG : E < G) (hGw : G < w.heap.size) {p : Nat}
    (h2 : w2 = wr.setCell ⟨G, p, none⟩ (.bool true)) (hfl : fl' = fl.set p true) (h6 : ∀ k, k < w2.heap.size → vT.ownBlock ≠ some k → w6.heap[k]? = w2.heap[k]?) (hb6 : Below E w2 w6) (hT : Own Rbd w6 w.heap.size 25 (mid B E) vT' told') (hp : TkP xs e0 (r + 1) fl' told') :
    TkW w (w6.setCell ⟨E, 0, none⟩ (.int .i64 (wrap64 (expAt e0 r + 1)))) B E G xs e0 vT' (r + 1) fl' told' := by
  subst h2
  subst hfl
  have hl := h.hE.lt
  have hlG := h.hG.lt
  have hne : ∀ k, k < w.heap.size → vT.ownBlock ≠ some k := fun k hk e => by have := (h.hT.lt e).1; omega
  have hz : (wr.setCell ⟨G, p, none⟩ (.bool true)).heap.size = wr.heap.size := by simp [World.setCell]
  have g1 : Blk w6 G 4 (flArr (fl.set p true)) := (h6 G (by omega) (hne G hGw)).trans (by rw [← flArr_set]; exact h.hG.set p _)
  have e1 : Blk w6 E 24 #[.int .i64 (expAt e0 r), .slice none 0 0] := (h6 E (by omega) (hne E (by omega))).trans (h.hE.far (p := ⟨G, p, none⟩) (by show E ≠ G; omega) _)
  exact ⟨e1.set 0 _, g1.far (by show G ≠ E; omega) _, hT.setBelow (p := ⟨E, 0, none⟩) (by show E < _; omega) (by show ¬ (B ≤ E ∧ E < E); omega) _, ((h.bel.setCell (p := ⟨G, p, none⟩) (by show E ≤ G; omega) _).trans hb6).setCell (p := ⟨E, 0, none⟩) (Nat.le_refl _) _, hp⟩
theorem ei_bodies' : EI Try.prog 28 25 Rbd.size 24 := ei_bodies
noncomputable def take_loop1_code : Code := blockOf Try.f10 0
set_option maxRecDepth 100000 in
set_option maxHeartbeats 4000000 in
theorem take_loop1 {Q : Exit → Act → World → Prop} {s0 s1 s2 s3 s4 s5 s6 s7 s8 s9 s10 s13 s14 s18 s19 s20 s21 s22 s23 s24 s25 s26 s27 s28 s29 s30 s31 s32 s33 s34 s35 s36 s37 s38 s39 s40 s41 s42 s43 s44 s45 s46 s47 s48 s49 s50 s51 s52 s53 s54 s55 s56 s57 s58 s59 s60 s61 s62 s63 s64 s65 s66 s67 s68 s69 s70 s71 s72 s73 s74 s75 s76 s77 s78 s79 s80 s81 s82 s83 s84 s85 s86 s87 s88 s89 s90 s91 s92 s93 s94 s95 s96 s97 s98 s99 s100 s101 s102 s103 s104 s105 s106 s107 s108 s109 s110 s111 s112 : Value} (w : World) (B E G M : Nat) (xs : List It) (n c : Nat) (A : Option Addr) (e0 : Int) (hn : xs.length = n) (hE : Blk w E 24 #[.int .i64 e0, .slice none 0 0]) (hG : Blk w G 4 (flArr (List.replicate n false))) (hM : MapF w M n (firstF xs)) (hx : Sl Rit w (mid B E) A xs) (hME : M < E) (hEG : E < G)
    (hz : n ≤ 3518437208883) (h1 : -9223372036854775808 ≤ e0) (h2 : e0 ≤ 9223372036854775807)
    (hK : ∀ (d18 d19 d66 d67 d68 d69 d70 d71 d72 d73 d74 d75 d76 d77 d78 d79 d80 d81 d82 d83 d84 d85 d86 d87 d88 d89 vT : Value) (r : Nat) (fl : List Bool) (told : List (List Int)) (w' : World), TkW w w' B E G xs e0 vT r fl told → takeGo n xs e0 = (keptF xs fl, told, expAt e0 r) → Q .normal ⟨#[s0, s1, s2, s3, s4, s5, s6, s7, s8, s9, s10, .slice A n c, .map (some M), s13, s14, .pointer (some ⟨E, 0, none⟩), .slice (some ⟨G, 0, none⟩) n n, vT, d18, d19, s20, s21, s22, s23, s24, s25, s26, s27, s28, s29, s30, s31, s32, s33, s34, s35, s36, s37, s38, s39, s40, s41, s42, s43, s44, s45, s46, s47, s48, s49, s50, s51, s52, s53, s54, s55, s56, s57, s58, s59, s60, s61, s62, s63, s64, s65, d66, d67, d68, d69, d70, d71, d72, d73, d74, d75, d76, d77, d78, d79, d80, d81, d82, d83, d84, d85, d86, d87, d88, d89, s90, s91, s92, s93, s94, s95, s96, s97, s98, s99, s100, s101, s102, s103, s104, s105, s106, s107, s108, s109, s110, s111, s112], []⟩ w') :
    Code.wp Try.prog take_loop1_code Q ⟨#[s0, s1, s2, s3, s4, s5, s6, s7, s8, s9, s10, .slice A n c, .map (some M), s13, s14, .pointer (some ⟨E, 0, none⟩), .slice (some ⟨G, 0, none⟩) n n, .slice none 0 0, s18, s19, s20, s21, s22, s23, s24, s25, s26, s27, s28, s29, s30, s31, s32, s33, s34, s35, s36, s37, s38, s39, s40, s41, s42, s43, s44, s45, s46, s47, s48, s49, s50, s51, s52, s53, s54, s55, s56, s57, s58, s59, s60, s61, s62, s63, s64, s65, s66, s67, s68, s69, s70, s71, s72, s73, s74, s75, s76, s77, s78, s79, s80, s81, s82, s83, s84, s85, s86, s87, s88, s89, s90, s91, s92, s93, s94, s95, s96, s97, s98, s99, s100, s101, s102, s103, s104, s105, s106, s107, s108, s109, s110, s111, s112], []⟩ w := by
  have HK := Lib.hid hK; clear hK
  have hlE := hE.lt
  have hlG := hG.lt
  subst hn
  have H0 := Lib.hid (show TkW w w B E G xs e0 (.slice none 0 0) 0 (List.replicate xs.length false) [] from ⟨hE, hG, Own.nil _ _ _ _ _, Below.refl _ _, TkP.start xs e0⟩)
  obtain ⟨n, hn⟩ : ∃ n, xs.length = n := ⟨_, rfl⟩
  have HX := Lib.hid (And.intro hn (And.intro hx hM))
  rw [hn] at HK hz ⊢
  clear hE hG hM hx hn
  conv => arg 2; whnf
  go_wp2
  go_loopw [17] (fun vT wr => ∃ r fl told, TkW w wr B E G xs e0 vT r fl told) (fun vT _ => n + 1 - lenOf vT)
  case atStart => exact ⟨0, _, _, H0.out⟩
  case round =>
    clear H0
    obtain ⟨wr, rfl⟩ : ∃ wx : World, wx = wr := ⟨_, rfl⟩
    obtain ⟨r, fl, told, hA⟩ := hrel
    have hzr := hA.bel.size
    obtain ⟨tA, tc, htA⟩ := hA.hT.form
    rw [hA.p.tl] at htA
    subst htA
    obtain ⟨e, he⟩ : ∃ e, expAt e0 r = e := ⟨_, rfl⟩
    have hwf := expAt_wf h1 h2 r
    have hA0 := hA.hE
    rw [he] at hA0 hwf
    have c0 := hA0.cell 0 (v := .int .i64 e) rfl; have c1 := hA0.cell 1 (v := .slice none 0 0) rfl; have fE := hA0.frozen
    have fG := hA.hG.frozen
    have hM1 : MapF wr M n (firstF xs) := HX.out.2.2.keep (hA.bel.block M hME) |> fun h => by rw [HX.out.1] at h; exact h
    obtain ⟨o, ho⟩ : ∃ o, firstF xs e = o := ⟨_, rfl⟩
    have HA := Lib.hid (And.intro hA (And.intro he (And.intro hM1 (And.intro ho hwf))))
    clear hA he hA0 hM1 hwf ho
    cases o with
    | none =>
      have HS := Lib.hid (HA.out.1.p.stop (firstF_none (by rw [HA.out.2.1]; exact HA.out.2.2.2.1)))
      go_wp2_with (at_lookup
                   go_loud (skip
                            refine wpList_lookup_F _ rfl _ _ rfl M n (firstF xs) rfl HA.out.2.2.1 e rfl HA.out.2.2.2.2 ?_
                            rw [HA.out.2.2.2.1]
                            simp only [Option.getD_none, Option.isSome_none]))
      exact HK.out _ _ _ _ _ _ _ _ _ _ _ _ _ _ _ _ _ _ _ _ _ _ _ _ _ _ _ r fl told _ HA.out.1 (by rw [← HX.out.1]; exact HS.out)
    | some v =>
      obtain ⟨p, rfl, hp⟩ := firstF_some HA.out.2.2.2.1
      rw [← HA.out.2.1] at hp
      obtain ⟨y, hy, hrn, hP⟩ := HA.out.1.p.step h1 h2 (by have := HX.out.1; omega) hp
      have hpn : p < n := by rw [← HX.out.1]; exact (List.getElem?_eq_some_iff.1 hy).1
      rw [HX.out.1] at hrn
      obtain ⟨b', off', T', tn', tc', rfl, hlb, w1, w2', htn', hl', hm', hts', y0, y1, y2⟩ := (HX.out.2.1.keep (w' := wr) (S' := mid B E) (fun p hp => HA.out.1.bel.cell hp.2) (fun _ h => h)).item hy
      have hlb' : b' < E := hlb.2
      have hpl : p < fl.length := by rw [HA.out.1.p.len, HX.out.1]; exact hpn
      obtain ⟨gb, hgb⟩ : ∃ gb, fl[p]? = some gb := ⟨_, List.getElem?_eq_getElem hpl⟩
      have g0 := HA.out.1.hG.cell p (flArr_get hgb)
      have y1' : (wr.setCell ⟨G, p, none⟩ (.bool true)).cell? ⟨b', off' + p * 3 + 1, none⟩ = some (.slice T' tn' tc') := (World.cell?_setCell_other wr ⟨G, p, none⟩ ⟨b', off' + p * 3 + 1, none⟩ (.bool true) (fun e => by have := congrArg Addr.block e; simp at this; omega)).trans y1
      have hzs : (wr.setCell ⟨G, p, none⟩ (.bool true)).heap.size = wr.heap.size := by simp [World.setCell]
      have HY := Lib.hid (And.intro hP (And.intro htn' (And.intro hl' (And.intro hm' (And.intro hts' (And.intro (HA.out.1.hT.setBelow (p := ⟨G, p, none⟩) (by show G < _; omega) (by show ¬ (B ≤ G ∧ G < E); omega) (.bool true)) HA.out.1.p.tl))))))
      have hto : ∀ k, k < w.heap.size → (Value.slice tA r tc).ownBlock ≠ some k := fun k hk e => by have := (HA.out.1.hT.lt e).1; omega
      have HTO := Lib.hid hto
      have HP := Lib.hid hp
      clear hP htn' hl' hm' hts' hy hp w1 w2' hgb hto
      go_wp2_with (first
        | (at_lookup
           go_loud (skip
                    refine wpList_lookup_F _ rfl _ _ rfl M n (firstF xs) rfl HA.out.2.2.1 e rfl HA.out.2.2.2.2 ?_
                    rw [HA.out.2.2.2.1]
                    simp only [Option.getD_some, Option.isSome_some]))
        | (at_builtin
           go_loud (skip
                    refine wpList_append_own' _ rfl (.tmp 78) (.tmp 84) _ rfl ei_bodies' _ rfl (HY.out.2.2.2.2.2.1.alloc (fun b hb => by rw [hzs]; have : b < E := hb.2; omega) _) (fun b hb => ⟨by have : b < E := hb.2; simp; omega, HTO.out b (by have : b < E := hb.2; omega)⟩) (some _) 1 1 (ys := [y.body]) rfl rfl (cellsNew (by simp)) (Elems.one (R := Rbd) (x := y.body) ⟨T', tc', by rw [HY.out.2.1], by rw [HY.out.2.1]; exact HY.out.2.2.1, HY.out.2.2.2.1, HY.out.2.2.2.2.1.keep (fun q hq => (World.cell?_alloc_lt _ _ _ (by rw [hzs]; have : q.block < E := hq.2; omega)).trans (World.cell?_setCell_other _ _ _ _ (fun e => by have := congrArg Addr.block e; have h9 : q.block < E := hq.2; simp at this; omega))) (fun _ h => h)⟩) (by rw [HY.out.2.2.2.2.2.2]; exact lim24 (by omega)) (by rw [HY.out.2.2.2.2.2.2]; simp only [maxLen]; omega) (by simp; omega) ?_
                    intro vT' w6 hox hg1 hat1
                    have H6 := Lib.hid (And.intro hox (And.intro hg1 hat1))
                    have hbl : ∀ k, k < (wr.setCell ⟨G, p, none⟩ (.bool true)).heap.size → (Value.slice tA r tc).ownBlock ≠ some k → w6.heap[k]? = (wr.setCell ⟨G, p, none⟩ (.bool true)).heap[k]? := fun k hk hne => (hg1.block k (by simp at hk ⊢; omega) (fun e => hne e.symm)).trans (Below.heap_alloc _ _ k hk)
                    have hEb := hbl E (by omega) (HTO.out E hlE)
                    have e0' : w6.cell? ⟨E, 0, none⟩ = some (.int .i64 e) := (World.cell?_of_block (a := ⟨E, 0, none⟩) hEb).trans ((World.cell?_setCell_other _ _ _ _ (fun e => by have := congrArg Addr.block e; simp at this; omega)).trans c0)
                    have fE' : ∀ o, w6.frozen? ⟨E, o, none⟩ = false := fun o => Blk.frozen (t := 24) (cs := #[.int .i64 e, .slice none 0 0]) (hEb.trans ((Below.heap_setCell wr ⟨G, p, none⟩ _ E (by show E ≠ G; omega)).trans (by have := HA.out.1.hE; rw [HA.out.2.1] at this; exact this))) o
                    have HB := Lib.hid (And.intro hbl (((Below.refl E _).alloc (by omega) _).grown hg1 (by simp; omega) (fun g hg => by have := (HA.out.1.hT.lt hg).1; omega)))
                    clear hox hg1 hat1 hbl hEb)))
      have HN := Lib.hid (HA.out.1.next hEG hlG rfl rfl HB.out.1 HB.out.2 H6.out.1 HY.out.1)
      go_roundw
      case measure => 
        obtain ⟨vA, vc, hv⟩ := H6.out.1.form
        have := HY.out.2.2.2.2.2.2
        subst hv
        simp [lenOf]; omega
      case rel => 
        have := HN.out
        rw [HA.out.2.1] at this
        exact ⟨r + 1, _, _, this⟩
/-- What holds at the second loop's head. -/
structure TkV (w wr : World) (B E G : Nat) (e : Int) (v : Value) (l : List It) : Prop where
  hE : Blk wr E 24 #[.int .i64 e, v]
  hT : Own Rit wr w.heap.size 38 (mid B E) v l
  fr : ∀ k, k < w.heap.size → k ≠ E → wr.heap[k]? = w.heap[k]?
  bel : Below E w wr
theorem TkV.next {w wr w2 w6 : World} {B E G : Nat} {e : Int} {v v' : Value} {l l' : List It} (h : TkV w wr B E G e v l) (hE : E < w.heap.size) (h2 : Below wr.heap.size wr w2) (h6 : ∀ k, k < w2.heap.size → v.ownBlock ≠ some k → w6.heap[k]? = w2.heap[k]?) (hb6 : Below E w2 w6) (hT : Own Rit w6 w.heap.size 38 (mid B E) v' l') :
    TkV w (w6.setCell ⟨E, 1, none⟩ v') B E G e v' l' := by
  have hz := h.bel.size
  have hz2 := h2.size
  have hne : ∀ k, k < w.heap.size → v.ownBlock ≠ some k := fun k hk e => by have := (h.hT.lt e).1; omega
  have e1 : Blk w6 E 24 #[.int .i64 e, v] := (h6 E (by omega) (hne E hE)).trans ((h2.block E (by omega)).trans h.hE)
  exact ⟨e1.set 1 _, hT.setBelow (p := ⟨E, 1, none⟩) (by show E < _; omega) (by show ¬ (B ≤ E ∧ E < E); omega) _, fun k hk hkE => (Below.heap_setCell w6 ⟨E, 1, none⟩ _ k hkE).trans ((h6 k (by omega) (hne k hk)).trans ((h2.block k (by omega)).trans (h.fr k hk hkE))), ((h.bel.trans (h2.mono (by omega))).trans hb6).setCell (p := ⟨E, 1, none⟩) (Nat.le_refl _) _⟩
theorem TkV.same {w wr w2 : World} {B E G : Nat} {e : Int} {v : Value} {l : List It} (h : TkV w wr B E G e v l) (hE : E < w.heap.size) (h2 : Below wr.heap.size wr w2) : TkV w w2 B E G e v l := by
  have hz := h.bel.size
  exact ⟨h.hE.below h2 (by omega), h.hT.keep (fun g hg => h2.block g (h.hT.lt hg).2) (fun p hp => h2.cell (by have : p.block < E := hp.2; omega)) (fun _ h => h), fun k hk hkE => (h2.block k (by omega)).trans (h.fr k hk hkE), h.bel.trans (h2.mono (by omega))⟩
noncomputable def take_loop2_code : Code := blockOf Try.f10 2
set_option maxRecDepth 100000 in
set_option maxHeartbeats 4000000 in
theorem take_loop2 {Q : Exit → Act → World → Prop} {s0 s1 s2 s3 s4 s5 s6 s7 s8 s9 s10 s11 s12 s13 s14 s17 s18 s19 s20 s21 s22 s23 s24 s25 s26 s27 s28 s29 s30 s31 s32 s33 s34 s35 s36 s37 s38 s39 s40 s41 s42 s43 s44 s45 s46 s47 s48 s49 s50 s51 s52 s53 s54 s55 s56 s57 s58 s59 s60 s61 s62 s63 s64 s65 s66 s67 s68 s69 s70 s71 s72 s73 s74 s75 s76 s77 s78 s79 s80 s81 s82 s83 s84 s85 s86 s87 s88 s89 s93 s94 s95 s96 s97 s98 s99 s100 s101 s102 s103 s104 s105 s106 s107 s108 s109 s110 s111 s112 : Value} (w : World) (B E G : Nat) (xs : List It) (fl : List Bool) (n c : Nat) (A : Option Addr) (e : Int) (hn : xs.length = n) (hfl : fl.length = n) (hE : Blk w E 24 #[.int .i64 e, .slice none 0 0]) (hG : Blk w G 4 (flArr fl)) (hx : Sl Rit w (mid B E) A xs) (hEG : E < G) (hz : n ≤ 3518437208883)
    (hK : ∀ (d20 d21 d92 d93 d94 d95 d96 d97 d98 d99 d100 d101 d102 d103 d104 d105 d106 d107 d108 v : Value) (w' : World), TkV w w' B E G e v (keptF xs fl) → Q .normal ⟨#[s0, s1, s2, s3, s4, s5, s6, s7, s8, s9, s10, s11, s12, s13, s14, .pointer (some ⟨E, 0, none⟩), .slice (some ⟨G, 0, none⟩) n n, s17, s18, s19, d20, d21, s22, s23, s24, s25, s26, s27, s28, s29, s30, s31, s32, s33, s34, s35, s36, s37, s38, s39, s40, s41, s42, s43, s44, s45, s46, s47, s48, s49, s50, s51, s52, s53, s54, s55, s56, s57, s58, s59, s60, s61, s62, s63, s64, s65, s66, s67, s68, s69, s70, s71, s72, s73, s74, s75, s76, s77, s78, s79, s80, s81, s82, s83, s84, s85, s86, s87, s88, s89, .slice A n c, .int .i64 n, d92, d93, d94, d95, d96, d97, d98, d99, d100, d101, d102, d103, d104, d105, d106, d107, d108, s109, s110, s111, s112], []⟩ w') :
    Code.wp Try.prog take_loop2_code Q ⟨#[s0, s1, s2, s3, s4, s5, s6, s7, s8, s9, s10, s11, s12, s13, s14, .pointer (some ⟨E, 0, none⟩), .slice (some ⟨G, 0, none⟩) n n, s17, s18, s19, s20, s21, s22, s23, s24, s25, s26, s27, s28, s29, s30, s31, s32, s33, s34, s35, s36, s37, s38, s39, s40, s41, s42, s43, s44, s45, s46, s47, s48, s49, s50, s51, s52, s53, s54, s55, s56, s57, s58, s59, s60, s61, s62, s63, s64, s65, s66, s67, s68, s69, s70, s71, s72, s73, s74, s75, s76, s77, s78, s79, s80, s81, s82, s83, s84, s85, s86, s87, s88, s89, .slice A n c, .int .i64 n, .int .i64 0, s93, s94, s95, s96, s97, s98, s99, s100, s101, s102, s103, s104, s105, s106, s107, s108, s109, s110, s111, s112], []⟩ w := by
  have HK := Lib.hid hK; clear hK
  have hlE := hE.lt
  have hlG := hG.lt
  have H0 := Lib.hid (show TkV w w B E G e (.slice none 0 0) (keptF (xs.take 0) (fl.take 0)) from ⟨hE, Own.nil _ _ _ _ _, fun _ _ _ => rfl, Below.refl _ _⟩)
  have HX := Lib.hid (And.intro hn (And.intro hx (And.intro hfl hG)))
  clear hE hG hx hn hfl
  conv => arg 2; whnf
  go_wp2
  go_loopw [92] (fun i wr => ∃ k : Nat, k ≤ n ∧ i = .int .i64 k ∧ ∃ v, TkV w wr B E G e v (keptF (xs.take k) (fl.take k))) (fun i _ => n - (intOf i).toNat)
  case atStart => exact ⟨0, Nat.zero_le _, rfl, _, H0.out⟩
  case round =>
    clear H0
    obtain ⟨wr, rfl⟩ : ∃ wx : World, wx = wr := ⟨_, rfl⟩
    obtain ⟨k, hk, rfl, v, hA⟩ := hrel
    by_cases hlt : k < n
    · have hy := List.getElem?_eq_getElem (l := xs) (i := k) (by rw [HX.out.1]; exact hlt)
      generalize xs[k]'(by rw [HX.out.1]; exact hlt) = y at hy
      have hg := List.getElem?_eq_getElem (l := fl) (i := k) (by rw [HX.out.2.2.1]; exact hlt)
      generalize fl[k]'(by rw [HX.out.2.2.1]; exact hlt) = gb at hg
      have hzr := hA.bel.size
      obtain ⟨b', off', T', tn', tc', rfl, hlb, w1, w2', htn', hl', hm', hts', y0, y1, y2⟩ := (HX.out.2.1.keep (w' := wr) (S' := mid B E) (fun p hp => hA.bel.cell hp.2) (fun _ h => h)).item hy
      have hlb' : b' < E := hlb.2
      have hGr : Blk wr G 4 (flArr fl) := (hA.fr G hlG (by omega)).trans HX.out.2.2.2
      have g0 := hGr.cell k (flArr_get hg)
      have hlGr := hGr.lt
      obtain ⟨vA, vc, hvA⟩ := hA.hT.form
      obtain ⟨N, hN⟩ : ∃ N, (keptF (xs.take k) (fl.take k)).length = N := ⟨_, rfl⟩
      have hNk : N ≤ k := by (rw [← hN]; exact Nat.le_trans (keptF_len _ _) (by rw [List.length_take]; omega))
      rw [hN] at hvA
      subst hvA
      have e1 := hA.hE.cell 1 (v := .slice vA N vc) rfl
      have fE := hA.hE.frozen
      have hlEr := hA.hE.lt
      have hb1 : RowKit.Below wr.heap.size wr (wr.alloc (.cells #[.int .i64 y.sq, .slice T' tn' tc', .int .i64 y.tm] 38)) := (Below.refl _ _).alloc (Nat.le_refl _) _
      have hks : keptF (xs.take (k + 1)) (fl.take (k + 1)) = keptF (xs.take k) (fl.take k) ++ (if gb = true then [] else [y]) := by
        rw [take_snoc' hy, take_snoc' hg, keptF_snoc _ _ _ _ (by rw [List.length_take, List.length_take, HX.out.1, HX.out.2.2.1])]
      have hto : ∀ k, k < w.heap.size → (Value.slice vA N vc).ownBlock ≠ some k := fun k hk e => by have := (hA.hT.lt e).1; omega
      have hvl : ∀ g, (Value.slice vA N vc).ownBlock = some g → w.heap.size ≤ g ∧ g < wr.heap.size := fun g e => hA.hT.lt e
      have HA := Lib.hid (And.intro hA (And.intro hks (And.intro hN (And.intro hb1 (And.intro hto hvl)))))
      have HY := Lib.hid (And.intro htn' (And.intro hl' (And.intro hm' (And.intro hts' (And.intro w1 w2')))))
      clear hA hks hN hb1 hy hg htn' hl' hm' hts' w1 w2' hGr hto hvl
      cases gb with
      | true =>
        go_wp2
        go_roundw
        case measure => simp [intOf]; omega
        case rel => exact ⟨k + 1, by omega, by go_num, _, by rw [HA.out.2.1, if_pos rfl, List.append_nil]; exact HA.out.1.same hlE HA.out.2.2.2.1⟩
      | false =>
        go_wp2_with (at_builtin
                     go_loud (skip
                              refine wpList_append_own' _ rfl (.tmp 103) (.tmp 105) _ rfl ei_items (R := Rit) _ rfl ((HA.out.1.hT.alloc (fun b hb => by have : b < E := hb.2; omega) _).alloc (fun b hb => by have : b < E := hb.2; simp; omega) _) (fun b hb => ⟨by have : b < E := hb.2; simp; omega, HA.out.2.2.2.2.1 b (by have : b < E := hb.2; omega)⟩) (some _) 1 1 (ys := [y]) rfl rfl (cellsNew (by simp)) (newItem HY.out.1 HY.out.2.2.2.2.1 HY.out.2.2.2.2.2 HY.out.2.1 HY.out.2.2.1 (HY.out.2.2.2.1.keep (fun p hp => (World.cell?_alloc_lt _ _ _ (by have : p.block < E := hp.2; simp; omega)).trans (World.cell?_alloc_lt _ _ _ (by have : p.block < E := hp.2; omega))) (fun _ h => h))) (by rw [HA.out.2.2.1]; exact lim40 (by omega)) (by rw [HA.out.2.2.1]; simp only [maxLen]; omega) (by simp; omega) ?_
                              intro v' w6 hox hg1 hat1
                              obtain ⟨vA', vc', rfl⟩ := hox.form
                              obtain ⟨N1, hN1⟩ : ∃ N1, (keptF (xs.take k) (fl.take k) ++ [y]).length = N1 := ⟨_, rfl⟩
                              rw [hN1] at hox ⊢
                              clear hN1
                              have H6 := Lib.hid hox
                              have hbl : ∀ k', k' < (wr.alloc (.cells #[.int .i64 y.sq, .slice T' tn' tc', .int .i64 y.tm] 38)).heap.size → (Value.slice vA N vc).ownBlock ≠ some k' → w6.heap[k']? = (wr.alloc (.cells #[.int .i64 y.sq, .slice T' tn' tc', .int .i64 y.tm] 38)).heap[k']? := fun k' hk hne => (hg1.block k' (by simp at hk ⊢; omega) (fun e => hne e.symm)).trans (Below.heap_alloc _ _ k' hk)
                              have hEb : w6.heap[E]? = wr.heap[E]? := (hbl E (by simp; omega) (HA.out.2.2.2.2.1 E hlE)).trans (Below.heap_alloc _ _ E hlEr)
                              have e1' : w6.cell? ⟨E, 1, none⟩ = some (.slice vA N vc) := (World.cell?_of_block (a := ⟨E, 1, none⟩) hEb).trans e1
                              have fE' : ∀ o, w6.frozen? ⟨E, o, none⟩ = false := fun o => by have h9 := fE o; unfold World.frozen? at h9 ⊢; rw [hEb]; exact h9
                              have HB := Lib.hid (And.intro hbl (((Below.refl E _).alloc (by simp; omega) _).grown hg1 (by simp; omega) (fun g hg => by have := (HA.out.2.2.2.2.2 g hg).1; omega)))
                              clear hox hg1 hat1 hbl hEb))
        have HN := Lib.hid (HA.out.1.next hlE HA.out.2.2.2.1 HB.out.1 HB.out.2 H6.out)
        go_roundw
        case measure => simp [intOf]; omega
        case rel => exact ⟨k + 1, by omega, by go_num, _, by rw [HA.out.2.1, if_neg (by decide)]; exact HN.out⟩
    · have hf : xs.take k = xs := List.take_of_length_le (by rw [HX.out.1]; omega)
      have hf2 : fl.take k = fl := List.take_of_length_le (by rw [HX.out.2.2.1]; omega)
      rw [hf, hf2] at hA
      have HA := Lib.hid hA; clear hA hf hf2
      go_wp2
      exact HK.out _ _ _ _ _ _ _ _ _ _ _ _ _ _ _ _ _ _ _ _ _ HA.out
end Go.Proofs.Ytalieakmjkmbbaa
