/-
  LinkNumbers: the region with the call of Ack; the round's test.
-/
import Derived.Test.YtalieakmjkmbbaaNumP
namespace Go.Proofs.Ytalieakmjkmbbaa
open Go.RowKit Go.Sort
set_option linter.unusedVariables false
attribute [local go_sem ↓] Go.wp_at_zero Go.wp_at_succ

theorem num_fin {w w1 wf : World} {a : Nat} {A : Option Addr} {n : Nat} {B : Option Addr} {m : Nat} {o : Ot} {e : TypeId} {v : Value} {l : List It} (h1 : OutAt w1 (mid a w1.heap.size) A n B m o) (h2 : OwnX Rit w1 a e (fun _ => False) v l) (ha : w.heap.size ≤ a) (hf : ∀ k, a ≤ k → k < w1.heap.size → wf.heap[k]? = w1.heap[k]?) (hz : w1.heap.size ≤ wf.heap.size) :
    OutAt wf (mid w.heap.size wf.heap.size) A n B m o ∧ OwnX Rit wf w.heap.size e (fun _ => False) v l :=
  ⟨h1.keep (fun p hp => World.cell?_of_block (hf p.block hp.1 hp.2)) (fun b hb => ⟨by have := hb.1; omega, by have := hb.2; omega⟩), (h2.frame (fun k h3 h4 _ => hf k h3 h4) hz (fun _ _ _ _ h => h)).base ha⟩
noncomputable def num_r14_code : Code := regionOf Try.f5 14
set_option maxRecDepth 100000 in
set_option maxHeartbeats 2000000 in
theorem num_r14 {Q : Exit → Act → World → Prop} {s0 s3 s4 s5 s6 s7 s8 s10 s12 s13 s14 s15 s16 s17 s18 s19 s20 s21 s22 s23 s24 s25 s26 s27 s28 s29 s30 s31 s32 s33 s34 s35 s36 s37 s38 s39 s40 s41 s42 s43 s44 s45 s46 s47 s48 s49 s50 s51 s52 s53 s54 s55 s56 s57 s58 s59 s60 s61 s62 s63 s64 s65 s66 s67 s68 s69 s70 s71 s72 s73 s74 s75 s76 s77 s78 s79 s80 s81 s82 s83 s84 s85 s86 s87 s88 s89 s90 s91 s92 s93 s94 s95 s96 s97 s98 s99 s100 s101 s102 s103 s104 s105 s106 s107 s108 s109 s110 s111 s112 s113 s114 s115 s116 s117 s118 s119 s120 s121 s122 s123 s124 s125 s126 s127 s128 s129 s130 s131 s132 s133 s134 s135 s136 : Value} (w : World) (V : Nat) (o : Ot) (AS : Option Addr) (nS cS : Nat) (AW : Option Addr) (nW cW : Nat) (ab aoff na ca k : Nat) (ak win : Int) (ho : OutAt w (lo w.heap.size) AS nS AW nW o) (hcw : nW ≤ cW) (hcm : cW ≤ maxLen) (hs1 : nS + nW + 1 ≤ 3000000)
    (ht1 : ∀ x ∈ o.sent, x.body.length ≤ 140737488355328) (ht2 : ∀ x ∈ o.wait, x.length ≤ 140737488355328) (hx0 : 0 ≤ o.next) (hx1 : o.next < 4000000000000000000) (hk : k < na) (hk2 : k ≤ 100) (hV : V < w.heap.size) (hab : ab < w.heap.size)
    (h0 : w.cell? ⟨V, 0, none⟩ = some (.int .i64 o.next)) (h1 : w.cell? ⟨V, 1, none⟩ = some (.slice AS nS cS)) (h2 : w.cell? ⟨V, 2, none⟩ = some (.slice AW nW cW)) (h3 : w.cell? ⟨ab, aoff + k, none⟩ = some (.int .i64 ak))
    (hK : ∀ (d58 d59 d60 d61 d62 d63 d64 d65 d66 d67 d68 : Value) (G : Nat) (A : Option Addr) (n c : Nat) (B : Option Addr) (m d : Nat) (T : Option Addr) (t tc : Nat) (w' : World), OutAt w' (mid w.heap.size w'.heap.size) A n B m (ackP o ak win k).1 → n ≤ c → c ≤ maxLen → m ≤ d → d ≤ maxLen → (ackP o ak win k).2.length = t → OwnX Rit w' w.heap.size 38 (fun _ => False) (.slice T t tc) (ackP o ak win k).2 →
      Blk w' G 35 #[.int .i64 (ackP o ak win k).1.next, .slice A n c, .slice B m d] → w.heap.size ≤ G → Below w.heap.size w w' → Q .normal ⟨#[s0, .int .i64 win, .slice (some ⟨ab, aoff, none⟩) na ca, s3, s4, s5, s6, s7, s8, .int .i64 k, s10, .pointer (some ⟨V, 0, none⟩), s12, .pointer (some ⟨G, 0, none⟩), .slice T t tc, s15, s16, s17, s18, s19, s20, s21, s22, s23, s24, s25, s26, s27, s28, s29, s30, s31, s32, s33, s34, s35, s36, s37, s38, s39, s40, s41, s42, s43, s44, s45, s46, s47, s48, s49, s50, s51, s52, s53, s54, s55, s56, s57, d58, d59, d60, d61, d62, d63, d64, d65, d66, d67, d68, s69, s70, s71, s72, s73, s74, s75, s76, s77, s78, s79, s80, s81, s82, s83, s84, s85, s86, s87, s88, s89, s90, s91, s92, s93, s94, s95, s96, s97, s98, s99, s100, s101, s102, s103, s104, s105, s106, s107, s108, s109, s110, s111, s112, s113, s114, s115, s116, s117, s118, s119, s120, s121, s122, s123, s124, s125, s126, s127, s128, s129, s130, s131, s132, s133, s134, s135, s136], []⟩ w') :
    Code.wp Try.prog num_r14_code Q ⟨#[s0, .int .i64 win, .slice (some ⟨ab, aoff, none⟩) na ca, s3, s4, s5, s6, s7, s8, .int .i64 k, s10, .pointer (some ⟨V, 0, none⟩), s12, s13, s14, s15, s16, s17, s18, s19, s20, s21, s22, s23, s24, s25, s26, s27, s28, s29, s30, s31, s32, s33, s34, s35, s36, s37, s38, s39, s40, s41, s42, s43, s44, s45, s46, s47, s48, s49, s50, s51, s52, s53, s54, s55, s56, s57, s58, s59, s60, s61, s62, s63, s64, s65, s66, s67, s68, s69, s70, s71, s72, s73, s74, s75, s76, s77, s78, s79, s80, s81, s82, s83, s84, s85, s86, s87, s88, s89, s90, s91, s92, s93, s94, s95, s96, s97, s98, s99, s100, s101, s102, s103, s104, s105, s106, s107, s108, s109, s110, s111, s112, s113, s114, s115, s116, s117, s118, s119, s120, s121, s122, s123, s124, s125, s126, s127, s128, s129, s130, s131, s132, s133, s134, s135, s136], []⟩ w := by
  have HK := Lib.hid hK; clear hK
  have HB := Lib.hid (And.intro ho (And.intro ht1 (And.intro ht2 (show (Lit.int .i64 (k : Int)).wf = true from WalkArith.wf_i64 ⟨by omega, by omega⟩)))); clear ho ht1 ht2
  conv => arg 2; whnf
  refine wp_region_noPanic ?_
  refine wp_region_held_drew (S := (fun w' => w'.cell? ⟨V, 0, none⟩ = some (.int .i64 o.next) ∧ w'.cell? ⟨V, 1, none⟩ = some (.slice AS nS cS) ∧ w'.cell? ⟨V, 2, none⟩ = some (.slice AW nW cW) ∧ w'.cell? ⟨ab, aoff + k, none⟩ = some (.int .i64 ak))) (by kernel_rfl) ?_ (fun hHeld0 => ?_)
  · (try dsimp only)
    (first | (with_reducible assumption) | (go_keep; done) | (refine ⟨?_, ?_, ?_, ?_⟩ <;> (first | (with_reducible assumption) | (simp [go_sem, *]; done) | (simp (disch := (simp; try omega)) [*, World.cell?_alloc_past, World.cell?_setCell_other]; done) | (rw [World.cell?_setCell_other _ _ _ _ (by simp; try omega), World.cell?_setCell_other _ _ _ _ (by simp; try omega), World.cell?_setCell_other _ _ _ _ (by simp; try omega)]; assumption))))
  refine wpAnyH_take (i := 0) (oi := _) (v := ?v1) rfl (by kernel_rfl) (by kernel_rfl) (by kernel_rfl) (fun _ _ _ h => h) (Or.inl ⟨by rfl, ?hy1⟩) (by with_reducible assumption) ?rest1
  case hy1 => (intro w hSw; (try dsimp only at hSw); go_simp; try with_reducible rfl)
  try simp only [Act.put, List.setIfInBounds_toArray, List.set_cons_zero, List.set_cons_succ]
  refine wpAnyH_take (i := 1) (oi := _) (v := ?v2) rfl (by kernel_rfl) (by kernel_rfl) (by kernel_rfl) (fun _ _ _ h => h) (Or.inl ⟨by rfl, ?hy2⟩) (by with_reducible assumption) ?rest2
  case hy2 => (intro w hSw; (try dsimp only at hSw); go_simp; try with_reducible rfl)
  try simp only [Act.put, List.setIfInBounds_toArray, List.set_cons_zero, List.set_cons_succ]
  refine wpAnyH_take (i := 2) (oi := _) (v := ?v3) rfl (by kernel_rfl) (by kernel_rfl) (by kernel_rfl) (fun _ _ _ h => h) (Or.inl ⟨by rfl, ?hy3⟩) (by with_reducible assumption) ?rest3
  case hy3 => (intro w hSw; (try dsimp only at hSw); go_simp; try with_reducible rfl)
  try simp only [Act.put, List.setIfInBounds_toArray, List.set_cons_zero, List.set_cons_succ]
  refine wpAnyH_take (i := 3) (oi := _) (v := ?v4) rfl (by kernel_rfl) (by kernel_rfl) (by kernel_rfl) (fun _ _ _ h => h) (Or.inl ⟨by rfl, ?hy4⟩) (by with_reducible assumption) ?rest4
  case hy4 => (intro w hSw; (try dsimp only at hSw); go_simp; try with_reducible rfl)
  try simp only [Act.put, List.setIfInBounds_toArray, List.set_cons_zero, List.set_cons_succ]
  refine wpAnyH_take (i := 4) (oi := _) (v := ?v5) rfl (by kernel_rfl) (by kernel_rfl) (by kernel_rfl) (fun _ _ _ h => h) (Or.inl ⟨by rfl, ?hy5⟩) (by with_reducible assumption) ?rest5
  case hy5 => (intro w hSw; (try dsimp only at hSw); go_simp; try with_reducible rfl)
  try simp only [Act.put, List.setIfInBounds_toArray, List.set_cons_zero, List.set_cons_succ]
  refine wpAnyH_take (i := 5) (oi := _) (v := ?v6) rfl (by kernel_rfl) (by kernel_rfl) (by kernel_rfl) (fun _ _ _ h => h) (Or.inl ⟨by rfl, ?hy6⟩) (by with_reducible assumption) ?rest6
  case hy6 => (intro w hSw; (try dsimp only at hSw); go_simp; try with_reducible rfl)
  try simp only [Act.put, List.setIfInBounds_toArray, List.set_cons_zero, List.set_cons_succ]
  refine wpAnyH_take (i := 6) (oi := _) (v := ?v7) rfl (by kernel_rfl) (by kernel_rfl) (by kernel_rfl) (fun _ _ _ h => h) (Or.inl ⟨by rfl, ?hy7⟩) (by with_reducible assumption) ?rest7
  case hy7 => (intro w hSw; (try dsimp only at hSw); go_simp; try with_reducible rfl)
  try simp only [Act.put, List.setIfInBounds_toArray, List.set_cons_zero, List.set_cons_succ]
  refine wpAnyH_ready (rs := [7, 11]) (by kernel_rfl) (by simp) ?_
  refine (AllReadyH.cons (o := _) rfl (fun K hK => ?_) (AllReadyH.cons (o := _) rfl (fun K hK => ?_) AllReadyH.nil))
  · skip
    go_simp
    refine (ack_any _ o AS nS cS AW nW cW ak win k (HB.out.1.below (by first | exact (Below.refl _ _).drew | exact ((Below.refl _ _).alloc (Nat.le_refl _) _).drew) (by simp)) hcw hcm hs1 HB.out.2.1 HB.out.2.2.1 hx0 hx1 HB.out.2.2.2).mono ?_
    rintro e w1 ⟨A1, n1, c1, B1, m1, d1, T1, t1, tc1, rfl, ho1, l1, l2, l3, l4, hlt1, hox1, hb1⟩
    have z1 : w.heap.size ≤ w1.heap.size := by (have h9 := hb1.size; simp at h9; omega)
    have b0 : w1.cell? ⟨V, 0, none⟩ = some (.int .i64 o.next) := (hb1.cell (p := ⟨V, 0, none⟩) (by simp; omega)).trans (by first | exact h0 | exact (World.cell?_alloc_lt _ _ _ hV).trans h0)
    have b1 : w1.cell? ⟨V, 1, none⟩ = some (.slice AS nS cS) := (hb1.cell (p := ⟨V, 1, none⟩) (by simp; omega)).trans (by first | exact h1 | exact (World.cell?_alloc_lt _ _ _ hV).trans h1)
    have b2 : w1.cell? ⟨V, 2, none⟩ = some (.slice AW nW cW) := (hb1.cell (p := ⟨V, 2, none⟩) (by simp; omega)).trans (by first | exact h2 | exact (World.cell?_alloc_lt _ _ _ hV).trans h2)
    have b3 : w1.cell? ⟨ab, aoff + k, none⟩ = some (.int .i64 ak) := (hb1.cell (p := ⟨ab, aoff + k, none⟩) (by simp; omega)).trans (by first | exact h3 | exact (World.cell?_alloc_lt _ _ _ hab).trans h3)
    have H1 := Lib.hid (And.intro ho1 (And.intro hox1 (And.intro hlt1 (And.intro l1 (And.intro l2 (And.intro l3 (And.intro l4 hb1)))))))
    have zV1 : V < w1.heap.size := by omega
    have zab1 : ab < w1.heap.size := by omega
    try (have gE := Blk.below (w := (w.alloc (.cells #[.int .i64 0, .slice none 0 0, .slice none 0 0] 35)).drew) (g := w.heap.size) (Blk.new w _ _ rfl) hb1 (by simp)
         have i0 := gE.cell 0 (v := .int .i64 0) rfl; have i1 := gE.cell 1 (v := .slice none 0 0) rfl; have i2 := gE.cell 2 (v := .slice none 0 0) rfl
         have fE := gE.frozen
         have zE : w.heap.size < w1.heap.size := gE.lt
         have HGE := Lib.hid gE
         have F1 : True := trivial
         clear gE)
    clear ho1 hox1 hlt1 l1 l2 l3 l4 hb1
    try dsimp only
    refine hK.out _ _ ?_ (fun hHeld8 => ?_)
    · (try dsimp only)
      (first | (with_reducible assumption) | (go_keep; done) | (refine ⟨?_, ?_, ?_, ?_⟩ <;> (first | (with_reducible assumption) | (simp [go_sem, *]; done) | (simp (disch := (simp; try omega)) [*, World.cell?_alloc_past, World.cell?_setCell_other]; done) | (rw [World.cell?_setCell_other _ _ _ _ (by simp; try omega), World.cell?_setCell_other _ _ _ _ (by simp; try omega), World.cell?_setCell_other _ _ _ _ (by simp; try omega)]; assumption))))
    clear hK K hHeld0
    try simp only [Act.put, List.setIfInBounds_toArray, List.set_cons_zero, List.set_cons_succ]
    refine wpAnyH_take (i := 8) (oi := _) (v := ?v9) rfl (by kernel_rfl) (by kernel_rfl) (by kernel_rfl) (fun _ _ _ h => h) (Or.inl ⟨by rfl, ?hy9⟩) (by with_reducible assumption) ?rest9
    case hy9 => (intro w hSw; (try dsimp only at hSw); go_simp; try with_reducible rfl)
    try simp only [Act.put, List.setIfInBounds_toArray, List.set_cons_zero, List.set_cons_succ]
    refine wpAnyH_take (i := 9) (oi := _) (v := ?v10) rfl (by kernel_rfl) (by kernel_rfl) (by kernel_rfl) (fun _ _ _ h => h) (Or.inl ⟨by rfl, ?hy10⟩) (by with_reducible assumption) ?rest10
    case hy10 => (intro w hSw; (try dsimp only at hSw); go_simp; try with_reducible rfl)
    try simp only [Act.put, List.setIfInBounds_toArray, List.set_cons_zero, List.set_cons_succ]
    refine wpAnyH_take (i := 10) (oi := _) (v := ?v11) rfl (by kernel_rfl) (by kernel_rfl) (by kernel_rfl) (fun _ _ _ h => h) (Or.inl ⟨by rfl, ?hy11⟩) (by with_reducible assumption) ?rest11
    case hy11 => (intro w hSw; (try dsimp only at hSw); go_simp; try with_reducible rfl)
    try simp only [Act.put, List.setIfInBounds_toArray, List.set_cons_zero, List.set_cons_succ]
    refine wpAnyH_ready (rs := [11]) (by kernel_rfl) (by simp) ?_
    refine (AllReadyH.cons (o := _) rfl (fun K hK => ?_) AllReadyH.nil)
    go_simp
    refine hK.out _ _ ?_ (fun hHeld12 => ?_)
    · (try dsimp only)
      (first | (with_reducible assumption) | (go_keep; done) | (refine ⟨?_, ?_, ?_, ?_⟩ <;> (first | (with_reducible assumption) | (simp [go_sem, *]; done) | (simp (disch := (simp; try omega)) [*, World.cell?_alloc_past, World.cell?_setCell_other]; done) | (rw [World.cell?_setCell_other _ _ _ _ (by simp; try omega), World.cell?_setCell_other _ _ _ _ (by simp; try omega), World.cell?_setCell_other _ _ _ _ (by simp; try omega)]; assumption))))
    clear hK K hHeld8
    try simp only [Act.put, List.setIfInBounds_toArray, List.set_cons_zero, List.set_cons_succ]
    refine wpAnyH_ready (rs := [12]) (by kernel_rfl) (by simp) ?_
    refine (AllReadyH.cons (o := _) rfl (fun K hK => ?_) AllReadyH.nil)
    go_simp
    refine hK.out _ _ ?_ (fun hHeld13 => ?_)
    · (try dsimp only)
      (first | (with_reducible assumption) | (go_keep; done) | (refine ⟨?_, ?_, ?_, ?_⟩ <;> (first | (with_reducible assumption) | (simp [go_sem, *]; done) | (simp (disch := (simp; try omega)) [*, World.cell?_alloc_past, World.cell?_setCell_other]; done) | (rw [World.cell?_setCell_other _ _ _ _ (by simp; try omega), World.cell?_setCell_other _ _ _ _ (by simp; try omega), World.cell?_setCell_other _ _ _ _ (by simp; try omega)]; assumption))))
    clear hK K hHeld12
    try simp only [Act.put, List.setIfInBounds_toArray, List.set_cons_zero, List.set_cons_succ]
    refine wpAnyH_take (i := 13) (oi := _) (v := ?v14) rfl (by kernel_rfl) (by kernel_rfl) (by kernel_rfl) (fun _ _ _ h => h) (Or.inl ⟨by rfl, ?hy14⟩) (by with_reducible assumption) ?rest14
    case hy14 => (intro w hSw; (try dsimp only at hSw); go_simp; try with_reducible rfl)
    try simp only [Act.put, List.setIfInBounds_toArray, List.set_cons_zero, List.set_cons_succ]
    refine wpAnyH_done (by kernel_rfl) ?_ _
    refine NoPanic.normal ?_
    clear hHeld13
    first
      | (clear F1
         have hf := num_fin (w := w) (wf := ((w1.setCell ⟨w.heap.size, 0, none⟩ (.int .i64 (ackP o ak win k).1.next)).setCell ⟨w.heap.size, 1, none⟩ (.slice A1 n1 c1)).setCell ⟨w.heap.size, 2, none⟩ (.slice B1 m1 d1)) H1.out.1 H1.out.2.1 (by simp) (fun k' h3 h4 => (Below.heap_setCell _ ⟨w.heap.size, 2, none⟩ _ k' (by simp at h3 ⊢; omega)).trans ((Below.heap_setCell _ ⟨w.heap.size, 1, none⟩ _ k' (by simp at h3 ⊢; omega)).trans (Below.heap_setCell _ ⟨w.heap.size, 0, none⟩ _ k' (by simp at h3 ⊢; omega)))) (by simp [World.setCell])
         exact HK.out _ _ _ _ _ _ _ _ _ _ _ w.heap.size A1 n1 c1 B1 m1 d1 T1 t1 tc1 _ hf.1 H1.out.2.2.2.1 H1.out.2.2.2.2.1 H1.out.2.2.2.2.2.1 H1.out.2.2.2.2.2.2.1 H1.out.2.2.1 hf.2 (((HGE.out.set 0 _).set 1 _).set 2 _) (Nat.le_refl _) ((((((Below.refl _ _).alloc (Nat.le_refl _) _).drew.trans (H1.out.2.2.2.2.2.2.2.mono (by simp))).setCell (p := ⟨w.heap.size, 0, none⟩) (Nat.le_refl _) _).setCell (p := ⟨w.heap.size, 1, none⟩) (Nat.le_refl _) _).setCell (p := ⟨w.heap.size, 2, none⟩) (Nat.le_refl _) _))
      | (have hf := num_fin (w := w) H1.out.1 H1.out.2.1 (by simp) (fun k' h3 h4 => Below.heap_alloc w1 (.cells #[.int .i64 (ackP o ak win k).1.next, .slice A1 n1 c1, .slice B1 m1 d1] 35) k' h4) (by simp)
         exact HK.out _ _ _ _ _ _ _ _ _ _ _ w1.heap.size A1 n1 c1 B1 m1 d1 T1 t1 tc1 _ hf.1 H1.out.2.2.2.1 H1.out.2.2.2.2.1 H1.out.2.2.2.2.2.1 H1.out.2.2.2.2.2.2.1 H1.out.2.2.1 hf.2 (Blk.new _ _ _ rfl) z1 (((Below.refl _ _).drew.trans H1.out.2.2.2.2.2.2.2).alloc z1 _))
  · skip
    go_simp
    refine hK.out _ _ ?_ (fun hHeld15 => ?_)
    · (try dsimp only)
      (first | (with_reducible assumption) | (go_keep; done) | (refine ⟨?_, ?_, ?_, ?_⟩ <;> (first | (with_reducible assumption) | (simp [go_sem, *]; done) | (simp (disch := (simp; try omega)) [*, World.cell?_alloc_past, World.cell?_setCell_other]; done) | (rw [World.cell?_setCell_other _ _ _ _ (by simp; try omega), World.cell?_setCell_other _ _ _ _ (by simp; try omega), World.cell?_setCell_other _ _ _ _ (by simp; try omega)]; assumption))))
    clear hK K hHeld0
    try simp only [Act.put, List.setIfInBounds_toArray, List.set_cons_zero, List.set_cons_succ]
    refine wpAnyH_ready (rs := [7]) (by kernel_rfl) (by simp) ?_
    refine (AllReadyH.cons (o := _) rfl (fun K hK => ?_) AllReadyH.nil)
    go_simp
    refine (ack_any _ o AS nS cS AW nW cW ak win k (HB.out.1.below (by first | exact (Below.refl _ _).drew | exact ((Below.refl _ _).alloc (Nat.le_refl _) _).drew) (by simp)) hcw hcm hs1 HB.out.2.1 HB.out.2.2.1 hx0 hx1 HB.out.2.2.2).mono ?_
    rintro e w1 ⟨A1, n1, c1, B1, m1, d1, T1, t1, tc1, rfl, ho1, l1, l2, l3, l4, hlt1, hox1, hb1⟩
    have z1 : w.heap.size ≤ w1.heap.size := by (have h9 := hb1.size; simp at h9; omega)
    have b0 : w1.cell? ⟨V, 0, none⟩ = some (.int .i64 o.next) := (hb1.cell (p := ⟨V, 0, none⟩) (by simp; omega)).trans (by first | exact h0 | exact (World.cell?_alloc_lt _ _ _ hV).trans h0)
    have b1 : w1.cell? ⟨V, 1, none⟩ = some (.slice AS nS cS) := (hb1.cell (p := ⟨V, 1, none⟩) (by simp; omega)).trans (by first | exact h1 | exact (World.cell?_alloc_lt _ _ _ hV).trans h1)
    have b2 : w1.cell? ⟨V, 2, none⟩ = some (.slice AW nW cW) := (hb1.cell (p := ⟨V, 2, none⟩) (by simp; omega)).trans (by first | exact h2 | exact (World.cell?_alloc_lt _ _ _ hV).trans h2)
    have b3 : w1.cell? ⟨ab, aoff + k, none⟩ = some (.int .i64 ak) := (hb1.cell (p := ⟨ab, aoff + k, none⟩) (by simp; omega)).trans (by first | exact h3 | exact (World.cell?_alloc_lt _ _ _ hab).trans h3)
    have H1 := Lib.hid (And.intro ho1 (And.intro hox1 (And.intro hlt1 (And.intro l1 (And.intro l2 (And.intro l3 (And.intro l4 hb1)))))))
    have zV1 : V < w1.heap.size := by omega
    have zab1 : ab < w1.heap.size := by omega
    try (have gE := Blk.below (w := (w.alloc (.cells #[.int .i64 0, .slice none 0 0, .slice none 0 0] 35)).drew) (g := w.heap.size) (Blk.new w _ _ rfl) hb1 (by simp)
         have i0 := gE.cell 0 (v := .int .i64 0) rfl; have i1 := gE.cell 1 (v := .slice none 0 0) rfl; have i2 := gE.cell 2 (v := .slice none 0 0) rfl
         have fE := gE.frozen
         have zE : w.heap.size < w1.heap.size := gE.lt
         have HGE := Lib.hid gE
         have F1 : True := trivial
         clear gE)
    clear ho1 hox1 hlt1 l1 l2 l3 l4 hb1
    try dsimp only
    refine hK.out _ _ ?_ (fun hHeld16 => ?_)
    · (try dsimp only)
      (first | (with_reducible assumption) | (go_keep; done) | (refine ⟨?_, ?_, ?_, ?_⟩ <;> (first | (with_reducible assumption) | (simp [go_sem, *]; done) | (simp (disch := (simp; try omega)) [*, World.cell?_alloc_past, World.cell?_setCell_other]; done) | (rw [World.cell?_setCell_other _ _ _ _ (by simp; try omega), World.cell?_setCell_other _ _ _ _ (by simp; try omega), World.cell?_setCell_other _ _ _ _ (by simp; try omega)]; assumption))))
    clear hK K hHeld15
    try simp only [Act.put, List.setIfInBounds_toArray, List.set_cons_zero, List.set_cons_succ]
    refine wpAnyH_take (i := 8) (oi := _) (v := ?v17) rfl (by kernel_rfl) (by kernel_rfl) (by kernel_rfl) (fun _ _ _ h => h) (Or.inl ⟨by rfl, ?hy17⟩) (by with_reducible assumption) ?rest17
    case hy17 => (intro w hSw; (try dsimp only at hSw); go_simp; try with_reducible rfl)
    try simp only [Act.put, List.setIfInBounds_toArray, List.set_cons_zero, List.set_cons_succ]
    refine wpAnyH_take (i := 9) (oi := _) (v := ?v18) rfl (by kernel_rfl) (by kernel_rfl) (by kernel_rfl) (fun _ _ _ h => h) (Or.inl ⟨by rfl, ?hy18⟩) (by with_reducible assumption) ?rest18
    case hy18 => (intro w hSw; (try dsimp only at hSw); go_simp; try with_reducible rfl)
    try simp only [Act.put, List.setIfInBounds_toArray, List.set_cons_zero, List.set_cons_succ]
    refine wpAnyH_take (i := 10) (oi := _) (v := ?v19) rfl (by kernel_rfl) (by kernel_rfl) (by kernel_rfl) (fun _ _ _ h => h) (Or.inl ⟨by rfl, ?hy19⟩) (by with_reducible assumption) ?rest19
    case hy19 => (intro w hSw; (try dsimp only at hSw); go_simp; try with_reducible rfl)
    try simp only [Act.put, List.setIfInBounds_toArray, List.set_cons_zero, List.set_cons_succ]
    refine wpAnyH_ready (rs := [12]) (by kernel_rfl) (by simp) ?_
    refine (AllReadyH.cons (o := _) rfl (fun K hK => ?_) AllReadyH.nil)
    go_simp
    refine hK.out _ _ ?_ (fun hHeld20 => ?_)
    · (try dsimp only)
      (first | (with_reducible assumption) | (go_keep; done) | (refine ⟨?_, ?_, ?_, ?_⟩ <;> (first | (with_reducible assumption) | (simp [go_sem, *]; done) | (simp (disch := (simp; try omega)) [*, World.cell?_alloc_past, World.cell?_setCell_other]; done) | (rw [World.cell?_setCell_other _ _ _ _ (by simp; try omega), World.cell?_setCell_other _ _ _ _ (by simp; try omega), World.cell?_setCell_other _ _ _ _ (by simp; try omega)]; assumption))))
    clear hK K hHeld16
    try simp only [Act.put, List.setIfInBounds_toArray, List.set_cons_zero, List.set_cons_succ]
    refine wpAnyH_take (i := 13) (oi := _) (v := ?v21) rfl (by kernel_rfl) (by kernel_rfl) (by kernel_rfl) (fun _ _ _ h => h) (Or.inl ⟨by rfl, ?hy21⟩) (by with_reducible assumption) ?rest21
    case hy21 => (intro w hSw; (try dsimp only at hSw); go_simp; try with_reducible rfl)
    try simp only [Act.put, List.setIfInBounds_toArray, List.set_cons_zero, List.set_cons_succ]
    refine wpAnyH_done (by kernel_rfl) ?_ _
    refine NoPanic.normal ?_
    clear hHeld20
    first
      | (clear F1
         have hf := num_fin (w := w) (wf := ((w1.setCell ⟨w.heap.size, 0, none⟩ (.int .i64 (ackP o ak win k).1.next)).setCell ⟨w.heap.size, 1, none⟩ (.slice A1 n1 c1)).setCell ⟨w.heap.size, 2, none⟩ (.slice B1 m1 d1)) H1.out.1 H1.out.2.1 (by simp) (fun k' h3 h4 => (Below.heap_setCell _ ⟨w.heap.size, 2, none⟩ _ k' (by simp at h3 ⊢; omega)).trans ((Below.heap_setCell _ ⟨w.heap.size, 1, none⟩ _ k' (by simp at h3 ⊢; omega)).trans (Below.heap_setCell _ ⟨w.heap.size, 0, none⟩ _ k' (by simp at h3 ⊢; omega)))) (by simp [World.setCell])
         exact HK.out _ _ _ _ _ _ _ _ _ _ _ w.heap.size A1 n1 c1 B1 m1 d1 T1 t1 tc1 _ hf.1 H1.out.2.2.2.1 H1.out.2.2.2.2.1 H1.out.2.2.2.2.2.1 H1.out.2.2.2.2.2.2.1 H1.out.2.2.1 hf.2 (((HGE.out.set 0 _).set 1 _).set 2 _) (Nat.le_refl _) ((((((Below.refl _ _).alloc (Nat.le_refl _) _).drew.trans (H1.out.2.2.2.2.2.2.2.mono (by simp))).setCell (p := ⟨w.heap.size, 0, none⟩) (Nat.le_refl _) _).setCell (p := ⟨w.heap.size, 1, none⟩) (Nat.le_refl _) _).setCell (p := ⟨w.heap.size, 2, none⟩) (Nat.le_refl _) _))
      | (have hf := num_fin (w := w) H1.out.1 H1.out.2.1 (by simp) (fun k' h3 h4 => Below.heap_alloc w1 (.cells #[.int .i64 (ackP o ak win k).1.next, .slice A1 n1 c1, .slice B1 m1 d1] 35) k' h4) (by simp)
         exact HK.out _ _ _ _ _ _ _ _ _ _ _ w1.heap.size A1 n1 c1 B1 m1 d1 T1 t1 tc1 _ hf.1 H1.out.2.2.2.1 H1.out.2.2.2.2.1 H1.out.2.2.2.2.2.1 H1.out.2.2.2.2.2.2.1 H1.out.2.2.1 hf.2 (Blk.new _ _ _ rfl) z1 (((Below.refl _ _).drew.trans H1.out.2.2.2.2.2.2.2).alloc z1 _))
end Go.Proofs.Ytalieakmjkmbbaa
