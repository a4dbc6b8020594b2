/-
  The way's method come.
-/
import Derived.Test.YtalieakmjkmbbaaWayT
namespace Go.Proofs.Ytalieakmjkmbbaa
open Go.RowKit Go.Sort
set_option linter.unusedVariables false
attribute [local go_sem ↓] Go.wp_at_zero Go.wp_at_succ

theorem WyB.up {w w' : World} {B P : Nat} {win : Int} {s : Wy} (h : WyB w B P win s) (hb : Below w.heap.size w w') : WyB w' B P win s := by
  obtain ⟨ρ, AS, nS, cS, AW, nW, cW, AH, nH, cH, AI, nI, cI, AA, nA, cA, AB, nB, cB, AT, nT, cT, hB, hM, r⟩ := h
  exact ⟨newRole w ρ, AS, nS, cS, AW, nW, cW, AH, nH, cH, AI, nI, cI, AA, nA, cA, AB, nB, cB, AT, nT, cT, hB.below hb hB.lt, hM.up hb, r⟩
theorem WyBr.up {w w' : World} {B P : Nat} {win : Int} {ρ : Nat → Nat} {s : Wy} (h : WyBr w B P win ρ s) (hb : Below w.heap.size w w') : WyBr w' B P win (newRole w ρ) s := by
  obtain ⟨AS, nS, cS, AW, nW, cW, AH, nH, cH, AI, nI, cI, AA, nA, cA, AB, nB, cB, AT, nT, cT, hB, hM, r⟩ := h
  exact ⟨AS, nS, cS, AW, nW, cW, AH, nH, cH, AI, nI, cI, AA, nA, cA, AB, nB, cB, AT, nT, cT, hB.below hb hB.lt, hM.up hb, r⟩
/-- The data blocks stand as they stood, and keep their roles. -/
structure Fr (w w' : World) (ρ ρ' : Nat → Nat) : Prop where
  size : w.heap.size ≤ w'.heap.size
  role : ∀ k, k < w.heap.size → ρ' k = ρ k
  data : ∀ k, k < w.heap.size → ρ k = 5 → w'.heap[k]? = w.heap[k]?
theorem Fr.refl (w : World) (ρ : Nat → Nat) : Fr w w ρ ρ := ⟨Nat.le_refl _, fun _ _ => rfl, fun _ _ _ => rfl⟩
theorem Fr.trans {w w1 w2 : World} {ρ ρ1 ρ2 : Nat → Nat} (h : Fr w w1 ρ ρ1) (h' : Fr w1 w2 ρ1 ρ2) : Fr w w2 ρ ρ2 :=
  ⟨Nat.le_trans h.size h'.size, fun k hk => (h'.role k (Nat.lt_of_lt_of_le hk h.size)).trans (h.role k hk), fun k hk h5 => (h'.data k (Nat.lt_of_lt_of_le hk h.size) (by rw [h.role k hk]; exact h5)).trans (h.data k hk h5)⟩
theorem Fr.up {w w' : World} (ρ : Nat → Nat) (hb : Below w.heap.size w w') : Fr w w' ρ (newRole w ρ) := ⟨hb.size, fun _ hk => newRole_old hk, fun k hk _ => hb.block k hk⟩
theorem Fr.set {w : World} {ρ : Nat → Nat} {P : Nat} (hP : ρ P = 0) (i : Nat) (v : Value) : Fr w (w.setCell ⟨P, i, none⟩ v) ρ ρ :=
  ⟨by simp [World.setCell], fun _ _ => rfl, fun k _ h5 => Below.heap_setCell w ⟨P, i, none⟩ v k (fun e => by rw [show k = P from e, hP] at h5; omega)⟩
theorem Fr.grown {w w' : World} {ρ ρ' : Nat → Nat} {v : Value} {i : Nat} (hv : ∀ g, v.ownBlock = some g → ρ g = i) (hi : i ≠ 5) (hg : w.grownBy w' v.ownBlock) (hr : ∀ k, k < w.heap.size → ρ' k = ρ k) : Fr w w' ρ ρ' :=
  ⟨hg.size, hr, fun k hk h5 => frame_but hv hg k hk (by rw [h5]; omega)⟩
theorem Fr.sl {α : Type} {R : Rdr α} {w w' : World} {B : Nat} {ρ ρ' : Nat → Nat} {A : Option Addr} {xs : List α} (h : Fr w w' ρ ρ') (hs : Sl R w (Dat w B ρ) A xs) : Sl R w' (Dat w' B ρ') A xs :=
  hs.keep (fun p hp => World.cell?_of_block (h.data _ hp.2.1 hp.2.2)) (fun b hb => ⟨hb.1, Nat.lt_of_lt_of_le hb.2.1 h.size, by rw [h.role b hb.2.1]; exact hb.2.2⟩)
theorem ei_int : EI Try.prog 43 3 (Rint .i64).size 8 := .mk' (.int .i64 0) Try.underlying43 (by decide) rfl (by kernel_rfl)
theorem datP {w : World} {B P : Nat} {ρ : Nat → Nat} {s : Wy} {AS : Option Addr} {nS cS : Nat} {AW : Option Addr} {nW cW : Nat} {AH : Option Addr} {nH : Nat} {vI vA vB vT : Value} (h : WyM w B P ρ s AS nS cS AW nW cW AH nH vI vA vB vT) {p : Addr} (hp : Dat w B ρ p.block) (i : Nat) : p.block ≠ (⟨P, i, none⟩ : Addr).block := by
  intro e9
  have h9 := hp.2.2
  rw [show p.block = P from e9, h.role] at h9
  omega
set_option maxRecDepth 100000 in
set_option maxHeartbeats 4000000 in
theorem come_fr (w : World) (B P : Nat) (win : Int) (ρ00 : Nat → Nat) (s : Wy) (x : It) (TB : Option Addr) (nb cb : Nat) (h : WyBr w B P win ρ00 s) (hf : WyF s) (hBw : B ≤ w.heap.size) (hnb : x.body.length = nb) (hT : Sl (Rint .u8) w (lo w.heap.size) TB x.body) (hnb2 : nb ≤ 140737488355328) (hsq : (Lit.int .i64 x.sq).wf = true)
    (hl : (takeP s.held s.e x.sq x.body win).2.1.length ≤ 1000000) (hex : (Lit.int .i64 (takeP s.held s.e x.sq x.body win).2.2).wf = true) :
    Calls Try.prog 22 #[.pointer (some ⟨P, 0, none⟩), .agg #[.int .i64 x.sq, .slice TB nb cb, .int .i64 x.tm]] w fun en w' => (∃ v, en = .returned v) ∧ (∃ ρ', WyBr w' B P win ρ' (s.come x win) ∧ Fr w w' ρ00 ρ') ∧ Below B w w' := by
  have hb0 : RowKit.Below w.heap.size w (w.alloc (.cells #[.int .i64 x.sq, .slice TB nb cb, .int .i64 x.tm] 38)) := (Below.refl _ _).alloc (Nat.le_refl _) _
  have hX := Blk.new w 38 #[.int .i64 x.sq, .slice TB nb cb, .int .i64 x.tm] (g := w.heap.size) rfl
  have h0 := h.up hb0
  have hT0 := hT.below hb0 hb0.size
  have hz0 : (w.alloc (.cells #[.int .i64 x.sq, .slice TB nb cb, .int .i64 x.tm] 38)).heap.size = w.heap.size + 1 := by simp
  clear h hT
  go_enter Try.func22, Try.ntmps22
  go_upto_region 1 with fail
  generalize (w.alloc (.cells #[.int .i64 x.sq, .slice TB nb cb, .int .i64 x.tm] 38)) = w0 at *
  have hBw0 : B ≤ w0.heap.size := by omega
  have HF0 := Lib.hid (Fr.up ρ00 hb0)
  obtain ⟨ρ, hρ⟩ : ∃ ρ, newRole w ρ00 = ρ := ⟨_, rfl⟩
  rw [hρ] at HF0 h0
  clear hρ
  obtain ⟨AS, nS, cS, AW, nW, cW, AH, nH, cH, AI, nI, cI, AA, nA, cA, AB, nB, cB, AT, nT, cT, hB, hM, hnI, hnA, hnB, hnT⟩ := h0
  have p0 := hB.cell 3 (v := .int .i64 s.e) rfl; have p1 := hB.cell 4 (v := .slice AH nH cH) rfl; have p2 := hB.cell 9 (v := .int .i64 win) rfl
  have p3 := hX.cell 0 (v := .int .i64 x.sq) rfl; have p4 := hX.cell 1 (v := .slice TB nb cb) rfl
  have hP := hB.lt
  have hXl := hX.lt
  have hBP := hM.hP.1
  obtain ⟨hd, td, ex, htk⟩ : ∃ hd td ex, takeP s.held s.e x.sq x.body win = (hd, td, ex) := ⟨_, _, _, rfl⟩
  have HC := Lib.hid (show ∀ w', RowKit.Below w0.heap.size w0 w' → Calls Try.prog 10 #[.agg #[.int .i64 s.e, .slice AH nH cH], .int .i64 x.sq, .slice TB nb cb, .int .i64 win] w' (TakeRet hd td ex w') from fun w' hb' => by
    have := take_any w' s.e s.held AH nH cH x.sq x.body TB nb cb win hM.heldN (hM.held.keep (fun p hp => hb'.cell hp.2.1) (fun b hb => Nat.lt_of_lt_of_le hb.2.1 hb'.size)) hnb (hT0.below hb' hb'.size) (by have := hf.held; have := hM.heldN; omega) hf.t4 hnb2 (by have := hf.e0; omega) (by have := hf.e1; omega) hsq
    rw [htk] at this
    exact this)
  have hsA : s.come x win = { { s with e := ex, held := hd } with told := s.told ++ td, acks := s.acks ++ [ex] } := by simp [Wy.come, htk]
  rw [htk] at hl hex
  replace hl : td.length ≤ 1000000 := hl
  replace hex : (Lit.int .i64 ex).wf = true := hex
  have H0 := Lib.hid (And.intro hB (And.intro hM (And.intro hf (And.intro hnI (And.intro hnA (And.intro hnB (And.intro hnT (And.intro hb0 (And.intro hsA hex)))))))))
  clear hB hM hf hnI hnA hnB hnT hT0 hX htk hsA hex hb0 hnb hsq
  refine wy_take w0 P w.heap.size s.e win x.sq AH nH cH TB nb cb hd td ex hP hXl p0 p1 p2 p3 p4 HC.out ?_
  intro d7 d8 d9 d10 d11 d12 d13 d14 d15 d16 d17 d18 d19 d20 d21 d22 d23 E A1 n1 c1 T t tc w1 hE hn1 hs1 ht hst hb1 hwE
  have z1 := hb1.size
  have hM1 := (H0.out.2.1.up hb1).newIn (e' := ex) (hs1.keep (fun _ _ => rfl) (fun b hb => newRole_dat hBw0 hb)) hn1
  have hB1 := H0.out.1.below hb1 hP
  have x0 := hE.cell 0 (v := .int .i64 ex) rfl; have x1 := hE.cell 1 (v := .slice A1 n1 c1) rfl
  have q0 := hB1.cell 3 (v := .int .i64 s.e) rfl; have q1 := hB1.cell 4 (v := .slice AH nH cH) rfl
  have fP := hB1.frozen
  have lP := hB1.lt
  have hPE : P ≠ E := by omega
  have hsd : Sl Rbd w1 (Dat w1 B (newRole w0 ρ)) T td := hst.keep (fun _ _ => rfl) (fun b hb => newRole_dat hBw0 hb)
  have H1 := Lib.hid (And.intro hM1 (And.intro hB1 (And.intro hsd (And.intro ht (And.intro (hb1.mono hBw0) (Fr.up ρ hb1))))))
  clear hM1 hB1 hE hn1 hs1 ht hst hsd hb1 p0 p1 p2 p3 p4
  go_upto_region 3 with fail
  obtain ⟨w2, hw2⟩ : ∃ w2, ((w1.setCell ⟨P, 3, none⟩ (.int .i64 ex)).setCell ⟨P, 4, none⟩ (.slice A1 n1 c1)) = w2 := ⟨_, rfl⟩
  have hM2 := (H1.out.1.set 3 (.int .i64 ex)).set 4 (.slice A1 n1 c1)
  have hB2 := (H1.out.2.1.set 3 (.int .i64 ex)).set 4 (.slice A1 n1 c1)
  have hbb2 := (H1.out.2.2.2.2.1.setCell (p := ⟨P, 3, none⟩) hBP (.int .i64 ex)).setCell (p := ⟨P, 4, none⟩) hBP (.slice A1 n1 c1)
  have hsl2 : Sl Rbd w2 (Dat w2 B (newRole w0 ρ)) T td := by
    rw [← hw2]
    exact H1.out.2.2.1.keep (fun p hp => World.cell?_of_block ((Below.heap_setCell _ ⟨P, 4, none⟩ _ _ (datP H1.out.1 hp 4)).trans (Below.heap_setCell _ ⟨P, 3, none⟩ _ _ (datP H1.out.1 hp 3)))) (fun b hb => ⟨hb.1, by simpa [World.setCell] using hb.2.1, hb.2.2⟩)
  rw [hw2] at hM2 hB2 hbb2 ⊢
  obtain ⟨cells, hel, hce⟩ := hsl2.inRow
  have p8 := hB2.cell 8 (v := .slice AT nT cT) rfl
  have fP2 := hB2.frozen
  have lP2 := hB2.lt
  have hBw2 : B ≤ w2.heap.size := by omega
  have HF2 := Lib.hid (show Fr w w2 ρ00 (newRole w0 ρ) from (HF0.out.trans H1.out.2.2.2.2.2).trans (by rw [← hw2]; exact (Fr.set H1.out.1.role 3 _).trans (Fr.set H1.out.1.role 4 _)))
  have H2 := Lib.hid (And.intro hM2 (And.intro hB2 (And.intro hbb2 (And.intro hel hce))))
  clear hM2 hB2 hbb2 hel hce hsl2 hw2 fP lP q0 q1 x0 x1 z1
  go_upto_region 4 with (first
    | (at_builtin
       go_loud (skip
                refine wpList_append_own' _ rfl (.tmp 32) (.tmp 33) _ rfl ei_bodies' (R := Rbd) _ rfl H2.out.1.told.1 (Dat.own H2.out.1.told.2 (by omega)) T t tc (ys := td) rfl H1.out.2.2.2.1 H2.out.2.2.2.2 H2.out.2.2.2.1 (le24 (by have := H1.out.2.2.2.1; have := H0.out.2.2.1.told; show s.told.length + t ≤ _; omega)) (lim1 (by have := H1.out.2.2.2.1; have := H0.out.2.2.1.told; show s.told.length + t ≤ _; omega)) hBw2 ?_
                intro v' w3 ho3 hg3 hat3
                obtain ⟨ρ3, hr3, hM3⟩ := H2.out.1.moreTold ho3 hg3 hat3
                have HF3 := Lib.hid (HF2.out.trans (Fr.grown H2.out.1.told.2 (by omega) hg3 hr3))
                obtain ⟨A3, c3, rfl⟩ := ho3.form
                obtain ⟨n3, hn3⟩ : ∃ n3, (({ s with e := ex, held := hd } : Wy).told ++ td).length = n3 := ⟨_, rfl⟩
                rw [hn3] at hM3 ⊢
                have hB3 := (H2.out.1.grownP H2.out.1.told.2 (by omega) hg3).trans H2.out.2.1
                have p8' := Blk.cell hB3 8 (v := .slice AT nT cT) rfl
                have fP3 := Blk.frozen hB3
                have H3 := Lib.hid (And.intro hM3 (And.intro hB3 (And.intro hn3 (H2.out.2.2.1.grown hg3 hBw2 (fun g hg => (H2.out.1.told.1.lt hg).1)))))
                clear ho3 hg3 hat3 hM3 hB3 hn3 hr3)))
  obtain ⟨w4, hw4⟩ : ∃ w4, w3.setCell ⟨P, 8, none⟩ (.slice A3 n3 c3) = w4 := ⟨_, rfl⟩
  have hM4 := H3.out.1.set 8 (.slice A3 n3 c3)
  have hB4 := Blk.set H3.out.2.1 8 (.slice A3 n3 c3)
  have hbb4 := H3.out.2.2.2.setCell (p := ⟨P, 8, none⟩) hBP (.slice A3 n3 c3)
  rw [hw4] at hM4 hB4 hbb4 ⊢
  have p6 := Blk.cell hB4 6 (v := .slice AA nA cA) rfl
  have fP4 := Blk.frozen hB4
  have lP4 := Blk.lt hB4
  have hBw4 : B ≤ w4.heap.size := by omega
  have H4 := Lib.hid (And.intro hM4 (And.intro hB4 hbb4))
  clear hM4 hB4 hbb4 p8 p8' fP2 fP3 lP2
  have hba : RowKit.Below w4.heap.size w4 (w4.alloc (.cells #[.int .i64 ex] 3)) := (Below.refl _ _).alloc (Nat.le_refl _) _
  have HF4 := Lib.hid ((HF3.out.trans (show Fr w3 w4 ρ3 ρ3 by rw [← hw4]; exact Fr.set H3.out.1.role 8 _)).trans (Fr.up ρ3 hba))
  have HA := Lib.hid (And.intro (H4.out.1.up hba) hba)
  clear hba hw4
  go_wp2_with (first
    | (at_builtin
       go_loud (skip
                refine wpList_append_own' _ rfl (.tmp 41) (.tmp 43) _ rfl ei_int (R := Rint .i64) _ rfl HA.out.1.acks.1 (Dat.own HA.out.1.acks.2 (by omega)) (some _) 1 1 (ys := [ex]) rfl rfl (cellsNew (by simp)) (Elems.one ⟨rfl, H0.out.2.2.2.2.2.2.2.2.2⟩) (le8 (by have := H0.out.2.2.1.acks; show s.acks.length + 1 ≤ _; omega)) (lim1 (by have := H0.out.2.2.1.acks; show s.acks.length + 1 ≤ _; omega)) (by simp; omega) ?_
                intro v' w5 ho5 hg5 hat5
                obtain ⟨ρ5, hr5, hM5⟩ := HA.out.1.moreAcks ho5 hg5 hat5
                have HF5 := Lib.hid (HF4.out.trans (Fr.grown HA.out.1.acks.2 (by omega) hg5 hr5))
                obtain ⟨A5, c5, rfl⟩ := ho5.form
                obtain ⟨n5, hn5⟩ : ∃ n5, (s.acks ++ [ex]).length = n5 := ⟨_, rfl⟩
                have hn5' : (({ { s with e := ex, held := hd } with told := s.told ++ td } : Wy).acks ++ [ex]).length = n5 := hn5
                rw [hn5'] at hM5 ⊢
                have hB5 := (HA.out.1.grownP HA.out.1.acks.2 (by omega) hg5).trans ((HA.out.2.block P lP4).trans H4.out.2.1)
                have p6' := Blk.cell hB5 6 (v := .slice AA nA cA) rfl
                have fP5 := Blk.frozen hB5
                have H5 := Lib.hid (And.intro hM5 (And.intro hB5 (And.intro hn5 ((H4.out.2.2.alloc hBw4 (.cells #[.int .i64 ex] 3)).grown hg5 (by simp; omega) (fun g hg => (HA.out.1.acks.1.lt hg).1)))))
                clear ho5 hg5 hat5 hM5 hB5 hn5 hn5' hr5)))
  go_end0
  refine ⟨⟨_, rfl⟩, ?_, ((H0.out.2.2.2.2.2.2.2.1.mono hBw).trans H5.out.2.2.2).setCell (p := ⟨P, 6, none⟩) hBP _⟩
  rw [H0.out.2.2.2.2.2.2.2.2.1]
  exact ⟨ρ5, ⟨AS, nS, cS, AW, nW, cW, A1, n1, c1, AI, nI, cI, A5, n5, c5, AB, nB, cB, A3, n3, c3, Blk.set H5.out.2.1 6 _, H5.out.1.set 6 _, H0.out.2.2.2.1, H5.out.2.2.1, H0.out.2.2.2.2.2.1, H3.out.2.2.1⟩, HF5.out.trans (Fr.set H5.out.1.role 6 _)⟩
theorem come_any (w : World) (B P : Nat) (win : Int) (s : Wy) (x : It) (TB : Option Addr) (nb cb : Nat) (h : WyB w B P win s) (hf : WyF s) (hBw : B ≤ w.heap.size) (hnb : x.body.length = nb) (hT : Sl (Rint .u8) w (lo w.heap.size) TB x.body) (hnb2 : nb ≤ 140737488355328) (hsq : (Lit.int .i64 x.sq).wf = true)
    (hl : (takeP s.held s.e x.sq x.body win).2.1.length ≤ 1000000) (hex : (Lit.int .i64 (takeP s.held s.e x.sq x.body win).2.2).wf = true) :
    Calls Try.prog 22 #[.pointer (some ⟨P, 0, none⟩), .agg #[.int .i64 x.sq, .slice TB nb cb, .int .i64 x.tm]] w fun en w' => (∃ v, en = .returned v) ∧ WyB w' B P win (s.come x win) ∧ Below B w w' := by
  obtain ⟨ρ, h⟩ := h
  exact (come_fr w B P win ρ s x TB nb cb h hf hBw hnb hT hnb2 hsq hl hex).mono fun en w' ⟨h1, ⟨ρ', h2, _⟩, h3⟩ => ⟨h1, ⟨ρ', h2⟩, h3⟩
end Go.Proofs.Ytalieakmjkmbbaa
