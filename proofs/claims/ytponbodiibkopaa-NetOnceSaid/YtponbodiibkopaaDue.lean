/-
  net.Due: the walk, over the stable sort's contract.
-/
import Derived.Test.YtponbodiibkopaaDueL
import Derived.Test.YtponbodiibkopaaNetT
namespace Go.Proofs.Ytponbodiibkopaa
open Go.RowKit Go.Sort
set_option linter.unusedVariables false

/-- What Due leaves. -/
def DueRet (x : Nt) (now : Int) (w : World) (en : Ending) (w' : World) : Prop :=
  ∃ (A : Option Addr) (n c : Nat) (A2 : Option Addr) (n2 c2 : Nat) (B : Option Addr) (m d : Nat) (ys : List Fl), en = .returned (.tuple #[.slice A n c, .agg #[.slice A2 n2 c2, .slice B m d]]) ∧
    ys.length = n ∧ Sl Rfl w' (mid w.heap.size w'.heap.size) A ys ∧ SortedK Fl.tm ys ∧ SameK Fl.tm (dueL Fl.tm now x.list) ys ∧ ys.length = (dueL Fl.tm now x.list).length ∧
    NtAt w' (mid w.heap.size w'.heap.size) A2 n2 B m ⟨leftL Fl.tm now x.list, x.fates⟩ ∧ n ≤ c ∧ c ≤ maxLen ∧ n2 ≤ c2 ∧ c2 ≤ maxLen ∧ m ≤ d ∧ d ≤ maxLen ∧ Below w.heap.size w w'
theorem Own.base {α : Type} {R : Rdr α} {w : World} {B B' : Nat} {e : TypeId} {S : Nat → Prop} {v : Value} {xs : List α} (h : Own R w B e S v xs) (hB : B' ≤ B) : Own R w B' e S v xs := by
  obtain ⟨cells, ⟨hl, h1⟩, he⟩ := h
  refine ⟨cells, ⟨hl, ?_⟩, he⟩
  rcases h1 with h | ⟨g, cap, cur, hv, hb, r⟩
  · exact .inl h
  · exact .inr ⟨g, cap, cur, hv, Nat.le_trans hB hb, r⟩
/-- The two lists and the fates, behind the sort and the answer's store. -/
theorem due_fin {wf w2 w3 w4 : World} {E g1 : Nat} {x : Nt} {now : Int} {A3 : Option Addr} {n3 c3 : Nat} {dA : Option Addr} {dn dc : Nat} {lA : Option Addr} {ln lc : Nat} {ys : List Fl} {W : World}
    (hD : DuW w2 w3 E (.slice A3 n3 c3) (.slice dA dn dc) (.slice lA ln lc) now x.list x.list.length) (hE2 : E < w2.heap.size) (hdn : (dueL Fl.tm now x.list).length = dn)
    (hs3 : Sl (Rint .i64) w2 (mid W.heap.size E) A3 x.fates) (hn3 : x.fates.length = n3) (hl3 : n3 ≤ c3) (hm3 : c3 ≤ maxLen) (hWE : W.heap.size ≤ E)
    (hoy : OwnX Rfl w4 (E + 1) 37 (fun _ => False) (.slice dA dn dc) ys) (h1 : SortedK Fl.tm ys) (h2 : SameK Fl.tm (dueL Fl.tm now x.list) ys) (hlen : ys.length = (dueL Fl.tm now x.list).length) (hb4 : Below (E + 1) w3 w4) (hs4 : ∀ k, k < w3.heap.size → (Value.slice dA dn dc).ownBlock ≠ some k → w4.heap[k]? = w3.heap[k]?)
    (hW : Below W.heap.size W w2) (hg : g1 < W.heap.size) (w5 : World) (hk5 : ∀ k, k < w4.heap.size → k ≠ g1 → w5.heap[k]? = w4.heap[k]?) (hb5' : Below g1 w4 w5) (hgw : wf.heap.size ≤ g1) (hb : Below wf.heap.size wf W) :
    DueRet x now wf (.returned (.tuple #[.slice dA dn dc, .agg #[.slice lA ln lc, .slice A3 n3 c3]])) w5 := by
  have z2 := hW.size; have z3 := hD.bel.size; have z4 := hb4.size; have zb := hb.size
  have z5 := hb5'.size
  have htk : x.list.take x.list.length = x.list := List.take_length
  have hdue := hD.due; have hleft := hD.left
  rw [htk] at hdue hleft
  have hfar : ∀ k, k < w2.heap.size → (Value.slice dA dn dc).ownBlock ≠ some k := fun k hk e => by have := (hdue.lt e).1; omega
  have hl5 : Own Rfl w5 w2.heap.size 37 (mid (E + 1) w2.heap.size) (.slice lA ln lc) (leftL Fl.tm now x.list) := hleft.keep
    (fun g hgo => (hk5 g (by have := (hleft.lt hgo).2; omega) (by have := (hleft.lt hgo).1; omega)).trans (hs4 g (hleft.lt hgo).2 (fun e => hD.ne g e hgo)))
    (fun p hp => World.cell?_of_block ((hk5 _ (by have := hp.2; omega) (by have := hp.1; omega)).trans (hs4 _ (by have := hp.2; omega) (hfar _ hp.2)))) (fun _ h => h)
  have hbW : Below W.heap.size W w4 := (hW.trans (hD.bel.mono hWE)).trans (hb4.mono (by omega))
  have hb5 : Below wf.heap.size wf w5 := (hb.trans (hbW.mono hb.size)).trans (hb5'.mono hgw)
  have hoy5 : OwnX Rfl w5 (E + 1) 37 (fun _ => False) (.slice dA dn dc) ys := hoy.frame (fun k h1 h2 _ => hk5 k h2 (by omega)) z5 (fun _ _ _ h => h)
  obtain ⟨a1, a2, a3, a4⟩ := hoy5.sl
  obtain ⟨b1, b2, b3, b4⟩ := hl5.slice (S' := mid wf.heap.size w5.heap.size) (fun b hb => ⟨by have := hb.1; omega, by have := hb.2; omega⟩) (fun g hgo hlt => ⟨by have := (hl5.lt hgo).1; omega, hlt⟩)
  refine ⟨dA, dn, dc, lA, ln, lc, A3, n3, c3, ys, rfl, a1.symm, a4.more (fun b hb => ⟨by have := hb.1; omega, hb.2.1⟩), h1, h2, hlen, ⟨b4, b1.symm, hs3.keep (fun p hp => World.cell?_of_block ((hk5 _ (by have := hp.2; omega) (by have := hp.1; omega)).trans ((hs4 _ (by have := hp.2; omega) (hfar _ (by have := hp.2; omega))).trans (hD.fr _ (by have := hp.2; omega) (by have := hp.2; omega))))) (fun b hb => ⟨by have := hb.1; omega, by have := hb.2; omega⟩), hn3⟩, by omega, a3, by omega, b3, hl3, hm3, hb5⟩
noncomputable def due_r11_code : Code := regionOf Try.f13 11
set_option maxRecDepth 100000 in
set_option maxHeartbeats 2000000 in
theorem due_r11 {Q : Exit → Act → World → Prop} {s0 s1 s2 s3 s4 s8 s9 s10 s11 s12 s13 s14 s15 s16 s17 s18 s19 s20 s21 s22 s23 s24 s25 s26 s27 s28 s29 s30 s31 s32 s33 s34 s35 s36 s37 s38 s39 s40 : Value} (w : World) (E g1 : Nat) (v1 vA vB : Value) (hv1 : ∃ A n c, v1 = .slice A n c) (hvA : ∃ A n c, vA = .slice A n c) (hvB : ∃ A n c, vB = .slice A n c) (hE : Blk w E 25 #[vA, vB]) (hR : Blk w g1 25 #[.slice none 0 0, .slice none 0 0]) (hne : E ≠ g1)
    (hK : ∀ (d39 d40 : Value) (w' : World), (∀ k, k < w.heap.size → k ≠ g1 → w'.heap[k]? = w.heap[k]?) → Below g1 w w' → Blk w' g1 25 #[vA, vB] → Q .normal ⟨#[s0, s1, s2, s3, v1, .pointer (some ⟨g1, 0, none⟩), .pointer (some ⟨E, 0, none⟩), v1, s8, s9, s10, s11, s12, s13, s14, s15, s16, s17, s18, s19, s20, s21, s22, s23, s24, s25, s26, s27, s28, s29, s30, s31, s32, s33, s34, s35, s36, s37, s38, d39, d40], []⟩ w') :
    Code.wp Try.prog due_r11_code Q ⟨#[s0, s1, s2, s3, s4, .pointer (some ⟨g1, 0, none⟩), .pointer (some ⟨E, 0, none⟩), v1, s8, s9, s10, s11, s12, s13, s14, s15, s16, s17, s18, s19, s20, s21, s22, s23, s24, s25, s26, s27, s28, s29, s30, s31, s32, s33, s34, s35, s36, s37, s38, s39, s40], []⟩ w := by
  have HK := Lib.hid hK; clear hK
  obtain ⟨A, n, c, rfl⟩ := hv1; obtain ⟨A2, n2, c2, rfl⟩ := hvA; obtain ⟨A3, n3, c3, rfl⟩ := hvB
  have e0 := hE.cell 0 (v := .slice A2 n2 c2) rfl; have e1 := hE.cell 1 (v := .slice A3 n3 c3) rfl
  have r0 := hR.cell 0 (v := .slice none 0 0) rfl; have r1 := hR.cell 1 (v := .slice none 0 0) rfl; have fR := hR.frozen
  have lE := hE.lt; have lR := hR.lt
  have HB := Lib.hid (And.intro hE hR); clear hE hR
  conv => arg 2; whnf
  refine wp_region_noPanic ?_
  go_region
  all_goals refine NoPanic.normal ?_
  all_goals exact HK.out _ _ _ (fun k hk hne => (Below.heap_setCell _ ⟨g1, 1, none⟩ _ k hne).trans (Below.heap_setCell _ ⟨g1, 0, none⟩ _ k hne)) (((Below.refl g1 w).setCell (p := ⟨g1, 0, none⟩) (Nat.le_refl _) _).setCell (p := ⟨g1, 1, none⟩) (Nat.le_refl _) _).drew ((HB.out.2.set 0 _).set 1 _)
set_option maxRecDepth 100000 in
set_option maxHeartbeats 4000000 in
theorem due_any (w : World) (x : Nt) (A : Option Addr) (n c : Nat) (B : Option Addr) (m d : Nat) (now : Int) (K : Nat) (ho : NtAt w (lo w.heap.size) A n B m x) (hf : NtFit x) (hmd : m ≤ d) (hd : d ≤ maxLen) (hS : SortC K) (hK : (dueL Fl.tm now x.list).length ≤ K) :
    Calls Try.prog 13 #[.agg #[.slice A n c, .slice B m d], .int .i64 now] w (DueRet x now w) := by
  have hb0 : RowKit.Below w.heap.size w ((w.alloc (.cells #[.slice A n c, .slice B m d] 25)).alloc (.cells #[.slice none 0 0, .slice none 0 0] 25)) := ((Below.refl _ _).alloc (Nat.le_refl _) _).alloc (by simp) _
  have hz0 : ((w.alloc (.cells #[.slice A n c, .slice B m d] 25)).alloc (.cells #[.slice none 0 0, .slice none 0 0] 25)).heap.size = w.heap.size + 2 := by simp
  have hB := (Blk.new w 25 #[.slice A n c, .slice B m d] (g := w.heap.size) rfl).alloc (.cells #[.slice none 0 0, .slice none 0 0] 25)
  have hR := Blk.new (w.alloc (.cells #[.slice A n c, .slice B m d] 25)) 25 #[.slice none 0 0, .slice none 0 0] (g := w.heap.size + 1) (by simp)
  have ho0 := ho.below hb0 hb0.size
  have HS := Lib.hid hS; have HK := Lib.hid hK
  clear hS hK
  go_enter Try.func13, Try.ntmps13
  go_upto_region 1 with fail
  generalize ((w.alloc (.cells #[.slice A n c, .slice B m d] 25)).alloc (.cells #[.slice none 0 0, .slice none 0 0] 25)) = w0 at *
  have b0 := hB.cell 0 (v := .slice A n c) rfl; have b1 := hB.cell 1 (v := .slice B m d) rfl
  have H0 := Lib.hid (And.intro hb0 (And.intro hB (And.intro hR (And.intro ho0 hf))))
  clear hb0 hB hR ho0 ho hf
  go_upto_region 3 with (go_at_call 20
                         go_loud (skip
                                  refine (cloneI_any B x.fates m d H0.out.2.2.2.1.fatesN _ H0.out.2.2.2.1.fates (by have h9 := H0.out.2.2.2.2.fates; rw [H0.out.2.2.2.1.fatesN] at h9; omega)).mono ?_
                                  rintro e w1 ⟨A3, n3, c3, rfl, hn3, hl3, hm3, hs3, hb3⟩
                                  have b0 := (hb3.cell (p := ⟨w.heap.size, 0, none⟩) (by show w.heap.size < _; omega)).trans (H0.out.2.1.cell 0 (v := .slice A n c) rfl)
                                  have z1 := hb3.size
                                  have H1 := Lib.hid (And.intro hn3 (And.intro hl3 (And.intro hm3 (And.intro hs3 hb3))))
                                  clear hn3 hl3 hm3 hs3 hb3))
  have hbE : RowKit.Below w0.heap.size w0 (w1.alloc (.cells #[.slice none 0 0, .slice A3 n3 c3] 25)) := H1.out.2.2.2.2.alloc (by omega) _
  have gE := Blk.new w1 25 #[.slice none 0 0, .slice A3 n3 c3] (g := w1.heap.size) rfl
  have hzE : (w1.alloc (.cells #[.slice none 0 0, .slice A3 n3 c3] 25)).heap.size = w1.heap.size + 1 := by simp
  have hs3 : Sl (Rint .i64) (w1.alloc (.cells #[.slice none 0 0, .slice A3 n3 c3] 25)) (mid w0.heap.size w1.heap.size) A3 x.fates := H1.out.2.2.2.1.keep (fun p hp => World.cell?_alloc_lt _ _ _ hp.2) (fun _ h => h)
  have b0' : (w1.alloc (.cells #[.slice none 0 0, .slice A3 n3 c3] 25)).cell? ⟨w.heap.size, 0, none⟩ = some (.slice A n c) := (World.cell?_alloc_lt w1 _ ⟨w.heap.size, 0, none⟩ (by show w.heap.size < _; omega)).trans b0
  obtain ⟨wE, hwE⟩ : ∃ wE, w1.alloc (.cells #[.slice none 0 0, .slice A3 n3 c3] 25) = wE := ⟨_, rfl⟩
  rw [hwE] at hbE gE hzE hs3 b0' ⊢
  clear b0 hwE
  have HE := Lib.hid (And.intro hbE (And.intro gE hs3))
  clear hbE gE hs3
  go_upto_block 0 with (go_at_call 19
                        go_loud (skip
                                 refine (copyFlights_any A n c x.list H0.out.2.2.2.1.listN _ (H0.out.2.2.2.1.below HE.out.1 HE.out.1.size).list (by have h9 := H0.out.2.2.2.2.list; rw [H0.out.2.2.2.1.listN] at h9; omega) H0.out.2.2.2.2.text).mono ?_
                                 rintro e w2 ⟨A1, n1, c1, rfl, hn1, hox1, hb1⟩
                                 have z2 := hb1.size
                                 have H2 := Lib.hid (And.intro hn1 (And.intro hox1 hb1))
                                 clear hn1 hox1 hb1))
  have hzl : n1 * 48 ≤ 140737488355328 := by have h9 := H0.out.2.2.2.2.list; rw [← H2.out.1]; omega
  refine due_loop w2 w1.heap.size (.slice A3 n3 c3) now x.list A1 n1 c1 H2.out.1 (HE.out.2.1.below H2.out.2.2 (by omega)) (H2.out.2.1.sl.2.2.2.more (fun b hb => ⟨by have := hb.1; omega, hb.2.1⟩)) hzl ?_
  intro d9 d19 d20 d21 d22 d23 d24 d25 d26 d27 d28 d29 d30 d31 d32 d33 d34 d35 d36 v1 v2 w3 hD
  obtain ⟨dA, dc, hdA⟩ := hD.due.form
  obtain ⟨lA, lc, hlA⟩ := hD.left.form
  obtain ⟨ln, hln⟩ : ∃ ln, (leftL Fl.tm now (x.list.take n1)).length = ln := ⟨_, rfl⟩
  have hdn0 : (dueL Fl.tm now (x.list.take n1)).length = (dueL Fl.tm now x.list).length := by rw [List.take_of_length_le (by rw [H2.out.1]; exact Nat.le_refl _)]
  obtain ⟨dn, hdn⟩ : ∃ dn, (dueL Fl.tm now x.list).length = dn := ⟨_, rfl⟩
  rw [hdn0, hdn] at hdA
  rw [hln] at hlA
  subst hdA hlA
  have zE2 : w1.heap.size < w2.heap.size := by omega
  have z3 := hD.bel.size
  have hDx : OwnX Rfl w3 (w1.heap.size + 1) 37 (fun _ => False) (.slice dA dn dc) (dueL Fl.tm now x.list) := by
    have h9 := hD.due
    rw [List.take_of_length_le (by rw [H2.out.1]; omega)] at h9
    exact ⟨_, h9.base (by omega), fun k hk => ⟨hk.1, by have := hk.2; omega, fun h => h, fun e => by have := (h9.lt e).1; have := hk.2; omega⟩, fun _ _ h => h⟩
  have HD := Lib.hid (And.intro hD (And.intro hdn hDx))
  have HL := Lib.hid hln
  clear hD hdn hDx hdn0 hln
  go_upto_region 11 with (go_at_call 22
                          go_loud (skip
                                   refine (HS.out w3 (w1.heap.size + 1) (fun _ => False) (.slice dA dn dc) (dueL Fl.tm now x.list) HD.out.2.2 HK.out (by omega) (fun _ h => h.elim)).mono ?_
                                   rintro e w4 ⟨rfl, ys, hoy, hys1, hys2, hys3, hb4, hs4⟩
                                   have z4 := hb4.size
                                   have gE4 : Blk w4 w1.heap.size 25 #[.slice lA ln lc, .slice A3 n3 c3] := HD.out.1.hE.below hb4 (by omega)
                                   have gR4 : Blk w4 (w.heap.size + 1) 25 #[.slice none 0 0, .slice none 0 0] := (((H0.out.2.2.1.below HE.out.1 (by omega)).below H2.out.2.2 (by omega)).below HD.out.1.bel (by omega)).below hb4 (by omega)
                                   have H4 := Lib.hid (And.intro hoy (And.intro hys1 (And.intro hys2 (And.intro hys3 (And.intro hb4 (And.intro hs4 (And.intro gE4 gR4)))))))
                                   clear hoy hys1 hys2 hys3 hb4 hs4 gE4 gR4))
  refine due_r11 w4 w1.heap.size (w.heap.size + 1) (.slice dA dn dc) (.slice lA ln lc) (.slice A3 n3 c3) ⟨_, _, _, rfl⟩ ⟨_, _, _, rfl⟩ ⟨_, _, _, rfl⟩ H4.out.2.2.2.2.2.2.1 H4.out.2.2.2.2.2.2.2 (by omega) ?_
  intro d39 d40 w5 hk5 hb5 gR5
  have r0 := gR5.cell 0 (v := .slice lA ln lc) rfl; have r1 := gR5.cell 1 (v := .slice A3 n3 c3) rfl
  have HFin := Lib.hid (due_fin (g1 := w.heap.size + 1) (wf := w) (W := w0) (w2 := w2) (w3 := w3) (w4 := w4) (E := w1.heap.size) (by have h9 := HD.out.1; rw [← H2.out.1] at h9; exact h9) zE2 HD.out.2.1 (HE.out.2.2.keep (fun p hp => H2.out.2.2.cell (by have := hp.2; omega)) (fun _ h => h)) H1.out.1 H1.out.2.1 H1.out.2.2.1 (by omega) H4.out.1 H4.out.2.1 H4.out.2.2.1 H4.out.2.2.2.1 H4.out.2.2.2.2.1 H4.out.2.2.2.2.2.1 (HE.out.1.trans (H2.out.2.2.mono (by omega))) (by omega) w5 hk5 hb5 (by omega) H0.out.1)
  clear hk5 hb5 gR5
  go_wp2
  refine bodyPost_ret (v := .tuple #[.slice dA dn dc, .agg #[.slice lA ln lc, .slice A3 n3 c3]]) (by simp [results, Try.results13, go_sem, r0, r1]) rfl HFin.out
end Go.Proofs.Ytponbodiibkopaa
