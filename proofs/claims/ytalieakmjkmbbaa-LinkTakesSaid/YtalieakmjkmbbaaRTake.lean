/-
  The reference's Take: the walk.
-/
import Derived.Test.YtalieakmjkmbbaaRTakeC
namespace Go.Proofs.Ytalieakmjkmbbaa
open Go.RowKit Go.Sort Go.Maps
set_option linter.unusedVariables false
attribute [local go_sem ↓] Go.wp_at_zero Go.wp_at_succ

/-- What the reference's Take tells. -/
def RTakeRet (held : List It) (told : List (List Int)) (e' : Int) (w : World) (en : Ending) (w' : World) : Prop :=
  ∃ (A : Option Addr) (n c : Nat) (T : Option Addr) (k kc : Nat), en = .returned (.tuple #[.agg #[.int .i64 e', .slice A n c], .slice T k kc, .int .i64 e']) ∧ held.length = n ∧ n ≤ c ∧ c ≤ maxLen ∧ Sl Rit w' (lo w'.heap.size) A held ∧ told.length = k ∧ k ≤ kc ∧ kc ≤ maxLen ∧ Sl Rbd w' (lo w'.heap.size) T told ∧ Below w.heap.size w w'
set_option maxRecDepth 100000 in
set_option maxHeartbeats 4000000 in
theorem rtake_any (w : World) (e : Int) (xs : List It) (A : Option Addr) (n c : Nat) (seq : Int) (body : List Int) (T : Option Addr) (nb cb : Nat) (window : Int) (hn : xs.length = n) (hx : Sl Rit w (lo w.heap.size) A xs) (hnb : body.length = nb) (hcb : nb ≤ cb) (hcm : cb ≤ maxLen) (hT : Sl (Rint .u8) w (lo w.heap.size) T body) (hz : n ≤ 3518437208880)
    (h1 : -9223372036854775808 ≤ e) (h2 : e ≤ 9223372036854775807) (hs : (Lit.int .i64 seq).wf = true) :
    Calls Try.prog 11 #[.agg #[.int .i64 e, .slice A n c], .int .i64 seq, .slice T nb cb, .int .i64 window] w (RTakeRet (takeP xs e seq body window).1 (takeP xs e seq body window).2.1 (takeP xs e seq body window).2.2 w) := by
  have hb0 : RowKit.Below w.heap.size w ((w.alloc (.cells #[.int .i64 e, .slice A n c] 24)).alloc (.cells #[.int .i64 0, .slice none 0 0] 24)) := ((Below.refl _ _).alloc (Nat.le_refl _) _).alloc (by simp) _
  have hz0 : ((w.alloc (.cells #[.int .i64 e, .slice A n c] 24)).alloc (.cells #[.int .i64 0, .slice none 0 0] 24)).heap.size = w.heap.size + 2 := by simp
  have hB := (Blk.new w 24 #[.int .i64 e, .slice A n c] (g := w.heap.size) rfl).alloc (.cells #[.int .i64 0, .slice none 0 0] 24)
  have hR := Blk.new (w.alloc (.cells #[.int .i64 e, .slice A n c] 24)) 24 #[.int .i64 0, .slice none 0 0] (g := w.heap.size + 1) (by simp)
  have hT0 := hT.keep (fun p hp => hb0.cell hp) (fun _ h => h)
  have hx0 := hx.keep (fun p hp => hb0.cell hp) (fun _ h => h)
  go_enter Try.func11, Try.ntmps11
  go_upto_region 1 with fail
  generalize ((w.alloc (.cells #[.int .i64 e, .slice A n c] 24)).alloc (.cells #[.int .i64 0, .slice none 0 0] 24)) = w0 at *
  have H0 := Lib.hid (And.intro hb0 (And.intro hB (And.intro hR (And.intro hT0 (And.intro hx0 (And.intro hn hnb))))))
  clear hb0 hT hx hT0 hx0 hn hnb
  refine rt_r1 w0 w.heap.size w.heap.size e A n c xs H0.out.2.2.2.2.1 H0.out.2.2.2.2.2.1 (by omega) (by omega) (by omega) (hB.cell 0 (v := .int .i64 e) rfl) (hB.cell 1 (v := .slice A n c) rfl) ?_
  intro d19 d20 d21 d22 d23 d24 H A1 c1 w1 hH1 ho1 hne1 hWH hb1
  have b1 := (hb1.cell (p := ⟨w.heap.size, 1, none⟩) (by show w.heap.size < _; omega)).trans (hB.cell 1 (v := .slice A n c) rfl)
  have hz1 := hb1.size
  have hA1 : RkW w0 w1 w.heap.size w0.heap.size H (w.heap.size + 1) e (.slice A1 n c1) (.slice none 0 0) xs [] :=
    ⟨hH1, ho1, Own.nil _ _ _ _ _, hne1, by simp [Value.ownBlock], fun g _ => by simp [Value.ownBlock], hR.below hb1 (by omega), hb1⟩
  have H1 := Lib.hid (And.intro hA1 (And.intro hb1 hB))
  clear hA1 hH1 ho1 hne1 hb1 hB hR
  go_upto_block 0 with fail
  refine rt_loop0 w1 w.heap.size A n c xs seq H0.out.2.2.2.2.2.1 (H0.out.2.2.2.2.1.keep (fun p hp => H1.out.2.1.cell (by have : p.block < w.heap.size := hp; omega)) (fun _ h => h)) (by omega) (by omega) ?_
  intro d14 d29 d30 d31 d32 d33 d34 d35 d36 d37 d38 d39 w2 hb2
  have hz2 := hb2.size
  clear b1
  have hbw2 : RowKit.Below w0.heap.size w0 w2 := H1.out.2.1.trans (hb2.mono hz1)
  have b0 := (hbw2.cell (p := ⟨w.heap.size, 0, none⟩) (by show w.heap.size < _; omega)).trans (H1.out.2.2.cell 0 (v := .int .i64 e) rfl)
  have hA2 := H1.out.1.up hb2 hz1 (by omega)
  have HA := Lib.hid (And.intro hA2 hbw2)
  clear hA2 hbw2 hb2
  obtain ⟨met, hmet⟩ : ∃ met, metIn xs seq = met := ⟨_, rfl⟩
  rw [hmet]
  obtain ⟨a1, ha1⟩ : ∃ a1 : Bool, decide (e ≤ seq) = a1 := ⟨_, rfl⟩
  obtain ⟨a2, ha2⟩ : ∃ a2 : Bool, decide (seq < wrap64 (e + window)) = a2 := ⟨_, rfl⟩
  go_upto_region 8 with fail
  go_cut [55] from 40 (fun s55 wx => wx = w2 ∧ s55 = .bool (a1 && (a2 && !met)))
  case first =>
    cases a1 <;> cases a2 <;> cases met <;> (go_wp2; go_meet; exact ⟨rfl, rfl⟩)
  case rest =>
    obtain ⟨rfl, rfl⟩ := hcut
    have HTI := Lib.hid (show takeIn xs e seq body window = if (a1 && (a2 && !met)) = true then xs ++ [⟨seq, body, 0⟩] else xs by
      unfold takeIn; rw [← ha1, ← ha2, ← hmet]; by_cases q1 : e ≤ seq <;> by_cases q2 : seq < wrap64 (e + window) <;> cases q3 : metIn xs seq <;> simp [q1, q2])
    generalize (a1 && (a2 && !met)) = cc at *
    clear ha1 ha2 hmet b0
    go_upto_if 55 with fail
    go_cut [12] from 56 (fun _ wx => ∃ v, RkW w0 wx w.heap.size w0.heap.size H (w.heap.size + 1) e v (.slice none 0 0) (takeIn xs e seq body window) [])
    case first =>
      cases cc with
      | false =>
        go_wp2
        go_meet
        exact ⟨_, by rw [HTI.out]; exact HA.out.1⟩
      | true =>
        have c1' := HA.out.1.hH.cell 1 (v := .slice A1 n c1) rfl
        have hlH := HA.out.1.hH.lt
        go_wp2_with (at_builtin
                     go_loud (skip
                              refine wpList_append_own' _ rfl (.tmp 57) (.tmp 61) _ rfl ei_items _ rfl (HA.out.1.own.alloc (fun b hb => by have : b < w.heap.size := hb; omega) _) (fun b hb => ⟨by have : b < w.heap.size := hb; simp; omega, fun e9 => by have h9 := (HA.out.1.own.lt e9).1; have : b < w.heap.size := hb; omega⟩) (some _) 1 1 (ys := [⟨seq, body, 0⟩]) rfl rfl (cellsNew (by simp)) (newItem (S := lo w.heap.size) (l := ⟨seq, body, 0⟩) H0.out.2.2.2.2.2.2 hs (show (Lit.int .i64 0).wf = true by decide) hcb hcm (H0.out.2.2.2.1.keep (fun p hp => (World.cell?_alloc_lt _ _ _ (by have : p.block < w.heap.size := hp; omega)).trans (HA.out.2.cell (by have : p.block < w.heap.size := hp; omega))) (fun _ h => h))) (by rw [H0.out.2.2.2.2.2.1]; exact lim40 (by omega)) (by rw [H0.out.2.2.2.2.2.1]; simp only [maxLen]; omega) (by simp; omega) ?_
                              intro v' w6 hox hg1 hat1
                              have hkk : ∀ k, k < wc.heap.size → (Value.slice A1 n c1).ownBlock ≠ some k → w6.heap[k]? = wc.heap[k]? := fun k hk hne => (hg1.block k (by simp; omega) (fun e9 => hne e9.symm)).trans (Below.heap_alloc _ _ k hk)
                              obtain ⟨A6, c6, rfl⟩ := hox.form
                              rw [List.length_append, H0.out.2.2.2.2.2.1, List.length_singleton] at hox hat1 ⊢
                              have hlow : ∀ k, k < w0.heap.size → (Value.slice A1 n c1).ownBlock ≠ some k := fun k hk e9 => by have := (HA.out.1.own.lt e9).1; omega
                              have k1 : w6.cell? ⟨H, 1, none⟩ = some (.slice A1 n c1) := (World.cell?_of_block (a := ⟨H, 1, none⟩) (hkk H hlH HA.out.1.neH)).trans c1'
                              have hH6 := (hkk H hlH HA.out.1.neH).trans HA.out.1.hH
                              have fE : ∀ o, w6.frozen? ⟨H, o, none⟩ = false := fun o => Blk.frozen (show Blk w6 H 24 #[.int .i64 e, .slice A1 n c1] from hH6) o
                              have hne6 : (Value.slice A6 (n + 1) c6).ownBlock ≠ some H := fun e9 => by
                                rcases hat1 with h9 | h9
                                · rw [h9] at e9; exact HA.out.1.neH e9
                                · rw [h9] at e9; simp at e9; omega
                              have H6 := Lib.hid (And.intro hox (And.intro hH6 (And.intro hne6 (And.intro (hkk _ HA.out.1.hR.lt (hlow _ (by omega))) ((HA.out.2.alloc (by omega) (.cells #[.int .i64 seq, .slice T nb cb, .int .i64 0] 38)).grown hg1 (by simp; omega) (fun g hg => (HA.out.1.own.lt hg).1))))))
                              clear hox hg1 hat1 hH6 hne6 hkk hlow))
        go_meet
        refine ⟨_, (show Blk w6 H 24 #[.int .i64 e, .slice A1 n c1] from H6.out.2.1).set 1 _, ?_, Own.nil _ _ _ _ _, H6.out.2.2.1, by simp [Value.ownBlock], fun g _ => by simp [Value.ownBlock], ?_, H6.out.2.2.2.2.setCell (p := ⟨H, 1, none⟩) hWH _⟩
        · rw [HTI.out, if_pos (by trivial)]
          exact H6.out.1.keep (fun g hg => Below.heap_setCell w6 ⟨H, 1, none⟩ _ g (fun e9 => H6.out.2.2.1 (by rw [hg]; exact congrArg some e9))) (fun p hp => World.cell?_setCell_other w6 ⟨H, 1, none⟩ p _ (fun e9 => by have h8 := congrArg Addr.block e9; have h9 : p.block < w.heap.size := hp; simp at h8; omega)) (fun _ h => h)
        · exact (Below.heap_setCell w6 ⟨H, 1, none⟩ _ (w.heap.size + 1) (by show w.heap.size + 1 ≠ H; omega)).trans (H6.out.2.2.2.1.trans HA.out.1.hR)
    case rest =>
      have HPt := Lib.hid (show takeP xs e seq body window = takeGo (takeIn xs e seq body window).length (takeIn xs e seq body window) e from rfl)
      have hyl : (takeIn xs e seq body window).length ≤ n + 1 := by (rw [HTI.out]; have := H0.out.2.2.2.2.2.1; split <;> simp <;> omega)
      clear HTI HA
      generalize takeIn xs e seq body window = ys at *
      obtain ⟨v, hA⟩ := hcut
      obtain ⟨N, hN⟩ : ∃ N, ys.length = N := ⟨_, rfl⟩
      rw [hN] at hyl
      have HC := Lib.hid (And.intro hN hA)
      have hzc := hA.bel.size
      have hlH := hA.hH.lt
      clear hN hA
      go_upto_block 2 with fail
      refine rt_main wc w.heap.size w0.heap.size H (w.heap.size + 1) N e v ys ⟨HC.out.2.hH, HC.out.2.own, HC.out.2.ownT, HC.out.2.neH, HC.out.2.neT, HC.out.2.neV, HC.out.2.hR, Below.refl _ _⟩ HC.out.1 (by omega) hWH (by omega) (by omega) h1 h2 ?_
      intro d16 d17 d18 d64 d65 d66 d67 d68 d69 d70 d71 d72 d73 d74 d75 d76 d77 d78 d79 d80 d81 d82 d83 d84 d85 d86 d87 d88 d89 d90 d91 d92 d93 d94 d95 d96 d97 d98 d99 d100 d101 d102 d103 d104 d105 d106 d107 d108 d109 d110 d111 d112 d113 e' A' m c' vT cur told wr w' hgo hA' hm hR' hk' hb'
      obtain ⟨tA, tc, rfl⟩ := hA'.ownT.form
      have r0 := hR'.cell 0 (v := .int .i64 e') rfl; have r1 := hR'.cell 1 (v := .slice A' m c') rfl
      have zr := hA'.bel.size
      have z' := hb'.size
      refine bodyPost_ret (v := .tuple #[.agg #[.int .i64 e', .slice A' m c'], .slice tA told.length tc, .int .i64 e']) (by simp [results, Try.results11, go_sem, r0, r1]) rfl ?_
      have k8 := (hA'.own.keep (w' := w') (fun g hg => hk' g (hA'.own.lt hg).2 (by have := (hA'.own.lt hg).1; omega)) (fun p hp => hb'.cell (by have : p.block < w.heap.size := hp; omega)) (fun _ h => h)).slice (S' := lo w'.heap.size) (fun b hb => by have : b < w.heap.size := hb; show b < _; omega) (fun g hg hlt => hlt)
      have t8 := (hA'.ownT.keep (w' := w') (fun g hg => hk' g (hA'.ownT.lt hg).2 (by have := (hA'.ownT.lt hg).1; omega)) (fun p hp => hb'.cell (by have : p.block < w.heap.size := hp; omega)) (fun _ h => h)).slice (S' := lo w'.heap.size) (fun b hb => by have : b < w.heap.size := hb; show b < _; omega) (fun g hg hlt => hlt)
      rw [HPt.out, HC.out.1, hgo]
      exact ⟨A', m, c', tA, _, tc, rfl, hm, by rw [← hm]; exact k8.2.1, k8.2.2.1, k8.2.2.2, rfl, t8.2.1, t8.2.2.1, t8.2.2.2, ((H0.out.1.trans (HC.out.2.bel.mono (by omega))).trans (hA'.bel.mono (by omega))).trans (hb'.mono (by omega))⟩
end Go.Proofs.Ytalieakmjkmbbaa
