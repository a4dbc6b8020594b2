/-
  The reference's Due: the walk.
-/
import Derived.Test.YtponbodiibkopaaRDueA
namespace Go.Proofs.Ytponbodiibkopaa
open Go.RowKit Go.Sort
set_option linter.unusedVariables false

def lenOf : Value → Nat
  | .slice _ n _ => n
  | _ => 0
/-- What holds at the main loop's head. -/
structure RdW (V W : Nat) (w0 wr : World) (vD vL : Value) (D left : List Fl) : Prop where
  bel : Below W w0 wr
  D : Own Rfl wr W 37 (lo V) vD D
  L : Own Rfl wr W 37 (lo V) vL left
  ne : ∀ g, vL.ownBlock = some g → vD.ownBlock ≠ some g
theorem RdW.up {V W : Nat} {w0 wr w' : World} {vD vL : Value} {D left : List Fl} (h : RdW V W w0 wr vD vL D left) (hb : Below wr.heap.size wr w') (hW : W ≤ wr.heap.size) (hV : V ≤ W) : RdW V W w0 w' vD vL D left :=
  ⟨h.bel.trans (hb.mono hW), h.D.keep (fun g hg => hb.block g (h.D.lt hg).2) (fun p hp => hb.cell (by have h8 : p.block < V := hp; omega)) (fun _ h => h), h.L.keep (fun g hg => hb.block g (h.L.lt hg).2) (fun p hp => hb.cell (by have h8 : p.block < V := hp; omega)) (fun _ h => h), h.ne⟩
/-- One more due. -/
theorem RdW.due {V W : Nat} {w0 wr w' : World} {vD vD' vL : Value} {D D' left : List Fl} (h : RdW V W w0 wr vD vL D left) (ho : Own Rfl w' W 37 (lo V) vD' D') (hg : wr.grownBy w' vD.ownBlock) (hv : vD'.ownBlock = vD.ownBlock ∨ vD'.ownBlock = some wr.heap.size) (hW : W ≤ wr.heap.size) (hV : V ≤ W) : RdW V W w0 w' vD' vL D' left := by
  refine ⟨h.bel.grown hg hW (fun g hg => (h.D.lt hg).1), ho, h.L.other hg (fun g hg' e => h.ne g hg' e) (fun b hb => ⟨by have h8 : b < V := hb; omega, fun e => by have h8 : b < V := hb; have := (h.D.lt e).1; omega⟩), fun g hg' e => ?_⟩
  rcases hv with e1 | e1
  · exact h.ne g hg' (by rw [← e1]; exact e)
  · rw [e1] at e; have := Option.some.inj e; have := (h.L.lt hg').2; omega
/-- Another list left. -/
theorem RdW.left' {V W : Nat} {w0 wr w' : World} {vD vL vL' : Value} {D left left' : List Fl} (h : RdW V W w0 wr vD vL D left) (hb : Below wr.heap.size wr w') (ho : Own Rfl w' W 37 (lo V) vL' left') (hv : ∀ k, vL'.ownBlock = some k → wr.heap.size ≤ k) (hW : W ≤ wr.heap.size) (hV : V ≤ W) : RdW V W w0 w' vD vL' D left' :=
  ⟨h.bel.trans (hb.mono hW), (h.up hb hW hV).D, ho, fun g hg e => by have := hv g hg; have := (h.D.lt e).2; omega⟩
set_option maxRecDepth 100000 in
set_option maxHeartbeats 4000000 in
theorem rdue_any (w : World) (x : Nt) (A : Option Addr) (n c : Nat) (B : Option Addr) (m d : Nat) (now : Int) (h : NtArg w A n c B m d x) :
    Calls Try.prog 14 #[.agg #[.slice A n c, .slice B m d], .int .i64 now] w (DueOf x now w) := by
  have hb0 : RowKit.Below w.heap.size w ((w.alloc (.cells #[.slice A n c, .slice B m d] 25)).alloc (.cells #[.slice none 0 0, .slice none 0 0] 25)) := ((Below.refl _ _).alloc (Nat.le_refl _) _).alloc (by simp) _
  have hz0 : ((w.alloc (.cells #[.slice A n c, .slice B m d] 25)).alloc (.cells #[.slice none 0 0, .slice none 0 0] 25)).heap.size = w.heap.size + 2 := by simp
  have hB := (Blk.new w 25 #[.slice A n c, .slice B m d] (g := w.heap.size) rfl).alloc (.cells #[.slice none 0 0, .slice none 0 0] 25)
  have hR := Blk.new (w.alloc (.cells #[.slice A n c, .slice B m d] 25)) 25 #[.slice none 0 0, .slice none 0 0] (g := w.heap.size + 1) (by simp)
  have hn64 := h.n64; have hm64 := h.m64
  have hnl : n ≤ 2932031007400 := by have h1 := h.fit.list; rw [h.at_.listN] at h1; omega
  have hml : m * 8 ≤ 140737488355328 := by have h1 := h.fit.fates; rw [h.at_.fatesN] at h1; exact h1
  go_enter Try.func14, Try.ntmps14
  go_upto_region 1 with fail
  generalize ((w.alloc (.cells #[.slice A n c, .slice B m d] 25)).alloc (.cells #[.slice none 0 0, .slice none 0 0] 25)) = w0 at *
  have b0 := hB.cell 0 (v := .slice A n c) rfl
  obtain ⟨newl, hel, hcl⟩ := (h.at_.list.keep (w' := w0) (fun p hp => hb0.cell hp) (fun _ h => h)).inRow
  have H0 := Lib.hid (And.intro hb0 (And.intro hB (And.intro hR (And.intro h (And.intro hel hcl)))))
  clear hb0 hB hR h hel hcl
  have hVW : w.heap.size ≤ w0.heap.size := by omega
  go_wp2_with (at_builtin
               go_loud (skip
                        refine wpList_append_own' w0 rfl (.const (.slice none 0 0)) (.tmp 12) _ rfl ei_flights (S := lo w.heap.size) (base := w0.heap.size) (.slice none 0 0) rfl (Own.nil _ _ _ _ _) (fun b hb => ⟨by have h8 : b < w.heap.size := hb; omega, by simp [Value.ownBlock]⟩) A n c (ys := x.list) rfl H0.out.2.2.2.1.at_.listN H0.out.2.2.2.2.2 H0.out.2.2.2.2.1 (by rw [List.length_nil, Nat.zero_add]; exact lim48' (by omega)) (by simp [maxLen]; omega) (Nat.le_refl _) ?_
                        intro v1 w1 hox hg1 hat1
                        rw [List.nil_append] at hox
                        obtain ⟨A1, c1, rfl⟩ := hox.form
                        rw [H0.out.2.2.2.1.at_.listN] at hox hat1 ⊢
                        have H1 := Lib.hid (show RdW w.heap.size w0.heap.size w0 w1 (.slice none 0 0) (.slice A1 n c1) [] x.list ∧ SelI Fl.tm now x.list [] x.list from ⟨⟨(Below.refl _ w0).grown hg1 (Nat.le_refl _) (fun g hg => by simp [Value.ownBlock] at hg), Own.nil _ _ _ _ _, hox, fun g _ => by simp [Value.ownBlock]⟩, SelI.start _⟩)
                        clear hox hg1 hat1))
  go_loopw [6, 7] (fun vD vL wr => ∃ D left, Hid (RdW w.heap.size w0.heap.size w0 wr vD vL D left ∧ SelI Fl.tm now x.list D left)) (fun _ vL _ => lenOf vL)
  case atStart => exact ⟨[], x.list, H1⟩
  case round =>
    clear H1
    obtain ⟨wi, rfl⟩ : ∃ wx : World, wx = wr := ⟨_, rfl⟩
    obtain ⟨D, left, HR⟩ := hrel
    have hzi := HR.out.1.bel.size
    obtain ⟨dA, dc, hvD⟩ := HR.out.1.D.form
    obtain ⟨lA, lc, hvL⟩ := HR.out.1.L.form
    obtain ⟨dn, hdn⟩ : ∃ k, D.length = k := ⟨_, rfl⟩
    obtain ⟨ln, hln⟩ : ∃ k, left.length = k := ⟨_, rfl⟩
    have hcnt := HR.out.2.cnt
    have hxl := H0.out.2.2.2.1.at_.listN
    rw [hdn] at hvD hcnt; rw [hln] at hvL hcnt
    rw [hxl] at hcnt
    have hdl : dn ≤ n := by omega
    have hll : ln ≤ n := by omega
    subst hvD hvL
    have HN := Lib.hid (And.intro hdn (And.intro hln hcnt))
    clear hdn hln hcnt hxl
    have hsl := HR.out.1.L.slice (S' := lo wi.heap.size) (fun b hb => by have h8 : b < w.heap.size := hb; show b < _; omega) (fun g _ hlt => hlt)
    have HSL := Lib.hid hsl; clear hsl
    go_upto_block 2 with fail
    refine rd_find wi now lA ln lc left HN.out.2.1 HSL.out.2.2.2 (by omega) ?_
    intro d9 d10 d17 d18 d19 d20 d21 d22 d23 d24 d25 d26 d27 d28 d29 d30 d31 d32 d33 d34 d35 d36 d37 d38 d39 d40 o w2 ho hb2
    have hz2 := hb2.size
    have H2 := Lib.hid (show IsBest Fl.tm now left o ∧ RdW w.heap.size w0.heap.size w0 w2 (.slice dA dn dc) (.slice lA ln lc) D left ∧ Below wi.heap.size wi w2 from ⟨ho, HR.out.1.up hb2 hzi hVW, hb2⟩)
    clear ho hb2
    cases o with
    | none =>
      have hbw : Below w0.heap.size w0 w2 := H2.out.2.1.bel
      have HW2 := Lib.hid hbw
      have b1 := (hbw.cell (p := ⟨w.heap.size, 1, none⟩) (by show w.heap.size < _; omega)).trans (H0.out.2.1.cell 1 (v := .slice B m d) rfl)
      obtain ⟨newf, hef, hcf⟩ := (H0.out.2.2.2.1.at_.fates.keep (w' := w2) (fun p hp => (H0.out.1.trans (hbw.mono hVW)).cell hp) (fun _ h => h)).inRow
      have HE := Lib.hid (And.intro hef hcf)
      clear hbw hef hcf b0
      rw [show atI none = -1 from rfl]
      go_wp2_with (at_builtin
                   go_loud (skip
                            refine wpList_append_own' w2 rfl (.const (.slice none 0 0)) (.tmp 46) _ rfl ei_ints (R := Rint .i64) (S := lo w.heap.size) (base := w2.heap.size) (.slice none 0 0) rfl (Own.nil _ _ _ _ _) (fun b hb => ⟨by have h8 : b < w.heap.size := hb; omega, by simp [Value.ownBlock]⟩) B m d (ys := x.fates) rfl H0.out.2.2.2.1.at_.fatesN HE.out.2 HE.out.1 (by rw [List.length_nil, Nat.zero_add]; exact hml) (by simp [maxLen]; omega) (Nat.le_refl _) ?_
                            intro v3 w3 hox hg1 hat1
                            rw [List.nil_append] at hox
                            obtain ⟨A3, c3, rfl⟩ := hox.form
                            rw [H0.out.2.2.2.1.at_.fatesN] at hox hat1 ⊢
                            have hb3 : Below w2.heap.size w2 w3 := (Below.refl _ w2).grown hg1 (Nat.le_refl _) (fun g hg => by simp [Value.ownBlock] at hg)
                            have hz3 := hb3.size
                            have gR := H0.out.2.2.1.below (HW2.out.trans (hb3.mono HW2.out.size)) (by omega)
                            have r0 := gR.cell 0 (v := .slice none 0 0) rfl; have r1 := gR.cell 1 (v := .slice none 0 0) rfl; have fR := gR.frozen
                            have H3 := Lib.hid (And.intro (H2.out.2.1.up hb3 (by omega) hVW) (And.intro hox (And.intro hb3 gR)))
                            clear hox hg1 hat1 hb3 gR))
      have hst := H2.out.2.2
      clear hst
      refine bodyPost_ret (v := .tuple #[.slice dA dn dc, .agg #[.slice lA ln lc, .slice A3 m c3]]) (by simp [results, Try.results14, go_sem, r0, r1]) rfl ?_
      obtain ⟨s1, s2, s3⟩ := HR.out.2.stop H2.out.1
      obtain ⟨r, hr⟩ : ∃ r, w.heap.size + 1 = r := ⟨_, rfl⟩
      rw [hr]
      have hrW : r < w0.heap.size := by omega
      have hrV : ¬ lo w.heap.size r := fun h8 => by have h9 : r < w.heap.size := h8; omega
      have hD := (H3.out.1.D.setBelow (p := ⟨r, 0, none⟩) hrW hrV (.slice lA ln lc)).setBelow (p := ⟨r, 1, none⟩) hrW hrV (.slice A3 m c3)
      have hL := (H3.out.1.L.setBelow (p := ⟨r, 0, none⟩) hrW hrV (.slice lA ln lc)).setBelow (p := ⟨r, 1, none⟩) hrW hrV (.slice A3 m c3)
      have hI := (H3.out.2.1.setBelow (p := ⟨r, 0, none⟩) (by show r < _; omega) hrV (.slice lA ln lc)).setBelow (p := ⟨r, 1, none⟩) (by show r < _; omega) hrV (.slice A3 m c3)
      have hzf : ((w3.setCell ⟨r, 0, none⟩ (.slice lA ln lc)).setCell ⟨r, 1, none⟩ (.slice A3 m c3)).heap.size = w3.heap.size := by simp [World.setCell]
      obtain ⟨a1, a2, a3, a4⟩ := hD.slice (S' := lo ((w3.setCell ⟨r, 0, none⟩ (.slice lA ln lc)).setCell ⟨r, 1, none⟩ (.slice A3 m c3)).heap.size) (fun b hb => by have h8 : b < w.heap.size := hb; show b < _; omega) (fun g _ hlt => hlt)
      obtain ⟨b1', b2, b3, b4⟩ := hL.slice (S' := lo ((w3.setCell ⟨r, 0, none⟩ (.slice lA ln lc)).setCell ⟨r, 1, none⟩ (.slice A3 m c3)).heap.size) (fun b hb => by have h8 : b < w.heap.size := hb; show b < _; omega) (fun g _ hlt => hlt)
      obtain ⟨c1', c2, c3', c4⟩ := hI.slice (S' := lo ((w3.setCell ⟨r, 0, none⟩ (.slice lA ln lc)).setCell ⟨r, 1, none⟩ (.slice A3 m c3)).heap.size) (fun b hb => by have h8 : b < w.heap.size := hb; show b < _; omega) (fun g _ hlt => hlt)
      have hcnt := HR.out.2.cnt
      have hdll := due_left_len now x.list
      have hlen : D.length = (dueL Fl.tm now x.list).length := by rw [s3] at hcnt; omega
      rw [s3] at b1' b2 b4
      exact ⟨dA, dn, dc, lA, ln, lc, A3, m, c3, D, rfl, ⟨s1, s2, hlen⟩, a1.symm, by omega, a3, a4, ⟨⟨b4, b1'.symm, c4, c1'.symm⟩, H0.out.2.2.2.1.fit.left now, by omega, b3, by omega, c3'⟩, ((H0.out.1.trans ((HW2.out.trans (H3.out.2.2.1.mono HW2.out.size)).mono hVW)).setCell (p := ⟨r, 0, none⟩) (by show _ ≤ r; omega) _).setCell (p := ⟨r, 1, none⟩) (by show _ ≤ r; omega) _⟩
    | some p =>
      rw [show atI (some p) = (p : Int) from rfl]
      have dp : decide ((p : Int) < 0) = false := decide_eq_false (by omega)
      obtain ⟨y, hy0, hy1, hy2⟩ := id H2.out.1
      have hpl : p < ln := by rw [← HN.out.2.1]; exact (List.getElem?_eq_some_iff.1 hy0).1
      obtain ⟨g, cap, hv, hg0, hlc, hcm, hF⟩ := H2.out.2.1.L.fill (by rw [HN.out.2.1]; omega)
      rw [HN.out.2.1] at hv hlc
      obtain ⟨e1, e2⟩ : lA = some ⟨g, 0, none⟩ ∧ lc = cap := by
        injection hv with q1 q2 q3; exact ⟨q1, q3⟩
      subst e1 e2
      obtain ⟨T, tn, tc, hrd, y0, y1, y2, y3⟩ := hF.fl hy0
      have hgl := hF.lt
      have hrd' : Rfl.rd (w2.alloc (.cells #[.int .i64 y.tm, .int .i64 y.fr, .int .i64 y.tgt, .slice T tn tc] 37)) (lo w.heap.size) y [.int .i64 y.tm, .int .i64 y.fr, .int .i64 y.tgt, .slice T tn tc] := Rfl.keep hrd (fun q hq => World.cell?_alloc_lt _ _ _ (by have h8 : q.block < w.heap.size := hq; omega)) (fun _ h => h)
      have HY := Lib.hid (And.intro hy0 (And.intro hrd' (H2.out.2.1.up (((Below.refl w2.heap.size w2).alloc (Nat.le_refl _) (.cells #[.int .i64 y.tm, .int .i64 y.fr, .int .i64 y.tgt, .slice T tn tc] 37))) (by omega) hVW)))
      have hstep := HR.out.2.step H2.out.1 hy0
      have HST := Lib.hid hstep
      clear hy0 hy1 hy2 hv hF hrd hrd' hstep
      go_upto_region 13 with (at_builtin
                              go_loud (skip
                                       refine wpList_append_own' _ rfl (.tmp 49) (.tmp 54) _ rfl ei_flights _ rfl HY.out.2.2.D (fun b hb => ⟨by have h8 : b < w.heap.size := hb; simp; omega, fun e => by have h8 : b < w.heap.size := hb; have := (HY.out.2.2.D.lt e).1; omega⟩) (some ⟨w2.heap.size, 0, none⟩) 1 1 (ys := [y]) rfl rfl (cellsNew rfl) (Elems.one HY.out.2.1) (lim48' (by rw [HN.out.1]; omega)) (by rw [HN.out.1]; simp only [maxLen]; omega) (by simp; omega) ?_
                                       intro v' w6 hox hg1 hat1
                                       obtain ⟨A6, c6, hv6⟩ := hox.form
                                       obtain ⟨n6, hn6⟩ : ∃ n6, (D ++ [y]).length = n6 := ⟨_, rfl⟩
                                       rw [hn6] at hv6
                                       subst hv6
                                       have H6 := Lib.hid (HY.out.2.2.due hox hg1 hat1 (by simp; omega) hVW)
                                       clear hox hg1 hat1 hn6))
      have hz6 := H6.out.bel.size
      refine rd_r13 w6 w.heap.size w0.heap.size g p ln lc left H6.out.L HN.out.2.1 hpl hlc hz6 hVW (by omega) ?_
      intro d56 d57 d58 d59 d60 d61 d62 d63 d64 A7 c7 w7 ho7 hv7 hb7
      have H7 := Lib.hid (And.intro (H6.out.left' hb7 ho7 hv7 hz6 hVW) HST.out)
      clear ho7 hv7 hb7
      go_wp2
      go_roundw
      case measure => simp [lenOf]; omega
      case rel => exact ⟨_, _, H7⟩
end Go.Proofs.Ytponbodiibkopaa
