/-
  The reference's Send: the walk.
-/
import Derived.Test.YtponbodiibkopaaCpN
namespace Go.Proofs.Ytponbodiibkopaa
open Go.RowKit Go.Sort
set_option linter.unusedVariables false

theorem Own.setBelow' {α : Type} {R : Rdr α} {w : World} {base : Nat} {e : TypeId} {S : Nat → Prop} {v : Value} {xs : List α} (h : Own R w base e S v xs) {p : Addr} (hp : v.ownBlock ≠ some p.block) (hS : ¬ S p.block) (u : Value) : Own R (w.setCell p u) base e S v xs :=
  h.keep (fun g hg => Below.heap_setCell w p u g (fun e => hp (by rw [hg, e]))) (fun q hq => World.cell?_setCell_other w p q u (fun e => hS (by subst e; exact hq))) fun _ h => h
/-- The net that is built: its struct E, its list, its fates, and the flight's box X, apart from each other. -/
structure RsW (V : Nat) (w0 wr : World) (E X : Nat) (bx : Array Value) (vL vF : Value) (ls : List Fl) (AF : Option Addr) (fs : List Int) : Prop where
  v : V ≤ w0.heap.size
  bel : Below w0.heap.size w0 wr
  hE : Blk wr E 25 #[vL, vF]
  he : w0.heap.size ≤ E
  hB : Blk wr X 37 bx
  L : Own Rfl wr w0.heap.size 37 (lo V) vL ls
  F : Sl (Rint .i64) wr (fun b => b < wr.heap.size ∧ w0.heap.size ≤ b ∧ b ≠ E ∧ b ≠ X ∧ vL.ownBlock ≠ some b) AF fs
  dLE : vL.ownBlock ≠ some E
  dLX : vL.ownBlock ≠ some X
  dEX : E ≠ X
  x0 : w0.heap.size ≤ X
theorem RsW.up {V : Nat} {w0 wr w' : World} {E X : Nat} {bx : Array Value} {vL vF : Value} {ls : List Fl} {AF : Option Addr} {fs : List Int} (h : RsW V w0 wr E X bx vL vF ls AF fs) (hb : Below wr.heap.size wr w') : RsW V w0 w' E X bx vL vF ls AF fs := by
  have hz := h.bel.size
  have hz2 := hb.size
  exact ⟨h.v, h.bel.trans (hb.mono hz), h.hE.below hb h.hE.lt, h.he, h.hB.below hb h.hB.lt, h.L.keep (fun g hg => hb.block g (h.L.lt hg).2) (fun p hp => hb.cell (by have h8 : p.block < V := hp; have := h.v; omega)) (fun _ h => h), h.F.keep (fun p hp => hb.cell hp.1) (fun b hb' => ⟨by have := hb'.1; omega, hb'.2⟩), h.dLE, h.dLX, h.dEX, h.x0⟩
/-- The box is written. -/
theorem RsW.box {V : Nat} {w0 wr : World} {E X : Nat} {bx : Array Value} {vL vF : Value} {ls : List Fl} {AF : Option Addr} {fs : List Int} (h : RsW V w0 wr E X bx vL vF ls AF fs) (i : Nat) (u : Value) : RsW V w0 (wr.setCell ⟨X, i, none⟩ u) E X (bx.setIfInBounds i u) vL vF ls AF fs :=
  ⟨h.v, h.bel.setCell (p := ⟨X, i, none⟩) h.x0 _, h.hE.far (p := ⟨X, i, none⟩) h.dEX _, h.he, h.hB.set i u, h.L.keep (fun g hg => Below.heap_setCell wr ⟨X, i, none⟩ u g (fun e => h.dLX (by rw [hg, e]))) (fun p hp => World.cell?_setCell_other wr ⟨X, i, none⟩ p u (fun e => by have h1 : p.block < V := hp; have h2 := h.x0; have h3 := h.v; rw [← e] at h1; dsimp only at h1; omega)) (fun _ h => h), (h.F.set (p := ⟨X, i, none⟩) (fun hm => hm.2.2.2.1 rfl) u).more (fun b hb => by simpa [World.setCell] using hb), h.dLE, h.dLX, h.dEX, h.x0⟩
/-- One more flight. -/
theorem RsW.app {V : Nat} {w0 wr w' : World} {E X : Nat} {bx : Array Value} {vL vF v' : Value} {ls : List Fl} {y : Fl} {AF : Option Addr} {fs : List Int} (h : RsW V w0 wr E X bx vL vF ls AF fs) (ho : Own Rfl w' w0.heap.size 37 (lo V) v' (ls ++ [y])) (hg : wr.grownBy w' vL.ownBlock) (hv : v'.ownBlock = vL.ownBlock ∨ v'.ownBlock = some wr.heap.size) : RsW V w0 (w'.setCell ⟨E, 0, none⟩ v') E X bx v' vF (ls ++ [y]) AF fs := by
  have hz := h.bel.size
  have hbel := h.bel.grown hg hz (fun g hg => (h.L.lt hg).1)
  have hz2 := hg.size
  have hl := h.hE.lt
  have hxl := h.hB.lt
  refine ⟨h.v, hbel.setCell (p := ⟨E, 0, none⟩) h.he _, (h.hE.grown hg (fun e => h.dLE e.symm)).set 0 _, h.he, (h.hB.grown hg (fun e => h.dLX e.symm)).far (p := ⟨E, 0, none⟩) (fun e => h.dEX e.symm) _, ho.setBelow' (p := ⟨E, 0, none⟩) (fun e => ?_) (fun hm => by have h1 : E < V := hm; have := h.he; have := h.v; omega) _, ?_, fun e => ?_, fun e => ?_, h.dEX, h.x0⟩
  · rcases hv with e1 | e1
    · rw [e1] at e; exact h.dLE e
    · rw [e1] at e; have := Option.some.inj e; dsimp only at this; omega
  · refine ((h.F.keep (w' := w') (S' := fun b => b < wr.heap.size ∧ w0.heap.size ≤ b ∧ b ≠ E ∧ b ≠ X ∧ vL.ownBlock ≠ some b) (fun p hp => World.cell?_of_block (hg.block p.block hp.1 (fun e => hp.2.2.2.2 e.symm))) (fun _ h => h)).set (p := ⟨E, 0, none⟩) (fun hm => hm.2.2.1 rfl) v').more (fun b hb => ⟨by have := hb.1; simp [World.setCell]; omega, hb.2.1, hb.2.2.1, hb.2.2.2.1, fun e => ?_⟩)
    rcases hv with e1 | e1
    · rw [e1] at e; exact hb.2.2.2.2 e
    · rw [e1] at e; have := Option.some.inj e; have := hb.1; omega
  · rcases hv with e1 | e1
    · rw [e1] at e; exact h.dLE e
    · rw [e1] at e; have := Option.some.inj e; omega
  · rcases hv with e1 | e1
    · rw [e1] at e; exact h.dLX e
    · rw [e1] at e; have := Option.some.inj e; omega
theorem RsW.start {V : Nat} {w0 w1 : World} {E : Nat} {bx : Array Value} {vL vF : Value} {ls : List Fl} {AF : Option Addr} {fs : List Int} (hV : V ≤ w0.heap.size) (hb : Below w0.heap.size w0 w1) (hE : Blk w1 E 25 #[vL, vF]) (he : w0.heap.size ≤ E) (hL : Own Rfl w1 w0.heap.size 37 (lo V) vL ls)
    (hF : Sl (Rint .i64) w1 (fun b => b < w1.heap.size ∧ w0.heap.size ≤ b ∧ b ≠ E ∧ vL.ownBlock ≠ some b) AF fs) (hd : vL.ownBlock ≠ some E) : RsW V w0 (w1.alloc (.cells bx 37)) E w1.heap.size bx vL vF ls AF fs := by
  have hz := hb.size
  have hl := hE.lt
  exact ⟨hV, hb.alloc hz _, hE.alloc _, he, Blk.new _ _ _ rfl, hL.alloc (fun b hb => by have h8 : b < V := hb; omega) _, hF.keep (fun p hp => World.cell?_alloc_lt _ _ _ hp.1) (fun b hb => ⟨by have := hb.1; simp; omega, hb.2.1, hb.2.2.1, by have := hb.1; omega, hb.2.2.2⟩), hd, fun e => by have := (hL.lt e).2; omega, by omega, hz⟩
/-- A net that is told. -/
def NetOf (y : Nt) (w : World) (en : Ending) (w' : World) : Prop :=
  ∃ (A : Option Addr) (n c : Nat) (B : Option Addr) (m d : Nat), en = .returned (.agg #[.slice A n c, .slice B m d]) ∧ NtAt w' (lo w'.heap.size) A n B m y ∧ n ≤ 9223372036854775807 ∧ m ≤ 9223372036854775807 ∧ Below w.heap.size w w'
theorem net_fin {V : Nat} {w w0 wr : World} {A : Option Addr} {n c : Nat} {AF : Option Addr} {m d : Nat} {ls : List Fl} {fs : List Int} (hv : V ≤ w0.heap.size) (hb : Below w0.heap.size w0 wr) (hL0 : Own Rfl wr w0.heap.size 37 (lo V) (.slice A n c) ls) (hF0 : Sl (Rint .i64) wr (fun b => b < wr.heap.size ∧ w0.heap.size ≤ b) AF fs)
    {res : Nat} (hw : Below w.heap.size w w0) (hr : res < w0.heap.size) (hr2 : w.heap.size ≤ res) (hV : V ≤ res) (hm : fs.length = m) (hz : n ≤ 9223372036854775807) (hz2 : m ≤ 9223372036854775807) (u0 u1 : Value) :
    NetOf ⟨ls, fs⟩ w (.returned (.agg #[.slice A n c, .slice AF m d])) ((wr.setCell ⟨res, 0, none⟩ u0).setCell ⟨res, 1, none⟩ u1) := by
  have hz0 := hb.size
  have hzw := hw.size
  have hzf : ((wr.setCell ⟨res, 0, none⟩ u0).setCell ⟨res, 1, none⟩ u1).heap.size = wr.heap.size := by simp [World.setCell]
  have hL := (hL0.setBelow (p := ⟨res, 0, none⟩) hr (fun hm => by have h1 : res < V := hm; omega) u0).setBelow (p := ⟨res, 1, none⟩) hr (fun hm => by have h1 : res < V := hm; omega) u1
  have hF := (hF0.set (p := ⟨res, 0, none⟩) (fun hm => by have := hm.2; dsimp only at this; omega) u0).set (p := ⟨res, 1, none⟩) (fun hm => by have := hm.2; dsimp only at this; omega) u1
  obtain ⟨q1, q2, q3, q4⟩ := hL.slice (S' := lo ((wr.setCell ⟨res, 0, none⟩ u0).setCell ⟨res, 1, none⟩ u1).heap.size) (fun b hb => by have h1 : b < V := hb; show b < _; omega) (fun g _ hlt => hlt)
  exact ⟨A, n, c, AF, m, d, rfl, ⟨q4, q1.symm, hF.more (fun b hb => by have h1 := hb.1; show b < _; omega), hm⟩, hz, hz2, ((hw.trans (hb.mono hzw)).setCell (p := ⟨res, 0, none⟩) hr2 _).setCell (p := ⟨res, 1, none⟩) hr2 _⟩
theorem RsW.fin {V : Nat} {w w0 wr : World} {E X : Nat} {bx : Array Value} {A : Option Addr} {n c : Nat} {AF : Option Addr} {m d : Nat} {ls : List Fl} {fs : List Int} (h : RsW V w0 wr E X bx (.slice A n c) (.slice AF m d) ls AF fs) {res : Nat} (hw : Below w.heap.size w w0) (hr : res < w0.heap.size) (hr2 : w.heap.size ≤ res) (hV : V ≤ res) (hm : fs.length = m) (hz : n ≤ 9223372036854775807) (hz2 : m ≤ 9223372036854775807) (u0 u1 : Value) :
    NetOf ⟨ls, fs⟩ w (.returned (.agg #[.slice A n c, .slice AF m d])) ((wr.setCell ⟨res, 0, none⟩ u0).setCell ⟨res, 1, none⟩ u1) := by
  have hz0 := h.bel.size
  have hzw := hw.size
  have hzf : ((wr.setCell ⟨res, 0, none⟩ u0).setCell ⟨res, 1, none⟩ u1).heap.size = wr.heap.size := by simp [World.setCell]
  have hL := (h.L.setBelow (p := ⟨res, 0, none⟩) hr (fun hm => by have h1 : res < V := hm; omega) u0).setBelow (p := ⟨res, 1, none⟩) hr (fun hm => by have h1 : res < V := hm; omega) u1
  have hF := (h.F.set (p := ⟨res, 0, none⟩) (fun hm => by have := hm.2.1; dsimp only at this; omega) u0).set (p := ⟨res, 1, none⟩) (fun hm => by have := hm.2.1; dsimp only at this; omega) u1
  obtain ⟨q1, q2, q3, q4⟩ := hL.slice (S' := lo ((wr.setCell ⟨res, 0, none⟩ u0).setCell ⟨res, 1, none⟩ u1).heap.size) (fun b hb => by have h1 : b < V := hb; have := h.v; show b < _; omega) (fun g _ hlt => hlt)
  exact ⟨A, n, c, AF, m, d, rfl, ⟨q4, q1.symm, hF.more (fun b hb => by have h1 := hb.1; show b < _; omega), hm⟩, hz, hz2, ((hw.trans (h.bel.mono hzw)).setCell (p := ⟨res, 0, none⟩) hr2 _).setCell (p := ⟨res, 1, none⟩) hr2 _⟩
theorem lim48 {n : Nat} (h : n ≤ 2932031007402) : n * 48 ≤ 140737488355328 := Nat.le_trans (Nat.mul_le_mul_right 48 h) (by decide)
set_option maxRecDepth 100000 in
set_option maxHeartbeats 4000000 in
theorem rsend_any (w : World) (x : Nt) (A : Option Addr) (n c : Nat) (B : Option Addr) (m d : Nat) (now fr tgt : Int) (body : List Int) (T : Option Addr) (k kc : Nat) (h : NtArg w A n c B m d x) (hk : body.length = k) (hkc : k ≤ kc) (hkm : kc ≤ maxLen) (hT : Sl (Rint .u8) w (lo w.heap.size) T body)
    (hfr : (Lit.int .i64 fr).wf = true) (htg : (Lit.int .i64 tgt).wf = true) :
    Calls Try.prog 12 #[.agg #[.slice A n c, .slice B m d], .int .i64 now, .int .i64 fr, .int .i64 tgt, .slice T k kc] w (NetOf (sendN x now fr tgt body) w) := by
  have hb0 : RowKit.Below w.heap.size w ((w.alloc (.cells #[.slice A n c, .slice B m d] 25)).alloc (.cells #[.slice none 0 0, .slice none 0 0] 25)) := ((Below.refl _ _).alloc (Nat.le_refl _) _).alloc (by simp) _
  have hz0 : ((w.alloc (.cells #[.slice A n c, .slice B m d] 25)).alloc (.cells #[.slice none 0 0, .slice none 0 0] 25)).heap.size = w.heap.size + 2 := by simp
  have hB := (Blk.new w 25 #[.slice A n c, .slice B m d] (g := w.heap.size) rfl).alloc (.cells #[.slice none 0 0, .slice none 0 0] 25)
  have hR := Blk.new (w.alloc (.cells #[.slice A n c, .slice B m d] 25)) 25 #[.slice none 0 0, .slice none 0 0] (g := w.heap.size + 1) (by simp)
  have hn64 := h.n64; have hm64 := h.m64
  have hnl : n ≤ 2932031007400 := by have h1 := h.fit.list; rw [h.at_.listN] at h1; omega
  have hml : m * 8 ≤ 140737488355328 := by have h1 := h.fit.fates; rw [h.at_.fatesN] at h1; exact h1
  have HT := Lib.hid (And.intro hk hT); have HW := Lib.hid (And.intro hfr htg)
  clear hk hT hfr htg
  go_enter Try.func12, Try.ntmps12
  go_upto_region 1 with fail
  generalize ((w.alloc (.cells #[.slice A n c, .slice B m d] 25)).alloc (.cells #[.slice none 0 0, .slice none 0 0] 25)) = w0 at *
  have H0 := Lib.hid (And.intro hb0 (And.intro hB (And.intro hR h)))
  clear hb0 hB hR h
  refine rs_r1 w0 w.heap.size w.heap.size (by omega) x.list x.fates A n c B m d H0.out.2.1 H0.out.2.2.2.at_.listN H0.out.2.2.2.at_.fatesN (H0.out.2.2.2.at_.list.keep (fun p hp => H0.out.1.cell hp) (fun _ h => h)) (H0.out.2.2.2.at_.fates.keep (fun p hp => H0.out.1.cell hp) (fun _ h => h)) (by omega) hml ?_
  intro d14 d15 d16 d17 d18 d19 d20 E A1 c1 B1 d1 w1 gE hL hF hb1 hE0 hd1 hd2
  have z1 := hb1.size
  have hlE := gE.lt
  have H1 := Lib.hid (And.intro gE (And.intro hL (And.intro hF (And.intro hb1 (And.intro hd1 hd2)))))
  have e0 := gE.cell 0 (v := .slice A1 n c1) rfl; have e1 := gE.cell 1 (v := .slice B1 m d1) rfl; have fE := gE.frozen
  clear gE hL hF hb1 hd1 hd2
  have hsl : Sl (Rint .i64) w1 (fun b => b < w1.heap.size ∧ w0.heap.size ≤ b ∧ b ≠ E ∧ (Value.slice A1 n c1).ownBlock ≠ some b) B1 x.fates := by
    obtain ⟨cells, ho, he⟩ := H1.out.2.2.1
    have hF0 : Own (Rint .i64) w1 w0.heap.size 3 (fun _ => False) (.slice B1 m d1) x.fates := ⟨cells, ho, he.flat⟩
    exact (hF0.slice (fun _ h => h.elim) (fun g hg hlt => ⟨hlt, (hF0.lt hg).1, H1.out.2.2.2.2.2 g hg, fun e => (H1.out.2.2.2.2.1 g e).2 hg⟩)).2.2.2
  obtain ⟨lst, fates⟩ := x
  cases fates with
  | nil =>
    obtain rfl : m = 0 := H0.out.2.2.2.at_.fatesN.symm
    have hln : lst.length = n := H0.out.2.2.2.at_.listN
    have HP := Lib.hid (show sendN ⟨lst, []⟩ now fr tgt body = ⟨lst ++ [⟨wrap64 (wrap64 (now + 1)), fr, tgt, body⟩], []⟩ by simp [sendN, sendL, fateN, atN])
    go_upto_region 9 with fail
    have hwt := wf_wrap (wrap64 (now + 1))
    generalize wrap64 (wrap64 (now + 1)) = ta at *
    have HR := Lib.hid (RsW.start (bx := #[.int .i64 (ta), .int .i64 fr, .int .i64 tgt, .slice T k kc]) (by omega) H1.out.2.2.2.1 H1.out.1 hE0 H1.out.2.1 hsl (fun e => (H1.out.2.2.2.2.1 _ e).1 rfl))
    clear hsl e0 e1 fE
    have e0 := HR.out.hE.cell 0 (v := .slice A1 n c1) rfl; have fE := HR.out.hE.frozen
    have x0 := HR.out.hB.cell 0 (v := .int .i64 (ta)) rfl; have x1 := HR.out.hB.cell 1 (v := .int .i64 fr) rfl; have x2 := HR.out.hB.cell 2 (v := .int .i64 tgt) rfl; have x3 := HR.out.hB.cell 3 (v := .slice T k kc) rfl
    generalize (w1.alloc (.cells #[.int .i64 (ta), .int .i64 fr, .int .i64 tgt, .slice T k kc] 37)) = wr at *
    have hzr := HR.out.bel.size
    have hlEr := HR.out.hE.lt
    have hlXr := HR.out.hB.lt
    go_upto_region 10 with (first
      | (at_builtin
         go_loud (skip
                  refine wpList_append_own' _ rfl (.tmp 46) (.tmp 48) _ rfl ei_flights _ rfl (HR.out.up ((Below.refl _ _).alloc (Nat.le_refl _) _)).L (fun b hb => ⟨by have h1 := HR.out.bel.size; have h3 := HR.out.v; have h2 : b < w.heap.size := hb; (try simp); omega, fun e => by have h9 := (HR.out.L.lt e).1; have h3 := HR.out.v; have h2 : b < w.heap.size := hb; omega⟩) (some _) 1 1 (ys := [(⟨ta,fr,tgt,body⟩:Fl)]) rfl rfl (cellsNew rfl) (Elems.one (R := Rfl) (x := (⟨ta,fr,tgt,body⟩:Fl)) ⟨T, kc, by rw [← HT.out.1], hwt, HW.out.1, HW.out.2, by rw [← HT.out.1] at hkc; exact hkc, hkm, HT.out.2.keep (fun p hp => (World.cell?_alloc_lt _ _ _ (by have h1 := HR.out.bel.size; have h3 := HR.out.v; have h2 : p.block < w.heap.size := hp; omega)).trans ((H0.out.1.trans (HR.out.bel.mono (by omega))).cell hp)) (fun _ h => h)⟩) (lim48 (by (try simp only [List.length_append, List.length_singleton]); omega)) (by (try simp only [List.length_append, List.length_singleton]); simp only [maxLen]; omega) (by have h1 := HR.out.bel.size; (try simp); omega) ?_
                  intro v' w6 hox hg1 hat1
                  obtain ⟨A', c', hv'⟩ := hox.form
                  obtain ⟨n', hn'⟩ : ∃ n', (lst ++ [(⟨ta,fr,tgt,body⟩:Fl)]).length = n' := ⟨_, rfl⟩
                  rw [hn'] at hv'
                  subst hv'
                  have hEb := (HR.out.up ((Below.refl _ _).alloc (Nat.le_refl _) _)).hE.grown hg1 (fun e => HR.out.dLE e.symm)
                  clear e0 fE
                  have e0 := hEb.cell 0 (v := (.slice A1 n c1)) rfl
                  have fE := hEb.frozen
                  have hz6 := hg1.size
                  have HR2 := Lib.hid ((HR.out.up ((Below.refl _ _).alloc (Nat.le_refl _) _)).app hox hg1 hat1)
                  have hnz : n' ≤ 9223372036854775807 := by rw [← hn']; (try simp only [List.length_append, List.length_singleton]); omega
                  clear hox hg1 hat1 hEb hn'))
      )
    clear HR x0 x1 x2 x3
    have q0 := HR2.out.hE.cell 0 (v := .slice A' n' c') rfl; have q1 := HR2.out.hE.cell 1 (v := .slice B1 0 d1) rfl
    have gR := H0.out.2.2.1.below HR2.out.bel (by omega)
    have r0 := gR.cell 0 (v := .slice none 0 0) rfl; have r1 := gR.cell 1 (v := .slice none 0 0) rfl; have fR := gR.frozen
    clear gR
    go_wp2
    refine bodyPost_ret (v := .agg #[.slice A' n' c', .slice B1 0 d1]) (by simp [results, Try.results12, go_sem, r0, r1]) rfl ?_
    rw [HP.out]
    exact RsW.fin HR2.out H0.out.1 (by omega) (by omega) (by omega) rfl (by omega) (by omega) _ _
  | cons f rest =>
    obtain rfl : m = rest.length + 1 := H0.out.2.2.2.at_.fatesN.symm
    have hln : lst.length = n := H0.out.2.2.2.at_.listN
    have hmd1 : rest.length + 1 ≤ d1 := by
      obtain ⟨cells, ho, he⟩ := H1.out.2.2.1
      have hF0 : Own (Rint .i64) w1 w0.heap.size 3 (fun _ => False) (.slice B1 (rest.length + 1) d1) (f :: rest) := ⟨cells, ho, he.flat⟩
      exact (hF0.slice (S' := fun _ => True) (fun _ h => h.elim) (fun g hg hlt => trivial)).2.1
    obtain ⟨bF, offF, rfl, hlF, hwF, hF0⟩ := hsl.int (i := 0) (x := f) rfl
    simp only [Nat.add_zero] at hF0
    have hlF' : bF < w1.heap.size := hlF.1
    have hneE : bF ≠ E := hlF.2.2.1
    have hneE' : E ≠ bF := fun e => hneE e.symm
    have hrt : Sl (Rint .i64) w1 (fun b => b < w1.heap.size ∧ w0.heap.size ≤ b ∧ b ≠ E ∧ (Value.slice A1 n c1).ownBlock ≠ some b) (if d1 = 1 then some ⟨bF, offF, none⟩ else some ⟨bF, offF + 1, none⟩) rest := by
      by_cases hd1 : d1 = 1
      · obtain rfl : rest = [] := List.length_eq_zero_iff.1 (by omega)
        exact Sl.nil _ _ _ _
      · rw [if_neg hd1]; exact hsl.tail
    obtain ⟨AF, hAF⟩ : ∃ AF, (if d1 = 1 then (some ⟨bF, offF, none⟩ : Option Addr) else some ⟨bF, offF + 1, none⟩) = AF := ⟨_, rfl⟩
    rw [hAF] at hrt
    have HAF := Lib.hid hAF
    have HRT := Lib.hid hrt
    clear hAF hrt hsl hlF
    go_upto_region 6 with fail
    rw [HAF.out]
    obtain ⟨w2, hw2⟩ : ∃ w2, w1.setCell ⟨E, 1, none⟩ (.slice AF rest.length (d1 - 1)) = w2 := ⟨_, rfl⟩
    have z2 : w2.heap.size = w1.heap.size := by rw [← hw2]; simp [World.setCell]
    have gE2 : Blk w2 E 25 #[.slice A1 n c1, .slice AF rest.length (d1 - 1)] := by rw [← hw2]; exact H1.out.1.set 1 _
    have hL2 : Own Rfl w2 w0.heap.size 37 (lo w.heap.size) (.slice A1 n c1) lst := by rw [← hw2]; exact H1.out.2.1.setBelow' (p := ⟨E, 1, none⟩) (fun e => (H1.out.2.2.2.2.1 _ e).1 rfl) (fun hm => by have h1 : E < w.heap.size := hm; omega) _
    have hF2 : Sl (Rint .i64) w2 (fun b => b < w2.heap.size ∧ w0.heap.size ≤ b ∧ b ≠ E ∧ (Value.slice A1 n c1).ownBlock ≠ some b) AF rest := by
      rw [z2, ← hw2]; exact HRT.out.set (p := ⟨E, 1, none⟩) (fun hm => hm.2.2.1 rfl) _
    have hb2 : RowKit.Below w0.heap.size w0 w2 := by rw [← hw2]; exact H1.out.2.2.2.1.setCell (p := ⟨E, 1, none⟩) hE0 _
    rw [hw2]
    have H2 := Lib.hid (And.intro gE2 (And.intro hL2 (And.intro hF2 hb2)))
    clear e0 e1 fE hF0
    have e0 := gE2.cell 0 (v := .slice A1 n c1) rfl; have e1 := gE2.cell 1 (v := .slice AF rest.length (d1 - 1)) rfl; have fE := gE2.frozen
    have hlE2 := gE2.lt
    have hlF2 : bF < w2.heap.size := by omega
    have z12 : w0.heap.size ≤ w2.heap.size := by omega
    clear gE2 hL2 hF2 hb2 hw2 z2
    by_cases hneg : f < 0
    · have dn : decide (f < 0) = true := decide_eq_true hneg
      have HP := Lib.hid (show sendN ⟨lst, f :: rest⟩ now fr tgt body = ⟨lst, rest⟩ by simp [sendN, sendL, fateN, hneg])
      clear hneg
      have gR := H0.out.2.2.1.below H2.out.2.2.2 (by omega)
      have r0 := gR.cell 0 (v := .slice none 0 0) rfl; have r1 := gR.cell 1 (v := .slice none 0 0) rfl; have fR := gR.frozen
      clear gR
      go_wp2
      refine bodyPost_ret (v := .agg #[.slice A1 n c1, .slice AF rest.length (d1 - 1)]) (by simp [results, Try.results12, go_sem, r0, r1]) rfl ?_
      rw [HP.out]
      exact net_fin (by omega) H2.out.2.2.2 H2.out.2.1 (H2.out.2.2.1.more (fun b hb => ⟨hb.1, hb.2.1⟩)) H0.out.1 (by omega) (by omega) (by omega) rfl (by omega) (by omega) _ _
    · have dn : decide (f < 0) = false := decide_eq_false hneg
      have hpos : 0 ≤ f := by omega
      have hbd := bounds_i64 hwF
      clear hneg
      go_upto_region 9 with fail
      have hwt := wf_wrap (wrap64 (now + 1) + f % 16)
      obtain ⟨ta, hta⟩ : ∃ ta, wrap64 (wrap64 (now + 1) + f % 16) = ta := ⟨_, rfl⟩
      rw [hta] at hwt ⊢
      have HTA := Lib.hid hta; clear hta
      have HR := Lib.hid (RsW.start (bx := #[.int .i64 ta, .int .i64 fr, .int .i64 tgt, .slice T k kc]) (by omega) H2.out.2.2.2 H2.out.1 hE0 H2.out.2.1 H2.out.2.2.1 (fun e => (H1.out.2.2.2.2.1 _ e).1 rfl))
      clear e0 e1 fE
      have e0 := HR.out.hE.cell 0 (v := .slice A1 n c1) rfl; have fE := HR.out.hE.frozen
      have x0 := HR.out.hB.cell 0 (v := .int .i64 ta) rfl; have x1 := HR.out.hB.cell 1 (v := .int .i64 fr) rfl; have x2 := HR.out.hB.cell 2 (v := .int .i64 tgt) rfl; have x3 := HR.out.hB.cell 3 (v := .slice T k kc) rfl
      generalize (w2.alloc (.cells #[.int .i64 ta, .int .i64 fr, .int .i64 tgt, .slice T k kc] 37)) = wr at *
      have hzr := HR.out.bel.size
      have hlEr := HR.out.hE.lt
      have hlXr := HR.out.hB.lt
      go_upto_region 10 with (first
        | (at_builtin
           go_loud (skip
                    refine wpList_append_own' _ rfl (.tmp 46) (.tmp 48) _ rfl ei_flights _ rfl (HR.out.up ((Below.refl _ _).alloc (Nat.le_refl _) _)).L (fun b hb => ⟨by have h1 := HR.out.bel.size; have h3 := HR.out.v; have h2 : b < w.heap.size := hb; (try simp); omega, fun e => by have h9 := (HR.out.L.lt e).1; have h3 := HR.out.v; have h2 : b < w.heap.size := hb; omega⟩) (some _) 1 1 (ys := [(⟨ta,fr,tgt,body⟩:Fl)]) rfl rfl (cellsNew rfl) (Elems.one (R := Rfl) (x := (⟨ta,fr,tgt,body⟩:Fl)) ⟨T, kc, by rw [← HT.out.1], hwt, HW.out.1, HW.out.2, by rw [← HT.out.1] at hkc; exact hkc, hkm, HT.out.2.keep (fun p hp => (World.cell?_alloc_lt _ _ _ (by have h1 := HR.out.bel.size; have h3 := HR.out.v; have h2 : p.block < w.heap.size := hp; omega)).trans ((H0.out.1.trans (HR.out.bel.mono (by omega))).cell hp)) (fun _ h => h)⟩) (lim48 (by (try simp only [List.length_append, List.length_singleton]); omega)) (by (try simp only [List.length_append, List.length_singleton]); simp only [maxLen]; omega) (by have h1 := HR.out.bel.size; (try simp); omega) ?_
                    intro v' w6 hox hg1 hat1
                    obtain ⟨A', c', hv'⟩ := hox.form
                    obtain ⟨n', hn'⟩ : ∃ n', (lst ++ [(⟨ta,fr,tgt,body⟩:Fl)]).length = n' := ⟨_, rfl⟩
                    rw [hn'] at hv'
                    subst hv'
                    have hEb := (HR.out.up ((Below.refl _ _).alloc (Nat.le_refl _) _)).hE.grown hg1 (fun e => HR.out.dLE e.symm)
                    clear e0 fE
                    have e0 := hEb.cell 0 (v := (.slice A1 n c1)) rfl
                    have fE := hEb.frozen
                    have hz6 := hg1.size
                    have HR2 := Lib.hid ((HR.out.up ((Below.refl _ _).alloc (Nat.le_refl _) _)).app hox hg1 hat1)
                    have hnz : n' ≤ 9223372036854775807 := by rw [← hn']; (try simp only [List.length_append, List.length_singleton]); omega
                    clear hox hg1 hat1 hEb hn'))
        )
      clear HR x0 x1 x2 x3 e0 fE
      by_cases hodd : f / 16 % 2 = 1
      · have d2 : (f / 16 % 2 == 1) = true := by simpa using hodd
        have HP := Lib.hid (show sendN ⟨lst, f :: rest⟩ now fr tgt body = ⟨lst ++ [⟨ta, fr, tgt, body⟩] ++ [⟨wrap64 (ta + 1), fr, tgt, body⟩], rest⟩ by rw [← HTA.out]; simp [sendN, sendL, fateN, atN, hodd, show ¬ f < 0 by omega])
        clear hodd
        have x0 := HR2.out.hB.cell 0 (v := .int .i64 ta) rfl; have fX := HR2.out.hB.frozen
        have hlX2 := HR2.out.hB.lt
        generalize (w6.setCell ⟨E, 0, none⟩ (.slice A' n' c')) = w7 at *
        go_upto_region 12 with fail
        have HR := Lib.hid (HR2.out.box 0 (.int .i64 (wrap64 (ta + 1))))
        clear HR2 x0 fX
        have hwt2 := wf_wrap (ta + 1)
        obtain ⟨w8, hw8⟩ : ∃ w8, w7.setCell ⟨w2.heap.size, 0, none⟩ (.int .i64 (wrap64 (ta + 1))) = w8 := ⟨_, rfl⟩
        rw [hw8] at HR ⊢
        generalize wrap64 (ta + 1) = tb at *
        clear hw8
        have e0 := HR.out.hE.cell 0 (v := .slice A' n' c') rfl; have fE := HR.out.hE.frozen
        have x0 := HR.out.hB.cell 0 (v := .int .i64 tb) rfl; have x1 := HR.out.hB.cell 1 (v := .int .i64 fr) rfl; have x2 := HR.out.hB.cell 2 (v := .int .i64 tgt) rfl; have x3 := HR.out.hB.cell 3 (v := .slice T k kc) rfl
        have hzr := HR.out.bel.size
        have hlEr := HR.out.hE.lt
        have hlXr := HR.out.hB.lt
        have hnz1 := hnz
        clear hnz hz6
        go_upto_region 13 with (first
          | (at_builtin
             go_loud (skip
                      refine wpList_append_own' _ rfl (.tmp 60) (.tmp 62) _ rfl ei_flights _ rfl (HR.out.up ((Below.refl _ _).alloc (Nat.le_refl _) _)).L (fun b hb => ⟨by have h1 := HR.out.bel.size; have h3 := HR.out.v; have h2 : b < w.heap.size := hb; (try simp); omega, fun e => by have h9 := (HR.out.L.lt e).1; have h3 := HR.out.v; have h2 : b < w.heap.size := hb; omega⟩) (some _) 1 1 (ys := [(⟨tb,fr,tgt,body⟩:Fl)]) rfl rfl (cellsNew rfl) (Elems.one (R := Rfl) (x := (⟨tb,fr,tgt,body⟩:Fl)) ⟨T, kc, by rw [← HT.out.1], hwt2, HW.out.1, HW.out.2, by rw [← HT.out.1] at hkc; exact hkc, hkm, HT.out.2.keep (fun p hp => (World.cell?_alloc_lt _ _ _ (by have h1 := HR.out.bel.size; have h3 := HR.out.v; have h2 : p.block < w.heap.size := hp; omega)).trans ((H0.out.1.trans (HR.out.bel.mono (by omega))).cell hp)) (fun _ h => h)⟩) (lim48 (by (try simp only [List.length_append, List.length_singleton]); omega)) (by (try simp only [List.length_append, List.length_singleton]); simp only [maxLen]; omega) (by have h1 := HR.out.bel.size; (try simp); omega) ?_
                      intro v' w6 hox hg1 hat1
                      obtain ⟨A9, c9, hv'⟩ := hox.form
                      obtain ⟨n9, hn'⟩ : ∃ n', ((lst++[(⟨ta,fr,tgt,body⟩:Fl)]) ++ [(⟨tb,fr,tgt,body⟩:Fl)]).length = n' := ⟨_, rfl⟩
                      rw [hn'] at hv'
                      subst hv'
                      have hEb := (HR.out.up ((Below.refl _ _).alloc (Nat.le_refl _) _)).hE.grown hg1 (fun e => HR.out.dLE e.symm)
                      clear e0 fE
                      have e0 := hEb.cell 0 (v := (.slice A' n' c')) rfl
                      have fE := hEb.frozen
                      have hz6 := hg1.size
                      have HR2 := Lib.hid ((HR.out.up ((Below.refl _ _).alloc (Nat.le_refl _) _)).app hox hg1 hat1)
                      have hnz : n9 ≤ 9223372036854775807 := by rw [← hn']; (try simp only [List.length_append, List.length_singleton]); omega
                      clear hox hg1 hat1 hEb hn'))
          )
        clear HR x0 x1 x2 x3 e0 fE
        have q0 := HR2.out.hE.cell 0 (v := .slice A9 n9 c9) rfl; have q1 := HR2.out.hE.cell 1 (v := .slice AF rest.length (d1-1)) rfl
        have gR := H0.out.2.2.1.below HR2.out.bel (by omega)
        have r0 := gR.cell 0 (v := .slice none 0 0) rfl; have r1 := gR.cell 1 (v := .slice none 0 0) rfl; have fR := gR.frozen
        clear gR
        go_wp2
        refine bodyPost_ret (v := .agg #[.slice A9 n9 c9, .slice AF rest.length (d1-1)]) (by simp [results, Try.results12, go_sem, r0, r1]) rfl ?_
        rw [HP.out]
        exact RsW.fin HR2.out H0.out.1 (by omega) (by omega) (by omega) rfl (by omega) (by omega) _ _
      · have d2 : (f / 16 % 2 == 1) = false := by simpa using hodd
        have HP := Lib.hid (show sendN ⟨lst, f :: rest⟩ now fr tgt body = ⟨lst ++ [⟨ta, fr, tgt, body⟩], rest⟩ by rw [← HTA.out]; simp [sendN, sendL, fateN, atN, hodd, show ¬ f < 0 by omega])
        clear hodd
        have q0 := HR2.out.hE.cell 0 (v := .slice A' n' c') rfl; have q1 := HR2.out.hE.cell 1 (v := .slice AF rest.length (d1-1)) rfl
        have gR := H0.out.2.2.1.below HR2.out.bel (by omega)
        have r0 := gR.cell 0 (v := .slice none 0 0) rfl; have r1 := gR.cell 1 (v := .slice none 0 0) rfl; have fR := gR.frozen
        clear gR
        go_wp2
        refine bodyPost_ret (v := .agg #[.slice A' n' c', .slice AF rest.length (d1-1)]) (by simp [results, Try.results12, go_sem, r0, r1]) rfl ?_
        rw [HP.out]
        exact RsW.fin HR2.out H0.out.1 (by omega) (by omega) (by omega) rfl (by omega) (by omega) _ _
end Go.Proofs.Ytponbodiibkopaa
