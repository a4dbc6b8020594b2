/-
  StoreOrder: a letter's round.
-/
import Derived.Test.YtcmdmmphakclmaaOrderC
namespace Go.Proofs.Ytcmdmmphakclmaa
open Go.RowKit Go.Sort
set_option linter.unusedVariables false

/-- What holds at a round's head. -/
structure OrdW (w0 w : World) (NS NW n : Nat) (sq : Int) (K k : Nat) (A B : Option Addr) (cA cB : Nat) (s : St) (vs : List Value) (want : List (List Lt)) : Prop where
  a0 : w.cell? ⟨NS, 0, none⟩ = some (.slice A n cA)
  a1 : w.cell? ⟨NS, 1, none⟩ = some (.slice B n cB)
  fS : ∀ o, w.frozen? ⟨NS, o, none⟩ = false
  lS : NS < w.heap.size
  gS : w0.heap.size ≤ NS
  neq : NS ≠ NW
  noS : NotOwn vs NS
  st : StAt w (fun b => b < w.heap.size ∧ b ≠ NS ∧ b ≠ NW ∧ NotOwn vs b) A n B n s
  fit : StFit K s
  hw : Want w w0.heap.size NW n vs want
  inv : OrdInv n sq s want
  len : ∀ xs ∈ want, xs.length ≤ k
  bel : Below w0.heap.size w0 w
theorem StAt.keep' {w w' : World} {S S' : Nat → Prop} {A : Option Addr} {n : Nat} {B : Option Addr} {m : Nat} {s : St} (h : StAt w S A n B m s) (hk : ∀ p : Addr, S p.block → w'.cell? p = w.cell? p) (hs : ∀ b, S b → S' b) : StAt w' S' A n B m s :=
  ⟨h.last.keep hk hs, h.lastN, h.boxes.keep hk hs, h.boxesN⟩
theorem Want.own_lt {w : World} {base NW n : Nat} {vs : List Value} {want : List (List Lt)} (h : Want w base NW n vs want) {f : Nat} {v : Value} {g : Nat} (hv : vs[f]? = some v) (hg : v.ownBlock = some g) : base ≤ g ∧ g < w.heap.size := by
  have hw := List.getElem?_eq_getElem (l := want) (i := f) (by have := (List.getElem?_eq_some_iff.1 hv).1; rw [h.nW, ← h.nV]; exact this)
  exact (h.own f v _ hv hw).lt hg
theorem OrdW.keep {w0 w w' : World} {NS NW n : Nat} {sq : Int} {K k : Nat} {A B : Option Addr} {cA cB : Nat} {s : St} {vs : List Value} {want : List (List Lt)} (h : OrdW w0 w NS NW n sq K k A B cA cB s vs want) (hb : Below w.heap.size w w') : OrdW w0 w' NS NW n sq K k A B cA cB s vs want := by
  have hl := h.lS; have hz := hb.size
  refine ⟨(hb.cell (p := ⟨NS, 0, none⟩) hl).trans h.a0, (hb.cell (p := ⟨NS, 1, none⟩) hl).trans h.a1, fun o => (hb.frozen (p := ⟨NS, o, none⟩) hl).trans (h.fS o), by omega, h.gS, h.neq, h.noS, h.st.keep' (fun p hp => hb.cell hp.1) (fun b hb' => ⟨by have := hb'.1; omega, hb'.2⟩), h.fit, h.hw.keep hb, h.inv, h.len, h.bel.trans (hb.mono h.bel.size)⟩
theorem Want.setc {w : World} {base NW n : Nat} {vs : List Value} {want : List (List Lt)} (h : Want w base NW n vs want) {p : Addr} (hp : base ≤ p.block) (hne : p.block ≠ NW) (hno : NotOwn vs p.block) (u : Value) : Want (w.setCell p u) base NW n vs want := by
  have hblk : ∀ k, k ≠ p.block → (w.setCell p u).heap[k]? = w.heap[k]? := fun k hk => Below.heap_setCell w p u k hk
  have hN := hblk NW (fun e => hne e.symm)
  refine ⟨h.nV, h.nW, fun f v hv => (World.cell?_of_block (a := ⟨NW, f, none⟩) hN).trans (h.cell f v hv), fun f v xs hv hx => ?_, h.dis, fun o => ?_, by simp [World.setCell]; exact h.lt, h.ge, h.ne⟩
  · exact (h.own f v xs hv hx).keep (fun g hg => hblk g (fun e => hno f v hv (by rw [hg, e]))) (fun q hq => World.cell?_of_block (hblk q.block (by have : q.block < base := hq; omega))) (fun _ h => h)
  · have := h.frz o
    unfold World.frozen? at this ⊢
    rw [hN]; exact this
/-- The round's end: the new store's header is stored. -/
theorem OrdW.fin {w0 w5 w6 : World} {NS NW n : Nat} {sq : Int} {K k K' k' p q : Nat} {A B A' B' : Option Addr} {cA cB cA' cB' : Nat} {s s' : St} {vs vs' : List Value} {want want' : List (List Lt)} (h : OrdW w0 w5 NS NW n sq K k A B cA cB s vs want)
    (hs' : StAt w5 (mid p q) A' n B' n s') (hp1 : NS < p) (hp2 : NW < p) (hq : q ≤ w5.heap.size) (hpo : ∀ (f : Nat) v g, vs[f]? = some v → v.ownBlock = some g → g < p)
    (hw6 : Want w6 w0.heap.size NW n vs' want') (hsame : ∀ b, b < w5.heap.size → b ≠ NW → NotOwn vs b → w6.heap[b]? = w5.heap[b]?) (hz : w5.heap.size ≤ w6.heap.size) (hno : ∀ b, b < w5.heap.size → NotOwn vs b → NotOwn vs' b) (hbel : Below w0.heap.size w5 w6)
    (hfit : StFit K' s') (hinv : OrdInv n sq s' want') (hlen : ∀ xs ∈ want', xs.length ≤ k') :
    OrdW w0 ((w6.setCell ⟨NS, 0, none⟩ (.slice A' n cA')).setCell ⟨NS, 1, none⟩ (.slice B' n cB')) NS NW n sq K' k' A' B' cA' cB' s' vs' want' := by
  have hlS := h.lS; have hgS := h.gS
  have hnS := hno NS hlS h.noS
  have hS6 := hsame NS hlS h.neq h.noS
  have c0 : w6.cell? ⟨NS, 0, none⟩ = some (.slice A n cA) := (World.cell?_of_block (a := ⟨NS, 0, none⟩) hS6).trans h.a0
  have c1 : w6.cell? ⟨NS, 1, none⟩ = some (.slice B n cB) := (World.cell?_of_block (a := ⟨NS, 1, none⟩) hS6).trans h.a1
  have hfz : ∀ o, ((w6.setCell ⟨NS, 0, none⟩ (.slice A' n cA')).setCell ⟨NS, 1, none⟩ (.slice B' n cB')).frozen? ⟨NS, o, none⟩ = false := fun o => by
    have e : ((w6.setCell ⟨NS, 0, none⟩ (.slice A' n cA')).setCell ⟨NS, 1, none⟩ (.slice B' n cB')).frozen? ⟨NS, o, none⟩ = w6.frozen? ⟨NS, o, none⟩ := by simp [go_sem]
    rw [e]
    have h9 := h.fS o
    unfold World.frozen? at h9 ⊢
    rw [hS6]; exact h9
  have hcell : ∀ pp : Addr, mid p q pp.block → ((w6.setCell ⟨NS, 0, none⟩ (.slice A' n cA')).setCell ⟨NS, 1, none⟩ (.slice B' n cB')).cell? pp = w5.cell? pp := fun pp hp => by
    have h1 : p ≤ pp.block := hp.1; have h2 : pp.block < q := hp.2
    refine World.cell?_of_block ?_
    rw [Below.heap_setCell _ _ _ pp.block (by dsimp only; omega), Below.heap_setCell _ _ _ pp.block (by dsimp only; omega)]
    exact hsame pp.block (by omega) (by omega) (fun f v hv e => by have := hpo f v _ hv e; omega)
  refine ⟨?_, ?_, hfz, by simp [World.setCell]; omega, hgS, h.neq, hnS, hs'.keep' hcell (fun b hb => ?_), hfit, (hw6.setc hgS h.neq hnS _).setc hgS h.neq hnS _, hinv, hlen, ?_⟩
  · rw [World.cell?_setCell_other _ _ _ _ (by intro e; injection e with _ e2; cases e2)]
    exact World.cell?_setCell_same _ _ _ c0
  · exact World.cell?_setCell_same _ _ _ ((World.cell?_setCell_other _ _ _ _ (by intro e; injection e with _ e2; cases e2)).trans c1)
  · have h1 : p ≤ b := hb.1; have h2 : b < q := hb.2
    refine ⟨by simp [World.setCell]; omega, by omega, by omega, hno b (by omega) (fun f v hv e => ?_)⟩
    have := hpo f v b hv e; omega
  · exact ((h.bel.trans hbel).setCell (p := ⟨NS, 0, none⟩) hgS _).setCell (p := ⟨NS, 1, none⟩) hgS _
theorem ordNext_len {n : Nat} {sq : Int} {want : List (List Lt)} {x : Lt} {k : Nat} (h : ∀ xs ∈ want, xs.length ≤ k) : ∀ xs ∈ ordNext n sq want x, xs.length ≤ k + 1 := by
  intro xs hxs
  unfold ordNext at hxs
  split at hxs
  · rcases List.mem_or_eq_of_mem_set hxs with hm | rfl
    · have := h _ hm; omega
    · have : (wantOf want x.fr).length ≤ k := by
        unfold wantOf
        rw [List.getD_eq_getElem?_getD]
        rcases hq : want[x.fr.toNat]? with _ | y
        · simp
        · exact h _ (List.mem_of_getElem? hq)
      simp; omega
  · have := h _ hxs; omega
end Go.Proofs.Ytcmdmmphakclmaa
