/-
  A slice of the call's own, all that it leads to included, apart from the blocks of X. Plain.
-/
import Derived.Test.YtponbodiibkopaaFill
import Derived.Test.YtponbodiibkopaaPiece
namespace Go.Proofs.Ytponbodiibkopaa
open Go.RowKit Go.Sort
set_option linter.unusedVariables false

/-- The slice v reads as xs; its own row, and all that its elements lead to, lie in blocks from B on that are none of X's; the row is no element's block. -/
def OwnX {α : Type} (R : Rdr α) (w : World) (B : Nat) (e : TypeId) (X : Nat → Prop) (v : Value) (xs : List α) : Prop :=
  ∃ S : Nat → Prop, Own R w B e S v xs ∧ (∀ k, S k → B ≤ k ∧ k < w.heap.size ∧ ¬ X k ∧ v.ownBlock ≠ some k) ∧ ∀ g, v.ownBlock = some g → ¬ X g
section
variable {α : Type} {R : Rdr α} {w w' : World} {B : Nat} {e : TypeId} {X X' : Nat → Prop} {v : Value} {xs : List α}
theorem OwnX.nil (R : Rdr α) (w : World) (B : Nat) (e : TypeId) (X : Nat → Prop) : OwnX R w B e X (.slice none 0 0) [] :=
  ⟨fun _ => False, Own.nil R w B e _, fun _ h => h.elim, fun g h => by simp [Value.ownBlock] at h⟩
theorem OwnX.lt (h : OwnX R w B e X v xs) {g : Nat} (hg : v.ownBlock = some g) : B ≤ g ∧ g < w.heap.size ∧ ¬ X g := by
  obtain ⟨S, h1, _, h3⟩ := h; exact ⟨(h1.lt hg).1, (h1.lt hg).2, h3 g hg⟩
theorem OwnX.form (h : OwnX R w B e X v xs) : ∃ A cap, v = .slice A xs.length cap := by obtain ⟨S, h1, _⟩ := h; exact h1.form
/-- What leaves the blocks from B on, but X's, alone. -/
theorem OwnX.frame (h : OwnX R w B e X v xs) (hk : ∀ k, B ≤ k → k < w.heap.size → ¬ X k → w'.heap[k]? = w.heap[k]?) (hz : w.heap.size ≤ w'.heap.size) (hX : ∀ k, B ≤ k → k < w.heap.size → ¬ X k → ¬ X' k) : OwnX R w' B e X' v xs := by
  obtain ⟨S, h1, h2, h3⟩ := h
  refine ⟨S, h1.keep (fun g hg => ?_) (fun p hp => ?_) (fun _ h => h), fun k hk' => ?_, fun g hg => ?_⟩
  · have := h1.lt hg; exact hk g this.1 this.2 (h3 g hg)
  · have := h2 _ hp; exact World.cell?_of_block (hk _ this.1 this.2.1 this.2.2.1)
  · have := h2 _ hk'; exact ⟨this.1, by omega, hX _ this.1 this.2.1 this.2.2.1, this.2.2.2⟩
  · have := h1.lt hg; exact hX g this.1 this.2 (h3 g hg)
theorem OwnX.up (h : OwnX R w B e X v xs) (hb : Below w.heap.size w w') : OwnX R w' B e X v xs := h.frame (fun k _ hk _ => hb.block k hk) hb.size (fun _ _ _ h => h)
theorem OwnX.less (h : OwnX R w B e X v xs) (hX : ∀ k, B ≤ k → k < w.heap.size → ¬ X k → ¬ X' k) : OwnX R w B e X' v xs := h.frame (fun _ _ _ _ => rfl) (Nat.le_refl _) hX
theorem OwnX.far (h : OwnX R w B e X v xs) {p : Addr} (hp : X p.block) (u : Value) : OwnX R (w.setCell p u) B e X v xs :=
  h.frame (fun k _ _ hk => Below.heap_setCell w p u k (fun e => hk (by rw [e]; exact hp))) (by simp [World.setCell]) (fun _ _ _ h => h)
theorem OwnX.low (h : OwnX R w B e X v xs) {p : Addr} (hp : p.block < B) (u : Value) : OwnX R (w.setCell p u) B e X v xs :=
  h.frame (fun k h1 _ _ => Below.heap_setCell w p u k (by omega)) (by simp [World.setCell]) (fun _ _ _ h => h)
theorem OwnX.base {B' : Nat} (h : OwnX R w B e X v xs) (hB : B' ≤ B) : OwnX R w B' e X v xs := by
  obtain ⟨S, ⟨cells, ⟨hl, h1⟩, he⟩, h2, h3⟩ := h
  refine ⟨S, ⟨cells, ⟨hl, ?_⟩, he⟩, fun k hk => ⟨Nat.le_trans hB (h2 k hk).1, (h2 k hk).2⟩, h3⟩
  rcases h1 with h | ⟨g, cap, cur, hv, hb, r⟩
  · exact .inl h
  · exact .inr ⟨g, cap, cur, hv, Nat.le_trans hB hb, r⟩
/-- Read. -/
theorem OwnX.sl {A : Option Addr} {n c : Nat} (h : OwnX R w B e X (.slice A n c) xs) : n = xs.length ∧ xs.length ≤ c ∧ c ≤ maxLen ∧ Sl R w (fun k => B ≤ k ∧ k < w.heap.size ∧ ¬ X k) A xs := by
  obtain ⟨S, h1, h2, h3⟩ := h
  exact h1.slice (fun b hb => ⟨(h2 b hb).1, (h2 b hb).2.1, (h2 b hb).2.2.1⟩) (fun g hg hlt => ⟨(h1.lt hg).1, hlt, h3 g hg⟩)
theorem OwnX.done (h : OwnX R w B e X v xs) : ∃ A n cap, v = .slice A n cap ∧ xs.length = n ∧ n ≤ cap ∧ cap ≤ maxLen ∧ Sl R w (fun k => B ≤ k ∧ k < w.heap.size ∧ ¬ X k) A xs := by
  obtain ⟨A, cap, rfl⟩ := h.form
  obtain ⟨_, h1, h2, h3⟩ := h.sl
  exact ⟨A, _, cap, rfl, rfl, h1, h2, h3⟩
/-- A filled row is one's own. -/
theorem OwnX.ofFill {S : Nat → Prop} {g n : Nat} (h : Fill R w S g e n xs) (hn : xs.length = n) (hm : n ≤ maxLen) (hS : ∀ k, S k → B ≤ k ∧ k < w.heap.size ∧ ¬ X k ∧ k ≠ g) (hg : B ≤ g) (hX : ¬ X g) : OwnX R w B e X (.slice (some ⟨g, 0, none⟩) n n) xs := by
  obtain ⟨arr, hb, hsz, he⟩ := h
  refine ⟨S, ⟨_, ⟨by rw [he.1, hn], .inr ⟨g, n, arr, by rw [hn], hg, hb, by omega, hm, by rw [hsz], ?_⟩⟩, he⟩, fun k hk => ⟨(hS k hk).1, (hS k hk).2.1, (hS k hk).2.2.1, fun e => (hS k hk).2.2.2 ?_⟩, fun k hk => ?_⟩
  · rw [hn]
  · have : g = k := by simpa [Value.ownBlock] using e
    exact this.symm
  · have : g = k := by simpa [Value.ownBlock] using hk
    rw [← this]; exact hX
/-- One more behind, as the append law gives it. -/
theorem OwnX.more {ys : List α} {S S2 : Nat → Prop} {v' : Value} {H : Nat} (h : Own R w' B e (fun k => S k ∨ S2 k) v' (xs ++ ys)) (hv : v'.ownBlock = v.ownBlock ∨ v'.ownBlock = some H)
    (h2 : ∀ k, S k ∨ S2 k → B ≤ k ∧ k < H ∧ ¬ X k ∧ v.ownBlock ≠ some k) (h3 : ∀ g, v.ownBlock = some g → ¬ X g) (hX : ¬ X H) (hz : H ≤ w'.heap.size) : OwnX R w' B e X v' (xs ++ ys) := by
  refine ⟨_, h, fun k hk => ?_, fun g hg => ?_⟩
  · obtain ⟨a, b, c, d⟩ := h2 k hk
    refine ⟨a, by omega, c, ?_⟩
    rcases hv with e1 | e1
    · rw [e1]; exact d
    · rw [e1]; intro e2; have := Option.some.inj e2; omega
  · rcases hv with e1 | e1
    · exact h3 g (by rw [← e1]; exact hg)
    · rw [e1] at hg; obtain rfl := Option.some.inj hg; exact hX
end
section
variable {P : Program} {w : World} {α : Type} {R : Rdr α} {ops : Array Oper} {o : Oper} {a : Act} {Q : Exit → Act → World → Prop} {t e : TypeId} {bytes B : Nat} {X : Nat → Prop} {v : Value} {xs ys : List α} {S2 : Nat → Prop} {news : List Value}
/-- 'out = append(out, src...)' at a plain region's list. -/
theorem wpList_append_X {rest : List Oper} (hw : Region.wanted o (yielded ops a.tmps) = true) (s x : Operand) (ho : o.op = .call { callee := .builtin .append, args := #[s, x], argTypes := #[t, t] }) (E : EI P t e R.size bytes) (hs : a.eval s = v) (hown : OwnX R w B e X v xs)
    (A : Option Addr) (m c : Nat) (hx : a.eval x = .slice A m c) (hm : ys.length = m) (hnews : CellsAt w A news) (hys : Elems R w S2 ys news) (hS2 : ∀ k, S2 k → B ≤ k ∧ k < w.heap.size ∧ ¬ X k ∧ v.ownBlock ≠ some k)
    (hX : ¬ X w.heap.size) (hbytes : (xs.length + m) * bytes ≤ 140737488355328) (h63 : xs.length + m ≤ maxLen) (hbase : B ≤ w.heap.size)
    (h : ∀ A' cap w', OwnX R w' B e X (.slice A' (xs.length + m) cap) (xs ++ ys) → w.grownBy w' v.ownBlock → ((Value.slice A' (xs.length + m) cap).ownBlock = v.ownBlock ∨ (Value.slice A' (xs.length + m) cap).ownBlock = some w.heap.size) → Below B w w' → wpList P ops Q rest (a.put o.dst (.slice A' (xs.length + m) cap)) w') :
    wpList P ops Q (o :: rest) a w := by
  obtain ⟨S, h1, h2, h3⟩ := hown
  have h1' : Own R w B e (fun k => S k ∨ S2 k) v xs := h1.keep (fun _ _ => rfl) (fun _ _ => rfl) (fun _ h => .inl h)
  have hall : ∀ k, S k ∨ S2 k → B ≤ k ∧ k < w.heap.size ∧ ¬ X k ∧ v.ownBlock ≠ some k := fun k hk => hk.elim (h2 k) (hS2 k)
  refine wpList_append_own' w hw s x t ho E v hs h1' (fun b hb => ⟨(hall b hb).2.1, (hall b hb).2.2.2⟩) A m c hx hm hnews (hys.keep (fun _ _ => rfl) fun _ h => .inr h) hbytes h63 hbase fun v' w' g1 g2 g3 => ?_
  have hbel : Below B w w' := (Below.refl B w).grown g2 hbase (fun g hg => (h1.lt hg).1)
  obtain ⟨A', cap, rfl⟩ := g1.form
  have hlen : (xs ++ ys).length = xs.length + m := by rw [List.length_append, hm]
  rw [hlen] at g1 g3 ⊢
  exact h A' cap w' (OwnX.more g1 g3 hall h3 hX hbel.size) g2 g3 hbel
/-- .. at a step of a region that draws its order. -/
theorem step_append_X {K : Act → World → Prop} {EE : Prop} (hg : o.guard = none) (s x : Operand) (ho : o.op = .call { callee := .builtin .append, args := #[s, x], argTypes := #[t, t] }) (E : EI P t e R.size bytes) (hs : a.eval s = v) (hown : OwnX R w B e X v xs)
    (A : Option Addr) (m c : Nat) (hx : a.eval x = .slice A m c) (hm : ys.length = m) (hnews : CellsAt w A news) (hys : Elems R w S2 ys news) (hS2 : ∀ k, S2 k → B ≤ k ∧ k < w.heap.size ∧ ¬ X k ∧ v.ownBlock ≠ some k)
    (hX : ¬ X w.heap.size) (hbytes : (xs.length + m) * bytes ≤ 140737488355328) (h63 : xs.length + m ≤ maxLen) (hbase : B ≤ w.heap.size)
    (h : ∀ A' cap w', OwnX R w' B e X (.slice A' (xs.length + m) cap) (xs ++ ys) → w.grownBy w' v.ownBlock → ((Value.slice A' (xs.length + m) cap).ownBlock = v.ownBlock ∨ (Value.slice A' (xs.length + m) cap).ownBlock = some w.heap.size) → Below B w w' → K (a.put o.dst (.slice A' (xs.length + m) cap)) w') :
    if Region.wanted o (yielded ops a.tmps) = true then Oper.wp P o a w K Q else EE := by
  obtain ⟨S, h1, h2, h3⟩ := hown
  have h1' : Own R w B e (fun k => S k ∨ S2 k) v xs := h1.keep (fun _ _ => rfl) (fun _ _ => rfl) (fun _ h => .inl h)
  have hall : ∀ k, S k ∨ S2 k → B ≤ k ∧ k < w.heap.size ∧ ¬ X k ∧ v.ownBlock ≠ some k := fun k hk => hk.elim (h2 k) (hS2 k)
  refine step_append_own' hg s x t ho E v hs h1' (fun b hb => ⟨(hall b hb).2.1, (hall b hb).2.2.2⟩) A m c hx hm hnews (hys.keep (fun _ _ => rfl) fun _ h => .inr h) hbytes h63 hbase fun v' w' g1 g2 g3 => ?_
  have hbel : Below B w w' := (Below.refl B w).grown g2 hbase (fun g hg => (h1.lt hg).1)
  obtain ⟨A', cap, rfl⟩ := g1.form
  have hlen : (xs ++ ys).length = xs.length + m := by rw [List.length_append, hm]
  rw [hlen] at g1 g3 ⊢
  exact h A' cap w' (OwnX.more g1 g3 hall h3 hX hbel.size) g2 g3 hbel
end
end Go.Proofs.Ytponbodiibkopaa
