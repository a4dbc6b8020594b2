/-
  StoreDoes: a store that is a call's own, its rows apart from each other. Plain.
-/
import Derived.Test.YtcmdmmphakclmaaStoreJ
import Derived.Test.YtcmdmmphakclmaaPiece
namespace Go.Proofs.Ytcmdmmphakclmaa
open Go.RowKit Go.Sort
set_option linter.unusedVariables false

/-- A value as it lies in a cell. -/
def Rraw : Rdr Value where
  size := 1
  fit := fun _ _ => True
  rd := fun _ _ v cs => cs = [v] ∧ v.oneCell' = true
  len := by rintro _ _ _ _ ⟨rfl, _⟩; rfl
  one := by
    rintro _ _ _ _ ⟨rfl, h⟩ u hu
    simp only [List.mem_cons, List.not_mem_nil, or_false] at hu
    rw [hu]; exact h
  keep := fun h _ _ => h
  more := fun _ _ => trivial
theorem Own.cells {α : Type} {R : Rdr α} {w : World} {B : Nat} {e : TypeId} {S : Nat → Prop} {A : Option Addr} {n c : Nat} {xs : List α} (h : Own R w B e S (.slice A n c) xs) : ∃ cells, Elems R w S xs cells ∧ CellsAt w A cells := by
  obtain ⟨cells, ⟨hl, h1⟩, he⟩ := h
  refine ⟨cells, he, ?_⟩
  rcases h1 with ⟨hv, hn⟩ | ⟨g, cap, cur, hv, hb, hh, hle, hm, hsz, htake⟩
  · have : cells = [] := List.eq_nil_of_length_eq_zero (by rw [hl, hn]; simp)
    rw [this]; exact CellsAt.nil _ _
  · injection hv with e1 e2 e3
    subst e1
    have hblk : Blk w g e cur := hh
    intro j u hj
    refine ⟨g, 0, rfl, ?_⟩
    rw [Nat.zero_add]
    rw [← htake, List.getElem?_take] at hj
    split at hj
    · exact hblk.cell _ (by simpa using hj)
    · cases hj
theorem Own.addr {α : Type} {R : Rdr α} {w : World} {B : Nat} {e : TypeId} {S : Nat → Prop} {A : Option Addr} {n c : Nat} {xs : List α} (h : Own R w B e S (.slice A n c) xs) (hp : 0 < xs.length) : ∃ g : Nat, A = some ⟨g, 0, none⟩ ∧ B ≤ g ∧ g < w.heap.size ∧ (∀ o, w.frozen? ⟨g, o, none⟩ = false) ∧ n = xs.length ∧ n ≤ c := by
  obtain ⟨_, ⟨_, h1⟩, _⟩ := h
  rcases h1 with ⟨hv, hn⟩ | ⟨g, cap, cur, hv, hb, hh, hle, hm, hsz, htake⟩
  · omega
  · injection hv with e1 e2 e3
    have hblk : Blk w g e cur := hh
    exact ⟨g, e1, hb, hblk.lt, hblk.frozen, e2, by omega⟩
/-- A cell of one's own row is written anew (an element is one cell). -/
theorem Own.put1 {α : Type} {R : Rdr α} (hR : R.size = 1) {w : World} {B : Nat} {e : TypeId} {S : Nat → Prop} {g n c : Nat} {xs : List α} (h : Own R w B e S (.slice (some ⟨g, 0, none⟩) n c) xs) {i : Nat} (hi : i < xs.length) {x : α} {u : Value} (hr : R.rd w S x [u]) (hS : ∀ b, S b → b ≠ g) :
    Own R (w.setCell ⟨g, i, none⟩ u) B e S (.slice (some ⟨g, 0, none⟩) n c) (xs.set i x) := by
  obtain ⟨cells, ⟨hl, h1⟩, he⟩ := h
  rcases h1 with ⟨hv, hn⟩ | ⟨g', cap, cur, hv, hb, hh, hle, hm, hsz, htake⟩
  · omega
  · injection hv with e1 e2 e3
    injection e1 with e1; injection e1 with e1
    subst e1 e2 e3
    have hblk : Blk w g e cur := hh
    have hk : ∀ p : Addr, S p.block → (w.setCell ⟨g, i, none⟩ u).cell? p = w.cell? p := fun p hp => World.cell?_setCell_other w _ p _ (fun e9 => hS _ hp (by rw [← e9]))
    refine ⟨cells.set i u, ⟨by simpa using hl, .inr ⟨g, c, cur.setIfInBounds i u, by simp, hb, hblk.set _ _, by simpa using hle, hm, by simpa using hsz, by rw [← htake]; simp [List.take_set]⟩⟩, ⟨by simpa using he.1, fun j y hj => ?_⟩⟩
    have hcl : cells.length = xs.length := by rw [he.1, hR, Nat.mul_one]
    rw [List.getElem?_set] at hj
    split at hj
    · rename_i hij
      subst hij
      try rw [if_pos hi] at hj
      obtain rfl := Option.some.inj hj
      refine ⟨[u], R.keep hr hk (fun _ h => h), fun q v hq => ?_⟩
      rcases q with _ | q
      · obtain rfl : u = v := by simpa using hq
        rw [hR, Nat.mul_one, Nat.add_zero, List.getElem?_set_self (by omega)]
      · simp at hq
    · rename_i hij
      obtain ⟨cs, hrd, hc⟩ := he.2 j y hj
      refine ⟨cs, R.keep hrd hk (fun _ h => h), fun q v hq => ?_⟩
      have h9 := hc q v hq
      have hcs := R.len hrd
      have hql := (List.getElem?_eq_some_iff.1 hq).1
      rw [hcs, hR] at hql
      obtain rfl : q = 0 := by omega
      rw [hR, Nat.mul_one, Nat.add_zero] at h9 ⊢
      rw [List.getElem?_set_ne hij]
      exact h9
/-- A store that is a call's own: each row bears a role of its own. -/
structure OwnSt (w : World) (W V : Nat) (ρ : Nat → Nat) (s : St) (vL vB : Value) (bvs : List Value) : Prop where
  last : Own (Rint .u64) w W 22 (lo V) vL s.last
  lastR : ∀ g, vL.ownBlock = some g → ρ g = 1
  row : Own Rraw w W 23 (lo V) vB bvs
  rowR : ∀ g, vB.ownBlock = some g → ρ g = 2
  len : bvs.length = s.boxes.length
  box : ∀ i v b, bvs[i]? = some v → s.boxes[i]? = some b → Own Rlt w W 34 (lo V) v b ∧ ∀ g, v.ownBlock = some g → ρ g = 3 + i
theorem OwnSt.frame {w w' : World} {W V : Nat} {ρ ρ' : Nat → Nat} {s : St} {vL vB : Value} {bvs : List Value} (h : OwnSt w W V ρ s vL vB bvs) (hρ : ∀ k, k < w.heap.size → ρ' k = ρ k) (hk : ∀ k, W ≤ k → k < w.heap.size → ρ k ≠ 0 → w'.heap[k]? = w.heap[k]?) (hV : ∀ k, k < V → w'.heap[k]? = w.heap[k]?) : OwnSt w' W V ρ' s vL vB bvs := by
  have hd : ∀ p : Addr, lo V p.block → w'.cell? p = w.cell? p := fun p hp => World.cell?_of_block (hV _ hp)
  have key : ∀ {α : Type} {R : Rdr α} {e : TypeId} {v : Value} {xs : List α} {i : Nat}, i ≠ 0 → Own R w W e (lo V) v xs → (∀ g, v.ownBlock = some g → ρ g = i) → Own R w' W e (lo V) v xs ∧ ∀ g, v.ownBlock = some g → ρ' g = i := fun hi ho hr =>
    ⟨ho.keep (fun g hg => hk g (ho.lt hg).1 (ho.lt hg).2 (by rw [hr g hg]; exact hi)) hd (fun _ h => h), fun g hg => by rw [hρ g (ho.lt hg).2]; exact hr g hg⟩
  exact ⟨(key (by omega) h.last h.lastR).1, (key (by omega) h.last h.lastR).2, (key (by omega) h.row h.rowR).1, (key (by omega) h.row h.rowR).2, h.len, fun i v b h1 h2 => key (by omega) (h.box i v b h1 h2).1 (h.box i v b h1 h2).2⟩
/-- New blocks bear no role. -/
def newR (w : World) (ρ : Nat → Nat) : Nat → Nat := fun k => if k < w.heap.size then ρ k else 0
theorem newR_old {w : World} {ρ : Nat → Nat} {k : Nat} (h : k < w.heap.size) : newR w ρ k = ρ k := if_pos h
theorem OwnSt.up {w w' : World} {W V : Nat} {ρ : Nat → Nat} {s : St} {vL vB : Value} {bvs : List Value} (h : OwnSt w W V ρ s vL vB bvs) (hb : Below w.heap.size w w') (hV : V ≤ w.heap.size) : OwnSt w' W V (newR w ρ) s vL vB bvs :=
  h.frame (fun _ hk => newR_old hk) (fun k _ hk _ => hb.block k hk) (fun k hk => hb.block k (by omega))
theorem OwnSt.set {w : World} {W V P : Nat} {ρ : Nat → Nat} {s : St} {vL vB : Value} {bvs : List Value} (h : OwnSt w W V ρ s vL vB bvs) (hP : ρ P = 0) (hVP : V ≤ P) (i : Nat) (u : Value) : OwnSt (w.setCell ⟨P, i, none⟩ u) W V ρ s vL vB bvs :=
  h.frame (fun _ _ => rfl) (fun k _ _ hk => Below.heap_setCell w ⟨P, i, none⟩ u k (fun e => hk (by rw [show k = P from e]; exact hP))) (fun k hk => Below.heap_setCell w ⟨P, i, none⟩ u k (by show k ≠ P; omega))
/-- A store that is read. -/
def Ap (w : World) (V W : Nat) : Nat → Prop := fun k => k < w.heap.size ∧ (k < V ∨ W ≤ k)
theorem OwnSt.readAp {w : World} {W V : Nat} {ρ : Nat → Nat} {s : St} {A B : Option Addr} {n c m d : Nat} {bvs : List Value} (h : OwnSt w W V ρ s (.slice A n c) (.slice B m d) bvs) (hV : V ≤ w.heap.size) : StAt w (Ap w V W) A n B m s ∧ n ≤ c ∧ c ≤ maxLen ∧ m ≤ d ∧ d ≤ maxLen := by
  obtain ⟨hn, h1, h2, h3⟩ := h.last.slice (S' := Ap w V W) (fun b hb => ⟨Nat.lt_of_lt_of_le hb hV, .inl hb⟩) (fun g hg hlt => ⟨hlt, .inr (h.last.lt hg).1⟩)
  obtain ⟨hm, h4, h5, h6⟩ := h.row.slice (S' := Ap w V W) (fun b hb => ⟨Nat.lt_of_lt_of_le hb hV, .inl hb⟩) (fun g hg hlt => ⟨hlt, .inr (h.row.lt hg).1⟩)
  refine ⟨⟨h3, hn.symm, fun i b hi => ?_, by rw [← h.len, hm]⟩, by omega, h2, by omega, h5⟩
  have hil := (List.getElem?_eq_some_iff.1 hi).1
  have hv := List.getElem?_eq_getElem (l := bvs) (i := i) (by rw [h.len]; exact hil)
  generalize bvs[i]'(by rw [h.len]; exact hil) = v at hv
  obtain ⟨bb, off, cs, hA, hb, ⟨rfl, _⟩, hc⟩ := h6 i v hv
  obtain ⟨ho, _⟩ := h.box i v b hv hi
  obtain ⟨T, cap, rfl⟩ := ho.form
  obtain ⟨_, h7, h8, h9⟩ := ho.slice (S' := Ap w V W) (fun b hb => ⟨Nat.lt_of_lt_of_le hb hV, .inl hb⟩) (fun g hg hlt => ⟨hlt, .inr (ho.lt hg).1⟩)
  exact ⟨bb, off, _, hA, hb, ⟨T, cap, rfl, h7, h8, h9⟩, by simpa [Rsl, Rraw] using hc⟩
theorem OwnSt.read {w : World} {W V : Nat} {ρ : Nat → Nat} {s : St} {A B : Option Addr} {n c m d : Nat} {bvs : List Value} (h : OwnSt w W V ρ s (.slice A n c) (.slice B m d) bvs) (hV : V ≤ w.heap.size) : StAt w (lo w.heap.size) A n B m s ∧ n ≤ c ∧ c ≤ maxLen ∧ m ≤ d ∧ d ≤ maxLen := by
  obtain ⟨hn, h1, h2, h3⟩ := h.last.slice (S' := lo w.heap.size) (fun b hb => Nat.lt_of_lt_of_le hb hV) (fun g _ hlt => hlt)
  obtain ⟨hm, h4, h5, h6⟩ := h.row.slice (S' := lo w.heap.size) (fun b hb => Nat.lt_of_lt_of_le hb hV) (fun g _ hlt => hlt)
  refine ⟨⟨h3, hn.symm, fun i b hi => ?_, by rw [← h.len, hm]⟩, by omega, h2, by omega, h5⟩
  have hil := (List.getElem?_eq_some_iff.1 hi).1
  have hv := List.getElem?_eq_getElem (l := bvs) (i := i) (by rw [h.len]; exact hil)
  generalize bvs[i]'(by rw [h.len]; exact hil) = v at hv
  obtain ⟨bb, off, cs, hA, hb, ⟨rfl, _⟩, hc⟩ := h6 i v hv
  obtain ⟨ho, _⟩ := h.box i v b hv hi
  obtain ⟨T, cap, rfl⟩ := ho.form
  obtain ⟨_, h7, h8, h9⟩ := ho.slice (S' := lo w.heap.size) (fun b hb => Nat.lt_of_lt_of_le hb hV) (fun g _ hlt => hlt)
  exact ⟨bb, off, _, hA, hb, ⟨T, cap, rfl, h7, h8, h9⟩, by simpa [Rsl, Rraw] using hc⟩
/-- One more box behind. -/
theorem OwnSt.more {w w' : World} {W V : Nat} {ρ : Nat → Nat} {s : St} {vL vB v v' : Value} {bvs : List Value} {b : List Lt} (h : OwnSt w W V ρ s vL vB bvs) (hb : Own Rlt w W 34 (lo V) v b) (hbR : ∀ g, v.ownBlock = some g → ρ g = 3 + s.boxes.length) (ho : Own Rraw w' W 23 (lo V) v' (bvs ++ [v])) (hg : w.grownBy w' vB.ownBlock) (hv : v'.ownBlock = vB.ownBlock ∨ v'.ownBlock = some w.heap.size) (hVW : V ≤ W) (hW : W ≤ w.heap.size) :
    ∃ ρ', (∀ k, k < w.heap.size → ρ' k = ρ k) ∧ (∀ k, w.heap.size < k → ρ' k = 0) ∧ OwnSt w' W V ρ' { s with boxes := s.boxes ++ [b] } vL v' (bvs ++ [v]) := by
  have hkk : ∀ k, k < w.heap.size → ρ k ≠ 2 → w'.heap[k]? = w.heap[k]? := fun k hk hne => hg.block k hk (fun e => hne (h.rowR k e.symm))
  have hlow : ∀ k, k < V → w'.heap[k]? = w.heap[k]? := fun k hk => hg.block k (by omega) (fun e => by have := (h.row.lt e.symm).1; omega)
  have hd : ∀ p : Addr, lo V p.block → w'.cell? p = w.cell? p := fun p hp => World.cell?_of_block (hlow _ hp)
  have hρ : ∀ k, k < w.heap.size → (fun k => if k < w.heap.size then ρ k else if k = w.heap.size then 2 else 0) k = ρ k := fun k hk => if_pos hk
  have key : ∀ {α : Type} {R : Rdr α} {e : TypeId} {v : Value} {xs : List α} {i : Nat}, i ≠ 2 → Own R w W e (lo V) v xs → (∀ g, v.ownBlock = some g → ρ g = i) → Own R w' W e (lo V) v xs ∧ ∀ g, v.ownBlock = some g → (fun k => if k < w.heap.size then ρ k else if k = w.heap.size then 2 else 0) g = i := fun hi ho' hr =>
    ⟨ho'.keep (fun g hg' => hkk g (ho'.lt hg').2 (by rw [hr g hg']; exact hi)) hd (fun _ h => h), fun g hg' => by rw [hρ g (ho'.lt hg').2]; exact hr g hg'⟩
  refine ⟨_, hρ, fun k hk => by show (if k < w.heap.size then ρ k else if k = w.heap.size then 2 else 0) = 0; rw [if_neg (by omega), if_neg (by omega)], (key (by omega) h.last h.lastR).1, (key (by omega) h.last h.lastR).2, ho, fun g hg' => ?_, by rw [List.length_append, List.length_append, h.len]; rfl, fun i u c h1 h2 => ?_⟩
  · rcases hv with e9 | e9
    · rw [e9] at hg'
      exact (hρ g (h.row.lt hg').2).trans (h.rowR g hg')
    · rw [e9] at hg'
      obtain rfl := Option.some.inj hg'
      show (if w.heap.size < w.heap.size then ρ w.heap.size else if w.heap.size = w.heap.size then 2 else 0) = 2
      rw [if_neg (by omega), if_pos rfl]
  · rw [List.getElem?_append] at h1
    have h2' : (s.boxes ++ [b])[i]? = some c := h2
    rw [List.getElem?_append] at h2'
    rcases Nat.lt_or_ge i s.boxes.length with hlt | hge
    · rw [if_pos (by rw [h.len]; exact hlt)] at h1
      rw [if_pos hlt] at h2'
      obtain ⟨o1, o2⟩ := h.box i u c h1 h2'
      exact key (by omega) o1 o2
    · rw [if_neg (by rw [h.len]; omega)] at h1
      rw [if_neg (by omega)] at h2'
      rw [h.len] at h1
      rcases hj : i - s.boxes.length with _ | q
      · rw [hj] at h1 h2'
        obtain rfl : v = u := by simpa using h1
        obtain rfl : b = c := by simpa using h2'
        obtain rfl : i = s.boxes.length := by omega
        exact key (by omega) hb hbR
      · rw [hj] at h1; simp at h1
/-- A sender's number is written anew. -/
theorem OwnSt.putLast {w : World} {W V : Nat} {ρ : Nat → Nat} {s : St} {g n c : Nat} {vB : Value} {bvs : List Value} (h : OwnSt w W V ρ s (.slice (some ⟨g, 0, none⟩) n c) vB bvs) (hVW : V ≤ W) {i : Nat} (hi : i < s.last.length) {x : Int} (hx : (Lit.int .u64 x).wf = true) :
    OwnSt (w.setCell ⟨g, i, none⟩ (.int .u64 x)) W V ρ { s with last := s.last.set i x } (.slice (some ⟨g, 0, none⟩) n c) vB bvs := by
  have hg1 : ρ g = 1 := h.lastR g rfl
  have hgW := (h.last.lt (g := g) rfl).1
  have hk : ∀ k, ρ k ≠ 1 → (w.setCell ⟨g, i, none⟩ (.int .u64 x)).heap[k]? = w.heap[k]? := fun k hne => Below.heap_setCell w ⟨g, i, none⟩ _ k (fun e => hne (by rw [show k = g from e]; exact hg1))
  have hd : ∀ p : Addr, lo V p.block → (w.setCell ⟨g, i, none⟩ (.int .u64 x)).cell? p = w.cell? p := fun p hp => World.cell?_of_block (Below.heap_setCell w ⟨g, i, none⟩ _ p.block (by have h9 : p.block < V := hp; show p.block ≠ g; omega))
  have key : ∀ {α : Type} {R : Rdr α} {e : TypeId} {v : Value} {xs : List α} {j : Nat}, j ≠ 1 → Own R w W e (lo V) v xs → (∀ g, v.ownBlock = some g → ρ g = j) → Own R (w.setCell ⟨g, i, none⟩ (.int .u64 x)) W e (lo V) v xs := fun hj ho hr =>
    ho.keep (fun g' hg' => hk g' (by rw [hr g' hg']; exact hj)) hd (fun _ h => h)
  exact ⟨Own.put1 rfl h.last hi ⟨rfl, hx⟩ (fun b hb => by have h9 : b < V := hb; omega), h.lastR, key (by omega) h.row h.rowR, h.rowR, h.len, fun j v b h1 h2 => ⟨key (by omega) (h.box j v b h1 h2).1 (h.box j v b h1 h2).2, (h.box j v b h1 h2).2⟩⟩
/-- A box is written anew: what is read then. -/
theorem OwnSt.putBox {w w' : World} {W V : Nat} {ρ : Nat → Nat} {s : St} {A : Option Addr} {n c g m d : Nat} {bvs : List Value} (h : OwnSt w W V ρ s (.slice A n c) (.slice (some ⟨g, 0, none⟩) m d) bvs) (hVW : V ≤ W) (hW : W ≤ w.heap.size) {i : Nat} (hi : i < s.boxes.length) (hk : ∀ k, k < w.heap.size → (k < V ∨ ρ k ≠ 3 + i) → w'.heap[k]? = w.heap[k]?) (hz : w.heap.size ≤ w'.heap.size)
    {T : Option Addr} {b' : List Lt} {q' c' : Nat} (hb' : Sl Rlt w' (fun k => Ap w' V W k ∧ k ≠ g) T b') (hq : b'.length = q') (hq1 : q' ≤ c') (hq2 : c' ≤ maxLen) :
    StAt (w'.setCell ⟨g, i, none⟩ (.slice T q' c')) (Ap w' V W) A n (some ⟨g, 0, none⟩) m { s with boxes := s.boxes.set i b' } := by
  have hg2 : ρ g = 2 := h.rowR g rfl
  have hgl := h.row.lt (g := g) rfl
  have hset : ∀ p : Addr, p.block ≠ g → (w'.setCell ⟨g, i, none⟩ (.slice T q' c')).cell? p = w'.cell? p := fun p hp => World.cell?_of_block (Below.heap_setCell w' ⟨g, i, none⟩ _ p.block hp)
  obtain ⟨hn, _, _, h3⟩ := h.last.slice (S' := fun k => k < w.heap.size ∧ (k < V ∨ (ρ k = 1 ∧ W ≤ k))) (fun b hb => by have h9 : b < V := hb; exact ⟨by omega, .inl h9⟩) (fun g' hg' hlt => ⟨hlt, .inr ⟨h.lastR g' hg', (h.last.lt hg').1⟩⟩)
  obtain ⟨hm, _, _, h6⟩ := h.row.slice (S' := fun _ => True) (fun _ _ => trivial) (fun _ _ _ => trivial)
  have hcellg : ∀ o v, w.cell? ⟨g, o, none⟩ = some v → w'.cell? ⟨g, o, none⟩ = some v := fun o v hv => (World.cell?_of_block (a := ⟨g, o, none⟩) (hk g hgl.2 (.inr (by rw [hg2]; omega)))).trans hv
  refine ⟨h3.keep (fun p hp => (hset p (by rcases hp.2 with h9 | h9 <;> intro e9 <;> rw [e9] at h9 <;> omega)).trans (World.cell?_of_block (hk _ hp.1 (by rcases hp.2 with h9 | h9 <;> omega)))) (fun k hk' => ⟨Nat.lt_of_lt_of_le hk'.1 hz, by rcases hk'.2 with h9 | h9; exact .inl h9; exact .inr h9.2⟩), hn.symm, fun j b hj => ?_, by rw [List.length_set, ← h.len, hm]⟩
  have hj' : (s.boxes.set i b')[j]? = some b := hj
  have hjl : j < s.boxes.length := by have := (List.getElem?_eq_some_iff.1 hj').1; rwa [List.length_set] at this
  have hv := List.getElem?_eq_getElem (l := bvs) (i := j) (by rw [h.len]; exact hjl)
  generalize bvs[j]'(by rw [h.len]; exact hjl) = v at hv
  obtain ⟨bb, off, cs, hA, _, ⟨rfl, _⟩, hc⟩ := h6 j v hv
  injection hA with hA; injection hA with e1 e2
  subst e1 e2
  have hcell : w.cell? ⟨g, j, none⟩ = some v := by simpa [Rraw] using hc 0 _ rfl
  rw [List.getElem?_set] at hj'
  by_cases hij : i = j
  · subst hij
    rw [if_pos rfl, if_pos hi] at hj'
    obtain rfl := Option.some.inj hj'
    refine ⟨g, 0, [.slice T b'.length c'], rfl, ⟨by omega, .inr hgl.1⟩, ⟨T, c', rfl, by omega, hq2, ?_⟩, fun q u hu => ?_⟩
    · exact hb'.keep (fun p hp => hset p hp.2) (fun k hk' => hk'.1)
    · rcases q with _ | q
      · obtain rfl : Value.slice T b'.length c' = u := by simpa using hu
        have h9 := World.cell?_setCell_same w' ⟨g, i, none⟩ (.slice T q' c') (hcellg i v hcell)
        rw [hq]
        simpa [Rsl] using h9
      · simp at hu
  · rw [if_neg hij] at hj'
    obtain ⟨ho, hr⟩ := h.box j v b hv hj'
    obtain ⟨T2, cap2, rfl⟩ := ho.form
    obtain ⟨_, h7, h8, h9⟩ := ho.slice (S' := fun k => k < w.heap.size ∧ (k < V ∨ (ρ k = 3 + j ∧ W ≤ k))) (fun b hb => by have h9 : b < V := hb; exact ⟨by omega, .inl h9⟩) (fun g' hg' hlt => ⟨hlt, .inr ⟨hr g' hg', (ho.lt hg').1⟩⟩)
    refine ⟨g, 0, [.slice T2 b.length cap2], rfl, ⟨by omega, .inr hgl.1⟩, ⟨T2, cap2, rfl, h7, h8, ?_⟩, fun q u hu => ?_⟩
    · exact h9.keep (fun p hp => (hset p (by rcases hp.2 with h5 | h5 <;> intro e9 <;> rw [e9] at h5 <;> omega)).trans (World.cell?_of_block (hk _ hp.1 (by rcases hp.2 with h5 | h5 <;> omega)))) (fun k hk' => ⟨Nat.lt_of_lt_of_le hk'.1 hz, by rcases hk'.2 with h5 | h5; exact .inl h5; exact .inr h5.2⟩)
    · rcases q with _ | q
      · obtain rfl : Value.slice T2 b.length cap2 = u := by simpa using hu
        have h5 : (w'.setCell ⟨g, i, none⟩ (.slice T q' c')).cell? ⟨g, j, none⟩ = some (.slice T2 b.length cap2) := (World.cell?_setCell_other w' ⟨g, i, none⟩ ⟨g, j, none⟩ _ (fun e9 => by have := congrArg Addr.off e9; simp at this; omega)).trans (hcellg j _ hcell)
        simpa [Rsl] using h5
      · simp at hu
end Go.Proofs.Ytcmdmmphakclmaa
