/-
  Both ends of a link in memory: the way's block, its lists, each in blocks of its own. Plain.
-/
import Derived.Test.YtalieakmjkmbbaaWayP
namespace Go.Proofs.Ytalieakmjkmbbaa
open Go.RowKit Go.Sort
set_option linter.unusedVariables false

/-- The data blocks: those from B on that bear the role 5. -/
def Dat (w : World) (B : Nat) (ρ : Nat → Nat) : Nat → Prop := fun k => B ≤ k ∧ k < w.heap.size ∧ ρ k = 5
/-- A list that is the way's own: its row bears the role i, its elements lie in data blocks. -/
def OwnR {α : Type} (R : Rdr α) (w : World) (B : Nat) (ρ : Nat → Nat) (i : Nat) (e : TypeId) (v : Value) (xs : List α) : Prop :=
  Own R w B e (Dat w B ρ) v xs ∧ ∀ g, v.ownBlock = some g → ρ g = i
theorem OwnR.frame {α : Type} {R : Rdr α} {w w' : World} {B : Nat} {ρ ρ' : Nat → Nat} {i : Nat} {e : TypeId} {v : Value} {xs : List α} (h : OwnR R w B ρ i e v xs) (hρ : ∀ k, k < w.heap.size → ρ' k = ρ k) (hz : w.heap.size ≤ w'.heap.size)
    (hk : ∀ k, B ≤ k → k < w.heap.size → ρ k = i ∨ ρ k = 5 → w'.heap[k]? = w.heap[k]?) : OwnR R w' B ρ' i e v xs :=
  ⟨h.1.keep (fun g hg => hk g (h.1.lt hg).1 (h.1.lt hg).2 (.inl (h.2 g hg))) (fun p hp => World.cell?_of_block (hk _ hp.1 hp.2.1 (.inr hp.2.2))) (fun k hk' => ⟨hk'.1, by have := hk'.2.1; omega, by rw [hρ k hk'.2.1]; exact hk'.2.2⟩), fun g hg => by rw [hρ g (h.1.lt hg).2]; exact h.2 g hg⟩
/-- Roles behind an append: the list's new row bears i, all else that is new is data. -/
def rowRole (w : World) (ρ : Nat → Nat) (i : Nat) (v : Value) : Nat → Nat := fun k => if k < w.heap.size then ρ k else if v.ownBlock = some k then i else 5
theorem rowRole_old {w : World} {ρ : Nat → Nat} {i : Nat} {v : Value} {k : Nat} (h : k < w.heap.size) : rowRole w ρ i v k = ρ k := if_pos h
/-- One's own list with more behind, as the append law gives it. -/
theorem OwnR.more {α : Type} {R : Rdr α} {w w' : World} {B : Nat} {ρ : Nat → Nat} {i : Nat} {e : TypeId} {v v' : Value} {xs : List α} (h : Own R w' B e (Dat w B ρ) v' xs) (hv : v'.ownBlock = v.ownBlock ∨ v'.ownBlock = some w.heap.size) (ho : ∀ g, v.ownBlock = some g → ρ g = i ∧ g < w.heap.size) (hz : w.heap.size ≤ w'.heap.size) :
    OwnR R w' B (rowRole w ρ i v') i e v' xs := by
  refine ⟨h.keep (fun _ _ => rfl) (fun _ _ => rfl) (fun k hk => ⟨hk.1, by have := hk.2.1; omega, by rw [rowRole_old hk.2.1]; exact hk.2.2⟩), fun g hg => ?_⟩
  rcases Nat.lt_or_ge g w.heap.size with hlt | hge
  · rw [rowRole_old hlt]
    rcases hv with e9 | e9
    · exact (ho g (by rw [← e9]; exact hg)).1
    · rw [e9] at hg; have := Option.some.inj hg; omega
  · show (if g < w.heap.size then ρ g else if v'.ownBlock = some g then i else 5) = i
    rw [if_neg (by omega), if_pos hg]
structure WyM (w : World) (B P : Nat) (ρ : Nat → Nat) (s : Wy) (AS : Option Addr) (nS cS : Nat) (AW : Option Addr) (nW cW : Nat) (AH : Option Addr) (nH : Nat) (vI vA vB vT : Value) : Prop where
  out : OutAt w (Dat w B ρ) AS nS AW nW s.o
  c1 : nW ≤ cW
  c2 : cW ≤ maxLen
  c3 : nS ≤ cS
  c4 : cS ≤ maxLen
  held : Sl Rit w (Dat w B ρ) AH s.held
  heldN : s.held.length = nH
  items : OwnR Rit w B ρ 1 38 vI s.items
  acks : OwnR (Rint .i64) w B ρ 2 3 vA s.acks
  sent : OwnR Rbd w B ρ 3 25 vB s.sent
  told : OwnR Rbd w B ρ 4 25 vT s.told
  role : ρ P = 0
  hP : B ≤ P ∧ P < w.heap.size
section
variable {w w' : World} {B P : Nat} {ρ ρ' : Nat → Nat} {s : Wy} {AS : Option Addr} {nS cS : Nat} {AW : Option Addr} {nW cW : Nat} {AH : Option Addr} {nH : Nat} {vI vA vB vT : Value}
theorem Dat.low {k : Nat} (h : Dat w B ρ k) : k < w.heap.size := h.2.1
theorem WyM.frame (h : WyM w B P ρ s AS nS cS AW nW cW AH nH vI vA vB vT) (hρ : ∀ k, k < w.heap.size → ρ' k = ρ k) (hz : w.heap.size ≤ w'.heap.size) (hk : ∀ k, B ≤ k → k < w.heap.size → ρ k ≠ 0 → w'.heap[k]? = w.heap[k]?) : WyM w' B P ρ' s AS nS cS AW nW cW AH nH vI vA vB vT := by
  have hd : ∀ p : Addr, Dat w B ρ p.block → w'.cell? p = w.cell? p := fun p hp => World.cell?_of_block (hk _ hp.1 hp.2.1 (by rw [hp.2.2]; omega))
  have hs : ∀ k, Dat w B ρ k → Dat w' B ρ' k := fun k hk' => ⟨hk'.1, by have := hk'.2.1; omega, by rw [hρ k hk'.2.1]; exact hk'.2.2⟩
  have hr : ∀ i, i ≠ 0 → ∀ k, B ≤ k → k < w.heap.size → ρ k = i ∨ ρ k = 5 → w'.heap[k]? = w.heap[k]? := fun i hi k h1 h2 h3 => hk k h1 h2 (by rcases h3 with h3 | h3 <;> rw [h3] <;> omega)
  exact ⟨h.out.keep hd hs, h.c1, h.c2, h.c3, h.c4, h.held.keep hd hs, h.heldN, h.items.frame hρ hz (hr 1 (by omega)), h.acks.frame hρ hz (hr 2 (by omega)), h.sent.frame hρ hz (hr 3 (by omega)), h.told.frame hρ hz (hr 4 (by omega)), by rw [hρ P h.hP.2]; exact h.role, h.hP.1, by have := h.hP.2; omega⟩
/-- New blocks are data. -/
def newRole (w : World) (ρ : Nat → Nat) : Nat → Nat := fun k => if k < w.heap.size then ρ k else 5
theorem newRole_old {k : Nat} (h : k < w.heap.size) : newRole w ρ k = ρ k := if_pos h
theorem newRole_dat {k : Nat} (hB : B ≤ w.heap.size) (h : mid w.heap.size w'.heap.size k) : Dat w' B (newRole w ρ) k := ⟨by have := h.1; omega, h.2, if_neg (by have := h.1; omega)⟩
theorem WyM.up (h : WyM w B P ρ s AS nS cS AW nW cW AH nH vI vA vB vT) (hb : Below w.heap.size w w') : WyM w' B P (newRole w ρ) s AS nS cS AW nW cW AH nH vI vA vB vT :=
  h.frame (fun _ hk => newRole_old hk) hb.size (fun k _ hk _ => hb.block k hk)
theorem WyM.set (h : WyM w B P ρ s AS nS cS AW nW cW AH nH vI vA vB vT) (i : Nat) (v : Value) : WyM (w.setCell ⟨P, i, none⟩ v) B P ρ s AS nS cS AW nW cW AH nH vI vA vB vT :=
  h.frame (fun _ _ => rfl) (by simp [World.setCell]) (fun k _ _ hk => Below.heap_setCell w ⟨P, i, none⟩ v k (fun e => hk (by rw [show k = P from e]; exact h.role)))
/-- Another end that sends. -/
theorem WyM.newOut (h : WyM w B P ρ s AS nS cS AW nW cW AH nH vI vA vB vT) {A1 : Option Addr} {n1 k1 : Nat} {A2 : Option Addr} {n2 k2 : Nat} {o' : Ot} (ho : OutAt w (Dat w B ρ) A1 n1 A2 n2 o') (h1 : n1 ≤ k1) (h2 : k1 ≤ maxLen) (h3 : n2 ≤ k2) (h4 : k2 ≤ maxLen) : WyM w B P ρ { s with o := o' } A1 n1 k1 A2 n2 k2 AH nH vI vA vB vT :=
  ⟨ho, h3, h4, h1, h2, h.held, h.heldN, h.items, h.acks, h.sent, h.told, h.role, h.hP⟩
/-- Another end that takes. -/
theorem WyM.newIn (h : WyM w B P ρ s AS nS cS AW nW cW AH nH vI vA vB vT) {A1 : Option Addr} {n1 : Nat} {e' : Int} {held' : List It} (ho : Sl Rit w (Dat w B ρ) A1 held') (h1 : held'.length = n1) : WyM w B P ρ { s with e := e', held := held' } AS nS cS AW nW cW A1 n1 vI vA vB vT :=
  ⟨h.out, h.c1, h.c2, h.c3, h.c4, ho, h1, h.items, h.acks, h.sent, h.told, h.role, h.hP⟩
theorem WyM.time (h : WyM w B P ρ s AS nS cS AW nW cW AH nH vI vA vB vT) (now : Int) : WyM w B P ρ { s with now := now } AS nS cS AW nW cW AH nH vI vA vB vT :=
  ⟨h.out, h.c1, h.c2, h.c3, h.c4, h.held, h.heldN, h.items, h.acks, h.sent, h.told, h.role, h.hP⟩
theorem frame_but {v : Value} {i : Nat} (hv : ∀ g, v.ownBlock = some g → ρ g = i) (hg : w.grownBy w' v.ownBlock) : ∀ k, k < w.heap.size → ρ k ≠ i → w'.heap[k]? = w.heap[k]? := fun k hk hne => hg.block k hk (fun e => hne (hv k e.symm))
theorem WyM.moreItems {v' : Value} {l : List It} (h : WyM w B P ρ s AS nS cS AW nW cW AH nH vI vA vB vT) (ho : Own Rit w' B 38 (Dat w B ρ) v' (s.items ++ l)) (hg : w.grownBy w' vI.ownBlock) (hv : v'.ownBlock = vI.ownBlock ∨ v'.ownBlock = some w.heap.size) :
    ∃ ρ', (∀ k, k < w.heap.size → ρ' k = ρ k) ∧ WyM w' B P ρ' { s with items := s.items ++ l } AS nS cS AW nW cW AH nH v' vA vB vT := by
  have hk := frame_but h.items.2 hg
  have hρ : ∀ k, k < w.heap.size → rowRole w ρ 1 v' k = ρ k := fun k hk => rowRole_old hk
  have hz := hg.size
  have hr : ∀ i, i ≠ 1 → ∀ k, B ≤ k → k < w.heap.size → ρ k = i ∨ ρ k = 5 → w'.heap[k]? = w.heap[k]? := fun i hi k h1 h2 h3 => hk k h2 (by rcases h3 with h3 | h3 <;> rw [h3] <;> omega)
  have hd : ∀ p : Addr, Dat w B ρ p.block → w'.cell? p = w.cell? p := fun p hp => World.cell?_of_block (hk _ hp.2.1 (by rw [hp.2.2]; omega))
  have hs : ∀ k, Dat w B ρ k → Dat w' B (rowRole w ρ 1 v') k := fun k hk' => ⟨hk'.1, by have := hk'.2.1; omega, by rw [hρ k hk'.2.1]; exact hk'.2.2⟩
  exact ⟨_, hρ, h.out.keep hd hs, h.c1, h.c2, h.c3, h.c4, h.held.keep hd hs, h.heldN, OwnR.more ho hv (fun g hg' => ⟨h.items.2 g hg', (h.items.1.lt hg').2⟩) hz, h.acks.frame hρ hz (hr 2 (by omega)), h.sent.frame hρ hz (hr 3 (by omega)), h.told.frame hρ hz (hr 4 (by omega)), by rw [hρ P h.hP.2]; exact h.role, h.hP.1, by have := h.hP.2; omega⟩
theorem WyM.moreAcks {v' : Value} {l : List Int} (h : WyM w B P ρ s AS nS cS AW nW cW AH nH vI vA vB vT) (ho : Own (Rint .i64) w' B 3 (Dat w B ρ) v' (s.acks ++ l)) (hg : w.grownBy w' vA.ownBlock) (hv : v'.ownBlock = vA.ownBlock ∨ v'.ownBlock = some w.heap.size) :
    ∃ ρ', (∀ k, k < w.heap.size → ρ' k = ρ k) ∧ WyM w' B P ρ' { s with acks := s.acks ++ l } AS nS cS AW nW cW AH nH vI v' vB vT := by
  have hk := frame_but h.acks.2 hg
  have hρ : ∀ k, k < w.heap.size → rowRole w ρ 2 v' k = ρ k := fun k hk => rowRole_old hk
  have hz := hg.size
  have hr : ∀ i, i ≠ 2 → ∀ k, B ≤ k → k < w.heap.size → ρ k = i ∨ ρ k = 5 → w'.heap[k]? = w.heap[k]? := fun i hi k h1 h2 h3 => hk k h2 (by rcases h3 with h3 | h3 <;> rw [h3] <;> omega)
  have hd : ∀ p : Addr, Dat w B ρ p.block → w'.cell? p = w.cell? p := fun p hp => World.cell?_of_block (hk _ hp.2.1 (by rw [hp.2.2]; omega))
  have hs : ∀ k, Dat w B ρ k → Dat w' B (rowRole w ρ 2 v') k := fun k hk' => ⟨hk'.1, by have := hk'.2.1; omega, by rw [hρ k hk'.2.1]; exact hk'.2.2⟩
  exact ⟨_, hρ, h.out.keep hd hs, h.c1, h.c2, h.c3, h.c4, h.held.keep hd hs, h.heldN, h.items.frame hρ hz (hr 1 (by omega)), OwnR.more ho hv (fun g hg' => ⟨h.acks.2 g hg', (h.acks.1.lt hg').2⟩) hz, h.sent.frame hρ hz (hr 3 (by omega)), h.told.frame hρ hz (hr 4 (by omega)), by rw [hρ P h.hP.2]; exact h.role, h.hP.1, by have := h.hP.2; omega⟩
theorem WyM.moreSent {v' : Value} {l : List (List Int)} (h : WyM w B P ρ s AS nS cS AW nW cW AH nH vI vA vB vT) (ho : Own Rbd w' B 25 (Dat w B ρ) v' (s.sent ++ l)) (hg : w.grownBy w' vB.ownBlock) (hv : v'.ownBlock = vB.ownBlock ∨ v'.ownBlock = some w.heap.size) :
    ∃ ρ', (∀ k, k < w.heap.size → ρ' k = ρ k) ∧ WyM w' B P ρ' { s with sent := s.sent ++ l } AS nS cS AW nW cW AH nH vI vA v' vT := by
  have hk := frame_but h.sent.2 hg
  have hρ : ∀ k, k < w.heap.size → rowRole w ρ 3 v' k = ρ k := fun k hk => rowRole_old hk
  have hz := hg.size
  have hr : ∀ i, i ≠ 3 → ∀ k, B ≤ k → k < w.heap.size → ρ k = i ∨ ρ k = 5 → w'.heap[k]? = w.heap[k]? := fun i hi k h1 h2 h3 => hk k h2 (by rcases h3 with h3 | h3 <;> rw [h3] <;> omega)
  have hd : ∀ p : Addr, Dat w B ρ p.block → w'.cell? p = w.cell? p := fun p hp => World.cell?_of_block (hk _ hp.2.1 (by rw [hp.2.2]; omega))
  have hs : ∀ k, Dat w B ρ k → Dat w' B (rowRole w ρ 3 v') k := fun k hk' => ⟨hk'.1, by have := hk'.2.1; omega, by rw [hρ k hk'.2.1]; exact hk'.2.2⟩
  exact ⟨_, hρ, h.out.keep hd hs, h.c1, h.c2, h.c3, h.c4, h.held.keep hd hs, h.heldN, h.items.frame hρ hz (hr 1 (by omega)), h.acks.frame hρ hz (hr 2 (by omega)), OwnR.more ho hv (fun g hg' => ⟨h.sent.2 g hg', (h.sent.1.lt hg').2⟩) hz, h.told.frame hρ hz (hr 4 (by omega)), by rw [hρ P h.hP.2]; exact h.role, h.hP.1, by have := h.hP.2; omega⟩
theorem WyM.moreTold {v' : Value} {l : List (List Int)} (h : WyM w B P ρ s AS nS cS AW nW cW AH nH vI vA vB vT) (ho : Own Rbd w' B 25 (Dat w B ρ) v' (s.told ++ l)) (hg : w.grownBy w' vT.ownBlock) (hv : v'.ownBlock = vT.ownBlock ∨ v'.ownBlock = some w.heap.size) :
    ∃ ρ', (∀ k, k < w.heap.size → ρ' k = ρ k) ∧ WyM w' B P ρ' { s with told := s.told ++ l } AS nS cS AW nW cW AH nH vI vA vB v' := by
  have hk := frame_but h.told.2 hg
  have hρ : ∀ k, k < w.heap.size → rowRole w ρ 4 v' k = ρ k := fun k hk => rowRole_old hk
  have hz := hg.size
  have hr : ∀ i, i ≠ 4 → ∀ k, B ≤ k → k < w.heap.size → ρ k = i ∨ ρ k = 5 → w'.heap[k]? = w.heap[k]? := fun i hi k h1 h2 h3 => hk k h2 (by rcases h3 with h3 | h3 <;> rw [h3] <;> omega)
  have hd : ∀ p : Addr, Dat w B ρ p.block → w'.cell? p = w.cell? p := fun p hp => World.cell?_of_block (hk _ hp.2.1 (by rw [hp.2.2]; omega))
  have hs : ∀ k, Dat w B ρ k → Dat w' B (rowRole w ρ 4 v') k := fun k hk' => ⟨hk'.1, by have := hk'.2.1; omega, by rw [hρ k hk'.2.1]; exact hk'.2.2⟩
  exact ⟨_, hρ, h.out.keep hd hs, h.c1, h.c2, h.c3, h.c4, h.held.keep hd hs, h.heldN, h.items.frame hρ hz (hr 1 (by omega)), h.acks.frame hρ hz (hr 2 (by omega)), h.sent.frame hρ hz (hr 3 (by omega)), OwnR.more ho hv (fun g hg' => ⟨h.told.2 g hg', (h.told.1.lt hg').2⟩) hz, by rw [hρ P h.hP.2]; exact h.role, h.hP.1, by have := h.hP.2; omega⟩
/-- What an append onto one of the way's lists leaves of the way's own block, and below B. -/
theorem WyM.grownP {v : Value} {i : Nat} (h : WyM w B P ρ s AS nS cS AW nW cW AH nH vI vA vB vT) (hv : ∀ g, v.ownBlock = some g → ρ g = i) (hi : i ≠ 0) (hg : w.grownBy w' v.ownBlock) : w'.heap[P]? = w.heap[P]? :=
  frame_but hv hg P h.hP.2 (by rw [h.role]; omega)
end
end Go.Proofs.Ytalieakmjkmbbaa
