/-
  What Go data read as, for the proofs of this seat: 'readers' (Rdr) say how a plain Lean value lies in cells; they are kept by whatever leaves their blocks alone. Plain; no function of the program is walked here.
-/
import Derived.Test.YtponbodiibkopaaRows
import Derived.WalkKit
import Derived.WalkSpells
import Derived.ProofKit
import Derived.ChangeOld
import Derived.Below
import Derived.Carry
import Derived.Deep.Slices
import Derived.SizedLaws
import Derived.OpenShut
namespace Go.Proofs.Ytponbodiibkopaa
open Go.ChangeShapes Go.WideShapes Go.ChangeAt Go.RowKit

theorem own : ownKnob Try.prog.godebug = none := by kernel_rfl
theorem laidOut : laidOutB Try.prog = true := by kernel_rfl

/-- How a plain value lies in cells: 'size' of them; 'rd w S a cs': the cells 'cs' read as 'a' in 'w', through blocks of 'S' alone. -/
structure Rdr (α : Type) where
  size : Nat
  fit : Nat → α → Prop
  rd : World → (Nat → Prop) → α → List Value → Prop
  len : ∀ {w S a cs}, rd w S a cs → cs.length = size
  one : ∀ {w S a cs}, rd w S a cs → ∀ v ∈ cs, v.oneCell' = true
  keep : ∀ {w w' S S' a cs}, rd w S a cs → (∀ p : Addr, S p.block → w'.cell? p = w.cell? p) → (∀ b, S b → S' b) → rd w' S' a cs
  more : ∀ {K K' a}, fit K a → K ≤ K' → fit K' a

/-- The blocks below a number. -/
def lo (n : Nat) : Nat → Prop := fun b => b < n

/-! ### numbers, bools -/
def Rint (k : IntKind) : Rdr Int where
  size := 1
  fit := fun _ _ => True
  rd := fun _ _ n cs => cs = [.int k n] ∧ (Lit.int k n).wf = true
  len := by rintro _ _ _ _ ⟨rfl, _⟩; rfl
  one := by rintro _ _ _ _ ⟨rfl, _⟩ v hv; simp at hv; subst hv; rfl
  keep := fun h _ _ => h
  more := fun h _ => h
def Rbool : Rdr Bool where
  size := 1
  fit := fun _ _ => True
  rd := fun _ _ b cs => cs = [.bool b]
  len := by rintro _ _ _ _ rfl; rfl
  one := by rintro _ _ _ _ rfl v hv; simp at hv; subst hv; rfl
  keep := fun h _ _ => h
  more := fun h _ => h
/-- A slice of which nothing is said but that it is one. -/
def Rany : Rdr Unit where
  size := 1
  fit := fun _ _ => True
  rd := fun _ _ _ cs => ∃ A n c, cs = [.slice A n c]
  len := by rintro _ _ _ _ ⟨_, _, _, rfl⟩; rfl
  one := by rintro _ _ _ _ ⟨_, _, _, rfl⟩ v hv; simp at hv; subst hv; rfl
  keep := fun h _ _ => h
  more := fun h _ => h

/-! ### slices -/
/-- The elements of a slice at 'A': element i lies in 'size' cells from i * size on. -/
def Sl {α : Type} (R : Rdr α) (w : World) (S : Nat → Prop) (A : Option Addr) (xs : List α) : Prop :=
  ∀ i x, xs[i]? = some x → ∃ b off cs, A = some ⟨b, off, none⟩ ∧ S b ∧ R.rd w S x cs ∧ ∀ j v, cs[j]? = some v → w.cell? ⟨b, off + i * R.size + j, none⟩ = some v
theorem Sl.keep {α : Type} {R : Rdr α} {w w' : World} {S S' : Nat → Prop} {A : Option Addr} {xs : List α} (h : Sl R w S A xs)
    (hk : ∀ p : Addr, S p.block → w'.cell? p = w.cell? p) (hs : ∀ b, S b → S' b) : Sl R w' S' A xs := by
  intro i x hx
  obtain ⟨b, off, cs, hA, hb, hr, hc⟩ := h i x hx
  exact ⟨b, off, cs, hA, hs _ hb, R.keep hr hk hs, fun j v hj => (hk _ hb).trans (hc j v hj)⟩
theorem Sl.nil {α : Type} (R : Rdr α) (w : World) (S : Nat → Prop) (A : Option Addr) : Sl R w S A [] := fun i x hx => by simp at hx
theorem Sl.below {α : Type} {R : Rdr α} {w w' : World} {A : Option Addr} {xs : List α} {B B' : Nat} (h : Sl R w (lo B) A xs) (hb : Below B w w') (hB : B ≤ B') : Sl R w' (lo B') A xs :=
  h.keep (fun _ hp => hb.cell hp) fun _ hb => Nat.lt_of_lt_of_le hb hB
theorem Rdr.below {α : Type} (R : Rdr α) {w w' : World} {a : α} {cs : List Value} {B B' : Nat} (h : R.rd w (lo B) a cs) (hb : Below B w w') (hB : B ≤ B') : R.rd w' (lo B') a cs :=
  R.keep h (fun _ hp => hb.cell hp) fun _ hb => Nat.lt_of_lt_of_le hb hB
def Rsl {α : Type} (bytes : Nat) (R : Rdr α) : Rdr (List α) where
  size := 1
  fit := fun K xs => xs.length * bytes ≤ K ∧ ∀ x ∈ xs, R.fit K x
  rd := fun w S xs cs => ∃ A cap, cs = [.slice A xs.length cap] ∧ xs.length ≤ cap ∧ cap ≤ maxLen ∧ Sl R w S A xs
  len := by rintro _ _ _ _ ⟨_, _, rfl, _⟩; rfl
  one := by rintro _ _ _ _ ⟨_, _, rfl, _⟩ v hv; simp at hv; subst hv; rfl
  keep := fun ⟨A, cap, h, hl, hc, hs⟩ hk hm => ⟨A, cap, h, hl, hc, hs.keep hk hm⟩
  more := fun ⟨h, hx⟩ hK => ⟨Nat.le_trans h hK, fun x hx' => R.more (hx x hx') hK⟩

/-! ### structs -/
def Rnil : Rdr Unit where
  size := 0
  fit := fun _ _ => True
  rd := fun _ _ _ cs => cs = []
  len := by rintro _ _ _ _ rfl; rfl
  one := by rintro _ _ _ _ rfl v hv; simp at hv
  keep := fun h _ _ => h
  more := fun h _ => h
def Rcons {α β : Type} (R : Rdr α) (Q : Rdr β) : Rdr (α × β) where
  size := R.size + Q.size
  fit := fun K a => R.fit K a.1 ∧ Q.fit K a.2
  rd := fun w S a cs => ∃ c d, cs = c ++ d ∧ R.rd w S a.1 c ∧ Q.rd w S a.2 d
  len := by rintro _ _ _ _ ⟨c, d, rfl, hc, hd⟩; rw [List.length_append, R.len hc, Q.len hd]
  one := by
    rintro _ _ _ _ ⟨c, d, rfl, hc, hd⟩ v hv
    rcases List.mem_append.1 hv with h | h
    · exact R.one hc v h
    · exact Q.one hd v h
  keep := fun ⟨c, d, h, hc, hd⟩ hk hm => ⟨c, d, h, R.keep hc hk hm, Q.keep hd hk hm⟩
  more := fun ⟨h, h'⟩ hK => ⟨R.more h hK, Q.more h' hK⟩
/-- The same, read as something that the fields make up. -/
def Rdr.map {α β : Type} (R : Rdr α) (f : β → α) : Rdr β where
  size := R.size
  fit := fun K b => R.fit K (f b)
  rd := fun w S b cs => R.rd w S (f b) cs
  len := fun h => R.len h
  one := fun h => R.one h
  keep := fun h hk hm => R.keep h hk hm
  more := fun h hK => R.more h hK

/-! ### what the row's own reading gives -/
/-- Whatever the row reads at type t, the reader R reads; what the row's reach bounds, 'fit' bounds. -/
def Opens {α : Type} (P : Program) (t : TypeId) (R : Rdr α) : Prop :=
  P.cellsOf t = R.size ∧ ∀ (H : Type) (enc : TypeId × Value → H) (w : World) (fuel : Nat) (cs : List Value) (x : DataW H × List MemPlace),
    DataW.trod enc P w 0 (fun _ => true) true fuel t cs = some x → ∃ a, R.rd w (lo w.heap.size) a cs ∧ ((∀ n ∈ x.1.weights P t, n ≤ reachBytes) → R.fit reachBytes a)
theorem Opens.int {P : Program} {t : TypeId} {k : IntKind} (ht : P.underlying t = some (.int k)) (hc : P.cellsOf t = 1) : Opens P t (Rint k) :=
  ⟨hc, fun H enc w fuel cs x h => by
    obtain ⟨n, rfl, _, hw⟩ := DataW.trod_int ht h
    exact ⟨n, ⟨rfl, hw⟩, fun _ => trivial⟩⟩
theorem Opens.bool {P : Program} {t : TypeId} (ht : P.underlying t = some .bool) (hc : P.cellsOf t = 1) : Opens P t Rbool :=
  ⟨hc, fun H enc w fuel cs x h => by
    obtain ⟨b, rfl, _⟩ := DataW.trod_bool ht h
    exact ⟨b, rfl, fun _ => trivial⟩⟩
theorem Opens.any {P : Program} {t e : TypeId} (ht : P.underlying t = some (.slice e)) (hc : P.cellsOf t = 1) : Opens P t Rany :=
  ⟨hc, fun H enc w fuel cs x h => by
    rcases DataW.trod_slice ht h with ⟨rfl, _⟩ | ⟨a, l, c, _, _, _, _, rfl, _⟩
    · exact ⟨(), ⟨_, _, _, rfl⟩, fun _ => trivial⟩
    · exact ⟨(), ⟨_, _, _, rfl⟩, fun _ => trivial⟩⟩
theorem cell_lt {w : World} {a : Addr} {v : Value} (h : w.cell? a = some v) : a.block < w.heap.size := by
  unfold World.cell? at h
  rcases Nat.lt_or_ge a.block w.heap.size with hl | hg
  · exact hl
  · rw [Array.getElem?_eq_none hg] at h
    simp at h
theorem weightsAll_mem {H : Type} {P : Program} {e : TypeId} : ∀ {ds : List (DataW H)} {d : DataW H}, d ∈ ds → ∀ n ∈ d.weights P e, n ∈ DataW.weightsAll P e ds
  | [], _, h => by simp at h
  | d' :: r, d, h => fun n hn => by
    rw [DataW.weightsAll, List.mem_append]
    rcases List.mem_cons.1 h with rfl | h
    · exact .inl hn
    · exact .inr (weightsAll_mem h n hn)
theorem choose_list {α : Type} {p : Nat → α → Prop} : ∀ (n : Nat), (∀ i, i < n → ∃ a, p i a) → ∃ xs : List α, xs.length = n ∧ ∀ i x, xs[i]? = some x → p i x
  | 0, _ => ⟨[], rfl, fun i x h => by simp at h⟩
  | n + 1, h => by
    obtain ⟨xs, hl, hx⟩ := choose_list n fun i hi => h i (by omega)
    obtain ⟨a, ha⟩ := h n (by omega)
    refine ⟨xs ++ [a], by simp [hl], fun i x hi => ?_⟩
    rw [List.getElem?_append] at hi
    split at hi
    · exact hx i x hi
    · rename_i hge
      have : i = n := by
        have := (List.getElem?_eq_some_iff.1 hi).1
        simp at this; omega
      subst this
      simp [hl] at hi
      subst hi
      exact ha
theorem addr_add (b off n : Nat) : (Addr.mk b off none).add n = ⟨b, off + n, none⟩ := by
  unfold Addr.add
  split
  · rename_i h; subst h; rfl
  · rfl
theorem Opens.slice {α : Type} {P : Program} {t e : TypeId} {R : Rdr α} {bytes : Nat} (ht : P.underlying t = some (.slice e)) (hc : P.cellsOf t = 1) (hb : P.bytesOf e = bytes) (hsz : 0 < R.size) (he : Opens P e R) : Opens P t (Rsl bytes R) :=
  ⟨hc, fun H enc w fuel cs x h => by
    rcases Go.Deep.open_slice ht h with ⟨rfl, rfl⟩ | ⟨a, l, c, m, n, D, Pl, rfl, _, hl, hm, hmm, rfl, hi⟩
    · refine ⟨[], ⟨none, 0, rfl, Nat.le_refl _, by simp, Sl.nil _ _ _ _⟩, fun _ => ⟨by simp, by simp⟩⟩
    · simp only [if_true] at hmm
      subst hmm
      obtain ⟨hcs, hop⟩ := he
      rw [hcs] at hi
      have hone : ∀ i, i < l → ∃ x, ∃ b off cs, a = ⟨b, off, none⟩ ∧ lo w.heap.size b ∧ R.rd w (lo w.heap.size) x cs ∧ (∀ j v, cs[j]? = some v → w.cell? ⟨b, off + i * R.size + j, none⟩ = some v) ∧
          ((∀ k ∈ (D i).weights P e, k ≤ reachBytes) → R.fit reachBytes x) := by
        intro i hil
        obtain ⟨cs', hcc, htr⟩ := hi i (by omega)
        obtain ⟨x, hrd, hfit⟩ := hop _ _ _ _ _ _ htr
        obtain ⟨_, hcl, hat⟩ := World.cells?_some hcc
        -- the address has no spot: the first element's first cell is there
        obtain ⟨cs0, hcc0, htr0⟩ := hi 0 (by omega)
        obtain ⟨_, hcl0, hat0⟩ := World.cells?_some hcc0
        have h00 : w.cell? a = cs0[0]? := by simpa [Addr.add] using hat0 0 hsz
        have hv0 : cs0[0]? = some (cs0[0]'(by omega)) := List.getElem?_eq_getElem (by omega)
        rw [hv0] at h00
        obtain ⟨b, off, spot⟩ := a
        have hspot : spot = none := World.cell?_spot h00
        subst hspot
        have hlt := cell_lt h00
        refine ⟨x, b, off, cs', rfl, hlt, hrd, fun j v hj => ?_, hfit⟩
        have hjl : j < R.size := by have := (List.getElem?_eq_some_iff.1 hj).1; omega
        have := hat j hjl
        rw [addr_add, addr_add] at this
        rw [this, hj]
      obtain ⟨xs, hxl, hxs⟩ := choose_list l hone
      subst hxl
      refine ⟨xs, ⟨some a, m, rfl, hl, hm, fun i x hx => ?_⟩, fun hw => ⟨?_, fun x hx => ?_⟩⟩
      · obtain ⟨b, off, cs, rfl, h1, h2, h3, _⟩ := hxs i x hx
        exact ⟨b, off, cs, rfl, h1, h2, h3⟩
      · have := hw ((xs.length + (m - xs.length)) * P.bytesOf e) (by simp [DataW.weights, ht])
        rw [hb] at this
        refine Nat.le_trans (Nat.mul_le_mul_right _ ?_) this
        omega
      · obtain ⟨i, hil, rfl⟩ := List.getElem_of_mem hx
        obtain ⟨_, _, _, _, _, _, _, hfit⟩ := hxs i _ (List.getElem?_eq_getElem hil)
        refine hfit fun k hk => hw k ?_
        simp only [DataW.weights, ht, List.mem_cons, List.mem_append]
        exact .inr (.inl (weightsAll_mem (List.mem_map.2 ⟨i, by simpa using hil, rfl⟩) k hk))⟩

/-- The fields of a struct from one on, at their places. -/
def OpensFs {α : Type} (P : Program) : Nat → List Field → Rdr α → Prop := fun off fs R =>
  (fs.map fun f => P.cellsOf f.type).sum = R.size ∧ ∀ (H : Type) (enc : TypeId × Value → H) (w : World) (fuel : Nat) (cs : List Value) (xs : List (DataW H × List MemPlace)),
    cs.length = off + R.size → xs.length = fs.length → (∀ (i : Nat) (f : Field), fs[i]? = some f → DataW.trod enc P w 0 (fun _ => true) true fuel f.type ((cs.drop f.offset).take (P.cellsOf f.type)) = xs[i]?) →
    ∃ a, R.rd w (lo w.heap.size) a (cs.drop off) ∧ ((∀ n ∈ DataW.weightsEach P (fs.map (·.type)) (xs.map (·.1)), n ≤ reachBytes) → R.fit reachBytes a)
theorem OpensFs.nil {P : Program} {off : Nat} : OpensFs P off [] Rnil :=
  ⟨rfl, fun H enc w fuel cs xs hl _ _ => ⟨(), List.drop_eq_nil_of_le (by simpa [Rnil] using Nat.le_of_eq hl), fun _ => trivial⟩⟩
theorem OpensFs.cons {α β : Type} {P : Program} {off : Nat} {f : Field} {fs : List Field} {R : Rdr α} {Q : Rdr β} (ho : f.offset = off) (hf : Opens P f.type R) (hfs : OpensFs P (off + R.size) fs Q) : OpensFs P off (f :: fs) (Rcons R Q) :=
  ⟨by obtain ⟨h, _⟩ := hfs; obtain ⟨h', _⟩ := hf; simp [h, h', Rcons], fun H enc w fuel cs xs hl hxl hx => by
    have hl' : cs.length = off + (R.size + Q.size) := hl
    cases xs with
    | nil => simp at hxl
    | cons x0 xr =>
      have h0 := hx 0 f rfl
      obtain ⟨hc, hop⟩ := hf
      rw [ho, hc] at h0
      obtain ⟨a, hra, hfa⟩ := hop _ _ _ _ _ _ h0
      obtain ⟨_, hops⟩ := hfs
      obtain ⟨b, hrb, hfb⟩ := hops H enc w fuel cs xr (by omega) (by simpa using hxl) fun i g hg => hx (i + 1) g (by simpa using hg)
      refine ⟨(a, b), ⟨_, _, ?_, hra, hrb⟩, fun hw => ⟨hfa fun n hn => hw n ?_, hfb fun n hn => hw n ?_⟩⟩
      · rw [← List.drop_drop, List.take_append_drop]
      · simp only [List.map_cons, DataW.weightsEach, List.mem_append]; exact .inl hn
      · simp only [List.map_cons, DataW.weightsEach, List.mem_append]; exact .inr hn⟩
theorem Opens.struct {α : Type} {P : Program} {t : TypeId} {fs : Array Field} {R : Rdr α} (ht : P.underlying t = some (.struct fs)) (hc : P.cellsOf t = R.size) (h : OpensFs P 0 fs.toList R) : Opens P t R :=
  ⟨hc, fun H enc w fuel cs x hx => by
    obtain ⟨xs, n, _, rfl, hl, hxl, hf⟩ := DataW.trod_struct ht hx
    obtain ⟨_, hop⟩ := h
    obtain ⟨a, hra, hfa⟩ := hop H enc w n cs xs (by omega) (by simpa using hxl) fun i f hi => hf i f (by simpa using hi)
    refine ⟨a, by simpa using hra, fun hw => hfa fun k hk => hw k ?_⟩
    simp only [DataW.weights, ht]
    exact hk⟩
/-- Two-way: what the fields make up. -/
theorem Opens.map {α β : Type} {P : Program} {t : TypeId} {R : Rdr α} (h : Opens P t R) (f : β → α) (g : α → β) (hfg : ∀ a, f (g a) = a) : Opens P t (R.map f) :=
  ⟨h.1, fun H enc w fuel cs x hx => by
    obtain ⟨a, hra, hfa⟩ := h.2 _ _ _ _ _ _ hx
    refine ⟨g a, ?_, fun hw => ?_⟩
    · show R.rd _ _ (f (g a)) _
      rw [hfg]; exact hra
    · show R.fit _ (f (g a))
      rw [hfg]; exact hfa hw⟩
/-- An argument, opened. -/
theorem Opens.arg {α : Type} {P : Program} {t : TypeId} {R : Rdr α} (h : Opens P t R) {H : Type} {enc : TypeId × Value → H} {w : World} {v : Value} {d : DataW H} {ps : List MemPlace}
    (ht : DataW.Trod enc P w 0 (fun _ => true) true t v d ps) : ∃ a, R.rd w (lo w.heap.size) a v.cells.toList ∧ ((∀ n ∈ d.weights P t, n ≤ reachBytes) → R.fit reachBytes a) := by
  obtain ⟨fuel, hf⟩ := ht
  exact h.2 _ _ _ _ _ _ hf
theorem reach_arg {H : Type} {P : Program} {ts : List TypeId} {ds : List (DataW H)} (h : (DataW.weightsEach P ts ds).all (· ≤ reachBytes) = true) {j : Nat} {t : TypeId} {d : DataW H} (ht : ts[j]? = some t) (hd : ds[j]? = some d) :
    ∀ n ∈ d.weights P t, n ≤ reachBytes := fun n hn => by simpa using List.all_eq_true.1 h _ (DataW.weights_mem_each ht hd n hn)
end Go.Proofs.Ytponbodiibkopaa
