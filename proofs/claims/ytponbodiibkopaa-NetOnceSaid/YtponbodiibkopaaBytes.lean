/-
  Bytes: r01.Same tells whether two slices of bytes hold the same; slices.Clone of bytes.
-/
import Derived.Test.YtponbodiibkopaaMem
import Derived.Laws.BytesString
namespace Go.Proofs.Ytponbodiibkopaa
open Go.RowKit Go.Sort

def strOf (xs : List Int) : ByteArray := xs.foldl (fun r n => r.push (UInt8.ofNat n.toNat)) ByteArray.empty
theorem run_loadCells_at {P : Program} {w : World} {A : Option Addr} {a : Addr} (hA : A = some a) {cells : List Value} (h : CellsAt w A cells) : (loadCells a cells.length).run P w = .ok cells.toArray w := by
  have := run_loadCells_list (P := P) w a cells (fun j v hv => by
    obtain ⟨b, off, h1, hc⟩ := h j v hv
    rw [hA] at h1
    injection h1 with h1
    subst h1
    rw [addr_add]; exact hc)
  simpa using this
theorem Elems.ints {k : IntKind} {w : World} {S : Nat → Prop} {xs : List Int} {cells : List Value} (h : Elems (Rint k) w S xs cells) : cells = xs.map (.int k) ∧ ∀ x ∈ xs, (Lit.int k x).wf = true := by
  obtain ⟨hl, hx⟩ := h
  have hl' : cells.length = xs.length := by simpa [Rint] using hl
  refine ⟨List.ext_getElem? fun i => ?_, fun x hm => ?_⟩
  · rcases Nat.lt_or_ge i xs.length with hi | hi
    · obtain ⟨cs, ⟨rfl, _⟩, hc⟩ := hx i _ (List.getElem?_eq_getElem hi)
      have := hc 0 _ rfl
      simp only [Rint, Nat.mul_one, Nat.add_zero] at this
      rw [this, List.getElem?_map, List.getElem?_eq_getElem hi]; rfl
    · rw [List.getElem?_eq_none (by omega), List.getElem?_eq_none (by simpa using hi)]
  · obtain ⟨i, hi, rfl⟩ := List.getElem_of_mem hm
    obtain ⟨cs, ⟨_, hw⟩, _⟩ := hx i _ (List.getElem?_eq_getElem hi)
    exact hw
theorem run_string {w : World} {S : Nat → Prop} {A : Option Addr} {xs : List Int} (h : Sl (Rint .u8) w S A xs) (n c : Nat) (hn : xs.length = n) :
    (convert 26 9 (.slice A n c)).run Try.prog w = .ok (.string (strOf xs)) w := by
  rw [run_convert_bytes_string w _ _ _ A n c Try.underlying26 Try.underlying5 Try.underlying9]
  obtain ⟨cells, he, hc⟩ := h.inRow
  obtain ⟨rfl, _⟩ := he.ints
  subst hn
  rcases A with _ | a
  · have : xs = [] := by
      rcases xs with _ | ⟨x, r⟩
      · rfl
      · obtain ⟨_, _, _, hA, _⟩ := h 0 x rfl; cases hA
    subst this
    rfl
  · have := run_loadCells_at (P := Try.prog) rfl hc
    rw [List.length_map] at this
    exact run_bytesToString w a _ c xs this
theorem strOf_toList (xs : List Int) : ∀ s : ByteArray, (xs.foldl (fun r n => r.push (UInt8.ofNat n.toNat)) s).data.toList = s.data.toList ++ xs.map fun n => UInt8.ofNat n.toNat := by
  induction xs with
  | nil => intro s; simp
  | cons x r ih => intro s; rw [List.foldl_cons, ih]; simp [ByteArray.push]
theorem strOf_inj {xs ys : List Int} (hx : ∀ x ∈ xs, (Lit.int .u8 x).wf = true) (hy : ∀ y ∈ ys, (Lit.int .u8 y).wf = true) (h : strOf xs = strOf ys) : xs = ys := by
  have h1 := congrArg (fun s => s.data.toList) h
  simp only [strOf, strOf_toList] at h1
  simp only [show ByteArray.empty.data.toList = [] from rfl, List.nil_append] at h1
  have key : ∀ (l : List Int), (∀ x ∈ l, (Lit.int .u8 x).wf = true) → (l.map fun n => UInt8.ofNat n.toNat).map (fun u : UInt8 => (u.toNat : Int)) = l := by
    intro l
    induction l with
    | nil => intro _; rfl
    | cons x r ih =>
      intro hl
      have hb := bounds_u8 (hl x (List.mem_cons_self ..))
      rw [List.map_cons, List.map_cons, ih fun y hy => hl y (List.mem_cons_of_mem _ hy)]
      congr 1
      rw [UInt8.toNat_ofNat']
      omega
  rw [← key xs hx, ← key ys hy, h1]
theorem Sl.wf {k : IntKind} {w : World} {S : Nat → Prop} {A : Option Addr} {xs : List Int} (h : Sl (Rint k) w S A xs) : ∀ x ∈ xs, (Lit.int k x).wf = true := by
  obtain ⟨cells, he, _⟩ := h.inRow
  exact he.ints.2

theorem strOf_eq {xs ys : List Int} (hx : ∀ x ∈ xs, (Lit.int .u8 x).wf = true) (hy : ∀ y ∈ ys, (Lit.int .u8 y).wf = true) : ((strOf xs).toList == (strOf ys).toList) = decide (xs = ys) := by
  rw [ByteArray.toList_eq, ByteArray.toList_eq, Bool.eq_iff_iff, beq_iff_eq, decide_eq_true_eq]
  refine ⟨fun h => ?_, fun h => by rw [h]⟩
  have e : strOf xs = strOf ys := by
    have h2 : (strOf xs).data = (strOf ys).data := Array.toList_inj.1 h
    cases hX : strOf xs; cases hY : strOf ys
    rw [hX, hY] at h2
    simpa using h2
  exact strOf_inj hx hy e
theorem same_any (A : Option Addr) (xs : List Int) (n c : Nat) (hn : xs.length = n) (B : Option Addr) (ys : List Int) (m d : Nat) (hm : ys.length = m) (w : World) {S S' : Nat → Prop} (h : Sl (Rint .u8) w S A xs) (k : Sl (Rint .u8) w S' B ys) :
    Calls Try.prog 17 #[.slice A n c, .slice B m d] w fun e w' => e = .returned (.bool (decide (xs = ys))) ∧ w = w' := by
  have h1 := run_string h n c hn
  have h2 := run_string k m d hm
  have HE := Lib.hid (strOf_eq h.wf k.wf)
  clear h k hn hm
  go_enter Try.func17, Try.ntmps17
  go_wp2
  go_ret
  exact ⟨congrArg (fun b => Ending.returned (.bool b)) HE.out, rfl⟩

/-! ### slices.Clone of bytes -/
theorem ei_bytes : EI Try.prog 26 5 1 1 := .mk' (.int .u8 0) Try.underlying26 (by decide) rfl (by kernel_rfl)
/-- What a clone is: a slice of its own that reads the same. -/
def ClonePost {α : Type} (R : Rdr α) (xs : List α) (w : World) (e : Ending) (w' : World) : Prop :=
  ∃ (A : Option Addr) (n cap : Nat), e = .returned (.slice A n cap) ∧ xs.length = n ∧ n ≤ cap ∧ cap ≤ maxLen ∧ Sl R w' (lo w'.heap.size) A xs ∧ Below w.heap.size w w'
/-- A clone of numbers: it lies in new blocks alone. -/
def CloneFlat {α : Type} (R : Rdr α) (xs : List α) (w : World) (e : Ending) (w' : World) : Prop :=
  ∃ (A : Option Addr) (n cap : Nat), e = .returned (.slice A n cap) ∧ xs.length = n ∧ n ≤ cap ∧ cap ≤ maxLen ∧ Sl R w' (mid w.heap.size w'.heap.size) A xs ∧ Below w.heap.size w w'
set_option maxHeartbeats 400000 in
theorem cloneB_any (A : Option Addr) (xs : List _) (n c : Nat) (hn : xs.length = n) (w : World) (h : Sl (Rint .u8) w (lo w.heap.size) A xs) (hz : n * 1 ≤ 140737488355328) :
    Calls Try.prog 21 #[.slice A n c] w (CloneFlat (Rint .u8) xs w) := by
  obtain ⟨news, he, hc⟩ := h.inRow
  have HN := Lib.hid hn; clear hn
  have hnil := Lib.run_eql_slice_nil (P := Try.prog) w 26 5 A n c 0 0 Try.underlying26
  rcases A with _ | a
  · have h0 : xs = [] := by
      rcases xs with _ | ⟨x, r⟩
      · rfl
      · obtain ⟨_, _, _, hA, _⟩ := h 0 x rfl; cases hA
    go_enter Try.func21, Try.ntmps21
    go_wp2
    go_ret
    subst h0
    exact ⟨none, 0, 0, rfl, rfl, Nat.le_refl _, by simp, Sl.nil _ _ _ _, Below.refl _ _⟩
  · clear h
    go_enter Try.func21, Try.ntmps21
    go_wp2_with (at_builtin
                 refine wpList_append_own' _ rfl (.tmp 5) (.tmp 6) _ rfl ei_bytes _ rfl (Own.empty (Rint .u8) (fun _ => False) (Blk.new w _ #[] rfl) (Nat.le_refl _)) (fun _ h => h.elim) (some a) n c rfl HN.out (hc.up ((Below.refl _ _).alloc (Nat.le_refl _) _)) he.flat (by simp; omega) (by simp [maxLen]; omega) (by simp) ?_
                 intro v1 w1 hown1 hg1 hat1
                 have hb1 : Below w.heap.size w w1 := ((Below.refl _ _).alloc (Nat.le_refl _) _).grown hg1 (by simp) (fun g hg => Nat.le_of_eq (Option.some.inj hg))
                 obtain ⟨A1, n1, c1, rfl, hn1, hl1, hm1, hs1⟩ := hown1.doneAt (S' := mid w.heap.size w1.heap.size) (fun _ h => h.elim) (fun g hg hl => ⟨(hown1.lt hg).1, hl⟩)
                 have HN1 := Lib.hid hn1
                 clear hn1 hat1 hg1 hown1)
    go_ret
    exact ⟨A1, n1, c1, rfl, by simpa using HN1.out, hl1, hm1, by simpa using hs1, hb1⟩

end Go.Proofs.Ytponbodiibkopaa
