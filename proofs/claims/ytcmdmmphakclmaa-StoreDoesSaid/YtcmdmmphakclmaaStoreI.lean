/-
  New, Put, Pop: one contract each; live is true.
-/
import Derived.Test.YtcmdmmphakclmaaStoreH
namespace Go.Proofs.Ytcmdmmphakclmaa
open Go.RowKit Go.Sort
set_option linter.unusedVariables false

/-- A letter as an argument. -/
structure LtAt (w : World) (S : Nat → Prop) (T : Option Addr) (n c : Nat) (l : Lt) : Prop where
  fr : (Lit.int .i64 l.fr).wf = true
  to_ : (Lit.int .i64 l.to).wf = true
  sq : (Lit.int .u64 l.sq).wf = true
  len : l.text.length = n
  le : n ≤ c
  cap : c ≤ maxLen
  text : Sl (Rint .u8) w S T l.text
theorem LtAt.below {w w' : World} {B0 B1 : Nat} {T : Option Addr} {n c : Nat} {l : Lt} (h : LtAt w (lo B0) T n c l) (hb : Below B0 w w') (hB : B0 ≤ B1) : LtAt w' (lo B1) T n c l :=
  ⟨h.fr, h.to_, h.sq, h.len, h.le, h.cap, h.text.below hb hB⟩
theorem keep_bounds {cv : Bool} {fr tt sq : Int} {n : Nat} (h : keepL cv fr tt sq n = true) : cv = false ∧ 0 ≤ fr ∧ fr ≤ 7 ∧ 0 ≤ tt ∧ tt ≤ 7 ∧ 1 ≤ sq ∧ n ≤ 64 := by
  unfold keepL errLet at h
  cases cv with
  | true => simp at h
  | false =>
    simp only [Bool.not_false, Bool.true_and, decide_eq_true_eq, Bool.false_eq_true, if_false] at h
    split at h
    · omega
    · split at h
      · omega
      · exact ⟨rfl, by omega, by omega, by omega, by omega, by omega, by omega⟩
theorem check_lens {s : St} (h : checkB s = true) : 1 ≤ s.last.length ∧ s.last.length ≤ 8 ∧ s.boxes.length = s.last.length := by
  unfold checkB at h
  simp only [Bool.and_eq_true, decide_eq_true_eq] at h
  exact h.1
def putR (s : St) (l : Lt) : St × Int × Int := if checkB s = true then ((putS s l).1, (putS s l).2, 0) else (noSt, 0, 1)
theorem ints_wf {k : IntKind} {w : World} {S : Nat → Prop} {A : Option Addr} {xs : List Int} (h : Sl (Rint k) w S A xs) {i : Nat} {x : Int} (hx : xs[i]? = some x) : (Lit.int k x).wf = true := by
  obtain ⟨_, _, _, _, h, _⟩ := h.int hx; exact h
theorem put_any (A : Option Addr) (n cap : Nat) (B : Option Addr) (m cap' : Nat) (s : St) (l : Lt) (T : Option Addr) (tn tc : Nat) (w : World) (hs : StAt w (lo w.heap.size) A n B m s) (hf : StFit 140737488355272 s) (hl : LtAt w (lo w.heap.size) T tn tc l) :
    Calls Try.prog 11 #[.agg #[.slice A n cap, .slice B m cap'], .agg #[.bool l.cover, .int .i64 l.fr, .int .i64 l.to, .int .u64 l.sq, .slice T tn tc]] w (StoreRet (putR s l).1 (putR s l).2.1 (putR s l).2.2 w) := by
  have hsq := bounds_u64 hl.sq
  have hf' : StFit 140737488355328 s := ⟨by have := hf.last; omega, by have := hf.boxes; omega, fun b hb => by have := hf.box b hb; omega, fun b hb l hl => by have := hf.text b hb l hl; omega⟩
  by_cases hc : checkB s = true
  rotate_left
  · have e : putR s l = (noSt, 0, 1) := by unfold putR; rw [if_neg hc]
    rw [e]
    exact put_bad A n cap B m cap' s l T tn tc w hs (by simpa using hc)
  obtain ⟨hp1, hp8, hpm⟩ := check_lens hc
  have hn := hs.lastN; have hm := hs.boxesN
  have e : putR s l = ((putS s l).1, (putS s l).2, 0) := by unfold putR; rw [if_pos hc]
  rw [e]
  have hkl : keepLt l = keepL l.cover l.fr l.to l.sq tn := by unfold keepLt; rw [hl.len]
  by_cases hk : keepLt l = true
  rotate_left
  · have e2 : putS s l = (s, 0) := by unfold putS; rw [if_neg (fun h => hk h.1)]
    rw [e2]
    exact put_unkept A n cap B m cap' s l T tn tc w hs hf' hc hp1 hsq.1 (by rw [← hkl]; simpa using hk)
  have hk' : keepL l.cover l.fr l.to l.sq tn = true := hkl.symm.trans hk
  obtain ⟨hcv, hf0, hf7, ht0, ht7, hq1, ht64⟩ := keep_bounds hk'
  obtain ⟨f, hff⟩ : ∃ f : Nat, l.fr = f := ⟨l.fr.toNat, by omega⟩
  obtain ⟨t, htt⟩ : ∃ t : Nat, l.to = t := ⟨l.to.toNat, by omega⟩
  rw [hcv, hff, htt] at hk'
  rw [hcv, hff, htt]
  by_cases hfn : f < n
  rotate_left
  · have e2 : putS s l = (s, 0) := by unfold putS; rw [if_neg (fun h => by omega)]
    rw [e2]
    exact put_far1 A n cap B m cap' s f t l.sq T tn tc w hs hf' hc hp1 hsq.1 hk' (decide_eq_true (by omega))
  by_cases htn : t < n
  rotate_left
  · have e2 : putS s l = (s, 0) := by unfold putS; rw [if_neg (fun h => by omega)]
    rw [e2]
    exact put_far2 A n cap B m cap' s f t l.sq T tn tc w hs hf' hc hp1 hsq.1 hk' (decide_eq_false (by omega)) (decide_eq_true (by omega))
  have hx := List.getElem?_eq_getElem (l := s.last) (i := f) (by omega)
  generalize s.last[f]'(by omega) = x at hx
  have hlo : lastOf s l.fr = x := by unfold lastOf; rw [hff, Int.toNat_natCast, List.getD_eq_getElem?_getD, hx]; rfl
  have hA := hs.last.int hx
  obtain ⟨b, off, rfl, _, hxw, _⟩ := hA
  have hxb := bounds_u64 hxw
  have hyes : keepLt l = true ∧ l.fr < s.last.length ∧ l.to < s.last.length := ⟨hk, by omega, by omega⟩
  by_cases hle : l.sq ≤ x
  · have e2 : putS s l = (s, 1) := by unfold putS; rw [if_pos hyes, hlo, if_pos hle]
    rw [e2]
    exact put_old _ n cap B m cap' s f t l.sq T tn tc w hs hf' hc hp1 hsq.1 hk' (decide_eq_false (by omega)) (decide_eq_false (by omega)) hfn htn x hx (decide_eq_true hle)
  by_cases hg : l.sq - x = 1
  · have e2 : putS s l = (putIn s l, 1) := by unfold putS; rw [if_pos hyes, hlo, if_neg hle, if_pos hg]
    rw [e2]
    have hbx := List.getElem?_eq_getElem (l := s.boxes) (i := t) (by omega)
    generalize s.boxes[t]'(by omega) = box at hbx
    exact put_new _ n cap B m cap' s f t l.sq T tn tc w hs hf' hc hp1 hsq.1 hk' (decide_eq_false (by omega)) (decide_eq_false (by omega)) hfn htn x hx (by omega) (by omega) (decide_eq_false hle) (by simp [hg]) box box.length hbx rfl (by have := hf.box _ (List.mem_of_getElem? hbx); omega)
      l hcv hff htt rfl hl.len hl.le hl.cap hl.text hl.sq (by omega) (by omega) ht64
  · have e2 : putS s l = (s, 0) := by unfold putS; rw [if_pos hyes, hlo, if_neg hle, if_neg hg]
    rw [e2]
    exact put_gap _ n cap B m cap' s f t l.sq T tn tc w hs hf' hc hp1 hsq.1 hk' (decide_eq_false (by omega)) (decide_eq_false (by omega)) hfn htn x hx (by omega) (by omega) (decide_eq_false hle) (by simpa using hg)

/-! ### Pop -/
def popB (s : St) (k : Nat) : List Lt → St × Lt × Int
  | [] => (noSt, noLt, 6)
  | l :: rest => (popIn s k rest, l, 0)
def popR (s : St) (c : Int) : St × Lt × Int :=
  if checkB s = true then
    if c < 0 ∨ (s.boxes.length : Int) ≤ c then (noSt, noLt, 1) else popB s c.toNat (boxOf s c)
  else (noSt, noLt, 1)
theorem pop_any (A : Option Addr) (n cap : Nat) (B : Option Addr) (m cap' : Nat) (s : St) (c : Int) (w : World) (hs : StAt w (lo w.heap.size) A n B m s) (hf : StFit 140737488355328 s) :
    Calls Try.prog 20 #[.agg #[.slice A n cap, .slice B m cap'], .int .i64 c] w (PopRet (popR s c).1 (popR s c).2.1 (popR s c).2.2 w) := by
  by_cases hc : checkB s = true
  rotate_left
  · have e : popR s c = (noSt, noLt, 1) := by unfold popR; rw [if_neg hc]
    rw [e]
    exact pop_bad A n cap B m cap' s c w hs (by simpa using hc)
  obtain ⟨hp1, hp8, hpm⟩ := check_lens hc
  have hn := hs.lastN; have hm := hs.boxesN
  by_cases h0 : c < 0
  · have e : popR s c = (noSt, noLt, 1) := by unfold popR; rw [if_pos hc, if_pos (Or.inl h0)]
    rw [e]
    exact pop_out1 A n cap B m cap' s c w hs hc (decide_eq_true h0)
  obtain ⟨k, rfl⟩ : ∃ k : Nat, c = k := ⟨c.toNat, by omega⟩
  by_cases h1 : m ≤ k
  · have e : popR s (k : Int) = (noSt, noLt, 1) := by unfold popR; rw [if_pos hc, if_pos (Or.inr (by omega))]
    rw [e]
    exact pop_out2 A n cap B m cap' s k w hs hc (decide_eq_true h1)
  have hbx := List.getElem?_eq_getElem (l := s.boxes) (i := k) (by omega)
  generalize s.boxes[k]'(by omega) = box at hbx
  have hbo : boxOf s (k : Int) = box := by unfold boxOf; rw [Int.toNat_natCast, List.getD_eq_getElem?_getD, hbx]; rfl
  obtain ⟨b, off, T, q, qc, rfl, hbl, hq, _, _, hT, x0⟩ := hs.boxes.sub hbx
  have e : popR s (k : Int) = popB s k box := by
    unfold popR; rw [if_pos hc, if_neg (by omega), hbo, Int.toNat_natCast]
  rw [e]
  rcases box with _ | ⟨l, rest⟩
  · obtain rfl : q = 0 := by simpa using hq.symm
    exact pop_none A n cap b off m cap' s k w hs hc (by omega) (decide_eq_false h1) T qc hbl x0
  · exact pop_ok A n cap b off m cap' s k w hs hf hp1 hc (by omega) (decide_eq_false h1) T q qc hbl x0 l rest hbx hq (by simp at hq; simp; omega) (by omega)

/-! ### New -/
theorem new_any (c sq : Int) (hc : (Lit.int .i64 c).wf = true) (hq : (Lit.int .u64 sq).wf = true) (w : World) : Calls Try.prog 10 #[.int .i64 c, .int .u64 sq] w (NewRet (newS c sq).1 (newS c sq).2 w) := by
  have hb := bounds_u64 hq
  by_cases h : 1 ≤ c ∧ c ≤ 8 ∧ sq ≠ 0
  · have e : newS c sq = ({ last := List.replicate c.toNat (sq - 1), boxes := List.replicate c.toNat [] }, 0) := by unfold newS; rw [if_pos h]
    rw [e]
    obtain ⟨k, rfl⟩ : ∃ k : Nat, c = k := ⟨c.toNat, by omega⟩
    rw [Int.toNat_natCast]
    exact new_ok k sq (by omega) (by omega) (by omega) hb.2 (decide_eq_false (by omega)) (decide_eq_false (by omega)) (by simp [h.2.2]) w
  · have e : newS c sq = (noSt, 1) := by unfold newS; rw [if_neg h]
    rw [e]
    exact new_bad c sq h w

/-! ### what stays small -/
theorem StFit.mono {K K' : Nat} {s : St} (h : StFit K s) (hK : K ≤ K') : StFit K' s :=
  ⟨Nat.le_trans h.last hK, Nat.le_trans h.boxes hK, fun b hb => Nat.le_trans (h.box b hb) hK, fun b hb l hl => Nat.le_trans (h.text b hb l hl) hK⟩
theorem StFit.none (K : Nat) : StFit K noSt := ⟨by simp [noSt], by simp [noSt], fun b hb => by simp [noSt] at hb, fun b hb => by simp [noSt] at hb⟩
theorem StFit.putIn {K : Nat} {s : St} {l : Lt} (h : StFit K s) (hl : l.text.length ≤ K + 56) (ht : l.to.toNat < s.boxes.length) : StFit (K + 56) (putIn s l) := by
  have hmem : boxOf s l.to ∈ s.boxes := by
    unfold boxOf; rw [List.getD_eq_getElem?_getD, List.getElem?_eq_getElem ht]; exact List.getElem_mem ht
  refine ⟨by have := h.last; simp [Proofs.Ytcmdmmphakclmaa.putIn]; omega, by have := h.boxes; simp [Proofs.Ytcmdmmphakclmaa.putIn]; omega, fun b hb => ?_, fun b hb l' hl' => ?_⟩
  · rcases List.mem_or_eq_of_mem_set hb with hb | rfl
    · have := h.box b hb; omega
    · have := h.box _ hmem; rw [List.length_append, List.length_singleton]; omega
  · rcases List.mem_or_eq_of_mem_set hb with hb | rfl
    · have := h.text b hb l' hl'; omega
    · rcases List.mem_append.1 hl' with hl' | hl'
      · have := h.text _ hmem l' hl'; omega
      · obtain rfl := List.mem_singleton.1 hl'; exact hl
theorem StFit.putR {K : Nat} {s : St} {l : Lt} (h : StFit K s) (hl : l.text.length ≤ K + 56) : StFit (K + 56) (putR s l).1 := by
  unfold Proofs.Ytcmdmmphakclmaa.putR
  split
  · rename_i hc
    obtain ⟨hp1, hp8, hpm⟩ := check_lens hc
    show StFit _ (putS s l).1
    unfold putS
    split
    · rename_i hy
      obtain ⟨_, _, _, h0, _⟩ := keep_bounds hy.1
      split
      · exact h.mono (by omega)
      · split
        · exact h.putIn hl (by omega)
        · exact h.mono (by omega)
    · exact h.mono (by omega)
  · exact StFit.none _
theorem StFit.popR {K : Nat} {s : St} {c : Int} (h : StFit K s) : StFit K (popR s c).1 := by
  unfold Proofs.Ytcmdmmphakclmaa.popR
  split
  · split
    · exact StFit.none _
    · rename_i hc
      generalize hbo : boxOf s c = box
      rcases box with _ | ⟨l, rest⟩
      · exact StFit.none _
      · show StFit K (popIn s c.toNat rest)
        have hmem : ∀ y ∈ rest, ∀ K', (∀ b ∈ s.boxes, ∀ l ∈ b, l.text.length ≤ K') → y.text.length ≤ K' := fun y hy K' hK => by
          have hm : (l :: rest) ∈ s.boxes := by
            rw [← hbo]; unfold boxOf; rw [List.getD_eq_getElem?_getD, List.getElem?_eq_getElem (show c.toNat < s.boxes.length by omega)]; exact List.getElem_mem _
          exact hK _ hm _ (List.mem_cons_of_mem _ hy)
        have hlen : ∀ K', (∀ b ∈ s.boxes, b.length * 56 ≤ K') → rest.length * 56 ≤ K' := fun K' hK => by
          have hm : (l :: rest) ∈ s.boxes := by
            rw [← hbo]; unfold boxOf; rw [List.getD_eq_getElem?_getD, List.getElem?_eq_getElem (show c.toNat < s.boxes.length by omega)]; exact List.getElem_mem _
          have := hK _ hm
          simp at this; omega
        refine ⟨h.last, by simp [popIn]; exact h.boxes, fun b hb => ?_, fun b hb l' hl' => ?_⟩
        · rcases List.mem_or_eq_of_mem_set hb with hb | rfl
          · exact h.box b hb
          · exact hlen K h.box
        · rcases List.mem_or_eq_of_mem_set hb with hb | rfl
          · exact h.text b hb l' hl'
          · exact hmem l' hl' K h.text
  · exact StFit.none _
end Go.Proofs.Ytcmdmmphakclmaa
