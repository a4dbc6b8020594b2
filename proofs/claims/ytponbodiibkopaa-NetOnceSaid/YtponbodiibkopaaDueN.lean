/-
  net.Due for any length; what it tells, plain; the reference's Same where two nets are the same.
-/
import Derived.Test.YtponbodiibkopaaSrtJ
import Derived.Test.YtponbodiibkopaaNetAp
namespace Go.Proofs.Ytponbodiibkopaa
open Go.RowKit Go.Sort
set_option linter.unusedVariables false

/-! ### plain -/
theorem ofK_due (k now : Int) (xs : List Fl) : ofK Fl.tm k (dueL Fl.tm now xs) = if k ≤ now then ofK Fl.tm k xs else [] := by
  unfold ofK dueL
  rw [List.filter_filter]
  split
  · refine List.filter_congr fun x _ => ?_
    by_cases h : x.tm = k <;> simp [h]; omega
  · refine List.filter_eq_nil_iff.2 fun x _ => ?_
    simp; omega
theorem ofK_left (k now : Int) (xs : List Fl) : ofK Fl.tm k (leftL Fl.tm now xs) = if k ≤ now then [] else ofK Fl.tm k xs := by
  unfold ofK leftL
  rw [List.filter_filter]
  split
  · refine List.filter_eq_nil_iff.2 fun x _ => ?_
    simp; omega
  · refine List.filter_congr fun x _ => ?_
    by_cases h : x.tm = k <;> simp [h]; omega
theorem left_left {a b : Int} (h : a ≤ b) (xs : List Fl) : leftL Fl.tm b (leftL Fl.tm a xs) = leftL Fl.tm b xs := by
  unfold leftL
  rw [List.filter_filter]
  refine List.filter_congr fun x _ => ?_
  by_cases h1 : x.tm ≤ b
  · simp [h1]
  · have h2 : ¬ x.tm ≤ a := by omega
    simp [h1, h2]
theorem due_left_len (now : Int) (xs : List Fl) : (dueL Fl.tm now xs).length + (leftL Fl.tm now xs).length = xs.length := by
  induction xs with
  | nil => rfl
  | cons x xs ih =>
    unfold dueL leftL at *
    rw [List.filter_cons, List.filter_cons]
    by_cases h : x.tm ≤ now <;> simp [h] <;> omega
/-- What Due tells. -/
structure IsDue (now : Int) (xs ys : List Fl) : Prop where
  sorted : SortedK Fl.tm ys
  same : SameK Fl.tm (dueL Fl.tm now xs) ys
  len : ys.length = (dueL Fl.tm now xs).length
theorem IsDue.mem {now : Int} {xs ys : List Fl} (h : IsDue now xs ys) {y : Fl} (hy : y ∈ ys) : y ∈ xs ∧ y.tm ≤ now := mem_dueL.1 (h.same.symm.mem hy)
theorem IsDue.unique {now : Int} {xs ys zs : List Fl} (h : IsDue now xs ys) (k : IsDue now xs zs) : ys = zs := sorted_unique h.sorted k.sorted (h.same.symm.trans k.same)
theorem steps_pure {a b : Int} (hab : a ≤ b) {xs l k x : List Fl} (h1 : IsDue a xs l) (h2 : IsDue b (leftL Fl.tm a xs) k) (h3 : IsDue b xs x) : x = l ++ k := by
  refine sorted_unique h3.sorted (h1.sorted.append h2.sorted fun y hy z hz => ?_) (h3.same.symm.trans fun c => ?_)
  · have q1 := (h1.mem hy).2
    have q2 := (h2.mem hz).1
    have q3 : ¬ z.tm ≤ a := by unfold leftL at q2; simpa using (List.mem_filter.1 q2).2
    omega
  · rw [ofK_append, ← h1.same c, ← h2.same c, ofK_due, ofK_due, ofK_due, ofK_left]
    by_cases c1 : c ≤ a
    · rw [if_pos c1, if_pos c1, if_pos (show c ≤ b by omega)]; simp
    · rw [if_neg c1, if_neg c1]; simp
theorem dueL_le (now : Int) (xs : List Fl) : (dueL Fl.tm now xs).length ≤ xs.length := List.length_filter_le _ _
theorem leftL_le (now : Int) (xs : List Fl) : (leftL Fl.tm now xs).length ≤ xs.length := List.length_filter_le _ _
theorem NtFit.left {x : Nt} (h : NtFit x) (now : Int) : NtFit ⟨leftL Fl.tm now x.list, x.fates⟩ :=
  ⟨by have h1 := h.list; have h2 := leftL_le now x.list; show ((leftL Fl.tm now x.list).length + 2) * 48 ≤ _; omega, h.fates, fun f hf => h.text f (List.mem_filter.1 hf).1⟩
/-! ### contracts -/
/-- What Due leaves, from what was there on. -/
def DueOf (x : Nt) (now : Int) (w : World) (en : Ending) (w' : World) : Prop :=
  ∃ (A : Option Addr) (n c : Nat) (A2 : Option Addr) (n2 c2 : Nat) (B : Option Addr) (m d : Nat) (ys : List Fl), en = .returned (.tuple #[.slice A n c, .agg #[.slice A2 n2 c2, .slice B m d]]) ∧
    IsDue now x.list ys ∧ ys.length = n ∧ n ≤ c ∧ c ≤ maxLen ∧ Sl Rfl w' (lo w'.heap.size) A ys ∧ NtArg w' A2 n2 c2 B m d ⟨leftL Fl.tm now x.list, x.fates⟩ ∧ Below w.heap.size w w'
theorem due_full (w : World) (x : Nt) (A : Option Addr) (n c : Nat) (B : Option Addr) (m d : Nat) (now : Int) (h : NtArg w A n c B m d x) :
    Calls Try.prog 13 #[.agg #[.slice A n c, .slice B m d], .int .i64 now] w (DueOf x now w) := by
  have hl := h.fit.list
  have hd := dueL_le now x.list
  refine (due_any w x A n c B m d now _ h.at_ h.fit h.md h.dm (sortC_all (dueL Fl.tm now x.list).length (by omega)) (Nat.le_refl _)).mono ?_
  rintro e w' ⟨A, n, c, A2, n2, c2, B, m, d, zs, rfl, hn, hs, h2, h3, h4, hnt, q1, q2, q3, q4, hmd, hdm, hb⟩
  exact ⟨A, n, c, A2, n2, c2, B, m, d, zs, rfl, ⟨h2, h3, h4⟩, hn, q1, q2, hs.more (fun b hb => hb.2), ⟨⟨hnt.list.more (fun b hb => hb.2), hnt.listN, hnt.fates.more (fun b hb => hb.2), hnt.fatesN⟩, h.fit.left now, q3, q4, hmd, hdm⟩, hb⟩
theorem NtArg.below {w w' : World} {A B : Option Addr} {n c m d : Nat} {x : Nt} (h : NtArg w A n c B m d x) (hb : Below w.heap.size w w') : NtArg w' A n c B m d x := ⟨h.at_.below hb hb.size, h.fit, h.nc, h.cm, h.md, h.dm⟩
theorem NtArg.up1 {w : World} {A B : Option Addr} {n c m d : Nat} {x : Nt} (h : NtArg w A n c B m d x) (o : Obj) : NtArg (w.alloc o) A n c B m d x := h.below ((Below.refl _ _).alloc (Nat.le_refl _) _)
theorem sameNet_any (w : World) (x y : Nt) (A : Option Addr) (n c : Nat) (B : Option Addr) (m d : Nat) (A2 : Option Addr) (n2 c2 : Nat) (B2 : Option Addr) (m2 d2 : Nat) (h : NtArg w A n c B m d x) (k : NtArg w A2 n2 c2 B2 m2 d2 y) (hxy : x = y) :
    Calls Try.prog 15 #[.agg #[.slice A n c, .slice B m d], .agg #[.slice A2 n2 c2, .slice B2 m2 d2]] w fun e w' => e = .returned (.bool true) ∧ Below w.heap.size w w' := by
  subst hxy
  have hb0 : RowKit.Below w.heap.size w ((w.alloc (.cells #[.slice A n c, .slice B m d] 25)).alloc (.cells #[.slice A2 n2 c2, .slice B2 m2 d2] 25)) := ((Below.refl _ _).alloc (Nat.le_refl _) _).alloc (by simp) _
  have hB := (Blk.new w 25 #[.slice A n c, .slice B m d] (g := w.heap.size) rfl).alloc (.cells #[.slice A2 n2 c2, .slice B2 m2 d2] 25)
  have hR := Blk.new (w.alloc (.cells #[.slice A n c, .slice B m d] 25)) 25 #[.slice A2 n2 c2, .slice B2 m2 d2] (g := w.heap.size + 1) (by simp)
  have h0 := h.below hb0; have k0 := k.below hb0
  clear h k
  go_enter Try.func15, Try.ntmps15
  go_upto_region 1 with fail
  generalize ((w.alloc (.cells #[.slice A n c, .slice B m d] 25)).alloc (.cells #[.slice A2 n2 c2, .slice B2 m2 d2] 25)) = w0 at *
  have b0 := hB.cell 0 (v := .slice A n c) rfl; have b1 := hB.cell 1 (v := .slice B m d) rfl
  have c0 := hR.cell 0 (v := .slice A2 n2 c2) rfl; have c1 := hR.cell 1 (v := .slice B2 m2 d2) rfl
  have H0 := Lib.hid (And.intro hb0 (And.intro hB (And.intro hR (And.intro h0 k0))))
  clear hb0 hB hR h0 k0
  go_wp2_with (first
    | (go_at_call 16
       go_loud (skip
                refine (sameFlights_any A x.list n c H0.out.2.2.2.1.at_.listN A2 x.list n2 c2 H0.out.2.2.2.2.at_.listN w0 H0.out.2.2.2.1.at_.list H0.out.2.2.2.2.at_.list H0.out.2.2.2.1.n64).mono ?_
                rintro e w1 ⟨rfl, hb1⟩
                rw [decide_eq_true rfl]
                clear b0 b1 c0 c1
                have b1 := (H0.out.2.1.below hb1 H0.out.2.1.lt).cell 1 (v := .slice B m d) rfl
                have c1 := (H0.out.2.2.1.below hb1 H0.out.2.2.1.lt).cell 1 (v := .slice B2 m2 d2) rfl
                have H1 := Lib.hid hb1
                clear hb1))
    | (go_at_call 18
       go_loud (skip
                refine (sameInts_any B x.fates m d H0.out.2.2.2.1.at_.fatesN B2 x.fates m2 d2 H0.out.2.2.2.2.at_.fatesN w1 (H0.out.2.2.2.1.below H1.out).at_.fates (H0.out.2.2.2.2.below H1.out).at_.fates H0.out.2.2.2.1.m64).mono ?_
                rintro e w2 ⟨rfl, hb2⟩
                rw [decide_eq_true rfl]
                have H2 := Lib.hid (H1.out.trans (hb2.mono H1.out.size))
                clear hb2)))
  go_ret
  exact ⟨rfl, H0.out.1.trans (H2.out.mono H0.out.1.size)⟩
end Go.Proofs.Ytponbodiibkopaa
