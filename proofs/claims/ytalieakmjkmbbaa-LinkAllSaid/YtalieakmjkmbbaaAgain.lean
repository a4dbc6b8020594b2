/-
  Again: what it comes to, its loop, the walk.
-/
import Derived.Test.YtalieakmjkmbbaaSend
namespace Go.Proofs.Ytalieakmjkmbbaa
open Go.RowKit Go.Sort
set_option linter.unusedVariables false

def againIt (aft now : Int) (x : It) : It := if aft ≤ now - x.tm then ⟨x.sq, x.body, now⟩ else x
def againTold (aft now : Int) (xs : List It) : List It := (xs.filter (fun x => decide (aft ≤ now - x.tm))).map (fun x => ⟨x.sq, x.body, now⟩)
def againP (o : Ot) (aft now : Int) : Ot × List It := (⟨o.next, o.sent.map (againIt aft now), o.wait⟩, againTold aft now o.sent)
def againL (aft now : Int) (xs : List It) (k : Nat) : List It := (xs.take k).map (againIt aft now) ++ xs.drop k
theorem againL_get {aft now : Int} {xs : List It} {k : Nat} {x : It} (h : xs[k]? = some x) : (againL aft now xs k)[k]? = some x := by
  have hk := (List.getElem?_eq_some_iff.1 h).1
  unfold againL
  rw [List.getElem?_append_right (by simp; omega)]
  simp only [List.length_map, List.length_take, Nat.min_eq_left (Nat.le_of_lt hk), Nat.sub_self, List.getElem?_drop, Nat.add_zero, h]
theorem againL_succ {aft now : Int} {xs : List It} {k : Nat} {x : It} (h : xs[k]? = some x) : againL aft now xs (k + 1) = (againL aft now xs k).set k (againIt aft now x) := by
  have hk := (List.getElem?_eq_some_iff.1 h).1
  have hd : xs.drop k = x :: xs.drop (k + 1) := by
    rw [List.drop_eq_getElem_cons hk]; rw [(List.getElem?_eq_some_iff.1 h).2]
  have hl : ((xs.take k).map (againIt aft now)).length = k := by simp; omega
  unfold againL
  rw [take_snoc' h, hd, List.set_append_right _ _ (by omega), hl, Nat.sub_self, List.set_cons_zero]
  simp
theorem againL_id {aft now : Int} {xs : List It} {k : Nat} {x : It} (h : xs[k]? = some x) (hn : againIt aft now x = x) : againL aft now xs (k + 1) = againL aft now xs k := by
  rw [againL_succ h, hn]
  have h1 := againL_get (aft := aft) (now := now) h
  have hk := (List.getElem?_eq_some_iff.1 h1)
  rw [← hk.2]; exact List.set_getElem_self hk.1
theorem againTold_succ {aft now : Int} {xs : List It} {k : Nat} {x : It} (h : xs[k]? = some x) : againTold aft now (xs.take (k + 1)) = againTold aft now (xs.take k) ++ (if aft ≤ now - x.tm then [⟨x.sq, x.body, now⟩] else []) := by
  unfold againTold
  rw [filter_take (p := fun x : It => decide (aft ≤ now - x.tm)) h, List.map_append]
  congr 1
  by_cases hc : aft ≤ now - x.tm <;> simp [hc]
theorem againTold_len {aft now : Int} {xs : List It} {k : Nat} : (againTold aft now (xs.take k)).length ≤ k := by
  unfold againTold; rw [List.length_map]; exact filter_len _ _ _
/-- An item of one's own row is given another time. -/
theorem Elems.setTm {w : World} {S : Nat → Prop} {xs : List It} {cells : List Value} (h : Elems Rit w S xs cells) {i : Nat} {x : It} (hx : xs[i]? = some x) {tm : Int} (ht : (Lit.int .i64 tm).wf = true) : Elems Rit w S (xs.set i ⟨x.sq, x.body, tm⟩) (cells.set (i * 3 + 2) (.int .i64 tm)) := by
  have hi := (List.getElem?_eq_some_iff.1 hx).1
  have hl : cells.length = xs.length * 3 := h.1
  refine ⟨by simpa using h.1, fun k y hy => ?_⟩
  by_cases hk : i = k
  · subst hk
    rw [List.getElem?_set_self hi] at hy
    obtain rfl := Option.some.inj hy
    obtain ⟨cs, ⟨A, cap, rfl, h1, h2, h3, h4, h5⟩, hc⟩ := h.2 i x hx
    refine ⟨_, ⟨A, cap, rfl, h1, ht, h3, h4, h5⟩, fun j v hj => ?_⟩
    show (cells.set (i * 3 + 2) (.int .i64 tm))[i * 3 + j]? = some v
    rcases j with _ | _ | _ | j
    · rw [List.getElem?_set_ne (by omega)]; exact hc 0 v hj
    · rw [List.getElem?_set_ne (by omega)]; exact hc 1 v hj
    · rw [List.getElem?_set_self (by omega)]; simpa using hj
    · simp at hj
  · rw [List.getElem?_set_ne hk] at hy
    obtain ⟨cs, hr, hc⟩ := h.2 k y hy
    refine ⟨cs, hr, fun j v hj => ?_⟩
    have hj3 : j < 3 := by have := (List.getElem?_eq_some_iff.1 hj).1; rw [Rit.len hr] at this; exact this
    show (cells.set (i * 3 + 2) (.int .i64 tm))[k * 3 + j]? = some v
    rw [List.getElem?_set_ne (by omega)]; exact hc j v hj
theorem OwnX.setTm {w : World} {B : Nat} {e : TypeId} {X : Nat → Prop} {g n c : Nat} {xs : List It} (h : OwnX Rit w B e X (.slice (some ⟨g, 0, none⟩) n c) xs) {i : Nat} {x : It} (hx : xs[i]? = some x) {tm : Int} (ht : (Lit.int .i64 tm).wf = true) :
    OwnX Rit (w.setCell ⟨g, i * 3 + 2, none⟩ (.int .i64 tm)) B e X (.slice (some ⟨g, 0, none⟩) n c) (xs.set i ⟨x.sq, x.body, tm⟩) ∧ ∃ u, w.cell? ⟨g, i * 3 + 2, none⟩ = some u := by
  obtain ⟨S, ⟨cells, ⟨hl, h1⟩, he⟩, h2, h3⟩ := h
  have hi := (List.getElem?_eq_some_iff.1 hx).1
  have hlen : cells.length = xs.length * 3 := he.1
  rcases h1 with ⟨hv, _⟩ | ⟨g', cap, cur, hv, hb, hh, hle, hm, hsz, htake⟩
  · cases hv
  · injection hv with e1 e2 e3
    injection e1 with e1; injection e1 with e1
    subst e1 e2 e3
    have hsz' : cur.size = c * 3 := hsz
    have hcur : i * 3 + 2 < cur.size := by omega
    have hS : ∀ p : Addr, S p.block → (w.setCell ⟨g, i * 3 + 2, none⟩ (.int .i64 tm)).cell? p = w.cell? p := fun p hp => World.cell?_setCell_other w _ p _ (fun e => (h2 _ hp).2.2.2 (by rw [← e]; rfl))
    have hblk : Blk w g e cur := hh
    refine ⟨⟨S, ⟨cells.set (i * 3 + 2) (.int .i64 tm), ⟨by simpa using hl, .inr ⟨g, c, cur.setIfInBounds (i * 3 + 2) (.int .i64 tm), by simp, hb, hblk.set _ _, by simpa using hle, hm, by simpa using hsz, ?_⟩⟩, (he.setTm hx ht).keep hS fun _ h => h⟩, fun k hk => ⟨(h2 k hk).1, by simp [World.setCell]; exact (h2 k hk).2.1, (h2 k hk).2.2⟩, h3⟩, ?_⟩
    · rw [← htake]
      simp [List.take_set]
    · exact ⟨_, hblk.cell _ (Array.getElem?_eq_getElem hcur)⟩
theorem OwnX.item {w : World} {B : Nat} {e : TypeId} {X : Nat → Prop} {A : Option Addr} {n c : Nat} {xs : List It} (h : OwnX Rit w B e X (.slice A n c) xs) {i : Nat} {x : It} (hx : xs[i]? = some x) :
    ∃ (g : Nat) (T : Option Addr) (m mc : Nat), A = some ⟨g, 0, none⟩ ∧ (Lit.int .i64 x.sq).wf = true ∧ (Lit.int .i64 x.tm).wf = true ∧ x.body.length = m ∧ m ≤ mc ∧ mc ≤ maxLen ∧ Sl (Rint .u8) w (fun k => B ≤ k ∧ k < w.heap.size ∧ ¬ X k ∧ k ≠ g) T x.body ∧
      w.cell? ⟨g, i * 3, none⟩ = some (.int .i64 x.sq) ∧ w.cell? ⟨g, i * 3 + 1, none⟩ = some (.slice T m mc) ∧ w.cell? ⟨g, i * 3 + 2, none⟩ = some (.int .i64 x.tm) ∧ ∀ o, w.frozen? ⟨g, o, none⟩ = false := by
  obtain ⟨S, ⟨cells, ⟨hl, h1⟩, he⟩, h2, h3⟩ := h
  have hi := (List.getElem?_eq_some_iff.1 hx).1
  have hlen : cells.length = xs.length * 3 := he.1
  rcases h1 with ⟨hv, hn⟩ | ⟨g, cap, cur, hv, hb, hh, hle, hm, hsz, htake⟩
  · omega
  · injection hv with e1 e2 e3
    subst e1 e2 e3
    have hblk : Blk w g e cur := hh
    obtain ⟨cs, ⟨T, mc, rfl, w1, w2, hl1, hm1, hs⟩, hc⟩ := he.2 i x hx
    have key : ∀ j v, [Value.int .i64 x.sq, Value.slice T x.body.length mc, Value.int .i64 x.tm][j]? = some v → w.cell? ⟨g, i * 3 + j, none⟩ = some v := fun j v hj => by
      have h9 := hc j v hj
      have h9' : cells[i * 3 + j]? = some v := h9
      rw [← htake, List.getElem?_take] at h9'
      split at h9'
      · exact hblk.cell _ (by simpa using h9')
      · cases h9'
    exact ⟨g, T, _, mc, rfl, w1, w2, rfl, hl1, hm1, hs.more (fun k hk => ⟨(h2 k hk).1, (h2 k hk).2.1, (h2 k hk).2.2.1, fun e => (h2 k hk).2.2.2 (by rw [e]; rfl)⟩), key 0 _ rfl, key 1 _ rfl, key 2 _ rfl, hblk.frozen⟩
/-- What holds at the loop's head. -/
structure AgW (w2 wr : World) (B E : Nat) (nx : Int) (A1 : Option Addr) (n c1 : Nat) (vW : Value) (vT : Value) (X : Nat → Prop) (aft now : Int) (xs : List It) (k : Nat) : Prop where
  hE : Blk wr E 35 #[.int .i64 nx, .slice A1 n c1, vW]
  hS : OwnX Rit wr B 38 (fun k => X k ∨ w2.heap.size ≤ k) (.slice A1 n c1) (againL aft now xs k)
  hT : OwnX Rit wr w2.heap.size 38 (fun _ => False) vT (againTold aft now (xs.take k))
  fr : ∀ b, b < w2.heap.size → (Value.slice A1 n c1).ownBlock ≠ some b → wr.heap[b]? = w2.heap[b]?
  bel : Below B w2 wr
noncomputable def again_loop_code : Code := blockOf Try.f15 0
set_option maxRecDepth 100000 in
set_option maxHeartbeats 4000000 in
theorem again_loop {Q : Exit → Act → World → Prop} {s0 s3 s4 s5 s6 s7 s10 s11 s12 s13 s14 s15 s16 s17 s18 s19 s20 s21 s24 s25 s26 s27 s28 s29 s30 s31 s32 s33 s34 s35 s36 s37 s38 s39 s40 s41 s42 s43 s44 s45 s46 s47 s48 s49 s50 s51 s52 s53 : Value} (w2 : World) (B E : Nat) (nx : Int) (A1 : Option Addr) (n c1 : Nat) (vW : Value) (X : Nat → Prop) (aft now : Int) (xs : List It) (hn : xs.length = n) (hE : Blk w2 E 35 #[.int .i64 nx, .slice A1 n c1, vW])
    (ho : OwnX Rit w2 B 38 X (.slice A1 n c1) xs) (hXE : X E) (hB : B ≤ w2.heap.size) (hz : n * 40 ≤ 140737488355328) (ht : ∀ x ∈ xs, x.body.length ≤ 140737488355328) (hnow : (Lit.int .i64 now).wf = true) (hnb : -4611686018427387904 ≤ now ∧ now ≤ 4611686018427387903) (htb : ∀ x ∈ xs, -4611686018427387904 ≤ x.tm ∧ x.tm ≤ 4611686018427387903)
    (hK : ∀ (d10 d23 d24 d25 d26 d27 d28 d29 d30 d31 d32 d33 d34 d35 d36 d37 d38 d39 d40 d41 d42 d43 d44 d45 d46 d47 d48 d49 d50 d51 vT : Value) (w' : World), AgW w2 w' B E nx A1 n c1 vW vT X aft now xs n → Q .normal ⟨#[s0, .int .i64 aft, .int .i64 now, s3, s4, s5, s6, s7, .pointer (some ⟨E, 0, none⟩), vT, d10, s11, s12, s13, s14, s15, s16, s17, s18, s19, s20, s21, .int .i64 n, d23, d24, d25, d26, d27, d28, d29, d30, d31, d32, d33, d34, d35, d36, d37, d38, d39, d40, d41, d42, d43, d44, d45, d46, d47, d48, d49, d50, d51, s52, s53], []⟩ w') :
    Code.wp Try.prog again_loop_code Q ⟨#[s0, .int .i64 aft, .int .i64 now, s3, s4, s5, s6, s7, .pointer (some ⟨E, 0, none⟩), .slice none 0 0, s10, s11, s12, s13, s14, s15, s16, s17, s18, s19, s20, s21, .int .i64 n, .int .i64 0, s24, s25, s26, s27, s28, s29, s30, s31, s32, s33, s34, s35, s36, s37, s38, s39, s40, s41, s42, s43, s44, s45, s46, s47, s48, s49, s50, s51, s52, s53], []⟩ w2 := by
  have HK := Lib.hid hK; clear hK
  obtain ⟨hnb1, hnb2⟩ := hnb
  have hm := ho.sl
  have hEo : (Value.slice A1 n c1).ownBlock ≠ some E := fun e => (ho.lt e).2.2 hXE
  have H0 := Lib.hid (show AgW w2 w2 B E nx A1 n c1 vW (.slice none 0 0) X aft now xs 0 from ⟨hE, by have h9 := ho.frame (w' := w2) (X' := fun k => X k ∨ w2.heap.size ≤ k) (fun _ _ _ _ => rfl) (Nat.le_refl _) (fun k _ h2 h3 h4 => h4.elim h3 (by omega)); simpa [againL] using h9, OwnX.nil _ _ _ _ _, fun _ _ _ => rfl, Below.refl _ _⟩)
  have hlE := hE.lt
  have HX := Lib.hid (And.intro hn (And.intro ht htb))
  clear hE ho hn ht htb hm
  conv => arg 2; whnf
  go_wp2
  go_loopw [9, 23] (fun vT i wr => ∃ k : Nat, k ≤ n ∧ i = .int .i64 k ∧ AgW w2 wr B E nx A1 n c1 vW vT X aft now xs k) (fun _ i _ => n - (intOf i).toNat)
  case atStart => exact ⟨0, Nat.zero_le _, rfl, H0.out⟩
  case round =>
    clear H0
    obtain ⟨wr, rfl⟩ : ∃ wx : World, wx = wr := ⟨_, rfl⟩
    obtain ⟨k, hk, rfl, hA⟩ := hrel
    by_cases hlt : k < n
    · have hy := List.getElem?_eq_getElem (l := xs) (i := k) (by rw [HX.out.1]; exact hlt)
      generalize xs[k]'(by rw [HX.out.1]; exact hlt) = y at hy
      have htz := HX.out.2.1 y (List.mem_of_getElem? hy)
      obtain ⟨htb1, htb2⟩ := HX.out.2.2 y (List.mem_of_getElem? hy)
      have hd1 : -9223372036854775808 ≤ now - y.tm := by omega
      have hd2 : now - y.tm ≤ 9223372036854775807 := by omega
      have hzr := hA.bel.size
      obtain ⟨g, T', tn', tc', hA1, w1, w2', htn', hl', hm', hts', y0, y1, y2, fG⟩ := hA.hS.item (againL_get (aft := aft) (now := now) hy)
      subst hA1
      have e1 := hA.hE.cell 1 (v := .slice (some ⟨g, 0, none⟩) n c1) rfl
      have hlEr := hA.hE.lt
      rw [htn'] at htz
      have HY := Lib.hid (And.intro hy (And.intro htn' (And.intro hts' (And.intro hl' (And.intro hm' (And.intro w1 w2'))))))
      by_cases hc : aft ≤ now - y.tm
      rotate_left
      · have d1 : decide (aft ≤ now - y.tm) = false := decide_eq_false hc
        have h1 : againIt aft now y = y := by unfold againIt; rw [if_neg hc]
        have h2 : againTold aft now (xs.take (k + 1)) = againTold aft now (xs.take k) := by rw [againTold_succ hy, if_neg hc, List.append_nil]
        have HN := Lib.hid (show AgW w2 wr B E nx (some ⟨g, 0, none⟩) n c1 vW u9 X aft now xs (k + 1) from ⟨hA.hE, by rw [againL_id hy h1]; exact hA.hS, by rw [h2]; exact hA.hT, hA.fr, hA.bel⟩)
        clear hA hy htn' hts' hc h1 h2 w1 w2'
        go_wp2
        go_roundw
        case measure => simp [intOf]; omega
        case rel => exact ⟨k + 1, by omega, by go_num, HN.out⟩
      · have d1 : decide (aft ≤ now - y.tm) = true := decide_eq_true hc
        have h1 : againIt aft now y = ⟨y.sq, y.body, now⟩ := by unfold againIt; rw [if_pos hc]
        have h2 : againTold aft now (xs.take (k + 1)) = againTold aft now (xs.take k) ++ [⟨y.sq, y.body, now⟩] := by rw [againTold_succ hy, if_pos hc]
        obtain ⟨hS1, u, hu⟩ := hA.hS.setTm (againL_get (aft := aft) (now := now) hy) hnow
        have hgE : g ≠ E := fun e => hEo (by rw [e]; rfl)
        have hgl := (hA.hS.lt (g := g) rfl)
        have hgs : g < w2.heap.size := by (have h9 := hgl.2.2; simp only [not_or, Nat.not_le] at h9; exact h9.2)
        have hgr : g < wr.heap.size := by omega
        have hEg := hA.hE.far (p := ⟨g, k * 3 + 2, none⟩) (fun e => hgE e.symm) (.int .i64 now)
        have hB1 : Sl (Rint .u8) (wr.setCell ⟨g, k * 3 + 2, none⟩ (.int .i64 now)) (lo (wr.setCell ⟨g, k * 3 + 2, none⟩ (.int .i64 now)).heap.size) T' y.body := (hts'.set (p := ⟨g, k * 3 + 2, none⟩) (fun h => h.2.2.2 rfl) _).more (fun b hb => by simpa [lo, World.setCell] using hb.2.1)
        have hzs : (wr.setCell ⟨g, k * 3 + 2, none⟩ (.int .i64 now)).heap.size = wr.heap.size := by simp [World.setCell]
        have H1 := Lib.hid (And.intro hS1 (And.intro (hA.hT.low (p := ⟨g, k * 3 + 2, none⟩) hgs (.int .i64 now)) (And.intro hEg (And.intro hB1 (And.intro (show ∀ b, b < w2.heap.size → (Value.slice (some ⟨g, 0, none⟩) n c1).ownBlock ≠ some b → (wr.setCell ⟨g, k * 3 + 2, none⟩ (.int .i64 now)).heap[b]? = w2.heap[b]? from fun b hb hne => (Below.heap_setCell wr ⟨g, k * 3 + 2, none⟩ _ b (fun e => hne (by rw [e]; rfl))).trans (hA.fr b hb hne)) (hA.bel.setCell (p := ⟨g, k * 3 + 2, none⟩) hgl.1 (.int .i64 now)))))))
        have HC := Lib.hid (And.intro h1 h2)
        have hTl := againTold_len (aft := aft) (now := now) (xs := xs) (k := k)
        obtain ⟨vA, vc, hvA⟩ := hA.hT.form
        obtain ⟨tn, htn⟩ : ∃ tn, (againTold aft now (xs.take k)).length = tn := ⟨_, rfl⟩
        rw [htn] at hvA hTl
        have HTN := Lib.hid htn
        have hlE3 : E < (wr.setCell ⟨g, k * 3 + 2, none⟩ (.int .i64 now)).heap.size := by omega
        have hlg3 : g < (wr.setCell ⟨g, k * 3 + 2, none⟩ (.int .i64 now)).heap.size := by omega
        have e1' := hEg.cell 1 (v := .slice (some ⟨g, 0, none⟩) n c1) rfl
        clear hA hy htn' hts' hc h1 h2 w1 w2' hS1 hEg hB1 htn
        subst hvA
        go_wp2_with (first
          | (go_at_call 29
             go_loud (skip
                      refine (copyItem_any ⟨y.sq, y.body, now⟩ T' tn' tc' HY.out.2.1 _ H1.out.2.2.2.1 (by omega)).mono ?_
                      rintro e w5 ⟨T5, n5, c5, rfl, hn5, hl5, hm5, hs5, hb5⟩
                      have H5 := Lib.hid (And.intro hn5 (And.intro hl5 (And.intro hm5 (And.intro hs5 hb5))))
                      have z5 : wr.heap.size ≤ w5.heap.size := by (have h9 := hb5.size; omega)
                      clear hn5 hl5 hm5 hs5 hb5))
          | (at_builtin
             go_loud (skip
                      refine wpList_append_X rfl (.tmp 42) (.tmp 49) rfl ei_items rfl ((H1.out.2.1.up H5.out.2.2.2.2).up ((Below.refl _ _).alloc (Nat.le_refl _) _)) (some _) 1 1 (ys := [⟨y.sq, y.body, now⟩]) rfl rfl (cellsNew (by simp)) (newItem (S := mid wr.heap.size w5.heap.size) (l := ⟨y.sq, y.body, now⟩) H5.out.1 HY.out.2.2.2.2.2.1 hnow H5.out.2.1 H5.out.2.2.1 (H5.out.2.2.2.1.keep (fun p hp => World.cell?_alloc_lt _ _ _ hp.2) (fun b hb => ⟨by have := hb.1; omega, hb.2⟩))) (fun k hk => ⟨by have := hk.1; omega, by have := hk.2; simp; omega, fun h => h, fun e => by have h9 := (H1.out.2.1.lt e).2.1; have := hk.1; omega⟩) (fun h => h) (by rw [HTN.out]; omega) (by rw [HTN.out]; simp only [maxLen]; omega) (by simp; omega) ?_
                      rw [HTN.out]
                      intro A' cap w6 hox hg1 hat1 hbb1
                      have H6 := Lib.hid (And.intro hox (And.intro hg1 hbb1))
                      clear hox hg1 hat1 hbb1)))
        have hsm : ∀ b, b < w2.heap.size → w6.heap[b]? = (wr.setCell ⟨g, k * 3 + 2, none⟩ (.int .i64 now)).heap[b]? := fun b hb => (H6.out.2.2.block b hb).trans ((Below.heap_alloc w5 _ b (by omega)).trans (H5.out.2.2.2.2.block b (by omega)))
        have hz6 : (wr.setCell ⟨g, k * 3 + 2, none⟩ (.int .i64 now)).heap.size ≤ w6.heap.size := by (have h9 := H6.out.2.2.size; simp at h9; omega)
        have HN := Lib.hid (show AgW w2 w6 B E nx (some ⟨g, 0, none⟩) n c1 vW _ X aft now xs (k + 1) from ⟨(hsm E hlE).trans H1.out.2.2.1, by
            rw [againL_succ HY.out.1, HC.out.1]
            exact H1.out.1.frame (fun b h1 h2 h3 => hsm b (by simp only [not_or, Nat.not_le] at h3; exact h3.2)) hz6 (fun _ _ _ h => h), by rw [HC.out.2]; exact H6.out.1, fun b hb hne => (hsm b hb).trans (H1.out.2.2.2.2.1 b hb hne),
            (H1.out.2.2.2.2.2.trans (H5.out.2.2.2.2.mono (by have := H1.out.2.2.2.2.2.size; omega))).trans (((Below.refl B w5).alloc (by omega) _).trans (H6.out.2.2.mono hB))⟩)
        clear hsm hz6
        go_roundw
        case measure => simp [intOf]; omega
        case rel => exact ⟨k + 1, by omega, by go_num, HN.out⟩
    · obtain rfl : k = n := by omega
      have HA := Lib.hid hA; clear hA
      go_wp2
      exact HK.out _ _ _ _ _ _ _ _ _ _ _ _ _ _ _ _ _ _ _ _ _ _ _ _ _ _ _ _ _ _ _ _ HA.out
set_option maxRecDepth 100000 in
set_option maxHeartbeats 4000000 in
theorem again_any (w : World) (o : Ot) (AS : Option Addr) (nS cS : Nat) (AW : Option Addr) (nW cW : Nat) (aft now : Int) (ho : OutAt w (lo w.heap.size) AS nS AW nW o) (hf : OutFit o) (hnow : (Lit.int .i64 now).wf = true) (hnb : -4611686018427387904 ≤ now ∧ now ≤ 4611686018427387903)
    (htb : ∀ x ∈ o.sent, -4611686018427387904 ≤ x.tm ∧ x.tm ≤ 4611686018427387903) :
    Calls Try.prog 15 #[.agg #[.int .i64 o.next, .slice AS nS cS, .slice AW nW cW], .int .i64 aft, .int .i64 now] w (OutRet (againP o aft now).1 (againP o aft now).2 w) := by
  have hb0 : RowKit.Below w.heap.size w ((w.alloc (.cells #[.int .i64 o.next, .slice AS nS cS, .slice AW nW cW] 35)).alloc (.cells #[.int .i64 0, .slice none 0 0, .slice none 0 0] 35)) := ((Below.refl _ _).alloc (Nat.le_refl _) _).alloc (by simp) _
  have hz0 : ((w.alloc (.cells #[.int .i64 o.next, .slice AS nS cS, .slice AW nW cW] 35)).alloc (.cells #[.int .i64 0, .slice none 0 0, .slice none 0 0] 35)).heap.size = w.heap.size + 2 := by simp
  have hB := (Blk.new w 35 #[.int .i64 o.next, .slice AS nS cS, .slice AW nW cW] (g := w.heap.size) rfl).alloc (.cells #[.int .i64 0, .slice none 0 0, .slice none 0 0] 35)
  have hR := Blk.new (w.alloc (.cells #[.int .i64 o.next, .slice AS nS cS, .slice AW nW cW] 35)) 35 #[.int .i64 0, .slice none 0 0, .slice none 0 0] (g := w.heap.size + 1) (by simp)
  have ho0 := ho.below hb0 hb0.size
  go_enter Try.func15, Try.ntmps15
  go_upto_region 1 with fail
  generalize ((w.alloc (.cells #[.int .i64 o.next, .slice AS nS cS, .slice AW nW cW] 35)).alloc (.cells #[.int .i64 0, .slice none 0 0, .slice none 0 0] 35)) = w0 at *
  have H0 := Lib.hid (And.intro hb0 (And.intro hB (And.intro hR (And.intro ho0 (And.intro hf htb)))))
  clear hb0 hB hR ho0 ho hf htb
  refine again_r1 w0 w.heap.size o AS nS cS AW nW cW H0.out.2.2.2.1 H0.out.2.2.2.2.1 (by omega) (H0.out.2.1.cell 0 rfl) (H0.out.2.1.cell 1 rfl) (H0.out.2.1.cell 2 rfl) ?_
  intro d11 d12 d13 d14 d15 d16 d17 d18 d19 E A1 c1 A2 c2 w2 hE hox hEg hb2
  have z2 := hb2.size
  have hlE := hE.lt
  have hR2 := H0.out.2.2.1.below hb2 (by omega)
  have e1 := hE.cell 1 (v := .slice A1 nS c1) rfl
  have H2 := Lib.hid (And.intro hE (And.intro hox (And.intro (H0.out.1.trans (hb2.mono (by omega))) (And.intro hb2 hR2))))
  have HNS := Lib.hid H0.out.2.2.2.1.sentN
  have hz40 : nS * 40 ≤ 140737488355328 := by (have h9 := H0.out.2.2.2.2.1.sent; have h8 := H0.out.2.2.2.1.sentN; omega)
  clear hE hox hb2 hR2
  go_upto_block 0 with fail
  refine again_loop w2 w0.heap.size E o.next A1 nS c1 (.slice A2 nW c2) (fun k => k = E ∨ (Value.slice A2 nW c2).ownBlock = some k) aft now o.sent HNS.out H2.out.1 H2.out.2.1.1 (.inl rfl) z2 hz40 H0.out.2.2.2.2.1.text hnow hnb H0.out.2.2.2.2.2 ?_
  intro d10 d23 d24 d25 d26 d27 d28 d29 d30 d31 d32 d33 d34 d35 d36 d37 d38 d39 d40 d41 d42 d43 d44 d45 d46 d47 d48 d49 d50 d51 vT w3 hA
  have hz3 := hA.bel.size
  obtain ⟨vA, vc, hvA⟩ := hA.hT.form
  subst hvA
  have hR3 := (hA.fr (w.heap.size + 1) (by omega) (fun e => by have := (H2.out.2.1.1.lt e).1; omega)).trans H2.out.2.2.2.2
  have r0 := Blk.cell (t := 35) hR3 0 (v := .int .i64 0) rfl; have r1 := Blk.cell (t := 35) hR3 1 (v := .slice none 0 0) rfl; have r2 := Blk.cell (t := 35) hR3 2 (v := .slice none 0 0) rfl; have fR := Blk.frozen (t := 35) hR3
  clear e1
  have e0 := hA.hE.cell 0 (v := .int .i64 o.next) rfl; have e1 := hA.hE.cell 1 (v := .slice A1 nS c1) rfl; have e2 := hA.hE.cell 2 (v := .slice A2 nW c2) rfl
  have hlE3 := hA.hE.lt
  have HA := Lib.hid hA
  clear hA hR3
  go_wp2
  refine bodyPost_ret (v := .tuple #[.agg #[.int .i64 o.next, .slice A1 nS c1, .slice A2 nW c2], .slice vA (againTold aft now (o.sent.take nS)).length vc]) (by simp [results, Try.results15, go_sem, r0, r1, r2]) rfl ?_
  have hlow : ∀ i : Nat, (Addr.mk (w.heap.size + 1) i none).block < w0.heap.size := fun i => by show w.heap.size + 1 < _; omega
  have hlow2 : ∀ i : Nat, (Addr.mk (w.heap.size + 1) i none).block < w2.heap.size := fun i => by show w.heap.size + 1 < _; omega
  have k2 := (((HA.out.hS.low (hlow 0) (.int .i64 o.next)).low (hlow 1) (.slice A1 nS c1)).low (hlow 2) (.slice A2 nW c2)).base (B' := w.heap.size) (by omega)
  have k3 := ((((H2.out.2.1.2.frame (w' := w3) (X' := fun _ => False) (fun k h1 h2 h3 => HA.out.fr k h2 (fun e => h3 (.inr e))) hz3 (fun _ _ _ _ h => h)).low (hlow 0) (.int .i64 o.next)).low (hlow 1) (.slice A1 nS c1)).low (hlow 2) (.slice A2 nW c2)).base (B' := w.heap.size) (by omega)
  have k4 := (((HA.out.hT.low (hlow2 0) (.int .i64 o.next)).low (hlow2 1) (.slice A1 nS c1)).low (hlow2 2) (.slice A2 nW c2)).base (B' := w.heap.size) (by omega)
  have hE1 : againL aft now o.sent nS = o.sent.map (againIt aft now) := by unfold againL; rw [List.take_of_length_le (by rw [HNS.out]; omega), List.drop_of_length_le (by rw [HNS.out]; omega), List.append_nil]
  have hE2 : againTold aft now (o.sent.take nS) = againTold aft now o.sent := by rw [List.take_of_length_le (by rw [HNS.out]; omega)]
  rw [hE1] at k2
  rw [hE2] at k4 ⊢
  exact OutRet.mk' (o := ⟨o.next, o.sent.map (againIt aft now), o.wait⟩) k2 k3 k4 ((((H2.out.2.2.1.trans (HA.out.bel.mono (by omega))).setCell (p := ⟨w.heap.size + 1, 0, none⟩) (by simp) _).setCell (p := ⟨w.heap.size + 1, 1, none⟩) (by simp) _).setCell (p := ⟨w.heap.size + 1, 2, none⟩) (by simp) _)
end Go.Proofs.Ytalieakmjkmbbaa
