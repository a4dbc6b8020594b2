/-
  StoreOrder: the lists of what each sender put in: rows of the call's own; one letter more.
-/
import Derived.Test.YtcmdmmphakclmaaOrderB
namespace Go.Proofs.Ytcmdmmphakclmaa
open Go.RowKit Go.Sort
set_option linter.unusedVariables false
attribute [local go_sem ↓] Go.wp_at_zero Go.wp_at_succ

/-- Lists that are rows of the call's own, their headers in block NW. -/
structure Want (w : World) (base NW n : Nat) (vs : List Value) (want : List (List Lt)) : Prop where
  nV : vs.length = n
  nW : want.length = n
  cell : ∀ (f : Nat) v, vs[f]? = some v → w.cell? ⟨NW, f, none⟩ = some v
  own : ∀ (f : Nat) v xs, vs[f]? = some v → want[f]? = some xs → Own Rlt w base 34 (lo base) v xs
  dis : ∀ (f f' : Nat) v v' (g : Nat), f ≠ f' → vs[f]? = some v → vs[f']? = some v' → v.ownBlock = some g → v'.ownBlock ≠ some g
  frz : ∀ o, w.frozen? ⟨NW, o, none⟩ = false
  lt : NW < w.heap.size
  ge : base ≤ NW
  ne : ∀ (f : Nat) v, vs[f]? = some v → v.ownBlock ≠ some NW
def NotOwn (vs : List Value) (b : Nat) : Prop := ∀ (f : Nat) (v : Value), vs[f]? = some v → v.ownBlock ≠ some b
theorem Want.keep {w w' : World} {base NW n : Nat} {vs : List Value} {want : List (List Lt)} (h : Want w base NW n vs want) (hb : Below w.heap.size w w') : Want w' base NW n vs want := by
  have hlt := h.lt; have hge := h.ge
  refine ⟨h.nV, h.nW, fun f v hv => (hb.cell (p := ⟨NW, f, none⟩) hlt).trans (h.cell f v hv), fun f v xs hv hx => ?_, h.dis, fun o => (hb.frozen (p := ⟨NW, o, none⟩) hlt).trans (h.frz o), Nat.lt_of_lt_of_le hlt hb.size, hge, h.ne⟩
  have ho := h.own f v xs hv hx
  exact ho.keep (fun g hg => hb.block g (ho.lt hg).2) (fun p hp => hb.cell (Nat.lt_of_lt_of_le hp (by omega))) (fun _ h => h)
/-- One list is given anew, and its header stored. -/
theorem Want.upd {w w1 : World} {base NW n : Nat} {vs : List Value} {want : List (List Lt)} (h : Want w base NW n vs want) {f : Nat} {v v1 : Value} {ys : List Lt} (hf : vs[f]? = some v) (hsame : ∀ b, b < w.heap.size → v.ownBlock ≠ some b → w1.heap[b]? = w.heap[b]?)
    (hown : Own Rlt w1 base 34 (lo base) v1 ys) (hv1 : v1.ownBlock = v.ownBlock ∨ ∃ g, v1.ownBlock = some g ∧ w.heap.size ≤ g) (hz : w.heap.size ≤ w1.heap.size) :
    Want (w1.setCell ⟨NW, f, none⟩ v1) base NW n (vs.set f v1) (want.set f ys) := by
  have hlt := h.lt; have hge := h.ge
  have hfl := (List.getElem?_eq_some_iff.1 hf).1
  have hnw := hsame NW hlt (h.ne f v hf)
  have hne1 : v1.ownBlock ≠ some NW := by
    rcases hv1 with e | ⟨g, e, hg⟩
    · rw [e]; exact h.ne f v hf
    · rw [e]; intro e2; have := Option.some.inj e2; omega
  have hblk : ∀ k, k ≠ NW → (w1.setCell ⟨NW, f, none⟩ v1).heap[k]? = w1.heap[k]? := fun k hk => Below.heap_setCell w1 ⟨NW, f, none⟩ v1 k hk
  have hlo : ∀ p : Addr, lo base p.block → (w1.setCell ⟨NW, f, none⟩ v1).cell? p = w1.cell? p := fun p hp => World.cell?_of_block (hblk p.block (by have : p.block < base := hp; omega))
  have hdis1 : ∀ (f' : Nat) v' (g : Nat), f' ≠ f → vs[f']? = some v' → v'.ownBlock = some g → v1.ownBlock ≠ some g := fun f' v' g hne hv' hg => by
    rcases hv1 with e | ⟨g1, e, hg1⟩
    · rw [e]; exact h.dis f' f v' v g hne hv' hf hg
    · rw [e]
      have hw' := List.getElem?_eq_getElem (l := want) (i := f') (by have := (List.getElem?_eq_some_iff.1 hv').1; rw [h.nW, ← h.nV]; exact this)
      have := ((h.own f' v' _ hv' hw').lt hg).2
      intro e2; have := Option.some.inj e2; omega
  refine ⟨by simp [h.nV], by simp [h.nW], fun f' v' hv' => ?_, fun f' v' xs hv' hx => ?_, fun f1 f2 v1' v2' g hne h1 h2 hg => ?_, fun o => ?_, by simp [World.setCell]; omega, hge, fun f' v' hv' => ?_⟩
  · by_cases hff : f = f'
    · subst hff
      rw [List.getElem?_set_self hfl] at hv'
      obtain rfl := Option.some.inj hv'
      have hc : w1.cell? ⟨NW, f, none⟩ = some v := (World.cell?_of_block (a := ⟨NW, f, none⟩) hnw).trans (h.cell f v hf)
      exact World.cell?_setCell_same w1 _ _ hc
    · rw [List.getElem?_set_ne hff] at hv'
      rw [World.cell?_setCell_other w1 _ _ _ (by intro e; injection e with _ e2; exact hff e2)]
      exact (World.cell?_of_block (a := ⟨NW, f', none⟩) hnw).trans (h.cell f' v' hv')
  · by_cases hff : f = f'
    · subst hff
      rw [List.getElem?_set_self hfl] at hv'
      rw [List.getElem?_set_self (by rw [h.nW, ← h.nV]; exact hfl)] at hx
      obtain rfl := Option.some.inj hv'; obtain rfl := Option.some.inj hx
      exact hown.keep (fun g hg => hblk g (fun e => hne1 (by rw [hg, e]))) hlo (fun _ h => h)
    · rw [List.getElem?_set_ne hff] at hv' hx
      have ho := h.own f' v' xs hv' hx
      refine ho.keep (fun g hg => ?_) (fun p hp => ?_) (fun _ h => h)
      · have hg2 := (ho.lt hg).2
        rw [hblk g (fun e => h.ne f' v' hv' (by rw [hg, e]))]
        exact hsame g hg2 (h.dis f' f v' v g (fun e => hff e.symm) hv' hf hg)
      · rw [hlo p hp]
        have hp' : p.block < base := hp
        refine World.cell?_of_block (hsame p.block (by omega) (fun e => ?_))
        have hw1 := List.getElem?_eq_getElem (l := want) (i := f) (by rw [h.nW, ← h.nV]; exact hfl)
        have := ((h.own f v _ hf hw1).lt e).1; omega
  · by_cases hf1 : f = f1
    · subst hf1
      rw [List.getElem?_set_self hfl] at h1
      obtain rfl := Option.some.inj h1
      rw [List.getElem?_set_ne hne] at h2
      intro e
      exact hdis1 f2 v2' g (fun e => hne e.symm) h2 e hg
    · rw [List.getElem?_set_ne hf1] at h1
      by_cases hf2 : f = f2
      · subst hf2
        rw [List.getElem?_set_self hfl] at h2
        obtain rfl := Option.some.inj h2
        exact hdis1 f1 v1' g hne h1 hg
      · rw [List.getElem?_set_ne hf2] at h2
        exact h.dis f1 f2 v1' v2' g hne h1 h2 hg
  · have : (w1.setCell ⟨NW, f, none⟩ v1).frozen? ⟨NW, o, none⟩ = w1.frozen? ⟨NW, o, none⟩ := by simp [go_sem]
    rw [this]
    have := h.frz o
    unfold World.frozen? at this ⊢
    rw [hnw]; exact this
  · by_cases hff : f = f'
    · subst hff
      rw [List.getElem?_set_self hfl] at hv'
      obtain rfl := Option.some.inj hv'
      exact hne1
    · rw [List.getElem?_set_ne hff] at hv'
      exact h.ne f' v' hv'
theorem NotOwn.set {vs : List Value} {b f : Nat} {v v1 : Value} {H : Nat} (h : NotOwn vs b) (hf : vs[f]? = some v) (hv1 : v1.ownBlock = v.ownBlock ∨ ∃ g, v1.ownBlock = some g ∧ H ≤ g) (hb : b < H) : NotOwn (vs.set f v1) b := by
  intro f' v' hv'
  by_cases hff : f = f'
  · subst hff
    rw [List.getElem?_set_self (List.getElem?_eq_some_iff.1 hf).1] at hv'
    obtain rfl := Option.some.inj hv'
    rcases hv1 with e | ⟨g, e, hg⟩
    · rw [e]; exact h f v hf
    · rw [e]; intro e2; have := Option.some.inj e2; omega
  · rw [List.getElem?_set_ne hff] at hv'
    exact h f' v' hv'
/-- What the append wants, behind the letter's own block and a draw. -/
theorem ready21 {w : World} {base : Nat} {v : Value} {xs : List Lt} {x : Lt} {T : Option Addr} {tn tc : Nat} {fr : Int} (ho : Own Rlt w base 34 (lo base) v xs) (hb : base ≤ w.heap.size) (ha : LtAt w (lo base) T tn tc x) (hf : x.fr = fr) :
    Own Rlt (w.alloc (.cells #[.bool x.cover, .int .i64 fr, .int .i64 x.to, .int .u64 x.sq, .slice T tn tc] 34)).drew base 34 (lo base) v xs ∧
    (∀ b, lo base b → b < (w.alloc (.cells #[.bool x.cover, .int .i64 fr, .int .i64 x.to, .int .u64 x.sq, .slice T tn tc] 34)).drew.heap.size ∧ v.ownBlock ≠ some b) ∧
    CellsAt (w.alloc (.cells #[.bool x.cover, .int .i64 fr, .int .i64 x.to, .int .u64 x.sq, .slice T tn tc] 34)).drew (some ⟨w.heap.size, 0, none⟩) [.bool x.cover, .int .i64 fr, .int .i64 x.to, .int .u64 x.sq, .slice T tn tc] ∧
    Elems Rlt (w.alloc (.cells #[.bool x.cover, .int .i64 fr, .int .i64 x.to, .int .u64 x.sq, .slice T tn tc] 34)).drew (lo base) [x] [.bool x.cover, .int .i64 fr, .int .i64 x.to, .int .u64 x.sq, .slice T tn tc] ∧
    base ≤ (w.alloc (.cells #[.bool x.cover, .int .i64 fr, .int .i64 x.to, .int .u64 x.sq, .slice T tn tc] 34)).drew.heap.size ∧ (w.alloc (.cells #[.bool x.cover, .int .i64 fr, .int .i64 x.to, .int .u64 x.sq, .slice T tn tc] 34)).drew.heap.size = w.heap.size + 1 := by
  subst hf
  have h1 := ho.alloc (fun b h => Nat.lt_of_lt_of_le h hb) (.cells #[.bool x.cover, .int .i64 x.fr, .int .i64 x.to, .int .u64 x.sq, .slice T tn tc] 34)
  refine ⟨h1.keep (fun _ _ => rfl) (fun _ _ => rfl) (fun _ h => h), fun b h => ⟨?_, fun e => ?_⟩, ?_, ?_, ?_, by simp⟩
  · have : b < base := h
    simp; omega
  · have := (ho.lt e).1; have : b < base := h; omega
  · have := cellsNew (w := w) (g := w.heap.size) (cs := #[.bool x.cover, .int .i64 x.fr, .int .i64 x.to, .int .u64 x.sq, .slice T tn tc]) (t := 34) rfl
    exact this
  · exact newLetter ha.len ha.fr ha.to_ ha.sq ha.le ha.cap (ha.text.keep (fun p hp => World.cell?_alloc_lt _ _ _ (Nat.lt_of_lt_of_le hp hb)) (fun _ h => h))
  · simp; omega
noncomputable def order_r21_code : Code := regionOf Try.f3 21
set_option maxRecDepth 100000 in
set_option maxHeartbeats 2000000 in
theorem order_r21 {Q : Exit → Act → World → Prop} {s0 s1 s2 s3 s4 s5 s6 s7 s8 s10 s12 s13 s14 s15 s16 s17 s18 s19 s20 s21 s22 s23 s24 s25 s26 s27 s28 s29 s30 s31 s32 s33 s34 s35 s36 s37 s38 s39 s40 s41 s42 s43 s44 s45 s46 s47 s48 s49 s50 s51 s52 s53 s54 s55 s56 s57 s58 s59 s60 s61 s62 s63 s64 s65 s66 s67 s68 s69 s70 s71 s72 s73 s74 s75 s76 s77 s78 s79 s80 s81 s82 s83 s84 s85 s86 s87 s88 s89 s90 s91 s92 s93 s94 s95 s96 s97 s98 s99 s100 s101 s102 s103 s104 s105 s106 s107 s108 s109 s110 s111 s112 s113 s114 s115 s116 s117 s118 s119 s120 s121 s122 s123 s124 s125 s126 s127 s128 s129 s130 s131 s132 s133 s134 s135 s136 s137 s138 s139 s140 s141 s142 s143 s144 s145 s146 s147 s148 s149 s150 s151 s152 s153 s154 s155 s156 s157 s158 s159 s160 s161 s162 s163 s164 s165 s166 s167 s168 s169 s170 s171 s172 s173 s174 s175 s176 s177 s178 s179 s180 s181 s182 s183 s184 s185 s186 s187 s188 s189 s190 s191 s192 s193 s194 s195 s196 s197 s198 s199 s200 s201 s202 s203 s204 s205 s206 s207 s208 s209 s210 s211 s212 s213 s214 s215 s216 s217 s218 s219 s220 s221 s222 s223 : Value} (w : World) (base n X NW f : Nat) (x : Lt) (T : Option Addr) (tn tc : Nat) (vs : List Value) (want : List (List Lt)) (v : Value) (xs : List Lt)
    (hc : LtCells w X x T tn tc) (hX : X < w.heap.size) (hXN : X ≠ NW) (hXo : NotOwn vs X) (hf : x.fr = (f : Int)) (hfn : f < n) (hn : n ≤ 8) (hw : Want w base NW n vs want) (hv : vs[f]? = some v) (hx : want[f]? = some xs) (hl : xs.length ≤ 60)
    (ha : LtAt w (lo base) T tn tc x)
    (hK : ∀ (d139 d140 d141 d142 d143 d144 d145 d146 d147 d148 d149 d150 : Value) (w' : World) (v1 : Value), Want w' base NW n (vs.set f v1) (want.set f (xs ++ [x])) → (∀ b, b < w.heap.size → b ≠ NW → NotOwn vs b → w'.heap[b]? = w.heap[b]?) → w.heap.size ≤ w'.heap.size → (v1.ownBlock = v.ownBlock ∨ ∃ g, v1.ownBlock = some g ∧ w.heap.size ≤ g) → Below base w w' →
      Q .normal ⟨#[s0, s1, s2, s3, s4, s5, s6, s7, s8, .slice (some ⟨NW, 0, none⟩) n n, s10, .pointer (some ⟨X, 0, none⟩), s12, s13, s14, s15, s16, s17, s18, s19, s20, s21, s22, s23, s24, s25, s26, s27, s28, s29, s30, s31, s32, s33, s34, s35, s36, s37, s38, s39, s40, s41, s42, s43, s44, s45, s46, s47, s48, s49, s50, s51, s52, s53, s54, s55, s56, s57, s58, s59, s60, s61, s62, s63, s64, s65, s66, s67, s68, s69, s70, s71, s72, s73, s74, s75, s76, s77, s78, s79, s80, s81, s82, s83, s84, s85, s86, s87, s88, s89, s90, s91, s92, s93, s94, s95, s96, s97, s98, s99, s100, s101, s102, s103, s104, s105, s106, s107, s108, s109, s110, s111, s112, s113, s114, s115, s116, s117, s118, s119, s120, s121, s122, s123, s124, s125, s126, s127, s128, s129, s130, s131, s132, s133, s134, s135, s136, s137, s138, d139, d140, d141, d142, d143, d144, d145, d146, d147, d148, d149, d150, s151, s152, s153, s154, s155, s156, s157, s158, s159, s160, s161, s162, s163, s164, s165, s166, s167, s168, s169, s170, s171, s172, s173, s174, s175, s176, s177, s178, s179, s180, s181, s182, s183, s184, s185, s186, s187, s188, s189, s190, s191, s192, s193, s194, s195, s196, s197, s198, s199, s200, s201, s202, s203, s204, s205, s206, s207, s208, s209, s210, s211, s212, s213, s214, s215, s216, s217, s218, s219, s220, s221, s222, s223], []⟩ w') :
    Code.wp Try.prog order_r21_code Q ⟨#[s0, s1, s2, s3, s4, s5, s6, s7, s8, .slice (some ⟨NW, 0, none⟩) n n, s10, .pointer (some ⟨X, 0, none⟩), s12, s13, s14, s15, s16, s17, s18, s19, s20, s21, s22, s23, s24, s25, s26, s27, s28, s29, s30, s31, s32, s33, s34, s35, s36, s37, s38, s39, s40, s41, s42, s43, s44, s45, s46, s47, s48, s49, s50, s51, s52, s53, s54, s55, s56, s57, s58, s59, s60, s61, s62, s63, s64, s65, s66, s67, s68, s69, s70, s71, s72, s73, s74, s75, s76, s77, s78, s79, s80, s81, s82, s83, s84, s85, s86, s87, s88, s89, s90, s91, s92, s93, s94, s95, s96, s97, s98, s99, s100, s101, s102, s103, s104, s105, s106, s107, s108, s109, s110, s111, s112, s113, s114, s115, s116, s117, s118, s119, s120, s121, s122, s123, s124, s125, s126, s127, s128, s129, s130, s131, s132, s133, s134, s135, s136, s137, s138, s139, s140, s141, s142, s143, s144, s145, s146, s147, s148, s149, s150, s151, s152, s153, s154, s155, s156, s157, s158, s159, s160, s161, s162, s163, s164, s165, s166, s167, s168, s169, s170, s171, s172, s173, s174, s175, s176, s177, s178, s179, s180, s181, s182, s183, s184, s185, s186, s187, s188, s189, s190, s191, s192, s193, s194, s195, s196, s197, s198, s199, s200, s201, s202, s203, s204, s205, s206, s207, s208, s209, s210, s211, s212, s213, s214, s215, s216, s217, s218, s219, s220, s221, s222, s223], []⟩ w := by
  have HK := Lib.hid hK; clear hK
  obtain ⟨x0, x1, x2, x3, x4⟩ := hc
  have hcv := hw.cell f v hv
  have hown := hw.own f v xs hv hx
  have hge := hw.ge; have hlt := hw.lt
  obtain ⟨vA, vc, hvA⟩ := hown.form
  obtain ⟨xn, hxn⟩ : ∃ xn, xs.length = xn := ⟨_, rfl⟩
  rw [hxn] at hvA hl
  subst hvA
  have hnX : (Value.slice vA xn vc).ownBlock ≠ some X := hXo f _ hv
  have hnN : (Value.slice vA xn vc).ownBlock ≠ some NW := hw.ne f _ hv
  rw [hf] at x1
  have e0 : (0 : Int) ≤ (f : Int) := by omega
  have e1 : (f : Int) < (n : Int) := by omega
  have HW := Lib.hid (And.intro hw (And.intro hv (And.intro hx (And.intro hxn hf))))
  have HA := Lib.hid ha; have HO := Lib.hid hown
  clear hw hv hx hxn ha hXo hown hf
  have fN := HW.out.1.frz
  have hsz1 : w.heap.size < w.heap.size + 1 := Nat.lt_succ_self _
  obtain ⟨R1, R2, R3, R4, R5, R6⟩ := ready21 HO.out (by omega) HA.out HW.out.2.2.2.2
  have HR := Lib.hid (And.intro R1 (And.intro R2 (And.intro R3 (And.intro R4 (And.intro R5 R6)))))
  clear R1 R2 R3 R4 R5 R6
  conv => arg 2; whnf
  refine wp_region_noPanic ?_
  refine wp_region_held_drew (S := (fun w' => w'.cell? ⟨X, 0, none⟩ = some (.bool x.cover) ∧ w'.cell? ⟨X, 1, none⟩ = some (.int .i64 (f : Int)) ∧ w'.cell? ⟨X, 2, none⟩ = some (.int .i64 x.to) ∧ w'.cell? ⟨X, 3, none⟩ = some (.int .u64 x.sq) ∧ w'.cell? ⟨X, 4, none⟩ = some (.slice T tn tc))) (by kernel_rfl) ?_ (fun hHeld0 => ?_)
  · (try dsimp only)
    (first | assumption | (go_keep; done) | (refine ⟨?_, ?_, ?_, ?_, ?_⟩ <;> (first | (assumption) | (simp [go_sem, *]; done))))
  refine wpAnyH_take (i := 0) (oi := _) (v := ?v1) rfl (by kernel_rfl) (by kernel_rfl) (by kernel_rfl) (fun _ _ _ h => h) (Or.inl ⟨by rfl, ?hy1⟩) (by assumption) ?rest1
  case hy1 => (intro w hSw; (try dsimp only at hSw); go_simp; try with_reducible rfl)
  try simp only [Act.put, List.setIfInBounds_toArray, List.set_cons_zero, List.set_cons_succ]
  refine wpAnyH_take (i := 1) (oi := _) (v := ?v2) rfl (by kernel_rfl) (by kernel_rfl) (by kernel_rfl) (fun _ _ _ h => h) (Or.inl ⟨by rfl, ?hy2⟩) (by assumption) ?rest2
  case hy2 => (intro w hSw; (try dsimp only at hSw); go_simp; try with_reducible rfl)
  try simp only [Act.put, List.setIfInBounds_toArray, List.set_cons_zero, List.set_cons_succ]
  refine wpAnyH_take (i := 2) (oi := _) (v := ?v3) rfl (by kernel_rfl) (by kernel_rfl) (by kernel_rfl) (fun _ _ _ h => h) (Or.inl ⟨by rfl, ?hy3⟩) (by assumption) ?rest3
  case hy3 => (intro w hSw; (try dsimp only at hSw); go_simp; try with_reducible rfl)
  try simp only [Act.put, List.setIfInBounds_toArray, List.set_cons_zero, List.set_cons_succ]
  refine wpAnyH_take (i := 3) (oi := _) (v := ?v4) rfl (by kernel_rfl) (by kernel_rfl) (by kernel_rfl) (fun _ _ _ h => h) (Or.inl ⟨by rfl, ?hy4⟩) (by assumption) ?rest4
  case hy4 => (intro w hSw; (try dsimp only at hSw); go_simp; try with_reducible rfl)
  try simp only [Act.put, List.setIfInBounds_toArray, List.set_cons_zero, List.set_cons_succ]
  refine wpAnyH_take (i := 4) (oi := _) (v := ?v5) rfl (by kernel_rfl) (by kernel_rfl) (by kernel_rfl) (fun _ _ _ h => h) (Or.inl ⟨by rfl, ?hy5⟩) (by assumption) ?rest5
  case hy5 => (intro w hSw; (try dsimp only at hSw); go_simp; try with_reducible rfl)
  try simp only [Act.put, List.setIfInBounds_toArray, List.set_cons_zero, List.set_cons_succ]
  refine wpAnyH_take (i := 5) (oi := _) (v := ?v6) rfl (by kernel_rfl) (by kernel_rfl) (by kernel_rfl) (fun _ _ _ h => h) (Or.inl ⟨by rfl, ?hy6⟩) (by assumption) ?rest6
  case hy6 => (intro w hSw; (try dsimp only at hSw); go_simp; try with_reducible rfl)
  try simp only [Act.put, List.setIfInBounds_toArray, List.set_cons_zero, List.set_cons_succ]
  refine wpAnyH_take (i := 6) (oi := _) (v := ?v7) rfl (by kernel_rfl) (by kernel_rfl) (by kernel_rfl) (fun _ _ _ h => h) (Or.inl ⟨by rfl, ?hy7⟩) (by assumption) ?rest7
  case hy7 => (intro w hSw; (try dsimp only at hSw); go_simp; try with_reducible rfl)
  try simp only [Act.put, List.setIfInBounds_toArray, List.set_cons_zero, List.set_cons_succ]
  refine wpAnyH_take (i := 8) (oi := _) (v := ?v8) rfl (by kernel_rfl) (by kernel_rfl) (by kernel_rfl) (fun _ _ _ h => h) (Or.inl ⟨by rfl, ?hy8⟩) (by assumption) ?rest8
  case hy8 => (intro w hSw; (try dsimp only at hSw); go_simp; try with_reducible rfl)
  try simp only [Act.put, List.setIfInBounds_toArray, List.set_cons_zero, List.set_cons_succ]
  refine wpAnyH_ready (rs := [7, 9]) (by kernel_rfl) (by simp) ?_
  refine (AllReadyH.cons (o := _) rfl (fun K hK => ?_) (AllReadyH.cons (o := _) rfl (fun K hK => ?_) AllReadyH.nil))
  · skip
    go_simp
    refine hK.out _ _ ?_ (fun hHeld9 => ?_)
    · (try dsimp only)
      (first | assumption | (go_keep; done) | (refine ⟨?_, ?_, ?_, ?_, ?_⟩ <;> (first | (assumption) | (simp [go_sem, *]; done))))
    clear hK K hHeld0
    try simp only [Act.put, List.setIfInBounds_toArray, List.set_cons_zero, List.set_cons_succ]
    refine wpAnyH_ready (rs := [9]) (by kernel_rfl) (by simp) ?_
    refine (AllReadyH.cons (o := _) rfl (fun K hK => ?_) AllReadyH.nil)
    go_simp
    refine hK.out _ _ ?_ (fun hHeld10 => ?_)
    · (try dsimp only)
      (first | assumption | (go_keep; done) | (refine ⟨?_, ?_, ?_, ?_, ?_⟩ <;> (first | (assumption) | (simp [go_sem, *]; done))))
    clear hK K hHeld9
    try simp only [Act.put, List.setIfInBounds_toArray, List.set_cons_zero, List.set_cons_succ]
    refine wpAnyH_ready (rs := [10]) (by kernel_rfl) (by simp) ?_
    refine (AllReadyH.cons (o := _) rfl (fun K hK => ?_) AllReadyH.nil)
    refine step_append_own' rfl (.tmp 146) (.tmp 148) 23 rfl ei_letters (.slice vA xn vc) (by rfl) HR.out.1 HR.out.2.1 (some ⟨w.heap.size, 0, none⟩) 1 1 (ys := [x]) (by rfl) rfl HR.out.2.2.1 HR.out.2.2.2.1 (by rw [HW.out.2.2.2.1]; omega) (by rw [HW.out.2.2.2.1]; simp only [maxLen]; omega) HR.out.2.2.2.2.1 ?_
    intro v1 w1 hown1 hg1 hat1
    have hsame : ∀ b, b < w.heap.size → (Value.slice vA xn vc).ownBlock ≠ some b → w1.heap[b]? = w.heap[b]? := fun b hb hne => (hg1.block b (by rw [HR.out.2.2.2.2.2]; omega) (fun e => hne e.symm)).trans (Below.heap_alloc w _ b hb)
    have kX := hsame X hX hnX
    have kN := hsame NW hlt hnN
    have y0 := (World.cell?_of_block (a := ⟨X, 0, none⟩) kX).trans x0; have y1 := (World.cell?_of_block (a := ⟨X, 1, none⟩) kX).trans x1; have y2 := (World.cell?_of_block (a := ⟨X, 2, none⟩) kX).trans x2; have y3 := (World.cell?_of_block (a := ⟨X, 3, none⟩) kX).trans x3; have y4 := (World.cell?_of_block (a := ⟨X, 4, none⟩) kX).trans x4
    have yN := (World.cell?_of_block (a := ⟨NW, f, none⟩) kN).trans hcv
    have fN1 : ∀ o, w1.frozen? ⟨NW, o, none⟩ = false := fun o => by have h9 := fN o; unfold World.frozen? at h9 ⊢; rw [kN]; exact h9
    obtain ⟨A1, c1, hv1⟩ := hown1.form
    have HS := Lib.hid (And.intro hsame (And.intro hown1 (And.intro hat1 hg1)))
    clear hsame kX kN hown1 hat1 hg1
    subst hv1
    refine hK.out _ _ ?_ (fun hHeld11 => ?_)
    · (try dsimp only)
      (first | assumption | (go_keep; done) | (refine ⟨?_, ?_, ?_, ?_, ?_⟩ <;> (first | (assumption) | (simp [go_sem, *]; done))))
    clear hK K hHeld10
    try simp only [Act.put, List.setIfInBounds_toArray, List.set_cons_zero, List.set_cons_succ]
    refine wpAnyH_take (i := 11) (oi := _) (v := ?v12) rfl (by kernel_rfl) (by kernel_rfl) (by kernel_rfl) (fun _ _ _ h => h) (Or.inl ⟨by rfl, ?hy12⟩) (by assumption) ?rest12
    case hy12 => (intro w hSw; (try dsimp only at hSw); go_simp; try with_reducible rfl)
    try simp only [Act.put, List.setIfInBounds_toArray, List.set_cons_zero, List.set_cons_succ]
    refine wpAnyH_ready (rs := [12]) (by kernel_rfl) (by simp) ?_
    refine (AllReadyH.cons (o := _) rfl (fun K hK => ?_) AllReadyH.nil)
    go_simp
    refine hK.out _ _ ?_ (fun hHeld13 => ?_)
    · (try dsimp only)
      (first | assumption | (go_keep; done) | (refine ⟨?_, ?_, ?_, ?_, ?_⟩ <;> (first | (assumption) | (simp [go_sem, *]; done))))
    clear hK K hHeld11
    try simp only [Act.put, List.setIfInBounds_toArray, List.set_cons_zero, List.set_cons_succ]
    refine wpAnyH_done (by kernel_rfl) ?_ _
    refine NoPanic.normal ?_
    clear hHeld13
    have hz1 : w.heap.size + 1 ≤ w1.heap.size := by
      have h9 := HS.out.2.2.2
      have h8 := (Below.grown (B := base) (Below.refl base _) h9 HR.out.2.2.2.2.1 (fun g hg => (HO.out.lt hg).1)).size
      rw [HR.out.2.2.2.2.2] at h8; exact h8
    have hbb : RowKit.Below base w w1 := (((Below.refl base w).alloc (by omega) _).drew).grown HS.out.2.2.2 (by simp; omega) (fun g hg => (HO.out.lt hg).1)
    have hor : (Value.slice A1 (xs.length + 1) c1).ownBlock = (Value.slice vA xn vc).ownBlock ∨ ∃ g, (Value.slice A1 (xs.length + 1) c1).ownBlock = some g ∧ w.heap.size ≤ g := by
      rcases HS.out.2.2.1 with e | e
      · exact .inl (by simpa using e)
      · exact .inr ⟨_, by simpa using e, by simp⟩
    exact HK.out _ _ _ _ _ _ _ _ _ _ _ _ _ _ (HW.out.1.upd HW.out.2.1 HS.out.1 (by simpa using HS.out.2.1) hor (by omega)) (fun b hb hne hno => (Below.heap_setCell w1 ⟨NW, f, none⟩ _ b hne).trans (HS.out.1 b hb (hno f _ HW.out.2.1))) (by simp [World.setCell]; omega) hor (hbb.setCell (p := ⟨NW, f, none⟩) hge _)
  · skip
    go_simp
    refine hK.out _ _ ?_ (fun hHeld14 => ?_)
    · (try dsimp only)
      (first | assumption | (go_keep; done) | (refine ⟨?_, ?_, ?_, ?_, ?_⟩ <;> (first | (assumption) | (simp [go_sem, *]; done))))
    clear hK K hHeld0
    try simp only [Act.put, List.setIfInBounds_toArray, List.set_cons_zero, List.set_cons_succ]
    refine wpAnyH_ready (rs := [7]) (by kernel_rfl) (by simp) ?_
    refine (AllReadyH.cons (o := _) rfl (fun K hK => ?_) AllReadyH.nil)
    go_simp
    refine hK.out _ _ ?_ (fun hHeld15 => ?_)
    · (try dsimp only)
      (first | assumption | (go_keep; done) | (refine ⟨?_, ?_, ?_, ?_, ?_⟩ <;> (first | (assumption) | (simp [go_sem, *]; done))))
    clear hK K hHeld14
    try simp only [Act.put, List.setIfInBounds_toArray, List.set_cons_zero, List.set_cons_succ]
    refine wpAnyH_ready (rs := [10]) (by kernel_rfl) (by simp) ?_
    refine (AllReadyH.cons (o := _) rfl (fun K hK => ?_) AllReadyH.nil)
    refine step_append_own' rfl (.tmp 146) (.tmp 148) 23 rfl ei_letters (.slice vA xn vc) (by rfl) HR.out.1 HR.out.2.1 (some ⟨w.heap.size, 0, none⟩) 1 1 (ys := [x]) (by rfl) rfl HR.out.2.2.1 HR.out.2.2.2.1 (by rw [HW.out.2.2.2.1]; omega) (by rw [HW.out.2.2.2.1]; simp only [maxLen]; omega) HR.out.2.2.2.2.1 ?_
    intro v1 w1 hown1 hg1 hat1
    have hsame : ∀ b, b < w.heap.size → (Value.slice vA xn vc).ownBlock ≠ some b → w1.heap[b]? = w.heap[b]? := fun b hb hne => (hg1.block b (by rw [HR.out.2.2.2.2.2]; omega) (fun e => hne e.symm)).trans (Below.heap_alloc w _ b hb)
    have kX := hsame X hX hnX
    have kN := hsame NW hlt hnN
    have y0 := (World.cell?_of_block (a := ⟨X, 0, none⟩) kX).trans x0; have y1 := (World.cell?_of_block (a := ⟨X, 1, none⟩) kX).trans x1; have y2 := (World.cell?_of_block (a := ⟨X, 2, none⟩) kX).trans x2; have y3 := (World.cell?_of_block (a := ⟨X, 3, none⟩) kX).trans x3; have y4 := (World.cell?_of_block (a := ⟨X, 4, none⟩) kX).trans x4
    have yN := (World.cell?_of_block (a := ⟨NW, f, none⟩) kN).trans hcv
    have fN1 : ∀ o, w1.frozen? ⟨NW, o, none⟩ = false := fun o => by have h9 := fN o; unfold World.frozen? at h9 ⊢; rw [kN]; exact h9
    obtain ⟨A1, c1, hv1⟩ := hown1.form
    have HS := Lib.hid (And.intro hsame (And.intro hown1 (And.intro hat1 hg1)))
    clear hsame kX kN hown1 hat1 hg1
    subst hv1
    refine hK.out _ _ ?_ (fun hHeld16 => ?_)
    · (try dsimp only)
      (first | assumption | (go_keep; done) | (refine ⟨?_, ?_, ?_, ?_, ?_⟩ <;> (first | (assumption) | (simp [go_sem, *]; done))))
    clear hK K hHeld15
    try simp only [Act.put, List.setIfInBounds_toArray, List.set_cons_zero, List.set_cons_succ]
    refine wpAnyH_take (i := 11) (oi := _) (v := ?v17) rfl (by kernel_rfl) (by kernel_rfl) (by kernel_rfl) (fun _ _ _ h => h) (Or.inl ⟨by rfl, ?hy17⟩) (by assumption) ?rest17
    case hy17 => (intro w hSw; (try dsimp only at hSw); go_simp; try with_reducible rfl)
    try simp only [Act.put, List.setIfInBounds_toArray, List.set_cons_zero, List.set_cons_succ]
    refine wpAnyH_ready (rs := [12]) (by kernel_rfl) (by simp) ?_
    refine (AllReadyH.cons (o := _) rfl (fun K hK => ?_) AllReadyH.nil)
    go_simp
    refine hK.out _ _ ?_ (fun hHeld18 => ?_)
    · (try dsimp only)
      (first | assumption | (go_keep; done) | (refine ⟨?_, ?_, ?_, ?_, ?_⟩ <;> (first | (assumption) | (simp [go_sem, *]; done))))
    clear hK K hHeld16
    try simp only [Act.put, List.setIfInBounds_toArray, List.set_cons_zero, List.set_cons_succ]
    refine wpAnyH_done (by kernel_rfl) ?_ _
    refine NoPanic.normal ?_
    clear hHeld18
    have hz1 : w.heap.size + 1 ≤ w1.heap.size := by
      have h9 := HS.out.2.2.2
      have h8 := (Below.grown (B := base) (Below.refl base _) h9 HR.out.2.2.2.2.1 (fun g hg => (HO.out.lt hg).1)).size
      rw [HR.out.2.2.2.2.2] at h8; exact h8
    have hbb : RowKit.Below base w w1 := (((Below.refl base w).alloc (by omega) _).drew).grown HS.out.2.2.2 (by simp; omega) (fun g hg => (HO.out.lt hg).1)
    have hor : (Value.slice A1 (xs.length + 1) c1).ownBlock = (Value.slice vA xn vc).ownBlock ∨ ∃ g, (Value.slice A1 (xs.length + 1) c1).ownBlock = some g ∧ w.heap.size ≤ g := by
      rcases HS.out.2.2.1 with e | e
      · exact .inl (by simpa using e)
      · exact .inr ⟨_, by simpa using e, by simp⟩
    exact HK.out _ _ _ _ _ _ _ _ _ _ _ _ _ _ (HW.out.1.upd HW.out.2.1 HS.out.1 (by simpa using HS.out.2.1) hor (by omega)) (fun b hb hne hno => (Below.heap_setCell w1 ⟨NW, f, none⟩ _ b hne).trans (HS.out.1 b hb (hno f _ HW.out.2.1))) (by simp [World.setCell]; omega) hor (hbb.setCell (p := ⟨NW, f, none⟩) hge _)
end Go.Proofs.Ytcmdmmphakclmaa
