/-
  Put: a letter that is its sender's next one.
-/
import Derived.Test.YtcmdmmphakclmaaStoreE
namespace Go.Proofs.Ytcmdmmphakclmaa
open Go.RowKit Go.Sort
set_option linter.unusedVariables false
attribute [local go_sem ↓] Go.wp_at_zero Go.wp_at_succ
/-- One box's header, out of the row. -/
theorem full_at {w : World} {S : Nat → Prop} {g t m : Nat} {tb : TypeId} {bs : List (List Lt)} {box : List Lt} (h : Fill (Rfull 56 Rlt) w S g tb m bs) (hx : bs[t]? = some box) :
    ∃ G, w.cell? ⟨g, t, none⟩ = some (.slice (some ⟨G, 0, none⟩) box.length box.length) ∧ box.length ≤ maxLen ∧ Sl Rlt w S (some ⟨G, 0, none⟩) box := by
  obtain ⟨arr, hb, hsz, he⟩ := h
  obtain ⟨cs, ⟨G, rfl, h1, h2⟩, hc⟩ := he.2 t box hx
  refine ⟨G, ?_, h1, h2⟩
  have h3 := hc 0 _ rfl
  rw [List.getElem?_take] at h3
  split at h3
  · have h4 : arr[t]? = some (.slice (some ⟨G, 0, none⟩) box.length box.length) := by
      have : t * (Rfull 56 Rlt).size + 0 = t := by show t * 1 + 0 = t; omega
      rw [this] at h3
      simpa using h3
    exact hb.cell t h4
  · simp at h3
theorem new_cells (w : World) (cs : List Value) (t : TypeId) : ∀ j u, cs[j]? = some u → (w.alloc (.cells cs.toArray t)).cell? ((⟨w.heap.size, 0, none⟩ : Addr).add j) = some u := by
  intro j u hj
  obtain ⟨b, off, h, hc⟩ := CellsAt.new w cs.toArray t (0, 0) j u (by simpa using hj)
  injection h with h; injection h with h1 h2
  subst h1 h2
  rw [addr_add]; exact hc
theorem next_at' {w : World} {S S' : Nat → Prop} {h g n c m : Nat} {t1 t2 : TypeId} {s : St} (hL : Fill (Rint .u64) w NoS h t1 c s.last) (hn : s.last.length = n) (hB : Fill (Rsl 56 Rlt) w S g t2 m s.boxes) (hm : s.boxes.length = m) (hS : ∀ b, S b → S' b) (hh : S' h) (hg : S' g) :
    StAt w S' (some ⟨h, 0, none⟩) n (some ⟨g, 0, none⟩) m s :=
  ⟨hL.sl (fun _ h => h.elim) hh, hn, hB.sl hS hg, hm⟩
/-- The copy, with the letter in it. -/
theorem put_done {w3 w5 w7 w8 : World} {B1 B2 h g c m n f t q g7 c7 Rb : Nat} {tu tb tl : TypeId} {s : St} {box : List Lt} {l : Lt} {sq : Int} {va vb : Value} (q1 : Fill (Rint .u64) w3 NoS h tu c s.last)
    (q2 : Fill (Rfull 56 Rlt) w3 (fun b => B1 ≤ b ∧ b < B2 ∧ b ≠ g ∧ b ≠ h) g tb m s.boxes) (hb37 : Below w3.heap.size w3 w7) (hB2 : B2 ≤ w3.heap.size) (hB12 : B1 ≤ B2) (hz35 : w3.heap.size ≤ w5.heap.size) (h57 : w5.heap.size < w7.heap.size)
    (q7 : Fill Rlt w7 (fun b => (B1 ≤ b ∧ b < B2 ∧ b ≠ g ∧ b ≠ h) ∨ (w3.heap.size ≤ b ∧ b < w5.heap.size)) g7 tl c7 (box ++ [l])) (hg7 : w5.heap.size ≤ g7) (hbox : s.boxes[t]? = some box) (hq : box.length = q) (hc7 : q + 1 ≤ c7) (hm7 : c7 ≤ maxLen)
    (hf : f < s.last.length) (hgl : g < w3.heap.size) (hhl : h < w3.heap.size) (hhg : h ≠ g) (hn : s.last.length = n) (hm : s.boxes.length = m) (hlf : l.fr = (f : Int)) (hlt : l.to = (t : Int)) (hls : l.sq = sq) (hwf : (Lit.int .u64 sq).wf = true)
    (hR1 : Rb ≠ g) (hR2 : Rb ≠ h) (hR3 : Rb < B1) (W0 : Nat) (hW0 : W0 ≤ B1) (hgB : B1 ≤ g) (hhB : B1 ≤ h) (hw8 : w8 = (((w7.setCell ⟨g, t, none⟩ (.slice (some ⟨g7, 0, none⟩) (q + 1) c7)).setCell ⟨h, f, none⟩ (.int .u64 sq)).setCell ⟨Rb, 0, none⟩ va).setCell ⟨Rb, 1, none⟩ vb) :
    StAt w8 (mid W0 w8.heap.size) (some ⟨h, 0, none⟩) n (some ⟨g, 0, none⟩) m (putIn s l) := by
  have hlt7 := q7.lt
  have hz7 := hb37.size
  have htl := (List.getElem?_eq_some_iff.1 hbox).1
  have hsz8 : w8.heap.size = w7.heap.size := by rw [hw8]; simp [World.setCell]
  have a1 : Fill (Rint .u64) w7 NoS h tu c s.last := q1.up hb37 (fun _ h => h.elim) (fun _ h => h)
  have a2 := (a1.far (p := ⟨g, t, none⟩) hhg (fun h => h) (.slice (some ⟨g7, 0, none⟩) (q + 1) c7)).put (i := f) hf (x := sq) (cs := [.int .u64 sq]) ⟨rfl, hwf⟩ (fun h => h)
  rw [show f * (Rint .u64).size = f from Nat.mul_one f] at a2
  have a3 := (a2.far (p := ⟨Rb, 0, none⟩) hR2.symm (fun h => h) va).far (p := ⟨Rb, 1, none⟩) hR2.symm (fun h => h) vb
  have b1 : Fill (Rsl 56 Rlt) w7 (fun b => B1 ≤ b ∧ b < w7.heap.size ∧ b ≠ g ∧ b ≠ h) g tb m s.boxes :=
    ((q2.imp (Q := Rsl 56 Rlt) rfl (by rintro x cs ⟨G, rfl, hl, hs⟩; exact ⟨_, _, rfl, Nat.le_refl _, hl, hs⟩)).up hb37 (fun b h => by have := h.2.1; omega) (fun b h => ⟨h.1, by have := h.2.1; omega, h.2.2⟩))
  have b2 := b1.put (i := t) htl (x := box ++ [l]) (cs := [.slice (some ⟨g7, 0, none⟩) (q + 1) c7])
    ⟨_, c7, by rw [List.length_append, hq]; rfl, by rw [List.length_append, hq]; exact hc7, hm7, q7.sl (fun b h => by rcases h with h | h; exact ⟨h.1, by have := h.2.1; omega, h.2.2⟩; exact ⟨by omega, by omega, by omega, by omega⟩) ⟨by omega, hlt7, by omega, by omega⟩⟩ (fun h => h.2.2.1 rfl)
  rw [show t * (Rsl 56 Rlt).size = t from Nat.mul_one t] at b2
  have b3 := ((b2.far (p := ⟨h, f, none⟩) hhg.symm (fun hb => hb.2.2.2 rfl) (.int .u64 sq)).far (p := ⟨Rb, 0, none⟩) hR1.symm (fun hb => by have h9 := hb.1; dsimp only at h9; omega) va).far (p := ⟨Rb, 1, none⟩) hR1.symm (fun hb => by have h9 := hb.1; dsimp only at h9; omega) vb
  have e1 : (putIn s l).last = s.last.set f sq := by simp [putIn, hlf, hls]
  have e2 : (putIn s l).boxes = s.boxes.set t (box ++ [l]) := by simp [putIn, boxOf, hlt, List.getD_eq_getElem?_getD, hbox]
  subst hw8
  refine next_at' (by rw [e1]; exact a3) (by rw [e1, List.length_set]; exact hn) (by rw [e2]; exact b3) (by rw [e2, List.length_set]; exact hm) (fun b hb => ⟨by have := hb.1; omega, by rw [hsz8]; exact hb.2.1⟩) ⟨by omega, by rw [hsz8]; omega⟩ ⟨by omega, by rw [hsz8]; omega⟩
theorem hb37_size {B : Nat} {w w' : World} (h : Below B w w') : w.heap.size ≤ w'.heap.size := h.size
theorem copyLetter_raw (cv : Bool) (fr tt sq : Int) (text : List Int) (T : Option Addr) (n c : Nat) (hn : text.length = n) (w : World) (h : Sl (Rint .u8) w (lo w.heap.size) T text) (hz : n ≤ 140737488355328) :
    Calls Try.prog 25 #[.agg #[.bool cv, .int .i64 fr, .int .i64 tt, .int .u64 sq, .slice T n c]] w (fun e w' => ∃ (T' : Option Addr) (n' c' : Nat), e = .returned (.agg #[.bool cv, .int .i64 fr, .int .i64 tt, .int .u64 sq, .slice T' n' c']) ∧ text.length = n' ∧ n' ≤ c' ∧ c' ≤ maxLen ∧ Sl (Rint .u8) w' (mid w.heap.size w'.heap.size) T' text ∧ Below w.heap.size w w') :=
  copyLetter_any ⟨cv, fr, tt, sq, text⟩ T n c hn w h hz
theorem app_ready {w3 w5 : World} {SA : Nat → Prop} {G : Nat} {box : List Lt} {l : Lt} {T5 : Option Addr} {n5 c5 : Nat} {o : Obj} {cv : Bool} {fr tt sq : Int} (hGs : Sl Rlt w3 SA (some ⟨G, 0, none⟩) box) (hSA : ∀ b, SA b → b < w3.heap.size) (hb5 : Below w3.drew.heap.size w3.drew w5)
    (hs5 : Sl (Rint .u8) w5 (mid w3.drew.heap.size w5.heap.size) T5 l.text) (hn5 : l.text.length = n5) (hl5 : n5 ≤ c5) (hm5 : c5 ≤ maxLen) (h1 : l.cover = cv) (h2 : l.fr = fr) (h3 : l.to = tt) (h4 : l.sq = sq)
    (w1 : (Lit.int .i64 fr).wf = true) (w2 : (Lit.int .i64 tt).wf = true) (w3' : (Lit.int .u64 sq).wf = true) :
    Sl Rlt (w5.alloc o) (fun b => SA b ∨ (w3.heap.size ≤ b ∧ b < w5.heap.size)) (some ⟨G, 0, none⟩) box ∧
    Rlt.rd (w5.alloc o) (fun b => SA b ∨ (w3.heap.size ≤ b ∧ b < w5.heap.size)) l [.bool cv, .int .i64 fr, .int .i64 tt, .int .u64 sq, .slice T5 n5 c5] ∧ ∀ b, (SA b ∨ (w3.heap.size ≤ b ∧ b < w5.heap.size)) → b < (w5.alloc o).heap.size := by
  have hz : w3.heap.size ≤ w5.heap.size := by have := hb5.size; simpa using this
  subst hn5 h1 h2 h3 h4
  refine ⟨hGs.keep (fun p hp => ?_) fun b h => .inl h, ⟨T5, c5, rfl, w1, w2, w3', hl5, hm5, hs5.keep (fun p hp => World.cell?_alloc_lt _ _ _ hp.2) fun b h => .inr ⟨by have := h.1; simpa using this, h.2⟩⟩, fun b hb => ?_⟩
  · have := hSA _ hp
    exact (World.cell?_alloc_lt _ _ _ (by omega)).trans (hb5.cell (p := p) (by simpa using this))
  · rcases hb with h | h
    · have := hSA _ h; simp; omega
    · simp; omega
set_option maxHeartbeats 2000000 in
theorem put_new (A : Option Addr) (n cap : Nat) (B : Option Addr) (m cap' : Nat) (s : St) (f t : Nat) (sq : Int) (T : Option Addr) (tn tc : Nat) (w : World) (hs : StAt w (lo w.heap.size) A n B m s) (hf : StFit 140737488355328 s) (hc : checkB s = true) (hpos : 0 < s.last.length)
    (hsq : 0 ≤ sq) (hk : keepL false (f : Int) (t : Int) sq tn = true) (d1 : decide (n ≤ f) = false) (d2 : decide (n ≤ t) = false) (hfn : f < n) (htn : t < n) (x : Int) (hx : s.last[f]? = some x) (hsq2 : sq < 18446744073709551616) (hlt : x < sq) (d3 : decide (sq ≤ x) = false) (d4 : (sq - x != 1) = false) (box : List Lt) (q : Nat) (hbox : s.boxes[t]? = some box) (hq : box.length = q) (hqb : (q + 1) * 56 ≤ 140737488355328)
    (l : Lt) (hlc : l.cover = false) (hlf : l.fr = f) (hlt' : l.to = t) (hls : l.sq = sq) (htn' : l.text.length = tn) (htt : tn ≤ tc) (htm : tc ≤ maxLen) (htx : Sl (Rint .u8) w (lo w.heap.size) T l.text) (hwf : (Lit.int .u64 sq).wf = true) (hm8 : m ≤ 8) (hn8 : n ≤ 8) (ht64 : tn ≤ 64) :
    Calls Try.prog 11 #[.agg #[.slice A n cap, .slice B m cap'], .agg #[.bool false, .int .i64 (f : Int), .int .i64 (t : Int), .int .u64 sq, .slice T tn tc]] w (StoreRet (putIn s l) 1 0 w) := by
  obtain ⟨b, off, rfl, hbl, hxw, hx0⟩ := hs.last.int hx
  have hxb := bounds_u64 hxw
  clear hxw
  have HBX := Lib.hid (And.intro hbox hq)
  have HL := Lib.hid (And.intro hlc (And.intro hlf (And.intro hlt' (And.intro hls (And.intro htn' (And.intro htt (And.intro htm (And.intro htx hwf))))))))
  have HXX := Lib.hid hx
  have e1 : (0 : Int) ≤ (t : Int) := by omega
  have e2 : (t : Int) < (m : Int) := by (have := hs.boxesN; have := (List.getElem?_eq_some_iff.1 hbox).1; omega)
  have e3 : (0 : Int) ≤ (f : Int) := by omega
  have e4 : (f : Int) < (n : Int) := by omega
  clear hbox hq hlc hlf hlt' hls htn' htt htm htx hwf hx
  obtain ⟨hcl, hok⟩ : checkB s = true ∧ True := ⟨hc, trivial⟩
  have HC := Lib.hid (show errArg (checkB s) = 0 by rw [hc]; rfl); clear hc hcl hok
  have HS := Lib.hid (hs.below (W3.below w (.slice (some ⟨b, off, none⟩) n cap) (.slice B m cap') (.bool false) (.int .i64 (f:Int)) (.int .i64 (t:Int)) (.int .u64 sq) (.slice T tn tc)) (W3.below w (.slice (some ⟨b, off, none⟩) n cap) (.slice B m cap') (.bool false) (.int .i64 (f:Int)) (.int .i64 (t:Int)) (.int .u64 sq) (.slice T tn tc)).size); clear hs
  have HF := Lib.hid hf; clear hf
  have HP := Lib.hid hpos; clear hpos
  have HSQ := Lib.hid hsq; have HK := Lib.hid hk; clear hk
  have HWF := Lib.hid (And.intro (show (Lit.int .i64 (f : Int)).wf = true from WalkArith.wf_i64 ⟨by omega, by omega⟩) (And.intro (show (Lit.int .i64 (t : Int)).wf = true from WalkArith.wf_i64 ⟨by omega, by omega⟩) HL.out.2.2.2.2.2.2.2.2))
  have HQB := Lib.hid (And.intro (show q + 1 ≤ maxLen by simp only [maxLen]; omega) hqb)
  go_enter Try.func11, Try.ntmps11
  go_wp2_with (first
    | (go_at_call 15
       go_loud (skip
                refine (check_any (some ⟨b, off, none⟩) n cap B m cap' s _ HS.out).mono ?_; rintro e w1 ⟨rfl, hb1⟩; rw [HC.out]
                have HB1 := Lib.hid (show Below (w.heap.size + 3) (W3 w (.slice (some ⟨b, off, none⟩) n cap) (.slice B m cap') (.bool false) (.int .i64 (f:Int)) (.int .i64 (t:Int)) (.int .u64 sq) (.slice T tn tc)) w1 from by have := hb1; rw [← W3.size w (.slice (some ⟨b, off, none⟩) n cap) (.slice B m cap') (.bool false) (.int .i64 (f:Int)) (.int .i64 (t:Int)) (.int .u64 sq) (.slice T tn tc)]; exact hb1)
                have z1 : w.heap.size + 3 ≤ w1.heap.size := by (have h9 := HB1.out.size; rw [W3.size] at h9; omega)
                obtain ⟨gS, gL, gR⟩ := mem3 HB1.out rfl
                have a0 := gS.cell 0 (v := .slice (some ⟨b, off, none⟩) n cap) rfl; have a1 := gS.cell 1 (v := .slice B m cap') rfl
                have HM1 := Lib.hid (And.intro gS (And.intro gL gR))
                clear gS gL gR hb1
                skip))
    | (go_at_call 23
       go_loud (skip
                refine (copyOf_any (some ⟨b, off, none⟩) n cap B m cap' s w1 (HS.out.below (show Below _ _ w1 from by rw [W3.size]; exact HB1.out) (by rw [W3.size]; exact z1)) HF.out HP.out).mono ?_; rintro e w2 ⟨h, n2, c2, g, m2, rfl, hn2, hc2, hcm, hm2, hmm, hH, hG, hhg, hLast, hBox, hb2⟩
                obtain rfl : n2 = n := hn2.symm.trans HS.out.lastN
                obtain rfl : m2 = m := hm2.symm.trans HS.out.boxesN
                have z2 : w.heap.size + 3 ≤ w2.heap.size := by (have := hb2.size; omega)
                have zA : w.heap.size < w2.heap.size := by omega
                have zB : w.heap.size + 1 < w2.heap.size := by omega
                have zC : w.heap.size + 1 + 1 < w2.heap.size := by omega
                have g2 := (And.intro (HM1.out.1.below hb2 (by omega)) (And.intro (HM1.out.2.1.below hb2 (by omega)) (HM1.out.2.2.below hb2 (by omega))))
                clear a0 a1
                have a0 := g2.1.cell 0 (v := .slice (some ⟨b, off, none⟩) n2 cap) rfl; have a1 := g2.1.cell 1 (v := .slice B m2 cap') rfl
                have l0 := g2.2.1.cell 0 (v := .bool false) rfl; have l1 := g2.2.1.cell 1 (v := .int .i64 (f:Int)) rfl; have l2 := g2.2.1.cell 2 (v := .int .i64 (t:Int)) rfl; have l3 := g2.2.1.cell 3 (v := .int .u64 sq) rfl; have l4 := g2.2.1.cell 4 (v := .slice T tn tc) rfl
                have HM2 := Lib.hid g2
                have HX := Lib.hid (And.intro hn2 (And.intro hc2 (And.intro hcm (And.intro hm2 (And.intro hmm (And.intro hLast (And.intro hBox hb2)))))))
                have HQ := Lib.hid (And.intro hH (And.intro hG hhg))
                clear g2 hn2 hc2 hcm hm2 hmm hLast hBox hb2 HM1 hH hG hhg
                skip))
    | (go_at_call 24
       go_loud (skip
                refine (keep_any false (f:Int) (t:Int) sq HSQ.out T tn tc _).mono ?_; rintro e w3 ⟨rfl, hb3⟩; rw [HK.out]
                have z3 : w2.heap.size < w3.heap.size := by (have := hb3.size; simp at this; omega)
                have g3 := And.intro ((HM2.out.1.alloc _).below hb3 (by simp; omega)) (And.intro ((HM2.out.2.1.alloc _).below hb3 (by simp; omega)) (And.intro ((HM2.out.2.2.alloc _).below hb3 (by simp; omega)) ((Blk.new w2 28 #[.slice (some ⟨h, 0, none⟩) n2 c2, .slice (some ⟨g, 0, none⟩) m2 m2] rfl).below hb3 (by simp))))
                clear a0 a1 l0 l1 l2 l3 l4
                have a0 := g3.1.cell 0 (v := .slice (some ⟨b, off, none⟩) n2 cap) rfl; have a1 := g3.1.cell 1 (v := .slice B m2 cap') rfl
                have l0 := g3.2.1.cell 0 (v := .bool false) rfl; have l1 := g3.2.1.cell 1 (v := .int .i64 (f:Int)) rfl; have l2 := g3.2.1.cell 2 (v := .int .i64 (t:Int)) rfl; have l3 := g3.2.1.cell 3 (v := .int .u64 sq) rfl; have l4 := g3.2.1.cell 4 (v := .slice T tn tc) rfl
                have r0 := g3.2.2.1.cell 0 (v := .slice none 0 0) rfl; have r1 := g3.2.2.1.cell 1 (v := .slice none 0 0) rfl; have fR := g3.2.2.1.frozen
                have x0 := g3.2.2.2.cell 0 (v := .slice (some ⟨h, 0, none⟩) n2 c2) rfl; have x1 := g3.2.2.2.cell 1 (v := .slice (some ⟨g, 0, none⟩) m2 m2) rfl
                have HM3 := Lib.hid g3; have HB3 := Lib.hid hb3
                clear g3 hb3 HM2
                have xl := ((put_frame (W3.below w _ _ _ _ _ _ _) (W3.size w _ _ _ _ _ _ _) HB1.out HX.out.2.2.2.2.2.2.2 HB3.out HX.out.2.2.2.2.2.1 HX.out.2.2.2.2.2.2.1).2.2.cell (p := ⟨b, off + f, none⟩) hbl).trans hx0
                have qq := put_frame (W3.below w _ _ _ _ _ _ _) (W3.size w _ _ _ _ _ _ _) HB1.out HX.out.2.2.2.2.2.2.2 HB3.out HX.out.2.2.2.2.2.1 HX.out.2.2.2.2.2.2.1
                obtain ⟨G, hGc, hGm, hGs⟩ := full_at qq.2.1 HBX.out.1
                rw [HBX.out.2] at hGc
                have hgl := qq.2.1.lt; have hhl := hLast_lt qq.1
                have fg := qq.2.1.frozen; have fh := qq.1.frozen
                obtain ⟨u9, hu9⟩ := qq.1.cell (i := f) (by show f < c2 * 1; have := HX.out.2.1; omega)
                have HQQ := Lib.hid qq; have HGS := Lib.hid hGs
                clear qq hGs hGm)))
  have hne : g ≠ w.heap.size + 1 := by (have := HQ.out.2.1; omega)
  have hne2 : g ≠ w2.heap.size := by (have h9 := HX.out.2.2.2.2.2.2.1.lt; omega)
  have hne3 : h ≠ g := HQ.out.2.2
  have hne4 : h ≠ w.heap.size + 1 := by (have := HQ.out.1; omega)
  have hne5 : h ≠ w2.heap.size := by (have h9 := hLast_lt HX.out.2.2.2.2.2.1; omega)
  have zD : w.heap.size + 1 < w3.heap.size := by omega
  have zE : w2.heap.size < w3.heap.size := z3
  have hne6 : g ≠ w.heap.size + 2 := by (have := HQ.out.2.1; omega)
  have hne7 : h ≠ w.heap.size + 2 := by (have := HQ.out.1; omega)
  have hne8 : w2.heap.size ≠ w.heap.size + 2 := by omega
  refine wp_region_noPanic ?_
  refine wp_region_held_drew (S := (fun w' => w'.cell? ⟨w.heap.size + 1, 0, none⟩ = some (.bool false) ∧ w'.cell? ⟨w.heap.size + 1, 1, none⟩ = some (.int .i64 (f : Int)) ∧ w'.cell? ⟨w.heap.size + 1, 2, none⟩ = some (.int .i64 (t : Int)) ∧ w'.cell? ⟨w.heap.size + 1, 3, none⟩ = some (.int .u64 sq) ∧ w'.cell? ⟨w.heap.size + 1, 4, none⟩ = some (.slice T tn tc) ∧ w'.cell? ⟨w2.heap.size, 1, none⟩ = some (.slice (some ⟨g, 0, none⟩) m2 m2))) (by kernel_rfl) ?_ (fun hHeld0 => ?_)
  · (try dsimp only)
    (first | assumption | (go_keep; done) | (refine ⟨?_, ?_, ?_, ?_, ?_, ?_⟩ <;> (first | (assumption) | (simp [go_sem, *]; done) | (simp (disch := (simp; try omega)) [*, World.cell?_alloc_past, World.cell?_setCell_other]; done) | (rw [World.cell?_setCell_other _ _ _ _ (by simp; try omega)]; assumption))))
  refine wpAnyH_take (i := 0) (oi := _) (v := ?v1) rfl (by kernel_rfl) (by kernel_rfl) (by kernel_rfl) (fun _ _ _ h => h) (Or.inl ⟨by rfl, ?hy1⟩) (by assumption) ?rest1
  case hy1 => (intro w hSw; (try dsimp only at hSw); go_simp; try with_reducible rfl)
  try simp only [Act.put, List.setIfInBounds_toArray, List.set_cons_zero, List.set_cons_succ]
  refine wpAnyH_take (i := 1) (oi := _) (v := ?v2) rfl (by kernel_rfl) (by kernel_rfl) (by kernel_rfl) (fun _ _ _ h => h) (Or.inl ⟨by rfl, ?hy2⟩) (by assumption) ?rest2
  case hy2 => (intro w hSw; (try dsimp only at hSw); go_simp; try with_reducible rfl)
  try simp only [Act.put, List.setIfInBounds_toArray, List.set_cons_zero, List.set_cons_succ]
  refine wpAnyH_take (i := 2) (oi := _) (v := ?v3) rfl (by kernel_rfl) (by kernel_rfl) (by kernel_rfl) (fun _ _ _ h => h) (Or.inl ⟨by rfl, ?hy3⟩) (by assumption) ?rest3
  case hy3 => (intro w hSw; (try dsimp only at hSw); go_simp; try with_reducible rfl)
  try simp only [Act.put, List.setIfInBounds_toArray, List.set_cons_zero, List.set_cons_succ]
  refine wpAnyH_take (i := 3) (oi := _) (v := ?v4) rfl (by kernel_rfl) (by kernel_rfl) (by kernel_rfl) (fun _ _ _ h => h) (Or.inl ⟨by rfl, ?hy4⟩) (by assumption) ?rest4
  case hy4 => (intro w hSw; (try dsimp only at hSw); go_simp; try with_reducible rfl)
  try simp only [Act.put, List.setIfInBounds_toArray, List.set_cons_zero, List.set_cons_succ]
  refine wpAnyH_take (i := 4) (oi := _) (v := ?v5) rfl (by kernel_rfl) (by kernel_rfl) (by kernel_rfl) (fun _ _ _ h => h) (Or.inl ⟨by rfl, ?hy5⟩) (by assumption) ?rest5
  case hy5 => (intro w hSw; (try dsimp only at hSw); go_simp; try with_reducible rfl)
  try simp only [Act.put, List.setIfInBounds_toArray, List.set_cons_zero, List.set_cons_succ]
  refine wpAnyH_take (i := 5) (oi := _) (v := ?v6) rfl (by kernel_rfl) (by kernel_rfl) (by kernel_rfl) (fun _ _ _ h => h) (Or.inl ⟨by rfl, ?hy6⟩) (by assumption) ?rest6
  case hy6 => (intro w hSw; (try dsimp only at hSw); go_simp; try with_reducible rfl)
  try simp only [Act.put, List.setIfInBounds_toArray, List.set_cons_zero, List.set_cons_succ]
  refine wpAnyH_take (i := 6) (oi := _) (v := ?v7) rfl (by kernel_rfl) (by kernel_rfl) (by kernel_rfl) (fun _ _ _ h => h) (Or.inl ⟨by rfl, ?hy7⟩) (by assumption) ?rest7
  case hy7 => (intro w hSw; (try dsimp only at hSw); go_simp; try with_reducible rfl)
  try simp only [Act.put, List.setIfInBounds_toArray, List.set_cons_zero, List.set_cons_succ]
  refine wpAnyH_take (i := 7) (oi := _) (v := ?v8) rfl (by kernel_rfl) (by kernel_rfl) (by kernel_rfl) (fun _ _ _ h => h) (Or.inl ⟨by rfl, ?hy8⟩) (by assumption) ?rest8
  case hy8 => (intro w hSw; (try dsimp only at hSw); go_simp; try with_reducible rfl)
  try simp only [Act.put, List.setIfInBounds_toArray, List.set_cons_zero, List.set_cons_succ]
  refine wpAnyH_take (i := 8) (oi := _) (v := ?v9) rfl (by kernel_rfl) (by kernel_rfl) (by kernel_rfl) (fun _ _ _ h => h) (Or.inl ⟨by rfl, ?hy9⟩) (by assumption) ?rest9
  case hy9 => (intro w hSw; (try dsimp only at hSw); go_simp; try with_reducible rfl)
  try simp only [Act.put, List.setIfInBounds_toArray, List.set_cons_zero, List.set_cons_succ]
  refine wpAnyH_take (i := 10) (oi := _) (v := ?v10) rfl (by kernel_rfl) (by kernel_rfl) (by kernel_rfl) (fun _ _ _ h => h) (Or.inl ⟨by rfl, ?hy10⟩) (by assumption) ?rest10
  case hy10 => (intro w hSw; (try dsimp only at hSw); go_simp; try with_reducible rfl)
  try simp only [Act.put, List.setIfInBounds_toArray, List.set_cons_zero, List.set_cons_succ]
  refine wpAnyH_ready (rs := [9, 11]) (by kernel_rfl) (by simp) ?_
  refine (AllReadyH.cons (o := _) rfl (fun K hK => ?_) (AllReadyH.cons (o := _) rfl (fun K hK => ?_) AllReadyH.nil))
  · skip
    go_simp
    refine hK.out _ _ ?_ (fun hHeld1 => ?_)
    · (try dsimp only)
      (first | assumption | (go_keep; done) | (refine ⟨?_, ?_, ?_, ?_, ?_, ?_⟩ <;> (first | (assumption) | (simp [go_sem, *]; done) | (simp (disch := (simp; try omega)) [*, World.cell?_alloc_past, World.cell?_setCell_other]; done) | (rw [World.cell?_setCell_other _ _ _ _ (by simp; try omega)]; assumption))))
    clear hK K hHeld0
    try simp only [Act.put, List.setIfInBounds_toArray, List.set_cons_zero, List.set_cons_succ]
    refine wpAnyH_ready (rs := [11]) (by kernel_rfl) (by simp) ?_
    refine (AllReadyH.cons (o := _) rfl (fun K hK => ?_) AllReadyH.nil)
    go_simp
    refine (copyLetter_raw false (f : Int) (t : Int) sq l.text T tn tc HL.out.2.2.2.2.1 _ (HL.out.2.2.2.2.2.2.2.1.below (HQQ.out.2.2.drew) (by have := HQQ.out.2.2.size; simpa using this)) (by omega)).mono ?_
    rintro e w5 ⟨T5, n5, c5, rfl, hn5, hl5, hm5, hs5, hb5⟩
    obtain ⟨hcc, hff⟩ := bcell hb5
    have y0 : w3.heap.size ≤ w5.heap.size := by (have h9 := hb5.size; simpa using h9)
    have y1 : w.heap.size + 1 < w5.heap.size := by omega
    have y2 : w2.heap.size < w5.heap.size := by omega
    have y3 : g < w5.heap.size := by omega
    have y4 : h < w5.heap.size := by omega
    have k0 := (hcc (w.heap.size + 1) 0 (by simp; omega)).trans l0
    have k1 := (hcc (w.heap.size + 1) 1 (by simp; omega)).trans l1
    have k2 := (hcc (w.heap.size + 1) 2 (by simp; omega)).trans l2
    have k3 := (hcc (w.heap.size + 1) 3 (by simp; omega)).trans l3
    have k4 := (hcc (w.heap.size + 1) 4 (by simp; omega)).trans l4
    have k5 := (hcc w2.heap.size 1 (by simp; omega)).trans x1
    have kg := (hcc g t (by simp; omega)).trans hGc
    have HB5 := Lib.hid hb5
    have HAP := Lib.hid (fun o => app_ready (o := o) (l := l) HGS.out (fun b hb => by have := hb.2.1; omega) hb5 hs5 hn5 hl5 hm5 HL.out.1 HL.out.2.1 HL.out.2.2.1 HL.out.2.2.2.1 HWF.out.1 HWF.out.2.1 HWF.out.2.2)
    clear hcc hff hb5 hs5 hn5
    try dsimp only
    refine hK.out _ _ ?_ (fun hHeld2 => ?_)
    · (try dsimp only)
      (first | assumption | (go_keep; done) | (refine ⟨?_, ?_, ?_, ?_, ?_, ?_⟩ <;> (first | (assumption) | (simp [go_sem, *]; done) | (simp (disch := (simp; try omega)) [*, World.cell?_alloc_past, World.cell?_setCell_other]; done) | (rw [World.cell?_setCell_other _ _ _ _ (by simp; try omega)]; assumption))))
    clear hK K hHeld1
    try simp only [Act.put, List.setIfInBounds_toArray, List.set_cons_zero, List.set_cons_succ]
    refine wpAnyH_ready (rs := [12]) (by kernel_rfl) (by simp) ?_
    refine (AllReadyH.cons (o := _) rfl (fun K hK => ?_) AllReadyH.nil)
    go_simp
    refine hK.out _ _ ?_ (fun hHeld3 => ?_)
    · (try dsimp only)
      (first | assumption | (go_keep; done) | (refine ⟨?_, ?_, ?_, ?_, ?_, ?_⟩ <;> (first | (assumption) | (simp [go_sem, *]; done) | (simp (disch := (simp; try omega)) [*, World.cell?_alloc_past, World.cell?_setCell_other]; done) | (rw [World.cell?_setCell_other _ _ _ _ (by simp; try omega)]; assumption))))
    clear hK K hHeld2
    try simp only [Act.put, List.setIfInBounds_toArray, List.set_cons_zero, List.set_cons_succ]
    refine wpAnyH_ready (rs := [13]) (by kernel_rfl) (by simp) ?_
    refine (AllReadyH.cons (o := _) rfl (fun K hK => ?_) AllReadyH.nil)
    refine step_append_full rfl (.tmp 64) (.tmp 67) 23 rfl ei_letters ⟨G, 0, none⟩ q (by rfl) HBX.out.2 (HAP.out _).1 (HAP.out _).2.2 ⟨w5.heap.size, 0, none⟩ 1 (by rfl) (HAP.out _).2.1 (new_cells _ _ _) HQB.out.1 HQB.out.2 ?_
    intro g7 c7 w7 hc7 hm7 hg7 hf7 hb7
    obtain ⟨hcc, hff⟩ := bcell hb7
    have v0 : w5.heap.size < w7.heap.size := by (have h9 := hb7.size; simp at h9; omega)
    have k0 := (hcc (w.heap.size + 1) 0 (by simp; omega)).trans ((World.cell?_alloc_lt _ _ _ y1).trans k0)
    have k1 := (hcc (w.heap.size + 1) 1 (by simp; omega)).trans ((World.cell?_alloc_lt _ _ _ y1).trans k1)
    have k2 := (hcc (w.heap.size + 1) 2 (by simp; omega)).trans ((World.cell?_alloc_lt _ _ _ y1).trans k2)
    have k3 := (hcc (w.heap.size + 1) 3 (by simp; omega)).trans ((World.cell?_alloc_lt _ _ _ y1).trans k3)
    have k4 := (hcc (w.heap.size + 1) 4 (by simp; omega)).trans ((World.cell?_alloc_lt _ _ _ y1).trans k4)
    have k5 := (hcc w2.heap.size 1 (by simp; omega)).trans ((World.cell?_alloc_lt _ _ _ y2).trans k5)
    have kg := (hcc g t (by simp; omega)).trans ((World.cell?_alloc_lt _ _ _ y3).trans kg)
    have kf : ∀ o, w7.frozen? ⟨g, o, none⟩ = false := by (intro o; rw [hff g o (by simp; omega)]; exact (World.frozen?_alloc_past _ g o y3).trans ((HB5.out.frozen (p := ⟨g, o, none⟩) (by simp; omega)).trans (fg o)))
    have H7 := Lib.hid (And.intro hc7 (And.intro hm7 (And.intro hg7 (And.intro hf7 hb7))))
    clear hcc hff hc7 hm7 hg7 hf7 hb7
    refine hK.out _ _ ?_ (fun hHeld4 => ?_)
    · (try dsimp only)
      (first | assumption | (go_keep; done) | (refine ⟨?_, ?_, ?_, ?_, ?_, ?_⟩ <;> (first | (assumption) | (simp [go_sem, *]; done) | (simp (disch := (simp; try omega)) [*, World.cell?_alloc_past, World.cell?_setCell_other]; done) | (rw [World.cell?_setCell_other _ _ _ _ (by simp; try omega)]; assumption))))
    clear hK K hHeld3
    try simp only [Act.put, List.setIfInBounds_toArray, List.set_cons_zero, List.set_cons_succ]
    refine wpAnyH_take (i := 14) (oi := _) (v := ?v11) rfl (by kernel_rfl) (by kernel_rfl) (by kernel_rfl) (fun _ _ _ h => h) (Or.inl ⟨by rfl, ?hy11⟩) (by assumption) ?rest11
    case hy11 => (intro w hSw; (try dsimp only at hSw); go_simp; try with_reducible rfl)
    try simp only [Act.put, List.setIfInBounds_toArray, List.set_cons_zero, List.set_cons_succ]
    refine wpAnyH_ready (rs := [15]) (by kernel_rfl) (by simp) ?_
    refine (AllReadyH.cons (o := _) rfl (fun K hK => ?_) AllReadyH.nil)
    go_simp
    refine hK.out _ _ ?_ (fun hHeld5 => ?_)
    · (try dsimp only)
      (first | assumption | (go_keep; done) | (refine ⟨?_, ?_, ?_, ?_, ?_, ?_⟩ <;> (first | (assumption) | (simp [go_sem, *]; done) | (simp (disch := (simp; try omega)) [*, World.cell?_alloc_past, World.cell?_setCell_other]; done) | (rw [World.cell?_setCell_other _ _ _ _ (by simp; try omega)]; assumption))))
    clear hK K hHeld4
    try simp only [Act.put, List.setIfInBounds_toArray, List.set_cons_zero, List.set_cons_succ]
    refine wpAnyH_done (by kernel_rfl) ?_ _
    refine NoPanic.normal ?_
    clear hHeld5
    have hb57 : RowKit.Below w5.heap.size w5 w7 := ((Below.refl _ _).alloc (Nat.le_refl _) _).trans (H7.out.2.2.2.2.mono (by simp))
    have hb37 : RowKit.Below w3.heap.size w3 w7 := ((Below.refl _ _).drew.trans HB5.out).trans (hb57.mono y0)
    have p0 := (hb37.cell (p := ⟨w2.heap.size, 0, none⟩) zE).trans x0
    have p1 := (hb37.cell (p := ⟨w.heap.size + 2, 0, none⟩) (show w.heap.size + 2 < w3.heap.size by omega)).trans r0
    have p2 := (hb37.cell (p := ⟨w.heap.size + 2, 1, none⟩) (show w.heap.size + 2 < w3.heap.size by omega)).trans r1
    have p3 : ∀ o, w7.frozen? ⟨w.heap.size + 2, o, none⟩ = false := fun o => (hb37.frozen (p := ⟨w.heap.size + 2, o, none⟩) (show w.heap.size + 2 < w3.heap.size by omega)).trans (fR o)
    have p4 := (hb37.cell (p := ⟨h, f, none⟩) hhl).trans hu9
    have p5 : ∀ o, w7.frozen? ⟨h, o, none⟩ = false := fun o => (hb37.frozen (p := ⟨h, o, none⟩) hhl).trans (fh o)
    have HB37 := Lib.hid hb37
    clear hb57 hb37
    clear x0 x1 r0 r1 fR hu9 fh l0 l1 l2 l3 l4 a0 a1 xl hGc fg
    go_wp2
    refine bodyPost_ret (v := .tuple #[.agg #[.slice (some ⟨h, 0, none⟩) n2 c2, .slice (some ⟨g, 0, none⟩) m2 m2], .int .u8 1, .int .i64 0]) (by simp [results, Try.results11, go_sem, *]) rfl ?_
    have hs7 := H7.out
    have hqq := HQQ.out
    have hl9 := HL.out
    have hb1z := hb37_size HB37.out
    have hw1 : w1.heap.size ≤ w2.heap.size := HX.out.2.2.2.2.2.2.2.size
    have hw1' : w.heap.size + 3 ≤ w1.heap.size := z1
    refine ⟨_, _, _, _, _, _, rfl, put_done hqq.1 hqq.2.1 HB37.out (by omega) hw1 y0 v0 hs7.2.2.2.1 (by have h9 := hs7.2.2.1; simp at h9; omega) HBX.out.1 HBX.out.2 hs7.1 hs7.2.1 (List.getElem?_eq_some_iff.1 HXX.out).1 hgl hhl hne3 HX.out.1 HX.out.2.2.2.1 hl9.2.1 hl9.2.2.1 hl9.2.2.2.1 hl9.2.2.2.2.2.2.2.2 (Ne.symm hne6) (Ne.symm hne7) (by omega) w.heap.size (by omega) HQ.out.2.1 HQ.out.1 rfl, HX.out.2.1, HX.out.2.2.1, Nat.le_refl _, HX.out.2.2.2.2.1, ?_⟩
    exact ((((hqq.2.2.trans (HB37.out.mono hqq.2.2.size)).setCell (by have := HQ.out.2.1; simp; omega) _).setCell (by have := HQ.out.1; simp; omega) _).setCell (by simp; omega) _).setCell (by simp; omega) _
  · skip
    go_simp
    refine (copyLetter_raw false (f : Int) (t : Int) sq l.text T tn tc HL.out.2.2.2.2.1 _ (HL.out.2.2.2.2.2.2.2.1.below (HQQ.out.2.2.drew) (by have := HQQ.out.2.2.size; simpa using this)) (by omega)).mono ?_
    rintro e w5 ⟨T5, n5, c5, rfl, hn5, hl5, hm5, hs5, hb5⟩
    obtain ⟨hcc, hff⟩ := bcell hb5
    have y0 : w3.heap.size ≤ w5.heap.size := by (have h9 := hb5.size; simpa using h9)
    have y1 : w.heap.size + 1 < w5.heap.size := by omega
    have y2 : w2.heap.size < w5.heap.size := by omega
    have y3 : g < w5.heap.size := by omega
    have y4 : h < w5.heap.size := by omega
    have k0 := (hcc (w.heap.size + 1) 0 (by simp; omega)).trans l0
    have k1 := (hcc (w.heap.size + 1) 1 (by simp; omega)).trans l1
    have k2 := (hcc (w.heap.size + 1) 2 (by simp; omega)).trans l2
    have k3 := (hcc (w.heap.size + 1) 3 (by simp; omega)).trans l3
    have k4 := (hcc (w.heap.size + 1) 4 (by simp; omega)).trans l4
    have k5 := (hcc w2.heap.size 1 (by simp; omega)).trans x1
    have kg := (hcc g t (by simp; omega)).trans hGc
    have HB5 := Lib.hid hb5
    have HAP := Lib.hid (fun o => app_ready (o := o) (l := l) HGS.out (fun b hb => by have := hb.2.1; omega) hb5 hs5 hn5 hl5 hm5 HL.out.1 HL.out.2.1 HL.out.2.2.1 HL.out.2.2.2.1 HWF.out.1 HWF.out.2.1 HWF.out.2.2)
    clear hcc hff hb5 hs5 hn5
    try dsimp only
    refine hK.out _ _ ?_ (fun hHeld6 => ?_)
    · (try dsimp only)
      (first | assumption | (go_keep; done) | (refine ⟨?_, ?_, ?_, ?_, ?_, ?_⟩ <;> (first | (assumption) | (simp [go_sem, *]; done) | (simp (disch := (simp; try omega)) [*, World.cell?_alloc_past, World.cell?_setCell_other]; done) | (rw [World.cell?_setCell_other _ _ _ _ (by simp; try omega)]; assumption))))
    clear hK K hHeld0
    try simp only [Act.put, List.setIfInBounds_toArray, List.set_cons_zero, List.set_cons_succ]
    refine wpAnyH_ready (rs := [9, 12]) (by kernel_rfl) (by simp) ?_
    refine (AllReadyH.cons (o := _) rfl (fun K hK => ?_) (AllReadyH.cons (o := _) rfl (fun K hK => ?_) AllReadyH.nil))
    · skip
      go_simp
      refine hK.out _ _ ?_ (fun hHeld7 => ?_)
      · (try dsimp only)
        (first | assumption | (go_keep; done) | (refine ⟨?_, ?_, ?_, ?_, ?_, ?_⟩ <;> (first | (assumption) | (simp [go_sem, *]; done) | (simp (disch := (simp; try omega)) [*, World.cell?_alloc_past, World.cell?_setCell_other]; done) | (rw [World.cell?_setCell_other _ _ _ _ (by simp; try omega)]; assumption))))
      clear hK K hHeld6
      try simp only [Act.put, List.setIfInBounds_toArray, List.set_cons_zero, List.set_cons_succ]
      refine wpAnyH_ready (rs := [12]) (by kernel_rfl) (by simp) ?_
      refine (AllReadyH.cons (o := _) rfl (fun K hK => ?_) AllReadyH.nil)
      go_simp
      refine hK.out _ _ ?_ (fun hHeld8 => ?_)
      · (try dsimp only)
        (first | assumption | (go_keep; done) | (refine ⟨?_, ?_, ?_, ?_, ?_, ?_⟩ <;> (first | (assumption) | (simp [go_sem, *]; done) | (simp (disch := (simp; try omega)) [*, World.cell?_alloc_past, World.cell?_setCell_other]; done) | (rw [World.cell?_setCell_other _ _ _ _ (by simp; try omega)]; assumption))))
      clear hK K hHeld7
      try simp only [Act.put, List.setIfInBounds_toArray, List.set_cons_zero, List.set_cons_succ]
      refine wpAnyH_ready (rs := [13]) (by kernel_rfl) (by simp) ?_
      refine (AllReadyH.cons (o := _) rfl (fun K hK => ?_) AllReadyH.nil)
      refine step_append_full rfl (.tmp 64) (.tmp 67) 23 rfl ei_letters ⟨G, 0, none⟩ q (by rfl) HBX.out.2 (HAP.out _).1 (HAP.out _).2.2 ⟨w5.heap.size, 0, none⟩ 1 (by rfl) (HAP.out _).2.1 (new_cells _ _ _) HQB.out.1 HQB.out.2 ?_
      intro g7 c7 w7 hc7 hm7 hg7 hf7 hb7
      obtain ⟨hcc, hff⟩ := bcell hb7
      have v0 : w5.heap.size < w7.heap.size := by (have h9 := hb7.size; simp at h9; omega)
      have k0 := (hcc (w.heap.size + 1) 0 (by simp; omega)).trans ((World.cell?_alloc_lt _ _ _ y1).trans k0)
      have k1 := (hcc (w.heap.size + 1) 1 (by simp; omega)).trans ((World.cell?_alloc_lt _ _ _ y1).trans k1)
      have k2 := (hcc (w.heap.size + 1) 2 (by simp; omega)).trans ((World.cell?_alloc_lt _ _ _ y1).trans k2)
      have k3 := (hcc (w.heap.size + 1) 3 (by simp; omega)).trans ((World.cell?_alloc_lt _ _ _ y1).trans k3)
      have k4 := (hcc (w.heap.size + 1) 4 (by simp; omega)).trans ((World.cell?_alloc_lt _ _ _ y1).trans k4)
      have k5 := (hcc w2.heap.size 1 (by simp; omega)).trans ((World.cell?_alloc_lt _ _ _ y2).trans k5)
      have kg := (hcc g t (by simp; omega)).trans ((World.cell?_alloc_lt _ _ _ y3).trans kg)
      have kf : ∀ o, w7.frozen? ⟨g, o, none⟩ = false := by (intro o; rw [hff g o (by simp; omega)]; exact (World.frozen?_alloc_past _ g o y3).trans ((HB5.out.frozen (p := ⟨g, o, none⟩) (by simp; omega)).trans (fg o)))
      have H7 := Lib.hid (And.intro hc7 (And.intro hm7 (And.intro hg7 (And.intro hf7 hb7))))
      clear hcc hff hc7 hm7 hg7 hf7 hb7
      refine hK.out _ _ ?_ (fun hHeld9 => ?_)
      · (try dsimp only)
        (first | assumption | (go_keep; done) | (refine ⟨?_, ?_, ?_, ?_, ?_, ?_⟩ <;> (first | (assumption) | (simp [go_sem, *]; done) | (simp (disch := (simp; try omega)) [*, World.cell?_alloc_past, World.cell?_setCell_other]; done) | (rw [World.cell?_setCell_other _ _ _ _ (by simp; try omega)]; assumption))))
      clear hK K hHeld8
      try simp only [Act.put, List.setIfInBounds_toArray, List.set_cons_zero, List.set_cons_succ]
      refine wpAnyH_take (i := 14) (oi := _) (v := ?v12) rfl (by kernel_rfl) (by kernel_rfl) (by kernel_rfl) (fun _ _ _ h => h) (Or.inl ⟨by rfl, ?hy12⟩) (by assumption) ?rest12
      case hy12 => (intro w hSw; (try dsimp only at hSw); go_simp; try with_reducible rfl)
      try simp only [Act.put, List.setIfInBounds_toArray, List.set_cons_zero, List.set_cons_succ]
      refine wpAnyH_ready (rs := [15]) (by kernel_rfl) (by simp) ?_
      refine (AllReadyH.cons (o := _) rfl (fun K hK => ?_) AllReadyH.nil)
      go_simp
      refine hK.out _ _ ?_ (fun hHeld10 => ?_)
      · (try dsimp only)
        (first | assumption | (go_keep; done) | (refine ⟨?_, ?_, ?_, ?_, ?_, ?_⟩ <;> (first | (assumption) | (simp [go_sem, *]; done) | (simp (disch := (simp; try omega)) [*, World.cell?_alloc_past, World.cell?_setCell_other]; done) | (rw [World.cell?_setCell_other _ _ _ _ (by simp; try omega)]; assumption))))
      clear hK K hHeld9
      try simp only [Act.put, List.setIfInBounds_toArray, List.set_cons_zero, List.set_cons_succ]
      refine wpAnyH_done (by kernel_rfl) ?_ _
      refine NoPanic.normal ?_
      clear hHeld10
      have hb57 : RowKit.Below w5.heap.size w5 w7 := ((Below.refl _ _).alloc (Nat.le_refl _) _).trans (H7.out.2.2.2.2.mono (by simp))
      have hb37 : RowKit.Below w3.heap.size w3 w7 := ((Below.refl _ _).drew.trans HB5.out).trans (hb57.mono y0)
      have p0 := (hb37.cell (p := ⟨w2.heap.size, 0, none⟩) zE).trans x0
      have p1 := (hb37.cell (p := ⟨w.heap.size + 2, 0, none⟩) (show w.heap.size + 2 < w3.heap.size by omega)).trans r0
      have p2 := (hb37.cell (p := ⟨w.heap.size + 2, 1, none⟩) (show w.heap.size + 2 < w3.heap.size by omega)).trans r1
      have p3 : ∀ o, w7.frozen? ⟨w.heap.size + 2, o, none⟩ = false := fun o => (hb37.frozen (p := ⟨w.heap.size + 2, o, none⟩) (show w.heap.size + 2 < w3.heap.size by omega)).trans (fR o)
      have p4 := (hb37.cell (p := ⟨h, f, none⟩) hhl).trans hu9
      have p5 : ∀ o, w7.frozen? ⟨h, o, none⟩ = false := fun o => (hb37.frozen (p := ⟨h, o, none⟩) hhl).trans (fh o)
      have HB37 := Lib.hid hb37
      clear hb57 hb37
      clear x0 x1 r0 r1 fR hu9 fh l0 l1 l2 l3 l4 a0 a1 xl hGc fg
      go_wp2
      refine bodyPost_ret (v := .tuple #[.agg #[.slice (some ⟨h, 0, none⟩) n2 c2, .slice (some ⟨g, 0, none⟩) m2 m2], .int .u8 1, .int .i64 0]) (by simp [results, Try.results11, go_sem, *]) rfl ?_
      have hs7 := H7.out
      have hqq := HQQ.out
      have hl9 := HL.out
      have hb1z := hb37_size HB37.out
      have hw1 : w1.heap.size ≤ w2.heap.size := HX.out.2.2.2.2.2.2.2.size
      have hw1' : w.heap.size + 3 ≤ w1.heap.size := z1
      refine ⟨_, _, _, _, _, _, rfl, put_done hqq.1 hqq.2.1 HB37.out (by omega) hw1 y0 v0 hs7.2.2.2.1 (by have h9 := hs7.2.2.1; simp at h9; omega) HBX.out.1 HBX.out.2 hs7.1 hs7.2.1 (List.getElem?_eq_some_iff.1 HXX.out).1 hgl hhl hne3 HX.out.1 HX.out.2.2.2.1 hl9.2.1 hl9.2.2.1 hl9.2.2.2.1 hl9.2.2.2.2.2.2.2.2 (Ne.symm hne6) (Ne.symm hne7) (by omega) w.heap.size (by omega) HQ.out.2.1 HQ.out.1 rfl, HX.out.2.1, HX.out.2.2.1, Nat.le_refl _, HX.out.2.2.2.2.1, ?_⟩
      exact ((((hqq.2.2.trans (HB37.out.mono hqq.2.2.size)).setCell (by have := HQ.out.2.1; simp; omega) _).setCell (by have := HQ.out.1; simp; omega) _).setCell (by simp; omega) _).setCell (by simp; omega) _
    · skip
      go_simp
      refine hK.out _ _ ?_ (fun hHeld11 => ?_)
      · (try dsimp only)
        (first | assumption | (go_keep; done) | (refine ⟨?_, ?_, ?_, ?_, ?_, ?_⟩ <;> (first | (assumption) | (simp [go_sem, *]; done) | (simp (disch := (simp; try omega)) [*, World.cell?_alloc_past, World.cell?_setCell_other]; done) | (rw [World.cell?_setCell_other _ _ _ _ (by simp; try omega)]; assumption))))
      clear hK K hHeld6
      try simp only [Act.put, List.setIfInBounds_toArray, List.set_cons_zero, List.set_cons_succ]
      refine wpAnyH_ready (rs := [9]) (by kernel_rfl) (by simp) ?_
      refine (AllReadyH.cons (o := _) rfl (fun K hK => ?_) AllReadyH.nil)
      go_simp
      refine hK.out _ _ ?_ (fun hHeld12 => ?_)
      · (try dsimp only)
        (first | assumption | (go_keep; done) | (refine ⟨?_, ?_, ?_, ?_, ?_, ?_⟩ <;> (first | (assumption) | (simp [go_sem, *]; done) | (simp (disch := (simp; try omega)) [*, World.cell?_alloc_past, World.cell?_setCell_other]; done) | (rw [World.cell?_setCell_other _ _ _ _ (by simp; try omega)]; assumption))))
      clear hK K hHeld11
      try simp only [Act.put, List.setIfInBounds_toArray, List.set_cons_zero, List.set_cons_succ]
      refine wpAnyH_ready (rs := [13]) (by kernel_rfl) (by simp) ?_
      refine (AllReadyH.cons (o := _) rfl (fun K hK => ?_) AllReadyH.nil)
      refine step_append_full rfl (.tmp 64) (.tmp 67) 23 rfl ei_letters ⟨G, 0, none⟩ q (by rfl) HBX.out.2 (HAP.out _).1 (HAP.out _).2.2 ⟨w5.heap.size, 0, none⟩ 1 (by rfl) (HAP.out _).2.1 (new_cells _ _ _) HQB.out.1 HQB.out.2 ?_
      intro g7 c7 w7 hc7 hm7 hg7 hf7 hb7
      obtain ⟨hcc, hff⟩ := bcell hb7
      have v0 : w5.heap.size < w7.heap.size := by (have h9 := hb7.size; simp at h9; omega)
      have k0 := (hcc (w.heap.size + 1) 0 (by simp; omega)).trans ((World.cell?_alloc_lt _ _ _ y1).trans k0)
      have k1 := (hcc (w.heap.size + 1) 1 (by simp; omega)).trans ((World.cell?_alloc_lt _ _ _ y1).trans k1)
      have k2 := (hcc (w.heap.size + 1) 2 (by simp; omega)).trans ((World.cell?_alloc_lt _ _ _ y1).trans k2)
      have k3 := (hcc (w.heap.size + 1) 3 (by simp; omega)).trans ((World.cell?_alloc_lt _ _ _ y1).trans k3)
      have k4 := (hcc (w.heap.size + 1) 4 (by simp; omega)).trans ((World.cell?_alloc_lt _ _ _ y1).trans k4)
      have k5 := (hcc w2.heap.size 1 (by simp; omega)).trans ((World.cell?_alloc_lt _ _ _ y2).trans k5)
      have kg := (hcc g t (by simp; omega)).trans ((World.cell?_alloc_lt _ _ _ y3).trans kg)
      have kf : ∀ o, w7.frozen? ⟨g, o, none⟩ = false := by (intro o; rw [hff g o (by simp; omega)]; exact (World.frozen?_alloc_past _ g o y3).trans ((HB5.out.frozen (p := ⟨g, o, none⟩) (by simp; omega)).trans (fg o)))
      have H7 := Lib.hid (And.intro hc7 (And.intro hm7 (And.intro hg7 (And.intro hf7 hb7))))
      clear hcc hff hc7 hm7 hg7 hf7 hb7
      refine hK.out _ _ ?_ (fun hHeld13 => ?_)
      · (try dsimp only)
        (first | assumption | (go_keep; done) | (refine ⟨?_, ?_, ?_, ?_, ?_, ?_⟩ <;> (first | (assumption) | (simp [go_sem, *]; done) | (simp (disch := (simp; try omega)) [*, World.cell?_alloc_past, World.cell?_setCell_other]; done) | (rw [World.cell?_setCell_other _ _ _ _ (by simp; try omega)]; assumption))))
      clear hK K hHeld12
      try simp only [Act.put, List.setIfInBounds_toArray, List.set_cons_zero, List.set_cons_succ]
      refine wpAnyH_take (i := 14) (oi := _) (v := ?v13) rfl (by kernel_rfl) (by kernel_rfl) (by kernel_rfl) (fun _ _ _ h => h) (Or.inl ⟨by rfl, ?hy13⟩) (by assumption) ?rest13
      case hy13 => (intro w hSw; (try dsimp only at hSw); go_simp; try with_reducible rfl)
      try simp only [Act.put, List.setIfInBounds_toArray, List.set_cons_zero, List.set_cons_succ]
      refine wpAnyH_ready (rs := [15]) (by kernel_rfl) (by simp) ?_
      refine (AllReadyH.cons (o := _) rfl (fun K hK => ?_) AllReadyH.nil)
      go_simp
      refine hK.out _ _ ?_ (fun hHeld14 => ?_)
      · (try dsimp only)
        (first | assumption | (go_keep; done) | (refine ⟨?_, ?_, ?_, ?_, ?_, ?_⟩ <;> (first | (assumption) | (simp [go_sem, *]; done) | (simp (disch := (simp; try omega)) [*, World.cell?_alloc_past, World.cell?_setCell_other]; done) | (rw [World.cell?_setCell_other _ _ _ _ (by simp; try omega)]; assumption))))
      clear hK K hHeld13
      try simp only [Act.put, List.setIfInBounds_toArray, List.set_cons_zero, List.set_cons_succ]
      refine wpAnyH_done (by kernel_rfl) ?_ _
      refine NoPanic.normal ?_
      clear hHeld14
      have hb57 : RowKit.Below w5.heap.size w5 w7 := ((Below.refl _ _).alloc (Nat.le_refl _) _).trans (H7.out.2.2.2.2.mono (by simp))
      have hb37 : RowKit.Below w3.heap.size w3 w7 := ((Below.refl _ _).drew.trans HB5.out).trans (hb57.mono y0)
      have p0 := (hb37.cell (p := ⟨w2.heap.size, 0, none⟩) zE).trans x0
      have p1 := (hb37.cell (p := ⟨w.heap.size + 2, 0, none⟩) (show w.heap.size + 2 < w3.heap.size by omega)).trans r0
      have p2 := (hb37.cell (p := ⟨w.heap.size + 2, 1, none⟩) (show w.heap.size + 2 < w3.heap.size by omega)).trans r1
      have p3 : ∀ o, w7.frozen? ⟨w.heap.size + 2, o, none⟩ = false := fun o => (hb37.frozen (p := ⟨w.heap.size + 2, o, none⟩) (show w.heap.size + 2 < w3.heap.size by omega)).trans (fR o)
      have p4 := (hb37.cell (p := ⟨h, f, none⟩) hhl).trans hu9
      have p5 : ∀ o, w7.frozen? ⟨h, o, none⟩ = false := fun o => (hb37.frozen (p := ⟨h, o, none⟩) hhl).trans (fh o)
      have HB37 := Lib.hid hb37
      clear hb57 hb37
      clear x0 x1 r0 r1 fR hu9 fh l0 l1 l2 l3 l4 a0 a1 xl hGc fg
      go_wp2
      refine bodyPost_ret (v := .tuple #[.agg #[.slice (some ⟨h, 0, none⟩) n2 c2, .slice (some ⟨g, 0, none⟩) m2 m2], .int .u8 1, .int .i64 0]) (by simp [results, Try.results11, go_sem, *]) rfl ?_
      have hs7 := H7.out
      have hqq := HQQ.out
      have hl9 := HL.out
      have hb1z := hb37_size HB37.out
      have hw1 : w1.heap.size ≤ w2.heap.size := HX.out.2.2.2.2.2.2.2.size
      have hw1' : w.heap.size + 3 ≤ w1.heap.size := z1
      refine ⟨_, _, _, _, _, _, rfl, put_done hqq.1 hqq.2.1 HB37.out (by omega) hw1 y0 v0 hs7.2.2.2.1 (by have h9 := hs7.2.2.1; simp at h9; omega) HBX.out.1 HBX.out.2 hs7.1 hs7.2.1 (List.getElem?_eq_some_iff.1 HXX.out).1 hgl hhl hne3 HX.out.1 HX.out.2.2.2.1 hl9.2.1 hl9.2.2.1 hl9.2.2.2.1 hl9.2.2.2.2.2.2.2.2 (Ne.symm hne6) (Ne.symm hne7) (by omega) w.heap.size (by omega) HQ.out.2.1 HQ.out.1 rfl, HX.out.2.1, HX.out.2.2.1, Nat.le_refl _, HX.out.2.2.2.2.1, ?_⟩
      exact ((((hqq.2.2.trans (HB37.out.mono hqq.2.2.size)).setCell (by have := HQ.out.2.1; simp; omega) _).setCell (by have := HQ.out.1; simp; omega) _).setCell (by simp; omega) _).setCell (by simp; omega) _
end Go.Proofs.Ytcmdmmphakclmaa
