/-
  copyOf: what it makes shares nothing with what came in.
-/
import Derived.Test.YtcmdmmphakclmaaStoreC
namespace Go.Proofs.Ytcmdmmphakclmaa
open Go.RowKit Go.Sort
set_option linter.unusedVariables false

theorem take_succ' {α : Type} {xs : List α} {k : Nat} {x : α} (h : xs[k]? = some x) : xs.take (k + 1) = xs.take k ++ [x] ∧ (xs.take k).length = k := by
  have h1 := List.getElem?_eq_some_iff.1 h
  exact ⟨by rw [List.take_succ_eq_append_getElem h1.1, h1.2], by rw [List.length_take, Nat.min_eq_left (Nat.le_of_lt h1.1)]⟩
/-- One letter more in a row. -/
theorem letter_in {G q j : Nat} {t : TypeId} {wi w5 : World} {y : Lt} {box : List Lt} {T5 : Option Addr} {n5 c5 : Nat} (hF : Fill Rlt wi (fun b => G < b ∧ b < wi.heap.size) G t q (box.take j)) (hy : box[j]? = some y) (hq : box.length = q)
    (hb : Below wi.heap.size wi w5) (hs : Sl (Rint .u8) w5 (mid wi.heap.size w5.heap.size) T5 y.text) (w1 : (Lit.int .i64 y.fr).wf = true) (w2 : (Lit.int .i64 y.to).wf = true) (w3 : (Lit.int .u64 y.sq).wf = true)
    (hn : y.text.length = n5) (hl : n5 ≤ c5) (hm : c5 ≤ maxLen) :
    Fill Rlt (w5.setCells G (j * 5) [.bool y.cover, .int .i64 y.fr, .int .i64 y.to, .int .u64 y.sq, .slice T5 n5 c5]) (fun b => G < b ∧ b < (w5.setCells G (j * 5) [.bool y.cover, .int .i64 y.fr, .int .i64 y.to, .int .u64 y.sq, .slice T5 n5 c5]).heap.size) G t q (box.take (j + 1)) := by
  obtain ⟨e1, e2⟩ := take_succ' hy
  subst hn
  have hG := hF.lt
  have hj := (List.getElem?_eq_some_iff.1 hy).1
  have h1 : Fill Rlt w5 (fun b => G < b ∧ b < w5.heap.size) G t q (box.take j) := hF.up hb (fun b h => h.2) (fun b h => ⟨h.1, by have := hb.size; have := h.2; omega⟩)
  have h2 := h1.store (x := y) (cs := [.bool y.cover, .int .i64 y.fr, .int .i64 y.to, .int .u64 y.sq, .slice T5 y.text.length c5]) (by rw [e2]; omega) ⟨T5, c5, rfl, w1, w2, w3, hl, hm, hs.more fun b h => ⟨by have := h.1; omega, h.2⟩⟩ (by simp)
  rw [e2] at h2
  rw [e1, setCells_size]
  exact h2

theorem letter_round {G q j : Nat} {t : TypeId} {wo wi W w5 : World} {y : Lt} {box : List Lt} {T5 : Option Addr} {n5 c5 : Nat} (hF : Fill Rlt wi (fun b => G < b ∧ b < wi.heap.size) G t q (box.take j)) (hy : box[j]? = some y) (hq : box.length = q) (hlt : j < q)
    (hW : Below wi.heap.size wi W) (hb5 : Below W.heap.size W w5) (hs : Sl (Rint .u8) w5 (mid W.heap.size w5.heap.size) T5 y.text) (w1 : (Lit.int .i64 y.fr).wf = true) (w2 : (Lit.int .i64 y.to).wf = true) (w3 : (Lit.int .u64 y.sq).wf = true)
    (hn : y.text.length = n5) (hl : n5 ≤ c5) (hm : c5 ≤ maxLen) (hbi : Below G wo wi) (w6 : World)
    (hw6 : w6 = (((((w5.setCell ⟨G, j * 5, none⟩ (.bool y.cover)).setCell ⟨G, j * 5 + 1, none⟩ (.int .i64 y.fr)).setCell ⟨G, j * 5 + 2, none⟩ (.int .i64 y.to)).setCell ⟨G, j * 5 + 3, none⟩ (.int .u64 y.sq)).setCell ⟨G, j * 5 + 4, none⟩ (.slice T5 n5 c5))) :
    ∃ j1 : Nat, j1 ≤ q ∧ Value.int .i64 ((j : Int) + 1) = .int .i64 j1 ∧ Fill Rlt w6 (fun b => G < b ∧ b < w6.heap.size) G t q (box.take j1) ∧ Below G wo w6 := by
  subst hw6
  have hb6 := hW.trans (hb5.mono hW.size)
  have hG := hF.lt
  exact ⟨j + 1, by omega, by go_num, letter_in hF hy hq hb6 (hs.more fun b h => ⟨Nat.le_trans hW.size h.1, h.2⟩) w1 w2 w3 hn hl hm, setCells_below [.bool y.cover, .int .i64 y.fr, .int .i64 y.to, .int .u64 y.sq, .slice T5 n5 c5] (j * 5) w5 (hbi.trans (hb6.mono (by omega))) (Nat.le_refl _)⟩

/-- A slice that fills its row: its capacity is its length. -/
def Rfull {α : Type} (bytes : Nat) (R : Rdr α) : Rdr (List α) where
  size := 1
  fit := fun K xs => xs.length * bytes ≤ K ∧ ∀ x ∈ xs, R.fit K x
  rd := fun w S xs cs => ∃ G, cs = [.slice (some ⟨G, 0, none⟩) xs.length xs.length] ∧ xs.length ≤ maxLen ∧ Sl R w S (some ⟨G, 0, none⟩) xs
  len := by rintro _ _ _ _ ⟨_, rfl, _⟩; rfl
  one := by rintro _ _ _ _ ⟨_, rfl, _⟩ v hv; simp at hv; subst hv; rfl
  keep := fun ⟨A, h, hc, hs⟩ hk hm => ⟨A, h, hc, hs.keep hk hm⟩
  more := fun ⟨h, hx⟩ hK => ⟨Nat.le_trans h hK, fun x hx' => R.more (hx x hx') hK⟩
/-- What reads the outer world's blocks, but the row's, reads the inner world's. -/
theorem through_box {g k G q : Nat} {t2 : TypeId} {mk2 : Array Value} {wq wo wi : World} (hG : G = wq.heap.size) (hwo : wo = ((wq.setCell ⟨g, k, none⟩ (.slice (some ⟨G, 0, none⟩) q q)).alloc (.cells mk2 t2)).drew) (hb : Below G wo wi) :
    (∀ p : Addr, p.block < G → p.block ≠ g → wi.cell? p = wq.cell? p) ∧ (∀ b, b < G → b ≠ g → wi.heap[b]? = wq.heap[b]?) ∧ (g < G → wi.heap[g]? = (wq.setCells g k [.slice (some ⟨G, 0, none⟩) q q]).heap[g]?) ∧ G < wi.heap.size := by
  subst hG hwo
  have hz := hb.size
  have ha : ∀ b, b < wq.heap.size → wi.heap[b]? = (wq.setCell ⟨g, k, none⟩ (.slice (some ⟨wq.heap.size, 0, none⟩) q q)).heap[b]? := fun b h => (hb.block b h).trans (Below.heap_alloc _ _ _ (by simpa [World.setCell] using h))
  have hn : ∀ b, b < wq.heap.size → b ≠ g → wi.heap[b]? = wq.heap[b]? := fun b h hg => (ha b h).trans (Below.heap_setCell _ _ _ _ hg)
  exact ⟨fun p h hg => World.cell?_of_block (hn _ h hg), hn, fun h => ha g h, by simp [World.setCell] at hz; omega⟩
/-- One box more. -/
theorem box_in {G g k m q : Nat} {t t2 : TypeId} {wq wo wi : World} {mk2 : Array Value} {bs : List (List Lt)} {box : List Lt} {S S' : Nat → Prop} (hF : Fill (Rfull 56 Rlt) wq S g t m (bs.take k)) (hx : bs[k]? = some box) (hbl : bs.length = m)
    (hq : box.length = q) (hqm : q ≤ maxLen) (hG : G = wq.heap.size) (hwo : wo = ((wq.setCell ⟨g, k, none⟩ (.slice (some ⟨G, 0, none⟩) q q)).alloc (.cells mk2 t2)).drew) (hb : Below G wo wi)
    (hFi : Fill Rlt wi (fun b => G < b ∧ b < wi.heap.size) G t2 q (box.take q)) (hS : ∀ b, S b → b < G ∧ b ≠ g) (hS' : ∀ b, S b → S' b) (hSG : ∀ b, G ≤ b → b < wi.heap.size → S' b) : Fill (Rfull 56 Rlt) wi S' g t m (bs.take (k + 1)) := by
  obtain ⟨e1, e2⟩ := take_succ' hx
  have hk' := (List.getElem?_eq_some_iff.1 hx).1
  have hgl := hF.lt
  obtain ⟨h1, h2, h3, h4⟩ := through_box hG hwo hb
  subst hq
  rw [List.take_of_length_le (Nat.le_refl _)] at hFi
  rw [e1]
  refine hF.storeIn (x := box) (cs := [.slice (some ⟨G, 0, none⟩) box.length box.length]) (by rw [e2]; omega) ⟨G, rfl, hqm, hFi.done rfl (fun b h => hSG b (by have := h.1; omega) h.2) (hSG G (Nat.le_refl _) h4)⟩ ?_ (fun p hp => h1 p (hS _ hp).1 (hS _ hp).2) hS'
  rw [e2]
  show _ = (wq.setCells g (k * 1) _).heap[g]?
  rw [Nat.mul_one]
  exact h3 (by omega)
/-- A copy of one's own. -/
def CopyPost (s : St) (w : World) (e : Ending) (w' : World) : Prop :=
  ∃ (h n c g m : Nat), e = .returned (.agg #[.slice (some ⟨h, 0, none⟩) n c, .slice (some ⟨g, 0, none⟩) m m]) ∧ s.last.length = n ∧ n ≤ c ∧ c ≤ maxLen ∧ s.boxes.length = m ∧ m ≤ maxLen ∧ w.heap.size ≤ h ∧ w.heap.size ≤ g ∧ h ≠ g ∧
    Fill (Rint .u64) w' NoS h 22 c s.last ∧ Fill (Rfull 56 Rlt) w' (fun b => w.heap.size ≤ b ∧ b < w'.heap.size ∧ b ≠ g ∧ b ≠ h) g 23 m s.boxes ∧ Below w.heap.size w w'
set_option maxHeartbeats 2000000 in
theorem copyOf_any (A : Option Addr) (n cap : Nat) (B : Option Addr) (m cap' : Nat) (s : St) (w : World) (hs : StAt w (lo w.heap.size) A n B m s) (hf : StFit 140737488355328 s) (hpos : 0 < s.last.length) :
    Calls Try.prog 23 #[.agg #[.slice A n cap, .slice B m cap']] w (CopyPost s w) := by
  obtain ⟨hl, hln, hbx, hbn⟩ := hs
  obtain ⟨mk1, hmk1, hmake1⟩ := ei_boxes.make m (by have := hf.boxes; omega) (by have := hf.boxes; omega)
  have HMK1 := Lib.hid hmk1; clear hmk1
  go_enter Try.func23, Try.ntmps23
  go_upto_region 1 with fail
  go_cut [3] (fun s3 wx => ∃ v g h n1 c1, s3 = .pointer (some ⟨v, 0, none⟩) ∧ s.last.length = n1 ∧ n1 ≤ c1 ∧ c1 ≤ maxLen ∧
    Cut1 ((w.alloc (.cells #[.slice A n cap, .slice B m cap'] 28)).alloc (.cells #[.slice none 0 0, .slice none 0 0] 28)) s.last mk1 m h n1 c1 v g wx)
  case first =>
    go_region_held3 (fun w' => w'.cell? ⟨w.heap.size, 0, none⟩ = some (.slice A n cap) ∧ w'.cell? ⟨w.heap.size, 1, none⟩ = some (.slice B m cap'))
      (first | (go_keep; done) | (refine ⟨?_, ?_⟩ <;> (first | (simp [go_sem, *]; done) | simp (disch := (simp; try omega)) [*, World.cell?_alloc_past, World.cell?_setCell_other]; done)) | (refine ⟨?_, ?_⟩ <;> (rw [World.cell?_setCell_other _ _ _ _ (by simp; try omega), World.cell?_setCell_other _ _ _ _ (by simp; try omega)]; assumption)))
      (first | (go_at_call 29; refine (cloneU_own A s.last n cap hln _ ?_ (by have := hf.last; omega) hpos).mono ?_; (refine hl.below ?_ (by simp; try omega); repeat' (first | exact Below.refl _ _ | refine Below.drew ?_ | refine Below.alloc ?_ (by simp; try omega) _)); rintro e w1 ⟨h, n1, c1, rfl, hn1, hl1, hm1, hs1, hh1, hb1⟩
                have z0 : w.heap.size + 1 < w1.heap.size := by have := hb1.size; simp at this; omega
                have z1 : w.heap.size < w1.heap.size := by omega
                have k0 : w1.cell? ⟨w.heap.size, 0, none⟩ = some (.slice A n cap) := (hb1.cell (by simp; try omega)).trans (by simp [go_sem, World.cell?_alloc_past])
                have k1 : w1.cell? ⟨w.heap.size, 1, none⟩ = some (.slice B m cap') := (hb1.cell (by simp; try omega)).trans (by simp [go_sem, World.cell?_alloc_past])
                obtain ⟨hcc, hff⟩ := bcell hb1
                try (have z2 : w.heap.size + 1 + 1 < w1.heap.size := by (have := hb1.size; simp at this; omega))
                try (have z3 : w.heap.size + 1 + 1 + 1 < w1.heap.size := by (have := hb1.size; simp at this; omega))
                have HB1 := Lib.hid hb1; have HS1 := Lib.hid hs1; have HN1 := Lib.hid hn1; have HH1 := Lib.hid hh1; clear hb1 hs1 hn1 hh1))
    all_goals (go_wp2_with fail; go_meet)
    all_goals with_reducible (first
        | exact ⟨_, _, _, n1, c1, rfl, HN1.out, hl1, hm1, cut1_a HB1.out HH1.out HS1.out⟩
        | exact ⟨_, _, _, n1, c1, rfl, HN1.out, hl1, hm1, cut1_b HB1.out HH1.out HS1.out⟩
        | refine ⟨_, _, _, n1, c1, rfl, HN1.out, hl1, hm1, cut1_c ?_ HB1.out HH1.out HS1.out⟩
        | refine ⟨_, _, _, n1, c1, rfl, HN1.out, hl1, hm1, cut1_d ?_ HB1.out HH1.out HS1.out⟩
        | refine ⟨_, _, _, n1, c1, rfl, HN1.out, hl1, hm1, cut1_e ?_ HB1.out HH1.out HS1.out⟩
        | refine ⟨_, _, _, n1, c1, rfl, HN1.out, hl1, hm1, cut1_f ?_ HB1.out HH1.out HS1.out⟩)
    all_goals simp
  case rest =>
    obtain ⟨v, g, h, n1, c1, rfl, hn1, hl1, hm1, hv0, hg0, gH, vH, gv, hH, hg, hv', hA0, hb0⟩ := hcut
    simp only [heap_alloc2] at gH vH hH hb0
    have hkB : wc.cell? ⟨w.heap.size, 1, none⟩ = some (.slice B m cap') := (hb0.cell (show w.heap.size < w.heap.size + 2 by omega)).trans (by simp [go_sem, World.cell?_alloc_past])
    have HK := Lib.hid (And.intro hn1 (And.intro hl1 (And.intro hm1 (And.intro gH vH)))); have HHX := Lib.hid (And.intro hH (And.intro hg hv'))
    have hm64 : m ≤ 140737488355328 := by (have := hf.boxes; omega)
    have HBN := Lib.hid hbn
    clear hn1 hl1 hm1 gH vH hbn hH hg hv'
    go_wp2
    go_loopw [4, 19] (fun _ i wr => ∃ k : Nat, k ≤ m ∧ i = .int .i64 k ∧ Blk wr v 28 #[.slice (some ⟨h, 0, none⟩) n1 c1, .slice (some ⟨g, 0, none⟩) m m] ∧
      Fill (Rfull 56 Rlt) wr (fun b => w.heap.size + 2 ≤ b ∧ b < wr.heap.size ∧ b ≠ g ∧ b ≠ v ∧ b ≠ h) g 23 m (s.boxes.take k) ∧
      Fill (Rint .u64) wr NoS h 22 c1 s.last ∧
      Below (w.heap.size + 2) ((w.alloc (.cells #[.slice A n cap, .slice B m cap'] 28)).alloc (.cells #[.slice none 0 0, .slice none 0 0] 28)) wr) (fun _ i _ => m - (intOf i).toNat)
    case atStart => exact ⟨0, Nat.zero_le _, rfl, hv0, Fill.start hg0 HMK1.out, hA0, hb0⟩
    case round =>
      obtain ⟨k, hk, rfl, hv, hF, hA, hb⟩ := hrel
      by_cases hlt : k < m
      · have hx := List.getElem?_eq_getElem (l := s.boxes) (i := k) (by rw [HBN.out]; exact hlt)
        generalize s.boxes[k]'(by rw [HBN.out]; exact hlt) = box at hx
        have hbw : Below w.heap.size w wr := ((((Below.refl _ _).alloc (Nat.le_refl _) _).alloc (by simp) _).trans (hb.mono (by omega)))
        obtain ⟨b, off, T, q, qc, rfl, hbl, hq, _, hqm, hT, x00⟩ := hbx.sub hx
        have x0 := (hbw.cell (p := ⟨b, off + k, none⟩) hbl).trans x00
        have hqm' : q ≤ 9223372036854775807 := by have := maxLen; unfold maxLen at hqm; omega
        have hbb := List.mem_of_getElem? hx
        obtain ⟨mk2, hmk2, hmake2⟩ := ei_letters.make q (by have := hf.box _ hbb; omega) (by have := hf.box _ hbb; omega)
        have HX := Lib.hid hx; have HQ := Lib.hid hq; have HM2 := Lib.hid hmk2; have HB := Lib.hid hb; have HBW := Lib.hid hbw; have HBB := Lib.hid hbb
        obtain ⟨u0, hc0⟩ := hF.cell (i := k) (by show k < m * 1; omega)
        have fg := hF.frozen; have v1 := hv.cell 1 (v := .slice (some ⟨g, 0, none⟩) m m) rfl
        have HFF := Lib.hid hF; have HV := Lib.hid hv
        clear hx hq hqm hmk2 hb hbw hF hv hbb
        go_upto_region 5 with fail
        go_cut [] (fun wx => wx = ((wr.setCell ⟨g, k, none⟩ (.slice (some ⟨wr.heap.size, 0, none⟩) q q)).alloc (.cells mk2 34)).drew)
        case first =>
          have hgl := HFF.out.lt
          have hvl := HV.out.lt
          go_region
          go_wp2
          go_meet
          rfl
        case rest =>
          rename_i hcut
          obtain ⟨G, hG⟩ : ∃ G : Nat, G = wr.heap.size := ⟨_, rfl⟩
          have hgl := HFF.out.lt; have hvl := HV.out.lt
          rw [← hG] at hcut hgl hvl
          have bG : Blk wc G 34 mk2 := by rw [hcut]; exact Blk.new _ _ _ (by simp [World.setCell, hG])
          have bv : Blk wc v 28 #[.slice (some ⟨h, 0, none⟩) n1 c1, .slice (some ⟨g, 0, none⟩) m m] := by rw [hcut]; exact (HV.out.far (fun e => gv e.symm) _).alloc _
          have cg : wc.cell? ⟨g, k, none⟩ = some (.slice (some ⟨G, 0, none⟩) q q) := by rw [hcut]; exact (World.cell?_alloc_lt _ _ _ (by simpa [World.setCell, hG] using hgl)).trans (World.cell?_setCell_same _ _ _ hc0)
          have sG : wc.heap.size = G + 1 := by rw [hcut]; simp [World.setCell, hG]
          have HC := Lib.hid hcut; have HG := Lib.hid hG
          clear hcut hG
          have c1 := bv.cell 1 (v := .slice (some ⟨g, 0, none⟩) m m) rfl
          have HBV := Lib.hid bv
          obtain ⟨wo, rfl⟩ : ∃ wo : World, wo = wc := ⟨_, rfl⟩
          obtain ⟨wq, rfl⟩ : ∃ wq : World, wq = wr := ⟨_, rfl⟩
          clear bv
          go_wp2
          go_loopw [6, 33] (fun _ i wi => ∃ j : Nat, j ≤ q ∧ i = .int .i64 j ∧ Fill Rlt wi (fun b => G < b ∧ b < wi.heap.size) G 34 q (box.take j) ∧ Below G wo wi) (fun _ i _ => q - (intOf i).toNat)
          case atStart => exact ⟨0, Nat.zero_le _, rfl, Fill.start bG HM2.out, Below.refl _ _⟩
          case round =>
            obtain ⟨wi, rfl⟩ : ∃ wi : World, wi = wr := ⟨_, rfl⟩
            obtain ⟨j, hj, rfl, hFi, hbi⟩ := hrel
            have hgw : w.heap.size ≤ g := by have := HK.out.2.2.2.1; omega
            have hbo : RowKit.Below w.heap.size wq wo := by
              rw [HC.out]; exact (((Below.refl w.heap.size wq).setCell (p := ⟨g, k, none⟩) hgw _).alloc (by simpa [World.setCell] using HBW.out.size) _).drew
            have hbwi : RowKit.Below w.heap.size w wi := HBW.out.trans (hbo.trans (hbi.mono (by rw [HG.out]; exact HBW.out.size)))
            by_cases hlt2 : j < q
            · have hy := List.getElem?_eq_getElem (l := box) (i := j) (by rw [HQ.out]; exact hlt2)
              generalize box[j]'(by rw [HQ.out]; exact hlt2) = y at hy
              obtain ⟨b', off', T', tn', tc', rfl, _, w1, w2, w3, htn', _, _, hts', y0, y1, y2, y3, y4⟩ := (hT.below hbwi hbwi.size).letter hy
              have c1i := (hbi.cell hvl).trans c1
              have cgi := (hbi.cell hgl).trans cg
              have HFI := Lib.hid hFi; have HBI := Lib.hid hbi; have HY := Lib.hid hy; have HT := Lib.hid htn'; have HTS := Lib.hid hts'
              have hgi := hFi.lt
              have fG := hFi.frozen
              obtain ⟨p0, hp0⟩ := hFi.cell (i := j * 5) (by show _ < q * 5; omega)
              obtain ⟨p1, hp1⟩ := hFi.cell (i := j * 5 + 1) (by show _ < q * 5; omega)
              obtain ⟨p2, hp2⟩ := hFi.cell (i := j * 5 + 2) (by show _ < q * 5; omega)
              obtain ⟨p3, hp3⟩ := hFi.cell (i := j * 5 + 3) (by show _ < q * 5; omega)
              obtain ⟨p4, hp4⟩ := hFi.cell (i := j * 5 + 4) (by show _ < q * 5; omega)
              have htz : tn' ≤ 140737488355328 := by (have := hf.text _ HBB.out _ (List.mem_of_getElem? hy); omega)
              have HTZ := Lib.hid htz
              clear hFi hbi hy htn' hts' htz
              go_upto_region 9 with fail
              have z3 : G < wi.heap.size := hgi
              have z4 : v < wi.heap.size := by omega
              have z5 : g < wi.heap.size := by omega
              go_region_with
                (first | (go_at_call 25; refine (copyLetter_any y T' tn' tc' HT.out _ ?_ ?_).mono ?_; (exact HTS.out.below (((Below.refl _ _).alloc (Nat.le_refl _) _).drew) (by simp)); (exact HTZ.out); rintro e w5 ⟨T5, n5, c5, rfl, hn5, hl5, hm5, hs5, hb5⟩
                          obtain ⟨hcc, hff⟩ := bcell hb5
                          have z0 : wi.heap.size < w5.heap.size := by (have := hb5.size; simp at this; omega)
                          have z6 : v < w5.heap.size := by omega
                          have z7 : g < w5.heap.size := by omega
                          have z8 : G < w5.heap.size := by omega
                          have q0 := (hcc G (j * 5) (by simp; omega)).trans ((World.cell?_alloc_lt _ _ _ z3).trans hp0)
                          have q1 := (hcc G (j * 5 + 1) (by simp; omega)).trans ((World.cell?_alloc_lt _ _ _ z3).trans hp1)
                          have q2 := (hcc G (j * 5 + 2) (by simp; omega)).trans ((World.cell?_alloc_lt _ _ _ z3).trans hp2)
                          have q3 := (hcc G (j * 5 + 3) (by simp; omega)).trans ((World.cell?_alloc_lt _ _ _ z3).trans hp3)
                          have q4 := (hcc G (j * 5 + 4) (by simp; omega)).trans ((World.cell?_alloc_lt _ _ _ z3).trans hp4)
                          have fz : ∀ o, w5.frozen? ⟨G, o, none⟩ = false := by (intro o; rw [hff G o (by simp; omega)]; exact (World.frozen?_alloc_past _ G o z3).trans (fG o))
                          have qv := (hcc v 1 (by simp; omega)).trans ((World.cell?_alloc_lt _ _ _ z4).trans c1i)
                          have qg := (hcc g k (by simp; omega)).trans ((World.cell?_alloc_lt _ _ _ z5).trans cgi)
                          clear hcc hff))
              all_goals go_wp2
              all_goals
                have H9 := Lib.hid (fun w6 => letter_round (wo := wo) (W := (wi.alloc (.cells #[.bool y.cover, .int .i64 y.fr, .int .i64 y.to, .int .u64 y.sq, .slice T' tn' tc'] 34)).drew) HFI.out HY.out HQ.out hlt2 (((Below.refl wi.heap.size wi).alloc (Nat.le_refl _) _).drew) hb5 hs5 w1 w2 w3 hn5 hl5 hm5 HBI.out w6)
                clear hb5 hs5 hn5 z0 z6 z7 z8 q0 q1 q2 q3 q4 fz qv qg
                go_roundw
                case measure => simp [intOf]; omega
                case rel => exact H9.out _ rfl
            · obtain rfl : j = q := by omega
              have hq1 : Hid (j ≤ maxLen) := by (have := hf.box _ HBB.out; have := HQ.out; simp only [Hid, maxLen]; omega)
              have HFI := Lib.hid hFi; have HBI := Lib.hid hbi
              clear hFi hbi
              go_wp2
              go_roundw
              case measure => simp [intOf]; omega
              case rel =>
                obtain ⟨hk1, hk2, hk3, hk4⟩ := through_box HG.out HC.out HBI.out
                have hGw : w.heap.size + 2 ≤ G := by (rw [HG.out]; have := HB.out.size; simp at this; omega)
                have hhl : h < G := by (rw [HG.out]; exact hA.lt)
                refine ⟨k + 1, by omega, by go_num, HBV.out.below HBI.out hvl, ?_, ?_, ?_⟩
                · refine box_in HFF.out HX.out HBN.out HQ.out hq1 HG.out HC.out HBI.out HFI.out (fun b hb => ⟨by rw [HG.out]; exact hb.2.1, hb.2.2.1⟩) (fun b hb => ⟨hb.1, by have := hb.2.1; rw [← HG.out] at this; omega, hb.2.2⟩) (fun b h1 h2 => ⟨by omega, h2, by omega, by omega, by omega⟩)
                · exact hA.keep (hk2 h hhl HHX.out.2.1) (fun _ h => h.elim) (fun _ h => h)
                · have hbo2 : RowKit.Below (w.heap.size + 2) wq wo := by
                    rw [HC.out]; exact (((Below.refl _ wq).setCell (p := ⟨g, k, none⟩) HK.out.2.2.2.1 _).alloc (by simpa [World.setCell] using (show w.heap.size + 2 ≤ wq.heap.size by rw [← HG.out]; exact hGw)) _).drew
                  exact HB.out.trans (hbo2.trans (HBI.out.mono hGw))
      · obtain rfl : k = m := by omega
        have HF := Lib.hid hF; have HB := Lib.hid hb; have HA := Lib.hid hA
        have v0 := hv.cell 0 (v := .slice (some ⟨h, 0, none⟩) n1 c1) rfl
        have v1 := hv.cell 1 (v := .slice (some ⟨g, 0, none⟩) k k) rfl
        have gR : Blk wr (w.heap.size + 1) 28 #[.slice none 0 0, .slice none 0 0] := (Blk.new _ _ _ (by simp)).below hb (by omega)
        have r0 := gR.cell 0 (v := .slice none 0 0) rfl; have r1 := gR.cell 1 (v := .slice none 0 0) rfl; have fr := gR.frozen
        clear hF hb hA hv gR
        go_wp2
        refine bodyPost_ret (v := .agg #[.slice (some ⟨h, 0, none⟩) n1 c1, .slice (some ⟨g, 0, none⟩) k k]) (by simp [results, Try.results23, go_sem, r0, r1]) rfl ?_
        have hbz := HB.out.size
        have hF := HF.out
        rw [List.take_of_length_le (by rw [HBN.out]; omega)] at hF
        have hHH := HHX.out
        have hKK := HK.out
        refine ⟨h, n1, c1, g, k, rfl, hKK.1, hKK.2.1, hKK.2.2.1, HBN.out, ?_, by omega, by omega, hHH.2.1, ?_, ?_, ?_⟩
        · have := hf.boxes; have := HBN.out; simp only [maxLen]; omega
        · exact (HA.out.far (by simp <;> omega) (fun h => h) _).far (by simp <;> omega) (fun h => h) _
        · refine ((hF.far (by simp <;> omega) (fun hb => by have := hb.1; simp at this) _).far (by simp <;> omega) (fun hb => by have := hb.1; simp at this) _).more (fun b hb => ⟨by have := hb.1; omega, by simpa [World.setCell] using hb.2.1, hb.2.2.1, hb.2.2.2.2⟩)
        · exact (((((Below.refl _ _).alloc (Nat.le_refl _) _).alloc (by simp) _).trans (HB.out.mono (by omega))).setCell (by simp) _).setCell (by simp) _
end Go.Proofs.Ytcmdmmphakclmaa
