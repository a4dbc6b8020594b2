/-
  New: a store without letters.
-/
import Derived.Test.YtcmdmmphakclmaaStoreG
import Derived.Laws.OwnMore
namespace Go.Proofs.Ytcmdmmphakclmaa
open Go.RowKit Go.Sort
set_option linter.unusedVariables false
attribute [local go_sem ↓] Go.wp_at_zero Go.wp_at_succ

theorem make_one {P : Program} {t e : TypeId} {bytes : Nat} (z : Value) (hz1 : z.cells = #[z]) (hu : P.underlying t = some (.slice e)) (h : (P.info? e).map (fun i => (i.zero, i.size, i.bytes)) = some (some z, 1, bytes)) (n : Nat) (hb : n * bytes ≤ 281474976710656) (h63 : n ≤ 9223372036854775807) :
    ∃ arr : Array Value, arr.toList = List.replicate n z ∧ ∀ w : World, (Instr.makeSlice t (.int .i64 (n : Int)) (.int .i64 (n : Int))).run P w = .ok (.slice (some ⟨w.heap.size, 0, none⟩) n n) (w.alloc (.cells arr e)) := by
  obtain ⟨i, hi, hz, hsz, hby⟩ := info_parts h
  refine ⟨madeCells #[z] n, toList_madeCells_one z n, fun w => ?_⟩
  have hb' : (i.bytes : Int) * (n : Int) ≤ 281474976710656 := by
    have h : ((n * bytes : Nat) : Int) ≤ 281474976710656 := by omega
    rw [hby, Int.mul_comm]
    rwa [Int.natCast_mul] at h
  have hr := run_make (P := P) w t e i z hu hi hz .i64 .i64 n n (by omega) (by omega) hb' (by omega)
  rw [hz1, hsz] at hr
  simpa using hr
theorem wf_u64' {n : Int} (h : 0 ≤ n) (h' : n ≤ 18446744073709551615) : (Lit.int .u64 n).wf = true := WalkArith.wf_u64 ⟨h, h'⟩
/-- A store, an error. -/
def NewRet (s : St) (e : Int) (w : World) (en : Ending) (w' : World) : Prop :=
  ∃ A n cap B m cap', en = .returned (.tuple #[.agg #[.slice A n cap, .slice B m cap'], .int .i64 e]) ∧ StAt w' (mid w.heap.size w'.heap.size) A n B m s ∧ n ≤ cap ∧ cap ≤ maxLen ∧ m ≤ cap' ∧ cap' ≤ maxLen ∧ Below w.heap.size w w'
def newS (c : Int) (sq : Int) : St × Int := if 1 ≤ c ∧ c ≤ 8 ∧ sq ≠ 0 then ({ last := List.replicate c.toNat (sq - 1), boxes := List.replicate c.toNat [] }, 0) else (noSt, 1)
set_option maxHeartbeats 1000000 in
theorem new_bad (c sq : Int) (h : ¬ (1 ≤ c ∧ c ≤ 8 ∧ sq ≠ 0)) (w : World) :
    Calls Try.prog 10 #[.int .i64 c, .int .u64 sq] w (NewRet noSt 1 w) := by
  go_enter Try.func10, Try.ntmps10
  go_wp2_with fail
  all_goals (try simp only [beq_iff_eq, beq_eq_false_iff_ne, ne_eq] at *)
  all_goals first
    | (exfalso; omega)
    | (refine bodyPost_ret (v := .tuple #[.agg #[.slice none 0 0, .slice none 0 0], .int .i64 1]) (by simp [results, Try.results10, go_sem]) rfl ?_
       exact ⟨_, _, _, _, _, _, rfl, StAt.none _ _, by simp, by simp, by simp, by simp, by first | exact (Below.refl _ _).alloc (Nat.le_refl _) _ | exact (((Below.refl _ _).alloc (Nat.le_refl _) _).setCell (by simp) _).setCell (by simp) _⟩)
/-- Behind the two rows and the variable. -/
def NewCut (w : World) (c : Nat) (arr1 arr2 : Array Value) (v h g : Nat) (wx : World) : Prop :=
  Blk wx v 28 #[.slice (some ⟨h, 0, none⟩) c c, .slice (some ⟨g, 0, none⟩) c c] ∧ Blk wx h 22 arr1 ∧ Blk wx g 23 arr2 ∧ h ≠ g ∧ v ≠ h ∧ v ≠ g ∧ w.heap.size + 1 ≤ v ∧ w.heap.size + 1 ≤ h ∧ w.heap.size + 1 ≤ g ∧
    Below (w.heap.size + 1) (w.alloc (.cells #[.slice none 0 0, .slice none 0 0] 28)) wx
set_option maxHeartbeats 2000000 in
theorem new_ok (c : Nat) (sq : Int) (h1 : 1 ≤ c) (h8 : c ≤ 8) (hsq : 1 ≤ sq) (hsq2 : sq ≤ 18446744073709551615) (d1 : decide ((c : Int) < 1) = false) (d2 : decide ((8 : Int) < (c : Int)) = false) (d3 : (sq == 0) = false) (w : World) :
    Calls Try.prog 10 #[.int .i64 (c : Int), .int .u64 sq] w (NewRet { last := List.replicate c (sq - 1), boxes := List.replicate c [] } 0 w) := by
  obtain ⟨arr1, ha1, hmake1⟩ := make_one (P := Try.prog) (t := 25) (e := 22) (bytes := 8) (.int .u64 0) rfl Try.underlying25 (by kernel_rfl) c (by omega) (by omega)
  obtain ⟨arr2, ha2, hmake2⟩ := make_one (P := Try.prog) (t := 26) (e := 23) (bytes := 24) (.slice none 0 0) rfl Try.underlying26 (by kernel_rfl) c (by omega) (by omega)
  have HA := Lib.hid (And.intro ha1 ha2); clear ha1 ha2
  go_enter Try.func10, Try.ntmps10
  go_upto_region 3 with fail
  go_cut [6] (fun s6 wx => ∃ v h g : Nat, s6 = .pointer (some ⟨v, 0, none⟩) ∧ NewCut w c arr1 arr2 v h g wx)
  case first =>
    go_region
    all_goals (go_wp2; go_meet)
    all_goals first
      | (refine ⟨w.heap.size + 1 + 1 + 1, w.heap.size + 1, w.heap.size + 1 + 1, rfl, ?_, ?_, ?_, ?_, ?_, ?_, ?_, ?_, ?_, ?_⟩; (exact (Blk.new _ _ _ (by simp))); (exact (((Blk.new _ _ _ (by simp)).alloc _).alloc _)); (exact ((Blk.new _ _ _ (by simp)).alloc _)); omega; omega; omega; omega; omega; omega; (exact ((((Below.refl _ _).alloc (by simp) _).alloc (by simp) _).alloc (by simp) _).drew))
      | (refine ⟨w.heap.size + 1 + 1 + 1, w.heap.size + 1 + 1, w.heap.size + 1, rfl, ?_, ?_, ?_, ?_, ?_, ?_, ?_, ?_, ?_, ?_⟩; (exact (Blk.new _ _ _ (by simp))); (exact ((Blk.new _ _ _ (by simp)).alloc _)); (exact (((Blk.new _ _ _ (by simp)).alloc _).alloc _)); omega; omega; omega; omega; omega; omega; (exact ((((Below.refl _ _).alloc (by simp) _).alloc (by simp) _).alloc (by simp) _).drew))
      | (refine ⟨w.heap.size + 1 + 1, w.heap.size + 1, w.heap.size + 1 + 1 + 1, rfl, ?_, ?_, ?_, ?_, ?_, ?_, ?_, ?_, ?_, ?_⟩; (exact ((Blk.new _ _ _ (by simp)).alloc _)); (exact (((Blk.new _ _ _ (by simp)).alloc _).alloc _)); (exact (Blk.new _ _ _ (by simp))); omega; omega; omega; omega; omega; omega; (exact ((((Below.refl _ _).alloc (by simp) _).alloc (by simp) _).alloc (by simp) _).drew))
      | (refine ⟨w.heap.size + 1 + 1, w.heap.size + 1 + 1 + 1, w.heap.size + 1, rfl, ?_, ?_, ?_, ?_, ?_, ?_, ?_, ?_, ?_, ?_⟩; (exact ((Blk.new _ _ _ (by simp)).alloc _)); (exact (Blk.new _ _ _ (by simp))); (exact (((Blk.new _ _ _ (by simp)).alloc _).alloc _)); omega; omega; omega; omega; omega; omega; (exact ((((Below.refl _ _).alloc (by simp) _).alloc (by simp) _).alloc (by simp) _).drew))
      | (refine ⟨w.heap.size + 1, w.heap.size + 1 + 1, w.heap.size + 1 + 1 + 1, rfl, ?_, ?_, ?_, ?_, ?_, ?_, ?_, ?_, ?_, ?_⟩; (exact (((Blk.new _ _ _ (by simp)).alloc _).alloc _)); (exact ((Blk.new _ _ _ (by simp)).alloc _)); (exact (Blk.new _ _ _ (by simp))); omega; omega; omega; omega; omega; omega; (exact ((((Below.refl _ _).alloc (by simp) _).alloc (by simp) _).alloc (by simp) _).drew))
      | (refine ⟨w.heap.size + 1, w.heap.size + 1 + 1 + 1, w.heap.size + 1 + 1, rfl, ?_, ?_, ?_, ?_, ?_, ?_, ?_, ?_, ?_, ?_⟩; (exact (((Blk.new _ _ _ (by simp)).alloc _).alloc _)); (exact (Blk.new _ _ _ (by simp))); (exact ((Blk.new _ _ _ (by simp)).alloc _)); omega; omega; omega; omega; omega; omega; (exact ((((Below.refl _ _).alloc (by simp) _).alloc (by simp) _).alloc (by simp) _).drew))
  case rest =>
    obtain ⟨v, h, g, rfl, bv, bh, bg, hhg, hvh, hvg, hv1, hh1, hg1, hb0⟩ := hcut
    have hF0 : Fill (Rint .u64) wc NoS h 22 c [] := Fill.start bh (by rw [← Array.length_toList, HA.out.1, List.length_replicate]; show c = c * 1; omega)
    clear bh
    have n0 := bv.cell 0 (v := .slice (some ⟨h, 0, none⟩) c c) rfl
    go_wp2
    go_loopw [7, 27] (fun _ i wr => ∃ k : Nat, k ≤ c ∧ i = .int .i64 k ∧ Fill (Rint .u64) wr NoS h 22 c (List.replicate k (sq - 1)) ∧ Blk wr v 28 #[.slice (some ⟨h, 0, none⟩) c c, .slice (some ⟨g, 0, none⟩) c c] ∧ Blk wr g 23 arr2 ∧
      Below (w.heap.size + 1) (w.alloc (.cells #[.slice none 0 0, .slice none 0 0] 28)) wr) (fun _ i _ => c - (intOf i).toNat)
    case atStart => exact ⟨0, Nat.zero_le _, rfl, hF0, bv, bg, hb0⟩
    case round =>
      obtain ⟨k, hk, rfl, hF, hv, hg, hb⟩ := hrel
      clear n0
      have n0 := hv.cell 0 (v := .slice (some ⟨h, 0, none⟩) c c) rfl
      have n1 := hv.cell 1 (v := .slice (some ⟨g, 0, none⟩) c c) rfl
      by_cases hlt : k < c
      · obtain ⟨u, hu⟩ := hF.cell (i := k) (by show k < c * 1; omega)
        have fh := hF.frozen
        have HF := Lib.hid hF; have HV := Lib.hid hv; have HG := Lib.hid hg; have HB := Lib.hid hb
        clear hF hv hg hb
        go_wp2
        go_roundw
        case measure => simp [intOf]; omega
        case rel =>
          have h9 := HF.out.store (by rw [List.length_replicate]; exact hlt) (x := sq - 1) (cs := [.int .u64 (sq - 1)]) ⟨rfl, wf_u64' (by omega) (by omega)⟩ (fun h => h)
          rw [List.length_replicate, show k * (Rint .u64).size = k from Nat.mul_one k, ← List.replicate_succ'] at h9
          exact ⟨k + 1, by omega, by go_num, h9, HV.out.far hvh _, HG.out.far (Ne.symm hhg) _, HB.out.setCell hh1 _⟩
      · obtain rfl : k = c := by omega
        have gR : Blk wr w.heap.size 28 #[.slice none 0 0, .slice none 0 0] := (Blk.new w _ _ rfl).below hb (by omega)
        have r0 := gR.cell 0 (v := .slice none 0 0) rfl; have r1 := gR.cell 1 (v := .slice none 0 0) rfl; have fr := gR.frozen
        have HF := Lib.hid hF; have HG := Lib.hid hg; have HB := Lib.hid hb
        clear hF hv hg hb gR
        go_wp2
        refine bodyPost_ret (v := .tuple #[.agg #[.slice (some ⟨h, 0, none⟩) k k, .slice (some ⟨g, 0, none⟩) k k], .int .i64 0]) (by simp [results, Try.results10, go_sem, r0, r1]) rfl ?_
        have hgl := HG.out.lt
        have hhl := HF.out.lt
        refine ⟨_, _, _, _, _, _, rfl, ⟨?_, by simp, ?_, by simp⟩, Nat.le_refl _, by simp only [maxLen]; omega, Nat.le_refl _, by simp only [maxLen]; omega, ?_⟩
        · exact ((HF.out.far (by simp <;> omega) (fun h => h) _).far (by simp <;> omega) (fun h => h) _).sl (fun _ h => h.elim) ⟨by omega, by simpa [World.setCell] using hhl⟩
        · intro i x hx
          have hx' := hx
          rw [List.getElem?_replicate] at hx
          split at hx
          · rename_i hik
            obtain rfl := Option.some.inj hx
            refine ⟨g, 0, [.slice none 0 0], rfl, ⟨by omega, by simpa [World.setCell] using hgl⟩, ⟨none, 0, rfl, Nat.le_refl _, by simp, Sl.nil _ _ _ _⟩, fun j u hj => ?_⟩
            have hgc : arr2[i]? = some (.slice none 0 0) := by
              rw [← Array.getElem?_toList, HA.out.2, List.getElem?_replicate, if_pos hik]
            have h9 := ((HG.out.far (p := ⟨w.heap.size, 0, none⟩) (by simp <;> omega) (.slice (some ⟨h, 0, none⟩) k k)).far (p := ⟨w.heap.size, 1, none⟩) (by simp <;> omega) (.slice (some ⟨g, 0, none⟩) k k)).cell i hgc
            rcases j with _ | j
            · simp at hj; subst hj
              simpa [Rsl] using h9
            · simp at hj
          · simp at hx
        · exact ((((Below.refl _ _).alloc (Nat.le_refl _) _).trans (HB.out.mono (by omega))).setCell (by simp) _).setCell (by simp) _
end Go.Proofs.Ytcmdmmphakclmaa
