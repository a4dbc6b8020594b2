/-
  LinkAll: the second loop, the end, the walk.
-/
import Derived.Test.YtalieakmjkmbbaaLkAll
namespace Go.Proofs.Ytalieakmjkmbbaa
open Go.RowKit Go.Sort
set_option linter.unusedVariables false
attribute [local go_sem ↓] Go.wp_at_zero Go.wp_at_succ

/-- Behind r rounds of the second half. -/
def WyEnd (P : Nat) (win : Int) (bs : List (List Int)) (r : Nat) (w w' : World) : Prop :=
  ∃ s lo nx ex, WyB w' P P win s ∧ WyI win s lo nx ex ∧ s.sent = bs ∧ WyR s (3000 + 20 * r) (100 + 20 * r) (100 + 3 * r) ∧ (r ≤ nx ∨ nx = bs.length) ∧ (r = bs.length + 1 → lo = bs.length ∧ ex = bs.length) ∧ Below P w w'
noncomputable def all_loop2_code : Code := blockOf Try.f7 2
set_option maxRecDepth 100000 in
set_option maxHeartbeats 8000000 in
theorem all_loop2 {Q : Exit → Act → World → Prop} {s1 s2 s3 s4 s6 s7 s8 s9 s10 s11 s12 s13 s14 s15 s16 s17 s18 s19 s20 s21 s22 s23 s24 s25 s26 s27 s28 s29 s30 s31 s32 s33 s34 s35 s36 s37 s38 s39 s40 s41 s42 s43 s44 s45 s46 s47 s48 s49 s50 s53 s54 s55 s56 s57 s58 s59 s60 s61 s62 s63 s64 s65 s66 s67 s68 s69 s70 s71 s72 s73 s74 s75 s76 s77 s78 s79 s80 s81 s82 s83 s84 s85 s86 s87 s88 s89 s90 s91 s92 s93 s94 s95 s96 s97 s98 s99 s100 s101 s102 s103 s104 s105 s106 s107 s108 s109 s110 s111 s112 s113 s114 s115 s116 s117 s118 s119 s120 s121 s122 s123 s124 s125 : Value} (w : World) (P : Nat) (win : Int) (bs : List (List Int)) (M : Nat) (h0 : WyEnd P win bs 0 w w) (hM : bs.length + 1 = M) (hM100 : M ≤ 100) (hw1 : 1 ≤ win) (hw2 : win ≤ 20)
    (hK : ∀ (d4 d8 d9 d11 d53 d54 d55 d56 d57 d58 d59 d60 d61 d62 d63 d64 d65 d66 d67 d68 d69 d70 d71 d72 d73 d74 d75 d76 d77 d78 d79 d80 d81 d82 d83 d84 d85 d86 d87 d88 d89 d90 d91 d92 d93 d94 d95 d96 d97 d98 : Value) (w' : World), WyEnd P win bs M w w' → Q .normal ⟨#[.int .i64 win, s1, s2, s3, d4, .pointer (some ⟨P, 0, none⟩), s6, s7, d8, d9, s10, d11, s12, s13, s14, s15, s16, s17, s18, s19, s20, s21, s22, s23, s24, s25, s26, s27, s28, s29, s30, s31, s32, s33, s34, s35, s36, s37, s38, s39, s40, s41, s42, s43, s44, s45, s46, s47, s48, s49, s50, .int .i64 M, .int .i64 M, d53, d54, d55, d56, d57, d58, d59, d60, d61, d62, d63, d64, d65, d66, d67, d68, d69, d70, d71, d72, d73, d74, d75, d76, d77, d78, d79, d80, d81, d82, d83, d84, d85, d86, d87, d88, d89, d90, d91, d92, d93, d94, d95, d96, d97, d98, s99, s100, s101, s102, s103, s104, s105, s106, s107, s108, s109, s110, s111, s112, s113, s114, s115, s116, s117, s118, s119, s120, s121, s122, s123, s124, s125], []⟩ w') :
    Code.wp Try.prog all_loop2_code Q ⟨#[.int .i64 win, s1, s2, s3, s4, .pointer (some ⟨P, 0, none⟩), s6, s7, s8, s9, s10, s11, s12, s13, s14, s15, s16, s17, s18, s19, s20, s21, s22, s23, s24, s25, s26, s27, s28, s29, s30, s31, s32, s33, s34, s35, s36, s37, s38, s39, s40, s41, s42, s43, s44, s45, s46, s47, s48, s49, s50, .int .i64 M, .int .i64 0, s53, s54, s55, s56, s57, s58, s59, s60, s61, s62, s63, s64, s65, s66, s67, s68, s69, s70, s71, s72, s73, s74, s75, s76, s77, s78, s79, s80, s81, s82, s83, s84, s85, s86, s87, s88, s89, s90, s91, s92, s93, s94, s95, s96, s97, s98, s99, s100, s101, s102, s103, s104, s105, s106, s107, s108, s109, s110, s111, s112, s113, s114, s115, s116, s117, s118, s119, s120, s121, s122, s123, s124, s125], []⟩ w := by
  have HK := Lib.hid hK; clear hK
  have H00 := Lib.hid (And.intro h0 hM); clear h0 hM
  conv => arg 2; whnf
  go_wp2
  go_loopw [52] (fun iv wr => ∃ r : Nat, r ≤ M ∧ iv = .int .i64 r ∧ WyEnd P win bs r w wr) (fun iv _ => M - (intOf iv).toNat)
  case atStart => exact ⟨0, Nat.zero_le _, rfl, H00.out.1⟩
  case round =>
    obtain ⟨wr, rfl⟩ : ∃ wx : World, wx = wr := ⟨_, rfl⟩
    obtain ⟨r, hr, rfl, hE⟩ := hrel
    by_cases hlt : r < M
    · obtain ⟨s, lw, nx, ex, ⟨ρ, AS, nS, cS, AW, nW, cW, AH, nH, cH, AI, nI, cI, AA, nA, cA, AB, nB, cB, AT, nT, cT, hBk, hMm, hnI, hnA, hnB, hnT⟩, hI, hbs, hR, hp, hq, hb⟩ := hE
      have p10 := hBk.cell 10 (v := .int .i64 s.now) rfl
      have fP0 := hBk.frozen
      have hP0 := hBk.lt
      have hnow := hI.now
      have hnow2 := hR.now
      have hn1 : s.now + 3 ≤ 9223372036854775807 := by omega
      have hf := hI.fit hw2 (by have := hR.items; omega) (by have := hR.acks; omega) (by have := hR.now; omega)
      have H := Lib.hid (And.intro hBk (And.intro hMm (And.intro hf (And.intro hnI (And.intro hnA (And.intro hnB (And.intro hnT (And.intro hI (And.intro hbs (And.intro hR (And.intro hp hb)))))))))))
      clear hBk hMm hf hnI hnA hnB hnT hI hbs hR hp hq hb hnow2
      go_upto_region 18 with fail
      obtain ⟨w0, hw0⟩ : ∃ w0, wr.setCell ⟨P, 10, none⟩ (.int .i64 (s.now + 3)) = w0 := ⟨_, rfl⟩
      have hMm := (H.out.2.1.set 10 (.int .i64 (s.now + 3))).time (s.now + 3)
      have hB := Blk.set H.out.1 10 (.int .i64 (s.now + 3))
      have hb0 := (Below.refl P wr).setCell (p := ⟨P, 10, none⟩) (Nat.le_refl _) (.int .i64 (s.now + 3))
      rw [hw0] at hMm hB hb0 ⊢
      have p0 := Blk.cell hB 0 (v := .int .i64 s.o.next) rfl; have p1 := Blk.cell hB 1 (v := .slice AS nS cS) rfl; have p2 := Blk.cell hB 2 (v := .slice AW nW cW) rfl; have p9 := Blk.cell hB 9 (v := .int .i64 win) rfl; have p10' := Blk.cell hB 10 (v := .int .i64 (s.now + 3)) rfl
      have hP := Blk.lt hB
      obtain ⟨o', l, hol⟩ : ∃ o' l, againP s.o 3 (s.now + 3) = (o', l) := ⟨_, _, rfl⟩
      have HC := Lib.hid (show ∀ w', RowKit.Below w0.heap.size w0 w' → Calls Try.prog 15 #[.agg #[.int .i64 s.o.next, .slice AS nS cS, .slice AW nW cW], .int .i64 3, .int .i64 (s.now + 3)] w' (OutRet o' l w') from fun w' hb' => by
        have := again_any w' s.o AS nS cS AW nW cW 3 (s.now + 3) (hMm.out.keep (fun p hp => hb'.cell hp.2.1) (fun b hb => Nat.lt_of_lt_of_le hb.2.1 hb'.size)) ⟨by have := H.out.2.2.1.sz; omega, by have := H.out.2.2.1.sz; omega, H.out.2.2.1.t1, H.out.2.2.1.t2⟩ (WalkArith.wf_i64 (by omega)) (by have := H.out.2.2.1.now; omega) (fun x hx => by have := H.out.2.2.1.tm x hx; omega)
        rw [hol] at this
        exact this)
      have hall := H.out.2.2.2.2.2.2.2.1.all
      obtain ⟨hI1, _, _⟩ := H.out.2.2.2.2.2.2.2.1.again (now := s.now + 3) (by omega)
      have hsA : s.again (s.now + 3) = { { s with now := s.now + 3 } with o := o' } := by simp [Wy.again, hol]
      rw [hsA] at hI1
      rw [hol] at hall
      have hlen := H.out.2.2.2.2.2.2.2.1.len
      have HL := Lib.hid (And.intro hall hI1)
      have H0 := Lib.hid (And.intro hB (And.intro hMm hb0))
      clear hB hMm hw0 hol hsA hb0 p10 fP0 hall hI1
      refine wy_again7 w0 P s.o.next (s.now + 3) win AS nS cS AW nW cW o' l hP p0 p1 p2 p9 p10' HC.out ?_
      intro d61 d62 d63 d64 d65 d66 d67 d68 d69 d70 d71 d72 E A1 n1 c1 A2 n2 c2 T t tc w1 hE hO l1 l2 l3 l4 ht hsl hb1 hwE
      have z1 := hb1.size
      have hM1 := (H0.out.2.1.up hb1).newOut (hO.keep (fun _ _ => rfl) (fun b hb => newRole_dat (Nat.le_of_lt hP) hb)) l1 l2 l3 l4
      have hB1 := Blk.below H0.out.1 hb1 hP
      have x0 := hE.cell 0 (v := .int .i64 o'.next) rfl; have x1 := hE.cell 1 (v := .slice A1 n1 c1) rfl; have x2 := hE.cell 2 (v := .slice A2 n2 c2) rfl
      have q0 := Blk.cell hB1 0 (v := .int .i64 s.o.next) rfl; have q1 := Blk.cell hB1 1 (v := .slice AS nS cS) rfl; have q2 := Blk.cell hB1 2 (v := .slice AW nW cW) rfl
      have fP := Blk.frozen hB1
      have lP := Blk.lt hB1
      have hPE : P ≠ E := by omega
      have hsd : Sl Rit w1 (Dat w1 P (newRole w0 ρ)) T l := hsl.keep (fun _ _ => rfl) (fun b hb => newRole_dat (Nat.le_of_lt hP) hb)
      have H1 := Lib.hid (And.intro hM1 (And.intro hB1 (And.intro hsd (And.intro ht (hb1.mono (Nat.le_of_lt hP))))))
      clear hM1 hB1 hE hO l1 l2 l3 l4 ht hsl hsd hb1
      go_upto_region 20 with fail
      obtain ⟨w2, hw2'⟩ : ∃ w2, (((w1.setCell ⟨P, 0, none⟩ (.int .i64 o'.next)).setCell ⟨P, 1, none⟩ (.slice A1 n1 c1)).setCell ⟨P, 2, none⟩ (.slice A2 n2 c2)) = w2 := ⟨_, rfl⟩
      have hM2 := ((H1.out.1.set 0 (.int .i64 o'.next)).set 1 (.slice A1 n1 c1)).set 2 (.slice A2 n2 c2)
      have hB2 := Blk.set (Blk.set (Blk.set H1.out.2.1 0 (.int .i64 o'.next)) 1 (.slice A1 n1 c1)) 2 (.slice A2 n2 c2)
      have hbb2 := ((H1.out.2.2.2.2.setCell (p := ⟨P, 0, none⟩) (Nat.le_refl _) (.int .i64 o'.next)).setCell (p := ⟨P, 1, none⟩) (Nat.le_refl _) (.slice A1 n1 c1)).setCell (p := ⟨P, 2, none⟩) (Nat.le_refl _) (.slice A2 n2 c2)
      have hsl2 : Sl Rit w2 (Dat w2 P (newRole w0 ρ)) T l := by
        rw [← hw2']
        exact H1.out.2.2.1.keep (fun p hp => World.cell?_of_block ((Below.heap_setCell _ ⟨P, 2, none⟩ _ _ (datP H1.out.1 hp 2)).trans ((Below.heap_setCell _ ⟨P, 1, none⟩ _ _ (datP H1.out.1 hp 1)).trans (Below.heap_setCell _ ⟨P, 0, none⟩ _ _ (datP H1.out.1 hp 0))))) (fun b hb => ⟨hb.1, by simpa [World.setCell] using hb.2.1, hb.2.2⟩)
      rw [hw2'] at hM2 hB2 hbb2 ⊢
      have hlP2 := Blk.lt hB2
      have ht20 : (t : Int) ≤ win := by have h9 := HL.out.1.1; have h8 := H1.out.2.2.2.1; have h7 : l.length = s.o.sent.length := h9; omega
      have ht20' : t ≤ 20 := by omega
      have d1 : decide (win < (t : Int)) = false := decide_eq_false (by omega)
      have H2 := Lib.hid (show (WyBr w2 P P win (newRole w0 ρ) (Wy.mk o' s.e s.held s.items s.acks s.sent s.told (s.now + 3)) ∧ Below P wr w2 ∧ Sl Rit w2 (Dat w2 P (newRole w0 ρ)) T l) from ⟨⟨A1, n1, c1, A2, n2, c2, AH, nH, cH, AI, nI, cI, AA, nA, cA, AB, nB, cB, AT, nT, cT, hB2, hM2, H.out.2.2.2.1, H.out.2.2.2.2.1, H.out.2.2.2.2.2.1, H.out.2.2.2.2.2.2.1⟩, H0.out.2.2.trans hbb2, hsl2⟩)
      clear hM2 hB2 hbb2 hsl2 hw2' fP lP q0 q1 q2 x0 x1 x2 z1 hlen
      go_upto_block 4 with fail
      refine all_inner w2 P win (newRole w0 ρ) (Wy.mk o' s.e s.held s.items s.acks s.sent s.told (s.now + 3)) lw nx ex bs l T t tc (3000 + 20 * r) (100 + 20 * r) (100 + 3 * (r + 1)) H2.out.1 HL.out.2 H.out.2.2.2.2.2.2.2.2.1 ⟨H.out.2.2.2.2.2.2.2.2.2.1.items, H.out.2.2.2.2.2.2.2.2.2.1.acks, by show s.now + 3 ≤ _; have := H.out.2.2.2.2.2.2.2.2.2.1.now; push_cast; push_cast at this; omega⟩ H2.out.2.2 H1.out.2.2.2.1 (fun j x hx => by
        have h9 := HL.out.1.2 j x hx
        exact ⟨h9.1, by rw [← H.out.2.2.2.2.2.2.2.2.1]; exact h9.2⟩) hw1 hw2 ht20' (by omega) (by omega) (by omega) ?_
      intro d11 d84 d85 d86 d87 d88 d89 d90 w3 s' ex' hB3 hI3 hbs3 hR3 hlo3 hb3
      have hN3 := hI3.rowN
      have hex3 := hI3.exle
      have hexn : ex' = nx := by
        have h9 := HL.out.1.1
        have h8 := H1.out.2.2.2.1
        have h7 : l.length = s.o.sent.length := h9
        have h6 := H.out.2.2.2.2.2.2.2.1.rowN
        omega
      have hse : s'.e = (nx : Int) := by rw [hI3.exp, hexn]
      have hf3 := hI3.fit hw2 (by have := hR3.items; omega) (by have := hR3.acks; omega) (by have := hR3.now; omega)
      obtain ⟨lo', c, hI4, hl4, hn4⟩ := hI3.ack hw1 (n := s'.e) (by rw [hI3.exp]; exact Int.le_refl _)
      have hn4' := hn4 hse
      have hB3' := hB3
      obtain ⟨ρ3, AS3, nS3, cS3, AW3, nW3, cW3, AH3, nH3, cH3, AI3, nI3, cI3, AA3, nA3, cA3, AB3, nB3, cB3, AT3, nT3, cT3, hBk3, _⟩ := hB3'
      have r3 := hBk3.cell 3 (v := .int .i64 s'.e) rfl
      have hP3 := hBk3.lt
      have HC4 := Lib.hid (answer_any w3 P P win s' s'.e hB3 hf3 (Nat.le_of_lt hP3) (by omega))
      have HE4 := Lib.hid (show (WyI win (s'.ack s'.e win) lo' (nx + c) ex' ∧ (s'.ack s'.e win).sent = bs ∧ WyR (s'.ack s'.e win) (3000 + 20 * (r + 1)) (100 + 20 * (r + 1)) (100 + 3 * (r + 1)) ∧ (r + 1 ≤ nx + c ∨ nx + c = bs.length) ∧ (r + 1 = bs.length + 1 → lo' = bs.length ∧ ex' = bs.length) ∧ Below P w w3) from by
        have hnx4 := hI4.nxle
        have hs4 : (s'.ack s'.e win).sent.length = bs.length := congrArg List.length hbs3
        have hs3 : s'.sent.length = bs.length := congrArg List.length hbs3
        have hpp := H.out.2.2.2.2.2.2.2.2.2.2.1
        have hc0 := hn4'.1
        have hnx3 := hI3.nxle
        refine ⟨hI4, hbs3, ⟨?_, by have := hR3.acks; show s'.acks.length ≤ _; omega, hR3.now⟩, ?_, ?_, (H.out.2.2.2.2.2.2.2.2.2.2.2.trans H2.out.2.1).trans hb3⟩
        · show (s'.items ++ _).length ≤ _
          rw [List.length_append]
          have := hR3.items; omega
        · rcases hpp with h9 | h9
          · rcases Nat.eq_zero_or_pos c with h8 | h8
            · right; have := hc0 h8; omega
            · left; omega
          · right; omega
        · intro h9
          have : nx = bs.length := by rcases hpp with h8 | h8 <;> omega
          exact ⟨by rw [hn4'.2]; exact this, by omega⟩)
      clear hB3 hI3 hbs3 hR3 hlo3 hb3 hN3 hex3 hexn hse hf3 hI4 hl4 hn4 hn4' hBk3 d1
      go_wp2_with (first
        | (go_at_call 23
           go_loud (skip
                    refine HC4.out.mono ?_
                    rintro en w4 ⟨⟨v, rfl⟩, hR4⟩
                    have H4 := Lib.hid hR4
                    clear hR4 r3)))
      go_roundw
      case measure => simp [intOf]; omega
      case rel =>
        obtain ⟨e1, e2, e3, e4, e5, e6⟩ := HE4.out
        exact ⟨r + 1, by omega, by go_num, _, _, _, _, H4.out.1, e1, e2, e3, e4, e5, e6.trans H4.out.2⟩
    · obtain rfl : r = M := by omega
      have H := Lib.hid hE
      clear hE
      go_wp2
      exact HK.out _ _ _ _ _ _ _ _ _ _ _ _ _ _ _ _ _ _ _ _ _ _ _ _ _ _ _ _ _ _ _ _ _ _ _ _ _ _ _ _ _ _ _ _ _ _ _ _ _ _ _ H.out
theorem OwnR.read2 {α : Type} {R : Rdr α} {w : World} {B : Nat} {ρ : Nat → Nat} {i : Nat} {e : TypeId} {A : Option Addr} {n c : Nat} {xs : List α} (h : OwnR R w B ρ i e (.slice A n c) xs) : xs.length ≤ c ∧ c ≤ maxLen ∧ Sl R w (lo w.heap.size) A xs := by
  obtain ⟨_, h2, h3, h4⟩ := h.1.slice (S' := lo w.heap.size) (fun b hb => hb.2.1) (fun g _ hlt => hlt)
  exact ⟨h2, h3, h4⟩
noncomputable def all_r29_code : Code := regionOf Try.f7 29
set_option maxRecDepth 100000 in
set_option maxHeartbeats 4000000 in
theorem all_r29 {Q : Exit → Act → World → Prop} {s0 s1 s2 s3 s4 s6 s7 s8 s9 s10 s11 s12 s13 s14 s15 s16 s17 s18 s19 s20 s21 s22 s23 s24 s25 s26 s27 s28 s29 s30 s31 s32 s33 s34 s35 s36 s37 s38 s39 s40 s41 s42 s43 s44 s45 s46 s47 s48 s49 s50 s51 s52 s53 s54 s55 s56 s57 s58 s59 s60 s61 s62 s63 s64 s65 s66 s67 s68 s69 s70 s71 s72 s73 s74 s75 s76 s77 s78 s79 s80 s81 s82 s83 s84 s85 s86 s87 s88 s89 s90 s91 s92 s93 s94 s95 s96 s97 s98 s99 s100 s101 s102 s103 s104 s105 s106 s107 s108 s109 s110 s111 s112 s113 s114 s115 s116 s117 s118 s119 s120 s121 s122 s123 s124 s125 : Value} (w : World) (P : Nat) (AT : Option Addr) (nT cT : Nat) (AB : Option Addr) (nB cB : Nat) (AS : Option Addr) (cS : Nat) (AW : Option Addr) (cW : Nat) (hP : P < w.heap.size)
    (p8 : w.cell? ⟨P, 8, none⟩ = some (.slice AT nT cT)) (p7 : w.cell? ⟨P, 7, none⟩ = some (.slice AB nB cB)) (p1 : w.cell? ⟨P, 1, none⟩ = some (.slice AS 0 cS)) (p2 : w.cell? ⟨P, 2, none⟩ = some (.slice AW 0 cW))
    (hC : ∀ w', RowKit.Below w.heap.size w w' → Calls Try.prog 13 #[.slice AT nT cT, .slice AB nB cB] w' fun en w2 => en = .returned (.bool true) ∧ Below w'.heap.size w' w2)
    (hK : ∀ (d99 d100 d101 d102 d103 d104 d105 d106 d107 d108 d109 d110 d111 d112 d113 d114 d115 d116 d117 d118 d119 d120 d121 d122 d123 d124 d125 : Value) (w' : World), Below w.heap.size w w' → Q .normal ⟨#[s0, s1, s2, s3, .bool true, .pointer (some ⟨P, 0, none⟩), s6, s7, s8, s9, s10, s11, s12, s13, s14, s15, s16, s17, s18, s19, s20, s21, s22, s23, s24, s25, s26, s27, s28, s29, s30, s31, s32, s33, s34, s35, s36, s37, s38, s39, s40, s41, s42, s43, s44, s45, s46, s47, s48, s49, s50, s51, s52, s53, s54, s55, s56, s57, s58, s59, s60, s61, s62, s63, s64, s65, s66, s67, s68, s69, s70, s71, s72, s73, s74, s75, s76, s77, s78, s79, s80, s81, s82, s83, s84, s85, s86, s87, s88, s89, s90, s91, s92, s93, s94, s95, s96, s97, s98, d99, d100, d101, d102, d103, d104, d105, d106, d107, d108, d109, d110, d111, d112, d113, d114, d115, d116, d117, d118, d119, d120, d121, d122, d123, d124, d125], []⟩ w') :
    Code.wp Try.prog all_r29_code Q ⟨#[s0, s1, s2, s3, s4, .pointer (some ⟨P, 0, none⟩), s6, s7, s8, s9, s10, s11, s12, s13, s14, s15, s16, s17, s18, s19, s20, s21, s22, s23, s24, s25, s26, s27, s28, s29, s30, s31, s32, s33, s34, s35, s36, s37, s38, s39, s40, s41, s42, s43, s44, s45, s46, s47, s48, s49, s50, s51, s52, s53, s54, s55, s56, s57, s58, s59, s60, s61, s62, s63, s64, s65, s66, s67, s68, s69, s70, s71, s72, s73, s74, s75, s76, s77, s78, s79, s80, s81, s82, s83, s84, s85, s86, s87, s88, s89, s90, s91, s92, s93, s94, s95, s96, s97, s98, s99, s100, s101, s102, s103, s104, s105, s106, s107, s108, s109, s110, s111, s112, s113, s114, s115, s116, s117, s118, s119, s120, s121, s122, s123, s124, s125], []⟩ w := by
  have HK := Lib.hid hK; clear hK
  have HC := Lib.hid hC; clear hC
  have k8 := cell_regrown p8; have k7 := cell_regrown p7; have k1 := cell_regrown p1; have k2 := cell_regrown p2
  have CS := Lib.hid (fun d os' => Calls.regrown_of (HC.out (grow (redrawn w d) os') (below_regrown w d os')))
  conv => arg 2; whnf
  refine wp_region_quiet_below (by kernel_rfl) (by kernel_rfl) ?_
  repeat (any_goals (first | go_big_quiet_step (with_reducible exact CS.out _ _) | quiet_step (with_reducible exact CS.out _ _)))
  refine wpQuiet_nil ?_
  intro _ hw'
  obtain ⟨⟨dq, osq⟩, hw''⟩ := hw'
  subst hw''
  exact HK.out _ _ _ _ _ _ _ _ _ _ _ _ _ _ _ _ _ _ _ _ _ _ _ _ _ _ _ _ (below_regrown w dq osq)
set_option maxRecDepth 100000 in
set_option maxHeartbeats 4000000 in
theorem linkAll_walk (win : Int) (SA : Option Addr) (steps : List Int) (N cS : Nat) (w : World) (hN : steps.length = N) (hs : Sl (Rint .i64) w (lo w.heap.size) SA steps) :
    Calls Try.prog 7 #[.int .i64 win, .slice SA N cS] w fun e w' => e = .returned (.bool true) ∧ Below w.heap.size w w' := by
  have HX := Lib.hid (And.intro hN hs); clear hN hs
  go_enter Try.func7, Try.ntmps7
  go_upto_region 5 with (first
    | (go_at_call 8
       go_loud (skip
                refine (live_any _).mono ?_
                rintro e w1 ⟨rfl, hb1⟩
                have HB1 := Lib.hid hb1; clear hb1)))
  all_goals try (go_ret; exact ⟨rfl, HB1.out⟩)
  have c1 : 1 ≤ win := by omega
  have c2 : win ≤ 20 := by omega
  have c3 : N ≤ 60 := by omega
  have z1 := HB1.out.size
  have HZ := Lib.hid (WyB.zero w1 win)
  go_upto_block 0 with fail
  have hba : RowKit.Below w1.heap.size w1 (w1.alloc (.cells #[.int .i64 0, .slice none 0 0, .slice none 0 0, .int .i64 0, .slice none 0 0, .slice none 0 0, .slice none 0 0, .slice none 0 0, .slice none 0 0, .int .i64 win, .int .i64 0] 50)) := (Below.refl _ _).alloc (Nat.le_refl _) _
  generalize (w1.alloc (.cells #[.int .i64 0, .slice none 0 0, .slice none 0 0, .int .i64 0, .slice none 0 0, .slice none 0 0, .slice none 0 0, .slice none 0 0, .slice none 0 0, .int .i64 win, .int .i64 0] 50)) = w2 at *
  have HB2 := Lib.hid (HB1.out.trans (hba.mono z1))
  clear hba
  refine all_loop1 w2 w1.heap.size win SA steps N cS (HX.out.2.keep (fun p hp => HB2.out.cell hp) (fun b hb => Nat.lt_of_lt_of_le hb z1)) HX.out.1 c3 c1 c2 HZ.out ?_ ?_
  rotate_left
  · intro d7 d30 d31 d32 d33 d34 d35 d36 d37 d38 d39 d40 d41 d42 d43 d44 d45 w' hb
    have H := Lib.hid (HB2.out.trans (hb.mono z1))
    clear hb
    go_wp2
    go_ret
    exact ⟨rfl, H.out⟩
  intro d4 d7 d31 d32 d33 d34 d35 d36 d37 d38 d39 d40 d41 d42 d43 d44 d45 w3 hE
  obtain ⟨s, lw, nx, ex, hB3, hI3, hK3, hb3⟩ := hE
  have hB3' := hB3
  obtain ⟨ρ, AS, nS, cS', AW, nW, cW, AH, nH, cH, AI, nI, cI, AA, nA, cA, AB, nB, cB, AT, nT, cT, hBk, hM, hnI, hnA, hnB, hnT⟩ := hB3'
  have p7 := hBk.cell 7 (v := .slice AB nB cB) rfl
  have lP := hBk.lt
  obtain ⟨M, hM1⟩ : ∃ M, nB + 1 = M := ⟨_, rfl⟩
  have hM2 : (nB : Int) + 1 = (M : Int) := by omega
  have hnB60 : nB ≤ 60 := by have := hK3.sent; omega
  have HE := Lib.hid (show (WyEnd w1.heap.size win s.sent 0 w3 w3 ∧ s.sent.length + 1 = M) from ⟨⟨s, lw, nx, ex, hB3, hI3, rfl, ⟨by have := hK3.items; omega, by have := hK3.acks; omega, by have := hK3.now; push_cast; omega⟩, .inl (Nat.zero_le _), fun h9 => by omega, Below.refl _ _⟩, by omega⟩)
  have H3 := Lib.hid (HB2.out.trans (hb3.mono z1))
  clear hB3 hI3 hK3 hb3 hBk hM hnI hnA hnB hnT
  go_upto_block 2 with fail
  refine all_loop2 w3 w1.heap.size win s.sent M HE.out.1 HE.out.2 (by omega) c1 c2 ?_
  intro d4 d8 d9 d11 d53 d54 d55 d56 d57 d58 d59 d60 d61 d62 d63 d64 d65 d66 d67 d68 d69 d70 d71 d72 d73 d74 d75 d76 d77 d78 d79 d80 d81 d82 d83 d84 d85 d86 d87 d88 d89 d90 d91 d92 d93 d94 d95 d96 d97 d98 w4 hE4
  obtain ⟨s4, lw4, nx4, ex4, hB4, hI4, hbs4, hR4, hp4, hq4, hb4⟩ := hE4
  obtain ⟨ρ4, AS4, nS4, cS4, AW4, nW4, cW4, AH4, nH4, cH4, AI4, nI4, cI4, AA4, nA4, cA4, AB4, nB4, cB4, AT4, nT4, cT4, hBk4, hM4, _, _, hnB4, hnT4⟩ := hB4
  have hL := HE.out.2
  obtain ⟨hlw4, hex4⟩ := hq4 (by omega)
  have hlen4 : s4.sent.length = s.sent.length := congrArg List.length hbs4
  have hnx4 := hI4.nxle
  have hN4 := hI4.rowN
  have hloex := hI4.loex
  have hexle := hI4.exle
  have hnx : nx4 = s.sent.length := by omega
  have hs0 : s4.o.sent.length = 0 := by omega
  have hw0 : s4.o.wait.length = 0 := by rw [hI4.wait, List.length_drop]; omega
  obtain rfl : nS4 = 0 := by have := hM4.out.sentN; omega
  obtain rfl : nW4 = 0 := by have := hM4.out.waitN; omega
  have htold : s4.told = s4.sent := by rw [hI4.told, List.take_of_length_le (by omega)]
  have hrt := hM4.told.read2
  have hrb := hM4.sent.read2
  have hfew4 := hI4.few
  have HC := Lib.hid (show ∀ w', RowKit.Below w4.heap.size w4 w' → Calls Try.prog 13 #[.slice AT4 nT4 cT4, .slice AB4 nB4 cB4] w' fun en w2 => en = .returned (.bool true) ∧ Below w'.heap.size w' w2 from fun w' hb' => by
    have := sameParts_any AT4 s4.told nT4 cT4 hnT4 AB4 s4.sent nB4 cB4 hnB4 w' (hrt.2.2.below hb' hb'.size) (hrb.2.2.below hb' hb'.size) (by have : s4.told.length = s4.sent.length := congrArg List.length htold; omega)
    rw [decide_eq_true htold] at this
    exact this)
  have H4 := Lib.hid (H3.out.trans (hb4.mono z1))
  have hP4 := hBk4.lt
  have p8 := hBk4.cell 8 (v := .slice AT4 nT4 cT4) rfl; have p7' := hBk4.cell 7 (v := .slice AB4 nB4 cB4) rfl; have p1 := hBk4.cell 1 (v := .slice AS4 0 cS4) rfl; have p2 := hBk4.cell 2 (v := .slice AW4 0 cW4) rfl
  clear hI4 hbs4 hR4 hp4 hq4 hb4 hBk4 hM4 hnB4 hnT4 hL hlw4 hex4 hlen4 hnx4 hN4 hloex hexle hnx hs0 hw0 htold hrt hrb hfew4
  go_upto_region 29 with fail
  refine all_r29 w4 w1.heap.size AT4 nT4 cT4 AB4 nB4 cB4 AS4 cS4 AW4 cW4 hP4 p8 p7' p1 p2 HC.out ?_
  intro d99 d100 d101 d102 d103 d104 d105 d106 d107 d108 d109 d110 d111 d112 d113 d114 d115 d116 d117 d118 d119 d120 d121 d122 d123 d124 d125 w5 hb5
  have H5 := Lib.hid (H4.out.trans (hb5.mono (by have := H4.out.size; omega)))
  clear hb5
  go_wp2
  go_ret
  exact ⟨rfl, H5.out⟩
end Go.Proofs.Ytalieakmjkmbbaa
