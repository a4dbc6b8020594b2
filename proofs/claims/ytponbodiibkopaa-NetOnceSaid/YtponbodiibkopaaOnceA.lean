/-
  NetOnce: the sendings.
-/
import Derived.Test.YtponbodiibkopaaOnceP
namespace Go.Proofs.Ytponbodiibkopaa
open Go.RowKit Go.Sort
set_option linter.unusedVariables false

abbrev Rbd := Rsl 1 (Rint .u8)
theorem Sl.sub {α : Type} {R : Rdr α} {by_ : Nat} {w : World} {S : Nat → Prop} {A : Option Addr} {xs : List (List α)} (h : Sl (Rsl by_ R) w S A xs) {i : Nat} {x : List α} (hx : xs[i]? = some x) :
    ∃ (b off : Nat) (T : Option Addr) (n cap : Nat), A = some ⟨b, off, none⟩ ∧ S b ∧ x.length = n ∧ n ≤ cap ∧ cap ≤ maxLen ∧ Sl R w S T x ∧ w.cell? ⟨b, off + i, none⟩ = some (.slice T n cap) := by
  obtain ⟨b, off, cs, hA, hb, ⟨T, cap, rfl, hl, hm, hs⟩, hc⟩ := h i x hx
  exact ⟨b, off, T, _, cap, hA, hb, rfl, hl, hm, hs, by simpa [Rsl] using hc 0 _ rfl⟩
/-- The net that is under way, in the variable E, apart from it and from M. -/
structure OnW (W : Nat) (w0 wr : World) (E M : Nat) (A : Option Addr) (n c : Nat) (B : Option Addr) (m d : Nat) (x : Nt) : Prop where
  blk : Blk wr E 25 #[.slice A n c, .slice B m d]
  net : NtAt wr (fun b => b < wr.heap.size ∧ b ≠ E ∧ b ≠ M) A n B m x
  fit : NtFit x
  nc : n ≤ c
  cm : c ≤ maxLen
  md : m ≤ d
  dm : d ≤ maxLen
  bel : Below W w0 wr
theorem NtAt.more {w : World} {S S' : Nat → Prop} {A B : Option Addr} {n m : Nat} {x : Nt} (h : NtAt w S A n B m x) (hs : ∀ b, S b → S' b) : NtAt w S' A n B m x := ⟨h.list.more hs, h.listN, h.fates.more hs, h.fatesN⟩
theorem NtAt.keep {w w' : World} {S S' : Nat → Prop} {A B : Option Addr} {n m : Nat} {x : Nt} (h : NtAt w S A n B m x) (hk : ∀ p : Addr, S p.block → w'.cell? p = w.cell? p) (hs : ∀ b, S b → S' b) : NtAt w' S' A n B m x := ⟨h.list.keep hk hs, h.listN, h.fates.keep hk hs, h.fatesN⟩
theorem NtAt.set {w : World} {S : Nat → Prop} {A B : Option Addr} {n m : Nat} {x : Nt} (h : NtAt w S A n B m x) {p : Addr} (hp : ¬ S p.block) (u : Value) : NtAt (w.setCell p u) S A n B m x := ⟨h.list.set hp u, h.listN, h.fates.set hp u, h.fatesN⟩
theorem OnW.arg {W : Nat} {w0 wr : World} {E M : Nat} {A : Option Addr} {n c : Nat} {B : Option Addr} {m d : Nat} {x : Nt} (h : OnW W w0 wr E M A n c B m d x) : NtArg wr A n c B m d x := ⟨h.net.more (fun b hb => hb.1), h.fit, h.nc, h.cm, h.md, h.dm⟩
/-- Another net is written into the variable. -/
theorem OnW.put {W : Nat} {w0 wr w3 : World} {E M : Nat} {A A' : Option Addr} {n n' c c' : Nat} {B B' : Option Addr} {m m' d d' : Nat} {x x' : Nt} (h : OnW W w0 wr E M A n c B m d x) (hb : Below wr.heap.size wr w3) (hn : NtAt w3 (fun b => b < w3.heap.size ∧ b ≠ E ∧ b ≠ M) A' n' B' m' x') (hf : NtFit x') (h1 : n' ≤ c') (h2 : c' ≤ maxLen) (h3 : m' ≤ d') (h4 : d' ≤ maxLen) (hWE : W ≤ E) :
    OnW W w0 ((w3.setCell ⟨E, 0, none⟩ (.slice A' n' c')).setCell ⟨E, 1, none⟩ (.slice B' m' d')) E M A' n' c' B' m' d' x' := by
  have hl := h.blk.lt
  have hz := hb.size
  have hzw := h.bel.size
  refine ⟨((h.blk.below hb hl).set 0 _).set 1 _, ((hn.set (p := ⟨E, 0, none⟩) (fun hm => hm.2.1 rfl) _).set (p := ⟨E, 1, none⟩) (fun hm => hm.2.1 rfl) _).more (fun b hb => by simpa [World.setCell] using hb), hf, h1, h2, h3, h4, (((h.bel.trans (hb.mono ?_)).setCell (p := ⟨E, 0, none⟩) hWE _).setCell (p := ⟨E, 1, none⟩) hWE _)⟩
  omega
theorem allF_fit {fs : List Int} {bs : List (List Int)} {k : Nat} (hk : k ≤ 100) (hF : fs.length ≤ 100) (hb : ∀ i, i < k → (bs.getD i []).length ≤ 100) : NtFit ⟨allF fs bs k, fs.drop k⟩ :=
  ⟨by have := allF_len fs bs k; show ((allF fs bs k).length + 2) * 48 ≤ _; omega, by show (fs.drop k).length * 8 ≤ _; rw [List.length_drop]; omega, fun f hf => by
    obtain ⟨i, h1, h2⟩ := allF_mem hf
    rw [(partI_mem h2).2.2]
    have := hb i h1; omega⟩
noncomputable def once_send_code : Code := blockOf Try.f4 0
set_option maxRecDepth 100000 in
set_option maxHeartbeats 4000000 in
theorem once_send {Q : Exit → Act → World → Prop} {s0 s1 s2 s3 s4 s6 s7 s8 s9 s10 s11 s12 s13 s14 s15 s16 s17 s18 s19 s20 s21 s22 s23 s24 s25 s26 s27 s28 s29 s30 s34 s35 s36 s37 s38 s39 s40 s41 s42 s43 s44 s45 s46 s47 s48 s49 s50 s51 s52 s53 s54 s55 s56 s57 s58 s59 s60 s61 s62 s63 s64 s65 s66 s67 s68 s69 s70 s71 s72 s73 s74 s75 s76 s77 s78 s79 s80 s81 s82 s83 s84 s85 s86 s87 s88 s89 s90 s91 s92 s93 s94 s95 s96 s97 s98 s99 s100 s101 s102 s103 s104 s105 s106 s107 s108 s109 s110 s111 s112 s113 s114 s115 s116 s117 s118 s119 s120 s121 s122 s123 s124 s125 s126 s127 s128 s129 s130 s131 s132 s133 s134 s135 s136 s137 s138 s139 s140 s141 s142 s143 s144 s145 s146 s147 s148 s149 s150 s151 s152 s153 s154 s155 s156 s157 s158 s159 s160 s161 s162 s163 s164 s165 s166 s167 s168 s169 s170 s171 s172 s173 : Value} (w0 w : World) (W E : Nat) (fs : List Int) (bs : List (List Int)) (A : Option Addr) (n c : Nat) (B : Option Addr) (m d : Nat) (BA : Option Addr) (N bc : Nat) (hE : OnW W w0 w E E A n c B m d ⟨[], fs⟩) (hWE : W ≤ E) (hN : bs.length = N) (hbs : Sl Rbd w0 (lo W) BA bs) (hN40 : N ≤ 40) (hF : fs.length ≤ 100)
    (hR : ∀ (d6 d7 d34 d35 d36 d37 d38 d39 d40 d41 d42 d43 d44 d45 d46 : Value) (i : Value) (w' : World), Below W w0 w' → Q .ret ⟨#[s0, s1, s2, s3, .bool true, .pointer (some ⟨E, 0, none⟩), d6, d7, s8, s9, s10, s11, s12, s13, s14, s15, s16, s17, s18, s19, s20, s21, s22, s23, s24, s25, s26, s27, s28, s29, s30, .slice BA N bc, .int .i64 (N : Nat), i, d34, d35, d36, d37, d38, d39, d40, d41, d42, d43, d44, d45, d46, s47, s48, s49, s50, s51, s52, s53, s54, s55, s56, s57, s58, s59, s60, s61, s62, s63, s64, s65, s66, s67, s68, s69, s70, s71, s72, s73, s74, s75, s76, s77, s78, s79, s80, s81, s82, s83, s84, s85, s86, s87, s88, s89, s90, s91, s92, s93, s94, s95, s96, s97, s98, s99, s100, s101, s102, s103, s104, s105, s106, s107, s108, s109, s110, s111, s112, s113, s114, s115, s116, s117, s118, s119, s120, s121, s122, s123, s124, s125, s126, s127, s128, s129, s130, s131, s132, s133, s134, s135, s136, s137, s138, s139, s140, s141, s142, s143, s144, s145, s146, s147, s148, s149, s150, s151, s152, s153, s154, s155, s156, s157, s158, s159, s160, s161, s162, s163, s164, s165, s166, s167, s168, s169, s170, s171, s172, s173], []⟩ w')
    (hK : ∀ (d4 d6 d7 d34 d35 d36 d37 d38 d39 d40 d41 d42 d43 d44 d45 d46 : Value) (A : Option Addr) (n c : Nat) (B : Option Addr) (m d : Nat) (w' : World), OnW W w0 w' E E A n c B m d ⟨allF fs bs N, fs.drop N⟩ → (∀ i, i < N → (bs.getD i []).length ≤ 100) → Q .normal ⟨#[s0, s1, s2, s3, d4, .pointer (some ⟨E, 0, none⟩), d6, d7, s8, s9, s10, s11, s12, s13, s14, s15, s16, s17, s18, s19, s20, s21, s22, s23, s24, s25, s26, s27, s28, s29, s30, .slice BA N bc, .int .i64 (N : Nat), .int .i64 (N : Nat), d34, d35, d36, d37, d38, d39, d40, d41, d42, d43, d44, d45, d46, s47, s48, s49, s50, s51, s52, s53, s54, s55, s56, s57, s58, s59, s60, s61, s62, s63, s64, s65, s66, s67, s68, s69, s70, s71, s72, s73, s74, s75, s76, s77, s78, s79, s80, s81, s82, s83, s84, s85, s86, s87, s88, s89, s90, s91, s92, s93, s94, s95, s96, s97, s98, s99, s100, s101, s102, s103, s104, s105, s106, s107, s108, s109, s110, s111, s112, s113, s114, s115, s116, s117, s118, s119, s120, s121, s122, s123, s124, s125, s126, s127, s128, s129, s130, s131, s132, s133, s134, s135, s136, s137, s138, s139, s140, s141, s142, s143, s144, s145, s146, s147, s148, s149, s150, s151, s152, s153, s154, s155, s156, s157, s158, s159, s160, s161, s162, s163, s164, s165, s166, s167, s168, s169, s170, s171, s172, s173], []⟩ w') :
    Code.wp Try.prog once_send_code Q ⟨#[s0, s1, s2, s3, s4, .pointer (some ⟨E, 0, none⟩), s6, s7, s8, s9, s10, s11, s12, s13, s14, s15, s16, s17, s18, s19, s20, s21, s22, s23, s24, s25, s26, s27, s28, s29, s30, .slice BA N bc, .int .i64 (N : Nat), .int .i64 0, s34, s35, s36, s37, s38, s39, s40, s41, s42, s43, s44, s45, s46, s47, s48, s49, s50, s51, s52, s53, s54, s55, s56, s57, s58, s59, s60, s61, s62, s63, s64, s65, s66, s67, s68, s69, s70, s71, s72, s73, s74, s75, s76, s77, s78, s79, s80, s81, s82, s83, s84, s85, s86, s87, s88, s89, s90, s91, s92, s93, s94, s95, s96, s97, s98, s99, s100, s101, s102, s103, s104, s105, s106, s107, s108, s109, s110, s111, s112, s113, s114, s115, s116, s117, s118, s119, s120, s121, s122, s123, s124, s125, s126, s127, s128, s129, s130, s131, s132, s133, s134, s135, s136, s137, s138, s139, s140, s141, s142, s143, s144, s145, s146, s147, s148, s149, s150, s151, s152, s153, s154, s155, s156, s157, s158, s159, s160, s161, s162, s163, s164, s165, s166, s167, s168, s169, s170, s171, s172, s173], []⟩ w := by
  have HK := Lib.hid hK; clear hK
  have HR := Lib.hid hR; clear hR
  have H0 := Lib.hid (show OnW W w0 w E E A n c B m d ⟨allF fs bs 0, fs.drop 0⟩ ∧ ∀ i, i < 0 → (bs.getD i []).length ≤ 100 from ⟨hE, fun i h => by omega⟩)
  have HX := Lib.hid (And.intro hN hbs)
  clear hE hN hbs
  conv => arg 2; whnf
  go_wp2
  go_loopw [33] (fun v wr => ∃ (k : Nat) (A : Option Addr) (n c : Nat) (B : Option Addr) (m d : Nat), k ≤ N ∧ v = .int .i64 (k : Nat) ∧ Hid (OnW W w0 wr E E A n c B m d ⟨allF fs bs k, fs.drop k⟩ ∧ ∀ i, i < k → (bs.getD i []).length ≤ 100)) (fun v _ => N - (intOf v).toNat)
  case atStart => exact ⟨0, _, _, _, _, _, _, Nat.zero_le _, rfl, H0⟩
  case round =>
    clear H0
    obtain ⟨k, A, n, c, B, m, d, hk, rfl, HA⟩ := hrel
    obtain ⟨wi, rfl⟩ : ∃ wx : World, wx = wr := ⟨_, rfl⟩
    by_cases hlt : k < N
    · have hy := List.getElem?_eq_getElem (l := bs) (i := k) (by rw [HX.out.1]; exact hlt)
      generalize bs[k]'(by rw [HX.out.1]; exact hlt) = y at hy
      obtain ⟨b', off', T, tn, tc, rfl, hlb, htn, hl', hm', hts, y0⟩ := (HX.out.2.keep (w' := wi) (S' := lo wi.heap.size) (fun p hp => HA.out.1.bel.cell hp) (fun b hb => by have h1 : b < W := hb; have h2 := HA.out.1.blk.lt; show b < _; omega)).sub hy
      have hlb' : b' < wi.heap.size := hlb
      have hlE := HA.out.1.blk.lt
      have e0 := HA.out.1.blk.cell 0 (v := .slice A n c) rfl; have e1 := HA.out.1.blk.cell 1 (v := .slice B m d) rfl; have fE := HA.out.1.blk.frozen
      have HY := Lib.hid (And.intro hy (And.intro htn hts))
      clear hy htn hts hlb hl' hm'
      by_cases hlen : 100 < tn
      · have d1 : decide ((100 : Int) < (tn : Int)) = true := decide_eq_true (by omega)
        clear hlen
        go_wp2
        exact HR.out _ _ _ _ _ _ _ _ _ _ _ _ _ _ _ _ _ HA.out.1.bel
      · have d1 : decide ((100 : Int) < (tn : Int)) = false := decide_eq_false (by omega)
        have htn100 : tn ≤ 100 := by omega
        clear hlen
        go_wp2_with (go_at_call 11
                     go_loud (skip
                              refine (send_any wi ⟨allF fs bs k, fs.drop k⟩ A n c B m d k k 0 y T tn tc HA.out.1.arg.at_ HA.out.1.fit HA.out.1.md HA.out.1.dm HY.out.2.1 HY.out.2.2 (by omega) (WalkArith.wf_i64 ⟨by omega, by omega⟩) (by decide)).mono ?_
                              rw [send_all fs bs k HY.out.1]
                              rintro e w3 ⟨A3, n3, c3, B3, m3, d3, rfl, hnt, hc3, hcm3, hmd3, hdm3, hb3⟩
                              have hz3 := hb3.size
                              have gE := HA.out.1.blk.below hb3 hlE
                              have hlE3 := gE.lt
                              clear e0 e1 fE
                              have e0 := gE.cell 0 (v := .slice A n c) rfl; have e1 := gE.cell 1 (v := .slice B m d) rfl; have fE := gE.frozen
                              have hbk : ∀ i, i < k + 1 → (bs.getD i []).length ≤ 100 := fun i hi => by
                                rcases Nat.lt_or_eq_of_le (Nat.lt_succ_iff.1 hi) with h | h
                                · exact HA.out.2 i h
                                · rw [h, List.getD_eq_getElem?_getD, HY.out.1]; show y.length ≤ 100; rw [HY.out.2.1]; exact htn100
                              have H3 := Lib.hid (And.intro (HA.out.1.put hb3 (hnt.more (fun b hb => ⟨hb.2, by have := hb.1; omega, by have := hb.1; omega⟩)) (allF_fit (by omega) hF hbk) hc3 hcm3 hmd3 hdm3 hWE) hbk)
                              clear hnt hb3 gE hbk))
        go_roundw
        case measure => simp [intOf]; omega
        case rel => exact ⟨k + 1, _, _, _, _, _, _, by omega, by go_num, H3⟩
    · obtain rfl : k = N := by omega
      go_wp2
      exact HK.out _ _ _ _ _ _ _ _ _ _ _ _ _ _ _ _ A n c B m d _ HA.out.1 HA.out.2
/-- What has been met, in a row of numbers. -/
def mtArr (g : Nat → Nat) (N : Nat) : Array Value := ((List.range N).map (fun i => Value.int .i64 (g i))).toArray
theorem mtArr_get {g : Nat → Nat} {N i : Nat} (h : i < N) : (mtArr g N)[i]? = some (.int .i64 (g i)) := by
  simp [mtArr, h]
theorem mtArr_set {g g' : Nat → Nat} {N i : Nat} (h : i < N) {v : Int} (hv : v = g' i) (hg : ∀ j, j ≠ i → g' j = g j) : (mtArr g N).setIfInBounds i (.int .i64 v) = mtArr g' N := by
  apply Array.ext_getElem?
  intro j
  rw [Array.getElem?_setIfInBounds]
  by_cases hj : i = j
  · subst hj
    rw [if_pos rfl, mtArr_get h, hv]
    simp [mtArr, h]
  · rw [if_neg hj]
    by_cases hjN : j < N
    · rw [mtArr_get hjN, mtArr_get hjN, hg j (fun e => hj e.symm)]
    · simp [mtArr, hjN]
theorem mtArr_zero (g : Nat → Nat) (N : Nat) (h : ∀ i, i < N → g i = 0) : mtArr g N = (List.replicate N (Value.int .i64 0)).toArray := by
  unfold mtArr
  congr 1
  apply List.ext_getElem?
  intro j
  by_cases hj : j < N
  · simp [hj, h j hj]
  · simp [hj]
theorem make_ints (n : Nat) (h : n ≤ 4000000000) (w : World) : (Instr.makeSlice 23 (.int .i64 (n : Int)) (.int .i64 (n : Int))).run Try.prog w = .ok (.slice (some ⟨w.heap.size, 0, none⟩) n n) (w.alloc (.cells (List.replicate n (Value.int .i64 0)).toArray 3)) := by
  obtain ⟨i, hi, h1, h2, h3⟩ := info_parts (show (Try.prog.info? 3).map (fun i => (i.zero, i.size, i.bytes)) = some (some (.int .i64 0), 1, 8) by kernel_rfl)
  have hr := run_make (P := Try.prog) w 23 3 i (.int .i64 0) Try.underlying23 hi h1 .i64 .i64 n n (by omega) (by omega) (by rw [h3]; omega) (by omega)
  have e : madeCells (Value.cells (.int .i64 0)) (n * i.size) = (List.replicate n (Value.int .i64 0)).toArray := by
    rw [h2, Nat.mul_one]
    apply Array.ext'
    rw [show Value.cells (.int .i64 0) = #[.int .i64 0] from rfl, toList_madeCells_one]
  rw [← e]
  simpa using hr
end Go.Proofs.Ytponbodiibkopaa
