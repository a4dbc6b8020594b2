/-
  NetOnce: the count at the end; the walk.
-/
import Derived.Test.YtponbodiibkopaaOnceD
namespace Go.Proofs.Ytponbodiibkopaa
open Go.ChangeShapes Go.WideShapes Go.ChangeAt Go.RowKit Go.Sort
set_option linter.unusedVariables false

theorem opens_bodies : Opens Try.prog 35 (Rsl 24 Rbd) := Opens.slice Try.underlying35 (by kernel_rfl) (by kernel_rfl) (by decide) opens_bytes
theorem arg_bodies {H : Type} {enc : TypeId × Value → H} {w : World} {r : Reach} {b0 : Nat} {v : Value} {d : DataW H} {ps : List MemPlace} (hv : Value.okWide Try.prog w r b0 35 v) (h : DataW.Trod enc Try.prog w 0 (fun _ => true) true 35 v d ps) (hz : ∀ n ∈ d.weights Try.prog 35, n ≤ reachBytes) :
    ∃ (A : Option Addr) (xs : List (List Int)) (n cap : Nat), v = .slice A n cap ∧ xs.length = n ∧ n ≤ cap ∧ cap ≤ maxLen ∧ Sl Rbd w (lo w.heap.size) A xs ∧ n * 24 ≤ reachBytes ∧ ∀ x ∈ xs, Rbd.fit reachBytes x := arg_sl Try.underlying35 opens_bodies hv h hz
theorem arg_ints {H : Type} {enc : TypeId × Value → H} {w : World} {r : Reach} {b0 : Nat} {v : Value} {d : DataW H} {ps : List MemPlace} (hv : Value.okWide Try.prog w r b0 23 v) (h : DataW.Trod enc Try.prog w 0 (fun _ => true) true 23 v d ps) (hz : ∀ n ∈ d.weights Try.prog 23, n ≤ reachBytes) :
    ∃ (A : Option Addr) (xs : List Int) (n cap : Nat), v = .slice A n cap ∧ xs.length = n ∧ n ≤ cap ∧ cap ≤ maxLen ∧ Sl (Rint .i64) w (lo w.heap.size) A xs ∧ n * 8 ≤ reachBytes ∧ ∀ x ∈ xs, (Rint .i64).fit reachBytes x := arg_sl Try.underlying23 opens_ints hv h hz
noncomputable def once_chk_code : Code := blockOf Try.f4 6
set_option maxRecDepth 100000 in
set_option maxHeartbeats 8000000 in
theorem once_chk {Q : Exit → Act → World → Prop} {s1 s2 s3 s4 s5 s6 s7 s8 s9 s10 s11 s12 s13 s14 s15 s16 s17 s18 s19 s20 s21 s22 s23 s24 s25 s26 s27 s28 s29 s30 s31 s32 s33 s34 s35 s36 s37 s38 s39 s40 s41 s42 s43 s44 s45 s46 s47 s48 s49 s50 s51 s52 s53 s54 s55 s56 s57 s58 s59 s60 s61 s62 s63 s64 s65 s66 s67 s68 s69 s70 s71 s72 s73 s74 s75 s76 s77 s78 s79 s80 s81 s82 s83 s84 s85 s86 s87 s88 s89 s90 s91 s92 s93 s94 s95 s96 s97 s98 s99 s100 s101 s102 s103 s104 s105 s106 s107 s108 s109 s110 s111 s112 s113 s114 s115 s116 s117 s118 s119 s120 s121 s122 s123 s124 s125 s126 s127 s128 s129 s130 s131 s132 s133 s134 s135 s136 s137 s138 s139 s140 s141 s142 s146 s147 s148 s149 s150 s151 s152 s153 s154 s155 s156 s157 s158 s159 s160 s161 s162 s163 s164 s165 s166 s167 s168 s169 s170 s171 s172 s173 : Value} (w : World) (M : Nat) (fs : List Int) (bs : List (List Int)) (FA : Option Addr) (F fc N : Nat) (hF : fs.length = F) (hfs : Sl (Rint .i64) w (lo w.heap.size) FA fs) (hM : Blk w M 3 (mtArr (fun i => (partI fs bs i).length) N)) (hN40 : N ≤ 40) (hF100 : F ≤ 100)
    (hK : ∀ (d4 d15 d16 d17 d18 d146 d147 d148 d149 d150 d151 d152 d153 d154 d155 d156 d157 d158 d159 d160 d161 d162 d163 d164 d165 d166 d167 d168 d169 : Value), Q .normal ⟨#[.slice FA F fc, s1, s2, s3, d4, s5, s6, s7, s8, s9, s10, s11, s12, s13, s14, d15, d16, d17, d18, s19, s20, s21, s22, s23, s24, s25, s26, s27, s28, s29, s30, s31, s32, s33, s34, s35, s36, s37, s38, s39, s40, s41, s42, s43, s44, s45, s46, s47, s48, s49, s50, s51, s52, s53, s54, s55, s56, s57, s58, s59, s60, s61, s62, s63, s64, s65, s66, s67, s68, s69, s70, s71, s72, s73, s74, s75, s76, s77, s78, s79, s80, s81, s82, s83, s84, s85, s86, s87, s88, s89, s90, s91, s92, s93, s94, s95, s96, s97, s98, s99, s100, s101, s102, s103, s104, s105, s106, s107, s108, s109, s110, s111, s112, s113, s114, s115, s116, s117, s118, s119, s120, s121, s122, s123, s124, s125, s126, s127, s128, s129, s130, s131, s132, s133, s134, s135, s136, s137, s138, s139, s140, s141, s142, .slice (some ⟨M, 0, none⟩) N N, .int .i64 (N : Nat), .int .i64 (N : Nat), d146, d147, d148, d149, d150, d151, d152, d153, d154, d155, d156, d157, d158, d159, d160, d161, d162, d163, d164, d165, d166, d167, d168, d169, s170, s171, s172, s173], []⟩ w) :
    Code.wp Try.prog once_chk_code Q ⟨#[.slice FA F fc, s1, s2, s3, s4, s5, s6, s7, s8, s9, s10, s11, s12, s13, s14, s15, s16, s17, s18, s19, s20, s21, s22, s23, s24, s25, s26, s27, s28, s29, s30, s31, s32, s33, s34, s35, s36, s37, s38, s39, s40, s41, s42, s43, s44, s45, s46, s47, s48, s49, s50, s51, s52, s53, s54, s55, s56, s57, s58, s59, s60, s61, s62, s63, s64, s65, s66, s67, s68, s69, s70, s71, s72, s73, s74, s75, s76, s77, s78, s79, s80, s81, s82, s83, s84, s85, s86, s87, s88, s89, s90, s91, s92, s93, s94, s95, s96, s97, s98, s99, s100, s101, s102, s103, s104, s105, s106, s107, s108, s109, s110, s111, s112, s113, s114, s115, s116, s117, s118, s119, s120, s121, s122, s123, s124, s125, s126, s127, s128, s129, s130, s131, s132, s133, s134, s135, s136, s137, s138, s139, s140, s141, s142, .slice (some ⟨M, 0, none⟩) N N, .int .i64 (N : Nat), .int .i64 0, s146, s147, s148, s149, s150, s151, s152, s153, s154, s155, s156, s157, s158, s159, s160, s161, s162, s163, s164, s165, s166, s167, s168, s169, s170, s171, s172, s173], []⟩ w := by
  have HK := Lib.hid hK; clear hK
  have HX := Lib.hid (And.intro hF (And.intro hfs hM))
  clear hF hfs hM
  conv => arg 2; whnf
  go_wp2
  go_loopw [145] (fun v wr => ∃ k : Nat, k ≤ N ∧ v = .int .i64 (k : Nat) ∧ wr = w) (fun v _ => N - (intOf v).toNat)
  case atStart => exact ⟨0, Nat.zero_le _, rfl, rfl⟩
  case round =>
    obtain ⟨k, hk, rfl, rfl⟩ := hrel
    by_cases hlt : k < N
    · have m0 := HX.out.2.2.cell k (mtArr_get hlt)
      have hw := met_want fs bs (i := k) (by omega)
      by_cases hkF : k < F
      · have dF : decide (k < F) = true := decide_eq_true hkF
        have hfi := List.getElem?_eq_getElem (l := fs) (i := k) (by rw [HX.out.1]; exact hkF)
        generalize fs[k]'(by rw [HX.out.1]; exact hkF) = f at hfi
        have hfo : fateOf fs k = f := by unfold fateOf; rw [List.getD_eq_getElem?_getD, hfi]; rfl
        obtain ⟨bF, offF, hFA, hlF, hwF, f0⟩ := HX.out.2.1.int hfi
        subst hFA
        have hbd := bounds_i64 hwF
        rw [hfo] at hw
        clear hfi hfo hwF hlF
        by_cases hneg : f < 0
        · have dn : decide (f < 0) = true := decide_eq_true hneg
          rw [if_pos hneg] at hw
          rw [hw] at m0
          clear hw hneg
          go_wp2
          go_roundw
          case measure => simp [intOf]; omega
          case rel => exact ⟨k + 1, by omega, by go_num, by trivial⟩
        · have dn : decide (f < 0) = false := decide_eq_false hneg
          have hpos : 0 ≤ f := by omega
          rw [if_neg hneg] at hw
          by_cases hodd : f / 16 % 2 = 1
          · have d2 : (f / 16 % 2 == 1) = true := by simpa using hodd
            rw [if_pos hodd] at hw
            rw [hw] at m0
            clear hw hneg hodd
            go_wp2
            go_roundw
            case measure => simp [intOf]; omega
            case rel => exact ⟨k + 1, by omega, by go_num, by trivial⟩
          · have d2 : (f / 16 % 2 == 1) = false := by simpa using hodd
            rw [if_neg hodd] at hw
            rw [hw] at m0
            clear hw hneg hodd
            go_wp2
            go_roundw
            case measure => simp [intOf]; omega
            case rel => exact ⟨k + 1, by omega, by go_num, by trivial⟩
      · have dF : decide (k < F) = false := decide_eq_false hkF
        have hfo : fateOf fs k = 0 := by unfold fateOf; rw [List.getD_eq_getElem?_getD, List.getElem?_eq_none (by rw [HX.out.1]; omega)]; rfl
        rw [hfo, if_neg (by omega), if_neg (by omega)] at hw
        rw [hw] at m0
        clear hw hfo
        go_wp2
        go_roundw
        case measure => simp [intOf]; omega
        case rel => exact ⟨k + 1, by omega, by go_num, by trivial⟩
    · obtain rfl : k = N := by omega
      go_wp2
      exact HK.out _ _ _ _ _ _ _ _ _ _ _ _ _ _ _ _ _ _ _ _ _ _ _ _ _ _ _ _ _
set_option maxRecDepth 100000 in
set_option maxHeartbeats 8000000 in
theorem netOnce_walk (FA : Option Addr) (fs : List Int) (F fc : Nat) (BA : Option Addr) (bs : List (List Int)) (N bc : Nat) (w : World) (hF : fs.length = F) (hFc : F ≤ fc) (hfm : fc ≤ maxLen) (hfs : Sl (Rint .i64) w (lo w.heap.size) FA fs) (hN : bs.length = N) (hbs : Sl Rbd w (lo w.heap.size) BA bs) :
    Calls Try.prog 4 #[.slice FA F fc, .slice BA N bc] w fun e w' => e = .returned (.bool true) ∧ Below w.heap.size w w' := by
  have HX := Lib.hid (And.intro hF (And.intro hfs (And.intro hN hbs)))
  clear hF hfs hN hbs
  go_enter Try.func4, Try.ntmps4
  go_upto_region 5 with (first
    | (go_at_call 9
       go_loud (skip
                refine (live_any _).mono ?_
                rintro e w1 ⟨rfl, hb1⟩
                have H1 := Lib.hid hb1
                have hz1 := hb1.size
                clear hb1)))
  all_goals try (go_ret; exact ⟨rfl, H1.out⟩)
  have hF100 : F ≤ 100 := by omega
  have hN40 : N ≤ 40 := by omega
  have H2 := Lib.hid (show OnW w.heap.size w (w1.alloc (.cells #[.slice none 0 0, .slice FA F fc] 25)) w1.heap.size w1.heap.size none 0 0 FA F fc ⟨[], fs⟩ from
    ⟨Blk.new _ _ _ rfl, ⟨Sl.nil _ _ _ _, rfl, HX.out.2.1.keep (fun p hp => (World.cell?_alloc_lt _ _ _ (by have h8 : p.block < w.heap.size := hp; omega)).trans (H1.out.cell hp)) (fun b hb => by have h8 : b < w.heap.size := hb; simp; omega), HX.out.1⟩,
      ⟨by simp, by show fs.length * 8 ≤ _; rw [HX.out.1]; omega, fun f hf => by simp at hf⟩, Nat.le_refl _, by simp, hFc, hfm, H1.out.alloc hz1 _⟩)
  go_upto_block 0 with fail
  generalize (w1.alloc (.cells #[.slice none 0 0, .slice FA F fc] 25)) = w2 at *
  refine once_send w w2 w.heap.size w1.heap.size fs bs none 0 0 FA F fc BA N bc H2.out hz1 HX.out.2.2.1 HX.out.2.2.2 hN40 (by rw [HX.out.1]; exact hF100) ?_ ?_
  · intro d6 d7 d34 d35 d36 d37 d38 d39 d40 d41 d42 d43 d44 d45 d46 i w9 hb9
    have HB9 := Lib.hid hb9
    clear hb9
    go_ret
    exact ⟨rfl, HB9.out⟩
  intro d4 d6 d7 d34 d35 d36 d37 d38 d39 d40 d41 d42 d43 d44 d45 d46 A n c B m d w3 hO hlen
  have H3 := Lib.hid (And.intro hO hlen)
  have hmF : m = F - N := by rw [← hO.net.fatesN, ← HX.out.1]; exact List.length_drop
  have e0 := hO.blk.cell 0 (v := .slice A n c) rfl; have e1 := hO.blk.cell 1 (v := .slice B m d) rfl
  have hlE3 := hO.blk.lt
  have HMF := Lib.hid hmF
  clear hO hlen hmF
  go_upto_if 56 with fail
  have hmx : ((m : Int) != (if (F : Int) - (N : Int) < 0 then 0 else (F : Int) - (N : Int))) = false := by
    have h9 := HMF.out
    by_cases h0 : (F : Int) - (N : Int) < 0
    · rw [if_pos h0]; simp; omega
    · rw [if_neg h0]; simp; omega
  rw [hmx]
  clear hmx
  obtain ⟨TT, hTT⟩ : ∃ TT, N + 20 = TT := ⟨_, rfl⟩
  have hTi : (N : Int) + 20 = (TT : Int) := by omega
  have HTT := Lib.hid (And.intro hTT hTi)
  clear hTT hTi
  have hmake := make_ints N (by omega)
  go_upto_block 2 with fail
  rw [HTT.out.2]
  clear hmake
  have hO4 : OnW w.heap.size w (w3.alloc (.cells (Array.replicate N (Value.int .i64 0)) 3)) w1.heap.size w3.heap.size A n c B m d ⟨allF fs bs N, fs.drop N⟩ :=
    ⟨H3.out.1.blk.alloc _, H3.out.1.net.keep (fun p hp => World.cell?_alloc_lt _ _ _ hp.1) (fun b hb => ⟨by have := hb.1; simp; omega, hb.2.1, by have := hb.1; omega⟩), H3.out.1.fit, H3.out.1.nc, H3.out.1.cm, H3.out.1.md, H3.out.1.dm, H3.out.1.bel.alloc (by omega) _⟩
  have hM4 : Blk (w3.alloc (.cells (Array.replicate N (Value.int .i64 0)) 3)) w3.heap.size 3 (mtArr (fun _ => 0) N) := by
    rw [mtArr_zero _ _ (fun _ _ => rfl), List.toArray_replicate]; exact Blk.new _ _ _ rfl
  have H4 := Lib.hid (And.intro hO4 hM4)
  clear hO4 hM4 e0 e1
  generalize (w3.alloc (.cells (Array.replicate N (Value.int .i64 0)) 3)) = w4 at *
  have hEM : w1.heap.size ≠ w3.heap.size := by omega
  refine once_time w w4 w.heap.size w1.heap.size w3.heap.size fs bs FA F fc BA N bc TT A n c B m d HX.out.1 HX.out.2.1 HX.out.2.2.1 HX.out.2.2.2 hz1 (by omega) hEM H4.out.1 H4.out.2 hN40 hF100 HTT.out.1 ?_
  intro d4 d9 d10 d11 d12 d13 d14 d64 d65 d66 d67 d68 d69 d70 d71 d72 d73 d74 d75 d76 d77 d78 d79 d80 d81 d82 d83 d84 d85 d86 d87 d88 d89 d90 d91 d92 d93 d94 d95 d96 d97 d98 d99 d100 d101 d102 d103 d104 d105 d106 d107 d108 d109 d110 d111 d112 d113 d114 d115 d116 d117 d118 d119 d120 d121 d122 d123 d124 d125 d126 d127 d128 d129 d130 d131 d132 d133 d134 d135 d136 d137 d138 d139 d140 d141 d142 A5 c5 B5 m5 e5 w5 gE gM hb5
  have H5 := Lib.hid (And.intro gE (And.intro gM hb5))
  clear gE gM hb5
  go_upto_block 6 with fail
  refine once_chk w5 w3.heap.size fs bs FA F fc N HX.out.1 (HX.out.2.1.keep (fun p hp => H5.out.2.2.cell hp) (fun b hb => by have h8 : b < w.heap.size := hb; have := H5.out.2.2.size; show b < _; omega)) H5.out.2.1 hN40 hF100 ?_
  intro d4 d15 d16 d17 d18 d146 d147 d148 d149 d150 d151 d152 d153 d154 d155 d156 d157 d158 d159 d160 d161 d162 d163 d164 d165 d166 d167 d168 d169
  have e0 := H5.out.1.cell 0 (v := .slice A5 0 c5) rfl
  go_wp2
  all_goals (go_ret; exact ⟨rfl, H5.out.2.2⟩)
end Go.Proofs.Ytponbodiibkopaa
