/-
  LinkNumbers: the loop over the bodies.
-/
import Derived.Test.YtalieakmjkmbbaaNumB
namespace Go.Proofs.Ytalieakmjkmbbaa
open Go.RowKit Go.Sort
set_option linter.unusedVariables false

/-- What holds at the loop's head. -/
structure NmW (w wr : World) (P : Nat) (bs : List (List Int)) (win : Int) (k : Nat) (o : Ot) (nx : Nat) (AS : Option Addr) (nS cS : Nat) (AW : Option Addr) (nW cW : Nat) : Prop where
  hP : Blk wr P 35 #[.int .i64 o.next, .slice AS nS cS, .slice AW nW cW]
  at_ : OutAt wr (mid (P + 1) wr.heap.size) AS nS AW nW o
  inv : NumI bs win k o nx
  few : ∀ b ∈ bs.take k, b.length ≤ 100
  bel : Below w.heap.size w wr
theorem NumI.fit {bs : List (List Int)} {win : Int} {k : Nat} {o : Ot} {nx : Nat} (h : NumI bs win k o nx) (hw : win ≤ 20) (hk : k ≤ bs.length) (hn : bs.length ≤ 40) (hb : ∀ b ∈ bs.take k, b.length ≤ 100) :
    OutFit o ∧ (∀ x ∈ o.sent, x.body.length ≤ 140737488355328) ∧ (∀ x ∈ o.wait, x.length ≤ 140737488355328) ∧ o.sent.length + o.wait.length + 1 ≤ 100 := by
  have h1 := h.waitN hk
  have h2 := h.sent
  have h3 : ∀ x ∈ o.wait, x.length ≤ 140737488355328 := fun x hx => by
    have := hb x (List.mem_of_mem_drop (h.wait ▸ hx)); omega
  have h4 : ∀ x ∈ o.sent, x.body.length ≤ 140737488355328 := fun x hx => by have := h.text x hx; omega
  exact ⟨⟨by omega, by omega, h4, h3⟩, h4, h3, by omega⟩
theorem nm_store {wz : World} {P : Nat} {t : TypeId} {cs : Array Value} {c0 c1 c2 : Value} {B0 : Nat} {w : World} {A : Option Addr} {n : Nat} {B : Option Addr} {m : Nat} {o : Ot} {T : Option Addr} {l : List It} (hP : Blk wz P t cs) (hat : OutAt wz (mid (P + 1) wz.heap.size) A n B m o) (hT : Sl Rit wz (mid (P + 1) wz.heap.size) T l) (hb : Below B0 w wz) (hB : B0 ≤ P) (wq : World) (hq : wq = ((wz.setCell ⟨P, 0, none⟩ c0).setCell ⟨P, 1, none⟩ c1).setCell ⟨P, 2, none⟩ c2) :
    Blk wq P t (((cs.setIfInBounds 0 c0).setIfInBounds 1 c1).setIfInBounds 2 c2) ∧ OutAt wq (mid (P + 1) wq.heap.size) A n B m o ∧ Sl Rit wq (mid (P + 1) wq.heap.size) T l ∧ Below B0 w wq ∧ wq.heap.size = wz.heap.size := by
  have hz : wq.heap.size = wz.heap.size := by subst hq; simp [World.setCell]
  have hk : ∀ k, k ≠ P → wq.heap[k]? = wz.heap[k]? := fun k h => by
    subst hq
    exact (Below.heap_setCell _ ⟨P, 2, none⟩ _ k h).trans ((Below.heap_setCell _ ⟨P, 1, none⟩ _ k h).trans (Below.heap_setCell _ ⟨P, 0, none⟩ _ k h))
  refine ⟨?_, ?_, ?_, ?_, hz⟩
  · subst hq; exact ((hP.set 0 _).set 1 _).set 2 _
  · rw [hz]; exact hat.keep (fun p hp => World.cell?_of_block (hk p.block (by have := hp.1; omega))) (fun _ h => h)
  · rw [hz]; exact hT.keep (fun p hp => World.cell?_of_block (hk p.block (by have := hp.1; omega))) (fun _ h => h)
  · subst hq; exact ((hb.setCell (p := ⟨P, 0, none⟩) hB _).setCell (p := ⟨P, 1, none⟩) hB _).setCell (p := ⟨P, 2, none⟩) hB _
noncomputable def num_loop_code : Code := blockOf Try.f5 0
set_option maxRecDepth 100000 in
set_option maxHeartbeats 4000000 in
theorem num_loop {Q : Exit → Act → World → Prop} {s3 s4 s5 s6 s9 s10 s11 s12 s13 s14 s15 s16 s17 s18 s19 s20 s21 s22 s23 s24 s25 s26 s27 s28 s29 s30 s31 s32 s33 s34 s35 s39 s40 s41 s42 s43 s44 s45 s46 s47 s48 s49 s50 s51 s52 s53 s54 s55 s56 s57 s58 s59 s60 s61 s62 s63 s64 s65 s66 s67 s68 s69 s70 s71 s72 s73 s74 s75 s76 s77 s78 s79 s80 s81 s82 s83 s84 s85 s86 s87 s88 s89 s90 s91 s92 s93 s94 s95 s96 s97 s98 s99 s100 s101 s102 s103 s104 s105 s106 s107 s108 s109 s110 s111 s112 s113 s114 s115 s116 s117 s118 s119 s120 s121 s122 s123 s124 s125 s126 s127 s128 s129 s130 s131 s132 s133 s134 s135 s136 : Value} (w w0 : World) (P : Nat) (bs : List (List Int)) (BA : Option Addr) (N cB : Nat) (win : Int) (acks : List Int) (AA : Option Addr) (na ca : Nat) (hbs : Sl Rbd w (lo w.heap.size) BA bs) (hN : bs.length = N) (hN4 : N ≤ 40) (hw1 : 1 ≤ win) (hw2 : win ≤ 20)
    (hac : Sl (Rint .i64) w (lo w.heap.size) AA acks) (hna : acks.length = na) (hPw : w.heap.size ≤ P) (hW : NmW w w0 P bs win 0 ⟨0, [], []⟩ 0 none 0 0 none 0 0)
    (hR : ∀ (d8 d9 d10 d11 d12 d13 d14 d16 d38 d39 d40 d41 d42 d43 d44 d45 d46 d47 d48 d49 d50 d51 d52 d53 d54 d55 d56 d57 d58 d59 d60 d61 d62 d63 d64 d65 d66 d67 d68 d69 d70 d71 d72 d73 d74 d75 d76 d77 d78 d79 d80 d81 d82 d83 d84 d85 d86 d87 d88 d89 d90 d91 d92 d93 d94 d95 d96 d97 d98 d99 d100 d101 d102 d103 d104 d105 d106 d107 d108 d109 d110 d111 d112 d113 d114 d115 d116 d117 d118 d119 d120 d121 d122 d123 d124 d125 d126 d127 d128 d129 d130 d131 d132 d133 d134 d135 d136 : Value) (w' : World), Below w.heap.size w w' → Q .ret ⟨#[.slice BA N cB, .int .i64 win, .slice AA na ca, s3, s4, s5, .bool true, .pointer (some ⟨P, 0, none⟩), d8, d9, d10, d11, d12, d13, d14, s15, d16, s17, s18, s19, s20, s21, s22, s23, s24, s25, s26, s27, s28, s29, s30, s31, s32, s33, s34, s35, .slice BA N cB, .int .i64 N, d38, d39, d40, d41, d42, d43, d44, d45, d46, d47, d48, d49, d50, d51, d52, d53, d54, d55, d56, d57, d58, d59, d60, d61, d62, d63, d64, d65, d66, d67, d68, d69, d70, d71, d72, d73, d74, d75, d76, d77, d78, d79, d80, d81, d82, d83, d84, d85, d86, d87, d88, d89, d90, d91, d92, d93, d94, d95, d96, d97, d98, d99, d100, d101, d102, d103, d104, d105, d106, d107, d108, d109, d110, d111, d112, d113, d114, d115, d116, d117, d118, d119, d120, d121, d122, d123, d124, d125, d126, d127, d128, d129, d130, d131, d132, d133, d134, d135, d136], []⟩ w')
    (hK : ∀ (d6 d8 d9 d10 d11 d12 d13 d14 d16 d38 d39 d40 d41 d42 d43 d44 d45 d46 d47 d48 d49 d50 d51 d52 d53 d54 d55 d56 d57 d58 d59 d60 d61 d62 d63 d64 d65 d66 d67 d68 d69 d70 d71 d72 d73 d74 d75 d76 d77 d78 d79 d80 d81 d82 d83 d84 d85 d86 d87 d88 d89 d90 d91 d92 d93 d94 d95 d96 d97 d98 d99 d100 d101 d102 d103 d104 d105 d106 d107 d108 d109 d110 d111 d112 d113 d114 d115 d116 d117 d118 d119 d120 d121 d122 d123 d124 d125 d126 d127 d128 d129 d130 d131 d132 d133 d134 d135 d136 : Value) (w' : World), Below w.heap.size w w' → Q .normal ⟨#[.slice BA N cB, .int .i64 win, .slice AA na ca, s3, s4, s5, d6, .pointer (some ⟨P, 0, none⟩), d8, d9, d10, d11, d12, d13, d14, s15, d16, s17, s18, s19, s20, s21, s22, s23, s24, s25, s26, s27, s28, s29, s30, s31, s32, s33, s34, s35, .slice BA N cB, .int .i64 N, d38, d39, d40, d41, d42, d43, d44, d45, d46, d47, d48, d49, d50, d51, d52, d53, d54, d55, d56, d57, d58, d59, d60, d61, d62, d63, d64, d65, d66, d67, d68, d69, d70, d71, d72, d73, d74, d75, d76, d77, d78, d79, d80, d81, d82, d83, d84, d85, d86, d87, d88, d89, d90, d91, d92, d93, d94, d95, d96, d97, d98, d99, d100, d101, d102, d103, d104, d105, d106, d107, d108, d109, d110, d111, d112, d113, d114, d115, d116, d117, d118, d119, d120, d121, d122, d123, d124, d125, d126, d127, d128, d129, d130, d131, d132, d133, d134, d135, d136], []⟩ w') :
    Code.wp Try.prog num_loop_code Q ⟨#[.slice BA N cB, .int .i64 win, .slice AA na ca, s3, s4, s5, s6, .pointer (some ⟨P, 0, none⟩), .int .i64 0, s9, s10, s11, s12, s13, s14, s15, s16, s17, s18, s19, s20, s21, s22, s23, s24, s25, s26, s27, s28, s29, s30, s31, s32, s33, s34, s35, .slice BA N cB, .int .i64 N, .int .i64 0, s39, s40, s41, s42, s43, s44, s45, s46, s47, s48, s49, s50, s51, s52, s53, s54, s55, s56, s57, s58, s59, s60, s61, s62, s63, s64, s65, s66, s67, s68, s69, s70, s71, s72, s73, s74, s75, s76, s77, s78, s79, s80, s81, s82, s83, s84, s85, s86, s87, s88, s89, s90, s91, s92, s93, s94, s95, s96, s97, s98, s99, s100, s101, s102, s103, s104, s105, s106, s107, s108, s109, s110, s111, s112, s113, s114, s115, s116, s117, s118, s119, s120, s121, s122, s123, s124, s125, s126, s127, s128, s129, s130, s131, s132, s133, s134, s135, s136], []⟩ w0 := by
  have HK := Lib.hid (And.intro hR hK); clear hR hK
  have HX := Lib.hid (And.intro hbs (And.intro hN (And.intro hac hna))); clear hbs hN hac hna
  have H0 := Lib.hid hW; clear hW
  conv => arg 2; whnf
  go_wp2
  go_loopw [8, 38] (fun q i wr => ∃ k : Nat, k ≤ N ∧ i = .int .i64 k ∧ ∃ nx : Nat, q = .int .i64 nx ∧ ∃ o AS nS cS AW nW cW, NmW w wr P bs win k o nx AS nS cS AW nW cW ∧ nW ≤ cW ∧ cW ≤ maxLen) (fun _ i _ => N - (intOf i).toNat)
  case atStart => exact ⟨0, Nat.zero_le _, rfl, 0, rfl, _, _, _, _, _, _, _, H0.out, Nat.le_refl _, by simp⟩
  case round =>
    clear H0
    obtain ⟨k, hk, rfl, nx, rfl, o, AS, nS, cS, AW, nW, cW, hA, hcw, hcm⟩ := hrel
    by_cases hlt : k < N
    · have hb := List.getElem?_eq_getElem (l := bs) (i := k) (by rw [HX.out.2.1]; exact hlt)
      generalize bs[k]'(by rw [HX.out.2.1]; exact hlt) = b at hb
      obtain ⟨bb, boff, T', tn', tc', rfl, hlbb, htn', htl', htm', hts', x0⟩ := (HX.out.1.below hA.bel hA.bel.size).sub hb
      have hbel := hA.bel
      have hPl := hA.hP.lt
      have e0 := hA.hP.cell 0 (v := .int .i64 o.next) rfl; have e1 := hA.hP.cell 1 (v := .slice AS nS cS) rfl; have e2 := hA.hP.cell 2 (v := .slice AW nW cW) rfl
      have hfit := hA.inv.fit hw2 (by rw [HX.out.2.1]; omega) (by rw [HX.out.2.1]; exact hN4) hA.few
      have HA := Lib.hid (And.intro hA (And.intro hb (And.intro htn' (And.intro hts' hfit))))
      have htn2 : tn' = tn' := rfl
      clear hA hb htn' hts' hfit hbel htl' htm' htn2
      by_cases hlong : 100 < tn'
      · have d1 : decide (100 < tn') = true := decide_eq_true hlong
        go_wp2
        exact HK.out.1 _ _ _ _ _ _ _ _ _ _ _ _ _ _ _ _ _ _ _ _ _ _ _ _ _ _ _ _ _ _ _ _ _ _ _ _ _ _ _ _ _ _ _ _ _ _ _ _ _ _ _ _ _ _ _ _ _ _ _ _ _ _ _ _ _ _ _ _ _ _ _ _ _ _ _ _ _ _ _ _ _ _ _ _ _ _ _ _ _ _ _ _ _ _ _ _ _ _ _ _ _ _ _ _ _ _ _ _ HA.out.1.bel
      · have d1 : decide (100 < tn') = false := decide_eq_false hlong
        obtain ⟨cc, hcc1, hI1, hL1⟩ := HA.out.1.inv.send HA.out.2.1 (by rw [HA.out.2.2.1]; omega)
        have hq0 : 0 ≤ o.next := by (have := HA.out.1.inv.next; omega)
        have hq1 : o.next < 4611686018427387904 := by (have := HA.out.1.inv.next; have := HA.out.1.inv.le; omega)
        have hkw : (Lit.int .i64 (k : Int)).wf = true := WalkArith.wf_i64 ⟨by omega, by omega⟩
        have htz : tn' ≤ 140737488355328 := by omega
        have HQ := Lib.hid (And.intro hq0 (And.intro hq1 (And.intro hkw htz))); clear hq0 hq1 hkw htz
        have HI := Lib.hid (And.intro hcc1 (And.intro hI1 hL1)); clear hI1 hL1
        go_upto_region 13 with (go_at_call 17
                                go_loud (skip
                                         refine (send_any wr o AS nS cS AW nW cW b T' tn' tc' win k (HA.out.1.at_.keep (fun _ _ => rfl) (fun b hb => hb.2)) HA.out.2.2.2.2.1 HA.out.2.2.1 HA.out.2.2.2.1 HQ.out.2.2.2 HQ.out.1 HQ.out.2.1 HQ.out.2.2.1).mono ?_
                                         obtain ⟨a, ha⟩ : ∃ a, (sendP o b win k).1 = a := ⟨_, rfl⟩
                                         obtain ⟨l, hl⟩ : ∃ l, (sendP o b win k).2 = l := ⟨_, rfl⟩
                                         have hIa := HI.out.2.1
                                         have hLa := HI.out.2.2
                                         rw [ha] at hIa ⊢
                                         rw [hl] at hLa ⊢
                                         rintro e w1 ⟨A1, n1, cap1, B1, m1, cap1', T1, k1, kc1, rfl, ho1, l1, l2, l3, l4, hk1, hox1, hb1⟩
                                         have z1 := hb1.size
                                         have H1 := Lib.hid (And.intro ho1 (And.intro l1 (And.intro l2 (And.intro l3 (And.intro l4 (And.intro hk1 (And.intro hox1 (And.intro hb1 (And.intro hIa hLa)))))))))
                                         clear ho1 l1 l2 l3 l4 hk1 hox1 hb1 ha hl hIa hLa e0 e1 e2))
        have hk1 : k1 = cc := by rw [← H1.out.2.2.2.2.2.1, H1.out.2.2.2.2.2.2.2.2.2]; exact num_len (by rw [HX.out.2.1]; omega) hcc1 _
        subst hk1
        have hP1 := HA.out.1.hP.below H1.out.2.2.2.2.2.2.2.1 hPl
        have hbw : RowKit.Below wr.heap.size wr (w1.alloc (.cells #[.int .i64 a.next, .slice A1 n1 cap1, .slice B1 m1 cap1'] 35)) := H1.out.2.2.2.2.2.2.2.1.trans (((Below.refl _ _).alloc (Nat.le_refl _) _).mono z1)
        by_cases hka : k < na
        · have d2 : decide (k < na) = true := decide_eq_true hka
          have hak := List.getElem?_eq_getElem (l := acks) (i := k) (by rw [HX.out.2.2.2]; exact hka)
          generalize acks[k]'(by rw [HX.out.2.2.2]; exact hka) = ak at hak
          have hbelA := HA.out.1.bel.trans (hbw.mono HA.out.1.bel.size)
          obtain ⟨ab, aoff, rfl, hlab, _, x3⟩ := (HX.out.2.2.1.below hbelA hbelA.size).int hak
          have hV := Blk.new w1 35 #[.int .i64 a.next, .slice A1 n1 cap1, .slice B1 m1 cap1'] (g := w1.heap.size) rfl
          have hPz := hP1.alloc (.cells #[.int .i64 a.next, .slice A1 n1 cap1, .slice B1 m1 cap1'] 35)
          have hfr : ∀ k', k' < w1.heap.size → (w1.alloc (.cells #[.int .i64 a.next, .slice A1 n1 cap1, .slice B1 m1 cap1'] 35)).heap[k']? = w1.heap[k']? := fun k' h => Below.heap_alloc w1 _ k' h
          have hzV : (w1.alloc (.cells #[.int .i64 a.next, .slice A1 n1 cap1, .slice B1 m1 cap1'] 35)).heap.size = w1.heap.size + 1 := by simp
          have hatA : OutAt (w1.alloc (.cells #[.int .i64 a.next, .slice A1 n1 cap1, .slice B1 m1 cap1'] 35)) (lo (w1.alloc (.cells #[.int .i64 a.next, .slice A1 n1 cap1, .slice B1 m1 cap1'] 35)).heap.size) A1 n1 B1 m1 a := H1.out.1.keep (fun p hp => World.cell?_alloc_lt _ _ _ hp.2) (fun b hb => by have := hb.2; simp [lo]; omega)
          generalize (w1.alloc (.cells #[.int .i64 a.next, .slice A1 n1 cap1, .slice B1 m1 cap1'] 35)) = wA at *
          have hfewN : ∀ x ∈ bs.take (k + 1), x.length ≤ 100 := fun x hx => by
            rw [take_snoc' HA.out.2.1] at hx
            rcases List.mem_append.1 hx with hx | hx
            · exact HA.out.1.few x hx
            · obtain rfl := List.mem_singleton.1 hx; rw [HA.out.2.2.1]; omega
          have hfitA := H1.out.2.2.2.2.2.2.2.2.1.fit hw2 (by rw [HX.out.2.1]; omega) (by rw [HX.out.2.1]; exact hN4) hfewN
          have hsz : n1 + m1 + 1 ≤ 3000000 := by (have h7 := hfitA.2.2.2; rw [hatA.sentN, hatA.waitN] at h7; omega)
          have hq2 : 0 ≤ a.next := by (have := H1.out.2.2.2.2.2.2.2.2.1.next; omega)
          have hq3 : a.next < 4000000000000000000 := by (have := H1.out.2.2.2.2.2.2.2.2.1.next; have := HI.out.1; omega)
          have v0 := hV.cell 0 (v := .int .i64 a.next) rfl; have v1 := hV.cell 1 (v := .slice A1 n1 cap1) rfl; have v2 := hV.cell 2 (v := .slice B1 m1 cap1') rfl
          have HVV := Lib.hid (And.intro hV (And.intro hPz (And.intro hatA (And.intro hfr (And.intro hfitA (And.intro hbelA (And.intro hbw hfewN)))))))
          have HQ2 := Lib.hid (And.intro hq2 (And.intro hq3 (And.intro hsz x3)))
          clear hV hPz hatA hfr hfitA hbelA hbw hfewN hq2 hq3 hP1 hak hsz x3
          go_upto_region 14 with fail
          refine num_r14 wA w1.heap.size a A1 n1 cap1 B1 m1 cap1' ab aoff na ca k ak win HVV.out.2.2.1 H1.out.2.2.2.1 H1.out.2.2.2.2.1 HQ2.out.2.2.1 HVV.out.2.2.2.2.1.2.1 HVV.out.2.2.2.2.1.2.2.1 HQ2.out.1 HQ2.out.2.1 hka (by omega) (by omega) hlab v0 v1 v2 HQ2.out.2.2.2 ?_
          intro d58 d59 d60 d61 d62 d63 d64 d65 d66 d67 d68 G A2 n2 c2 B2 m2 cd2 T2 t2 tc2 w5 ho5 l1 l2 l3 l4 ht5 hox5 hG5 hGe hb5
          have g0 := hG5.cell 0 (v := .int .i64 (ackP a ak win k).1.next) rfl; have g1 := hG5.cell 1 (v := .slice A2 n2 c2) rfl; have g2 := hG5.cell 2 (v := .slice B2 m2 cd2) rfl
          have hV5 := HVV.out.1.below hb5 (by omega)
          have hP5 := HVV.out.2.1.below hb5 (by omega)
          clear v0 v1 v2
          have v0 := hV5.cell 0 (v := .int .i64 a.next) rfl; have v1 := hV5.cell 1 (v := .slice A1 n1 cap1) rfl; have v2 := hV5.cell 2 (v := .slice B1 m1 cap1') rfl; have fV := hV5.frozen
          have lG := hG5.lt
          have z5 := hb5.size
          have lV : w1.heap.size < w5.heap.size := by omega
          have H5 := Lib.hid (And.intro ho5 (And.intro hox5 (And.intro hb5 (And.intro hV5 (And.intro hP5 (And.intro ht5 (And.intro l3 l4)))))))
          clear ho5 hox5 hb5 hV5 hP5 ht5 l1 l2 l3 l4 hG5
          go_upto_region 16 with fail
          obtain ⟨cc2, hcc2, hI2, hL2⟩ := H1.out.2.2.2.2.2.2.2.2.1.ack (by rw [HX.out.2.1]; omega) HVV.out.2.2.2.2.2.2.2 ak (k : Int)
          have ht2 : t2 = cc2 := by rw [← H5.out.2.2.2.2.2.1, hL2]; exact num_len (by rw [HX.out.2.1]; omega) hcc2 _
          subst ht2
          obtain ⟨o2, ho2⟩ : ∃ o2, (ackP a ak win k).1 = o2 := ⟨_, rfl⟩
          have hI3 := hI2
          rw [ho2] at hI3
          have hs := nm_store (wz := w5) (P := w1.heap.size) (c0 := .int .i64 o2.next) (c1 := .slice A2 n2 c2) (c2 := .slice B2 m2 cd2) H5.out.2.2.2.1 (ho2 ▸ (H5.out.1.keep (S' := mid (w1.heap.size + 1) w5.heap.size) (fun _ _ => rfl) (fun b hb => ⟨by have := hb.1; omega, hb.2⟩))) (H5.out.2.1.sl.2.2.2.more (S' := mid (w1.heap.size + 1) w5.heap.size) (fun b hb => ⟨by have := hb.1; omega, hb.2.1⟩)) (HVV.out.2.2.2.2.2.2.1.trans (H5.out.2.2.1.mono (by omega))) (B0 := wr.heap.size) (by omega) _ rfl
          rw [ho2]
          have hfS : ∀ k', k' ≠ w1.heap.size → (((w5.setCell ⟨w1.heap.size, 0, none⟩ (.int .i64 o2.next)).setCell ⟨w1.heap.size, 1, none⟩ (.slice A2 n2 c2)).setCell ⟨w1.heap.size, 2, none⟩ (.slice B2 m2 cd2)).heap[k']? = w5.heap[k']? := fun k' h => (Below.heap_setCell _ ⟨w1.heap.size, 2, none⟩ _ k' h).trans ((Below.heap_setCell _ ⟨w1.heap.size, 1, none⟩ _ k' h).trans (Below.heap_setCell _ ⟨w1.heap.size, 0, none⟩ _ k' h))
          generalize (((w5.setCell ⟨w1.heap.size, 0, none⟩ (.int .i64 o2.next)).setCell ⟨w1.heap.size, 1, none⟩ (.slice A2 n2 c2)).setCell ⟨w1.heap.size, 2, none⟩ (.slice B2 m2 cd2)) = wS at *
          have HS5 := Lib.hid (And.intro hs (And.intro hfS (And.intro hI3 (And.intro hL2 (And.intro hcc2 hI2)))))
          clear hs hfS hI3 hL2 hI2 v0 v1 v2 fV g0 g1 g2
          have zS : wS.heap.size = w5.heap.size := HS5.out.1.2.2.2.2
          have hll : l.length = k1 := H1.out.2.2.2.2.2.1
          have hoxS : OwnX Rit wS wr.heap.size 38 (fun k' => k' = w1.heap.size) (.slice T1 k1 kc1) l := H1.out.2.2.2.2.2.2.1.frame (fun k' h3 h4 _ => (HS5.out.2.1 k' (by omega)).trans ((H5.out.2.2.1.block k' (by omega)).trans (HVV.out.2.2.2.1 k' h4))) (by omega) (fun k' h3 h4 _ h5 => by omega)
          obtain ⟨olds, hel, hce⟩ := HS5.out.1.2.2.1.inRow
          have HO := Lib.hid (And.intro hoxS (And.intro hel (And.intro hce hll)))
          clear hoxS hel hce hll
          go_upto_region 17 with (at_builtin
                                  go_loud (skip
                                           refine wpList_append_X rfl (.tmp 70) (.tmp 71) rfl ei_items rfl HO.out.1 T2 t2 tc2 rfl H5.out.2.2.2.2.2.1 HO.out.2.2.1 HO.out.2.1 (fun k' hk' => ⟨by have := hk'.1; omega, hk'.2, fun h => by have := hk'.1; omega, fun e => by have h9 := (H1.out.2.2.2.2.2.2.1.lt e).2.1; have := hk'.1; omega⟩) (by omega) (by rw [HO.out.2.2.2]; exact le40 (by omega)) (by rw [HO.out.2.2.2]; simp only [maxLen]; omega) (by omega) ?_
                                           rw [HO.out.2.2.2]
                                           intro A7 cap7 w7 hox7 hg7 hor7 hbb7
                                           have H7 := Lib.hid (And.intro hox7 (And.intro hg7 (And.intro hor7 hbb7)))
                                           clear hox7 hg7 hor7 hbb7))
          obtain ⟨kk, hkk⟩ : ∃ kk, k1 + t2 = kk := ⟨_, rfl⟩
          have z7 := H7.out.2.2.2.size
          have hfr7 : ∀ k', k' < wS.heap.size → (Value.slice T1 k1 kc1).ownBlock ≠ some k' → w7.heap[k']? = wS.heap[k']? := fun k' h e => H7.out.2.1.block k' h (fun e' => e e'.symm)
          have hown : ∀ g, (Value.slice T1 k1 kc1).ownBlock = some g → wr.heap.size ≤ g ∧ g < w1.heap.size := fun g e => ⟨(H1.out.2.2.2.2.2.2.1.lt e).1, (H1.out.2.2.2.2.2.2.1.lt e).2.1⟩
          have hcc3 : nx + kk ≤ k + 1 := by (have := HS5.out.2.2.2.2.1; omega)
          have HZ := Lib.hid (show Blk w7 P 35 #[.int .i64 o.next, .slice AS nS cS, .slice AW nW cW] ∧ Blk w7 w1.heap.size 35 #[.int .i64 o2.next, .slice A2 n2 c2, .slice B2 m2 cd2] ∧ OutAt w7 (mid (P + 1) w7.heap.size) A2 n2 B2 m2 o2 ∧ Sl Rit w7 (mid (P + 1) w7.heap.size) A7 (numL nx k (((bs.take (k + 1)).drop nx).take kk)) ∧ NumI bs win (k + 1) o2 (nx + kk) ∧ RowKit.Below wr.heap.size wr w7 ∧ m2 ≤ cd2 ∧ cd2 ≤ maxLen from by
            refine ⟨(hfr7 P (by omega) (fun e => by have := (hown P e).1; omega)).trans ((HS5.out.2.1 P (by omega)).trans H5.out.2.2.2.2.1), (hfr7 _ (by omega) (fun e => by have := (hown _ e).2; omega)).trans HS5.out.1.1, HS5.out.1.2.1.keep (fun p hp => World.cell?_of_block (hfr7 p.block hp.2 (fun e => by have := (hown _ e).2; have := hp.1; omega))) (fun b hb => ⟨by have := hb.1; omega, by have := hb.2; omega⟩), ?_, by rw [← hkk, ← Nat.add_assoc]; exact HS5.out.2.2.1, HS5.out.1.2.2.2.1.trans H7.out.2.2.2, H5.out.2.2.2.2.2.2.1, H5.out.2.2.2.2.2.2.2⟩
            have e9 : l ++ (ackP a ak win k).2 = numL nx k (((bs.take (k + 1)).drop nx).take kk) := by
              rw [H1.out.2.2.2.2.2.2.2.2.2, HS5.out.2.2.2.1, ← hkk]; exact num_join (by rw [HX.out.2.1]; omega) HI.out.1 (k : Int)
            rw [← e9]
            exact H7.out.1.sl.2.2.2.more (fun b hb => ⟨by have := hb.1; omega, hb.2.1⟩))
          have hzV7 : w1.heap.size < w7.heap.size := by omega
          have hPV : P < w1.heap.size := by omega
          have hPz2 : P < w7.heap.size := by omega
          clear hfr7 hown H7 HO HS5 H5 HVV HQ2
          rw [hkk]
          have v0 := HZ.out.2.1.cell 0 (v := .int .i64 o2.next) rfl; have v1 := HZ.out.2.1.cell 1 (v := .slice A2 n2 c2) rfl; have v2 := HZ.out.2.1.cell 2 (v := .slice B2 m2 cd2) rfl
          have p0 := HZ.out.1.cell 0 (v := .int .i64 o.next) rfl; have p1 := HZ.out.1.cell 1 (v := .slice AS nS cS) rfl; have p2 := HZ.out.1.cell 2 (v := .slice AW nW cW) rfl; have fP := HZ.out.1.frozen
          have hPne : P ≠ w1.heap.size := by omega
          go_upto_block 2 with fail
          have hs := nm_store HZ.out.1 HZ.out.2.2.1 HZ.out.2.2.2.1 (HA.out.1.bel.trans (HZ.out.2.2.2.2.2.1.mono HA.out.1.bel.size)) hPw _ (rfl : (((w7.setCell ⟨P, 0, none⟩ (.int .i64 o2.next)).setCell ⟨P, 1, none⟩ (.slice A2 n2 c2)).setCell ⟨P, 2, none⟩ (.slice B2 m2 cd2)) = _)
          generalize (((w7.setCell ⟨P, 0, none⟩ (.int .i64 o2.next)).setCell ⟨P, 1, none⟩ (.slice A2 n2 c2)).setCell ⟨P, 2, none⟩ (.slice B2 m2 cd2)) = wq at *
          have HS := Lib.hid hs; clear hs v0 v1 v2 p0 p1 p2 fP
          refine num_loop2 wq bs _ N cB nx k kk A7 cap7 (HX.out.1.below HS.out.2.2.2.1 HS.out.2.2.2.1.size) HX.out.2.1 hlt hcc3 hN4 (HS.out.2.2.1.more (fun b hb => hb.2)) ?_
          intro d6 d16 d77 d78 d79 d80 d81 d82 d83 d84 d85 d86 d87 d88 d89 d90 d91 d92 d93 d94 d95 d96 d97 d98 d99 d100 d101 d102 d103 d104 d105 d106 d107 d108 w9 hb9
          have z9 := hb9.size
          have hP9 := HS.out.1.below hb9 HS.out.1.lt
          have p0 := hP9.cell 0 (v := .int .i64 o2.next) rfl; have p1 := hP9.cell 1 (v := .slice A2 n2 c2) rfl; have p2 := hP9.cell 2 (v := .slice B2 m2 cd2) rfl
          have hwN := HZ.out.2.2.2.2.1.waitN (by rw [HX.out.2.1]; omega)
          rw [HZ.out.2.2.1.waitN] at hwN
          have hfull : 0 < m2 → (n2 : Int) = win := fun h => by
            rw [← HZ.out.2.2.1.sentN]
            exact HZ.out.2.2.2.2.1.full (fun h9 => by have := HZ.out.2.2.1.waitN; rw [h9] at this; simp at this; omega)
          obtain ⟨q, hq⟩ : ∃ q, nx + kk = q := ⟨_, rfl⟩
          have e1 : (o2.next != (q : Int)) = false := by (have := HZ.out.2.2.2.2.1.next; rw [hq] at this; simp [this])
          have e2 : ((m2 : Int) != (k : Int) + 1 - (q : Int)) = false := by simp; omega
          rw [hq]
          have HW9 := Lib.hid (And.intro hP9 (And.intro hb9 hq))
          have hfewN : ∀ x ∈ bs.take (k + 1), x.length ≤ 100 := fun x hx => by
            rw [take_snoc' HA.out.2.1] at hx
            rcases List.mem_append.1 hx with hx | hx
            · exact HA.out.1.few x hx
            · obtain rfl := List.mem_singleton.1 hx; rw [HA.out.2.2.1]; omega
          have HN := Lib.hid (show NmW w w9 P bs win (k + 1) o2 q A2 n2 c2 B2 m2 cd2 from ⟨hP9, HS.out.2.1.keep (fun p hp => hb9.cell hp.2) (fun b hb => ⟨hb.1, by have := hb.2; omega⟩), hq ▸ HZ.out.2.2.2.2.1, hfewN, HS.out.2.2.2.1.trans (hb9.mono HS.out.2.2.2.1.size)⟩)
          have hqk : q ≤ k + 1 := by omega
          have HF := Lib.hid hfull
          clear hP9 hb9 hfewN hwN hq hfull
          by_cases hm0 : 0 < m2
          · have d3 : decide (0 < m2) = true := decide_eq_true hm0
            have e3 : ((n2 : Int) != win) = false := by simp [HF.out hm0]
            go_wp2
            go_roundw
            case measure => simp [intOf]; omega
            case rel => exact ⟨k + 1, by omega, by go_num, q, rfl, o2, A2, n2, c2, B2, m2, cd2, HN.out, HZ.out.2.2.2.2.2.2.1, HZ.out.2.2.2.2.2.2.2⟩
          · have d3 : decide (0 < m2) = false := decide_eq_false hm0
            go_wp2
            go_roundw
            case measure => simp [intOf]; omega
            case rel => exact ⟨k + 1, by omega, by go_num, q, rfl, o2, A2, n2, c2, B2, m2, cd2, HN.out, HZ.out.2.2.2.2.2.2.1, HZ.out.2.2.2.2.2.2.2⟩
        · have d2 : decide (k < na) = false := decide_eq_false hka
          have hV := Blk.new w1 35 #[.int .i64 a.next, .slice A1 n1 cap1, .slice B1 m1 cap1'] (g := w1.heap.size) rfl
          have hPz := hP1.alloc (.cells #[.int .i64 a.next, .slice A1 n1 cap1, .slice B1 m1 cap1'] 35)
          have hatz : OutAt (w1.alloc (.cells #[.int .i64 a.next, .slice A1 n1 cap1, .slice B1 m1 cap1'] 35)) (mid (P + 1) (w1.alloc (.cells #[.int .i64 a.next, .slice A1 n1 cap1, .slice B1 m1 cap1'] 35)).heap.size) A1 n1 B1 m1 a := H1.out.1.keep (fun p hp => World.cell?_alloc_lt _ _ _ hp.2) (fun b hb => ⟨by have := hb.1; omega, by have := hb.2; simp; omega⟩)
          have hTz : Sl Rit (w1.alloc (.cells #[.int .i64 a.next, .slice A1 n1 cap1, .slice B1 m1 cap1'] 35)) (mid (P + 1) (w1.alloc (.cells #[.int .i64 a.next, .slice A1 n1 cap1, .slice B1 m1 cap1'] 35)).heap.size) T1 (numL nx k (((bs.take (k + 1)).drop nx).take k1)) := by
            rw [← H1.out.2.2.2.2.2.2.2.2.2]
            exact H1.out.2.2.2.2.2.2.1.sl.2.2.2.keep (fun p hp => World.cell?_alloc_lt _ _ _ hp.2.1) (fun b hb => ⟨by have := hb.1; omega, by have := hb.2.1; simp; omega⟩)
          have HZ := Lib.hid (And.intro hPz (And.intro hV (And.intro hatz (And.intro hTz (And.intro H1.out.2.2.2.2.2.2.2.2.1 (And.intro hbw (And.intro H1.out.2.2.2.1 H1.out.2.2.2.2.1)))))))
          have hzV : w1.heap.size < (w1.alloc (.cells #[.int .i64 a.next, .slice A1 n1 cap1, .slice B1 m1 cap1'] 35)).heap.size := by simp
          have hPV : P < w1.heap.size := by omega
          clear hV hPz hatz hTz hbw hP1
          generalize (w1.alloc (.cells #[.int .i64 a.next, .slice A1 n1 cap1, .slice B1 m1 cap1'] 35)) = wz at *
          generalize w1.heap.size = V at *
          have v0 := HZ.out.2.1.cell 0 (v := .int .i64 a.next) rfl; have v1 := HZ.out.2.1.cell 1 (v := .slice A1 n1 cap1) rfl; have v2 := HZ.out.2.1.cell 2 (v := .slice B1 m1 cap1') rfl
          have p0 := HZ.out.1.cell 0 (v := .int .i64 o.next) rfl; have p1 := HZ.out.1.cell 1 (v := .slice AS nS cS) rfl; have p2 := HZ.out.1.cell 2 (v := .slice AW nW cW) rfl; have fP := HZ.out.1.frozen
          have hPz2 : P < wz.heap.size := by omega
          go_upto_block 2 with fail
          have hs := nm_store HZ.out.1 HZ.out.2.2.1 HZ.out.2.2.2.1 (HA.out.1.bel.trans (HZ.out.2.2.2.2.2.1.mono HA.out.1.bel.size)) hPw _ (rfl : (((wz.setCell ⟨P, 0, none⟩ (.int .i64 a.next)).setCell ⟨P, 1, none⟩ (.slice A1 n1 cap1)).setCell ⟨P, 2, none⟩ (.slice B1 m1 cap1')) = _)
          generalize (((wz.setCell ⟨P, 0, none⟩ (.int .i64 a.next)).setCell ⟨P, 1, none⟩ (.slice A1 n1 cap1)).setCell ⟨P, 2, none⟩ (.slice B1 m1 cap1')) = wq at *
          have HS := Lib.hid hs; clear hs v0 v1 v2 p0 p1 p2 fP
          refine num_loop2 wq bs _ N cB nx k k1 T1 kc1 (HX.out.1.below HS.out.2.2.2.1 HS.out.2.2.2.1.size) HX.out.2.1 hlt hcc1 hN4 (HS.out.2.2.1.more (fun b hb => hb.2)) ?_
          intro d6 d16 d77 d78 d79 d80 d81 d82 d83 d84 d85 d86 d87 d88 d89 d90 d91 d92 d93 d94 d95 d96 d97 d98 d99 d100 d101 d102 d103 d104 d105 d106 d107 d108 w9 hb9
          have z9 := hb9.size
          have hP9 := HS.out.1.below hb9 HS.out.1.lt
          have p0 := hP9.cell 0 (v := .int .i64 a.next) rfl; have p1 := hP9.cell 1 (v := .slice A1 n1 cap1) rfl; have p2 := hP9.cell 2 (v := .slice B1 m1 cap1') rfl
          have hwN := HZ.out.2.2.2.2.1.waitN (by rw [HX.out.2.1]; omega)
          rw [HZ.out.2.2.1.waitN] at hwN
          have hfull : 0 < m1 → (n1 : Int) = win := fun h => by
            rw [← HZ.out.2.2.1.sentN]
            exact HZ.out.2.2.2.2.1.full (fun h9 => by have := HZ.out.2.2.1.waitN; rw [h9] at this; simp at this; omega)
          obtain ⟨q, hq⟩ : ∃ q, nx + k1 = q := ⟨_, rfl⟩
          have e1 : (a.next != (q : Int)) = false := by (have := HZ.out.2.2.2.2.1.next; rw [hq] at this; simp [this])
          have e2 : ((m1 : Int) != (k : Int) + 1 - (q : Int)) = false := by simp; omega
          rw [hq]
          have HW9 := Lib.hid (And.intro hP9 (And.intro hb9 hq))
          have hfewN : ∀ x ∈ bs.take (k + 1), x.length ≤ 100 := fun x hx => by
            rw [take_snoc' HA.out.2.1] at hx
            rcases List.mem_append.1 hx with hx | hx
            · exact HA.out.1.few x hx
            · obtain rfl := List.mem_singleton.1 hx; rw [HA.out.2.2.1]; omega
          have HN := Lib.hid (show NmW w w9 P bs win (k + 1) a q A1 n1 cap1 B1 m1 cap1' from ⟨hP9, HS.out.2.1.keep (fun p hp => hb9.cell hp.2) (fun b hb => ⟨hb.1, by have := hb.2; omega⟩), hq ▸ HZ.out.2.2.2.2.1, hfewN, HS.out.2.2.2.1.trans (hb9.mono HS.out.2.2.2.1.size)⟩)
          have hqk : q ≤ k + 1 := by omega
          have HF := Lib.hid hfull
          clear hP9 hb9 hfewN hwN hq hfull
          by_cases hm0 : 0 < m1
          · have d3 : decide (0 < m1) = true := decide_eq_true hm0
            have e3 : ((n1 : Int) != win) = false := by simp [HF.out hm0]
            go_wp2
            go_roundw
            case measure => simp [intOf]; omega
            case rel => exact ⟨k + 1, by omega, by go_num, q, rfl, a, A1, n1, cap1, B1, m1, cap1', HN.out, HZ.out.2.2.2.2.2.2.1, HZ.out.2.2.2.2.2.2.2⟩
          · have d3 : decide (0 < m1) = false := decide_eq_false hm0
            go_wp2
            go_roundw
            case measure => simp [intOf]; omega
            case rel => exact ⟨k + 1, by omega, by go_num, q, rfl, a, A1, n1, cap1, B1, m1, cap1', HN.out, HZ.out.2.2.2.2.2.2.1, HZ.out.2.2.2.2.2.2.2⟩
    · go_wp2
      exact HK.out.2 _ _ _ _ _ _ _ _ _ _ _ _ _ _ _ _ _ _ _ _ _ _ _ _ _ _ _ _ _ _ _ _ _ _ _ _ _ _ _ _ _ _ _ _ _ _ _ _ _ _ _ _ _ _ _ _ _ _ _ _ _ _ _ _ _ _ _ _ _ _ _ _ _ _ _ _ _ _ _ _ _ _ _ _ _ _ _ _ _ _ _ _ _ _ _ _ _ _ _ _ _ _ _ _ _ _ _ _ _ hA.bel
end Go.Proofs.Ytalieakmjkmbbaa
