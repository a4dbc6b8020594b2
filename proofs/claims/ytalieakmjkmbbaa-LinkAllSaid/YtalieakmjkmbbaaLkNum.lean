/-
  LinkNumbers: the walk.
-/
import Derived.Test.YtalieakmjkmbbaaNumC
namespace Go.Proofs.Ytalieakmjkmbbaa
open Go.RowKit Go.Sort
set_option linter.unusedVariables false

set_option maxRecDepth 100000 in
set_option maxHeartbeats 4000000 in
theorem linkNumbers_walk (BA : Option Addr) (bs : List (List Int)) (N cB : Nat) (win : Int) (AA : Option Addr) (acks : List Int) (na ca : Nat) (w : World) (hN : bs.length = N) (hbs : Sl Rbd w (lo w.heap.size) BA bs) (hna : acks.length = na) (hac : Sl (Rint .i64) w (lo w.heap.size) AA acks) :
    Calls Try.prog 5 #[.slice BA N cB, .int .i64 win, .slice AA na ca] w fun e w' => e = .returned (.bool true) ∧ Below w.heap.size w w' := by
  have HX := Lib.hid (And.intro hN (And.intro hbs (And.intro hna hac))); clear hN hbs hna hac
  go_enter Try.func5, Try.ntmps5
  go_upto_region 5 with (go_at_call 8
                         go_loud (skip
                                  refine (live_any _).mono ?_
                                  rintro e w1 ⟨rfl, hb1⟩
                                  have HB1 := Lib.hid hb1; clear hb1))
  all_goals try (go_ret; exact ⟨rfl, HB1.out⟩)
  have c1 : 1 ≤ win := by omega
  have c2 : win ≤ 20 := by omega
  have c3 : N ≤ 40 := by omega
  have z1 := HB1.out.size
  have hP := Blk.new w1 35 #[.int .i64 0, .slice none 0 0, .slice none 0 0] (g := w1.heap.size) rfl
  have HW := Lib.hid (show NmW w (w1.alloc (.cells #[.int .i64 0, .slice none 0 0, .slice none 0 0] 35)) w1.heap.size bs win 0 ⟨0, [], []⟩ 0 none 0 0 none 0 0 from ⟨hP, ⟨Sl.nil _ _ _ _, rfl, Sl.nil _ _ _ _, rfl⟩, NumI.start bs c1, fun b hb => by simp at hb, HB1.out.alloc z1 _⟩)
  clear hP
  go_upto_block 0 with fail
  refine num_loop w _ w1.heap.size bs BA N cB win acks AA na ca HX.out.2.1 HX.out.1 c3 c1 c2 HX.out.2.2.2 HX.out.2.2.1 z1 HW.out ?_ ?_
  · intro d8 d9 d10 d11 d12 d13 d14 d16 d38 d39 d40 d41 d42 d43 d44 d45 d46 d47 d48 d49 d50 d51 d52 d53 d54 d55 d56 d57 d58 d59 d60 d61 d62 d63 d64 d65 d66 d67 d68 d69 d70 d71 d72 d73 d74 d75 d76 d77 d78 d79 d80 d81 d82 d83 d84 d85 d86 d87 d88 d89 d90 d91 d92 d93 d94 d95 d96 d97 d98 d99 d100 d101 d102 d103 d104 d105 d106 d107 d108 d109 d110 d111 d112 d113 d114 d115 d116 d117 d118 d119 d120 d121 d122 d123 d124 d125 d126 d127 d128 d129 d130 d131 d132 d133 d134 d135 d136 w' hb
    go_wp2
    go_ret
    exact ⟨rfl, hb⟩
  · intro d6 d8 d9 d10 d11 d12 d13 d14 d16 d38 d39 d40 d41 d42 d43 d44 d45 d46 d47 d48 d49 d50 d51 d52 d53 d54 d55 d56 d57 d58 d59 d60 d61 d62 d63 d64 d65 d66 d67 d68 d69 d70 d71 d72 d73 d74 d75 d76 d77 d78 d79 d80 d81 d82 d83 d84 d85 d86 d87 d88 d89 d90 d91 d92 d93 d94 d95 d96 d97 d98 d99 d100 d101 d102 d103 d104 d105 d106 d107 d108 d109 d110 d111 d112 d113 d114 d115 d116 d117 d118 d119 d120 d121 d122 d123 d124 d125 d126 d127 d128 d129 d130 d131 d132 d133 d134 d135 d136 w' hb
    go_wp2
    go_ret
    exact ⟨rfl, hb⟩
open Go.ChangeShapes Go.WideShapes Go.ChangeAt in
theorem arg_bodies {H : Type} {enc : TypeId × Value → H} {w : World} {r : Reach} {b0 : Nat} {v : Value} {d : DataW H} {ps : List MemPlace} (hv : Value.okWide Try.prog w r b0 28 v) (h : DataW.Trod enc Try.prog w 0 (fun _ => true) true 28 v d ps) (hz : ∀ n ∈ d.weights Try.prog 28, n ≤ reachBytes) :
    ∃ (A : Option Addr) (xs : List (List Int)) (n cap : Nat), v = .slice A n cap ∧ xs.length = n ∧ n ≤ cap ∧ cap ≤ maxLen ∧ Sl Rbd w (lo w.heap.size) A xs ∧ n * 24 ≤ reachBytes ∧ ∀ x ∈ xs, Rbd.fit reachBytes x := arg_sl Try.underlying28 opens_bodies hv h hz
open Go.ChangeShapes Go.WideShapes Go.ChangeAt in
theorem arg_ints {H : Type} {enc : TypeId × Value → H} {w : World} {r : Reach} {b0 : Nat} {v : Value} {d : DataW H} {ps : List MemPlace} (hv : Value.okWide Try.prog w r b0 43 v) (h : DataW.Trod enc Try.prog w 0 (fun _ => true) true 43 v d ps) (hz : ∀ n ∈ d.weights Try.prog 43, n ≤ reachBytes) :
    ∃ (A : Option Addr) (xs : List Int) (n cap : Nat), v = .slice A n cap ∧ xs.length = n ∧ n ≤ cap ∧ cap ≤ maxLen ∧ Sl (Rint .i64) w (lo w.heap.size) A xs ∧ n * 8 ≤ reachBytes ∧ ∀ x ∈ xs, (Rint .i64).fit reachBytes x := arg_sl Try.underlying43 opens_ints hv h hz
end Go.Proofs.Ytalieakmjkmbbaa
