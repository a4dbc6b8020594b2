/-
  The checks of a configuration, the program's (package key) and the reference's, tell the same: 'okCfg'.
-/
import Derived.Test.YtigpalnmeefphaaBase
import Derived.BigQuiet
import Derived.BigGuardPart
import Derived.Deep.QuietTactic
namespace Go.Proofs.Ytigpalnmeefphaa
open Go.RowKit

/-- P7.1's question. -/
def okCfg (n : Nat) (ch sb cl qu close long ag wi r s : Int) : Bool :=
  decide (n ≤ 64 ∧ 1 ≤ ch ∧ ch ≤ 8 ∧ 0 ≤ sb ∧ sb ≤ 8 ∧ 1 ≤ cl ∧ cl ≤ 8 ∧ 1 ≤ qu ∧ qu ≤ 64 ∧ 1 ≤ close ∧ close ≤ 10000 ∧ close < long ∧ long ≤ 10000 ∧ 1 ≤ ag ∧ ag ≤ 10000 ∧ 1 ≤ wi ∧ wi ≤ 64 ∧ 1 ≤ r ∧ 1 ≤ s)
/-- OK, or ErrArg. -/
def errArg (b : Bool) : Int := if b then 0 else 1
theorem errArg_ok {b : Bool} {n : Int} (h : b = true) (hn : n = 0) : Ending.returned (.int .i64 n) = .returned (.int .i64 (errArg b)) := by subst h; subst hn; rfl
theorem errArg_no {b : Bool} {n : Int} (h : b = false) (hn : n = 1) : Ending.returned (.int .i64 n) = .returned (.int .i64 (errArg b)) := by subst h; subst hn; rfl

set_option maxHeartbeats 2000000 in
theorem r07_check (A : Option Addr) (n cap : Nat) (ch sb cl qu close long ag wi r s : Int) (w : World) :
    Calls Try.prog 8 #[.agg #[.slice A n cap, .int .i64 ch, .int .i64 sb, .int .i64 cl, .int .i64 qu, .int .i64 close, .int .i64 long, .int .i64 ag, .int .i64 wi, .int .u64 r, .int .u64 s]] w
      fun e w' => e = .returned (.int .i64 (errArg (okCfg n ch sb cl qu close long ag wi r s))) ∧ Below w.heap.size w w' := by
  go_enter Try.func8, Try.ntmps8
  go_wp2
  all_goals go_ret
  all_goals refine ⟨?_, (Below.refl _ _).alloc (Nat.le_refl _) _⟩
  all_goals first
    | exact errArg_ok (decide_eq_true (by omega)) rfl
    | exact errArg_no (decide_eq_false (by omega)) rfl
set_option maxHeartbeats 2000000 in
theorem key_check (A : Option Addr) (n cap : Nat) (ch sb cl qu close long ag wi r s : Int) (w : World) :
    Calls Try.prog 16 #[.agg #[.slice A n cap, .int .i64 ch, .int .i64 sb, .int .i64 cl, .int .i64 qu, .int .i64 close, .int .i64 long, .int .i64 ag, .int .i64 wi, .int .u64 r, .int .u64 s]] w
      fun e w' => e = .returned (.int .i64 (errArg (okCfg n ch sb cl qu close long ag wi r s))) ∧ Below w.heap.size w w' := by
  go_enter Try.func16, Try.ntmps16
  go_wp2
  all_goals go_ret
  all_goals refine ⟨?_, (Below.refl _ _).alloc (Nat.le_refl _) _⟩
  all_goals (try simp only [Bool.not_eq_true', Bool.not_eq_false', decide_eq_true_eq, decide_eq_false_iff_not] at *)
  all_goals first
    | exact errArg_ok (decide_eq_true (by omega)) rfl
    | exact errArg_no (decide_eq_false (by omega)) rfl
theorem r07_check_ok (A : Option Addr) (n cap : Nat) (ch sb cl qu close long ag wi r s : Int) (h : okCfg n ch sb cl qu close long ag wi r s = true) (w : World) :
    Calls Try.prog 8 #[.agg #[.slice A n cap, .int .i64 ch, .int .i64 sb, .int .i64 cl, .int .i64 qu, .int .i64 close, .int .i64 long, .int .i64 ag, .int .i64 wi, .int .u64 r, .int .u64 s]] w
      fun e w' => e = .returned (.int .i64 0) ∧ Below w.heap.size w w' :=
  (r07_check A n cap ch sb cl qu close long ag wi r s w).mono fun _ _ ⟨he, hb⟩ => ⟨by rw [he, h]; rfl, hb⟩
theorem r07_check_no (A : Option Addr) (n cap : Nat) (ch sb cl qu close long ag wi r s : Int) (h : okCfg n ch sb cl qu close long ag wi r s = false) (w : World) :
    Calls Try.prog 8 #[.agg #[.slice A n cap, .int .i64 ch, .int .i64 sb, .int .i64 cl, .int .i64 qu, .int .i64 close, .int .i64 long, .int .i64 ag, .int .i64 wi, .int .u64 r, .int .u64 s]] w
      fun e w' => e = .returned (.int .i64 1) ∧ Below w.heap.size w w' :=
  (r07_check A n cap ch sb cl qu close long ag wi r s w).mono fun _ _ ⟨he, hb⟩ => ⟨by rw [he, h]; rfl, hb⟩
theorem key_check_ok (A : Option Addr) (n cap : Nat) (ch sb cl qu close long ag wi r s : Int) (h : okCfg n ch sb cl qu close long ag wi r s = true) (w : World) :
    Calls Try.prog 16 #[.agg #[.slice A n cap, .int .i64 ch, .int .i64 sb, .int .i64 cl, .int .i64 qu, .int .i64 close, .int .i64 long, .int .i64 ag, .int .i64 wi, .int .u64 r, .int .u64 s]] w
      fun e w' => e = .returned (.int .i64 0) ∧ Below w.heap.size w w' :=
  (key_check A n cap ch sb cl qu close long ag wi r s w).mono fun _ _ ⟨he, hb⟩ => ⟨by rw [he, h]; rfl, hb⟩
theorem key_check_no (A : Option Addr) (n cap : Nat) (ch sb cl qu close long ag wi r s : Int) (h : okCfg n ch sb cl qu close long ag wi r s = false) (w : World) :
    Calls Try.prog 16 #[.agg #[.slice A n cap, .int .i64 ch, .int .i64 sb, .int .i64 cl, .int .i64 qu, .int .i64 close, .int .i64 long, .int .i64 ag, .int .i64 wi, .int .u64 r, .int .u64 s]] w
      fun e w' => e = .returned (.int .i64 1) ∧ Below w.heap.size w w' :=
  (key_check A n cap ch sb cl qu close long ag wi r s w).mono fun _ _ ⟨he, hb⟩ => ⟨by rw [he, h]; rfl, hb⟩
theorem okCfg_long {n : Nat} {ch sb cl qu close long ag wi r s : Int} (h : okCfg n ch sb cl qu close long ag wi r s = true) :
    1 ≤ ch ∧ ch ≤ 8 ∧ 0 ≤ sb ∧ sb ≤ 8 ∧ 1 ≤ cl ∧ cl ≤ 8 ∧ 1 ≤ qu ∧ qu ≤ 64 ∧ 1 ≤ close ∧ close < long ∧ long ≤ 10000 := by
  have := of_decide_eq_true h; omega
end Go.Proofs.Ytigpalnmeefphaa
