/- The walk of sent.one: what it tells, for every input. (Written by a program of this session, wip/handgen/sent.py.) -/
import Derived.Test.YtiilmjmgomcipaaProg
import Derived.Test.YtiilmjmgomcipaaVTimerTellsWMore
import Derived.WalkKit
import Derived.KernelRfl
import Derived.OwnWalk
import Derived.Below
import Derived.LoopN
import Derived.Deep.Draws
import Derived.Deep.QuietTactic
import Derived.BigQuiet
namespace Go.Proofs.Ytiilmjmgomcipaa.Hand
open Go.RowKit Go.Proofs.YtiilmjmgomcipaaW.PrintWords Go.Proofs.YtiilmjmgomcipaaW.PrintLast Go.Proofs.YtiilmjmgomcipaaW.PrintMore
set_option linter.unusedVariables false
set_option linter.unusedSimpArgs false
def inB (n low high : Int) : Bool := decide (low ≤ n) && decide (n ≤ high)
theorem in_any (n low high : Int) (w : World) : Calls Try.prog 31 #[.int .i64 n, .int .i64 low, .int .i64 high] w fun e w' => e = .returned (.bool (inB n low high)) ∧ w' = w := by
  have key : ∀ x : Bool, x = inB n low high → (Ending.returned (.bool x) : Ending) = .returned (.bool (inB n low high)) := fun x h => by rw [h]
  go_enter Try.func31, Try.ntmps31
  go_wp2
  all_goals
    go_ret
    refine ⟨key _ ?_, rfl⟩
    by_cases c1 : low ≤ n <;> by_cases c2 : n ≤ high <;> simp [inB, c1, c2] <;> omega
theorem ix0 (s d a t z : Int) (w : World) : (Instr.index 51 (.agg #[.int .i64 s, .int .i64 d, .int .i64 a, .int .i64 t, .int .i64 z]) (.int .i64 0)).run Try.prog w = .ok (.int .i64 s) w := by rfl
theorem ix1 (s d a t z : Int) (w : World) : (Instr.index 51 (.agg #[.int .i64 s, .int .i64 d, .int .i64 a, .int .i64 t, .int .i64 z]) (.int .i64 1)).run Try.prog w = .ok (.int .i64 d) w := by rfl
theorem ix2 (s d a t z : Int) (w : World) : (Instr.index 51 (.agg #[.int .i64 s, .int .i64 d, .int .i64 a, .int .i64 t, .int .i64 z]) (.int .i64 2)).run Try.prog w = .ok (.int .i64 a) w := by rfl
theorem ix3 (s d a t z : Int) (w : World) : (Instr.index 51 (.agg #[.int .i64 s, .int .i64 d, .int .i64 a, .int .i64 t, .int .i64 z]) (.int .i64 3)).run Try.prog w = .ok (.int .i64 t) w := by rfl
theorem ix4 (s d a t z : Int) (w : World) : (Instr.index 51 (.agg #[.int .i64 s, .int .i64 d, .int .i64 a, .int .i64 t, .int .i64 z]) (.int .i64 4)).run Try.prog w = .ok (.int .i64 z) w := by rfl
theorem ret_bool {x y : Bool} (h : x = y) : (Ending.returned (.bool x) : Ending) = .returned (.bool y) := by rw [h]
set_option maxHeartbeats 3200000 in
theorem one_bad0 (s l d a u : Int) (came lost : Bool) (t z : Int) (w : World) (h0 : inB s 0 1152921504606846976 = false) :
    Calls Try.prog 28 #[.agg #[.int .i64 s, .int .i64 l, .int .i64 d, .int .i64 a, .int .i64 u, .bool came, .bool lost, .int .i64 t, .int .i64 z]] w fun e w' => e = .returned (.bool false) ∧ Below w.heap.size w w' := by
  have hix0 := ix0 s d a t z
  have hix1 := ix1 s d a t z
  have hix2 := ix2 s d a t z
  have hix3 := ix3 s d a t z
  have hix4 := ix4 s d a t z
  go_enter Try.func28, Try.ntmps28
  go_wp2
  refine wp_loop_rounds 6 ?_
  rw [rounds_succ]
  go_wp2_with (first | (go_at_call 31; refine (in_any _ _ _ _).mono ?_; rintro e w' ⟨rfl, rfl⟩) | go_in)
  all_goals
    refine bodyPost_ret (v := .bool false) (by simp [results, Try.results28, go_sem]) rfl ⟨rfl, ?_⟩
    repeat (first | (with_reducible exact Below.refl _ _) | apply pw_below_drewN | apply below_drew1 | (with_reducible apply below_alloc) | (refine below_set ?_ (by simp)))
set_option maxHeartbeats 3200000 in
theorem one_bad1 (s l d a u : Int) (came lost : Bool) (t z : Int) (w : World) (h0 : inB s 0 1152921504606846976 = true) (h1 : inB d 0 1152921504606846976 = false) :
    Calls Try.prog 28 #[.agg #[.int .i64 s, .int .i64 l, .int .i64 d, .int .i64 a, .int .i64 u, .bool came, .bool lost, .int .i64 t, .int .i64 z]] w fun e w' => e = .returned (.bool false) ∧ Below w.heap.size w w' := by
  have hix0 := ix0 s d a t z
  have hix1 := ix1 s d a t z
  have hix2 := ix2 s d a t z
  have hix3 := ix3 s d a t z
  have hix4 := ix4 s d a t z
  go_enter Try.func28, Try.ntmps28
  go_wp2
  refine wp_loop_rounds 6 ?_
  rw [rounds_succ]
  go_wp2_with (first | (go_at_call 31; refine (in_any _ _ _ _).mono ?_; rintro e w' ⟨rfl, rfl⟩) | go_in)
  rw [rounds_succ]
  go_wp2_with (first | (go_at_call 31; refine (in_any _ _ _ _).mono ?_; rintro e w' ⟨rfl, rfl⟩) | go_in)
  all_goals
    refine bodyPost_ret (v := .bool false) (by simp [results, Try.results28, go_sem]) rfl ⟨rfl, ?_⟩
    repeat (first | (with_reducible exact Below.refl _ _) | apply pw_below_drewN | apply below_drew1 | (with_reducible apply below_alloc) | (refine below_set ?_ (by simp)))
set_option maxHeartbeats 3200000 in
theorem one_bad2 (s l d a u : Int) (came lost : Bool) (t z : Int) (w : World) (h0 : inB s 0 1152921504606846976 = true) (h1 : inB d 0 1152921504606846976 = true) (h2 : inB a 0 1152921504606846976 = false) :
    Calls Try.prog 28 #[.agg #[.int .i64 s, .int .i64 l, .int .i64 d, .int .i64 a, .int .i64 u, .bool came, .bool lost, .int .i64 t, .int .i64 z]] w fun e w' => e = .returned (.bool false) ∧ Below w.heap.size w w' := by
  have hix0 := ix0 s d a t z
  have hix1 := ix1 s d a t z
  have hix2 := ix2 s d a t z
  have hix3 := ix3 s d a t z
  have hix4 := ix4 s d a t z
  go_enter Try.func28, Try.ntmps28
  go_wp2
  refine wp_loop_rounds 6 ?_
  rw [rounds_succ]
  go_wp2_with (first | (go_at_call 31; refine (in_any _ _ _ _).mono ?_; rintro e w' ⟨rfl, rfl⟩) | go_in)
  rw [rounds_succ]
  go_wp2_with (first | (go_at_call 31; refine (in_any _ _ _ _).mono ?_; rintro e w' ⟨rfl, rfl⟩) | go_in)
  rw [rounds_succ]
  go_wp2_with (first | (go_at_call 31; refine (in_any _ _ _ _).mono ?_; rintro e w' ⟨rfl, rfl⟩) | go_in)
  all_goals
    refine bodyPost_ret (v := .bool false) (by simp [results, Try.results28, go_sem]) rfl ⟨rfl, ?_⟩
    repeat (first | (with_reducible exact Below.refl _ _) | apply pw_below_drewN | apply below_drew1 | (with_reducible apply below_alloc) | (refine below_set ?_ (by simp)))
set_option maxHeartbeats 3200000 in
theorem one_bad3 (s l d a u : Int) (came lost : Bool) (t z : Int) (w : World) (h0 : inB s 0 1152921504606846976 = true) (h1 : inB d 0 1152921504606846976 = true) (h2 : inB a 0 1152921504606846976 = true) (h3 : inB t 0 1152921504606846976 = false) :
    Calls Try.prog 28 #[.agg #[.int .i64 s, .int .i64 l, .int .i64 d, .int .i64 a, .int .i64 u, .bool came, .bool lost, .int .i64 t, .int .i64 z]] w fun e w' => e = .returned (.bool false) ∧ Below w.heap.size w w' := by
  have hix0 := ix0 s d a t z
  have hix1 := ix1 s d a t z
  have hix2 := ix2 s d a t z
  have hix3 := ix3 s d a t z
  have hix4 := ix4 s d a t z
  go_enter Try.func28, Try.ntmps28
  go_wp2
  refine wp_loop_rounds 6 ?_
  rw [rounds_succ]
  go_wp2_with (first | (go_at_call 31; refine (in_any _ _ _ _).mono ?_; rintro e w' ⟨rfl, rfl⟩) | go_in)
  rw [rounds_succ]
  go_wp2_with (first | (go_at_call 31; refine (in_any _ _ _ _).mono ?_; rintro e w' ⟨rfl, rfl⟩) | go_in)
  rw [rounds_succ]
  go_wp2_with (first | (go_at_call 31; refine (in_any _ _ _ _).mono ?_; rintro e w' ⟨rfl, rfl⟩) | go_in)
  rw [rounds_succ]
  go_wp2_with (first | (go_at_call 31; refine (in_any _ _ _ _).mono ?_; rintro e w' ⟨rfl, rfl⟩) | go_in)
  all_goals
    refine bodyPost_ret (v := .bool false) (by simp [results, Try.results28, go_sem]) rfl ⟨rfl, ?_⟩
    repeat (first | (with_reducible exact Below.refl _ _) | apply pw_below_drewN | apply below_drew1 | (with_reducible apply below_alloc) | (refine below_set ?_ (by simp)))
set_option maxHeartbeats 3200000 in
theorem one_bad4 (s l d a u : Int) (came lost : Bool) (t z : Int) (w : World) (h0 : inB s 0 1152921504606846976 = true) (h1 : inB d 0 1152921504606846976 = true) (h2 : inB a 0 1152921504606846976 = true) (h3 : inB t 0 1152921504606846976 = true) (h4 : inB z 0 1152921504606846976 = false) :
    Calls Try.prog 28 #[.agg #[.int .i64 s, .int .i64 l, .int .i64 d, .int .i64 a, .int .i64 u, .bool came, .bool lost, .int .i64 t, .int .i64 z]] w fun e w' => e = .returned (.bool false) ∧ Below w.heap.size w w' := by
  have hix0 := ix0 s d a t z
  have hix1 := ix1 s d a t z
  have hix2 := ix2 s d a t z
  have hix3 := ix3 s d a t z
  have hix4 := ix4 s d a t z
  go_enter Try.func28, Try.ntmps28
  go_wp2
  refine wp_loop_rounds 6 ?_
  rw [rounds_succ]
  go_wp2_with (first | (go_at_call 31; refine (in_any _ _ _ _).mono ?_; rintro e w' ⟨rfl, rfl⟩) | go_in)
  rw [rounds_succ]
  go_wp2_with (first | (go_at_call 31; refine (in_any _ _ _ _).mono ?_; rintro e w' ⟨rfl, rfl⟩) | go_in)
  rw [rounds_succ]
  go_wp2_with (first | (go_at_call 31; refine (in_any _ _ _ _).mono ?_; rintro e w' ⟨rfl, rfl⟩) | go_in)
  rw [rounds_succ]
  go_wp2_with (first | (go_at_call 31; refine (in_any _ _ _ _).mono ?_; rintro e w' ⟨rfl, rfl⟩) | go_in)
  rw [rounds_succ]
  go_wp2_with (first | (go_at_call 31; refine (in_any _ _ _ _).mono ?_; rintro e w' ⟨rfl, rfl⟩) | go_in)
  all_goals
    refine bodyPost_ret (v := .bool false) (by simp [results, Try.results28, go_sem]) rfl ⟨rfl, ?_⟩
    repeat (first | (with_reducible exact Below.refl _ _) | apply pw_below_drewN | apply below_drew1 | (with_reducible apply below_alloc) | (refine below_set ?_ (by simp)))
set_option maxHeartbeats 3200000 in
theorem one_all (s l d a u : Int) (came lost : Bool) (t z : Int) (w : World) (h0 : inB s 0 1152921504606846976 = true) (h1 : inB d 0 1152921504606846976 = true) (h2 : inB a 0 1152921504606846976 = true) (h3 : inB t 0 1152921504606846976 = true) (h4 : inB z 0 1152921504606846976 = true) :
    Calls Try.prog 28 #[.agg #[.int .i64 s, .int .i64 l, .int .i64 d, .int .i64 a, .int .i64 u, .bool came, .bool lost, .int .i64 t, .int .i64 z]] w fun e w' => e = .returned (.bool (inB l 1 1460 && (inB u 1 1000 && !(came && lost)))) ∧ Below w.heap.size w w' := by
  have hix0 := ix0 s d a t z
  have hix1 := ix1 s d a t z
  have hix2 := ix2 s d a t z
  have hix3 := ix3 s d a t z
  have hix4 := ix4 s d a t z
  go_enter Try.func28, Try.ntmps28
  go_wp2
  refine wp_loop_rounds 6 ?_
  rw [rounds_succ]
  go_wp2_with (first | (go_at_call 31; refine (in_any _ _ _ _).mono ?_; rintro e w' ⟨rfl, rfl⟩) | go_in)
  rw [rounds_succ]
  go_wp2_with (first | (go_at_call 31; refine (in_any _ _ _ _).mono ?_; rintro e w' ⟨rfl, rfl⟩) | go_in)
  rw [rounds_succ]
  go_wp2_with (first | (go_at_call 31; refine (in_any _ _ _ _).mono ?_; rintro e w' ⟨rfl, rfl⟩) | go_in)
  rw [rounds_succ]
  go_wp2_with (first | (go_at_call 31; refine (in_any _ _ _ _).mono ?_; rintro e w' ⟨rfl, rfl⟩) | go_in)
  rw [rounds_succ]
  go_wp2_with (first | (go_at_call 31; refine (in_any _ _ _ _).mono ?_; rintro e w' ⟨rfl, rfl⟩) | go_in)
  rw [rounds_succ]
  go_wp2_with (first | (go_at_call 31; refine (in_any _ _ _ _).mono ?_; rintro e w' ⟨rfl, rfl⟩) | go_in)
  all_goals
    go_ret
    refine ⟨ret_bool (by simp [*]), ?_⟩
    repeat (first | (with_reducible exact Below.refl _ _) | apply pw_below_drewN | apply below_drew1 | (with_reducible apply below_alloc) | (refine below_set ?_ (by simp)))
def sent_one.f (s l d a u : Int) (came lost : Bool) (t z : Int) : Option Bool :=
  some (inB s 0 1152921504606846976 && (inB d 0 1152921504606846976 && (inB a 0 1152921504606846976 && (inB t 0 1152921504606846976 && (inB z 0 1152921504606846976 && (inB l 1 1460 && (inB u 1 1000 && !(came && lost))))))))
theorem sent_one.calls (s l d a u : Int) (came lost : Bool) (t z : Int) (r : Bool) (w : World) (h : sent_one.f s l d a u came lost t z = some r) :
    Calls Try.prog 28 #[.agg #[.int .i64 s, .int .i64 l, .int .i64 d, .int .i64 a, .int .i64 u, .bool came, .bool lost, .int .i64 t, .int .i64 z]] w fun e w' => e = .returned (.bool r) ∧ Below w.heap.size w w' := by
  obtain rfl := Option.some.inj h
  clear h
  cases h0 : inB s 0 1152921504606846976 with
  | false => exact one_bad0 s l d a u came lost t z w h0
  | true =>
  cases h1 : inB d 0 1152921504606846976 with
  | false => exact one_bad1 s l d a u came lost t z w h0 h1
  | true =>
  cases h2 : inB a 0 1152921504606846976 with
  | false => exact one_bad2 s l d a u came lost t z w h0 h1 h2
  | true =>
  cases h3 : inB t 0 1152921504606846976 with
  | false => exact one_bad3 s l d a u came lost t z w h0 h1 h2 h3
  | true =>
  cases h4 : inB z 0 1152921504606846976 with
  | false => exact one_bad4 s l d a u came lost t z w h0 h1 h2 h3 h4
  | true =>
  exact one_all s l d a u came lost t z w h0 h1 h2 h3 h4
end Go.Proofs.Ytiilmjmgomcipaa.Hand
