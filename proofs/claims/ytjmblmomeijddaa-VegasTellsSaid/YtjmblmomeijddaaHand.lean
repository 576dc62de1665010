/- The walk of vegas.Round: what it tells, for every input. (Written by a program of this session.) -/
import Derived.Test.YtjmblmomeijddaaProg
import Derived.Test.YtjmblmomeijddaaWMore
import Derived.WalkKit
import Derived.KernelRfl
import Derived.OwnWalk
import Derived.Below
import Derived.Deep.Draws
import Derived.Deep.QuietTactic
import Derived.BigQuiet
namespace Go.Proofs.Ytjmblmomeijddaa.Hand
open Go.RowKit Go.Proofs.YtjmblmomeijddaaW.PrintWords Go.Proofs.YtjmblmomeijddaaW.PrintLast Go.Proofs.YtjmblmomeijddaaW.PrintMore
attribute [local go_sem] max2_int min2_int max_two min_two max_three min_three max_four min_four
set_option linter.unusedVariables false
set_option linter.unusedSimpArgs false
set_option maxHeartbeats 1600000 in
theorem wrong_lo_s (c t q a s g : Int) (w : World) (hwrong : s < 1) :
    Calls Try.prog 12 #[.agg #[.int .i64 c, .int .i64 t], .int .i64 q, .int .i64 a, .int .i64 s, .int .i64 g] w fun e w' => e = .returned (.tuple #[.agg #[.int .i64 0, .int .i64 0], .int .i64 1]) ∧ Below w.heap.size w w' := by
  have bf0 : decide (1 ≤ s) = false := decide_eq_false (by omega)
  clear hwrong
  have hu32 := Try.underlying32
  go_enter Try.func12, Try.ntmps12
  go_wp2
  refine bodyPost_ret (v := .tuple #[.agg #[.int .i64 0, .int .i64 0], .int .i64 1]) (by simp [results, Try.results12, go_sem]) rfl ⟨rfl, ?_⟩
  repeat (first | (with_reducible exact Below.refl _ _) | apply pw_below_drewN | apply below_drew1 | (with_reducible apply below_alloc) | (refine below_set ?_ (by simp)))
set_option maxHeartbeats 1600000 in
theorem wrong_hi_s (c t q a s g : Int) (w : World) (h0s : 1 ≤ s) (hwrong : 1460 < s) :
    Calls Try.prog 12 #[.agg #[.int .i64 c, .int .i64 t], .int .i64 q, .int .i64 a, .int .i64 s, .int .i64 g] w fun e w' => e = .returned (.tuple #[.agg #[.int .i64 0, .int .i64 0], .int .i64 1]) ∧ Below w.heap.size w w' := by
  have bf0 : decide (s ≤ 1460) = false := decide_eq_false (by omega)
  clear hwrong
  have hu32 := Try.underlying32
  go_enter Try.func12, Try.ntmps12
  go_wp2
  refine bodyPost_ret (v := .tuple #[.agg #[.int .i64 0, .int .i64 0], .int .i64 1]) (by simp [results, Try.results12, go_sem]) rfl ⟨rfl, ?_⟩
  repeat (first | (with_reducible exact Below.refl _ _) | apply pw_below_drewN | apply below_drew1 | (with_reducible apply below_alloc) | (refine below_set ?_ (by simp)))
set_option maxHeartbeats 1600000 in
theorem wrong_lo_g (c t q a s g : Int) (w : World) (h0s : 1 ≤ s) (h1s : s ≤ 1460) (hwrong : g < s) :
    Calls Try.prog 12 #[.agg #[.int .i64 c, .int .i64 t], .int .i64 q, .int .i64 a, .int .i64 s, .int .i64 g] w fun e w' => e = .returned (.tuple #[.agg #[.int .i64 0, .int .i64 0], .int .i64 1]) ∧ Below w.heap.size w w' := by
  have bf0 : decide (s ≤ g) = false := decide_eq_false (by omega)
  clear hwrong
  have hu32 := Try.underlying32
  go_enter Try.func12, Try.ntmps12
  go_wp2
  refine bodyPost_ret (v := .tuple #[.agg #[.int .i64 0, .int .i64 0], .int .i64 1]) (by simp [results, Try.results12, go_sem]) rfl ⟨rfl, ?_⟩
  repeat (first | (with_reducible exact Below.refl _ _) | apply pw_below_drewN | apply below_drew1 | (with_reducible apply below_alloc) | (refine below_set ?_ (by simp)))
set_option maxHeartbeats 1600000 in
theorem wrong_hi_g (c t q a s g : Int) (w : World) (h0s : 1 ≤ s) (h1s : s ≤ 1460) (h0g : s ≤ g) (hwrong : 1073741824 < g) :
    Calls Try.prog 12 #[.agg #[.int .i64 c, .int .i64 t], .int .i64 q, .int .i64 a, .int .i64 s, .int .i64 g] w fun e w' => e = .returned (.tuple #[.agg #[.int .i64 0, .int .i64 0], .int .i64 1]) ∧ Below w.heap.size w w' := by
  have bf0 : decide (g ≤ 1073741824) = false := decide_eq_false (by omega)
  clear hwrong
  have hu32 := Try.underlying32
  go_enter Try.func12, Try.ntmps12
  go_wp2
  refine bodyPost_ret (v := .tuple #[.agg #[.int .i64 0, .int .i64 0], .int .i64 1]) (by simp [results, Try.results12, go_sem]) rfl ⟨rfl, ?_⟩
  repeat (first | (with_reducible exact Below.refl _ _) | apply pw_below_drewN | apply below_drew1 | (with_reducible apply below_alloc) | (refine below_set ?_ (by simp)))
set_option maxHeartbeats 1600000 in
theorem wrong_lo_c (c t q a s g : Int) (w : World) (h0s : 1 ≤ s) (h1s : s ≤ 1460) (h0g : s ≤ g) (h1g : g ≤ 1073741824) (hwrong : c < s) :
    Calls Try.prog 12 #[.agg #[.int .i64 c, .int .i64 t], .int .i64 q, .int .i64 a, .int .i64 s, .int .i64 g] w fun e w' => e = .returned (.tuple #[.agg #[.int .i64 0, .int .i64 0], .int .i64 1]) ∧ Below w.heap.size w w' := by
  have bf0 : decide (s ≤ c) = false := decide_eq_false (by omega)
  clear hwrong
  have hu32 := Try.underlying32
  go_enter Try.func12, Try.ntmps12
  go_wp2
  refine bodyPost_ret (v := .tuple #[.agg #[.int .i64 0, .int .i64 0], .int .i64 1]) (by simp [results, Try.results12, go_sem]) rfl ⟨rfl, ?_⟩
  repeat (first | (with_reducible exact Below.refl _ _) | apply pw_below_drewN | apply below_drew1 | (with_reducible apply below_alloc) | (refine below_set ?_ (by simp)))
set_option maxHeartbeats 1600000 in
theorem wrong_hi_c (c t q a s g : Int) (w : World) (h0s : 1 ≤ s) (h1s : s ≤ 1460) (h0g : s ≤ g) (h1g : g ≤ 1073741824) (h0c : s ≤ c) (hwrong : g < c) :
    Calls Try.prog 12 #[.agg #[.int .i64 c, .int .i64 t], .int .i64 q, .int .i64 a, .int .i64 s, .int .i64 g] w fun e w' => e = .returned (.tuple #[.agg #[.int .i64 0, .int .i64 0], .int .i64 1]) ∧ Below w.heap.size w w' := by
  have bf0 : decide (c ≤ g) = false := decide_eq_false (by omega)
  clear hwrong
  have hu32 := Try.underlying32
  go_enter Try.func12, Try.ntmps12
  go_wp2
  refine bodyPost_ret (v := .tuple #[.agg #[.int .i64 0, .int .i64 0], .int .i64 1]) (by simp [results, Try.results12, go_sem]) rfl ⟨rfl, ?_⟩
  repeat (first | (with_reducible exact Below.refl _ _) | apply pw_below_drewN | apply below_drew1 | (with_reducible apply below_alloc) | (refine below_set ?_ (by simp)))
set_option maxHeartbeats 1600000 in
theorem wrong_lo_t (c t q a s g : Int) (w : World) (h0s : 1 ≤ s) (h1s : s ≤ 1460) (h0g : s ≤ g) (h1g : g ≤ 1073741824) (h0c : s ≤ c) (h1c : c ≤ g) (hwrong : t < s) :
    Calls Try.prog 12 #[.agg #[.int .i64 c, .int .i64 t], .int .i64 q, .int .i64 a, .int .i64 s, .int .i64 g] w fun e w' => e = .returned (.tuple #[.agg #[.int .i64 0, .int .i64 0], .int .i64 1]) ∧ Below w.heap.size w w' := by
  have bf0 : decide (s ≤ t) = false := decide_eq_false (by omega)
  clear hwrong
  have hu32 := Try.underlying32
  go_enter Try.func12, Try.ntmps12
  go_wp2
  refine bodyPost_ret (v := .tuple #[.agg #[.int .i64 0, .int .i64 0], .int .i64 1]) (by simp [results, Try.results12, go_sem]) rfl ⟨rfl, ?_⟩
  repeat (first | (with_reducible exact Below.refl _ _) | apply pw_below_drewN | apply below_drew1 | (with_reducible apply below_alloc) | (refine below_set ?_ (by simp)))
set_option maxHeartbeats 1600000 in
theorem wrong_hi_t (c t q a s g : Int) (w : World) (h0s : 1 ≤ s) (h1s : s ≤ 1460) (h0g : s ≤ g) (h1g : g ≤ 1073741824) (h0c : s ≤ c) (h1c : c ≤ g) (h0t : s ≤ t) (hwrong : g < t) :
    Calls Try.prog 12 #[.agg #[.int .i64 c, .int .i64 t], .int .i64 q, .int .i64 a, .int .i64 s, .int .i64 g] w fun e w' => e = .returned (.tuple #[.agg #[.int .i64 0, .int .i64 0], .int .i64 1]) ∧ Below w.heap.size w w' := by
  have bf0 : decide (t ≤ g) = false := decide_eq_false (by omega)
  clear hwrong
  have hu32 := Try.underlying32
  go_enter Try.func12, Try.ntmps12
  go_wp2
  refine bodyPost_ret (v := .tuple #[.agg #[.int .i64 0, .int .i64 0], .int .i64 1]) (by simp [results, Try.results12, go_sem]) rfl ⟨rfl, ?_⟩
  repeat (first | (with_reducible exact Below.refl _ _) | apply pw_below_drewN | apply below_drew1 | (with_reducible apply below_alloc) | (refine below_set ?_ (by simp)))
set_option maxHeartbeats 1600000 in
theorem wrong_lo_q (c t q a s g : Int) (w : World) (h0s : 1 ≤ s) (h1s : s ≤ 1460) (h0g : s ≤ g) (h1g : g ≤ 1073741824) (h0c : s ≤ c) (h1c : c ≤ g) (h0t : s ≤ t) (h1t : t ≤ g) (hwrong : q < 0) :
    Calls Try.prog 12 #[.agg #[.int .i64 c, .int .i64 t], .int .i64 q, .int .i64 a, .int .i64 s, .int .i64 g] w fun e w' => e = .returned (.tuple #[.agg #[.int .i64 0, .int .i64 0], .int .i64 1]) ∧ Below w.heap.size w w' := by
  have bf0 : decide (0 ≤ q) = false := decide_eq_false (by omega)
  clear hwrong
  have hu32 := Try.underlying32
  go_enter Try.func12, Try.ntmps12
  go_wp2
  refine bodyPost_ret (v := .tuple #[.agg #[.int .i64 0, .int .i64 0], .int .i64 1]) (by simp [results, Try.results12, go_sem]) rfl ⟨rfl, ?_⟩
  repeat (first | (with_reducible exact Below.refl _ _) | apply pw_below_drewN | apply below_drew1 | (with_reducible apply below_alloc) | (refine below_set ?_ (by simp)))
set_option maxHeartbeats 1600000 in
theorem wrong_hi_q (c t q a s g : Int) (w : World) (h0s : 1 ≤ s) (h1s : s ≤ 1460) (h0g : s ≤ g) (h1g : g ≤ 1073741824) (h0c : s ≤ c) (h1c : c ≤ g) (h0t : s ≤ t) (h1t : t ≤ g) (h0q : 0 ≤ q) (hwrong : 1073741824 < q) :
    Calls Try.prog 12 #[.agg #[.int .i64 c, .int .i64 t], .int .i64 q, .int .i64 a, .int .i64 s, .int .i64 g] w fun e w' => e = .returned (.tuple #[.agg #[.int .i64 0, .int .i64 0], .int .i64 1]) ∧ Below w.heap.size w w' := by
  have bf0 : decide (q ≤ 1073741824) = false := decide_eq_false (by omega)
  clear hwrong
  have hu32 := Try.underlying32
  go_enter Try.func12, Try.ntmps12
  go_wp2
  refine bodyPost_ret (v := .tuple #[.agg #[.int .i64 0, .int .i64 0], .int .i64 1]) (by simp [results, Try.results12, go_sem]) rfl ⟨rfl, ?_⟩
  repeat (first | (with_reducible exact Below.refl _ _) | apply pw_below_drewN | apply below_drew1 | (with_reducible apply below_alloc) | (refine below_set ?_ (by simp)))
set_option maxHeartbeats 1600000 in
theorem wrong_lo_a (c t q a s g : Int) (w : World) (h0s : 1 ≤ s) (h1s : s ≤ 1460) (h0g : s ≤ g) (h1g : g ≤ 1073741824) (h0c : s ≤ c) (h1c : c ≤ g) (h0t : s ≤ t) (h1t : t ≤ g) (h0q : 0 ≤ q) (h1q : q ≤ 1073741824) (hwrong : a < 0) :
    Calls Try.prog 12 #[.agg #[.int .i64 c, .int .i64 t], .int .i64 q, .int .i64 a, .int .i64 s, .int .i64 g] w fun e w' => e = .returned (.tuple #[.agg #[.int .i64 0, .int .i64 0], .int .i64 1]) ∧ Below w.heap.size w w' := by
  have bf0 : decide (0 ≤ a) = false := decide_eq_false (by omega)
  clear hwrong
  have hu32 := Try.underlying32
  go_enter Try.func12, Try.ntmps12
  go_wp2
  refine bodyPost_ret (v := .tuple #[.agg #[.int .i64 0, .int .i64 0], .int .i64 1]) (by simp [results, Try.results12, go_sem]) rfl ⟨rfl, ?_⟩
  repeat (first | (with_reducible exact Below.refl _ _) | apply pw_below_drewN | apply below_drew1 | (with_reducible apply below_alloc) | (refine below_set ?_ (by simp)))
set_option maxHeartbeats 1600000 in
theorem wrong_hi_a (c t q a s g : Int) (w : World) (h0s : 1 ≤ s) (h1s : s ≤ 1460) (h0g : s ≤ g) (h1g : g ≤ 1073741824) (h0c : s ≤ c) (h1c : c ≤ g) (h0t : s ≤ t) (h1t : t ≤ g) (h0q : 0 ≤ q) (h1q : q ≤ 1073741824) (h0a : 0 ≤ a) (hwrong : 1073741824 < a) :
    Calls Try.prog 12 #[.agg #[.int .i64 c, .int .i64 t], .int .i64 q, .int .i64 a, .int .i64 s, .int .i64 g] w fun e w' => e = .returned (.tuple #[.agg #[.int .i64 0, .int .i64 0], .int .i64 1]) ∧ Below w.heap.size w w' := by
  have bf0 : decide (a ≤ 1073741824) = false := decide_eq_false (by omega)
  clear hwrong
  have hu32 := Try.underlying32
  go_enter Try.func12, Try.ntmps12
  go_wp2
  refine bodyPost_ret (v := .tuple #[.agg #[.int .i64 0, .int .i64 0], .int .i64 1]) (by simp [results, Try.results12, go_sem]) rfl ⟨rfl, ?_⟩
  repeat (first | (with_reducible exact Below.refl _ _) | apply pw_below_drewN | apply below_drew1 | (with_reducible apply below_alloc) | (refine below_set ?_ (by simp)))
set_option maxHeartbeats 1600000 in
theorem leave (c t q a s g : Int) (w : World) (h0s : 1 ≤ s) (h1s : s ≤ 1460) (h0g : s ≤ g) (h1g : g ≤ 1073741824) (h0c : s ≤ c) (h1c : c ≤ g) (h0t : s ≤ t) (h1t : t ≤ g) (h0q : 0 ≤ q) (h1q : q ≤ 1073741824) (h0a : 0 ≤ a) (h1a : a ≤ 1073741824) (x1 : c < t) (x2 : a < q) :
    Calls Try.prog 12 #[.agg #[.int .i64 c, .int .i64 t], .int .i64 q, .int .i64 a, .int .i64 s, .int .i64 g] w fun e w' => e = .returned (.tuple #[.agg #[.int .i64 c, .int .i64 c], .int .i64 0]) ∧ Below w.heap.size w w' := by
  have bf0 : decide (c < t) = true := decide_eq_true (by omega)
  have bf1 : decide (a < q) = true := decide_eq_true (by omega)
  have hu32 := Try.underlying32
  go_enter Try.func12, Try.ntmps12
  go_wp2
  refine bodyPost_ret (v := .tuple #[.agg #[.int .i64 c, .int .i64 c], .int .i64 0]) (by simp [results, Try.results12, go_sem]) rfl ⟨rfl, ?_⟩
  repeat (first | (with_reducible exact Below.refl _ _) | apply pw_below_drewN | apply below_drew1 | (with_reducible apply below_alloc) | (refine below_set ?_ (by simp)))
set_option maxHeartbeats 1600000 in
theorem stay1 (c t q a s g : Int) (w : World) (h0s : 1 ≤ s) (h1s : s ≤ 1460) (h0g : s ≤ g) (h1g : g ≤ 1073741824) (h0c : s ≤ c) (h1c : c ≤ g) (h0t : s ≤ t) (h1t : t ≤ g) (h0q : 0 ≤ q) (h1q : q ≤ 1073741824) (h0a : 0 ≤ a) (h1a : a ≤ 1073741824) (x1 : c < t) (x2 : q ≤ a) :
    Calls Try.prog 12 #[.agg #[.int .i64 c, .int .i64 t], .int .i64 q, .int .i64 a, .int .i64 s, .int .i64 g] w fun e w' => e = .returned (.tuple #[.agg #[.int .i64 c, .int .i64 t], .int .i64 0]) ∧ Below w.heap.size w w' := by
  have bf0 : decide (c < t) = true := decide_eq_true (by omega)
  have bf1 : decide (a < q) = false := decide_eq_false (by omega)
  have hu32 := Try.underlying32
  go_enter Try.func12, Try.ntmps12
  go_wp2
  refine bodyPost_ret (v := .tuple #[.agg #[.int .i64 c, .int .i64 t], .int .i64 0]) (by simp [results, Try.results12, go_sem]) rfl ⟨rfl, ?_⟩
  repeat (first | (with_reducible exact Below.refl _ _) | apply pw_below_drewN | apply below_drew1 | (with_reducible apply below_alloc) | (refine below_set ?_ (by simp)))
set_option maxHeartbeats 1600000 in
theorem stay2 (c t q a s g : Int) (w : World) (h0s : 1 ≤ s) (h1s : s ≤ 1460) (h0g : s ≤ g) (h1g : g ≤ 1073741824) (h0c : s ≤ c) (h1c : c ≤ g) (h0t : s ≤ t) (h1t : t ≤ g) (h0q : 0 ≤ q) (h1q : q ≤ 1073741824) (h0a : 0 ≤ a) (h1a : a ≤ 1073741824) (x1 : t ≤ c) (x2 : q = a) :
    Calls Try.prog 12 #[.agg #[.int .i64 c, .int .i64 t], .int .i64 q, .int .i64 a, .int .i64 s, .int .i64 g] w fun e w' => e = .returned (.tuple #[.agg #[.int .i64 c, .int .i64 t], .int .i64 0]) ∧ Below w.heap.size w w' := by
  have bf0 : decide (c < t) = false := decide_eq_false (by omega)
  subst x2
  have hu32 := Try.underlying32
  go_enter Try.func12, Try.ntmps12
  go_wp2
  refine bodyPost_ret (v := .tuple #[.agg #[.int .i64 c, .int .i64 t], .int .i64 0]) (by simp [results, Try.results12, go_sem]) rfl ⟨rfl, ?_⟩
  repeat (first | (with_reducible exact Below.refl _ _) | apply pw_below_drewN | apply below_drew1 | (with_reducible apply below_alloc) | (refine below_set ?_ (by simp)))
set_option maxHeartbeats 1600000 in
theorem grow (c t q a s g : Int) (w : World) (h0s : 1 ≤ s) (h1s : s ≤ 1460) (h0g : s ≤ g) (h1g : g ≤ 1073741824) (h0c : s ≤ c) (h1c : c ≤ g) (h0t : s ≤ t) (h1t : t ≤ g) (h0q : 0 ≤ q) (h1q : q ≤ 1073741824) (h0a : 0 ≤ a) (h1a : a ≤ 1073741824) (x1 : t ≤ c) (x2 : q < a) :
    Calls Try.prog 12 #[.agg #[.int .i64 c, .int .i64 t], .int .i64 q, .int .i64 a, .int .i64 s, .int .i64 g] w fun e w' => e = .returned (.tuple #[.agg #[.int .i64 (mx s (mn (c + s) g)), .int .i64 t], .int .i64 0]) ∧ Below w.heap.size w w' := by
  have bf0 : decide (c < t) = false := decide_eq_false (by omega)
  have bf1 : (q == a) = false := beq_eq_false_iff_ne.mpr (by omega)
  have hu32 := Try.underlying32
  go_enter Try.func12, Try.ntmps12
  go_wp2
  all_goals first
    | (refine bodyPost_ret (v := .tuple #[.agg #[.int .i64 g, .int .i64 t], .int .i64 0]) ?_ rfl ⟨?_, ?_⟩; (focus simp [results, Try.results12, go_sem]); (focus (refine congrArg (fun z => Ending.returned (.tuple #[.agg #[.int .i64 z, .int .i64 t], .int .i64 0])) (?_ : g = mx s (mn (c + s) g)); unfold mx mn; (repeat' split) <;> omega)))
    | (refine bodyPost_ret (v := .tuple #[.agg #[.int .i64 (c + s), .int .i64 t], .int .i64 0]) ?_ rfl ⟨?_, ?_⟩; (focus simp [results, Try.results12, go_sem]); (focus (refine congrArg (fun z => Ending.returned (.tuple #[.agg #[.int .i64 z, .int .i64 t], .int .i64 0])) (?_ : c + s = mx s (mn (c + s) g)); unfold mx mn; (repeat' split) <;> omega)))
    | (refine bodyPost_ret (v := .tuple #[.agg #[.int .i64 s, .int .i64 t], .int .i64 0]) ?_ rfl ⟨?_, ?_⟩; (focus simp [results, Try.results12, go_sem]); (focus (refine congrArg (fun z => Ending.returned (.tuple #[.agg #[.int .i64 z, .int .i64 t], .int .i64 0])) (?_ : s = mx s (mn (c + s) g)); unfold mx mn; (repeat' split) <;> omega)))
  all_goals repeat (first | (with_reducible exact Below.refl _ _) | apply pw_below_drewN | apply below_drew1 | (with_reducible apply below_alloc) | (refine below_set ?_ (by simp)))
set_option maxHeartbeats 1600000 in
theorem shrink (c t q a s g : Int) (w : World) (h0s : 1 ≤ s) (h1s : s ≤ 1460) (h0g : s ≤ g) (h1g : g ≤ 1073741824) (h0c : s ≤ c) (h1c : c ≤ g) (h0t : s ≤ t) (h1t : t ≤ g) (h0q : 0 ≤ q) (h1q : q ≤ 1073741824) (h0a : 0 ≤ a) (h1a : a ≤ 1073741824) (x1 : t ≤ c) (x2 : a < q) :
    Calls Try.prog 12 #[.agg #[.int .i64 c, .int .i64 t], .int .i64 q, .int .i64 a, .int .i64 s, .int .i64 g] w fun e w' => e = .returned (.tuple #[.agg #[.int .i64 (mx s (mn (c - s) g)), .int .i64 t], .int .i64 0]) ∧ Below w.heap.size w w' := by
  have bf0 : decide (c < t) = false := decide_eq_false (by omega)
  have bf1 : (q == a) = false := beq_eq_false_iff_ne.mpr (by omega)
  have bf2 : decide (q < a) = false := decide_eq_false (by omega)
  have hu32 := Try.underlying32
  go_enter Try.func12, Try.ntmps12
  go_wp2
  all_goals first
    | (refine bodyPost_ret (v := .tuple #[.agg #[.int .i64 g, .int .i64 t], .int .i64 0]) ?_ rfl ⟨?_, ?_⟩; (focus simp [results, Try.results12, go_sem]); (focus (refine congrArg (fun z => Ending.returned (.tuple #[.agg #[.int .i64 z, .int .i64 t], .int .i64 0])) (?_ : g = mx s (mn (c - s) g)); unfold mx mn; (repeat' split) <;> omega)))
    | (refine bodyPost_ret (v := .tuple #[.agg #[.int .i64 (c - s), .int .i64 t], .int .i64 0]) ?_ rfl ⟨?_, ?_⟩; (focus simp [results, Try.results12, go_sem]); (focus (refine congrArg (fun z => Ending.returned (.tuple #[.agg #[.int .i64 z, .int .i64 t], .int .i64 0])) (?_ : c - s = mx s (mn (c - s) g)); unfold mx mn; (repeat' split) <;> omega)))
    | (refine bodyPost_ret (v := .tuple #[.agg #[.int .i64 s, .int .i64 t], .int .i64 0]) ?_ rfl ⟨?_, ?_⟩; (focus simp [results, Try.results12, go_sem]); (focus (refine congrArg (fun z => Ending.returned (.tuple #[.agg #[.int .i64 z, .int .i64 t], .int .i64 0])) (?_ : s = mx s (mn (c - s) g)); unfold mx mn; (repeat' split) <;> omega)))
  all_goals repeat (first | (with_reducible exact Below.refl _ _) | apply pw_below_drewN | apply below_drew1 | (with_reducible apply below_alloc) | (refine below_set ?_ (by simp)))
/-! ### what vegas.Round tells -/
def RoundFine (c t q a s g : Int) : Prop := (1 ≤ s ∧ s ≤ 1460) ∧ (s ≤ g ∧ g ≤ 1073741824) ∧ (s ≤ c ∧ c ≤ g) ∧ (s ≤ t ∧ t ≤ g) ∧ (0 ≤ q ∧ q ≤ 1073741824) ∧ (0 ≤ a ∧ a ≤ 1073741824)
instance (c t q a s g : Int) : Decidable (RoundFine c t q a s g) := inferInstanceAs (Decidable (_ ∧ _))
def vegas_Round.f (c t q a s g : Int) : Option (Int × Int × Int) :=
  if RoundFine c t q a s g then
    if c < t then (if a < q then some (c, c, 0) else some (c, t, 0))
    else if q = a then some (c, t, 0)
    else if q < a then some (mx s (mn (c + s) g), t, 0)
    else some (mx s (mn (c - s) g), t, 0)
  else some (0, 0, 1)
theorem vegas_Round.calls (c t q a s g r1 r2 r3 : Int) (w : World) (h : vegas_Round.f c t q a s g = some (r1, r2, r3)) :
    Calls Try.prog 12 #[.agg #[.int .i64 c, .int .i64 t], .int .i64 q, .int .i64 a, .int .i64 s, .int .i64 g] w fun e w' => e = .returned (.tuple #[.agg #[.int .i64 r1, .int .i64 r2], .int .i64 r3]) ∧ Below w.heap.size w w' := by
  unfold vegas_Round.f at h
  split at h
  · rename_i hf
    obtain ⟨⟨y1, y2⟩, ⟨y3, y4⟩, ⟨y5, y6⟩, ⟨y7, y8⟩, ⟨y9, y10⟩, y11, y12⟩ := hf
    repeat' split at h
    all_goals
      simp only [Option.some.injEq, Prod.mk.injEq] at h
      obtain ⟨rfl, rfl, rfl⟩ := h
    · exact leave c t q a s g w y1 y2 y3 y4 y5 y6 y7 y8 y9 y10 y11 y12 (by omega) (by omega)
    · exact stay1 c t q a s g w y1 y2 y3 y4 y5 y6 y7 y8 y9 y10 y11 y12 (by omega) (by omega)
    · exact stay2 c t q a s g w y1 y2 y3 y4 y5 y6 y7 y8 y9 y10 y11 y12 (by omega) (by omega)
    · exact grow c t q a s g w y1 y2 y3 y4 y5 y6 y7 y8 y9 y10 y11 y12 (by omega) (by omega)
    · exact shrink c t q a s g w y1 y2 y3 y4 y5 y6 y7 y8 y9 y10 y11 y12 (by omega) (by omega)
  · rename_i hf
    simp only [Option.some.injEq, Prod.mk.injEq] at h
    obtain ⟨rfl, rfl, rfl⟩ := h
    by_cases y0s : s < 1
    · exact wrong_lo_s c t q a s g w  y0s
    by_cases y1s : 1460 < s
    · exact wrong_hi_s c t q a s g w  (by omega) y1s
    by_cases y0g : g < s
    · exact wrong_lo_g c t q a s g w (by omega) (by omega) y0g
    by_cases y1g : 1073741824 < g
    · exact wrong_hi_g c t q a s g w (by omega) (by omega) (by omega) y1g
    by_cases y0c : c < s
    · exact wrong_lo_c c t q a s g w (by omega) (by omega) (by omega) (by omega) y0c
    by_cases y1c : g < c
    · exact wrong_hi_c c t q a s g w (by omega) (by omega) (by omega) (by omega) (by omega) y1c
    by_cases y0t : t < s
    · exact wrong_lo_t c t q a s g w (by omega) (by omega) (by omega) (by omega) (by omega) (by omega) y0t
    by_cases y1t : g < t
    · exact wrong_hi_t c t q a s g w (by omega) (by omega) (by omega) (by omega) (by omega) (by omega) (by omega) y1t
    by_cases y0q : q < 0
    · exact wrong_lo_q c t q a s g w (by omega) (by omega) (by omega) (by omega) (by omega) (by omega) (by omega) (by omega) y0q
    by_cases y1q : 1073741824 < q
    · exact wrong_hi_q c t q a s g w (by omega) (by omega) (by omega) (by omega) (by omega) (by omega) (by omega) (by omega) (by omega) y1q
    by_cases y0a : a < 0
    · exact wrong_lo_a c t q a s g w (by omega) (by omega) (by omega) (by omega) (by omega) (by omega) (by omega) (by omega) (by omega) (by omega) y0a
    by_cases y1a : 1073741824 < a
    · exact wrong_hi_a c t q a s g w (by omega) (by omega) (by omega) (by omega) (by omega) (by omega) (by omega) (by omega) (by omega) (by omega) (by omega) y1a
    exact absurd ⟨⟨by omega, by omega⟩, ⟨by omega, by omega⟩, ⟨by omega, by omega⟩, ⟨by omega, by omega⟩, ⟨by omega, by omega⟩, by omega, by omega⟩ hf
end Go.Proofs.Ytjmblmomeijddaa.Hand

