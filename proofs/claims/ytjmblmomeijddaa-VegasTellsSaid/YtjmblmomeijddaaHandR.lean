/- The walk of the document's Round of layer 16: it tells what vegas.Round tells, for every input. (Written by a program of this session.) -/
import Derived.Test.YtjmblmomeijddaaHand
namespace Go.Proofs.Ytjmblmomeijddaa.Hand
open Go.RowKit Go.Proofs.YtjmblmomeijddaaW.PrintWords Go.Proofs.YtjmblmomeijddaaW.PrintLast Go.Proofs.YtjmblmomeijddaaW.PrintMore
attribute [local go_sem] max2_int min2_int max_two min_two max_three min_three max_four min_four
set_option linter.unusedVariables false
set_option linter.unusedSimpArgs false
set_option maxHeartbeats 1600000 in
theorem rwrong_lo_s (c t q a s g : Int) (w : World) (hwrong : s < 1) :
    Calls Try.prog 13 #[.agg #[.int .i64 c, .int .i64 t], .int .i64 q, .int .i64 a, .int .i64 s, .int .i64 g] w fun e w' => e = .returned (.tuple #[.agg #[.int .i64 0, .int .i64 0], .int .i64 1]) ∧ Below w.heap.size w w' := by
  have bf0 : decide (1 ≤ s) = false := decide_eq_false (by omega)
  clear hwrong
  have hu32 := Try.underlying32
  go_enter Try.func13, Try.ntmps13
  go_wp2
  refine bodyPost_ret (v := .tuple #[.agg #[.int .i64 0, .int .i64 0], .int .i64 1]) (by simp [results, Try.results13, go_sem]) rfl ⟨rfl, ?_⟩
  repeat (first | (with_reducible exact Below.refl _ _) | apply pw_below_drewN | apply below_drew1 | (with_reducible apply below_alloc) | (refine below_set ?_ (by simp)))
set_option maxHeartbeats 1600000 in
theorem rwrong_hi_s (c t q a s g : Int) (w : World) (h0s : 1 ≤ s) (hwrong : 1460 < s) :
    Calls Try.prog 13 #[.agg #[.int .i64 c, .int .i64 t], .int .i64 q, .int .i64 a, .int .i64 s, .int .i64 g] w fun e w' => e = .returned (.tuple #[.agg #[.int .i64 0, .int .i64 0], .int .i64 1]) ∧ Below w.heap.size w w' := by
  have bf0 : decide (s ≤ 1460) = false := decide_eq_false (by omega)
  clear hwrong
  have hu32 := Try.underlying32
  go_enter Try.func13, Try.ntmps13
  go_wp2
  refine bodyPost_ret (v := .tuple #[.agg #[.int .i64 0, .int .i64 0], .int .i64 1]) (by simp [results, Try.results13, go_sem]) rfl ⟨rfl, ?_⟩
  repeat (first | (with_reducible exact Below.refl _ _) | apply pw_below_drewN | apply below_drew1 | (with_reducible apply below_alloc) | (refine below_set ?_ (by simp)))
set_option maxHeartbeats 1600000 in
theorem rwrong_lo_g (c t q a s g : Int) (w : World) (h0s : 1 ≤ s) (h1s : s ≤ 1460) (hwrong : g < s) :
    Calls Try.prog 13 #[.agg #[.int .i64 c, .int .i64 t], .int .i64 q, .int .i64 a, .int .i64 s, .int .i64 g] w fun e w' => e = .returned (.tuple #[.agg #[.int .i64 0, .int .i64 0], .int .i64 1]) ∧ Below w.heap.size w w' := by
  have bf0 : decide (s ≤ g) = false := decide_eq_false (by omega)
  clear hwrong
  have hu32 := Try.underlying32
  go_enter Try.func13, Try.ntmps13
  go_wp2
  refine bodyPost_ret (v := .tuple #[.agg #[.int .i64 0, .int .i64 0], .int .i64 1]) (by simp [results, Try.results13, go_sem]) rfl ⟨rfl, ?_⟩
  repeat (first | (with_reducible exact Below.refl _ _) | apply pw_below_drewN | apply below_drew1 | (with_reducible apply below_alloc) | (refine below_set ?_ (by simp)))
set_option maxHeartbeats 1600000 in
theorem rwrong_hi_g (c t q a s g : Int) (w : World) (h0s : 1 ≤ s) (h1s : s ≤ 1460) (h0g : s ≤ g) (hwrong : 1073741824 < g) :
    Calls Try.prog 13 #[.agg #[.int .i64 c, .int .i64 t], .int .i64 q, .int .i64 a, .int .i64 s, .int .i64 g] w fun e w' => e = .returned (.tuple #[.agg #[.int .i64 0, .int .i64 0], .int .i64 1]) ∧ Below w.heap.size w w' := by
  have bf0 : decide (g ≤ 1073741824) = false := decide_eq_false (by omega)
  clear hwrong
  have hu32 := Try.underlying32
  go_enter Try.func13, Try.ntmps13
  go_wp2
  refine bodyPost_ret (v := .tuple #[.agg #[.int .i64 0, .int .i64 0], .int .i64 1]) (by simp [results, Try.results13, go_sem]) rfl ⟨rfl, ?_⟩
  repeat (first | (with_reducible exact Below.refl _ _) | apply pw_below_drewN | apply below_drew1 | (with_reducible apply below_alloc) | (refine below_set ?_ (by simp)))
set_option maxHeartbeats 1600000 in
theorem rwrong_lo_c (c t q a s g : Int) (w : World) (h0s : 1 ≤ s) (h1s : s ≤ 1460) (h0g : s ≤ g) (h1g : g ≤ 1073741824) (hwrong : c < s) :
    Calls Try.prog 13 #[.agg #[.int .i64 c, .int .i64 t], .int .i64 q, .int .i64 a, .int .i64 s, .int .i64 g] w fun e w' => e = .returned (.tuple #[.agg #[.int .i64 0, .int .i64 0], .int .i64 1]) ∧ Below w.heap.size w w' := by
  have bf0 : decide (s ≤ c) = false := decide_eq_false (by omega)
  clear hwrong
  have hu32 := Try.underlying32
  go_enter Try.func13, Try.ntmps13
  go_wp2
  refine bodyPost_ret (v := .tuple #[.agg #[.int .i64 0, .int .i64 0], .int .i64 1]) (by simp [results, Try.results13, go_sem]) rfl ⟨rfl, ?_⟩
  repeat (first | (with_reducible exact Below.refl _ _) | apply pw_below_drewN | apply below_drew1 | (with_reducible apply below_alloc) | (refine below_set ?_ (by simp)))
set_option maxHeartbeats 1600000 in
theorem rwrong_hi_c (c t q a s g : Int) (w : World) (h0s : 1 ≤ s) (h1s : s ≤ 1460) (h0g : s ≤ g) (h1g : g ≤ 1073741824) (h0c : s ≤ c) (hwrong : g < c) :
    Calls Try.prog 13 #[.agg #[.int .i64 c, .int .i64 t], .int .i64 q, .int .i64 a, .int .i64 s, .int .i64 g] w fun e w' => e = .returned (.tuple #[.agg #[.int .i64 0, .int .i64 0], .int .i64 1]) ∧ Below w.heap.size w w' := by
  have bf0 : decide (c ≤ g) = false := decide_eq_false (by omega)
  clear hwrong
  have hu32 := Try.underlying32
  go_enter Try.func13, Try.ntmps13
  go_wp2
  refine bodyPost_ret (v := .tuple #[.agg #[.int .i64 0, .int .i64 0], .int .i64 1]) (by simp [results, Try.results13, go_sem]) rfl ⟨rfl, ?_⟩
  repeat (first | (with_reducible exact Below.refl _ _) | apply pw_below_drewN | apply below_drew1 | (with_reducible apply below_alloc) | (refine below_set ?_ (by simp)))
set_option maxHeartbeats 1600000 in
theorem rwrong_lo_t (c t q a s g : Int) (w : World) (h0s : 1 ≤ s) (h1s : s ≤ 1460) (h0g : s ≤ g) (h1g : g ≤ 1073741824) (h0c : s ≤ c) (h1c : c ≤ g) (hwrong : t < s) :
    Calls Try.prog 13 #[.agg #[.int .i64 c, .int .i64 t], .int .i64 q, .int .i64 a, .int .i64 s, .int .i64 g] w fun e w' => e = .returned (.tuple #[.agg #[.int .i64 0, .int .i64 0], .int .i64 1]) ∧ Below w.heap.size w w' := by
  have bf0 : decide (s ≤ t) = false := decide_eq_false (by omega)
  clear hwrong
  have hu32 := Try.underlying32
  go_enter Try.func13, Try.ntmps13
  go_wp2
  refine bodyPost_ret (v := .tuple #[.agg #[.int .i64 0, .int .i64 0], .int .i64 1]) (by simp [results, Try.results13, go_sem]) rfl ⟨rfl, ?_⟩
  repeat (first | (with_reducible exact Below.refl _ _) | apply pw_below_drewN | apply below_drew1 | (with_reducible apply below_alloc) | (refine below_set ?_ (by simp)))
set_option maxHeartbeats 1600000 in
theorem rwrong_hi_t (c t q a s g : Int) (w : World) (h0s : 1 ≤ s) (h1s : s ≤ 1460) (h0g : s ≤ g) (h1g : g ≤ 1073741824) (h0c : s ≤ c) (h1c : c ≤ g) (h0t : s ≤ t) (hwrong : g < t) :
    Calls Try.prog 13 #[.agg #[.int .i64 c, .int .i64 t], .int .i64 q, .int .i64 a, .int .i64 s, .int .i64 g] w fun e w' => e = .returned (.tuple #[.agg #[.int .i64 0, .int .i64 0], .int .i64 1]) ∧ Below w.heap.size w w' := by
  have bf0 : decide (t ≤ g) = false := decide_eq_false (by omega)
  clear hwrong
  have hu32 := Try.underlying32
  go_enter Try.func13, Try.ntmps13
  go_wp2
  refine bodyPost_ret (v := .tuple #[.agg #[.int .i64 0, .int .i64 0], .int .i64 1]) (by simp [results, Try.results13, go_sem]) rfl ⟨rfl, ?_⟩
  repeat (first | (with_reducible exact Below.refl _ _) | apply pw_below_drewN | apply below_drew1 | (with_reducible apply below_alloc) | (refine below_set ?_ (by simp)))
set_option maxHeartbeats 1600000 in
theorem rwrong_lo_q (c t q a s g : Int) (w : World) (h0s : 1 ≤ s) (h1s : s ≤ 1460) (h0g : s ≤ g) (h1g : g ≤ 1073741824) (h0c : s ≤ c) (h1c : c ≤ g) (h0t : s ≤ t) (h1t : t ≤ g) (hwrong : q < 0) :
    Calls Try.prog 13 #[.agg #[.int .i64 c, .int .i64 t], .int .i64 q, .int .i64 a, .int .i64 s, .int .i64 g] w fun e w' => e = .returned (.tuple #[.agg #[.int .i64 0, .int .i64 0], .int .i64 1]) ∧ Below w.heap.size w w' := by
  have hu32 := Try.underlying32
  go_enter Try.func13, Try.ntmps13
  go_wp2
  refine bodyPost_ret (v := .tuple #[.agg #[.int .i64 0, .int .i64 0], .int .i64 1]) (by simp [results, Try.results13, go_sem]) rfl ⟨rfl, ?_⟩
  repeat (first | (with_reducible exact Below.refl _ _) | apply pw_below_drewN | apply below_drew1 | (with_reducible apply below_alloc) | (refine below_set ?_ (by simp)))
set_option maxHeartbeats 1600000 in
theorem rwrong_hi_q (c t q a s g : Int) (w : World) (h0s : 1 ≤ s) (h1s : s ≤ 1460) (h0g : s ≤ g) (h1g : g ≤ 1073741824) (h0c : s ≤ c) (h1c : c ≤ g) (h0t : s ≤ t) (h1t : t ≤ g) (h0q : 0 ≤ q) (hwrong : 1073741824 < q) :
    Calls Try.prog 13 #[.agg #[.int .i64 c, .int .i64 t], .int .i64 q, .int .i64 a, .int .i64 s, .int .i64 g] w fun e w' => e = .returned (.tuple #[.agg #[.int .i64 0, .int .i64 0], .int .i64 1]) ∧ Below w.heap.size w w' := by
  have hu32 := Try.underlying32
  go_enter Try.func13, Try.ntmps13
  go_wp2
  refine bodyPost_ret (v := .tuple #[.agg #[.int .i64 0, .int .i64 0], .int .i64 1]) (by simp [results, Try.results13, go_sem]) rfl ⟨rfl, ?_⟩
  repeat (first | (with_reducible exact Below.refl _ _) | apply pw_below_drewN | apply below_drew1 | (with_reducible apply below_alloc) | (refine below_set ?_ (by simp)))
set_option maxHeartbeats 1600000 in
theorem rwrong_lo_a (c t q a s g : Int) (w : World) (h0s : 1 ≤ s) (h1s : s ≤ 1460) (h0g : s ≤ g) (h1g : g ≤ 1073741824) (h0c : s ≤ c) (h1c : c ≤ g) (h0t : s ≤ t) (h1t : t ≤ g) (h0q : 0 ≤ q) (h1q : q ≤ 1073741824) (hwrong : a < 0) :
    Calls Try.prog 13 #[.agg #[.int .i64 c, .int .i64 t], .int .i64 q, .int .i64 a, .int .i64 s, .int .i64 g] w fun e w' => e = .returned (.tuple #[.agg #[.int .i64 0, .int .i64 0], .int .i64 1]) ∧ Below w.heap.size w w' := by
  have hu32 := Try.underlying32
  go_enter Try.func13, Try.ntmps13
  go_wp2
  refine bodyPost_ret (v := .tuple #[.agg #[.int .i64 0, .int .i64 0], .int .i64 1]) (by simp [results, Try.results13, go_sem]) rfl ⟨rfl, ?_⟩
  repeat (first | (with_reducible exact Below.refl _ _) | apply pw_below_drewN | apply below_drew1 | (with_reducible apply below_alloc) | (refine below_set ?_ (by simp)))
set_option maxHeartbeats 1600000 in
theorem rwrong_hi_a (c t q a s g : Int) (w : World) (h0s : 1 ≤ s) (h1s : s ≤ 1460) (h0g : s ≤ g) (h1g : g ≤ 1073741824) (h0c : s ≤ c) (h1c : c ≤ g) (h0t : s ≤ t) (h1t : t ≤ g) (h0q : 0 ≤ q) (h1q : q ≤ 1073741824) (h0a : 0 ≤ a) (hwrong : 1073741824 < a) :
    Calls Try.prog 13 #[.agg #[.int .i64 c, .int .i64 t], .int .i64 q, .int .i64 a, .int .i64 s, .int .i64 g] w fun e w' => e = .returned (.tuple #[.agg #[.int .i64 0, .int .i64 0], .int .i64 1]) ∧ Below w.heap.size w w' := by
  have hu32 := Try.underlying32
  go_enter Try.func13, Try.ntmps13
  go_wp2
  refine bodyPost_ret (v := .tuple #[.agg #[.int .i64 0, .int .i64 0], .int .i64 1]) (by simp [results, Try.results13, go_sem]) rfl ⟨rfl, ?_⟩
  repeat (first | (with_reducible exact Below.refl _ _) | apply pw_below_drewN | apply below_drew1 | (with_reducible apply below_alloc) | (refine below_set ?_ (by simp)))
set_option maxHeartbeats 1600000 in
theorem rleave (c t q a s g : Int) (w : World) (h0s : 1 ≤ s) (h1s : s ≤ 1460) (h0g : s ≤ g) (h1g : g ≤ 1073741824) (h0c : s ≤ c) (h1c : c ≤ g) (h0t : s ≤ t) (h1t : t ≤ g) (h0q : 0 ≤ q) (h1q : q ≤ 1073741824) (h0a : 0 ≤ a) (h1a : a ≤ 1073741824) (x1 : c < t) (x2 : a < q) :
    Calls Try.prog 13 #[.agg #[.int .i64 c, .int .i64 t], .int .i64 q, .int .i64 a, .int .i64 s, .int .i64 g] w fun e w' => e = .returned (.tuple #[.agg #[.int .i64 c, .int .i64 c], .int .i64 0]) ∧ Below w.heap.size w w' := by
  have bf0 : decide (c < t) = true := decide_eq_true (by omega)
  have hu32 := Try.underlying32
  go_enter Try.func13, Try.ntmps13
  go_wp2
  refine bodyPost_ret (v := .tuple #[.agg #[.int .i64 c, .int .i64 c], .int .i64 0]) (by simp [results, Try.results13, go_sem]) rfl ⟨rfl, ?_⟩
  repeat (first | (with_reducible exact Below.refl _ _) | apply pw_below_drewN | apply below_drew1 | (with_reducible apply below_alloc) | (refine below_set ?_ (by simp)))
set_option maxHeartbeats 1600000 in
theorem rstay1 (c t q a s g : Int) (w : World) (h0s : 1 ≤ s) (h1s : s ≤ 1460) (h0g : s ≤ g) (h1g : g ≤ 1073741824) (h0c : s ≤ c) (h1c : c ≤ g) (h0t : s ≤ t) (h1t : t ≤ g) (h0q : 0 ≤ q) (h1q : q ≤ 1073741824) (h0a : 0 ≤ a) (h1a : a ≤ 1073741824) (x1 : c < t) (x2 : q ≤ a) :
    Calls Try.prog 13 #[.agg #[.int .i64 c, .int .i64 t], .int .i64 q, .int .i64 a, .int .i64 s, .int .i64 g] w fun e w' => e = .returned (.tuple #[.agg #[.int .i64 c, .int .i64 t], .int .i64 0]) ∧ Below w.heap.size w w' := by
  have bf0 : decide (c < t) = true := decide_eq_true (by omega)
  have hu32 := Try.underlying32
  go_enter Try.func13, Try.ntmps13
  go_wp2
  refine bodyPost_ret (v := .tuple #[.agg #[.int .i64 c, .int .i64 t], .int .i64 0]) (by simp [results, Try.results13, go_sem]) rfl ⟨rfl, ?_⟩
  repeat (first | (with_reducible exact Below.refl _ _) | apply pw_below_drewN | apply below_drew1 | (with_reducible apply below_alloc) | (refine below_set ?_ (by simp)))
set_option maxHeartbeats 1600000 in
theorem rstay2 (c t q a s g : Int) (w : World) (h0s : 1 ≤ s) (h1s : s ≤ 1460) (h0g : s ≤ g) (h1g : g ≤ 1073741824) (h0c : s ≤ c) (h1c : c ≤ g) (h0t : s ≤ t) (h1t : t ≤ g) (h0q : 0 ≤ q) (h1q : q ≤ 1073741824) (h0a : 0 ≤ a) (h1a : a ≤ 1073741824) (x1 : t ≤ c) (x2 : q = a) :
    Calls Try.prog 13 #[.agg #[.int .i64 c, .int .i64 t], .int .i64 q, .int .i64 a, .int .i64 s, .int .i64 g] w fun e w' => e = .returned (.tuple #[.agg #[.int .i64 c, .int .i64 t], .int .i64 0]) ∧ Below w.heap.size w w' := by
  have bf0 : decide (c < t) = false := decide_eq_false (by omega)
  subst x2
  have hu32 := Try.underlying32
  go_enter Try.func13, Try.ntmps13
  go_wp2
  refine bodyPost_ret (v := .tuple #[.agg #[.int .i64 c, .int .i64 t], .int .i64 0]) (by simp [results, Try.results13, go_sem]) rfl ⟨rfl, ?_⟩
  repeat (first | (with_reducible exact Below.refl _ _) | apply pw_below_drewN | apply below_drew1 | (with_reducible apply below_alloc) | (refine below_set ?_ (by simp)))
set_option maxHeartbeats 1600000 in
theorem rgrow1 (c t q a s g : Int) (w : World) (h0s : 1 ≤ s) (h1s : s ≤ 1460) (h0g : s ≤ g) (h1g : g ≤ 1073741824) (h0c : s ≤ c) (h1c : c ≤ g) (h0t : s ≤ t) (h1t : t ≤ g) (h0q : 0 ≤ q) (h1q : q ≤ 1073741824) (h0a : 0 ≤ a) (h1a : a ≤ 1073741824) (x1 : t ≤ c) (x2 : q < a) (x3 : c + s ≤ g) :
    Calls Try.prog 13 #[.agg #[.int .i64 c, .int .i64 t], .int .i64 q, .int .i64 a, .int .i64 s, .int .i64 g] w fun e w' => e = .returned (.tuple #[.agg #[.int .i64 (c + s), .int .i64 t], .int .i64 0]) ∧ Below w.heap.size w w' := by
  have bf0 : decide (c < t) = false := decide_eq_false (by omega)
  have hu32 := Try.underlying32
  go_enter Try.func13, Try.ntmps13
  go_wp2
  refine bodyPost_ret (v := .tuple #[.agg #[.int .i64 (c + s), .int .i64 t], .int .i64 0]) (by simp [results, Try.results13, go_sem]) rfl ⟨rfl, ?_⟩
  repeat (first | (with_reducible exact Below.refl _ _) | apply pw_below_drewN | apply below_drew1 | (with_reducible apply below_alloc) | (refine below_set ?_ (by simp)))
set_option maxHeartbeats 1600000 in
theorem rgrow2 (c t q a s g : Int) (w : World) (h0s : 1 ≤ s) (h1s : s ≤ 1460) (h0g : s ≤ g) (h1g : g ≤ 1073741824) (h0c : s ≤ c) (h1c : c ≤ g) (h0t : s ≤ t) (h1t : t ≤ g) (h0q : 0 ≤ q) (h1q : q ≤ 1073741824) (h0a : 0 ≤ a) (h1a : a ≤ 1073741824) (x1 : t ≤ c) (x2 : q < a) (x3 : g < c + s) :
    Calls Try.prog 13 #[.agg #[.int .i64 c, .int .i64 t], .int .i64 q, .int .i64 a, .int .i64 s, .int .i64 g] w fun e w' => e = .returned (.tuple #[.agg #[.int .i64 g, .int .i64 t], .int .i64 0]) ∧ Below w.heap.size w w' := by
  have bf0 : decide (c < t) = false := decide_eq_false (by omega)
  have hu32 := Try.underlying32
  go_enter Try.func13, Try.ntmps13
  go_wp2
  refine bodyPost_ret (v := .tuple #[.agg #[.int .i64 g, .int .i64 t], .int .i64 0]) (by simp [results, Try.results13, go_sem]) rfl ⟨rfl, ?_⟩
  repeat (first | (with_reducible exact Below.refl _ _) | apply pw_below_drewN | apply below_drew1 | (with_reducible apply below_alloc) | (refine below_set ?_ (by simp)))
set_option maxHeartbeats 1600000 in
theorem rshrink1 (c t q a s g : Int) (w : World) (h0s : 1 ≤ s) (h1s : s ≤ 1460) (h0g : s ≤ g) (h1g : g ≤ 1073741824) (h0c : s ≤ c) (h1c : c ≤ g) (h0t : s ≤ t) (h1t : t ≤ g) (h0q : 0 ≤ q) (h1q : q ≤ 1073741824) (h0a : 0 ≤ a) (h1a : a ≤ 1073741824) (x1 : t ≤ c) (x2 : a < q) (x3 : s ≤ c - s) :
    Calls Try.prog 13 #[.agg #[.int .i64 c, .int .i64 t], .int .i64 q, .int .i64 a, .int .i64 s, .int .i64 g] w fun e w' => e = .returned (.tuple #[.agg #[.int .i64 (c - s), .int .i64 t], .int .i64 0]) ∧ Below w.heap.size w w' := by
  have bf0 : decide (c < t) = false := decide_eq_false (by omega)
  have hu32 := Try.underlying32
  go_enter Try.func13, Try.ntmps13
  go_wp2
  refine bodyPost_ret (v := .tuple #[.agg #[.int .i64 (c - s), .int .i64 t], .int .i64 0]) (by simp [results, Try.results13, go_sem]) rfl ⟨rfl, ?_⟩
  repeat (first | (with_reducible exact Below.refl _ _) | apply pw_below_drewN | apply below_drew1 | (with_reducible apply below_alloc) | (refine below_set ?_ (by simp)))
set_option maxHeartbeats 1600000 in
theorem rshrink2 (c t q a s g : Int) (w : World) (h0s : 1 ≤ s) (h1s : s ≤ 1460) (h0g : s ≤ g) (h1g : g ≤ 1073741824) (h0c : s ≤ c) (h1c : c ≤ g) (h0t : s ≤ t) (h1t : t ≤ g) (h0q : 0 ≤ q) (h1q : q ≤ 1073741824) (h0a : 0 ≤ a) (h1a : a ≤ 1073741824) (x1 : t ≤ c) (x2 : a < q) (x3 : c - s < s) :
    Calls Try.prog 13 #[.agg #[.int .i64 c, .int .i64 t], .int .i64 q, .int .i64 a, .int .i64 s, .int .i64 g] w fun e w' => e = .returned (.tuple #[.agg #[.int .i64 s, .int .i64 t], .int .i64 0]) ∧ Below w.heap.size w w' := by
  have bf0 : decide (c < t) = false := decide_eq_false (by omega)
  have hu32 := Try.underlying32
  go_enter Try.func13, Try.ntmps13
  go_wp2
  refine bodyPost_ret (v := .tuple #[.agg #[.int .i64 s, .int .i64 t], .int .i64 0]) (by simp [results, Try.results13, go_sem]) rfl ⟨rfl, ?_⟩
  repeat (first | (with_reducible exact Below.refl _ _) | apply pw_below_drewN | apply below_drew1 | (with_reducible apply below_alloc) | (refine below_set ?_ (by simp)))
theorem ref_Round.calls (c t q a s g r1 r2 r3 : Int) (w : World) (h : vegas_Round.f c t q a s g = some (r1, r2, r3)) :
    Calls Try.prog 13 #[.agg #[.int .i64 c, .int .i64 t], .int .i64 q, .int .i64 a, .int .i64 s, .int .i64 g] w fun e w' => e = .returned (.tuple #[.agg #[.int .i64 r1, .int .i64 r2], .int .i64 r3]) ∧ Below w.heap.size w w' := by
  unfold vegas_Round.f at h
  split at h
  · rename_i hf
    obtain ⟨⟨y1, y2⟩, ⟨y3, y4⟩, ⟨y5, y6⟩, ⟨y7, y8⟩, ⟨y9, y10⟩, y11, y12⟩ := hf
    repeat' split at h
    all_goals
      simp only [Option.some.injEq, Prod.mk.injEq] at h
      obtain ⟨rfl, rfl, rfl⟩ := h
    · exact rleave c t q a s g w y1 y2 y3 y4 y5 y6 y7 y8 y9 y10 y11 y12 (by omega) (by omega)
    · exact rstay1 c t q a s g w y1 y2 y3 y4 y5 y6 y7 y8 y9 y10 y11 y12 (by omega) (by omega)
    · exact rstay2 c t q a s g w y1 y2 y3 y4 y5 y6 y7 y8 y9 y10 y11 y12 (by omega) (by omega)
    · by_cases hx : c + s ≤ g
      · have e : mx s (mn (c + s) g) = c + s := by unfold mx mn; (repeat' split) <;> omega
        rw [e]; exact rgrow1 c t q a s g w y1 y2 y3 y4 y5 y6 y7 y8 y9 y10 y11 y12 (by omega) (by omega) (by omega)
      · have e : mx s (mn (c + s) g) = g := by unfold mx mn; (repeat' split) <;> omega
        rw [e]; exact rgrow2 c t q a s g w y1 y2 y3 y4 y5 y6 y7 y8 y9 y10 y11 y12 (by omega) (by omega) (by omega)
    · by_cases hx : s ≤ c - s
      · have e : mx s (mn (c - s) g) = c - s := by unfold mx mn; (repeat' split) <;> omega
        rw [e]; exact rshrink1 c t q a s g w y1 y2 y3 y4 y5 y6 y7 y8 y9 y10 y11 y12 (by omega) (by omega) (by omega)
      · have e : mx s (mn (c - s) g) = s := by unfold mx mn; (repeat' split) <;> omega
        rw [e]; exact rshrink2 c t q a s g w y1 y2 y3 y4 y5 y6 y7 y8 y9 y10 y11 y12 (by omega) (by omega) (by omega)
  · rename_i hf
    simp only [Option.some.injEq, Prod.mk.injEq] at h
    obtain ⟨rfl, rfl, rfl⟩ := h
    by_cases y0s : s < 1
    · exact rwrong_lo_s c t q a s g w  y0s
    by_cases y1s : 1460 < s
    · exact rwrong_hi_s c t q a s g w  (by omega) y1s
    by_cases y0g : g < s
    · exact rwrong_lo_g c t q a s g w (by omega) (by omega) y0g
    by_cases y1g : 1073741824 < g
    · exact rwrong_hi_g c t q a s g w (by omega) (by omega) (by omega) y1g
    by_cases y0c : c < s
    · exact rwrong_lo_c c t q a s g w (by omega) (by omega) (by omega) (by omega) y0c
    by_cases y1c : g < c
    · exact rwrong_hi_c c t q a s g w (by omega) (by omega) (by omega) (by omega) (by omega) y1c
    by_cases y0t : t < s
    · exact rwrong_lo_t c t q a s g w (by omega) (by omega) (by omega) (by omega) (by omega) (by omega) y0t
    by_cases y1t : g < t
    · exact rwrong_hi_t c t q a s g w (by omega) (by omega) (by omega) (by omega) (by omega) (by omega) (by omega) y1t
    by_cases y0q : q < 0
    · exact rwrong_lo_q c t q a s g w (by omega) (by omega) (by omega) (by omega) (by omega) (by omega) (by omega) (by omega) y0q
    by_cases y1q : 1073741824 < q
    · exact rwrong_hi_q c t q a s g w (by omega) (by omega) (by omega) (by omega) (by omega) (by omega) (by omega) (by omega) (by omega) y1q
    by_cases y0a : a < 0
    · exact rwrong_lo_a c t q a s g w (by omega) (by omega) (by omega) (by omega) (by omega) (by omega) (by omega) (by omega) (by omega) (by omega) y0a
    by_cases y1a : 1073741824 < a
    · exact rwrong_hi_a c t q a s g w (by omega) (by omega) (by omega) (by omega) (by omega) (by omega) (by omega) (by omega) (by omega) (by omega) (by omega) y1a
    exact absurd ⟨⟨by omega, by omega⟩, ⟨by omega, by omega⟩, ⟨by omega, by omega⟩, ⟨by omega, by omega⟩, ⟨by omega, by omega⟩, by omega, by omega⟩ hf
end Go.Proofs.Ytjmblmomeijddaa.Hand

