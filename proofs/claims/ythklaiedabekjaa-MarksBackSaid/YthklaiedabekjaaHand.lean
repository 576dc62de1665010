/- The walk of marks.Heard: what it tells, for every input whose 24 bits are no number below 0. (Written by a program of this session.) -/
import Derived.Test.YthklaiedabekjaaPHandx
import Derived.Deep.RegionWith
import Derived.BigRegion
import Derived.Lib.Hide
import Derived.Deep.DeepCutAuto
import Derived.Deep.CutBlock
namespace Go.Proofs.Ythklaiedabekjaa.Hand
open Go.RowKit Go.Proofs.Ythklaiedabekjaa.PHand Go.Proofs.YthklaiedabekjaaW.PrintWords Go.Proofs.YthklaiedabekjaaW.PrintLast Go.Proofs.YthklaiedabekjaaW.PrintMore
attribute [local go_sem] max2_int min2_int max_two min_two
set_option linter.unusedVariables false
set_option linter.unusedSimpArgs false
theorem blk_new1 (w : World) (a b : Obj) : ((w.alloc a).alloc b).heap[w.heap.size + 1]? = some b := by
  have h := blk_new (w.alloc a) b
  simpa using h
set_option maxHeartbeats 400000 in
theorem ahead_any (o : Int) (w : World) : Calls Try.prog 20 #[.int .i64 o] w fun e w' => e = .returned (.func (.func 30) #[] #[.pointer (some ⟨w.heap.size, 0, none⟩)]) ∧ w' = w.alloc (.cells #[.int .i64 o] 3) := by
  have hmf : ∀ (fn : Fn) (first cap : Array Value) (w : World), (Instr.makeFunc fn first cap).run Try.prog w = .ok (.func fn first cap) w := fun _ _ _ _ => rfl
  go_enter Try.func20, Try.ntmps20
  go_wp2
  go_ret
  exact ⟨rfl, rfl⟩
set_option maxHeartbeats 400000 in
theorem ahead1_any (n m o : Int) (b : Nat) (w : World) (hc : w.cell? ⟨b, 0, none⟩ = some (.int .i64 o)) (o0 : 1 ≤ o) (o1 : o ≤ 16777216) (n0 : 0 ≤ n) (n1 : n ≤ 16777216) (m0 : 0 ≤ m) (m1 : m ≤ 1152921504606846976) :
    Calls Try.prog 30 #[.int .i64 n, .int .i64 m, .pointer (some ⟨b, 0, none⟩)] w fun e w' => e = .returned (.int .i64 ((n - m % o + o) % o)) ∧ ∃ j, w' = w.drewN j := by
  have h2 := Int.emod_nonneg m (show o ≠ 0 by omega)
  have h3 := Int.emod_lt_of_pos m (show 0 < o by omega)
  go_enter Try.func30, Try.ntmps30
  go_wp2
  go_quiet (fail)
  go_wp2
  go_ret
  exact ⟨rfl, _, rfl⟩
set_option maxHeartbeats 1600000 in
theorem wrong_lo_p (p b c m q ace ce pk by_ : Int) (w : World) (hwrong : p < 0) :
    Calls Try.prog 10 #[.agg #[.int .i64 p, .int .i64 b, .int .i64 c, .int .i64 m, .int .i64 q], .int .i64 ace, .int .u32 ce, .int .i64 pk, .int .i64 by_] w fun e w' => e = .returned (.tuple #[.agg #[.int .i64 0, .int .i64 0, .int .i64 0, .int .i64 0, .int .i64 0], .int .i64 0, .int .i64 1]) ∧ Below w.heap.size w w' := by
  have bf0 : decide (0 ≤ p) = false := decide_eq_false (by omega)
  clear hwrong
  have hu23 := Try.underlying23
  go_enter Try.func10, Try.ntmps10
  go_wp2
  refine bodyPost_ret (v := .tuple #[.agg #[.int .i64 0, .int .i64 0, .int .i64 0, .int .i64 0, .int .i64 0], .int .i64 0, .int .i64 1]) (by simp [results, Try.results10, go_sem]) rfl ⟨rfl, ?_⟩
  repeat (first | (with_reducible exact Below.refl _ _) | apply pw_below_drewN | apply below_drew1 | (with_reducible apply below_alloc) | (refine below_set ?_ (by simp)))
set_option maxHeartbeats 1600000 in
theorem wrong_hi_p (p b c m q ace ce pk by_ : Int) (w : World) (h0p : 0 ≤ p) (hwrong : 1152921504606846976 < p) :
    Calls Try.prog 10 #[.agg #[.int .i64 p, .int .i64 b, .int .i64 c, .int .i64 m, .int .i64 q], .int .i64 ace, .int .u32 ce, .int .i64 pk, .int .i64 by_] w fun e w' => e = .returned (.tuple #[.agg #[.int .i64 0, .int .i64 0, .int .i64 0, .int .i64 0, .int .i64 0], .int .i64 0, .int .i64 1]) ∧ Below w.heap.size w w' := by
  have bf0 : decide (p ≤ 1152921504606846976) = false := decide_eq_false (by omega)
  clear hwrong
  have hu23 := Try.underlying23
  go_enter Try.func10, Try.ntmps10
  go_wp2
  refine bodyPost_ret (v := .tuple #[.agg #[.int .i64 0, .int .i64 0, .int .i64 0, .int .i64 0, .int .i64 0], .int .i64 0, .int .i64 1]) (by simp [results, Try.results10, go_sem]) rfl ⟨rfl, ?_⟩
  repeat (first | (with_reducible exact Below.refl _ _) | apply pw_below_drewN | apply below_drew1 | (with_reducible apply below_alloc) | (refine below_set ?_ (by simp)))
set_option maxHeartbeats 1600000 in
theorem wrong_lo_b (p b c m q ace ce pk by_ : Int) (w : World) (h0p : 0 ≤ p) (h1p : p ≤ 1152921504606846976) (hwrong : b < 0) :
    Calls Try.prog 10 #[.agg #[.int .i64 p, .int .i64 b, .int .i64 c, .int .i64 m, .int .i64 q], .int .i64 ace, .int .u32 ce, .int .i64 pk, .int .i64 by_] w fun e w' => e = .returned (.tuple #[.agg #[.int .i64 0, .int .i64 0, .int .i64 0, .int .i64 0, .int .i64 0], .int .i64 0, .int .i64 1]) ∧ Below w.heap.size w w' := by
  have bf0 : decide (0 ≤ b) = false := decide_eq_false (by omega)
  clear hwrong
  have hu23 := Try.underlying23
  go_enter Try.func10, Try.ntmps10
  go_wp2
  refine bodyPost_ret (v := .tuple #[.agg #[.int .i64 0, .int .i64 0, .int .i64 0, .int .i64 0, .int .i64 0], .int .i64 0, .int .i64 1]) (by simp [results, Try.results10, go_sem]) rfl ⟨rfl, ?_⟩
  repeat (first | (with_reducible exact Below.refl _ _) | apply pw_below_drewN | apply below_drew1 | (with_reducible apply below_alloc) | (refine below_set ?_ (by simp)))
set_option maxHeartbeats 1600000 in
theorem wrong_hi_b (p b c m q ace ce pk by_ : Int) (w : World) (h0p : 0 ≤ p) (h1p : p ≤ 1152921504606846976) (h0b : 0 ≤ b) (hwrong : 1152921504606846976 < b) :
    Calls Try.prog 10 #[.agg #[.int .i64 p, .int .i64 b, .int .i64 c, .int .i64 m, .int .i64 q], .int .i64 ace, .int .u32 ce, .int .i64 pk, .int .i64 by_] w fun e w' => e = .returned (.tuple #[.agg #[.int .i64 0, .int .i64 0, .int .i64 0, .int .i64 0, .int .i64 0], .int .i64 0, .int .i64 1]) ∧ Below w.heap.size w w' := by
  have bf0 : decide (b ≤ 1152921504606846976) = false := decide_eq_false (by omega)
  clear hwrong
  have hu23 := Try.underlying23
  go_enter Try.func10, Try.ntmps10
  go_wp2
  refine bodyPost_ret (v := .tuple #[.agg #[.int .i64 0, .int .i64 0, .int .i64 0, .int .i64 0, .int .i64 0], .int .i64 0, .int .i64 1]) (by simp [results, Try.results10, go_sem]) rfl ⟨rfl, ?_⟩
  repeat (first | (with_reducible exact Below.refl _ _) | apply pw_below_drewN | apply below_drew1 | (with_reducible apply below_alloc) | (refine below_set ?_ (by simp)))
set_option maxHeartbeats 1600000 in
theorem wrong_lo_c (p b c m q ace ce pk by_ : Int) (w : World) (h0p : 0 ≤ p) (h1p : p ≤ 1152921504606846976) (h0b : 0 ≤ b) (h1b : b ≤ 1152921504606846976) (hwrong : c < 0) :
    Calls Try.prog 10 #[.agg #[.int .i64 p, .int .i64 b, .int .i64 c, .int .i64 m, .int .i64 q], .int .i64 ace, .int .u32 ce, .int .i64 pk, .int .i64 by_] w fun e w' => e = .returned (.tuple #[.agg #[.int .i64 0, .int .i64 0, .int .i64 0, .int .i64 0, .int .i64 0], .int .i64 0, .int .i64 1]) ∧ Below w.heap.size w w' := by
  have bf0 : decide (0 ≤ c) = false := decide_eq_false (by omega)
  clear hwrong
  have hu23 := Try.underlying23
  go_enter Try.func10, Try.ntmps10
  go_wp2
  refine bodyPost_ret (v := .tuple #[.agg #[.int .i64 0, .int .i64 0, .int .i64 0, .int .i64 0, .int .i64 0], .int .i64 0, .int .i64 1]) (by simp [results, Try.results10, go_sem]) rfl ⟨rfl, ?_⟩
  repeat (first | (with_reducible exact Below.refl _ _) | apply pw_below_drewN | apply below_drew1 | (with_reducible apply below_alloc) | (refine below_set ?_ (by simp)))
set_option maxHeartbeats 1600000 in
theorem wrong_hi_c (p b c m q ace ce pk by_ : Int) (w : World) (h0p : 0 ≤ p) (h1p : p ≤ 1152921504606846976) (h0b : 0 ≤ b) (h1b : b ≤ 1152921504606846976) (h0c : 0 ≤ c) (hwrong : 1152921504606846976 < c) :
    Calls Try.prog 10 #[.agg #[.int .i64 p, .int .i64 b, .int .i64 c, .int .i64 m, .int .i64 q], .int .i64 ace, .int .u32 ce, .int .i64 pk, .int .i64 by_] w fun e w' => e = .returned (.tuple #[.agg #[.int .i64 0, .int .i64 0, .int .i64 0, .int .i64 0, .int .i64 0], .int .i64 0, .int .i64 1]) ∧ Below w.heap.size w w' := by
  have bf0 : decide (c ≤ 1152921504606846976) = false := decide_eq_false (by omega)
  clear hwrong
  have hu23 := Try.underlying23
  go_enter Try.func10, Try.ntmps10
  go_wp2
  refine bodyPost_ret (v := .tuple #[.agg #[.int .i64 0, .int .i64 0, .int .i64 0, .int .i64 0, .int .i64 0], .int .i64 0, .int .i64 1]) (by simp [results, Try.results10, go_sem]) rfl ⟨rfl, ?_⟩
  repeat (first | (with_reducible exact Below.refl _ _) | apply pw_below_drewN | apply below_drew1 | (with_reducible apply below_alloc) | (refine below_set ?_ (by simp)))
set_option maxHeartbeats 1600000 in
theorem wrong_lo_m (p b c m q ace ce pk by_ : Int) (w : World) (h0p : 0 ≤ p) (h1p : p ≤ 1152921504606846976) (h0b : 0 ≤ b) (h1b : b ≤ 1152921504606846976) (h0c : 0 ≤ c) (h1c : c ≤ 1152921504606846976) (hwrong : m < 0) :
    Calls Try.prog 10 #[.agg #[.int .i64 p, .int .i64 b, .int .i64 c, .int .i64 m, .int .i64 q], .int .i64 ace, .int .u32 ce, .int .i64 pk, .int .i64 by_] w fun e w' => e = .returned (.tuple #[.agg #[.int .i64 0, .int .i64 0, .int .i64 0, .int .i64 0, .int .i64 0], .int .i64 0, .int .i64 1]) ∧ Below w.heap.size w w' := by
  have bf0 : decide (0 ≤ m) = false := decide_eq_false (by omega)
  clear hwrong
  have hu23 := Try.underlying23
  go_enter Try.func10, Try.ntmps10
  go_wp2
  refine bodyPost_ret (v := .tuple #[.agg #[.int .i64 0, .int .i64 0, .int .i64 0, .int .i64 0, .int .i64 0], .int .i64 0, .int .i64 1]) (by simp [results, Try.results10, go_sem]) rfl ⟨rfl, ?_⟩
  repeat (first | (with_reducible exact Below.refl _ _) | apply pw_below_drewN | apply below_drew1 | (with_reducible apply below_alloc) | (refine below_set ?_ (by simp)))
set_option maxHeartbeats 1600000 in
theorem wrong_hi_m (p b c m q ace ce pk by_ : Int) (w : World) (h0p : 0 ≤ p) (h1p : p ≤ 1152921504606846976) (h0b : 0 ≤ b) (h1b : b ≤ 1152921504606846976) (h0c : 0 ≤ c) (h1c : c ≤ 1152921504606846976) (h0m : 0 ≤ m) (hwrong : c < m) :
    Calls Try.prog 10 #[.agg #[.int .i64 p, .int .i64 b, .int .i64 c, .int .i64 m, .int .i64 q], .int .i64 ace, .int .u32 ce, .int .i64 pk, .int .i64 by_] w fun e w' => e = .returned (.tuple #[.agg #[.int .i64 0, .int .i64 0, .int .i64 0, .int .i64 0, .int .i64 0], .int .i64 0, .int .i64 1]) ∧ Below w.heap.size w w' := by
  have bf0 : decide (m ≤ c) = false := decide_eq_false (by omega)
  clear hwrong
  have hu23 := Try.underlying23
  go_enter Try.func10, Try.ntmps10
  go_wp2
  refine bodyPost_ret (v := .tuple #[.agg #[.int .i64 0, .int .i64 0, .int .i64 0, .int .i64 0, .int .i64 0], .int .i64 0, .int .i64 1]) (by simp [results, Try.results10, go_sem]) rfl ⟨rfl, ?_⟩
  repeat (first | (with_reducible exact Below.refl _ _) | apply pw_below_drewN | apply below_drew1 | (with_reducible apply below_alloc) | (refine below_set ?_ (by simp)))
set_option maxHeartbeats 1600000 in
theorem wrong_lo_q (p b c m q ace ce pk by_ : Int) (w : World) (h0p : 0 ≤ p) (h1p : p ≤ 1152921504606846976) (h0b : 0 ≤ b) (h1b : b ≤ 1152921504606846976) (h0c : 0 ≤ c) (h1c : c ≤ 1152921504606846976) (h0m : 0 ≤ m) (h1m : m ≤ c) (hwrong : q < 0) :
    Calls Try.prog 10 #[.agg #[.int .i64 p, .int .i64 b, .int .i64 c, .int .i64 m, .int .i64 q], .int .i64 ace, .int .u32 ce, .int .i64 pk, .int .i64 by_] w fun e w' => e = .returned (.tuple #[.agg #[.int .i64 0, .int .i64 0, .int .i64 0, .int .i64 0, .int .i64 0], .int .i64 0, .int .i64 1]) ∧ Below w.heap.size w w' := by
  have bf0 : decide (0 ≤ q) = false := decide_eq_false (by omega)
  clear hwrong
  have hu23 := Try.underlying23
  go_enter Try.func10, Try.ntmps10
  go_wp2
  refine bodyPost_ret (v := .tuple #[.agg #[.int .i64 0, .int .i64 0, .int .i64 0, .int .i64 0, .int .i64 0], .int .i64 0, .int .i64 1]) (by simp [results, Try.results10, go_sem]) rfl ⟨rfl, ?_⟩
  repeat (first | (with_reducible exact Below.refl _ _) | apply pw_below_drewN | apply below_drew1 | (with_reducible apply below_alloc) | (refine below_set ?_ (by simp)))
set_option maxHeartbeats 1600000 in
theorem wrong_hi_q (p b c m q ace ce pk by_ : Int) (w : World) (h0p : 0 ≤ p) (h1p : p ≤ 1152921504606846976) (h0b : 0 ≤ b) (h1b : b ≤ 1152921504606846976) (h0c : 0 ≤ c) (h1c : c ≤ 1152921504606846976) (h0m : 0 ≤ m) (h1m : m ≤ c) (h0q : 0 ≤ q) (hwrong : 1024 < q) :
    Calls Try.prog 10 #[.agg #[.int .i64 p, .int .i64 b, .int .i64 c, .int .i64 m, .int .i64 q], .int .i64 ace, .int .u32 ce, .int .i64 pk, .int .i64 by_] w fun e w' => e = .returned (.tuple #[.agg #[.int .i64 0, .int .i64 0, .int .i64 0, .int .i64 0, .int .i64 0], .int .i64 0, .int .i64 1]) ∧ Below w.heap.size w w' := by
  have bf0 : decide (q ≤ 1024) = false := decide_eq_false (by omega)
  clear hwrong
  have hu23 := Try.underlying23
  go_enter Try.func10, Try.ntmps10
  go_wp2
  refine bodyPost_ret (v := .tuple #[.agg #[.int .i64 0, .int .i64 0, .int .i64 0, .int .i64 0, .int .i64 0], .int .i64 0, .int .i64 1]) (by simp [results, Try.results10, go_sem]) rfl ⟨rfl, ?_⟩
  repeat (first | (with_reducible exact Below.refl _ _) | apply pw_below_drewN | apply below_drew1 | (with_reducible apply below_alloc) | (refine below_set ?_ (by simp)))
set_option maxHeartbeats 1600000 in
theorem wrong_lo_ace (p b c m q ace ce pk by_ : Int) (w : World) (h0p : 0 ≤ p) (h1p : p ≤ 1152921504606846976) (h0b : 0 ≤ b) (h1b : b ≤ 1152921504606846976) (h0c : 0 ≤ c) (h1c : c ≤ 1152921504606846976) (h0m : 0 ≤ m) (h1m : m ≤ c) (h0q : 0 ≤ q) (h1q : q ≤ 1024) (hwrong : ace < 0) :
    Calls Try.prog 10 #[.agg #[.int .i64 p, .int .i64 b, .int .i64 c, .int .i64 m, .int .i64 q], .int .i64 ace, .int .u32 ce, .int .i64 pk, .int .i64 by_] w fun e w' => e = .returned (.tuple #[.agg #[.int .i64 0, .int .i64 0, .int .i64 0, .int .i64 0, .int .i64 0], .int .i64 0, .int .i64 1]) ∧ Below w.heap.size w w' := by
  have bf0 : decide (0 ≤ ace) = false := decide_eq_false (by omega)
  clear hwrong
  have hu23 := Try.underlying23
  go_enter Try.func10, Try.ntmps10
  go_wp2
  refine bodyPost_ret (v := .tuple #[.agg #[.int .i64 0, .int .i64 0, .int .i64 0, .int .i64 0, .int .i64 0], .int .i64 0, .int .i64 1]) (by simp [results, Try.results10, go_sem]) rfl ⟨rfl, ?_⟩
  repeat (first | (with_reducible exact Below.refl _ _) | apply pw_below_drewN | apply below_drew1 | (with_reducible apply below_alloc) | (refine below_set ?_ (by simp)))
set_option maxHeartbeats 1600000 in
theorem wrong_hi_ace (p b c m q ace ce pk by_ : Int) (w : World) (h0p : 0 ≤ p) (h1p : p ≤ 1152921504606846976) (h0b : 0 ≤ b) (h1b : b ≤ 1152921504606846976) (h0c : 0 ≤ c) (h1c : c ≤ 1152921504606846976) (h0m : 0 ≤ m) (h1m : m ≤ c) (h0q : 0 ≤ q) (h1q : q ≤ 1024) (h0ace : 0 ≤ ace) (hwrong : 7 < ace) :
    Calls Try.prog 10 #[.agg #[.int .i64 p, .int .i64 b, .int .i64 c, .int .i64 m, .int .i64 q], .int .i64 ace, .int .u32 ce, .int .i64 pk, .int .i64 by_] w fun e w' => e = .returned (.tuple #[.agg #[.int .i64 0, .int .i64 0, .int .i64 0, .int .i64 0, .int .i64 0], .int .i64 0, .int .i64 1]) ∧ Below w.heap.size w w' := by
  have bf0 : decide (ace ≤ 7) = false := decide_eq_false (by omega)
  clear hwrong
  have hu23 := Try.underlying23
  go_enter Try.func10, Try.ntmps10
  go_wp2
  refine bodyPost_ret (v := .tuple #[.agg #[.int .i64 0, .int .i64 0, .int .i64 0, .int .i64 0, .int .i64 0], .int .i64 0, .int .i64 1]) (by simp [results, Try.results10, go_sem]) rfl ⟨rfl, ?_⟩
  repeat (first | (with_reducible exact Below.refl _ _) | apply pw_below_drewN | apply below_drew1 | (with_reducible apply below_alloc) | (refine below_set ?_ (by simp)))
set_option maxHeartbeats 1600000 in
theorem wrong_hi_ce (p b c m q ace ce pk by_ : Int) (w : World) (h0p : 0 ≤ p) (h1p : p ≤ 1152921504606846976) (h0b : 0 ≤ b) (h1b : b ≤ 1152921504606846976) (h0c : 0 ≤ c) (h1c : c ≤ 1152921504606846976) (h0m : 0 ≤ m) (h1m : m ≤ c) (h0q : 0 ≤ q) (h1q : q ≤ 1024) (h0ace : 0 ≤ ace) (h1ace : ace ≤ 7) (hwrong : 16777215 < ce) :
    Calls Try.prog 10 #[.agg #[.int .i64 p, .int .i64 b, .int .i64 c, .int .i64 m, .int .i64 q], .int .i64 ace, .int .u32 ce, .int .i64 pk, .int .i64 by_] w fun e w' => e = .returned (.tuple #[.agg #[.int .i64 0, .int .i64 0, .int .i64 0, .int .i64 0, .int .i64 0], .int .i64 0, .int .i64 1]) ∧ Below w.heap.size w w' := by
  have bf0 : decide (16777216 ≤ ce) = true := decide_eq_true (by omega)
  clear hwrong
  have hu23 := Try.underlying23
  go_enter Try.func10, Try.ntmps10
  go_wp2
  refine bodyPost_ret (v := .tuple #[.agg #[.int .i64 0, .int .i64 0, .int .i64 0, .int .i64 0, .int .i64 0], .int .i64 0, .int .i64 1]) (by simp [results, Try.results10, go_sem]) rfl ⟨rfl, ?_⟩
  repeat (first | (with_reducible exact Below.refl _ _) | apply pw_below_drewN | apply below_drew1 | (with_reducible apply below_alloc) | (refine below_set ?_ (by simp)))
set_option maxHeartbeats 1600000 in
theorem wrong_lo_pk (p b c m q ace ce pk by_ : Int) (w : World) (h0p : 0 ≤ p) (h1p : p ≤ 1152921504606846976) (h0b : 0 ≤ b) (h1b : b ≤ 1152921504606846976) (h0c : 0 ≤ c) (h1c : c ≤ 1152921504606846976) (h0m : 0 ≤ m) (h1m : m ≤ c) (h0q : 0 ≤ q) (h1q : q ≤ 1024) (h0ace : 0 ≤ ace) (h1ace : ace ≤ 7) (h1ce : ce ≤ 16777215) (hwrong : pk < 0) :
    Calls Try.prog 10 #[.agg #[.int .i64 p, .int .i64 b, .int .i64 c, .int .i64 m, .int .i64 q], .int .i64 ace, .int .u32 ce, .int .i64 pk, .int .i64 by_] w fun e w' => e = .returned (.tuple #[.agg #[.int .i64 0, .int .i64 0, .int .i64 0, .int .i64 0, .int .i64 0], .int .i64 0, .int .i64 1]) ∧ Below w.heap.size w w' := by
  have bf0 : decide (0 ≤ pk) = false := decide_eq_false (by omega)
  clear hwrong
  have hu23 := Try.underlying23
  go_enter Try.func10, Try.ntmps10
  go_wp2
  refine bodyPost_ret (v := .tuple #[.agg #[.int .i64 0, .int .i64 0, .int .i64 0, .int .i64 0, .int .i64 0], .int .i64 0, .int .i64 1]) (by simp [results, Try.results10, go_sem]) rfl ⟨rfl, ?_⟩
  repeat (first | (with_reducible exact Below.refl _ _) | apply pw_below_drewN | apply below_drew1 | (with_reducible apply below_alloc) | (refine below_set ?_ (by simp)))
set_option maxHeartbeats 1600000 in
theorem wrong_hi_pk (p b c m q ace ce pk by_ : Int) (w : World) (h0p : 0 ≤ p) (h1p : p ≤ 1152921504606846976) (h0b : 0 ≤ b) (h1b : b ≤ 1152921504606846976) (h0c : 0 ≤ c) (h1c : c ≤ 1152921504606846976) (h0m : 0 ≤ m) (h1m : m ≤ c) (h0q : 0 ≤ q) (h1q : q ≤ 1024) (h0ace : 0 ≤ ace) (h1ace : ace ≤ 7) (h1ce : ce ≤ 16777215) (h0pk : 0 ≤ pk) (hwrong : 1099511627776 < pk) :
    Calls Try.prog 10 #[.agg #[.int .i64 p, .int .i64 b, .int .i64 c, .int .i64 m, .int .i64 q], .int .i64 ace, .int .u32 ce, .int .i64 pk, .int .i64 by_] w fun e w' => e = .returned (.tuple #[.agg #[.int .i64 0, .int .i64 0, .int .i64 0, .int .i64 0, .int .i64 0], .int .i64 0, .int .i64 1]) ∧ Below w.heap.size w w' := by
  have bf0 : decide (pk ≤ 1099511627776) = false := decide_eq_false (by omega)
  clear hwrong
  have hu23 := Try.underlying23
  go_enter Try.func10, Try.ntmps10
  go_wp2
  refine bodyPost_ret (v := .tuple #[.agg #[.int .i64 0, .int .i64 0, .int .i64 0, .int .i64 0, .int .i64 0], .int .i64 0, .int .i64 1]) (by simp [results, Try.results10, go_sem]) rfl ⟨rfl, ?_⟩
  repeat (first | (with_reducible exact Below.refl _ _) | apply pw_below_drewN | apply below_drew1 | (with_reducible apply below_alloc) | (refine below_set ?_ (by simp)))
set_option maxHeartbeats 1600000 in
theorem wrong_lo_by_ (p b c m q ace ce pk by_ : Int) (w : World) (h0p : 0 ≤ p) (h1p : p ≤ 1152921504606846976) (h0b : 0 ≤ b) (h1b : b ≤ 1152921504606846976) (h0c : 0 ≤ c) (h1c : c ≤ 1152921504606846976) (h0m : 0 ≤ m) (h1m : m ≤ c) (h0q : 0 ≤ q) (h1q : q ≤ 1024) (h0ace : 0 ≤ ace) (h1ace : ace ≤ 7) (h1ce : ce ≤ 16777215) (h0pk : 0 ≤ pk) (h1pk : pk ≤ 1099511627776) (hwrong : by_ < 0) :
    Calls Try.prog 10 #[.agg #[.int .i64 p, .int .i64 b, .int .i64 c, .int .i64 m, .int .i64 q], .int .i64 ace, .int .u32 ce, .int .i64 pk, .int .i64 by_] w fun e w' => e = .returned (.tuple #[.agg #[.int .i64 0, .int .i64 0, .int .i64 0, .int .i64 0, .int .i64 0], .int .i64 0, .int .i64 1]) ∧ Below w.heap.size w w' := by
  have bf0 : decide (0 ≤ by_) = false := decide_eq_false (by omega)
  clear hwrong
  have hu23 := Try.underlying23
  go_enter Try.func10, Try.ntmps10
  go_wp2
  refine bodyPost_ret (v := .tuple #[.agg #[.int .i64 0, .int .i64 0, .int .i64 0, .int .i64 0, .int .i64 0], .int .i64 0, .int .i64 1]) (by simp [results, Try.results10, go_sem]) rfl ⟨rfl, ?_⟩
  repeat (first | (with_reducible exact Below.refl _ _) | apply pw_below_drewN | apply below_drew1 | (with_reducible apply below_alloc) | (refine below_set ?_ (by simp)))
set_option maxHeartbeats 1600000 in
theorem wrong_hi_by_ (p b c m q ace ce pk by_ : Int) (w : World) (h0p : 0 ≤ p) (h1p : p ≤ 1152921504606846976) (h0b : 0 ≤ b) (h1b : b ≤ 1152921504606846976) (h0c : 0 ≤ c) (h1c : c ≤ 1152921504606846976) (h0m : 0 ≤ m) (h1m : m ≤ c) (h0q : 0 ≤ q) (h1q : q ≤ 1024) (h0ace : 0 ≤ ace) (h1ace : ace ≤ 7) (h1ce : ce ≤ 16777215) (h0pk : 0 ≤ pk) (h1pk : pk ≤ 1099511627776) (h0by_ : 0 ≤ by_) (hwrong : 1099511627776 < by_) :
    Calls Try.prog 10 #[.agg #[.int .i64 p, .int .i64 b, .int .i64 c, .int .i64 m, .int .i64 q], .int .i64 ace, .int .u32 ce, .int .i64 pk, .int .i64 by_] w fun e w' => e = .returned (.tuple #[.agg #[.int .i64 0, .int .i64 0, .int .i64 0, .int .i64 0, .int .i64 0], .int .i64 0, .int .i64 1]) ∧ Below w.heap.size w w' := by
  have bf0 : decide (by_ ≤ 1099511627776) = false := decide_eq_false (by omega)
  clear hwrong
  have hu23 := Try.underlying23
  go_enter Try.func10, Try.ntmps10
  go_wp2
  refine bodyPost_ret (v := .tuple #[.agg #[.int .i64 0, .int .i64 0, .int .i64 0, .int .i64 0, .int .i64 0], .int .i64 0, .int .i64 1]) (by simp [results, Try.results10, go_sem]) rfl ⟨rfl, ?_⟩
  repeat (first | (with_reducible exact Below.refl _ _) | apply pw_below_drewN | apply below_drew1 | (with_reducible apply below_alloc) | (refine below_set ?_ (by simp)))
set_option maxHeartbeats 16000000 in
set_option maxRecDepth 100000 in
theorem heard_main (p b c m q ace ce pk by_ : Int) (w : World) (h0p : 0 ≤ p) (h1p : p ≤ 1152921504606846976) (h0b : 0 ≤ b) (h1b : b ≤ 1152921504606846976) (h0c : 0 ≤ c) (h1c : c ≤ 1152921504606846976) (h0m : 0 ≤ m) (h1m : m ≤ c) (h0q : 0 ≤ q) (h1q : q ≤ 1024) (h0ace : 0 ≤ ace) (h1ace : ace ≤ 7) (h1ce : ce ≤ 16777215) (h0pk : 0 ≤ pk) (h1pk : pk ≤ 1099511627776) (h0by_ : 0 ≤ by_) (h1by_ : by_ ≤ 1099511627776) (e0 : 0 ≤ ce) (n0 bb n mk r1 r2 r3 r4 r5 r6 r7 : Int) (t : Bool) (hn0 : (ace - p) % 8 = n0) (hbb : (ce - b) % 16777216 = bb)
    (hn : (pk < 8 ∧ n = n0) ∨ (8 ≤ pk ∧ bb ≤ 0 ∧ n = n0) ∨ (8 ≤ pk ∧ 0 < bb ∧ n = pk - (pk - n0) % 8)) (hmk : (bb ≤ by_ ∧ mk = bb) ∨ (by_ < bb ∧ mk = by_)) (hMay : marks_May.f (p + n) (b + bb) (c + by_) (m + mk) q = some t)
    (hr : (t = true ∧ r1 = p + n ∧ r2 = b + bb ∧ r3 = c + by_ ∧ r4 = m + mk ∧ r5 = q ∧ r6 = n ∧ r7 = 0) ∨ (t = false ∧ r1 = 0 ∧ r2 = 0 ∧ r3 = 0 ∧ r4 = 0 ∧ r5 = 0 ∧ r6 = 0 ∧ r7 = 5)) :
    Calls Try.prog 10 #[.agg #[.int .i64 p, .int .i64 b, .int .i64 c, .int .i64 m, .int .i64 q], .int .i64 ace, .int .u32 ce, .int .i64 pk, .int .i64 by_] w fun e w' => e = .returned (.tuple #[.agg #[.int .i64 r1, .int .i64 r2, .int .i64 r3, .int .i64 r4, .int .i64 r5], .int .i64 r6, .int .i64 r7]) ∧ Below w.heap.size w w' := by
  have hmf : ∀ (fn : Fn) (first cap : Array Value) (w : World), (Instr.makeFunc fn first cap).run Try.prog w = .ok (.func fn first cap) w := fun _ _ _ _ => rfl
  have g1 : 0 ≤ n0 := by omega
  have g2 : n0 ≤ 7 := by omega
  have g3 : 0 ≤ bb := by omega
  have g4 : bb < 16777216 := by omega
  have f0 : decide (16777216 ≤ ce) = false := decide_eq_false (by omega)
  have hwr : IntKind.i64.wrap ce = ce := by rw [IntKind.wrap_i64]; omega
  have hu23 := Try.underlying23
  have HN0 := Lib.hid hn0
  have HBB := Lib.hid hbb
  have HN := Lib.hid hn
  have HK := Lib.hid hmk
  have HM := Lib.hid hMay
  have HR := Lib.hid hr
  clear hn0 hbb hn hmk hMay hr
  go_enter Try.func10, Try.ntmps10
  go_wp2
  go_cut [13, 14] (fun x y wx => x = .int .i64 n0 ∧ y = .int .i64 bb ∧ Below w.heap.size w wx ∧ wx.heap[w.heap.size]? = some (.cells #[.int .i64 p, .int .i64 b, .int .i64 c, .int .i64 m, .int .i64 q] 23 (0, 0)) ∧ wx.heap[w.heap.size + 1]? = some (.cells #[.int .i64 0, .int .i64 0, .int .i64 0, .int .i64 0, .int .i64 0] 23 (0, 0)))
  case first =>
    go_region_with (first | (go_at_call 20; refine (ahead_any _ _).mono ?_; rintro e w' ⟨rfl, rfl⟩) | (go_at_call 30; (with_reducible refine (ahead1_any ace p 8 _ _ ?hc (by omega) (by omega) (by omega) (by omega) (by omega) (by omega)).mono ?_); (case hc => (first | (go_simp; done) | simp)); rintro e w' ⟨rfl, j, rfl⟩) | (go_at_call 30; (with_reducible refine (ahead1_any ce b 16777216 _ _ ?hc (by omega) (by omega) (by omega) (by omega) (by omega) (by omega)).mono ?_); (case hc => (first | (go_simp; done) | simp)); rintro e w' ⟨rfl, j, rfl⟩))
    all_goals
      go_wp2_with fail
      go_meet
      refine ⟨?_, ?_, ?_, ?_, ?_⟩
      · have := HN0.out; subst this; first | rfl | (simp; done) | (congr 1; omega)
      · have := HBB.out; subst this; first | rfl | (simp; done) | (congr 1; omega)
      · repeat (first | (with_reducible exact Below.refl _ _) | apply pw_below_drewN | apply below_drew1 | (with_reducible apply below_alloc))
      · repeat (first | (with_reducible exact blk_new _ _) | (with_reducible refine blk_drewN ?_ _) | (with_reducible refine blk_drew ?_) | (with_reducible refine blk_alloc ?_ _))
      · repeat (first | (with_reducible exact blk_new1 _ _ _) | (with_reducible refine blk_drewN ?_ _) | (with_reducible refine blk_drew ?_) | (with_reducible refine blk_alloc ?_ _))
  case rest =>
    obtain ⟨rfl, rfl, hbel, hA, hB⟩ := hcut
    have BK := Lib.hid hA
    have BR := Lib.hid hB
    clear hA hB
    have hbel' := Lib.hid hbel
    clear hbel
    rcases HN.out with ⟨hp, hnn⟩ | ⟨hp, hp2, hnn⟩ | ⟨hp, hp2, hnn⟩
    · subst n
      clear HN
      rcases HK.out with ⟨hk, hkk⟩ | ⟨hk, hkk⟩
      · subst mk
        clear HK
        rcases HR.out with ⟨ht, s1, s2, s3, s4, s5, s6, s7⟩ | ⟨ht, s1, s2, s3, s4, s5, s6, s7⟩
        · subst t r1 r2 r3 r4 r5 r6 r7
          clear HR
          have hc0 : wc.cell? ⟨w.heap.size, 0, none⟩ = some (.int .i64 p) := (blk_cell BK.out 0).trans rfl
          have hc1 : wc.cell? ⟨w.heap.size, 1, none⟩ = some (.int .i64 b) := (blk_cell BK.out 1).trans rfl
          have hc2 : wc.cell? ⟨w.heap.size, 2, none⟩ = some (.int .i64 c) := (blk_cell BK.out 2).trans rfl
          have hc3 : wc.cell? ⟨w.heap.size, 3, none⟩ = some (.int .i64 m) := (blk_cell BK.out 3).trans rfl
          have hc4 : wc.cell? ⟨w.heap.size, 4, none⟩ = some (.int .i64 q) := (blk_cell BK.out 4).trans rfl
          have zc0 := blk_frozen BK.out 0
          have zc1 := blk_frozen BK.out 1
          have zc2 := blk_frozen BK.out 2
          have zc3 := blk_frozen BK.out 3
          have zc4 := blk_frozen BK.out 4
          have hd0 : wc.cell? ⟨w.heap.size + 1, 0, none⟩ = some (.int .i64 0) := (blk_cell BR.out 0).trans rfl
          have hd1 : wc.cell? ⟨w.heap.size + 1, 1, none⟩ = some (.int .i64 0) := (blk_cell BR.out 1).trans rfl
          have hd2 : wc.cell? ⟨w.heap.size + 1, 2, none⟩ = some (.int .i64 0) := (blk_cell BR.out 2).trans rfl
          have hd3 : wc.cell? ⟨w.heap.size + 1, 3, none⟩ = some (.int .i64 0) := (blk_cell BR.out 3).trans rfl
          have hd4 : wc.cell? ⟨w.heap.size + 1, 4, none⟩ = some (.int .i64 0) := (blk_cell BR.out 4).trans rfl
          have zd0 := blk_frozen BR.out 0
          have zd1 := blk_frozen BR.out 1
          have zd2 := blk_frozen BR.out 2
          have zd3 := blk_frozen BR.out 3
          have zd4 := blk_frozen BR.out 4
          go_wp2_with fail
          refine (marks_May.calls _ _ _ _ _ true _ HM.out).mono ?_
          rintro e w2 ⟨rfl, hb2⟩
          have BK2 := Lib.hid (show w2.heap[w.heap.size]? = some (.cells #[.int .i64 (p + n0), .int .i64 (b + bb), .int .i64 (c + by_), .int .i64 (m + bb), .int .i64 q] 23 (0, 0)) from blk_below (blk_put (cs := #[.int .i64 (p + n0), .int .i64 (b + bb), .int .i64 (c + by_), .int .i64 m, .int .i64 q]) (blk_put (cs := #[.int .i64 (p + n0), .int .i64 (b + bb), .int .i64 c, .int .i64 m, .int .i64 q]) (blk_put (cs := #[.int .i64 (p + n0), .int .i64 b, .int .i64 c, .int .i64 m, .int .i64 q]) (blk_put (cs := #[.int .i64 p, .int .i64 b, .int .i64 c, .int .i64 m, .int .i64 q]) BK.out 0 _ rfl) 1 _ rfl) 2 _ rfl) 3 _ rfl) hb2)
          have BR2 := Lib.hid (show w2.heap[w.heap.size + 1]? = some (.cells #[.int .i64 0, .int .i64 0, .int .i64 0, .int .i64 0, .int .i64 0] 23 (0, 0)) from blk_below (blk_far (blk_far (blk_far (blk_far BR.out (by simp) _) (by simp) _) (by simp) _) (by simp) _) hb2)
          have hbel2 := Lib.hid (show Below w.heap.size w w2 from ((((hbel'.out.setCell (by simp) _).setCell (by simp) _).setCell (by simp) _).setCell (by simp) _).trans (hb2.mono (by simp; exact hbel'.out.size)))
          clear hb2 hc0 zc0 hc1 zc1 hc2 zc2 hc3 zc3 hc4 zc4 hd0 zd0 hd1 zd1 hd2 zd2 hd3 zd3 hd4 zd4
          have hc0 : w2.cell? ⟨w.heap.size, 0, none⟩ = some (.int .i64 (p + n0)) := (blk_cell BK2.out 0).trans rfl
          have hc1 : w2.cell? ⟨w.heap.size, 1, none⟩ = some (.int .i64 (b + bb)) := (blk_cell BK2.out 1).trans rfl
          have hc2 : w2.cell? ⟨w.heap.size, 2, none⟩ = some (.int .i64 (c + by_)) := (blk_cell BK2.out 2).trans rfl
          have hc3 : w2.cell? ⟨w.heap.size, 3, none⟩ = some (.int .i64 (m + bb)) := (blk_cell BK2.out 3).trans rfl
          have hc4 : w2.cell? ⟨w.heap.size, 4, none⟩ = some (.int .i64 q) := (blk_cell BK2.out 4).trans rfl
          have zc0 := blk_frozen BK2.out 0
          have zc1 := blk_frozen BK2.out 1
          have zc2 := blk_frozen BK2.out 2
          have zc3 := blk_frozen BK2.out 3
          have zc4 := blk_frozen BK2.out 4
          have hd0 : w2.cell? ⟨w.heap.size + 1, 0, none⟩ = some (.int .i64 0) := (blk_cell BR2.out 0).trans rfl
          have hd1 : w2.cell? ⟨w.heap.size + 1, 1, none⟩ = some (.int .i64 0) := (blk_cell BR2.out 1).trans rfl
          have hd2 : w2.cell? ⟨w.heap.size + 1, 2, none⟩ = some (.int .i64 0) := (blk_cell BR2.out 2).trans rfl
          have hd3 : w2.cell? ⟨w.heap.size + 1, 3, none⟩ = some (.int .i64 0) := (blk_cell BR2.out 3).trans rfl
          have hd4 : w2.cell? ⟨w.heap.size + 1, 4, none⟩ = some (.int .i64 0) := (blk_cell BR2.out 4).trans rfl
          have zd0 := blk_frozen BR2.out 0
          have zd1 := blk_frozen BR2.out 1
          have zd2 := blk_frozen BR2.out 2
          have zd3 := blk_frozen BR2.out 3
          have zd4 := blk_frozen BR2.out 4
          go_wp2
          refine bodyPost_ret (results_ctt rfl _ _ (w.heap.size + 1) 23 #[.int .i64 (p + n0), .int .i64 (b + bb), .int .i64 (c + by_), .int .i64 (m + bb), .int .i64 q] (0, 0) _ rfl (blk_put (cs := #[.int .i64 (p + n0), .int .i64 (b + bb), .int .i64 (c + by_), .int .i64 (m + bb), .int .i64 0]) (blk_put (cs := #[.int .i64 (p + n0), .int .i64 (b + bb), .int .i64 (c + by_), .int .i64 0, .int .i64 0]) (blk_put (cs := #[.int .i64 (p + n0), .int .i64 (b + bb), .int .i64 0, .int .i64 0, .int .i64 0]) (blk_put (cs := #[.int .i64 (p + n0), .int .i64 0, .int .i64 0, .int .i64 0, .int .i64 0]) (blk_put (cs := #[.int .i64 0, .int .i64 0, .int .i64 0, .int .i64 0, .int .i64 0]) BR2.out 0 _ rfl) 1 _ rfl) 2 _ rfl) 3 _ rfl) 4 _ rfl) Try.underlying23 rfl (by kernel_rfl)) rfl ?_
          exact ⟨rfl, (((((hbel2.out.setCell (by simp) _).setCell (by simp) _).setCell (by simp) _).setCell (by simp) _).setCell (by simp) _)⟩
        · subst t r1 r2 r3 r4 r5 r6 r7
          clear HR
          have hc0 : wc.cell? ⟨w.heap.size, 0, none⟩ = some (.int .i64 p) := (blk_cell BK.out 0).trans rfl
          have hc1 : wc.cell? ⟨w.heap.size, 1, none⟩ = some (.int .i64 b) := (blk_cell BK.out 1).trans rfl
          have hc2 : wc.cell? ⟨w.heap.size, 2, none⟩ = some (.int .i64 c) := (blk_cell BK.out 2).trans rfl
          have hc3 : wc.cell? ⟨w.heap.size, 3, none⟩ = some (.int .i64 m) := (blk_cell BK.out 3).trans rfl
          have hc4 : wc.cell? ⟨w.heap.size, 4, none⟩ = some (.int .i64 q) := (blk_cell BK.out 4).trans rfl
          have zc0 := blk_frozen BK.out 0
          have zc1 := blk_frozen BK.out 1
          have zc2 := blk_frozen BK.out 2
          have zc3 := blk_frozen BK.out 3
          have zc4 := blk_frozen BK.out 4
          have hd0 : wc.cell? ⟨w.heap.size + 1, 0, none⟩ = some (.int .i64 0) := (blk_cell BR.out 0).trans rfl
          have hd1 : wc.cell? ⟨w.heap.size + 1, 1, none⟩ = some (.int .i64 0) := (blk_cell BR.out 1).trans rfl
          have hd2 : wc.cell? ⟨w.heap.size + 1, 2, none⟩ = some (.int .i64 0) := (blk_cell BR.out 2).trans rfl
          have hd3 : wc.cell? ⟨w.heap.size + 1, 3, none⟩ = some (.int .i64 0) := (blk_cell BR.out 3).trans rfl
          have hd4 : wc.cell? ⟨w.heap.size + 1, 4, none⟩ = some (.int .i64 0) := (blk_cell BR.out 4).trans rfl
          have zd0 := blk_frozen BR.out 0
          have zd1 := blk_frozen BR.out 1
          have zd2 := blk_frozen BR.out 2
          have zd3 := blk_frozen BR.out 3
          have zd4 := blk_frozen BR.out 4
          go_wp2_with fail
          refine (marks_May.calls _ _ _ _ _ false _ HM.out).mono ?_
          rintro e w2 ⟨rfl, hb2⟩
          have BK2 := Lib.hid (show w2.heap[w.heap.size]? = some (.cells #[.int .i64 (p + n0), .int .i64 (b + bb), .int .i64 (c + by_), .int .i64 (m + bb), .int .i64 q] 23 (0, 0)) from blk_below (blk_put (cs := #[.int .i64 (p + n0), .int .i64 (b + bb), .int .i64 (c + by_), .int .i64 m, .int .i64 q]) (blk_put (cs := #[.int .i64 (p + n0), .int .i64 (b + bb), .int .i64 c, .int .i64 m, .int .i64 q]) (blk_put (cs := #[.int .i64 (p + n0), .int .i64 b, .int .i64 c, .int .i64 m, .int .i64 q]) (blk_put (cs := #[.int .i64 p, .int .i64 b, .int .i64 c, .int .i64 m, .int .i64 q]) BK.out 0 _ rfl) 1 _ rfl) 2 _ rfl) 3 _ rfl) hb2)
          have BR2 := Lib.hid (show w2.heap[w.heap.size + 1]? = some (.cells #[.int .i64 0, .int .i64 0, .int .i64 0, .int .i64 0, .int .i64 0] 23 (0, 0)) from blk_below (blk_far (blk_far (blk_far (blk_far BR.out (by simp) _) (by simp) _) (by simp) _) (by simp) _) hb2)
          have hbel2 := Lib.hid (show Below w.heap.size w w2 from ((((hbel'.out.setCell (by simp) _).setCell (by simp) _).setCell (by simp) _).setCell (by simp) _).trans (hb2.mono (by simp; exact hbel'.out.size)))
          clear hb2 hc0 zc0 hc1 zc1 hc2 zc2 hc3 zc3 hc4 zc4 hd0 zd0 hd1 zd1 hd2 zd2 hd3 zd3 hd4 zd4
          have hc0 : w2.cell? ⟨w.heap.size, 0, none⟩ = some (.int .i64 (p + n0)) := (blk_cell BK2.out 0).trans rfl
          have hc1 : w2.cell? ⟨w.heap.size, 1, none⟩ = some (.int .i64 (b + bb)) := (blk_cell BK2.out 1).trans rfl
          have hc2 : w2.cell? ⟨w.heap.size, 2, none⟩ = some (.int .i64 (c + by_)) := (blk_cell BK2.out 2).trans rfl
          have hc3 : w2.cell? ⟨w.heap.size, 3, none⟩ = some (.int .i64 (m + bb)) := (blk_cell BK2.out 3).trans rfl
          have hc4 : w2.cell? ⟨w.heap.size, 4, none⟩ = some (.int .i64 q) := (blk_cell BK2.out 4).trans rfl
          have zc0 := blk_frozen BK2.out 0
          have zc1 := blk_frozen BK2.out 1
          have zc2 := blk_frozen BK2.out 2
          have zc3 := blk_frozen BK2.out 3
          have zc4 := blk_frozen BK2.out 4
          have hd0 : w2.cell? ⟨w.heap.size + 1, 0, none⟩ = some (.int .i64 0) := (blk_cell BR2.out 0).trans rfl
          have hd1 : w2.cell? ⟨w.heap.size + 1, 1, none⟩ = some (.int .i64 0) := (blk_cell BR2.out 1).trans rfl
          have hd2 : w2.cell? ⟨w.heap.size + 1, 2, none⟩ = some (.int .i64 0) := (blk_cell BR2.out 2).trans rfl
          have hd3 : w2.cell? ⟨w.heap.size + 1, 3, none⟩ = some (.int .i64 0) := (blk_cell BR2.out 3).trans rfl
          have hd4 : w2.cell? ⟨w.heap.size + 1, 4, none⟩ = some (.int .i64 0) := (blk_cell BR2.out 4).trans rfl
          have zd0 := blk_frozen BR2.out 0
          have zd1 := blk_frozen BR2.out 1
          have zd2 := blk_frozen BR2.out 2
          have zd3 := blk_frozen BR2.out 3
          have zd4 := blk_frozen BR2.out 4
          go_wp2
          refine bodyPost_ret (results_ctt rfl _ _ (w.heap.size + 1) 23 #[.int .i64 0, .int .i64 0, .int .i64 0, .int .i64 0, .int .i64 0] (0, 0) _ rfl (blk_put (cs := #[.int .i64 0, .int .i64 0, .int .i64 0, .int .i64 0, .int .i64 0]) (blk_put (cs := #[.int .i64 0, .int .i64 0, .int .i64 0, .int .i64 0, .int .i64 0]) (blk_put (cs := #[.int .i64 0, .int .i64 0, .int .i64 0, .int .i64 0, .int .i64 0]) (blk_put (cs := #[.int .i64 0, .int .i64 0, .int .i64 0, .int .i64 0, .int .i64 0]) (blk_put (cs := #[.int .i64 0, .int .i64 0, .int .i64 0, .int .i64 0, .int .i64 0]) BR2.out 0 _ rfl) 1 _ rfl) 2 _ rfl) 3 _ rfl) 4 _ rfl) Try.underlying23 rfl (by kernel_rfl)) rfl ?_
          exact ⟨rfl, (((((hbel2.out.setCell (by simp) _).setCell (by simp) _).setCell (by simp) _).setCell (by simp) _).setCell (by simp) _)⟩
      · subst mk
        clear HK
        rcases HR.out with ⟨ht, s1, s2, s3, s4, s5, s6, s7⟩ | ⟨ht, s1, s2, s3, s4, s5, s6, s7⟩
        · subst t r1 r2 r3 r4 r5 r6 r7
          clear HR
          have hc0 : wc.cell? ⟨w.heap.size, 0, none⟩ = some (.int .i64 p) := (blk_cell BK.out 0).trans rfl
          have hc1 : wc.cell? ⟨w.heap.size, 1, none⟩ = some (.int .i64 b) := (blk_cell BK.out 1).trans rfl
          have hc2 : wc.cell? ⟨w.heap.size, 2, none⟩ = some (.int .i64 c) := (blk_cell BK.out 2).trans rfl
          have hc3 : wc.cell? ⟨w.heap.size, 3, none⟩ = some (.int .i64 m) := (blk_cell BK.out 3).trans rfl
          have hc4 : wc.cell? ⟨w.heap.size, 4, none⟩ = some (.int .i64 q) := (blk_cell BK.out 4).trans rfl
          have zc0 := blk_frozen BK.out 0
          have zc1 := blk_frozen BK.out 1
          have zc2 := blk_frozen BK.out 2
          have zc3 := blk_frozen BK.out 3
          have zc4 := blk_frozen BK.out 4
          have hd0 : wc.cell? ⟨w.heap.size + 1, 0, none⟩ = some (.int .i64 0) := (blk_cell BR.out 0).trans rfl
          have hd1 : wc.cell? ⟨w.heap.size + 1, 1, none⟩ = some (.int .i64 0) := (blk_cell BR.out 1).trans rfl
          have hd2 : wc.cell? ⟨w.heap.size + 1, 2, none⟩ = some (.int .i64 0) := (blk_cell BR.out 2).trans rfl
          have hd3 : wc.cell? ⟨w.heap.size + 1, 3, none⟩ = some (.int .i64 0) := (blk_cell BR.out 3).trans rfl
          have hd4 : wc.cell? ⟨w.heap.size + 1, 4, none⟩ = some (.int .i64 0) := (blk_cell BR.out 4).trans rfl
          have zd0 := blk_frozen BR.out 0
          have zd1 := blk_frozen BR.out 1
          have zd2 := blk_frozen BR.out 2
          have zd3 := blk_frozen BR.out 3
          have zd4 := blk_frozen BR.out 4
          go_wp2_with fail
          refine (marks_May.calls _ _ _ _ _ true _ HM.out).mono ?_
          rintro e w2 ⟨rfl, hb2⟩
          have BK2 := Lib.hid (show w2.heap[w.heap.size]? = some (.cells #[.int .i64 (p + n0), .int .i64 (b + bb), .int .i64 (c + by_), .int .i64 (m + by_), .int .i64 q] 23 (0, 0)) from blk_below (blk_put (cs := #[.int .i64 (p + n0), .int .i64 (b + bb), .int .i64 (c + by_), .int .i64 m, .int .i64 q]) (blk_put (cs := #[.int .i64 (p + n0), .int .i64 (b + bb), .int .i64 c, .int .i64 m, .int .i64 q]) (blk_put (cs := #[.int .i64 (p + n0), .int .i64 b, .int .i64 c, .int .i64 m, .int .i64 q]) (blk_put (cs := #[.int .i64 p, .int .i64 b, .int .i64 c, .int .i64 m, .int .i64 q]) BK.out 0 _ rfl) 1 _ rfl) 2 _ rfl) 3 _ rfl) hb2)
          have BR2 := Lib.hid (show w2.heap[w.heap.size + 1]? = some (.cells #[.int .i64 0, .int .i64 0, .int .i64 0, .int .i64 0, .int .i64 0] 23 (0, 0)) from blk_below (blk_far (blk_far (blk_far (blk_far BR.out (by simp) _) (by simp) _) (by simp) _) (by simp) _) hb2)
          have hbel2 := Lib.hid (show Below w.heap.size w w2 from ((((hbel'.out.setCell (by simp) _).setCell (by simp) _).setCell (by simp) _).setCell (by simp) _).trans (hb2.mono (by simp; exact hbel'.out.size)))
          clear hb2 hc0 zc0 hc1 zc1 hc2 zc2 hc3 zc3 hc4 zc4 hd0 zd0 hd1 zd1 hd2 zd2 hd3 zd3 hd4 zd4
          have hc0 : w2.cell? ⟨w.heap.size, 0, none⟩ = some (.int .i64 (p + n0)) := (blk_cell BK2.out 0).trans rfl
          have hc1 : w2.cell? ⟨w.heap.size, 1, none⟩ = some (.int .i64 (b + bb)) := (blk_cell BK2.out 1).trans rfl
          have hc2 : w2.cell? ⟨w.heap.size, 2, none⟩ = some (.int .i64 (c + by_)) := (blk_cell BK2.out 2).trans rfl
          have hc3 : w2.cell? ⟨w.heap.size, 3, none⟩ = some (.int .i64 (m + by_)) := (blk_cell BK2.out 3).trans rfl
          have hc4 : w2.cell? ⟨w.heap.size, 4, none⟩ = some (.int .i64 q) := (blk_cell BK2.out 4).trans rfl
          have zc0 := blk_frozen BK2.out 0
          have zc1 := blk_frozen BK2.out 1
          have zc2 := blk_frozen BK2.out 2
          have zc3 := blk_frozen BK2.out 3
          have zc4 := blk_frozen BK2.out 4
          have hd0 : w2.cell? ⟨w.heap.size + 1, 0, none⟩ = some (.int .i64 0) := (blk_cell BR2.out 0).trans rfl
          have hd1 : w2.cell? ⟨w.heap.size + 1, 1, none⟩ = some (.int .i64 0) := (blk_cell BR2.out 1).trans rfl
          have hd2 : w2.cell? ⟨w.heap.size + 1, 2, none⟩ = some (.int .i64 0) := (blk_cell BR2.out 2).trans rfl
          have hd3 : w2.cell? ⟨w.heap.size + 1, 3, none⟩ = some (.int .i64 0) := (blk_cell BR2.out 3).trans rfl
          have hd4 : w2.cell? ⟨w.heap.size + 1, 4, none⟩ = some (.int .i64 0) := (blk_cell BR2.out 4).trans rfl
          have zd0 := blk_frozen BR2.out 0
          have zd1 := blk_frozen BR2.out 1
          have zd2 := blk_frozen BR2.out 2
          have zd3 := blk_frozen BR2.out 3
          have zd4 := blk_frozen BR2.out 4
          go_wp2
          refine bodyPost_ret (results_ctt rfl _ _ (w.heap.size + 1) 23 #[.int .i64 (p + n0), .int .i64 (b + bb), .int .i64 (c + by_), .int .i64 (m + by_), .int .i64 q] (0, 0) _ rfl (blk_put (cs := #[.int .i64 (p + n0), .int .i64 (b + bb), .int .i64 (c + by_), .int .i64 (m + by_), .int .i64 0]) (blk_put (cs := #[.int .i64 (p + n0), .int .i64 (b + bb), .int .i64 (c + by_), .int .i64 0, .int .i64 0]) (blk_put (cs := #[.int .i64 (p + n0), .int .i64 (b + bb), .int .i64 0, .int .i64 0, .int .i64 0]) (blk_put (cs := #[.int .i64 (p + n0), .int .i64 0, .int .i64 0, .int .i64 0, .int .i64 0]) (blk_put (cs := #[.int .i64 0, .int .i64 0, .int .i64 0, .int .i64 0, .int .i64 0]) BR2.out 0 _ rfl) 1 _ rfl) 2 _ rfl) 3 _ rfl) 4 _ rfl) Try.underlying23 rfl (by kernel_rfl)) rfl ?_
          exact ⟨rfl, (((((hbel2.out.setCell (by simp) _).setCell (by simp) _).setCell (by simp) _).setCell (by simp) _).setCell (by simp) _)⟩
        · subst t r1 r2 r3 r4 r5 r6 r7
          clear HR
          have hc0 : wc.cell? ⟨w.heap.size, 0, none⟩ = some (.int .i64 p) := (blk_cell BK.out 0).trans rfl
          have hc1 : wc.cell? ⟨w.heap.size, 1, none⟩ = some (.int .i64 b) := (blk_cell BK.out 1).trans rfl
          have hc2 : wc.cell? ⟨w.heap.size, 2, none⟩ = some (.int .i64 c) := (blk_cell BK.out 2).trans rfl
          have hc3 : wc.cell? ⟨w.heap.size, 3, none⟩ = some (.int .i64 m) := (blk_cell BK.out 3).trans rfl
          have hc4 : wc.cell? ⟨w.heap.size, 4, none⟩ = some (.int .i64 q) := (blk_cell BK.out 4).trans rfl
          have zc0 := blk_frozen BK.out 0
          have zc1 := blk_frozen BK.out 1
          have zc2 := blk_frozen BK.out 2
          have zc3 := blk_frozen BK.out 3
          have zc4 := blk_frozen BK.out 4
          have hd0 : wc.cell? ⟨w.heap.size + 1, 0, none⟩ = some (.int .i64 0) := (blk_cell BR.out 0).trans rfl
          have hd1 : wc.cell? ⟨w.heap.size + 1, 1, none⟩ = some (.int .i64 0) := (blk_cell BR.out 1).trans rfl
          have hd2 : wc.cell? ⟨w.heap.size + 1, 2, none⟩ = some (.int .i64 0) := (blk_cell BR.out 2).trans rfl
          have hd3 : wc.cell? ⟨w.heap.size + 1, 3, none⟩ = some (.int .i64 0) := (blk_cell BR.out 3).trans rfl
          have hd4 : wc.cell? ⟨w.heap.size + 1, 4, none⟩ = some (.int .i64 0) := (blk_cell BR.out 4).trans rfl
          have zd0 := blk_frozen BR.out 0
          have zd1 := blk_frozen BR.out 1
          have zd2 := blk_frozen BR.out 2
          have zd3 := blk_frozen BR.out 3
          have zd4 := blk_frozen BR.out 4
          go_wp2_with fail
          refine (marks_May.calls _ _ _ _ _ false _ HM.out).mono ?_
          rintro e w2 ⟨rfl, hb2⟩
          have BK2 := Lib.hid (show w2.heap[w.heap.size]? = some (.cells #[.int .i64 (p + n0), .int .i64 (b + bb), .int .i64 (c + by_), .int .i64 (m + by_), .int .i64 q] 23 (0, 0)) from blk_below (blk_put (cs := #[.int .i64 (p + n0), .int .i64 (b + bb), .int .i64 (c + by_), .int .i64 m, .int .i64 q]) (blk_put (cs := #[.int .i64 (p + n0), .int .i64 (b + bb), .int .i64 c, .int .i64 m, .int .i64 q]) (blk_put (cs := #[.int .i64 (p + n0), .int .i64 b, .int .i64 c, .int .i64 m, .int .i64 q]) (blk_put (cs := #[.int .i64 p, .int .i64 b, .int .i64 c, .int .i64 m, .int .i64 q]) BK.out 0 _ rfl) 1 _ rfl) 2 _ rfl) 3 _ rfl) hb2)
          have BR2 := Lib.hid (show w2.heap[w.heap.size + 1]? = some (.cells #[.int .i64 0, .int .i64 0, .int .i64 0, .int .i64 0, .int .i64 0] 23 (0, 0)) from blk_below (blk_far (blk_far (blk_far (blk_far BR.out (by simp) _) (by simp) _) (by simp) _) (by simp) _) hb2)
          have hbel2 := Lib.hid (show Below w.heap.size w w2 from ((((hbel'.out.setCell (by simp) _).setCell (by simp) _).setCell (by simp) _).setCell (by simp) _).trans (hb2.mono (by simp; exact hbel'.out.size)))
          clear hb2 hc0 zc0 hc1 zc1 hc2 zc2 hc3 zc3 hc4 zc4 hd0 zd0 hd1 zd1 hd2 zd2 hd3 zd3 hd4 zd4
          have hc0 : w2.cell? ⟨w.heap.size, 0, none⟩ = some (.int .i64 (p + n0)) := (blk_cell BK2.out 0).trans rfl
          have hc1 : w2.cell? ⟨w.heap.size, 1, none⟩ = some (.int .i64 (b + bb)) := (blk_cell BK2.out 1).trans rfl
          have hc2 : w2.cell? ⟨w.heap.size, 2, none⟩ = some (.int .i64 (c + by_)) := (blk_cell BK2.out 2).trans rfl
          have hc3 : w2.cell? ⟨w.heap.size, 3, none⟩ = some (.int .i64 (m + by_)) := (blk_cell BK2.out 3).trans rfl
          have hc4 : w2.cell? ⟨w.heap.size, 4, none⟩ = some (.int .i64 q) := (blk_cell BK2.out 4).trans rfl
          have zc0 := blk_frozen BK2.out 0
          have zc1 := blk_frozen BK2.out 1
          have zc2 := blk_frozen BK2.out 2
          have zc3 := blk_frozen BK2.out 3
          have zc4 := blk_frozen BK2.out 4
          have hd0 : w2.cell? ⟨w.heap.size + 1, 0, none⟩ = some (.int .i64 0) := (blk_cell BR2.out 0).trans rfl
          have hd1 : w2.cell? ⟨w.heap.size + 1, 1, none⟩ = some (.int .i64 0) := (blk_cell BR2.out 1).trans rfl
          have hd2 : w2.cell? ⟨w.heap.size + 1, 2, none⟩ = some (.int .i64 0) := (blk_cell BR2.out 2).trans rfl
          have hd3 : w2.cell? ⟨w.heap.size + 1, 3, none⟩ = some (.int .i64 0) := (blk_cell BR2.out 3).trans rfl
          have hd4 : w2.cell? ⟨w.heap.size + 1, 4, none⟩ = some (.int .i64 0) := (blk_cell BR2.out 4).trans rfl
          have zd0 := blk_frozen BR2.out 0
          have zd1 := blk_frozen BR2.out 1
          have zd2 := blk_frozen BR2.out 2
          have zd3 := blk_frozen BR2.out 3
          have zd4 := blk_frozen BR2.out 4
          go_wp2
          refine bodyPost_ret (results_ctt rfl _ _ (w.heap.size + 1) 23 #[.int .i64 0, .int .i64 0, .int .i64 0, .int .i64 0, .int .i64 0] (0, 0) _ rfl (blk_put (cs := #[.int .i64 0, .int .i64 0, .int .i64 0, .int .i64 0, .int .i64 0]) (blk_put (cs := #[.int .i64 0, .int .i64 0, .int .i64 0, .int .i64 0, .int .i64 0]) (blk_put (cs := #[.int .i64 0, .int .i64 0, .int .i64 0, .int .i64 0, .int .i64 0]) (blk_put (cs := #[.int .i64 0, .int .i64 0, .int .i64 0, .int .i64 0, .int .i64 0]) (blk_put (cs := #[.int .i64 0, .int .i64 0, .int .i64 0, .int .i64 0, .int .i64 0]) BR2.out 0 _ rfl) 1 _ rfl) 2 _ rfl) 3 _ rfl) 4 _ rfl) Try.underlying23 rfl (by kernel_rfl)) rfl ?_
          exact ⟨rfl, (((((hbel2.out.setCell (by simp) _).setCell (by simp) _).setCell (by simp) _).setCell (by simp) _).setCell (by simp) _)⟩
    · subst n
      clear HN
      rcases HK.out with ⟨hk, hkk⟩ | ⟨hk, hkk⟩
      · subst mk
        clear HK
        rcases HR.out with ⟨ht, s1, s2, s3, s4, s5, s6, s7⟩ | ⟨ht, s1, s2, s3, s4, s5, s6, s7⟩
        · subst t r1 r2 r3 r4 r5 r6 r7
          clear HR
          have hc0 : wc.cell? ⟨w.heap.size, 0, none⟩ = some (.int .i64 p) := (blk_cell BK.out 0).trans rfl
          have hc1 : wc.cell? ⟨w.heap.size, 1, none⟩ = some (.int .i64 b) := (blk_cell BK.out 1).trans rfl
          have hc2 : wc.cell? ⟨w.heap.size, 2, none⟩ = some (.int .i64 c) := (blk_cell BK.out 2).trans rfl
          have hc3 : wc.cell? ⟨w.heap.size, 3, none⟩ = some (.int .i64 m) := (blk_cell BK.out 3).trans rfl
          have hc4 : wc.cell? ⟨w.heap.size, 4, none⟩ = some (.int .i64 q) := (blk_cell BK.out 4).trans rfl
          have zc0 := blk_frozen BK.out 0
          have zc1 := blk_frozen BK.out 1
          have zc2 := blk_frozen BK.out 2
          have zc3 := blk_frozen BK.out 3
          have zc4 := blk_frozen BK.out 4
          have hd0 : wc.cell? ⟨w.heap.size + 1, 0, none⟩ = some (.int .i64 0) := (blk_cell BR.out 0).trans rfl
          have hd1 : wc.cell? ⟨w.heap.size + 1, 1, none⟩ = some (.int .i64 0) := (blk_cell BR.out 1).trans rfl
          have hd2 : wc.cell? ⟨w.heap.size + 1, 2, none⟩ = some (.int .i64 0) := (blk_cell BR.out 2).trans rfl
          have hd3 : wc.cell? ⟨w.heap.size + 1, 3, none⟩ = some (.int .i64 0) := (blk_cell BR.out 3).trans rfl
          have hd4 : wc.cell? ⟨w.heap.size + 1, 4, none⟩ = some (.int .i64 0) := (blk_cell BR.out 4).trans rfl
          have zd0 := blk_frozen BR.out 0
          have zd1 := blk_frozen BR.out 1
          have zd2 := blk_frozen BR.out 2
          have zd3 := blk_frozen BR.out 3
          have zd4 := blk_frozen BR.out 4
          go_wp2_with fail
          refine (marks_May.calls _ _ _ _ _ true _ HM.out).mono ?_
          rintro e w2 ⟨rfl, hb2⟩
          have BK2 := Lib.hid (show w2.heap[w.heap.size]? = some (.cells #[.int .i64 (p + n0), .int .i64 (b + bb), .int .i64 (c + by_), .int .i64 (m + bb), .int .i64 q] 23 (0, 0)) from blk_below (blk_put (cs := #[.int .i64 (p + n0), .int .i64 (b + bb), .int .i64 (c + by_), .int .i64 m, .int .i64 q]) (blk_put (cs := #[.int .i64 (p + n0), .int .i64 (b + bb), .int .i64 c, .int .i64 m, .int .i64 q]) (blk_put (cs := #[.int .i64 (p + n0), .int .i64 b, .int .i64 c, .int .i64 m, .int .i64 q]) (blk_put (cs := #[.int .i64 p, .int .i64 b, .int .i64 c, .int .i64 m, .int .i64 q]) BK.out 0 _ rfl) 1 _ rfl) 2 _ rfl) 3 _ rfl) hb2)
          have BR2 := Lib.hid (show w2.heap[w.heap.size + 1]? = some (.cells #[.int .i64 0, .int .i64 0, .int .i64 0, .int .i64 0, .int .i64 0] 23 (0, 0)) from blk_below (blk_far (blk_far (blk_far (blk_far BR.out (by simp) _) (by simp) _) (by simp) _) (by simp) _) hb2)
          have hbel2 := Lib.hid (show Below w.heap.size w w2 from ((((hbel'.out.setCell (by simp) _).setCell (by simp) _).setCell (by simp) _).setCell (by simp) _).trans (hb2.mono (by simp; exact hbel'.out.size)))
          clear hb2 hc0 zc0 hc1 zc1 hc2 zc2 hc3 zc3 hc4 zc4 hd0 zd0 hd1 zd1 hd2 zd2 hd3 zd3 hd4 zd4
          have hc0 : w2.cell? ⟨w.heap.size, 0, none⟩ = some (.int .i64 (p + n0)) := (blk_cell BK2.out 0).trans rfl
          have hc1 : w2.cell? ⟨w.heap.size, 1, none⟩ = some (.int .i64 (b + bb)) := (blk_cell BK2.out 1).trans rfl
          have hc2 : w2.cell? ⟨w.heap.size, 2, none⟩ = some (.int .i64 (c + by_)) := (blk_cell BK2.out 2).trans rfl
          have hc3 : w2.cell? ⟨w.heap.size, 3, none⟩ = some (.int .i64 (m + bb)) := (blk_cell BK2.out 3).trans rfl
          have hc4 : w2.cell? ⟨w.heap.size, 4, none⟩ = some (.int .i64 q) := (blk_cell BK2.out 4).trans rfl
          have zc0 := blk_frozen BK2.out 0
          have zc1 := blk_frozen BK2.out 1
          have zc2 := blk_frozen BK2.out 2
          have zc3 := blk_frozen BK2.out 3
          have zc4 := blk_frozen BK2.out 4
          have hd0 : w2.cell? ⟨w.heap.size + 1, 0, none⟩ = some (.int .i64 0) := (blk_cell BR2.out 0).trans rfl
          have hd1 : w2.cell? ⟨w.heap.size + 1, 1, none⟩ = some (.int .i64 0) := (blk_cell BR2.out 1).trans rfl
          have hd2 : w2.cell? ⟨w.heap.size + 1, 2, none⟩ = some (.int .i64 0) := (blk_cell BR2.out 2).trans rfl
          have hd3 : w2.cell? ⟨w.heap.size + 1, 3, none⟩ = some (.int .i64 0) := (blk_cell BR2.out 3).trans rfl
          have hd4 : w2.cell? ⟨w.heap.size + 1, 4, none⟩ = some (.int .i64 0) := (blk_cell BR2.out 4).trans rfl
          have zd0 := blk_frozen BR2.out 0
          have zd1 := blk_frozen BR2.out 1
          have zd2 := blk_frozen BR2.out 2
          have zd3 := blk_frozen BR2.out 3
          have zd4 := blk_frozen BR2.out 4
          go_wp2
          refine bodyPost_ret (results_ctt rfl _ _ (w.heap.size + 1) 23 #[.int .i64 (p + n0), .int .i64 (b + bb), .int .i64 (c + by_), .int .i64 (m + bb), .int .i64 q] (0, 0) _ rfl (blk_put (cs := #[.int .i64 (p + n0), .int .i64 (b + bb), .int .i64 (c + by_), .int .i64 (m + bb), .int .i64 0]) (blk_put (cs := #[.int .i64 (p + n0), .int .i64 (b + bb), .int .i64 (c + by_), .int .i64 0, .int .i64 0]) (blk_put (cs := #[.int .i64 (p + n0), .int .i64 (b + bb), .int .i64 0, .int .i64 0, .int .i64 0]) (blk_put (cs := #[.int .i64 (p + n0), .int .i64 0, .int .i64 0, .int .i64 0, .int .i64 0]) (blk_put (cs := #[.int .i64 0, .int .i64 0, .int .i64 0, .int .i64 0, .int .i64 0]) BR2.out 0 _ rfl) 1 _ rfl) 2 _ rfl) 3 _ rfl) 4 _ rfl) Try.underlying23 rfl (by kernel_rfl)) rfl ?_
          exact ⟨rfl, (((((hbel2.out.setCell (by simp) _).setCell (by simp) _).setCell (by simp) _).setCell (by simp) _).setCell (by simp) _)⟩
        · subst t r1 r2 r3 r4 r5 r6 r7
          clear HR
          have hc0 : wc.cell? ⟨w.heap.size, 0, none⟩ = some (.int .i64 p) := (blk_cell BK.out 0).trans rfl
          have hc1 : wc.cell? ⟨w.heap.size, 1, none⟩ = some (.int .i64 b) := (blk_cell BK.out 1).trans rfl
          have hc2 : wc.cell? ⟨w.heap.size, 2, none⟩ = some (.int .i64 c) := (blk_cell BK.out 2).trans rfl
          have hc3 : wc.cell? ⟨w.heap.size, 3, none⟩ = some (.int .i64 m) := (blk_cell BK.out 3).trans rfl
          have hc4 : wc.cell? ⟨w.heap.size, 4, none⟩ = some (.int .i64 q) := (blk_cell BK.out 4).trans rfl
          have zc0 := blk_frozen BK.out 0
          have zc1 := blk_frozen BK.out 1
          have zc2 := blk_frozen BK.out 2
          have zc3 := blk_frozen BK.out 3
          have zc4 := blk_frozen BK.out 4
          have hd0 : wc.cell? ⟨w.heap.size + 1, 0, none⟩ = some (.int .i64 0) := (blk_cell BR.out 0).trans rfl
          have hd1 : wc.cell? ⟨w.heap.size + 1, 1, none⟩ = some (.int .i64 0) := (blk_cell BR.out 1).trans rfl
          have hd2 : wc.cell? ⟨w.heap.size + 1, 2, none⟩ = some (.int .i64 0) := (blk_cell BR.out 2).trans rfl
          have hd3 : wc.cell? ⟨w.heap.size + 1, 3, none⟩ = some (.int .i64 0) := (blk_cell BR.out 3).trans rfl
          have hd4 : wc.cell? ⟨w.heap.size + 1, 4, none⟩ = some (.int .i64 0) := (blk_cell BR.out 4).trans rfl
          have zd0 := blk_frozen BR.out 0
          have zd1 := blk_frozen BR.out 1
          have zd2 := blk_frozen BR.out 2
          have zd3 := blk_frozen BR.out 3
          have zd4 := blk_frozen BR.out 4
          go_wp2_with fail
          refine (marks_May.calls _ _ _ _ _ false _ HM.out).mono ?_
          rintro e w2 ⟨rfl, hb2⟩
          have BK2 := Lib.hid (show w2.heap[w.heap.size]? = some (.cells #[.int .i64 (p + n0), .int .i64 (b + bb), .int .i64 (c + by_), .int .i64 (m + bb), .int .i64 q] 23 (0, 0)) from blk_below (blk_put (cs := #[.int .i64 (p + n0), .int .i64 (b + bb), .int .i64 (c + by_), .int .i64 m, .int .i64 q]) (blk_put (cs := #[.int .i64 (p + n0), .int .i64 (b + bb), .int .i64 c, .int .i64 m, .int .i64 q]) (blk_put (cs := #[.int .i64 (p + n0), .int .i64 b, .int .i64 c, .int .i64 m, .int .i64 q]) (blk_put (cs := #[.int .i64 p, .int .i64 b, .int .i64 c, .int .i64 m, .int .i64 q]) BK.out 0 _ rfl) 1 _ rfl) 2 _ rfl) 3 _ rfl) hb2)
          have BR2 := Lib.hid (show w2.heap[w.heap.size + 1]? = some (.cells #[.int .i64 0, .int .i64 0, .int .i64 0, .int .i64 0, .int .i64 0] 23 (0, 0)) from blk_below (blk_far (blk_far (blk_far (blk_far BR.out (by simp) _) (by simp) _) (by simp) _) (by simp) _) hb2)
          have hbel2 := Lib.hid (show Below w.heap.size w w2 from ((((hbel'.out.setCell (by simp) _).setCell (by simp) _).setCell (by simp) _).setCell (by simp) _).trans (hb2.mono (by simp; exact hbel'.out.size)))
          clear hb2 hc0 zc0 hc1 zc1 hc2 zc2 hc3 zc3 hc4 zc4 hd0 zd0 hd1 zd1 hd2 zd2 hd3 zd3 hd4 zd4
          have hc0 : w2.cell? ⟨w.heap.size, 0, none⟩ = some (.int .i64 (p + n0)) := (blk_cell BK2.out 0).trans rfl
          have hc1 : w2.cell? ⟨w.heap.size, 1, none⟩ = some (.int .i64 (b + bb)) := (blk_cell BK2.out 1).trans rfl
          have hc2 : w2.cell? ⟨w.heap.size, 2, none⟩ = some (.int .i64 (c + by_)) := (blk_cell BK2.out 2).trans rfl
          have hc3 : w2.cell? ⟨w.heap.size, 3, none⟩ = some (.int .i64 (m + bb)) := (blk_cell BK2.out 3).trans rfl
          have hc4 : w2.cell? ⟨w.heap.size, 4, none⟩ = some (.int .i64 q) := (blk_cell BK2.out 4).trans rfl
          have zc0 := blk_frozen BK2.out 0
          have zc1 := blk_frozen BK2.out 1
          have zc2 := blk_frozen BK2.out 2
          have zc3 := blk_frozen BK2.out 3
          have zc4 := blk_frozen BK2.out 4
          have hd0 : w2.cell? ⟨w.heap.size + 1, 0, none⟩ = some (.int .i64 0) := (blk_cell BR2.out 0).trans rfl
          have hd1 : w2.cell? ⟨w.heap.size + 1, 1, none⟩ = some (.int .i64 0) := (blk_cell BR2.out 1).trans rfl
          have hd2 : w2.cell? ⟨w.heap.size + 1, 2, none⟩ = some (.int .i64 0) := (blk_cell BR2.out 2).trans rfl
          have hd3 : w2.cell? ⟨w.heap.size + 1, 3, none⟩ = some (.int .i64 0) := (blk_cell BR2.out 3).trans rfl
          have hd4 : w2.cell? ⟨w.heap.size + 1, 4, none⟩ = some (.int .i64 0) := (blk_cell BR2.out 4).trans rfl
          have zd0 := blk_frozen BR2.out 0
          have zd1 := blk_frozen BR2.out 1
          have zd2 := blk_frozen BR2.out 2
          have zd3 := blk_frozen BR2.out 3
          have zd4 := blk_frozen BR2.out 4
          go_wp2
          refine bodyPost_ret (results_ctt rfl _ _ (w.heap.size + 1) 23 #[.int .i64 0, .int .i64 0, .int .i64 0, .int .i64 0, .int .i64 0] (0, 0) _ rfl (blk_put (cs := #[.int .i64 0, .int .i64 0, .int .i64 0, .int .i64 0, .int .i64 0]) (blk_put (cs := #[.int .i64 0, .int .i64 0, .int .i64 0, .int .i64 0, .int .i64 0]) (blk_put (cs := #[.int .i64 0, .int .i64 0, .int .i64 0, .int .i64 0, .int .i64 0]) (blk_put (cs := #[.int .i64 0, .int .i64 0, .int .i64 0, .int .i64 0, .int .i64 0]) (blk_put (cs := #[.int .i64 0, .int .i64 0, .int .i64 0, .int .i64 0, .int .i64 0]) BR2.out 0 _ rfl) 1 _ rfl) 2 _ rfl) 3 _ rfl) 4 _ rfl) Try.underlying23 rfl (by kernel_rfl)) rfl ?_
          exact ⟨rfl, (((((hbel2.out.setCell (by simp) _).setCell (by simp) _).setCell (by simp) _).setCell (by simp) _).setCell (by simp) _)⟩
      · exact absurd hp2 (by omega)
    · subst n
      clear HN
      rcases HK.out with ⟨hk, hkk⟩ | ⟨hk, hkk⟩
      · subst mk
        clear HK
        rcases HR.out with ⟨ht, s1, s2, s3, s4, s5, s6, s7⟩ | ⟨ht, s1, s2, s3, s4, s5, s6, s7⟩
        · subst t r1 r2 r3 r4 r5 r6 r7
          clear HR
          have hc0 : wc.cell? ⟨w.heap.size, 0, none⟩ = some (.int .i64 p) := (blk_cell BK.out 0).trans rfl
          have hc1 : wc.cell? ⟨w.heap.size, 1, none⟩ = some (.int .i64 b) := (blk_cell BK.out 1).trans rfl
          have hc2 : wc.cell? ⟨w.heap.size, 2, none⟩ = some (.int .i64 c) := (blk_cell BK.out 2).trans rfl
          have hc3 : wc.cell? ⟨w.heap.size, 3, none⟩ = some (.int .i64 m) := (blk_cell BK.out 3).trans rfl
          have hc4 : wc.cell? ⟨w.heap.size, 4, none⟩ = some (.int .i64 q) := (blk_cell BK.out 4).trans rfl
          have zc0 := blk_frozen BK.out 0
          have zc1 := blk_frozen BK.out 1
          have zc2 := blk_frozen BK.out 2
          have zc3 := blk_frozen BK.out 3
          have zc4 := blk_frozen BK.out 4
          have hd0 : wc.cell? ⟨w.heap.size + 1, 0, none⟩ = some (.int .i64 0) := (blk_cell BR.out 0).trans rfl
          have hd1 : wc.cell? ⟨w.heap.size + 1, 1, none⟩ = some (.int .i64 0) := (blk_cell BR.out 1).trans rfl
          have hd2 : wc.cell? ⟨w.heap.size + 1, 2, none⟩ = some (.int .i64 0) := (blk_cell BR.out 2).trans rfl
          have hd3 : wc.cell? ⟨w.heap.size + 1, 3, none⟩ = some (.int .i64 0) := (blk_cell BR.out 3).trans rfl
          have hd4 : wc.cell? ⟨w.heap.size + 1, 4, none⟩ = some (.int .i64 0) := (blk_cell BR.out 4).trans rfl
          have zd0 := blk_frozen BR.out 0
          have zd1 := blk_frozen BR.out 1
          have zd2 := blk_frozen BR.out 2
          have zd3 := blk_frozen BR.out 3
          have zd4 := blk_frozen BR.out 4
          go_wp2_with fail
          refine (marks_May.calls _ _ _ _ _ true _ HM.out).mono ?_
          rintro e w2 ⟨rfl, hb2⟩
          have BK2 := Lib.hid (show w2.heap[w.heap.size]? = some (.cells #[.int .i64 (p + (pk - (pk - n0) % 8)), .int .i64 (b + bb), .int .i64 (c + by_), .int .i64 (m + bb), .int .i64 q] 23 (0, 0)) from blk_below (blk_put (cs := #[.int .i64 (p + (pk - (pk - n0) % 8)), .int .i64 (b + bb), .int .i64 (c + by_), .int .i64 m, .int .i64 q]) (blk_put (cs := #[.int .i64 (p + (pk - (pk - n0) % 8)), .int .i64 (b + bb), .int .i64 c, .int .i64 m, .int .i64 q]) (blk_put (cs := #[.int .i64 (p + (pk - (pk - n0) % 8)), .int .i64 b, .int .i64 c, .int .i64 m, .int .i64 q]) (blk_put (cs := #[.int .i64 p, .int .i64 b, .int .i64 c, .int .i64 m, .int .i64 q]) BK.out 0 _ rfl) 1 _ rfl) 2 _ rfl) 3 _ rfl) hb2)
          have BR2 := Lib.hid (show w2.heap[w.heap.size + 1]? = some (.cells #[.int .i64 0, .int .i64 0, .int .i64 0, .int .i64 0, .int .i64 0] 23 (0, 0)) from blk_below (blk_far (blk_far (blk_far (blk_far BR.out (by simp) _) (by simp) _) (by simp) _) (by simp) _) hb2)
          have hbel2 := Lib.hid (show Below w.heap.size w w2 from ((((hbel'.out.setCell (by simp) _).setCell (by simp) _).setCell (by simp) _).setCell (by simp) _).trans (hb2.mono (by simp; exact hbel'.out.size)))
          clear hb2 hc0 zc0 hc1 zc1 hc2 zc2 hc3 zc3 hc4 zc4 hd0 zd0 hd1 zd1 hd2 zd2 hd3 zd3 hd4 zd4
          have hc0 : w2.cell? ⟨w.heap.size, 0, none⟩ = some (.int .i64 (p + (pk - (pk - n0) % 8))) := (blk_cell BK2.out 0).trans rfl
          have hc1 : w2.cell? ⟨w.heap.size, 1, none⟩ = some (.int .i64 (b + bb)) := (blk_cell BK2.out 1).trans rfl
          have hc2 : w2.cell? ⟨w.heap.size, 2, none⟩ = some (.int .i64 (c + by_)) := (blk_cell BK2.out 2).trans rfl
          have hc3 : w2.cell? ⟨w.heap.size, 3, none⟩ = some (.int .i64 (m + bb)) := (blk_cell BK2.out 3).trans rfl
          have hc4 : w2.cell? ⟨w.heap.size, 4, none⟩ = some (.int .i64 q) := (blk_cell BK2.out 4).trans rfl
          have zc0 := blk_frozen BK2.out 0
          have zc1 := blk_frozen BK2.out 1
          have zc2 := blk_frozen BK2.out 2
          have zc3 := blk_frozen BK2.out 3
          have zc4 := blk_frozen BK2.out 4
          have hd0 : w2.cell? ⟨w.heap.size + 1, 0, none⟩ = some (.int .i64 0) := (blk_cell BR2.out 0).trans rfl
          have hd1 : w2.cell? ⟨w.heap.size + 1, 1, none⟩ = some (.int .i64 0) := (blk_cell BR2.out 1).trans rfl
          have hd2 : w2.cell? ⟨w.heap.size + 1, 2, none⟩ = some (.int .i64 0) := (blk_cell BR2.out 2).trans rfl
          have hd3 : w2.cell? ⟨w.heap.size + 1, 3, none⟩ = some (.int .i64 0) := (blk_cell BR2.out 3).trans rfl
          have hd4 : w2.cell? ⟨w.heap.size + 1, 4, none⟩ = some (.int .i64 0) := (blk_cell BR2.out 4).trans rfl
          have zd0 := blk_frozen BR2.out 0
          have zd1 := blk_frozen BR2.out 1
          have zd2 := blk_frozen BR2.out 2
          have zd3 := blk_frozen BR2.out 3
          have zd4 := blk_frozen BR2.out 4
          go_wp2
          refine bodyPost_ret (results_ctt rfl _ _ (w.heap.size + 1) 23 #[.int .i64 (p + (pk - (pk - n0) % 8)), .int .i64 (b + bb), .int .i64 (c + by_), .int .i64 (m + bb), .int .i64 q] (0, 0) _ rfl (blk_put (cs := #[.int .i64 (p + (pk - (pk - n0) % 8)), .int .i64 (b + bb), .int .i64 (c + by_), .int .i64 (m + bb), .int .i64 0]) (blk_put (cs := #[.int .i64 (p + (pk - (pk - n0) % 8)), .int .i64 (b + bb), .int .i64 (c + by_), .int .i64 0, .int .i64 0]) (blk_put (cs := #[.int .i64 (p + (pk - (pk - n0) % 8)), .int .i64 (b + bb), .int .i64 0, .int .i64 0, .int .i64 0]) (blk_put (cs := #[.int .i64 (p + (pk - (pk - n0) % 8)), .int .i64 0, .int .i64 0, .int .i64 0, .int .i64 0]) (blk_put (cs := #[.int .i64 0, .int .i64 0, .int .i64 0, .int .i64 0, .int .i64 0]) BR2.out 0 _ rfl) 1 _ rfl) 2 _ rfl) 3 _ rfl) 4 _ rfl) Try.underlying23 rfl (by kernel_rfl)) rfl ?_
          exact ⟨rfl, (((((hbel2.out.setCell (by simp) _).setCell (by simp) _).setCell (by simp) _).setCell (by simp) _).setCell (by simp) _)⟩
        · subst t r1 r2 r3 r4 r5 r6 r7
          clear HR
          have hc0 : wc.cell? ⟨w.heap.size, 0, none⟩ = some (.int .i64 p) := (blk_cell BK.out 0).trans rfl
          have hc1 : wc.cell? ⟨w.heap.size, 1, none⟩ = some (.int .i64 b) := (blk_cell BK.out 1).trans rfl
          have hc2 : wc.cell? ⟨w.heap.size, 2, none⟩ = some (.int .i64 c) := (blk_cell BK.out 2).trans rfl
          have hc3 : wc.cell? ⟨w.heap.size, 3, none⟩ = some (.int .i64 m) := (blk_cell BK.out 3).trans rfl
          have hc4 : wc.cell? ⟨w.heap.size, 4, none⟩ = some (.int .i64 q) := (blk_cell BK.out 4).trans rfl
          have zc0 := blk_frozen BK.out 0
          have zc1 := blk_frozen BK.out 1
          have zc2 := blk_frozen BK.out 2
          have zc3 := blk_frozen BK.out 3
          have zc4 := blk_frozen BK.out 4
          have hd0 : wc.cell? ⟨w.heap.size + 1, 0, none⟩ = some (.int .i64 0) := (blk_cell BR.out 0).trans rfl
          have hd1 : wc.cell? ⟨w.heap.size + 1, 1, none⟩ = some (.int .i64 0) := (blk_cell BR.out 1).trans rfl
          have hd2 : wc.cell? ⟨w.heap.size + 1, 2, none⟩ = some (.int .i64 0) := (blk_cell BR.out 2).trans rfl
          have hd3 : wc.cell? ⟨w.heap.size + 1, 3, none⟩ = some (.int .i64 0) := (blk_cell BR.out 3).trans rfl
          have hd4 : wc.cell? ⟨w.heap.size + 1, 4, none⟩ = some (.int .i64 0) := (blk_cell BR.out 4).trans rfl
          have zd0 := blk_frozen BR.out 0
          have zd1 := blk_frozen BR.out 1
          have zd2 := blk_frozen BR.out 2
          have zd3 := blk_frozen BR.out 3
          have zd4 := blk_frozen BR.out 4
          go_wp2_with fail
          refine (marks_May.calls _ _ _ _ _ false _ HM.out).mono ?_
          rintro e w2 ⟨rfl, hb2⟩
          have BK2 := Lib.hid (show w2.heap[w.heap.size]? = some (.cells #[.int .i64 (p + (pk - (pk - n0) % 8)), .int .i64 (b + bb), .int .i64 (c + by_), .int .i64 (m + bb), .int .i64 q] 23 (0, 0)) from blk_below (blk_put (cs := #[.int .i64 (p + (pk - (pk - n0) % 8)), .int .i64 (b + bb), .int .i64 (c + by_), .int .i64 m, .int .i64 q]) (blk_put (cs := #[.int .i64 (p + (pk - (pk - n0) % 8)), .int .i64 (b + bb), .int .i64 c, .int .i64 m, .int .i64 q]) (blk_put (cs := #[.int .i64 (p + (pk - (pk - n0) % 8)), .int .i64 b, .int .i64 c, .int .i64 m, .int .i64 q]) (blk_put (cs := #[.int .i64 p, .int .i64 b, .int .i64 c, .int .i64 m, .int .i64 q]) BK.out 0 _ rfl) 1 _ rfl) 2 _ rfl) 3 _ rfl) hb2)
          have BR2 := Lib.hid (show w2.heap[w.heap.size + 1]? = some (.cells #[.int .i64 0, .int .i64 0, .int .i64 0, .int .i64 0, .int .i64 0] 23 (0, 0)) from blk_below (blk_far (blk_far (blk_far (blk_far BR.out (by simp) _) (by simp) _) (by simp) _) (by simp) _) hb2)
          have hbel2 := Lib.hid (show Below w.heap.size w w2 from ((((hbel'.out.setCell (by simp) _).setCell (by simp) _).setCell (by simp) _).setCell (by simp) _).trans (hb2.mono (by simp; exact hbel'.out.size)))
          clear hb2 hc0 zc0 hc1 zc1 hc2 zc2 hc3 zc3 hc4 zc4 hd0 zd0 hd1 zd1 hd2 zd2 hd3 zd3 hd4 zd4
          have hc0 : w2.cell? ⟨w.heap.size, 0, none⟩ = some (.int .i64 (p + (pk - (pk - n0) % 8))) := (blk_cell BK2.out 0).trans rfl
          have hc1 : w2.cell? ⟨w.heap.size, 1, none⟩ = some (.int .i64 (b + bb)) := (blk_cell BK2.out 1).trans rfl
          have hc2 : w2.cell? ⟨w.heap.size, 2, none⟩ = some (.int .i64 (c + by_)) := (blk_cell BK2.out 2).trans rfl
          have hc3 : w2.cell? ⟨w.heap.size, 3, none⟩ = some (.int .i64 (m + bb)) := (blk_cell BK2.out 3).trans rfl
          have hc4 : w2.cell? ⟨w.heap.size, 4, none⟩ = some (.int .i64 q) := (blk_cell BK2.out 4).trans rfl
          have zc0 := blk_frozen BK2.out 0
          have zc1 := blk_frozen BK2.out 1
          have zc2 := blk_frozen BK2.out 2
          have zc3 := blk_frozen BK2.out 3
          have zc4 := blk_frozen BK2.out 4
          have hd0 : w2.cell? ⟨w.heap.size + 1, 0, none⟩ = some (.int .i64 0) := (blk_cell BR2.out 0).trans rfl
          have hd1 : w2.cell? ⟨w.heap.size + 1, 1, none⟩ = some (.int .i64 0) := (blk_cell BR2.out 1).trans rfl
          have hd2 : w2.cell? ⟨w.heap.size + 1, 2, none⟩ = some (.int .i64 0) := (blk_cell BR2.out 2).trans rfl
          have hd3 : w2.cell? ⟨w.heap.size + 1, 3, none⟩ = some (.int .i64 0) := (blk_cell BR2.out 3).trans rfl
          have hd4 : w2.cell? ⟨w.heap.size + 1, 4, none⟩ = some (.int .i64 0) := (blk_cell BR2.out 4).trans rfl
          have zd0 := blk_frozen BR2.out 0
          have zd1 := blk_frozen BR2.out 1
          have zd2 := blk_frozen BR2.out 2
          have zd3 := blk_frozen BR2.out 3
          have zd4 := blk_frozen BR2.out 4
          go_wp2
          refine bodyPost_ret (results_ctt rfl _ _ (w.heap.size + 1) 23 #[.int .i64 0, .int .i64 0, .int .i64 0, .int .i64 0, .int .i64 0] (0, 0) _ rfl (blk_put (cs := #[.int .i64 0, .int .i64 0, .int .i64 0, .int .i64 0, .int .i64 0]) (blk_put (cs := #[.int .i64 0, .int .i64 0, .int .i64 0, .int .i64 0, .int .i64 0]) (blk_put (cs := #[.int .i64 0, .int .i64 0, .int .i64 0, .int .i64 0, .int .i64 0]) (blk_put (cs := #[.int .i64 0, .int .i64 0, .int .i64 0, .int .i64 0, .int .i64 0]) (blk_put (cs := #[.int .i64 0, .int .i64 0, .int .i64 0, .int .i64 0, .int .i64 0]) BR2.out 0 _ rfl) 1 _ rfl) 2 _ rfl) 3 _ rfl) 4 _ rfl) Try.underlying23 rfl (by kernel_rfl)) rfl ?_
          exact ⟨rfl, (((((hbel2.out.setCell (by simp) _).setCell (by simp) _).setCell (by simp) _).setCell (by simp) _).setCell (by simp) _)⟩
      · subst mk
        clear HK
        rcases HR.out with ⟨ht, s1, s2, s3, s4, s5, s6, s7⟩ | ⟨ht, s1, s2, s3, s4, s5, s6, s7⟩
        · subst t r1 r2 r3 r4 r5 r6 r7
          clear HR
          have hc0 : wc.cell? ⟨w.heap.size, 0, none⟩ = some (.int .i64 p) := (blk_cell BK.out 0).trans rfl
          have hc1 : wc.cell? ⟨w.heap.size, 1, none⟩ = some (.int .i64 b) := (blk_cell BK.out 1).trans rfl
          have hc2 : wc.cell? ⟨w.heap.size, 2, none⟩ = some (.int .i64 c) := (blk_cell BK.out 2).trans rfl
          have hc3 : wc.cell? ⟨w.heap.size, 3, none⟩ = some (.int .i64 m) := (blk_cell BK.out 3).trans rfl
          have hc4 : wc.cell? ⟨w.heap.size, 4, none⟩ = some (.int .i64 q) := (blk_cell BK.out 4).trans rfl
          have zc0 := blk_frozen BK.out 0
          have zc1 := blk_frozen BK.out 1
          have zc2 := blk_frozen BK.out 2
          have zc3 := blk_frozen BK.out 3
          have zc4 := blk_frozen BK.out 4
          have hd0 : wc.cell? ⟨w.heap.size + 1, 0, none⟩ = some (.int .i64 0) := (blk_cell BR.out 0).trans rfl
          have hd1 : wc.cell? ⟨w.heap.size + 1, 1, none⟩ = some (.int .i64 0) := (blk_cell BR.out 1).trans rfl
          have hd2 : wc.cell? ⟨w.heap.size + 1, 2, none⟩ = some (.int .i64 0) := (blk_cell BR.out 2).trans rfl
          have hd3 : wc.cell? ⟨w.heap.size + 1, 3, none⟩ = some (.int .i64 0) := (blk_cell BR.out 3).trans rfl
          have hd4 : wc.cell? ⟨w.heap.size + 1, 4, none⟩ = some (.int .i64 0) := (blk_cell BR.out 4).trans rfl
          have zd0 := blk_frozen BR.out 0
          have zd1 := blk_frozen BR.out 1
          have zd2 := blk_frozen BR.out 2
          have zd3 := blk_frozen BR.out 3
          have zd4 := blk_frozen BR.out 4
          go_wp2_with fail
          refine (marks_May.calls _ _ _ _ _ true _ HM.out).mono ?_
          rintro e w2 ⟨rfl, hb2⟩
          have BK2 := Lib.hid (show w2.heap[w.heap.size]? = some (.cells #[.int .i64 (p + (pk - (pk - n0) % 8)), .int .i64 (b + bb), .int .i64 (c + by_), .int .i64 (m + by_), .int .i64 q] 23 (0, 0)) from blk_below (blk_put (cs := #[.int .i64 (p + (pk - (pk - n0) % 8)), .int .i64 (b + bb), .int .i64 (c + by_), .int .i64 m, .int .i64 q]) (blk_put (cs := #[.int .i64 (p + (pk - (pk - n0) % 8)), .int .i64 (b + bb), .int .i64 c, .int .i64 m, .int .i64 q]) (blk_put (cs := #[.int .i64 (p + (pk - (pk - n0) % 8)), .int .i64 b, .int .i64 c, .int .i64 m, .int .i64 q]) (blk_put (cs := #[.int .i64 p, .int .i64 b, .int .i64 c, .int .i64 m, .int .i64 q]) BK.out 0 _ rfl) 1 _ rfl) 2 _ rfl) 3 _ rfl) hb2)
          have BR2 := Lib.hid (show w2.heap[w.heap.size + 1]? = some (.cells #[.int .i64 0, .int .i64 0, .int .i64 0, .int .i64 0, .int .i64 0] 23 (0, 0)) from blk_below (blk_far (blk_far (blk_far (blk_far BR.out (by simp) _) (by simp) _) (by simp) _) (by simp) _) hb2)
          have hbel2 := Lib.hid (show Below w.heap.size w w2 from ((((hbel'.out.setCell (by simp) _).setCell (by simp) _).setCell (by simp) _).setCell (by simp) _).trans (hb2.mono (by simp; exact hbel'.out.size)))
          clear hb2 hc0 zc0 hc1 zc1 hc2 zc2 hc3 zc3 hc4 zc4 hd0 zd0 hd1 zd1 hd2 zd2 hd3 zd3 hd4 zd4
          have hc0 : w2.cell? ⟨w.heap.size, 0, none⟩ = some (.int .i64 (p + (pk - (pk - n0) % 8))) := (blk_cell BK2.out 0).trans rfl
          have hc1 : w2.cell? ⟨w.heap.size, 1, none⟩ = some (.int .i64 (b + bb)) := (blk_cell BK2.out 1).trans rfl
          have hc2 : w2.cell? ⟨w.heap.size, 2, none⟩ = some (.int .i64 (c + by_)) := (blk_cell BK2.out 2).trans rfl
          have hc3 : w2.cell? ⟨w.heap.size, 3, none⟩ = some (.int .i64 (m + by_)) := (blk_cell BK2.out 3).trans rfl
          have hc4 : w2.cell? ⟨w.heap.size, 4, none⟩ = some (.int .i64 q) := (blk_cell BK2.out 4).trans rfl
          have zc0 := blk_frozen BK2.out 0
          have zc1 := blk_frozen BK2.out 1
          have zc2 := blk_frozen BK2.out 2
          have zc3 := blk_frozen BK2.out 3
          have zc4 := blk_frozen BK2.out 4
          have hd0 : w2.cell? ⟨w.heap.size + 1, 0, none⟩ = some (.int .i64 0) := (blk_cell BR2.out 0).trans rfl
          have hd1 : w2.cell? ⟨w.heap.size + 1, 1, none⟩ = some (.int .i64 0) := (blk_cell BR2.out 1).trans rfl
          have hd2 : w2.cell? ⟨w.heap.size + 1, 2, none⟩ = some (.int .i64 0) := (blk_cell BR2.out 2).trans rfl
          have hd3 : w2.cell? ⟨w.heap.size + 1, 3, none⟩ = some (.int .i64 0) := (blk_cell BR2.out 3).trans rfl
          have hd4 : w2.cell? ⟨w.heap.size + 1, 4, none⟩ = some (.int .i64 0) := (blk_cell BR2.out 4).trans rfl
          have zd0 := blk_frozen BR2.out 0
          have zd1 := blk_frozen BR2.out 1
          have zd2 := blk_frozen BR2.out 2
          have zd3 := blk_frozen BR2.out 3
          have zd4 := blk_frozen BR2.out 4
          go_wp2
          refine bodyPost_ret (results_ctt rfl _ _ (w.heap.size + 1) 23 #[.int .i64 (p + (pk - (pk - n0) % 8)), .int .i64 (b + bb), .int .i64 (c + by_), .int .i64 (m + by_), .int .i64 q] (0, 0) _ rfl (blk_put (cs := #[.int .i64 (p + (pk - (pk - n0) % 8)), .int .i64 (b + bb), .int .i64 (c + by_), .int .i64 (m + by_), .int .i64 0]) (blk_put (cs := #[.int .i64 (p + (pk - (pk - n0) % 8)), .int .i64 (b + bb), .int .i64 (c + by_), .int .i64 0, .int .i64 0]) (blk_put (cs := #[.int .i64 (p + (pk - (pk - n0) % 8)), .int .i64 (b + bb), .int .i64 0, .int .i64 0, .int .i64 0]) (blk_put (cs := #[.int .i64 (p + (pk - (pk - n0) % 8)), .int .i64 0, .int .i64 0, .int .i64 0, .int .i64 0]) (blk_put (cs := #[.int .i64 0, .int .i64 0, .int .i64 0, .int .i64 0, .int .i64 0]) BR2.out 0 _ rfl) 1 _ rfl) 2 _ rfl) 3 _ rfl) 4 _ rfl) Try.underlying23 rfl (by kernel_rfl)) rfl ?_
          exact ⟨rfl, (((((hbel2.out.setCell (by simp) _).setCell (by simp) _).setCell (by simp) _).setCell (by simp) _).setCell (by simp) _)⟩
        · subst t r1 r2 r3 r4 r5 r6 r7
          clear HR
          have hc0 : wc.cell? ⟨w.heap.size, 0, none⟩ = some (.int .i64 p) := (blk_cell BK.out 0).trans rfl
          have hc1 : wc.cell? ⟨w.heap.size, 1, none⟩ = some (.int .i64 b) := (blk_cell BK.out 1).trans rfl
          have hc2 : wc.cell? ⟨w.heap.size, 2, none⟩ = some (.int .i64 c) := (blk_cell BK.out 2).trans rfl
          have hc3 : wc.cell? ⟨w.heap.size, 3, none⟩ = some (.int .i64 m) := (blk_cell BK.out 3).trans rfl
          have hc4 : wc.cell? ⟨w.heap.size, 4, none⟩ = some (.int .i64 q) := (blk_cell BK.out 4).trans rfl
          have zc0 := blk_frozen BK.out 0
          have zc1 := blk_frozen BK.out 1
          have zc2 := blk_frozen BK.out 2
          have zc3 := blk_frozen BK.out 3
          have zc4 := blk_frozen BK.out 4
          have hd0 : wc.cell? ⟨w.heap.size + 1, 0, none⟩ = some (.int .i64 0) := (blk_cell BR.out 0).trans rfl
          have hd1 : wc.cell? ⟨w.heap.size + 1, 1, none⟩ = some (.int .i64 0) := (blk_cell BR.out 1).trans rfl
          have hd2 : wc.cell? ⟨w.heap.size + 1, 2, none⟩ = some (.int .i64 0) := (blk_cell BR.out 2).trans rfl
          have hd3 : wc.cell? ⟨w.heap.size + 1, 3, none⟩ = some (.int .i64 0) := (blk_cell BR.out 3).trans rfl
          have hd4 : wc.cell? ⟨w.heap.size + 1, 4, none⟩ = some (.int .i64 0) := (blk_cell BR.out 4).trans rfl
          have zd0 := blk_frozen BR.out 0
          have zd1 := blk_frozen BR.out 1
          have zd2 := blk_frozen BR.out 2
          have zd3 := blk_frozen BR.out 3
          have zd4 := blk_frozen BR.out 4
          go_wp2_with fail
          refine (marks_May.calls _ _ _ _ _ false _ HM.out).mono ?_
          rintro e w2 ⟨rfl, hb2⟩
          have BK2 := Lib.hid (show w2.heap[w.heap.size]? = some (.cells #[.int .i64 (p + (pk - (pk - n0) % 8)), .int .i64 (b + bb), .int .i64 (c + by_), .int .i64 (m + by_), .int .i64 q] 23 (0, 0)) from blk_below (blk_put (cs := #[.int .i64 (p + (pk - (pk - n0) % 8)), .int .i64 (b + bb), .int .i64 (c + by_), .int .i64 m, .int .i64 q]) (blk_put (cs := #[.int .i64 (p + (pk - (pk - n0) % 8)), .int .i64 (b + bb), .int .i64 c, .int .i64 m, .int .i64 q]) (blk_put (cs := #[.int .i64 (p + (pk - (pk - n0) % 8)), .int .i64 b, .int .i64 c, .int .i64 m, .int .i64 q]) (blk_put (cs := #[.int .i64 p, .int .i64 b, .int .i64 c, .int .i64 m, .int .i64 q]) BK.out 0 _ rfl) 1 _ rfl) 2 _ rfl) 3 _ rfl) hb2)
          have BR2 := Lib.hid (show w2.heap[w.heap.size + 1]? = some (.cells #[.int .i64 0, .int .i64 0, .int .i64 0, .int .i64 0, .int .i64 0] 23 (0, 0)) from blk_below (blk_far (blk_far (blk_far (blk_far BR.out (by simp) _) (by simp) _) (by simp) _) (by simp) _) hb2)
          have hbel2 := Lib.hid (show Below w.heap.size w w2 from ((((hbel'.out.setCell (by simp) _).setCell (by simp) _).setCell (by simp) _).setCell (by simp) _).trans (hb2.mono (by simp; exact hbel'.out.size)))
          clear hb2 hc0 zc0 hc1 zc1 hc2 zc2 hc3 zc3 hc4 zc4 hd0 zd0 hd1 zd1 hd2 zd2 hd3 zd3 hd4 zd4
          have hc0 : w2.cell? ⟨w.heap.size, 0, none⟩ = some (.int .i64 (p + (pk - (pk - n0) % 8))) := (blk_cell BK2.out 0).trans rfl
          have hc1 : w2.cell? ⟨w.heap.size, 1, none⟩ = some (.int .i64 (b + bb)) := (blk_cell BK2.out 1).trans rfl
          have hc2 : w2.cell? ⟨w.heap.size, 2, none⟩ = some (.int .i64 (c + by_)) := (blk_cell BK2.out 2).trans rfl
          have hc3 : w2.cell? ⟨w.heap.size, 3, none⟩ = some (.int .i64 (m + by_)) := (blk_cell BK2.out 3).trans rfl
          have hc4 : w2.cell? ⟨w.heap.size, 4, none⟩ = some (.int .i64 q) := (blk_cell BK2.out 4).trans rfl
          have zc0 := blk_frozen BK2.out 0
          have zc1 := blk_frozen BK2.out 1
          have zc2 := blk_frozen BK2.out 2
          have zc3 := blk_frozen BK2.out 3
          have zc4 := blk_frozen BK2.out 4
          have hd0 : w2.cell? ⟨w.heap.size + 1, 0, none⟩ = some (.int .i64 0) := (blk_cell BR2.out 0).trans rfl
          have hd1 : w2.cell? ⟨w.heap.size + 1, 1, none⟩ = some (.int .i64 0) := (blk_cell BR2.out 1).trans rfl
          have hd2 : w2.cell? ⟨w.heap.size + 1, 2, none⟩ = some (.int .i64 0) := (blk_cell BR2.out 2).trans rfl
          have hd3 : w2.cell? ⟨w.heap.size + 1, 3, none⟩ = some (.int .i64 0) := (blk_cell BR2.out 3).trans rfl
          have hd4 : w2.cell? ⟨w.heap.size + 1, 4, none⟩ = some (.int .i64 0) := (blk_cell BR2.out 4).trans rfl
          have zd0 := blk_frozen BR2.out 0
          have zd1 := blk_frozen BR2.out 1
          have zd2 := blk_frozen BR2.out 2
          have zd3 := blk_frozen BR2.out 3
          have zd4 := blk_frozen BR2.out 4
          go_wp2
          refine bodyPost_ret (results_ctt rfl _ _ (w.heap.size + 1) 23 #[.int .i64 0, .int .i64 0, .int .i64 0, .int .i64 0, .int .i64 0] (0, 0) _ rfl (blk_put (cs := #[.int .i64 0, .int .i64 0, .int .i64 0, .int .i64 0, .int .i64 0]) (blk_put (cs := #[.int .i64 0, .int .i64 0, .int .i64 0, .int .i64 0, .int .i64 0]) (blk_put (cs := #[.int .i64 0, .int .i64 0, .int .i64 0, .int .i64 0, .int .i64 0]) (blk_put (cs := #[.int .i64 0, .int .i64 0, .int .i64 0, .int .i64 0, .int .i64 0]) (blk_put (cs := #[.int .i64 0, .int .i64 0, .int .i64 0, .int .i64 0, .int .i64 0]) BR2.out 0 _ rfl) 1 _ rfl) 2 _ rfl) 3 _ rfl) 4 _ rfl) Try.underlying23 rfl (by kernel_rfl)) rfl ?_
          exact ⟨rfl, (((((hbel2.out.setCell (by simp) _).setCell (by simp) _).setCell (by simp) _).setCell (by simp) _).setCell (by simp) _)⟩
/-! ### what marks.Heard tells -/
def MMay (p b c m q : Int) : Prop := (0 ≤ p ∧ p ≤ 1152921504606846976) ∧ (0 ≤ b ∧ b ≤ 1152921504606846976) ∧ (0 ≤ c ∧ c ≤ 1152921504606846976) ∧ (0 ≤ m ∧ m ≤ c) ∧ (0 ≤ q ∧ q ≤ 1024)
instance (p b c m q : Int) : Decidable (MMay p b c m q) := inferInstanceAs (Decidable (_ ∧ _))
theorem MMay_f (p b c m q : Int) : marks_May.f p b c m q = some (decide (MMay p b c m q)) := by
  have hin : ∀ x h : Int, marks_in.f x h = some (decide (0 ≤ x ∧ x ≤ h)) := by
    intro x h
    unfold marks_in.f
    by_cases h0 : x ≥ 0
    · rw [if_pos h0]; exact congrArg some (decide_eq_decide.mpr ⟨fun h' => ⟨h0, h'⟩, fun h' => h'.2⟩)
    · rw [if_neg h0]; exact congrArg some (decide_eq_false (fun h' => h0 h'.1)).symm
  unfold marks_May.f
  simp only [hin, Option.bind_some, decide_eq_true_eq]
  by_cases h1 : 0 ≤ p ∧ p ≤ 1152921504606846976
  · rw [if_pos h1]
    by_cases h2 : 0 ≤ b ∧ b ≤ 1152921504606846976
    · rw [if_pos h2]
      by_cases h3 : 0 ≤ c ∧ c ≤ 1152921504606846976
      · rw [if_pos h3]
        by_cases h4 : 0 ≤ m ∧ m ≤ c
        · rw [if_pos h4]; exact congrArg some (decide_eq_decide.mpr ⟨fun h => ⟨h1, h2, h3, h4, h⟩, fun h => h.2.2.2.2⟩)
        · rw [if_neg h4]; exact congrArg some (decide_eq_false (fun h => h4 h.2.2.2.1)).symm
      · rw [if_neg h3]; exact congrArg some (decide_eq_false (fun h => h3 h.2.2.1)).symm
    · rw [if_neg h2]; exact congrArg some (decide_eq_false (fun h => h2 h.2.1)).symm
  · rw [if_neg h1]; exact congrArg some (decide_eq_false (fun h => h1 h.1)).symm
def heardN (p b ace ce pk : Int) : Int := if 8 ≤ pk ∧ 0 < (ce - b) % 16777216 then pk - (pk - (ace - p) % 8) % 8 else (ace - p) % 8
def heardM (b ce by_ : Int) : Int := if (ce - b) % 16777216 ≤ by_ then (ce - b) % 16777216 else by_
def HeardFine (p b c m q ace ce pk by_ : Int) : Prop := MMay p b c m q ∧ (0 ≤ ace ∧ ace ≤ 7) ∧ ce ≤ 16777215 ∧ (0 ≤ pk ∧ pk ≤ 1099511627776) ∧ (0 ≤ by_ ∧ by_ ≤ 1099511627776)
instance (p b c m q ace ce pk by_ : Int) : Decidable (HeardFine p b c m q ace ce pk by_) := inferInstanceAs (Decidable (_ ∧ _))
def marks_Heard.f (p b c m q ace ce pk by_ : Int) : Option (Int × Int × Int × Int × Int × Int × Int) :=
  if HeardFine p b c m q ace ce pk by_ then
    if 0 ≤ ce then
      if MMay (p + heardN p b ace ce pk) (b + (ce - b) % 16777216) (c + by_) (m + heardM b ce by_) q then some (p + heardN p b ace ce pk, b + (ce - b) % 16777216, c + by_, m + heardM b ce by_, q, heardN p b ace ce pk, 0)
      else some (0, 0, 0, 0, 0, 0, 5)
    else none
  else some (0, 0, 0, 0, 0, 0, 1)
theorem marks_Heard.calls (p b c m q ace ce pk by_ r1 r2 r3 r4 r5 r6 r7 : Int) (w : World) (h : marks_Heard.f p b c m q ace ce pk by_ = some (r1, r2, r3, r4, r5, r6, r7)) :
    Calls Try.prog 10 #[.agg #[.int .i64 p, .int .i64 b, .int .i64 c, .int .i64 m, .int .i64 q], .int .i64 ace, .int .u32 ce, .int .i64 pk, .int .i64 by_] w fun e w' => e = .returned (.tuple #[.agg #[.int .i64 r1, .int .i64 r2, .int .i64 r3, .int .i64 r4, .int .i64 r5], .int .i64 r6, .int .i64 r7]) ∧ Below w.heap.size w w' := by
  unfold marks_Heard.f at h
  split at h
  · rename_i hf
    obtain ⟨⟨⟨x1, x2⟩, ⟨x3, x4⟩, ⟨x5, x6⟩, ⟨x7, x8⟩, x9, x10⟩, ⟨x11, x12⟩, x13, ⟨x14, x15⟩, x16, x17⟩ := hf
    split at h
    · rename_i he
      have hN : (pk < 8 ∧ heardN p b ace ce pk = (ace - p) % 8) ∨ (8 ≤ pk ∧ (ce - b) % 16777216 ≤ 0 ∧ heardN p b ace ce pk = (ace - p) % 8) ∨ (8 ≤ pk ∧ 0 < (ce - b) % 16777216 ∧ heardN p b ace ce pk = pk - (pk - (ace - p) % 8) % 8) := by
        unfold heardN
        by_cases h1 : 8 ≤ pk
        · by_cases h2 : 0 < (ce - b) % 16777216
          · exact .inr (.inr ⟨h1, h2, if_pos ⟨h1, h2⟩⟩)
          · exact .inr (.inl ⟨h1, by omega, if_neg (fun h => h2 h.2)⟩)
        · exact .inl ⟨by omega, if_neg (fun h => h1 h.1)⟩
      have hM : ((ce - b) % 16777216 ≤ by_ ∧ heardM b ce by_ = (ce - b) % 16777216) ∨ (by_ < (ce - b) % 16777216 ∧ heardM b ce by_ = by_) := by
        unfold heardM
        by_cases h1 : (ce - b) % 16777216 ≤ by_
        · exact .inl ⟨h1, if_pos h1⟩
        · exact .inr ⟨by omega, if_neg h1⟩
      refine heard_main p b c m q ace ce pk by_ w x1 x2 x3 x4 x5 x6 x7 x8 x9 x10 x11 x12 x13 x14 x15 x16 x17 he _ _ _ _ r1 r2 r3 r4 r5 r6 r7 _ rfl rfl hN hM (MMay_f _ _ _ _ _) ?_
      split at h
      · rename_i hm
        simp only [Option.some.injEq, Prod.mk.injEq] at h
        obtain ⟨rfl, rfl, rfl, rfl, rfl, rfl, rfl⟩ := h
        exact .inl ⟨decide_eq_true hm, rfl, rfl, rfl, rfl, rfl, rfl, rfl⟩
      · rename_i hm
        simp only [Option.some.injEq, Prod.mk.injEq] at h
        obtain ⟨rfl, rfl, rfl, rfl, rfl, rfl, rfl⟩ := h
        exact .inr ⟨decide_eq_false hm, rfl, rfl, rfl, rfl, rfl, rfl, rfl⟩
    · cases h
  · rename_i hf
    simp only [Option.some.injEq, Prod.mk.injEq] at h
    obtain ⟨rfl, rfl, rfl, rfl, rfl, rfl, rfl⟩ := h
    by_cases y0p : p < 0
    · exact wrong_lo_p p b c m q ace ce pk by_ w  y0p
    by_cases y1p : 1152921504606846976 < p
    · exact wrong_hi_p p b c m q ace ce pk by_ w  (by omega) y1p
    by_cases y0b : b < 0
    · exact wrong_lo_b p b c m q ace ce pk by_ w (by omega) (by omega) y0b
    by_cases y1b : 1152921504606846976 < b
    · exact wrong_hi_b p b c m q ace ce pk by_ w (by omega) (by omega) (by omega) y1b
    by_cases y0c : c < 0
    · exact wrong_lo_c p b c m q ace ce pk by_ w (by omega) (by omega) (by omega) (by omega) y0c
    by_cases y1c : 1152921504606846976 < c
    · exact wrong_hi_c p b c m q ace ce pk by_ w (by omega) (by omega) (by omega) (by omega) (by omega) y1c
    by_cases y0m : m < 0
    · exact wrong_lo_m p b c m q ace ce pk by_ w (by omega) (by omega) (by omega) (by omega) (by omega) (by omega) y0m
    by_cases y1m : c < m
    · exact wrong_hi_m p b c m q ace ce pk by_ w (by omega) (by omega) (by omega) (by omega) (by omega) (by omega) (by omega) y1m
    by_cases y0q : q < 0
    · exact wrong_lo_q p b c m q ace ce pk by_ w (by omega) (by omega) (by omega) (by omega) (by omega) (by omega) (by omega) (by omega) y0q
    by_cases y1q : 1024 < q
    · exact wrong_hi_q p b c m q ace ce pk by_ w (by omega) (by omega) (by omega) (by omega) (by omega) (by omega) (by omega) (by omega) (by omega) y1q
    by_cases y0ace : ace < 0
    · exact wrong_lo_ace p b c m q ace ce pk by_ w (by omega) (by omega) (by omega) (by omega) (by omega) (by omega) (by omega) (by omega) (by omega) (by omega) y0ace
    by_cases y1ace : 7 < ace
    · exact wrong_hi_ace p b c m q ace ce pk by_ w (by omega) (by omega) (by omega) (by omega) (by omega) (by omega) (by omega) (by omega) (by omega) (by omega) (by omega) y1ace
    by_cases y1ce : 16777215 < ce
    · exact wrong_hi_ce p b c m q ace ce pk by_ w (by omega) (by omega) (by omega) (by omega) (by omega) (by omega) (by omega) (by omega) (by omega) (by omega) (by omega) (by omega) y1ce
    by_cases y0pk : pk < 0
    · exact wrong_lo_pk p b c m q ace ce pk by_ w (by omega) (by omega) (by omega) (by omega) (by omega) (by omega) (by omega) (by omega) (by omega) (by omega) (by omega) (by omega) (by omega) y0pk
    by_cases y1pk : 1099511627776 < pk
    · exact wrong_hi_pk p b c m q ace ce pk by_ w (by omega) (by omega) (by omega) (by omega) (by omega) (by omega) (by omega) (by omega) (by omega) (by omega) (by omega) (by omega) (by omega) (by omega) y1pk
    by_cases y0by_ : by_ < 0
    · exact wrong_lo_by_ p b c m q ace ce pk by_ w (by omega) (by omega) (by omega) (by omega) (by omega) (by omega) (by omega) (by omega) (by omega) (by omega) (by omega) (by omega) (by omega) (by omega) (by omega) y0by_
    by_cases y1by_ : 1099511627776 < by_
    · exact wrong_hi_by_ p b c m q ace ce pk by_ w (by omega) (by omega) (by omega) (by omega) (by omega) (by omega) (by omega) (by omega) (by omega) (by omega) (by omega) (by omega) (by omega) (by omega) (by omega) (by omega) y1by_
    exact absurd ⟨⟨⟨by omega, by omega⟩, ⟨by omega, by omega⟩, ⟨by omega, by omega⟩, ⟨by omega, by omega⟩, by omega, by omega⟩, ⟨by omega, by omega⟩, by omega, ⟨by omega, by omega⟩, by omega, by omega⟩ hf
end Go.Proofs.Ythklaiedabekjaa.Hand

