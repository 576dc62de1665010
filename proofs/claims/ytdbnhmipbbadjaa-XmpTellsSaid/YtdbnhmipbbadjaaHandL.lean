/- The walk of xmp.Loss: what it tells, for every input. (Written by a program of this session.) -/
import Derived.Test.YtdbnhmipbbadjaaHandS
namespace Go.Proofs.Ytdbnhmipbbadjaa.Hand
open Go.RowKit Go.Proofs.YtdbnhmipbbadjaaW.PrintWords Go.Proofs.YtdbnhmipbbadjaaW.PrintLast Go.Proofs.YtdbnhmipbbadjaaW.PrintMore
set_option linter.unusedVariables false
set_option linter.unusedSimpArgs false
set_option maxHeartbeats 6400000 in
theorem losst_lo_s (c t s g z : Int) (w : World) (hwrong : s < 1) :
    Calls Try.prog 15 #[.agg #[.int .i64 c, .int .i64 t], .bool true, .int .i64 s, .int .i64 g] w fun e w' => e = .returned (.tuple #[.agg #[.int .i64 0, .int .i64 0], .int .i64 1]) ∧ Below w.heap.size w w' := by
  have hmf : ∀ (fn : Fn) (first cap : Array Value) (w : World), (Instr.makeFunc fn first cap).run Try.prog w = .ok (.func fn first cap) w := fun _ _ _ _ => rfl
  have hu30 := Try.underlying30
  have hix := ix3
  have bf0 : decide (1 ≤ s) = false := decide_eq_false (by omega)
  clear hwrong
  go_enter Try.func15, Try.ntmps15
  go_wp2_with (first | (go_at_call 35; refine (table_any _).mono ?_; rintro e w' ⟨rfl, rfl⟩) | go_in)
  all_goals
    refine bodyPost_ret (v := .tuple #[.agg #[.int .i64 0, .int .i64 0], .int .i64 1]) (by simp [results, Try.results26, go_sem]) rfl ?_
    go_wp2
    refine bodyPost_ret (v := .tuple #[.agg #[.int .i64 0, .int .i64 0], .int .i64 1]) (by simp [results, Try.results15, go_sem]) rfl ⟨rfl, ?_⟩
    repeat (first | (with_reducible exact Below.refl _ _) | apply pw_below_drewN | apply below_drew1 | (with_reducible apply below_alloc) | (refine below_set ?_ (by simp)))
set_option maxHeartbeats 6400000 in
theorem losst_hi_s (c t s g z : Int) (w : World) (h1 : 1 ≤ s) (hwrong : 1460 < s) :
    Calls Try.prog 15 #[.agg #[.int .i64 c, .int .i64 t], .bool true, .int .i64 s, .int .i64 g] w fun e w' => e = .returned (.tuple #[.agg #[.int .i64 0, .int .i64 0], .int .i64 1]) ∧ Below w.heap.size w w' := by
  have hmf : ∀ (fn : Fn) (first cap : Array Value) (w : World), (Instr.makeFunc fn first cap).run Try.prog w = .ok (.func fn first cap) w := fun _ _ _ _ => rfl
  have hu30 := Try.underlying30
  have hix := ix3
  have bf0 : decide (s ≤ 1460) = false := decide_eq_false (by omega)
  clear hwrong
  go_enter Try.func15, Try.ntmps15
  go_wp2_with (first | (go_at_call 35; refine (table_any _).mono ?_; rintro e w' ⟨rfl, rfl⟩) | go_in)
  all_goals
    refine bodyPost_ret (v := .tuple #[.agg #[.int .i64 0, .int .i64 0], .int .i64 1]) (by simp [results, Try.results26, go_sem]) rfl ?_
    go_wp2
    refine bodyPost_ret (v := .tuple #[.agg #[.int .i64 0, .int .i64 0], .int .i64 1]) (by simp [results, Try.results15, go_sem]) rfl ⟨rfl, ?_⟩
    repeat (first | (with_reducible exact Below.refl _ _) | apply pw_below_drewN | apply below_drew1 | (with_reducible apply below_alloc) | (refine below_set ?_ (by simp)))
set_option maxHeartbeats 6400000 in
theorem losst_lo_g (c t s g z : Int) (w : World) (h1 : 1 ≤ s) (h2 : s ≤ 1460) (hwrong : g < s) :
    Calls Try.prog 15 #[.agg #[.int .i64 c, .int .i64 t], .bool true, .int .i64 s, .int .i64 g] w fun e w' => e = .returned (.tuple #[.agg #[.int .i64 0, .int .i64 0], .int .i64 1]) ∧ Below w.heap.size w w' := by
  have hmf : ∀ (fn : Fn) (first cap : Array Value) (w : World), (Instr.makeFunc fn first cap).run Try.prog w = .ok (.func fn first cap) w := fun _ _ _ _ => rfl
  have hu30 := Try.underlying30
  have hix := ix3
  have bf0 : decide (s ≤ g) = false := decide_eq_false (by omega)
  clear hwrong
  go_enter Try.func15, Try.ntmps15
  go_wp2_with (first | (go_at_call 35; refine (table_any _).mono ?_; rintro e w' ⟨rfl, rfl⟩) | go_in)
  all_goals
    refine bodyPost_ret (v := .tuple #[.agg #[.int .i64 0, .int .i64 0], .int .i64 1]) (by simp [results, Try.results26, go_sem]) rfl ?_
    go_wp2
    refine bodyPost_ret (v := .tuple #[.agg #[.int .i64 0, .int .i64 0], .int .i64 1]) (by simp [results, Try.results15, go_sem]) rfl ⟨rfl, ?_⟩
    repeat (first | (with_reducible exact Below.refl _ _) | apply pw_below_drewN | apply below_drew1 | (with_reducible apply below_alloc) | (refine below_set ?_ (by simp)))
set_option maxHeartbeats 6400000 in
theorem losst_hi_g (c t s g z : Int) (w : World) (h1 : 1 ≤ s) (h2 : s ≤ 1460) (h3 : s ≤ g) (hwrong : 1073741824 < g) :
    Calls Try.prog 15 #[.agg #[.int .i64 c, .int .i64 t], .bool true, .int .i64 s, .int .i64 g] w fun e w' => e = .returned (.tuple #[.agg #[.int .i64 0, .int .i64 0], .int .i64 1]) ∧ Below w.heap.size w w' := by
  have hmf : ∀ (fn : Fn) (first cap : Array Value) (w : World), (Instr.makeFunc fn first cap).run Try.prog w = .ok (.func fn first cap) w := fun _ _ _ _ => rfl
  have hu30 := Try.underlying30
  have hix := ix3
  have bf0 : decide (g ≤ 1073741824) = false := decide_eq_false (by omega)
  clear hwrong
  go_enter Try.func15, Try.ntmps15
  go_wp2_with (first | (go_at_call 35; refine (table_any _).mono ?_; rintro e w' ⟨rfl, rfl⟩) | go_in)
  all_goals
    refine bodyPost_ret (v := .tuple #[.agg #[.int .i64 0, .int .i64 0], .int .i64 1]) (by simp [results, Try.results26, go_sem]) rfl ?_
    go_wp2
    refine bodyPost_ret (v := .tuple #[.agg #[.int .i64 0, .int .i64 0], .int .i64 1]) (by simp [results, Try.results15, go_sem]) rfl ⟨rfl, ?_⟩
    repeat (first | (with_reducible exact Below.refl _ _) | apply pw_below_drewN | apply below_drew1 | (with_reducible apply below_alloc) | (refine below_set ?_ (by simp)))
set_option maxHeartbeats 6400000 in
theorem losst_lo_c (c t s g z : Int) (w : World) (h1 : 1 ≤ s) (h2 : s ≤ 1460) (h3 : s ≤ g) (h4 : g ≤ 1073741824) (hwrong : c < s) :
    Calls Try.prog 15 #[.agg #[.int .i64 c, .int .i64 t], .bool true, .int .i64 s, .int .i64 g] w fun e w' => e = .returned (.tuple #[.agg #[.int .i64 0, .int .i64 0], .int .i64 1]) ∧ Below w.heap.size w w' := by
  have hmf : ∀ (fn : Fn) (first cap : Array Value) (w : World), (Instr.makeFunc fn first cap).run Try.prog w = .ok (.func fn first cap) w := fun _ _ _ _ => rfl
  have hu30 := Try.underlying30
  have hix := ix3
  have bf0 : decide (s ≤ c) = false := decide_eq_false (by omega)
  clear hwrong
  go_enter Try.func15, Try.ntmps15
  go_wp2_with (first | (go_at_call 35; refine (table_any _).mono ?_; rintro e w' ⟨rfl, rfl⟩) | go_in)
  all_goals
    refine bodyPost_ret (v := .tuple #[.agg #[.int .i64 0, .int .i64 0], .int .i64 1]) (by simp [results, Try.results26, go_sem]) rfl ?_
    go_wp2
    refine bodyPost_ret (v := .tuple #[.agg #[.int .i64 0, .int .i64 0], .int .i64 1]) (by simp [results, Try.results15, go_sem]) rfl ⟨rfl, ?_⟩
    repeat (first | (with_reducible exact Below.refl _ _) | apply pw_below_drewN | apply below_drew1 | (with_reducible apply below_alloc) | (refine below_set ?_ (by simp)))
set_option maxHeartbeats 6400000 in
theorem losst_hi_c (c t s g z : Int) (w : World) (h1 : 1 ≤ s) (h2 : s ≤ 1460) (h3 : s ≤ g) (h4 : g ≤ 1073741824) (h5 : s ≤ c) (hwrong : g < c) :
    Calls Try.prog 15 #[.agg #[.int .i64 c, .int .i64 t], .bool true, .int .i64 s, .int .i64 g] w fun e w' => e = .returned (.tuple #[.agg #[.int .i64 0, .int .i64 0], .int .i64 1]) ∧ Below w.heap.size w w' := by
  have hmf : ∀ (fn : Fn) (first cap : Array Value) (w : World), (Instr.makeFunc fn first cap).run Try.prog w = .ok (.func fn first cap) w := fun _ _ _ _ => rfl
  have hu30 := Try.underlying30
  have hix := ix3
  have bf0 : decide (c ≤ g) = false := decide_eq_false (by omega)
  clear hwrong
  go_enter Try.func15, Try.ntmps15
  go_wp2_with (first | (go_at_call 35; refine (table_any _).mono ?_; rintro e w' ⟨rfl, rfl⟩) | go_in)
  all_goals
    refine bodyPost_ret (v := .tuple #[.agg #[.int .i64 0, .int .i64 0], .int .i64 1]) (by simp [results, Try.results26, go_sem]) rfl ?_
    go_wp2
    refine bodyPost_ret (v := .tuple #[.agg #[.int .i64 0, .int .i64 0], .int .i64 1]) (by simp [results, Try.results15, go_sem]) rfl ⟨rfl, ?_⟩
    repeat (first | (with_reducible exact Below.refl _ _) | apply pw_below_drewN | apply below_drew1 | (with_reducible apply below_alloc) | (refine below_set ?_ (by simp)))
set_option maxHeartbeats 6400000 in
theorem losst_lo_t (c t s g z : Int) (w : World) (h1 : 1 ≤ s) (h2 : s ≤ 1460) (h3 : s ≤ g) (h4 : g ≤ 1073741824) (h5 : s ≤ c) (h6 : c ≤ g) (hwrong : t < s) :
    Calls Try.prog 15 #[.agg #[.int .i64 c, .int .i64 t], .bool true, .int .i64 s, .int .i64 g] w fun e w' => e = .returned (.tuple #[.agg #[.int .i64 0, .int .i64 0], .int .i64 1]) ∧ Below w.heap.size w w' := by
  have hmf : ∀ (fn : Fn) (first cap : Array Value) (w : World), (Instr.makeFunc fn first cap).run Try.prog w = .ok (.func fn first cap) w := fun _ _ _ _ => rfl
  have hu30 := Try.underlying30
  have hix := ix3
  have bf0 : decide (s ≤ t) = false := decide_eq_false (by omega)
  clear hwrong
  go_enter Try.func15, Try.ntmps15
  go_wp2_with (first | (go_at_call 35; refine (table_any _).mono ?_; rintro e w' ⟨rfl, rfl⟩) | go_in)
  all_goals
    refine bodyPost_ret (v := .tuple #[.agg #[.int .i64 0, .int .i64 0], .int .i64 1]) (by simp [results, Try.results26, go_sem]) rfl ?_
    go_wp2
    refine bodyPost_ret (v := .tuple #[.agg #[.int .i64 0, .int .i64 0], .int .i64 1]) (by simp [results, Try.results15, go_sem]) rfl ⟨rfl, ?_⟩
    repeat (first | (with_reducible exact Below.refl _ _) | apply pw_below_drewN | apply below_drew1 | (with_reducible apply below_alloc) | (refine below_set ?_ (by simp)))
set_option maxHeartbeats 6400000 in
theorem losst_hi_t (c t s g z : Int) (w : World) (h1 : 1 ≤ s) (h2 : s ≤ 1460) (h3 : s ≤ g) (h4 : g ≤ 1073741824) (h5 : s ≤ c) (h6 : c ≤ g) (h7 : s ≤ t) (hwrong : g < t) :
    Calls Try.prog 15 #[.agg #[.int .i64 c, .int .i64 t], .bool true, .int .i64 s, .int .i64 g] w fun e w' => e = .returned (.tuple #[.agg #[.int .i64 0, .int .i64 0], .int .i64 1]) ∧ Below w.heap.size w w' := by
  have hmf : ∀ (fn : Fn) (first cap : Array Value) (w : World), (Instr.makeFunc fn first cap).run Try.prog w = .ok (.func fn first cap) w := fun _ _ _ _ => rfl
  have hu30 := Try.underlying30
  have hix := ix3
  have bf0 : decide (t ≤ g) = false := decide_eq_false (by omega)
  clear hwrong
  go_enter Try.func15, Try.ntmps15
  go_wp2_with (first | (go_at_call 35; refine (table_any _).mono ?_; rintro e w' ⟨rfl, rfl⟩) | go_in)
  all_goals
    refine bodyPost_ret (v := .tuple #[.agg #[.int .i64 0, .int .i64 0], .int .i64 1]) (by simp [results, Try.results26, go_sem]) rfl ?_
    go_wp2
    refine bodyPost_ret (v := .tuple #[.agg #[.int .i64 0, .int .i64 0], .int .i64 1]) (by simp [results, Try.results15, go_sem]) rfl ⟨rfl, ?_⟩
    repeat (first | (with_reducible exact Below.refl _ _) | apply pw_below_drewN | apply below_drew1 | (with_reducible apply below_alloc) | (refine below_set ?_ (by simp)))
set_option maxHeartbeats 6400000 in
theorem lossf_lo_s (c t s g z : Int) (w : World) (hwrong : s < 1) :
    Calls Try.prog 15 #[.agg #[.int .i64 c, .int .i64 t], .bool false, .int .i64 s, .int .i64 g] w fun e w' => e = .returned (.tuple #[.agg #[.int .i64 0, .int .i64 0], .int .i64 1]) ∧ Below w.heap.size w w' := by
  have hmf : ∀ (fn : Fn) (first cap : Array Value) (w : World), (Instr.makeFunc fn first cap).run Try.prog w = .ok (.func fn first cap) w := fun _ _ _ _ => rfl
  have hu30 := Try.underlying30
  have hix := ix3
  have bf0 : decide (1 ≤ s) = false := decide_eq_false (by omega)
  clear hwrong
  go_enter Try.func15, Try.ntmps15
  go_wp2_with (first | (go_at_call 35; refine (table_any _).mono ?_; rintro e w' ⟨rfl, rfl⟩) | go_in)
  all_goals
    refine bodyPost_ret (v := .tuple #[.agg #[.int .i64 0, .int .i64 0], .int .i64 1]) (by simp [results, Try.results26, go_sem]) rfl ?_
    go_wp2
    refine bodyPost_ret (v := .tuple #[.agg #[.int .i64 0, .int .i64 0], .int .i64 1]) (by simp [results, Try.results15, go_sem]) rfl ⟨rfl, ?_⟩
    repeat (first | (with_reducible exact Below.refl _ _) | apply pw_below_drewN | apply below_drew1 | (with_reducible apply below_alloc) | (refine below_set ?_ (by simp)))
set_option maxHeartbeats 6400000 in
theorem lossf_hi_s (c t s g z : Int) (w : World) (h1 : 1 ≤ s) (hwrong : 1460 < s) :
    Calls Try.prog 15 #[.agg #[.int .i64 c, .int .i64 t], .bool false, .int .i64 s, .int .i64 g] w fun e w' => e = .returned (.tuple #[.agg #[.int .i64 0, .int .i64 0], .int .i64 1]) ∧ Below w.heap.size w w' := by
  have hmf : ∀ (fn : Fn) (first cap : Array Value) (w : World), (Instr.makeFunc fn first cap).run Try.prog w = .ok (.func fn first cap) w := fun _ _ _ _ => rfl
  have hu30 := Try.underlying30
  have hix := ix3
  have bf0 : decide (s ≤ 1460) = false := decide_eq_false (by omega)
  clear hwrong
  go_enter Try.func15, Try.ntmps15
  go_wp2_with (first | (go_at_call 35; refine (table_any _).mono ?_; rintro e w' ⟨rfl, rfl⟩) | go_in)
  all_goals
    refine bodyPost_ret (v := .tuple #[.agg #[.int .i64 0, .int .i64 0], .int .i64 1]) (by simp [results, Try.results26, go_sem]) rfl ?_
    go_wp2
    refine bodyPost_ret (v := .tuple #[.agg #[.int .i64 0, .int .i64 0], .int .i64 1]) (by simp [results, Try.results15, go_sem]) rfl ⟨rfl, ?_⟩
    repeat (first | (with_reducible exact Below.refl _ _) | apply pw_below_drewN | apply below_drew1 | (with_reducible apply below_alloc) | (refine below_set ?_ (by simp)))
set_option maxHeartbeats 6400000 in
theorem lossf_lo_g (c t s g z : Int) (w : World) (h1 : 1 ≤ s) (h2 : s ≤ 1460) (hwrong : g < s) :
    Calls Try.prog 15 #[.agg #[.int .i64 c, .int .i64 t], .bool false, .int .i64 s, .int .i64 g] w fun e w' => e = .returned (.tuple #[.agg #[.int .i64 0, .int .i64 0], .int .i64 1]) ∧ Below w.heap.size w w' := by
  have hmf : ∀ (fn : Fn) (first cap : Array Value) (w : World), (Instr.makeFunc fn first cap).run Try.prog w = .ok (.func fn first cap) w := fun _ _ _ _ => rfl
  have hu30 := Try.underlying30
  have hix := ix3
  have bf0 : decide (s ≤ g) = false := decide_eq_false (by omega)
  clear hwrong
  go_enter Try.func15, Try.ntmps15
  go_wp2_with (first | (go_at_call 35; refine (table_any _).mono ?_; rintro e w' ⟨rfl, rfl⟩) | go_in)
  all_goals
    refine bodyPost_ret (v := .tuple #[.agg #[.int .i64 0, .int .i64 0], .int .i64 1]) (by simp [results, Try.results26, go_sem]) rfl ?_
    go_wp2
    refine bodyPost_ret (v := .tuple #[.agg #[.int .i64 0, .int .i64 0], .int .i64 1]) (by simp [results, Try.results15, go_sem]) rfl ⟨rfl, ?_⟩
    repeat (first | (with_reducible exact Below.refl _ _) | apply pw_below_drewN | apply below_drew1 | (with_reducible apply below_alloc) | (refine below_set ?_ (by simp)))
set_option maxHeartbeats 6400000 in
theorem lossf_hi_g (c t s g z : Int) (w : World) (h1 : 1 ≤ s) (h2 : s ≤ 1460) (h3 : s ≤ g) (hwrong : 1073741824 < g) :
    Calls Try.prog 15 #[.agg #[.int .i64 c, .int .i64 t], .bool false, .int .i64 s, .int .i64 g] w fun e w' => e = .returned (.tuple #[.agg #[.int .i64 0, .int .i64 0], .int .i64 1]) ∧ Below w.heap.size w w' := by
  have hmf : ∀ (fn : Fn) (first cap : Array Value) (w : World), (Instr.makeFunc fn first cap).run Try.prog w = .ok (.func fn first cap) w := fun _ _ _ _ => rfl
  have hu30 := Try.underlying30
  have hix := ix3
  have bf0 : decide (g ≤ 1073741824) = false := decide_eq_false (by omega)
  clear hwrong
  go_enter Try.func15, Try.ntmps15
  go_wp2_with (first | (go_at_call 35; refine (table_any _).mono ?_; rintro e w' ⟨rfl, rfl⟩) | go_in)
  all_goals
    refine bodyPost_ret (v := .tuple #[.agg #[.int .i64 0, .int .i64 0], .int .i64 1]) (by simp [results, Try.results26, go_sem]) rfl ?_
    go_wp2
    refine bodyPost_ret (v := .tuple #[.agg #[.int .i64 0, .int .i64 0], .int .i64 1]) (by simp [results, Try.results15, go_sem]) rfl ⟨rfl, ?_⟩
    repeat (first | (with_reducible exact Below.refl _ _) | apply pw_below_drewN | apply below_drew1 | (with_reducible apply below_alloc) | (refine below_set ?_ (by simp)))
set_option maxHeartbeats 6400000 in
theorem lossf_lo_c (c t s g z : Int) (w : World) (h1 : 1 ≤ s) (h2 : s ≤ 1460) (h3 : s ≤ g) (h4 : g ≤ 1073741824) (hwrong : c < s) :
    Calls Try.prog 15 #[.agg #[.int .i64 c, .int .i64 t], .bool false, .int .i64 s, .int .i64 g] w fun e w' => e = .returned (.tuple #[.agg #[.int .i64 0, .int .i64 0], .int .i64 1]) ∧ Below w.heap.size w w' := by
  have hmf : ∀ (fn : Fn) (first cap : Array Value) (w : World), (Instr.makeFunc fn first cap).run Try.prog w = .ok (.func fn first cap) w := fun _ _ _ _ => rfl
  have hu30 := Try.underlying30
  have hix := ix3
  have bf0 : decide (s ≤ c) = false := decide_eq_false (by omega)
  clear hwrong
  go_enter Try.func15, Try.ntmps15
  go_wp2_with (first | (go_at_call 35; refine (table_any _).mono ?_; rintro e w' ⟨rfl, rfl⟩) | go_in)
  all_goals
    refine bodyPost_ret (v := .tuple #[.agg #[.int .i64 0, .int .i64 0], .int .i64 1]) (by simp [results, Try.results26, go_sem]) rfl ?_
    go_wp2
    refine bodyPost_ret (v := .tuple #[.agg #[.int .i64 0, .int .i64 0], .int .i64 1]) (by simp [results, Try.results15, go_sem]) rfl ⟨rfl, ?_⟩
    repeat (first | (with_reducible exact Below.refl _ _) | apply pw_below_drewN | apply below_drew1 | (with_reducible apply below_alloc) | (refine below_set ?_ (by simp)))
set_option maxHeartbeats 6400000 in
theorem lossf_hi_c (c t s g z : Int) (w : World) (h1 : 1 ≤ s) (h2 : s ≤ 1460) (h3 : s ≤ g) (h4 : g ≤ 1073741824) (h5 : s ≤ c) (hwrong : g < c) :
    Calls Try.prog 15 #[.agg #[.int .i64 c, .int .i64 t], .bool false, .int .i64 s, .int .i64 g] w fun e w' => e = .returned (.tuple #[.agg #[.int .i64 0, .int .i64 0], .int .i64 1]) ∧ Below w.heap.size w w' := by
  have hmf : ∀ (fn : Fn) (first cap : Array Value) (w : World), (Instr.makeFunc fn first cap).run Try.prog w = .ok (.func fn first cap) w := fun _ _ _ _ => rfl
  have hu30 := Try.underlying30
  have hix := ix3
  have bf0 : decide (c ≤ g) = false := decide_eq_false (by omega)
  clear hwrong
  go_enter Try.func15, Try.ntmps15
  go_wp2_with (first | (go_at_call 35; refine (table_any _).mono ?_; rintro e w' ⟨rfl, rfl⟩) | go_in)
  all_goals
    refine bodyPost_ret (v := .tuple #[.agg #[.int .i64 0, .int .i64 0], .int .i64 1]) (by simp [results, Try.results26, go_sem]) rfl ?_
    go_wp2
    refine bodyPost_ret (v := .tuple #[.agg #[.int .i64 0, .int .i64 0], .int .i64 1]) (by simp [results, Try.results15, go_sem]) rfl ⟨rfl, ?_⟩
    repeat (first | (with_reducible exact Below.refl _ _) | apply pw_below_drewN | apply below_drew1 | (with_reducible apply below_alloc) | (refine below_set ?_ (by simp)))
set_option maxHeartbeats 6400000 in
theorem lossf_lo_t (c t s g z : Int) (w : World) (h1 : 1 ≤ s) (h2 : s ≤ 1460) (h3 : s ≤ g) (h4 : g ≤ 1073741824) (h5 : s ≤ c) (h6 : c ≤ g) (hwrong : t < s) :
    Calls Try.prog 15 #[.agg #[.int .i64 c, .int .i64 t], .bool false, .int .i64 s, .int .i64 g] w fun e w' => e = .returned (.tuple #[.agg #[.int .i64 0, .int .i64 0], .int .i64 1]) ∧ Below w.heap.size w w' := by
  have hmf : ∀ (fn : Fn) (first cap : Array Value) (w : World), (Instr.makeFunc fn first cap).run Try.prog w = .ok (.func fn first cap) w := fun _ _ _ _ => rfl
  have hu30 := Try.underlying30
  have hix := ix3
  have bf0 : decide (s ≤ t) = false := decide_eq_false (by omega)
  clear hwrong
  go_enter Try.func15, Try.ntmps15
  go_wp2_with (first | (go_at_call 35; refine (table_any _).mono ?_; rintro e w' ⟨rfl, rfl⟩) | go_in)
  all_goals
    refine bodyPost_ret (v := .tuple #[.agg #[.int .i64 0, .int .i64 0], .int .i64 1]) (by simp [results, Try.results26, go_sem]) rfl ?_
    go_wp2
    refine bodyPost_ret (v := .tuple #[.agg #[.int .i64 0, .int .i64 0], .int .i64 1]) (by simp [results, Try.results15, go_sem]) rfl ⟨rfl, ?_⟩
    repeat (first | (with_reducible exact Below.refl _ _) | apply pw_below_drewN | apply below_drew1 | (with_reducible apply below_alloc) | (refine below_set ?_ (by simp)))
set_option maxHeartbeats 6400000 in
theorem lossf_hi_t (c t s g z : Int) (w : World) (h1 : 1 ≤ s) (h2 : s ≤ 1460) (h3 : s ≤ g) (h4 : g ≤ 1073741824) (h5 : s ≤ c) (h6 : c ≤ g) (h7 : s ≤ t) (hwrong : g < t) :
    Calls Try.prog 15 #[.agg #[.int .i64 c, .int .i64 t], .bool false, .int .i64 s, .int .i64 g] w fun e w' => e = .returned (.tuple #[.agg #[.int .i64 0, .int .i64 0], .int .i64 1]) ∧ Below w.heap.size w w' := by
  have hmf : ∀ (fn : Fn) (first cap : Array Value) (w : World), (Instr.makeFunc fn first cap).run Try.prog w = .ok (.func fn first cap) w := fun _ _ _ _ => rfl
  have hu30 := Try.underlying30
  have hix := ix3
  have bf0 : decide (t ≤ g) = false := decide_eq_false (by omega)
  clear hwrong
  go_enter Try.func15, Try.ntmps15
  go_wp2_with (first | (go_at_call 35; refine (table_any _).mono ?_; rintro e w' ⟨rfl, rfl⟩) | go_in)
  all_goals
    refine bodyPost_ret (v := .tuple #[.agg #[.int .i64 0, .int .i64 0], .int .i64 1]) (by simp [results, Try.results26, go_sem]) rfl ?_
    go_wp2
    refine bodyPost_ret (v := .tuple #[.agg #[.int .i64 0, .int .i64 0], .int .i64 1]) (by simp [results, Try.results15, go_sem]) rfl ⟨rfl, ?_⟩
    repeat (first | (with_reducible exact Below.refl _ _) | apply pw_below_drewN | apply below_drew1 | (with_reducible apply below_alloc) | (refine below_set ?_ (by simp)))
set_option maxHeartbeats 6400000 in
theorem lossfok1 (c t s g z : Int) (w : World) (h1 : 1 ≤ s) (h2 : s ≤ 1460) (h3 : s ≤ g) (h4 : g ≤ 1073741824) (h5 : s ≤ c) (h6 : c ≤ g) (h7 : s ≤ t) (h8 : t ≤ g) (x1 : 2 * s ≤ c / 2) :
    Calls Try.prog 15 #[.agg #[.int .i64 c, .int .i64 t], .bool false, .int .i64 s, .int .i64 g] w fun e w' => e = .returned (.tuple #[.agg #[.int .i64 (c / 2), .int .i64 (c / 2)], .int .i64 0]) ∧ Below w.heap.size w w' := by
  have hmf : ∀ (fn : Fn) (first cap : Array Value) (w : World), (Instr.makeFunc fn first cap).run Try.prog w = .ok (.func fn first cap) w := fun _ _ _ _ => rfl
  have hu30 := Try.underlying30
  have hix := ix3
  have cf0 : s ≤ s := by omega
  have cf1 : s ≤ g := by omega
  have cf2 : s ≤ c / 2 := by omega
  have cf3 : c / 2 ≤ g := by omega
  go_enter Try.func15, Try.ntmps15
  go_wp2_with (first | (go_at_call 35; refine (table_any _).mono ?_; rintro e w' ⟨rfl, rfl⟩) | (go_at_call 46; refine (loss1 c t s g z _ h1 h2 h3 h4 h5 h6 h7 h8 x1).mono ?_; rintro e w' ⟨rfl, rfl⟩) | go_in)
  go_region_with (first | (go_at_call 36; (with_reducible refine (clamp_in s s g _ cf0 cf1).mono ?_); rintro e w' ⟨rfl, rfl⟩) | (go_at_call 36; (with_reducible refine (clamp_in (c / 2) s g _ cf2 cf3).mono ?_); rintro e w' ⟨rfl, rfl⟩))
  all_goals go_wp2
  all_goals
    refine bodyPost_ret (v := .tuple #[.agg #[.int .i64 (c / 2), .int .i64 (c / 2)], .int .i64 0]) (by simp [results, Try.results26, go_sem]) rfl ?_
    go_wp2
    refine bodyPost_ret (v := .tuple #[.agg #[.int .i64 (c / 2), .int .i64 (c / 2)], .int .i64 0]) (by simp [results, Try.results15, go_sem]) rfl ⟨rfl, ?_⟩
    repeat (first | (with_reducible exact Below.refl _ _) | apply pw_below_drewN | apply below_drew1 | (with_reducible apply below_alloc) | (refine below_set ?_ (by simp)))
set_option maxHeartbeats 6400000 in
theorem lossfok2 (c t s g z : Int) (w : World) (h1 : 1 ≤ s) (h2 : s ≤ 1460) (h3 : s ≤ g) (h4 : g ≤ 1073741824) (h5 : s ≤ c) (h6 : c ≤ g) (h7 : s ≤ t) (h8 : t ≤ g) (x1 : c / 2 < 2 * s) (x2 : 2 * s ≤ g) :
    Calls Try.prog 15 #[.agg #[.int .i64 c, .int .i64 t], .bool false, .int .i64 s, .int .i64 g] w fun e w' => e = .returned (.tuple #[.agg #[.int .i64 (2 * s), .int .i64 (2 * s)], .int .i64 0]) ∧ Below w.heap.size w w' := by
  have hmf : ∀ (fn : Fn) (first cap : Array Value) (w : World), (Instr.makeFunc fn first cap).run Try.prog w = .ok (.func fn first cap) w := fun _ _ _ _ => rfl
  have hu30 := Try.underlying30
  have hix := ix3
  have cf0 : s ≤ s := by omega
  have cf1 : s ≤ g := by omega
  have cf2 : s ≤ 2 * s := by omega
  have cf3 : 2 * s ≤ g := by omega
  go_enter Try.func15, Try.ntmps15
  go_wp2_with (first | (go_at_call 35; refine (table_any _).mono ?_; rintro e w' ⟨rfl, rfl⟩) | (go_at_call 46; refine (loss2 c t s g z _ h1 h2 h3 h4 h5 h6 h7 h8 x1).mono ?_; rintro e w' ⟨rfl, rfl⟩) | go_in)
  go_region_with (first | (go_at_call 36; (with_reducible refine (clamp_in s s g _ cf0 cf1).mono ?_); rintro e w' ⟨rfl, rfl⟩) | (go_at_call 36; (with_reducible refine (clamp_in (2 * s) s g _ cf2 cf3).mono ?_); rintro e w' ⟨rfl, rfl⟩))
  all_goals go_wp2
  all_goals
    refine bodyPost_ret (v := .tuple #[.agg #[.int .i64 (2 * s), .int .i64 (2 * s)], .int .i64 0]) (by simp [results, Try.results26, go_sem]) rfl ?_
    go_wp2
    refine bodyPost_ret (v := .tuple #[.agg #[.int .i64 (2 * s), .int .i64 (2 * s)], .int .i64 0]) (by simp [results, Try.results15, go_sem]) rfl ⟨rfl, ?_⟩
    repeat (first | (with_reducible exact Below.refl _ _) | apply pw_below_drewN | apply below_drew1 | (with_reducible apply below_alloc) | (refine below_set ?_ (by simp)))
set_option maxHeartbeats 6400000 in
theorem lossfok3 (c t s g z : Int) (w : World) (h1 : 1 ≤ s) (h2 : s ≤ 1460) (h3 : s ≤ g) (h4 : g ≤ 1073741824) (h5 : s ≤ c) (h6 : c ≤ g) (h7 : s ≤ t) (h8 : t ≤ g) (x1 : c / 2 < 2 * s) (x2 : g < 2 * s) :
    Calls Try.prog 15 #[.agg #[.int .i64 c, .int .i64 t], .bool false, .int .i64 s, .int .i64 g] w fun e w' => e = .returned (.tuple #[.agg #[.int .i64 g, .int .i64 g], .int .i64 0]) ∧ Below w.heap.size w w' := by
  have hmf : ∀ (fn : Fn) (first cap : Array Value) (w : World), (Instr.makeFunc fn first cap).run Try.prog w = .ok (.func fn first cap) w := fun _ _ _ _ => rfl
  have hu30 := Try.underlying30
  have hix := ix3
  have cf0 : s ≤ s := by omega
  have cf1 : s ≤ g := by omega
  have cf2 : g < 2 * s := by omega
  have cf3 : s ≤ g := by omega
  go_enter Try.func15, Try.ntmps15
  go_wp2_with (first | (go_at_call 35; refine (table_any _).mono ?_; rintro e w' ⟨rfl, rfl⟩) | (go_at_call 46; refine (loss2 c t s g z _ h1 h2 h3 h4 h5 h6 h7 h8 x1).mono ?_; rintro e w' ⟨rfl, rfl⟩) | go_in)
  go_region_with (first | (go_at_call 36; (with_reducible refine (clamp_in s s g _ cf0 cf1).mono ?_); rintro e w' ⟨rfl, rfl⟩) | (go_at_call 36; (with_reducible refine (clamp_hi (2 * s) s g _ cf2 cf3).mono ?_); rintro e w' ⟨rfl, rfl⟩))
  all_goals go_wp2
  all_goals
    refine bodyPost_ret (v := .tuple #[.agg #[.int .i64 g, .int .i64 g], .int .i64 0]) (by simp [results, Try.results26, go_sem]) rfl ?_
    go_wp2
    refine bodyPost_ret (v := .tuple #[.agg #[.int .i64 g, .int .i64 g], .int .i64 0]) (by simp [results, Try.results15, go_sem]) rfl ⟨rfl, ?_⟩
    repeat (first | (with_reducible exact Below.refl _ _) | apply pw_below_drewN | apply below_drew1 | (with_reducible apply below_alloc) | (refine below_set ?_ (by simp)))
set_option maxHeartbeats 6400000 in
theorem losstok1 (c t s g z : Int) (w : World) (h1 : 1 ≤ s) (h2 : s ≤ 1460) (h3 : s ≤ g) (h4 : g ≤ 1073741824) (h5 : s ≤ c) (h6 : c ≤ g) (h7 : s ≤ t) (h8 : t ≤ g) (x1 : 2 * s ≤ c / 2) :
    Calls Try.prog 15 #[.agg #[.int .i64 c, .int .i64 t], .bool true, .int .i64 s, .int .i64 g] w fun e w' => e = .returned (.tuple #[.agg #[.int .i64 s, .int .i64 (c / 2)], .int .i64 0]) ∧ Below w.heap.size w w' := by
  have hmf : ∀ (fn : Fn) (first cap : Array Value) (w : World), (Instr.makeFunc fn first cap).run Try.prog w = .ok (.func fn first cap) w := fun _ _ _ _ => rfl
  have hu30 := Try.underlying30
  have hix := ix3
  have cf0 : s ≤ s := by omega
  have cf1 : s ≤ g := by omega
  have cf2 : s ≤ c / 2 := by omega
  have cf3 : c / 2 ≤ g := by omega
  go_enter Try.func15, Try.ntmps15
  go_wp2_with (first | (go_at_call 35; refine (table_any _).mono ?_; rintro e w' ⟨rfl, rfl⟩) | (go_at_call 46; refine (loss3 c t s g z _ h1 h2 h3 h4 h5 h6 h7 h8 x1).mono ?_; rintro e w' ⟨rfl, rfl⟩) | go_in)
  go_region_with (first | (go_at_call 36; (with_reducible refine (clamp_in s s g _ cf0 cf1).mono ?_); rintro e w' ⟨rfl, rfl⟩) | (go_at_call 36; (with_reducible refine (clamp_in (c / 2) s g _ cf2 cf3).mono ?_); rintro e w' ⟨rfl, rfl⟩))
  all_goals go_wp2
  all_goals
    refine bodyPost_ret (v := .tuple #[.agg #[.int .i64 s, .int .i64 (c / 2)], .int .i64 0]) (by simp [results, Try.results26, go_sem]) rfl ?_
    go_wp2
    refine bodyPost_ret (v := .tuple #[.agg #[.int .i64 s, .int .i64 (c / 2)], .int .i64 0]) (by simp [results, Try.results15, go_sem]) rfl ⟨rfl, ?_⟩
    repeat (first | (with_reducible exact Below.refl _ _) | apply pw_below_drewN | apply below_drew1 | (with_reducible apply below_alloc) | (refine below_set ?_ (by simp)))
set_option maxHeartbeats 6400000 in
theorem losstok2 (c t s g z : Int) (w : World) (h1 : 1 ≤ s) (h2 : s ≤ 1460) (h3 : s ≤ g) (h4 : g ≤ 1073741824) (h5 : s ≤ c) (h6 : c ≤ g) (h7 : s ≤ t) (h8 : t ≤ g) (x1 : c / 2 < 2 * s) (x2 : 2 * s ≤ g) :
    Calls Try.prog 15 #[.agg #[.int .i64 c, .int .i64 t], .bool true, .int .i64 s, .int .i64 g] w fun e w' => e = .returned (.tuple #[.agg #[.int .i64 s, .int .i64 (2 * s)], .int .i64 0]) ∧ Below w.heap.size w w' := by
  have hmf : ∀ (fn : Fn) (first cap : Array Value) (w : World), (Instr.makeFunc fn first cap).run Try.prog w = .ok (.func fn first cap) w := fun _ _ _ _ => rfl
  have hu30 := Try.underlying30
  have hix := ix3
  have cf0 : s ≤ s := by omega
  have cf1 : s ≤ g := by omega
  have cf2 : s ≤ 2 * s := by omega
  have cf3 : 2 * s ≤ g := by omega
  go_enter Try.func15, Try.ntmps15
  go_wp2_with (first | (go_at_call 35; refine (table_any _).mono ?_; rintro e w' ⟨rfl, rfl⟩) | (go_at_call 46; refine (loss4 c t s g z _ h1 h2 h3 h4 h5 h6 h7 h8 x1).mono ?_; rintro e w' ⟨rfl, rfl⟩) | go_in)
  go_region_with (first | (go_at_call 36; (with_reducible refine (clamp_in s s g _ cf0 cf1).mono ?_); rintro e w' ⟨rfl, rfl⟩) | (go_at_call 36; (with_reducible refine (clamp_in (2 * s) s g _ cf2 cf3).mono ?_); rintro e w' ⟨rfl, rfl⟩))
  all_goals go_wp2
  all_goals
    refine bodyPost_ret (v := .tuple #[.agg #[.int .i64 s, .int .i64 (2 * s)], .int .i64 0]) (by simp [results, Try.results26, go_sem]) rfl ?_
    go_wp2
    refine bodyPost_ret (v := .tuple #[.agg #[.int .i64 s, .int .i64 (2 * s)], .int .i64 0]) (by simp [results, Try.results15, go_sem]) rfl ⟨rfl, ?_⟩
    repeat (first | (with_reducible exact Below.refl _ _) | apply pw_below_drewN | apply below_drew1 | (with_reducible apply below_alloc) | (refine below_set ?_ (by simp)))
set_option maxHeartbeats 6400000 in
theorem losstok3 (c t s g z : Int) (w : World) (h1 : 1 ≤ s) (h2 : s ≤ 1460) (h3 : s ≤ g) (h4 : g ≤ 1073741824) (h5 : s ≤ c) (h6 : c ≤ g) (h7 : s ≤ t) (h8 : t ≤ g) (x1 : c / 2 < 2 * s) (x2 : g < 2 * s) :
    Calls Try.prog 15 #[.agg #[.int .i64 c, .int .i64 t], .bool true, .int .i64 s, .int .i64 g] w fun e w' => e = .returned (.tuple #[.agg #[.int .i64 s, .int .i64 g], .int .i64 0]) ∧ Below w.heap.size w w' := by
  have hmf : ∀ (fn : Fn) (first cap : Array Value) (w : World), (Instr.makeFunc fn first cap).run Try.prog w = .ok (.func fn first cap) w := fun _ _ _ _ => rfl
  have hu30 := Try.underlying30
  have hix := ix3
  have cf0 : s ≤ s := by omega
  have cf1 : s ≤ g := by omega
  have cf2 : g < 2 * s := by omega
  have cf3 : s ≤ g := by omega
  go_enter Try.func15, Try.ntmps15
  go_wp2_with (first | (go_at_call 35; refine (table_any _).mono ?_; rintro e w' ⟨rfl, rfl⟩) | (go_at_call 46; refine (loss4 c t s g z _ h1 h2 h3 h4 h5 h6 h7 h8 x1).mono ?_; rintro e w' ⟨rfl, rfl⟩) | go_in)
  go_region_with (first | (go_at_call 36; (with_reducible refine (clamp_in s s g _ cf0 cf1).mono ?_); rintro e w' ⟨rfl, rfl⟩) | (go_at_call 36; (with_reducible refine (clamp_hi (2 * s) s g _ cf2 cf3).mono ?_); rintro e w' ⟨rfl, rfl⟩))
  all_goals go_wp2
  all_goals
    refine bodyPost_ret (v := .tuple #[.agg #[.int .i64 s, .int .i64 g], .int .i64 0]) (by simp [results, Try.results26, go_sem]) rfl ?_
    go_wp2
    refine bodyPost_ret (v := .tuple #[.agg #[.int .i64 s, .int .i64 g], .int .i64 0]) (by simp [results, Try.results15, go_sem]) rfl ⟨rfl, ?_⟩
    repeat (first | (with_reducible exact Below.refl _ _) | apply pw_below_drewN | apply below_drew1 | (with_reducible apply below_alloc) | (refine below_set ?_ (by simp)))
def lossThresh (c s g : Int) : Int := if 2 * s ≤ c / 2 then c / 2 else if 2 * s ≤ g then 2 * s else g
def xmp_Loss.f (c t : Int) (all : Bool) (s g : Int) : Option (Int × Int × Int) := if WFine c t s g then some (if all = true then s else lossThresh c s g, lossThresh c s g, 0) else some (0, 0, 1)
theorem xmp_Loss.calls (c t : Int) (all : Bool) (s g r1 r2 r3 : Int) (w : World) (h : xmp_Loss.f c t all s g = some (r1, r2, r3)) :
    Calls Try.prog 15 #[.agg #[.int .i64 c, .int .i64 t], .bool all, .int .i64 s, .int .i64 g] w fun e w' => e = .returned (.tuple #[.agg #[.int .i64 r1, .int .i64 r2], .int .i64 r3]) ∧ Below w.heap.size w w' := by
  unfold xmp_Loss.f at h
  split at h
  · rename_i hf
    obtain ⟨⟨h1, h2⟩, ⟨h3, h4⟩, ⟨h5, h6⟩, h7, h8⟩ := hf
    simp only [Option.some.injEq, Prod.mk.injEq] at h
    obtain ⟨rfl, rfl, rfl⟩ := h
    cases all with
    | true =>
      unfold lossThresh
      by_cases x1 : 2 * s ≤ c / 2
      · rw [if_pos rfl]; rw [if_pos x1]; exact losstok1 c t s g 0 w h1 h2 h3 h4 h5 h6 h7 h8 x1
      by_cases x2 : 2 * s ≤ g
      · rw [if_pos rfl]; rw [if_neg x1, if_pos x2]; exact losstok2 c t s g 0 w h1 h2 h3 h4 h5 h6 h7 h8 (by omega) x2
      · rw [if_pos rfl]; rw [if_neg x1, if_neg x2]; exact losstok3 c t s g 0 w h1 h2 h3 h4 h5 h6 h7 h8 (by omega) (by omega)
    | false =>
      unfold lossThresh
      by_cases x1 : 2 * s ≤ c / 2
      · rw [if_neg (by decide)]; rw [if_pos x1]; exact lossfok1 c t s g 0 w h1 h2 h3 h4 h5 h6 h7 h8 x1
      by_cases x2 : 2 * s ≤ g
      · rw [if_neg (by decide)]; rw [if_neg x1, if_pos x2]; exact lossfok2 c t s g 0 w h1 h2 h3 h4 h5 h6 h7 h8 (by omega) x2
      · rw [if_neg (by decide)]; rw [if_neg x1, if_neg x2]; exact lossfok3 c t s g 0 w h1 h2 h3 h4 h5 h6 h7 h8 (by omega) (by omega)
  · rename_i hf
    simp only [Option.some.injEq, Prod.mk.injEq] at h
    obtain ⟨rfl, rfl, rfl⟩ := h
    cases all with
    | true =>
      by_cases y0s : s < 1
      · exact losst_lo_s c t s g 0 w  y0s
      by_cases y1s : 1460 < s
      · exact losst_hi_s c t s g 0 w  (by omega) y1s
      by_cases y0g : g < s
      · exact losst_lo_g c t s g 0 w (by omega) (by omega) y0g
      by_cases y1g : 1073741824 < g
      · exact losst_hi_g c t s g 0 w (by omega) (by omega) (by omega) y1g
      by_cases y0c : c < s
      · exact losst_lo_c c t s g 0 w (by omega) (by omega) (by omega) (by omega) y0c
      by_cases y1c : g < c
      · exact losst_hi_c c t s g 0 w (by omega) (by omega) (by omega) (by omega) (by omega) y1c
      by_cases y0t : t < s
      · exact losst_lo_t c t s g 0 w (by omega) (by omega) (by omega) (by omega) (by omega) (by omega) y0t
      by_cases y1t : g < t
      · exact losst_hi_t c t s g 0 w (by omega) (by omega) (by omega) (by omega) (by omega) (by omega) (by omega) y1t
      exact absurd ⟨⟨by omega, by omega⟩, ⟨by omega, by omega⟩, ⟨by omega, by omega⟩, by omega, by omega⟩ hf
    | false =>
      by_cases y0s : s < 1
      · exact lossf_lo_s c t s g 0 w  y0s
      by_cases y1s : 1460 < s
      · exact lossf_hi_s c t s g 0 w  (by omega) y1s
      by_cases y0g : g < s
      · exact lossf_lo_g c t s g 0 w (by omega) (by omega) y0g
      by_cases y1g : 1073741824 < g
      · exact lossf_hi_g c t s g 0 w (by omega) (by omega) (by omega) y1g
      by_cases y0c : c < s
      · exact lossf_lo_c c t s g 0 w (by omega) (by omega) (by omega) (by omega) y0c
      by_cases y1c : g < c
      · exact lossf_hi_c c t s g 0 w (by omega) (by omega) (by omega) (by omega) (by omega) y1c
      by_cases y0t : t < s
      · exact lossf_lo_t c t s g 0 w (by omega) (by omega) (by omega) (by omega) (by omega) (by omega) y0t
      by_cases y1t : g < t
      · exact lossf_hi_t c t s g 0 w (by omega) (by omega) (by omega) (by omega) (by omega) (by omega) (by omega) y1t
      exact absurd ⟨⟨by omega, by omega⟩, ⟨by omega, by omega⟩, ⟨by omega, by omega⟩, by omega, by omega⟩ hf
end Go.Proofs.Ytdbnhmipbbadjaa.Hand
