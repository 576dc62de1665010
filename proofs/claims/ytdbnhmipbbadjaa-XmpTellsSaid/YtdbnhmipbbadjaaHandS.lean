/- The walk of xmp.Slow: what it tells, for every input. (Written by a program of this session.) -/
import Derived.Test.YtdbnhmipbbadjaaHandT
import Derived.Deep.RegionWith
import Derived.BigRegion
namespace Go.Proofs.Ytdbnhmipbbadjaa.Hand
open Go.RowKit Go.Proofs.YtdbnhmipbbadjaaW.PrintWords Go.Proofs.YtdbnhmipbbadjaaW.PrintLast Go.Proofs.YtdbnhmipbbadjaaW.PrintMore
set_option linter.unusedVariables false
set_option linter.unusedSimpArgs false
set_option maxHeartbeats 6400000 in
theorem slowbad_lo_s (c t n s g z : Int) (w : World) (hwrong : s < 1) :
    Calls Try.prog 12 #[.agg #[.int .i64 c, .int .i64 t], .int .i64 n, .int .i64 s, .int .i64 g] w fun e w' => e = .returned (.tuple #[.agg #[.int .i64 0, .int .i64 0], .int .i64 1]) ∧ Below w.heap.size w w' := by
  have hmf : ∀ (fn : Fn) (first cap : Array Value) (w : World), (Instr.makeFunc fn first cap).run Try.prog w = .ok (.func fn first cap) w := fun _ _ _ _ => rfl
  have hu30 := Try.underlying30
  have hix := ix0
  have bf0 : decide (1 ≤ s) = false := decide_eq_false (by omega)
  clear hwrong
  go_enter Try.func12, Try.ntmps12
  go_wp2_with (first | (go_at_call 35; refine (table_any _).mono ?_; rintro e w' ⟨rfl, rfl⟩) | go_in)
  all_goals
    refine bodyPost_ret (v := .tuple #[.agg #[.int .i64 0, .int .i64 0], .int .i64 1]) (by simp [results, Try.results26, go_sem]) rfl ?_
    go_wp2
    refine bodyPost_ret (v := .tuple #[.agg #[.int .i64 0, .int .i64 0], .int .i64 1]) (by simp [results, Try.results12, go_sem]) rfl ⟨rfl, ?_⟩
    repeat (first | (with_reducible exact Below.refl _ _) | apply pw_below_drewN | apply below_drew1 | (with_reducible apply below_alloc) | (refine below_set ?_ (by simp)))
set_option maxHeartbeats 6400000 in
theorem slowbad_hi_s (c t n s g z : Int) (w : World) (h1 : 1 ≤ s) (hwrong : 1460 < s) :
    Calls Try.prog 12 #[.agg #[.int .i64 c, .int .i64 t], .int .i64 n, .int .i64 s, .int .i64 g] w fun e w' => e = .returned (.tuple #[.agg #[.int .i64 0, .int .i64 0], .int .i64 1]) ∧ Below w.heap.size w w' := by
  have hmf : ∀ (fn : Fn) (first cap : Array Value) (w : World), (Instr.makeFunc fn first cap).run Try.prog w = .ok (.func fn first cap) w := fun _ _ _ _ => rfl
  have hu30 := Try.underlying30
  have hix := ix0
  have bf0 : decide (s ≤ 1460) = false := decide_eq_false (by omega)
  clear hwrong
  go_enter Try.func12, Try.ntmps12
  go_wp2_with (first | (go_at_call 35; refine (table_any _).mono ?_; rintro e w' ⟨rfl, rfl⟩) | go_in)
  all_goals
    refine bodyPost_ret (v := .tuple #[.agg #[.int .i64 0, .int .i64 0], .int .i64 1]) (by simp [results, Try.results26, go_sem]) rfl ?_
    go_wp2
    refine bodyPost_ret (v := .tuple #[.agg #[.int .i64 0, .int .i64 0], .int .i64 1]) (by simp [results, Try.results12, go_sem]) rfl ⟨rfl, ?_⟩
    repeat (first | (with_reducible exact Below.refl _ _) | apply pw_below_drewN | apply below_drew1 | (with_reducible apply below_alloc) | (refine below_set ?_ (by simp)))
set_option maxHeartbeats 6400000 in
theorem slowbad_lo_g (c t n s g z : Int) (w : World) (h1 : 1 ≤ s) (h2 : s ≤ 1460) (hwrong : g < s) :
    Calls Try.prog 12 #[.agg #[.int .i64 c, .int .i64 t], .int .i64 n, .int .i64 s, .int .i64 g] w fun e w' => e = .returned (.tuple #[.agg #[.int .i64 0, .int .i64 0], .int .i64 1]) ∧ Below w.heap.size w w' := by
  have hmf : ∀ (fn : Fn) (first cap : Array Value) (w : World), (Instr.makeFunc fn first cap).run Try.prog w = .ok (.func fn first cap) w := fun _ _ _ _ => rfl
  have hu30 := Try.underlying30
  have hix := ix0
  have bf0 : decide (s ≤ g) = false := decide_eq_false (by omega)
  clear hwrong
  go_enter Try.func12, Try.ntmps12
  go_wp2_with (first | (go_at_call 35; refine (table_any _).mono ?_; rintro e w' ⟨rfl, rfl⟩) | go_in)
  all_goals
    refine bodyPost_ret (v := .tuple #[.agg #[.int .i64 0, .int .i64 0], .int .i64 1]) (by simp [results, Try.results26, go_sem]) rfl ?_
    go_wp2
    refine bodyPost_ret (v := .tuple #[.agg #[.int .i64 0, .int .i64 0], .int .i64 1]) (by simp [results, Try.results12, go_sem]) rfl ⟨rfl, ?_⟩
    repeat (first | (with_reducible exact Below.refl _ _) | apply pw_below_drewN | apply below_drew1 | (with_reducible apply below_alloc) | (refine below_set ?_ (by simp)))
set_option maxHeartbeats 6400000 in
theorem slowbad_hi_g (c t n s g z : Int) (w : World) (h1 : 1 ≤ s) (h2 : s ≤ 1460) (h3 : s ≤ g) (hwrong : 1073741824 < g) :
    Calls Try.prog 12 #[.agg #[.int .i64 c, .int .i64 t], .int .i64 n, .int .i64 s, .int .i64 g] w fun e w' => e = .returned (.tuple #[.agg #[.int .i64 0, .int .i64 0], .int .i64 1]) ∧ Below w.heap.size w w' := by
  have hmf : ∀ (fn : Fn) (first cap : Array Value) (w : World), (Instr.makeFunc fn first cap).run Try.prog w = .ok (.func fn first cap) w := fun _ _ _ _ => rfl
  have hu30 := Try.underlying30
  have hix := ix0
  have bf0 : decide (g ≤ 1073741824) = false := decide_eq_false (by omega)
  clear hwrong
  go_enter Try.func12, Try.ntmps12
  go_wp2_with (first | (go_at_call 35; refine (table_any _).mono ?_; rintro e w' ⟨rfl, rfl⟩) | go_in)
  all_goals
    refine bodyPost_ret (v := .tuple #[.agg #[.int .i64 0, .int .i64 0], .int .i64 1]) (by simp [results, Try.results26, go_sem]) rfl ?_
    go_wp2
    refine bodyPost_ret (v := .tuple #[.agg #[.int .i64 0, .int .i64 0], .int .i64 1]) (by simp [results, Try.results12, go_sem]) rfl ⟨rfl, ?_⟩
    repeat (first | (with_reducible exact Below.refl _ _) | apply pw_below_drewN | apply below_drew1 | (with_reducible apply below_alloc) | (refine below_set ?_ (by simp)))
set_option maxHeartbeats 6400000 in
theorem slowbad_lo_c (c t n s g z : Int) (w : World) (h1 : 1 ≤ s) (h2 : s ≤ 1460) (h3 : s ≤ g) (h4 : g ≤ 1073741824) (hwrong : c < s) :
    Calls Try.prog 12 #[.agg #[.int .i64 c, .int .i64 t], .int .i64 n, .int .i64 s, .int .i64 g] w fun e w' => e = .returned (.tuple #[.agg #[.int .i64 0, .int .i64 0], .int .i64 1]) ∧ Below w.heap.size w w' := by
  have hmf : ∀ (fn : Fn) (first cap : Array Value) (w : World), (Instr.makeFunc fn first cap).run Try.prog w = .ok (.func fn first cap) w := fun _ _ _ _ => rfl
  have hu30 := Try.underlying30
  have hix := ix0
  have bf0 : decide (s ≤ c) = false := decide_eq_false (by omega)
  clear hwrong
  go_enter Try.func12, Try.ntmps12
  go_wp2_with (first | (go_at_call 35; refine (table_any _).mono ?_; rintro e w' ⟨rfl, rfl⟩) | go_in)
  all_goals
    refine bodyPost_ret (v := .tuple #[.agg #[.int .i64 0, .int .i64 0], .int .i64 1]) (by simp [results, Try.results26, go_sem]) rfl ?_
    go_wp2
    refine bodyPost_ret (v := .tuple #[.agg #[.int .i64 0, .int .i64 0], .int .i64 1]) (by simp [results, Try.results12, go_sem]) rfl ⟨rfl, ?_⟩
    repeat (first | (with_reducible exact Below.refl _ _) | apply pw_below_drewN | apply below_drew1 | (with_reducible apply below_alloc) | (refine below_set ?_ (by simp)))
set_option maxHeartbeats 6400000 in
theorem slowbad_hi_c (c t n s g z : Int) (w : World) (h1 : 1 ≤ s) (h2 : s ≤ 1460) (h3 : s ≤ g) (h4 : g ≤ 1073741824) (h5 : s ≤ c) (hwrong : g < c) :
    Calls Try.prog 12 #[.agg #[.int .i64 c, .int .i64 t], .int .i64 n, .int .i64 s, .int .i64 g] w fun e w' => e = .returned (.tuple #[.agg #[.int .i64 0, .int .i64 0], .int .i64 1]) ∧ Below w.heap.size w w' := by
  have hmf : ∀ (fn : Fn) (first cap : Array Value) (w : World), (Instr.makeFunc fn first cap).run Try.prog w = .ok (.func fn first cap) w := fun _ _ _ _ => rfl
  have hu30 := Try.underlying30
  have hix := ix0
  have bf0 : decide (c ≤ g) = false := decide_eq_false (by omega)
  clear hwrong
  go_enter Try.func12, Try.ntmps12
  go_wp2_with (first | (go_at_call 35; refine (table_any _).mono ?_; rintro e w' ⟨rfl, rfl⟩) | go_in)
  all_goals
    refine bodyPost_ret (v := .tuple #[.agg #[.int .i64 0, .int .i64 0], .int .i64 1]) (by simp [results, Try.results26, go_sem]) rfl ?_
    go_wp2
    refine bodyPost_ret (v := .tuple #[.agg #[.int .i64 0, .int .i64 0], .int .i64 1]) (by simp [results, Try.results12, go_sem]) rfl ⟨rfl, ?_⟩
    repeat (first | (with_reducible exact Below.refl _ _) | apply pw_below_drewN | apply below_drew1 | (with_reducible apply below_alloc) | (refine below_set ?_ (by simp)))
set_option maxHeartbeats 6400000 in
theorem slowbad_lo_t (c t n s g z : Int) (w : World) (h1 : 1 ≤ s) (h2 : s ≤ 1460) (h3 : s ≤ g) (h4 : g ≤ 1073741824) (h5 : s ≤ c) (h6 : c ≤ g) (hwrong : t < s) :
    Calls Try.prog 12 #[.agg #[.int .i64 c, .int .i64 t], .int .i64 n, .int .i64 s, .int .i64 g] w fun e w' => e = .returned (.tuple #[.agg #[.int .i64 0, .int .i64 0], .int .i64 1]) ∧ Below w.heap.size w w' := by
  have hmf : ∀ (fn : Fn) (first cap : Array Value) (w : World), (Instr.makeFunc fn first cap).run Try.prog w = .ok (.func fn first cap) w := fun _ _ _ _ => rfl
  have hu30 := Try.underlying30
  have hix := ix0
  have bf0 : decide (s ≤ t) = false := decide_eq_false (by omega)
  clear hwrong
  go_enter Try.func12, Try.ntmps12
  go_wp2_with (first | (go_at_call 35; refine (table_any _).mono ?_; rintro e w' ⟨rfl, rfl⟩) | go_in)
  all_goals
    refine bodyPost_ret (v := .tuple #[.agg #[.int .i64 0, .int .i64 0], .int .i64 1]) (by simp [results, Try.results26, go_sem]) rfl ?_
    go_wp2
    refine bodyPost_ret (v := .tuple #[.agg #[.int .i64 0, .int .i64 0], .int .i64 1]) (by simp [results, Try.results12, go_sem]) rfl ⟨rfl, ?_⟩
    repeat (first | (with_reducible exact Below.refl _ _) | apply pw_below_drewN | apply below_drew1 | (with_reducible apply below_alloc) | (refine below_set ?_ (by simp)))
set_option maxHeartbeats 6400000 in
theorem slowbad_hi_t (c t n s g z : Int) (w : World) (h1 : 1 ≤ s) (h2 : s ≤ 1460) (h3 : s ≤ g) (h4 : g ≤ 1073741824) (h5 : s ≤ c) (h6 : c ≤ g) (h7 : s ≤ t) (hwrong : g < t) :
    Calls Try.prog 12 #[.agg #[.int .i64 c, .int .i64 t], .int .i64 n, .int .i64 s, .int .i64 g] w fun e w' => e = .returned (.tuple #[.agg #[.int .i64 0, .int .i64 0], .int .i64 1]) ∧ Below w.heap.size w w' := by
  have hmf : ∀ (fn : Fn) (first cap : Array Value) (w : World), (Instr.makeFunc fn first cap).run Try.prog w = .ok (.func fn first cap) w := fun _ _ _ _ => rfl
  have hu30 := Try.underlying30
  have hix := ix0
  have bf0 : decide (t ≤ g) = false := decide_eq_false (by omega)
  clear hwrong
  go_enter Try.func12, Try.ntmps12
  go_wp2_with (first | (go_at_call 35; refine (table_any _).mono ?_; rintro e w' ⟨rfl, rfl⟩) | go_in)
  all_goals
    refine bodyPost_ret (v := .tuple #[.agg #[.int .i64 0, .int .i64 0], .int .i64 1]) (by simp [results, Try.results26, go_sem]) rfl ?_
    go_wp2
    refine bodyPost_ret (v := .tuple #[.agg #[.int .i64 0, .int .i64 0], .int .i64 1]) (by simp [results, Try.results12, go_sem]) rfl ⟨rfl, ?_⟩
    repeat (first | (with_reducible exact Below.refl _ _) | apply pw_below_drewN | apply below_drew1 | (with_reducible apply below_alloc) | (refine below_set ?_ (by simp)))
set_option maxHeartbeats 6400000 in
theorem slowbad_lo_n (c t n s g z : Int) (w : World) (h1 : 1 ≤ s) (h2 : s ≤ 1460) (h3 : s ≤ g) (h4 : g ≤ 1073741824) (h5 : s ≤ c) (h6 : c ≤ g) (h7 : s ≤ t) (h8 : t ≤ g) (hwrong : n < 0) :
    Calls Try.prog 12 #[.agg #[.int .i64 c, .int .i64 t], .int .i64 n, .int .i64 s, .int .i64 g] w fun e w' => e = .returned (.tuple #[.agg #[.int .i64 0, .int .i64 0], .int .i64 1]) ∧ Below w.heap.size w w' := by
  have hmf : ∀ (fn : Fn) (first cap : Array Value) (w : World), (Instr.makeFunc fn first cap).run Try.prog w = .ok (.func fn first cap) w := fun _ _ _ _ => rfl
  have hu30 := Try.underlying30
  have hix := ix0
  have bf0 : decide (0 ≤ n) = false := decide_eq_false (by omega)
  clear hwrong
  go_enter Try.func12, Try.ntmps12
  go_wp2_with (first | (go_at_call 35; refine (table_any _).mono ?_; rintro e w' ⟨rfl, rfl⟩) | go_in)
  all_goals
    refine bodyPost_ret (v := .tuple #[.agg #[.int .i64 0, .int .i64 0], .int .i64 1]) (by simp [results, Try.results26, go_sem]) rfl ?_
    go_wp2
    refine bodyPost_ret (v := .tuple #[.agg #[.int .i64 0, .int .i64 0], .int .i64 1]) (by simp [results, Try.results12, go_sem]) rfl ⟨rfl, ?_⟩
    repeat (first | (with_reducible exact Below.refl _ _) | apply pw_below_drewN | apply below_drew1 | (with_reducible apply below_alloc) | (refine below_set ?_ (by simp)))
set_option maxHeartbeats 6400000 in
theorem slowbad_hi_n (c t n s g z : Int) (w : World) (h1 : 1 ≤ s) (h2 : s ≤ 1460) (h3 : s ≤ g) (h4 : g ≤ 1073741824) (h5 : s ≤ c) (h6 : c ≤ g) (h7 : s ≤ t) (h8 : t ≤ g) (h9 : 0 ≤ n) (hwrong : 1099511627776 < n) :
    Calls Try.prog 12 #[.agg #[.int .i64 c, .int .i64 t], .int .i64 n, .int .i64 s, .int .i64 g] w fun e w' => e = .returned (.tuple #[.agg #[.int .i64 0, .int .i64 0], .int .i64 1]) ∧ Below w.heap.size w w' := by
  have hmf : ∀ (fn : Fn) (first cap : Array Value) (w : World), (Instr.makeFunc fn first cap).run Try.prog w = .ok (.func fn first cap) w := fun _ _ _ _ => rfl
  have hu30 := Try.underlying30
  have hix := ix0
  have bf0 : decide (n ≤ 1099511627776) = false := decide_eq_false (by omega)
  clear hwrong
  go_enter Try.func12, Try.ntmps12
  go_wp2_with (first | (go_at_call 35; refine (table_any _).mono ?_; rintro e w' ⟨rfl, rfl⟩) | go_in)
  all_goals
    refine bodyPost_ret (v := .tuple #[.agg #[.int .i64 0, .int .i64 0], .int .i64 1]) (by simp [results, Try.results26, go_sem]) rfl ?_
    go_wp2
    refine bodyPost_ret (v := .tuple #[.agg #[.int .i64 0, .int .i64 0], .int .i64 1]) (by simp [results, Try.results12, go_sem]) rfl ⟨rfl, ?_⟩
    repeat (first | (with_reducible exact Below.refl _ _) | apply pw_below_drewN | apply below_drew1 | (with_reducible apply below_alloc) | (refine below_set ?_ (by simp)))
set_option maxHeartbeats 6400000 in
theorem slowok1 (c t n s g z : Int) (w : World) (h1 : 1 ≤ s) (h2 : s ≤ 1460) (h3 : s ≤ g) (h4 : g ≤ 1073741824) (h5 : s ≤ c) (h6 : c ≤ g) (h7 : s ≤ t) (h8 : t ≤ g) (h9 : 0 ≤ n) (h10 : n ≤ 1099511627776) (x1 : c < t) (x2 : c + n ≤ t) :
    Calls Try.prog 12 #[.agg #[.int .i64 c, .int .i64 t], .int .i64 n, .int .i64 s, .int .i64 g] w fun e w' => e = .returned (.tuple #[.agg #[.int .i64 (c + n), .int .i64 t], .int .i64 0]) ∧ Below w.heap.size w w' := by
  have hmf : ∀ (fn : Fn) (first cap : Array Value) (w : World), (Instr.makeFunc fn first cap).run Try.prog w = .ok (.func fn first cap) w := fun _ _ _ _ => rfl
  have hu30 := Try.underlying30
  have hix := ix0
  have cf0 : s ≤ c + n := by omega
  have cf1 : c + n ≤ g := by omega
  have cf2 : s ≤ t := by omega
  have cf3 : t ≤ g := by omega
  go_enter Try.func12, Try.ntmps12
  go_wp2_with (first | (go_at_call 35; refine (table_any _).mono ?_; rintro e w' ⟨rfl, rfl⟩) | (go_at_call 42; refine (slow1 c t n s g z _ h1 h2 h3 h4 h5 h6 h7 h8 h9 h10 x1 x2).mono ?_; rintro e w' ⟨rfl, rfl⟩) | go_in)
  go_region_with (first | (go_at_call 36; (with_reducible refine (clamp_in (c + n) s g _ cf0 cf1).mono ?_); rintro e w' ⟨rfl, rfl⟩) | (go_at_call 36; (with_reducible refine (clamp_in t s g _ cf2 cf3).mono ?_); rintro e w' ⟨rfl, rfl⟩))
  all_goals go_wp2
  all_goals
    refine bodyPost_ret (v := .tuple #[.agg #[.int .i64 (c + n), .int .i64 t], .int .i64 0]) (by simp [results, Try.results26, go_sem]) rfl ?_
    go_wp2
    refine bodyPost_ret (v := .tuple #[.agg #[.int .i64 (c + n), .int .i64 t], .int .i64 0]) (by simp [results, Try.results12, go_sem]) rfl ⟨rfl, ?_⟩
    repeat (first | (with_reducible exact Below.refl _ _) | apply pw_below_drewN | apply below_drew1 | (with_reducible apply below_alloc) | (refine below_set ?_ (by simp)))
set_option maxHeartbeats 6400000 in
theorem slowok2 (c t n s g z : Int) (w : World) (h1 : 1 ≤ s) (h2 : s ≤ 1460) (h3 : s ≤ g) (h4 : g ≤ 1073741824) (h5 : s ≤ c) (h6 : c ≤ g) (h7 : s ≤ t) (h8 : t ≤ g) (h9 : 0 ≤ n) (h10 : n ≤ 1099511627776) (x1 : c < t) (x2 : t < c + n) :
    Calls Try.prog 12 #[.agg #[.int .i64 c, .int .i64 t], .int .i64 n, .int .i64 s, .int .i64 g] w fun e w' => e = .returned (.tuple #[.agg #[.int .i64 t, .int .i64 t], .int .i64 0]) ∧ Below w.heap.size w w' := by
  have hmf : ∀ (fn : Fn) (first cap : Array Value) (w : World), (Instr.makeFunc fn first cap).run Try.prog w = .ok (.func fn first cap) w := fun _ _ _ _ => rfl
  have hu30 := Try.underlying30
  have hix := ix0
  have cf0 : s ≤ t := by omega
  have cf1 : t ≤ g := by omega
  go_enter Try.func12, Try.ntmps12
  go_wp2_with (first | (go_at_call 35; refine (table_any _).mono ?_; rintro e w' ⟨rfl, rfl⟩) | (go_at_call 42; refine (slow2 c t n s g z _ h1 h2 h3 h4 h5 h6 h7 h8 h9 h10 x1 x2).mono ?_; rintro e w' ⟨rfl, rfl⟩) | go_in)
  go_region_with (first | (go_at_call 36; (with_reducible refine (clamp_in t s g _ cf0 cf1).mono ?_); rintro e w' ⟨rfl, rfl⟩))
  all_goals go_wp2
  all_goals
    refine bodyPost_ret (v := .tuple #[.agg #[.int .i64 t, .int .i64 t], .int .i64 0]) (by simp [results, Try.results26, go_sem]) rfl ?_
    go_wp2
    refine bodyPost_ret (v := .tuple #[.agg #[.int .i64 t, .int .i64 t], .int .i64 0]) (by simp [results, Try.results12, go_sem]) rfl ⟨rfl, ?_⟩
    repeat (first | (with_reducible exact Below.refl _ _) | apply pw_below_drewN | apply below_drew1 | (with_reducible apply below_alloc) | (refine below_set ?_ (by simp)))
set_option maxHeartbeats 6400000 in
theorem slowok3 (c t n s g z : Int) (w : World) (h1 : 1 ≤ s) (h2 : s ≤ 1460) (h3 : s ≤ g) (h4 : g ≤ 1073741824) (h5 : s ≤ c) (h6 : c ≤ g) (h7 : s ≤ t) (h8 : t ≤ g) (h9 : 0 ≤ n) (h10 : n ≤ 1099511627776) (x1 : t ≤ c) :
    Calls Try.prog 12 #[.agg #[.int .i64 c, .int .i64 t], .int .i64 n, .int .i64 s, .int .i64 g] w fun e w' => e = .returned (.tuple #[.agg #[.int .i64 c, .int .i64 t], .int .i64 0]) ∧ Below w.heap.size w w' := by
  have hmf : ∀ (fn : Fn) (first cap : Array Value) (w : World), (Instr.makeFunc fn first cap).run Try.prog w = .ok (.func fn first cap) w := fun _ _ _ _ => rfl
  have hu30 := Try.underlying30
  have hix := ix0
  have cf0 : s ≤ c := by omega
  have cf1 : c ≤ g := by omega
  have cf2 : s ≤ t := by omega
  have cf3 : t ≤ g := by omega
  go_enter Try.func12, Try.ntmps12
  go_wp2_with (first | (go_at_call 35; refine (table_any _).mono ?_; rintro e w' ⟨rfl, rfl⟩) | (go_at_call 42; refine (slow3 c t n s g z _ h1 h2 h3 h4 h5 h6 h7 h8 h9 h10 x1).mono ?_; rintro e w' ⟨rfl, rfl⟩) | go_in)
  go_region_with (first | (go_at_call 36; (with_reducible refine (clamp_in c s g _ cf0 cf1).mono ?_); rintro e w' ⟨rfl, rfl⟩) | (go_at_call 36; (with_reducible refine (clamp_in t s g _ cf2 cf3).mono ?_); rintro e w' ⟨rfl, rfl⟩))
  all_goals go_wp2
  all_goals
    refine bodyPost_ret (v := .tuple #[.agg #[.int .i64 c, .int .i64 t], .int .i64 0]) (by simp [results, Try.results26, go_sem]) rfl ?_
    go_wp2
    refine bodyPost_ret (v := .tuple #[.agg #[.int .i64 c, .int .i64 t], .int .i64 0]) (by simp [results, Try.results12, go_sem]) rfl ⟨rfl, ?_⟩
    repeat (first | (with_reducible exact Below.refl _ _) | apply pw_below_drewN | apply below_drew1 | (with_reducible apply below_alloc) | (refine below_set ?_ (by simp)))
def WFine (c t s g : Int) : Prop := (1 ≤ s ∧ s ≤ 1460) ∧ (s ≤ g ∧ g ≤ 1073741824) ∧ (s ≤ c ∧ c ≤ g) ∧ (s ≤ t ∧ t ≤ g)
instance (c t s g : Int) : Decidable (WFine c t s g) := inferInstanceAs (Decidable (_ ∧ _))
def xmp_Slow.f (c t n s g : Int) : Option (Int × Int × Int) := if WFine c t s g ∧ 0 ≤ n ∧ n ≤ 1099511627776 then (if c < t then (if c + n ≤ t then some (c + n, t, 0) else some (t, t, 0)) else some (c, t, 0)) else some (0, 0, 1)
theorem xmp_Slow.calls (c t : Int) (n : Int) (s g r1 r2 r3 : Int) (w : World) (h : xmp_Slow.f c t n s g = some (r1, r2, r3)) :
    Calls Try.prog 12 #[.agg #[.int .i64 c, .int .i64 t], .int .i64 n, .int .i64 s, .int .i64 g] w fun e w' => e = .returned (.tuple #[.agg #[.int .i64 r1, .int .i64 r2], .int .i64 r3]) ∧ Below w.heap.size w w' := by
  unfold xmp_Slow.f at h
  split at h
  · rename_i hf
    obtain ⟨⟨⟨h1, h2⟩, ⟨h3, h4⟩, ⟨h5, h6⟩, h7, h8⟩, h9, h10⟩ := hf
    split at h
    · rename_i x1
      split at h
      · rename_i x2
        simp only [Option.some.injEq, Prod.mk.injEq] at h
        obtain ⟨rfl, rfl, rfl⟩ := h
        exact slowok1 c t n s g 0 w h1 h2 h3 h4 h5 h6 h7 h8 h9 h10 x1 x2
      · rename_i x2
        simp only [Option.some.injEq, Prod.mk.injEq] at h
        obtain ⟨rfl, rfl, rfl⟩ := h
        exact slowok2 c t n s g 0 w h1 h2 h3 h4 h5 h6 h7 h8 h9 h10 x1 (by omega)
    · rename_i x1
      simp only [Option.some.injEq, Prod.mk.injEq] at h
      obtain ⟨rfl, rfl, rfl⟩ := h
      exact slowok3 c t n s g 0 w h1 h2 h3 h4 h5 h6 h7 h8 h9 h10 (by omega)
  · rename_i hf
    simp only [Option.some.injEq, Prod.mk.injEq] at h
    obtain ⟨rfl, rfl, rfl⟩ := h
    by_cases y0s : s < 1
    · exact slowbad_lo_s c t n s g 0 w  y0s
    by_cases y1s : 1460 < s
    · exact slowbad_hi_s c t n s g 0 w  (by omega) y1s
    by_cases y0g : g < s
    · exact slowbad_lo_g c t n s g 0 w (by omega) (by omega) y0g
    by_cases y1g : 1073741824 < g
    · exact slowbad_hi_g c t n s g 0 w (by omega) (by omega) (by omega) y1g
    by_cases y0c : c < s
    · exact slowbad_lo_c c t n s g 0 w (by omega) (by omega) (by omega) (by omega) y0c
    by_cases y1c : g < c
    · exact slowbad_hi_c c t n s g 0 w (by omega) (by omega) (by omega) (by omega) (by omega) y1c
    by_cases y0t : t < s
    · exact slowbad_lo_t c t n s g 0 w (by omega) (by omega) (by omega) (by omega) (by omega) (by omega) y0t
    by_cases y1t : g < t
    · exact slowbad_hi_t c t n s g 0 w (by omega) (by omega) (by omega) (by omega) (by omega) (by omega) (by omega) y1t
    by_cases y0n : n < 0
    · exact slowbad_lo_n c t n s g 0 w (by omega) (by omega) (by omega) (by omega) (by omega) (by omega) (by omega) (by omega) y0n
    by_cases y1n : 1099511627776 < n
    · exact slowbad_hi_n c t n s g 0 w (by omega) (by omega) (by omega) (by omega) (by omega) (by omega) (by omega) (by omega) (by omega) y1n
    exact absurd ⟨⟨⟨by omega, by omega⟩, ⟨by omega, by omega⟩, ⟨by omega, by omega⟩, by omega, by omega⟩, by omega, by omega⟩ hf
end Go.Proofs.Ytdbnhmipbbadjaa.Hand
