/- The walk of xmp.Cut: what it tells, for every input. (Written by a program of this session.) -/
import Derived.Test.YtdbnhmipbbadjaaHandS
namespace Go.Proofs.Ytdbnhmipbbadjaa.Hand
open Go.RowKit Go.Proofs.YtdbnhmipbbadjaaW.PrintWords Go.Proofs.YtdbnhmipbbadjaaW.PrintLast Go.Proofs.YtdbnhmipbbadjaaW.PrintMore
set_option linter.unusedVariables false
set_option linter.unusedSimpArgs false
set_option maxHeartbeats 6400000 in
theorem cutbad_lo_s (c t n s g z : Int) (w : World) (hwrong : s < 1) :
    Calls Try.prog 14 #[.agg #[.int .i64 c, .int .i64 t], .int .i64 n, .int .i64 s, .int .i64 g] w fun e w' => e = .returned (.tuple #[.agg #[.int .i64 0, .int .i64 0], .int .i64 1]) ∧ Below w.heap.size w w' := by
  have hmf : ∀ (fn : Fn) (first cap : Array Value) (w : World), (Instr.makeFunc fn first cap).run Try.prog w = .ok (.func fn first cap) w := fun _ _ _ _ => rfl
  have hu30 := Try.underlying30
  have hix := ix2
  have bf0 : decide (1 ≤ s) = false := decide_eq_false (by omega)
  clear hwrong
  go_enter Try.func14, Try.ntmps14
  go_wp2_with (first | (go_at_call 35; refine (table_any _).mono ?_; rintro e w' ⟨rfl, rfl⟩) | go_in)
  all_goals
    refine bodyPost_ret (v := .tuple #[.agg #[.int .i64 0, .int .i64 0], .int .i64 1]) (by simp [results, Try.results26, go_sem]) rfl ?_
    go_wp2
    refine bodyPost_ret (v := .tuple #[.agg #[.int .i64 0, .int .i64 0], .int .i64 1]) (by simp [results, Try.results14, go_sem]) rfl ⟨rfl, ?_⟩
    repeat (first | (with_reducible exact Below.refl _ _) | apply pw_below_drewN | apply below_drew1 | (with_reducible apply below_alloc) | (refine below_set ?_ (by simp)))
set_option maxHeartbeats 6400000 in
theorem cutbad_hi_s (c t n s g z : Int) (w : World) (h1 : 1 ≤ s) (hwrong : 1460 < s) :
    Calls Try.prog 14 #[.agg #[.int .i64 c, .int .i64 t], .int .i64 n, .int .i64 s, .int .i64 g] w fun e w' => e = .returned (.tuple #[.agg #[.int .i64 0, .int .i64 0], .int .i64 1]) ∧ Below w.heap.size w w' := by
  have hmf : ∀ (fn : Fn) (first cap : Array Value) (w : World), (Instr.makeFunc fn first cap).run Try.prog w = .ok (.func fn first cap) w := fun _ _ _ _ => rfl
  have hu30 := Try.underlying30
  have hix := ix2
  have bf0 : decide (s ≤ 1460) = false := decide_eq_false (by omega)
  clear hwrong
  go_enter Try.func14, Try.ntmps14
  go_wp2_with (first | (go_at_call 35; refine (table_any _).mono ?_; rintro e w' ⟨rfl, rfl⟩) | go_in)
  all_goals
    refine bodyPost_ret (v := .tuple #[.agg #[.int .i64 0, .int .i64 0], .int .i64 1]) (by simp [results, Try.results26, go_sem]) rfl ?_
    go_wp2
    refine bodyPost_ret (v := .tuple #[.agg #[.int .i64 0, .int .i64 0], .int .i64 1]) (by simp [results, Try.results14, go_sem]) rfl ⟨rfl, ?_⟩
    repeat (first | (with_reducible exact Below.refl _ _) | apply pw_below_drewN | apply below_drew1 | (with_reducible apply below_alloc) | (refine below_set ?_ (by simp)))
set_option maxHeartbeats 6400000 in
theorem cutbad_lo_g (c t n s g z : Int) (w : World) (h1 : 1 ≤ s) (h2 : s ≤ 1460) (hwrong : g < s) :
    Calls Try.prog 14 #[.agg #[.int .i64 c, .int .i64 t], .int .i64 n, .int .i64 s, .int .i64 g] w fun e w' => e = .returned (.tuple #[.agg #[.int .i64 0, .int .i64 0], .int .i64 1]) ∧ Below w.heap.size w w' := by
  have hmf : ∀ (fn : Fn) (first cap : Array Value) (w : World), (Instr.makeFunc fn first cap).run Try.prog w = .ok (.func fn first cap) w := fun _ _ _ _ => rfl
  have hu30 := Try.underlying30
  have hix := ix2
  have bf0 : decide (s ≤ g) = false := decide_eq_false (by omega)
  clear hwrong
  go_enter Try.func14, Try.ntmps14
  go_wp2_with (first | (go_at_call 35; refine (table_any _).mono ?_; rintro e w' ⟨rfl, rfl⟩) | go_in)
  all_goals
    refine bodyPost_ret (v := .tuple #[.agg #[.int .i64 0, .int .i64 0], .int .i64 1]) (by simp [results, Try.results26, go_sem]) rfl ?_
    go_wp2
    refine bodyPost_ret (v := .tuple #[.agg #[.int .i64 0, .int .i64 0], .int .i64 1]) (by simp [results, Try.results14, go_sem]) rfl ⟨rfl, ?_⟩
    repeat (first | (with_reducible exact Below.refl _ _) | apply pw_below_drewN | apply below_drew1 | (with_reducible apply below_alloc) | (refine below_set ?_ (by simp)))
set_option maxHeartbeats 6400000 in
theorem cutbad_hi_g (c t n s g z : Int) (w : World) (h1 : 1 ≤ s) (h2 : s ≤ 1460) (h3 : s ≤ g) (hwrong : 1073741824 < g) :
    Calls Try.prog 14 #[.agg #[.int .i64 c, .int .i64 t], .int .i64 n, .int .i64 s, .int .i64 g] w fun e w' => e = .returned (.tuple #[.agg #[.int .i64 0, .int .i64 0], .int .i64 1]) ∧ Below w.heap.size w w' := by
  have hmf : ∀ (fn : Fn) (first cap : Array Value) (w : World), (Instr.makeFunc fn first cap).run Try.prog w = .ok (.func fn first cap) w := fun _ _ _ _ => rfl
  have hu30 := Try.underlying30
  have hix := ix2
  have bf0 : decide (g ≤ 1073741824) = false := decide_eq_false (by omega)
  clear hwrong
  go_enter Try.func14, Try.ntmps14
  go_wp2_with (first | (go_at_call 35; refine (table_any _).mono ?_; rintro e w' ⟨rfl, rfl⟩) | go_in)
  all_goals
    refine bodyPost_ret (v := .tuple #[.agg #[.int .i64 0, .int .i64 0], .int .i64 1]) (by simp [results, Try.results26, go_sem]) rfl ?_
    go_wp2
    refine bodyPost_ret (v := .tuple #[.agg #[.int .i64 0, .int .i64 0], .int .i64 1]) (by simp [results, Try.results14, go_sem]) rfl ⟨rfl, ?_⟩
    repeat (first | (with_reducible exact Below.refl _ _) | apply pw_below_drewN | apply below_drew1 | (with_reducible apply below_alloc) | (refine below_set ?_ (by simp)))
set_option maxHeartbeats 6400000 in
theorem cutbad_lo_c (c t n s g z : Int) (w : World) (h1 : 1 ≤ s) (h2 : s ≤ 1460) (h3 : s ≤ g) (h4 : g ≤ 1073741824) (hwrong : c < s) :
    Calls Try.prog 14 #[.agg #[.int .i64 c, .int .i64 t], .int .i64 n, .int .i64 s, .int .i64 g] w fun e w' => e = .returned (.tuple #[.agg #[.int .i64 0, .int .i64 0], .int .i64 1]) ∧ Below w.heap.size w w' := by
  have hmf : ∀ (fn : Fn) (first cap : Array Value) (w : World), (Instr.makeFunc fn first cap).run Try.prog w = .ok (.func fn first cap) w := fun _ _ _ _ => rfl
  have hu30 := Try.underlying30
  have hix := ix2
  have bf0 : decide (s ≤ c) = false := decide_eq_false (by omega)
  clear hwrong
  go_enter Try.func14, Try.ntmps14
  go_wp2_with (first | (go_at_call 35; refine (table_any _).mono ?_; rintro e w' ⟨rfl, rfl⟩) | go_in)
  all_goals
    refine bodyPost_ret (v := .tuple #[.agg #[.int .i64 0, .int .i64 0], .int .i64 1]) (by simp [results, Try.results26, go_sem]) rfl ?_
    go_wp2
    refine bodyPost_ret (v := .tuple #[.agg #[.int .i64 0, .int .i64 0], .int .i64 1]) (by simp [results, Try.results14, go_sem]) rfl ⟨rfl, ?_⟩
    repeat (first | (with_reducible exact Below.refl _ _) | apply pw_below_drewN | apply below_drew1 | (with_reducible apply below_alloc) | (refine below_set ?_ (by simp)))
set_option maxHeartbeats 6400000 in
theorem cutbad_hi_c (c t n s g z : Int) (w : World) (h1 : 1 ≤ s) (h2 : s ≤ 1460) (h3 : s ≤ g) (h4 : g ≤ 1073741824) (h5 : s ≤ c) (hwrong : g < c) :
    Calls Try.prog 14 #[.agg #[.int .i64 c, .int .i64 t], .int .i64 n, .int .i64 s, .int .i64 g] w fun e w' => e = .returned (.tuple #[.agg #[.int .i64 0, .int .i64 0], .int .i64 1]) ∧ Below w.heap.size w w' := by
  have hmf : ∀ (fn : Fn) (first cap : Array Value) (w : World), (Instr.makeFunc fn first cap).run Try.prog w = .ok (.func fn first cap) w := fun _ _ _ _ => rfl
  have hu30 := Try.underlying30
  have hix := ix2
  have bf0 : decide (c ≤ g) = false := decide_eq_false (by omega)
  clear hwrong
  go_enter Try.func14, Try.ntmps14
  go_wp2_with (first | (go_at_call 35; refine (table_any _).mono ?_; rintro e w' ⟨rfl, rfl⟩) | go_in)
  all_goals
    refine bodyPost_ret (v := .tuple #[.agg #[.int .i64 0, .int .i64 0], .int .i64 1]) (by simp [results, Try.results26, go_sem]) rfl ?_
    go_wp2
    refine bodyPost_ret (v := .tuple #[.agg #[.int .i64 0, .int .i64 0], .int .i64 1]) (by simp [results, Try.results14, go_sem]) rfl ⟨rfl, ?_⟩
    repeat (first | (with_reducible exact Below.refl _ _) | apply pw_below_drewN | apply below_drew1 | (with_reducible apply below_alloc) | (refine below_set ?_ (by simp)))
set_option maxHeartbeats 6400000 in
theorem cutbad_lo_t (c t n s g z : Int) (w : World) (h1 : 1 ≤ s) (h2 : s ≤ 1460) (h3 : s ≤ g) (h4 : g ≤ 1073741824) (h5 : s ≤ c) (h6 : c ≤ g) (hwrong : t < s) :
    Calls Try.prog 14 #[.agg #[.int .i64 c, .int .i64 t], .int .i64 n, .int .i64 s, .int .i64 g] w fun e w' => e = .returned (.tuple #[.agg #[.int .i64 0, .int .i64 0], .int .i64 1]) ∧ Below w.heap.size w w' := by
  have hmf : ∀ (fn : Fn) (first cap : Array Value) (w : World), (Instr.makeFunc fn first cap).run Try.prog w = .ok (.func fn first cap) w := fun _ _ _ _ => rfl
  have hu30 := Try.underlying30
  have hix := ix2
  have bf0 : decide (s ≤ t) = false := decide_eq_false (by omega)
  clear hwrong
  go_enter Try.func14, Try.ntmps14
  go_wp2_with (first | (go_at_call 35; refine (table_any _).mono ?_; rintro e w' ⟨rfl, rfl⟩) | go_in)
  all_goals
    refine bodyPost_ret (v := .tuple #[.agg #[.int .i64 0, .int .i64 0], .int .i64 1]) (by simp [results, Try.results26, go_sem]) rfl ?_
    go_wp2
    refine bodyPost_ret (v := .tuple #[.agg #[.int .i64 0, .int .i64 0], .int .i64 1]) (by simp [results, Try.results14, go_sem]) rfl ⟨rfl, ?_⟩
    repeat (first | (with_reducible exact Below.refl _ _) | apply pw_below_drewN | apply below_drew1 | (with_reducible apply below_alloc) | (refine below_set ?_ (by simp)))
set_option maxHeartbeats 6400000 in
theorem cutbad_hi_t (c t n s g z : Int) (w : World) (h1 : 1 ≤ s) (h2 : s ≤ 1460) (h3 : s ≤ g) (h4 : g ≤ 1073741824) (h5 : s ≤ c) (h6 : c ≤ g) (h7 : s ≤ t) (hwrong : g < t) :
    Calls Try.prog 14 #[.agg #[.int .i64 c, .int .i64 t], .int .i64 n, .int .i64 s, .int .i64 g] w fun e w' => e = .returned (.tuple #[.agg #[.int .i64 0, .int .i64 0], .int .i64 1]) ∧ Below w.heap.size w w' := by
  have hmf : ∀ (fn : Fn) (first cap : Array Value) (w : World), (Instr.makeFunc fn first cap).run Try.prog w = .ok (.func fn first cap) w := fun _ _ _ _ => rfl
  have hu30 := Try.underlying30
  have hix := ix2
  have bf0 : decide (t ≤ g) = false := decide_eq_false (by omega)
  clear hwrong
  go_enter Try.func14, Try.ntmps14
  go_wp2_with (first | (go_at_call 35; refine (table_any _).mono ?_; rintro e w' ⟨rfl, rfl⟩) | go_in)
  all_goals
    refine bodyPost_ret (v := .tuple #[.agg #[.int .i64 0, .int .i64 0], .int .i64 1]) (by simp [results, Try.results26, go_sem]) rfl ?_
    go_wp2
    refine bodyPost_ret (v := .tuple #[.agg #[.int .i64 0, .int .i64 0], .int .i64 1]) (by simp [results, Try.results14, go_sem]) rfl ⟨rfl, ?_⟩
    repeat (first | (with_reducible exact Below.refl _ _) | apply pw_below_drewN | apply below_drew1 | (with_reducible apply below_alloc) | (refine below_set ?_ (by simp)))
set_option maxHeartbeats 6400000 in
theorem cutbad_lo_n (c t n s g z : Int) (w : World) (h1 : 1 ≤ s) (h2 : s ≤ 1460) (h3 : s ≤ g) (h4 : g ≤ 1073741824) (h5 : s ≤ c) (h6 : c ≤ g) (h7 : s ≤ t) (h8 : t ≤ g) (hwrong : n < 0) :
    Calls Try.prog 14 #[.agg #[.int .i64 c, .int .i64 t], .int .i64 n, .int .i64 s, .int .i64 g] w fun e w' => e = .returned (.tuple #[.agg #[.int .i64 0, .int .i64 0], .int .i64 1]) ∧ Below w.heap.size w w' := by
  have hmf : ∀ (fn : Fn) (first cap : Array Value) (w : World), (Instr.makeFunc fn first cap).run Try.prog w = .ok (.func fn first cap) w := fun _ _ _ _ => rfl
  have hu30 := Try.underlying30
  have hix := ix2
  have bf0 : decide (0 ≤ n) = false := decide_eq_false (by omega)
  clear hwrong
  go_enter Try.func14, Try.ntmps14
  go_wp2_with (first | (go_at_call 35; refine (table_any _).mono ?_; rintro e w' ⟨rfl, rfl⟩) | go_in)
  all_goals
    refine bodyPost_ret (v := .tuple #[.agg #[.int .i64 0, .int .i64 0], .int .i64 1]) (by simp [results, Try.results26, go_sem]) rfl ?_
    go_wp2
    refine bodyPost_ret (v := .tuple #[.agg #[.int .i64 0, .int .i64 0], .int .i64 1]) (by simp [results, Try.results14, go_sem]) rfl ⟨rfl, ?_⟩
    repeat (first | (with_reducible exact Below.refl _ _) | apply pw_below_drewN | apply below_drew1 | (with_reducible apply below_alloc) | (refine below_set ?_ (by simp)))
set_option maxHeartbeats 6400000 in
theorem cutbad_hi_n (c t n s g z : Int) (w : World) (h1 : 1 ≤ s) (h2 : s ≤ 1460) (h3 : s ≤ g) (h4 : g ≤ 1073741824) (h5 : s ≤ c) (h6 : c ≤ g) (h7 : s ≤ t) (h8 : t ≤ g) (h9 : 0 ≤ n) (hwrong : 1024 < n) :
    Calls Try.prog 14 #[.agg #[.int .i64 c, .int .i64 t], .int .i64 n, .int .i64 s, .int .i64 g] w fun e w' => e = .returned (.tuple #[.agg #[.int .i64 0, .int .i64 0], .int .i64 1]) ∧ Below w.heap.size w w' := by
  have hmf : ∀ (fn : Fn) (first cap : Array Value) (w : World), (Instr.makeFunc fn first cap).run Try.prog w = .ok (.func fn first cap) w := fun _ _ _ _ => rfl
  have hu30 := Try.underlying30
  have hix := ix2
  have bf0 : decide (n ≤ 1024) = false := decide_eq_false (by omega)
  clear hwrong
  go_enter Try.func14, Try.ntmps14
  go_wp2_with (first | (go_at_call 35; refine (table_any _).mono ?_; rintro e w' ⟨rfl, rfl⟩) | go_in)
  all_goals
    refine bodyPost_ret (v := .tuple #[.agg #[.int .i64 0, .int .i64 0], .int .i64 1]) (by simp [results, Try.results26, go_sem]) rfl ?_
    go_wp2
    refine bodyPost_ret (v := .tuple #[.agg #[.int .i64 0, .int .i64 0], .int .i64 1]) (by simp [results, Try.results14, go_sem]) rfl ⟨rfl, ?_⟩
    repeat (first | (with_reducible exact Below.refl _ _) | apply pw_below_drewN | apply below_drew1 | (with_reducible apply below_alloc) | (refine below_set ?_ (by simp)))
set_option maxHeartbeats 6400000 in
theorem cutok1 (c t n s g z : Int) (w : World) (h1 : 1 ≤ s) (h2 : s ≤ 1460) (h3 : s ≤ g) (h4 : g ≤ 1073741824) (h5 : s ≤ c) (h6 : c ≤ g) (h7 : s ≤ t) (h8 : t ≤ g) (h9 : 0 ≤ n) (h10 : n ≤ 1024) (hz : c * n = z) (z0 : 0 ≤ z) (z1 : z / 2048 ≤ c) (z2 : z ≤ 1099511627776) (x1 : s ≤ c - z / 2048) :
    Calls Try.prog 14 #[.agg #[.int .i64 c, .int .i64 t], .int .i64 n, .int .i64 s, .int .i64 g] w fun e w' => e = .returned (.tuple #[.agg #[.int .i64 (c - z / 2048), .int .i64 (c - z / 2048)], .int .i64 0]) ∧ Below w.heap.size w w' := by
  have hmf : ∀ (fn : Fn) (first cap : Array Value) (w : World), (Instr.makeFunc fn first cap).run Try.prog w = .ok (.func fn first cap) w := fun _ _ _ _ => rfl
  have hu30 := Try.underlying30
  have hix := ix2
  have cf0 : s ≤ c - z / 2048 := by omega
  have cf1 : c - z / 2048 ≤ g := by omega
  go_enter Try.func14, Try.ntmps14
  go_wp2_with (first | (go_at_call 35; refine (table_any _).mono ?_; rintro e w' ⟨rfl, rfl⟩) | (go_at_call 45; refine (cut1 c t n s g z _ h1 h2 h3 h4 h5 h6 h7 h8 h9 h10 hz z0 z1 z2).mono ?_; rintro e w' ⟨rfl, rfl⟩) | go_in)
  go_region_with (first | (go_at_call 36; (with_reducible refine (clamp_in (c - z / 2048) s g _ cf0 cf1).mono ?_); rintro e w' ⟨rfl, rfl⟩))
  all_goals go_wp2
  all_goals
    refine bodyPost_ret (v := .tuple #[.agg #[.int .i64 (c - z / 2048), .int .i64 (c - z / 2048)], .int .i64 0]) (by simp [results, Try.results26, go_sem]) rfl ?_
    go_wp2
    refine bodyPost_ret (v := .tuple #[.agg #[.int .i64 (c - z / 2048), .int .i64 (c - z / 2048)], .int .i64 0]) (by simp [results, Try.results14, go_sem]) rfl ⟨rfl, ?_⟩
    repeat (first | (with_reducible exact Below.refl _ _) | apply pw_below_drewN | apply below_drew1 | (with_reducible apply below_alloc) | (refine below_set ?_ (by simp)))
set_option maxHeartbeats 6400000 in
theorem cutok2 (c t n s g z : Int) (w : World) (h1 : 1 ≤ s) (h2 : s ≤ 1460) (h3 : s ≤ g) (h4 : g ≤ 1073741824) (h5 : s ≤ c) (h6 : c ≤ g) (h7 : s ≤ t) (h8 : t ≤ g) (h9 : 0 ≤ n) (h10 : n ≤ 1024) (hz : c * n = z) (z0 : 0 ≤ z) (z1 : z / 2048 ≤ c) (z2 : z ≤ 1099511627776) (x1 : c - z / 2048 < s) :
    Calls Try.prog 14 #[.agg #[.int .i64 c, .int .i64 t], .int .i64 n, .int .i64 s, .int .i64 g] w fun e w' => e = .returned (.tuple #[.agg #[.int .i64 s, .int .i64 s], .int .i64 0]) ∧ Below w.heap.size w w' := by
  have hmf : ∀ (fn : Fn) (first cap : Array Value) (w : World), (Instr.makeFunc fn first cap).run Try.prog w = .ok (.func fn first cap) w := fun _ _ _ _ => rfl
  have hu30 := Try.underlying30
  have hix := ix2
  have cf0 : c - z / 2048 < s := by omega
  have cf1 : s ≤ g := by omega
  go_enter Try.func14, Try.ntmps14
  go_wp2_with (first | (go_at_call 35; refine (table_any _).mono ?_; rintro e w' ⟨rfl, rfl⟩) | (go_at_call 45; refine (cut1 c t n s g z _ h1 h2 h3 h4 h5 h6 h7 h8 h9 h10 hz z0 z1 z2).mono ?_; rintro e w' ⟨rfl, rfl⟩) | go_in)
  go_region_with (first | (go_at_call 36; (with_reducible refine (clamp_lo (c - z / 2048) s g _ cf0 cf1).mono ?_); rintro e w' ⟨rfl, rfl⟩))
  all_goals go_wp2
  all_goals
    refine bodyPost_ret (v := .tuple #[.agg #[.int .i64 s, .int .i64 s], .int .i64 0]) (by simp [results, Try.results26, go_sem]) rfl ?_
    go_wp2
    refine bodyPost_ret (v := .tuple #[.agg #[.int .i64 s, .int .i64 s], .int .i64 0]) (by simp [results, Try.results14, go_sem]) rfl ⟨rfl, ?_⟩
    repeat (first | (with_reducible exact Below.refl _ _) | apply pw_below_drewN | apply below_drew1 | (with_reducible apply below_alloc) | (refine below_set ?_ (by simp)))
def xmp_Cut.f (c t n s g : Int) : Option (Int × Int × Int) := if WFine c t s g ∧ 0 ≤ n ∧ n ≤ 1024 then (if s ≤ c - c * n / 2048 then some (c - c * n / 2048, c - c * n / 2048, 0) else some (s, s, 0)) else some (0, 0, 1)
theorem xmp_Cut.calls (c t : Int) (n : Int) (s g r1 r2 r3 : Int) (w : World) (h : xmp_Cut.f c t n s g = some (r1, r2, r3)) :
    Calls Try.prog 14 #[.agg #[.int .i64 c, .int .i64 t], .int .i64 n, .int .i64 s, .int .i64 g] w fun e w' => e = .returned (.tuple #[.agg #[.int .i64 r1, .int .i64 r2], .int .i64 r3]) ∧ Below w.heap.size w w' := by
  unfold xmp_Cut.f at h
  split at h
  · rename_i hf
    obtain ⟨⟨⟨h1, h2⟩, ⟨h3, h4⟩, ⟨h5, h6⟩, h7, h8⟩, h9, h10⟩ := hf
    have hz0 : 0 ≤ c * n := Int.mul_nonneg (by omega) h9
    have hz1 : c * n ≤ c * 1024 := Int.mul_le_mul_of_nonneg_left h10 (by omega)
    split at h
    · rename_i x1
      simp only [Option.some.injEq, Prod.mk.injEq] at h
      obtain ⟨rfl, rfl, rfl⟩ := h
      exact cutok1 c t n s g (c * n) w h1 h2 h3 h4 h5 h6 h7 h8 h9 h10 rfl hz0 (by omega) (by omega) x1
    · rename_i x1
      simp only [Option.some.injEq, Prod.mk.injEq] at h
      obtain ⟨rfl, rfl, rfl⟩ := h
      exact cutok2 c t n s g (c * n) w h1 h2 h3 h4 h5 h6 h7 h8 h9 h10 rfl hz0 (by omega) (by omega) (by omega)
  · rename_i hf
    simp only [Option.some.injEq, Prod.mk.injEq] at h
    obtain ⟨rfl, rfl, rfl⟩ := h
    by_cases y0s : s < 1
    · exact cutbad_lo_s c t n s g 0 w  y0s
    by_cases y1s : 1460 < s
    · exact cutbad_hi_s c t n s g 0 w  (by omega) y1s
    by_cases y0g : g < s
    · exact cutbad_lo_g c t n s g 0 w (by omega) (by omega) y0g
    by_cases y1g : 1073741824 < g
    · exact cutbad_hi_g c t n s g 0 w (by omega) (by omega) (by omega) y1g
    by_cases y0c : c < s
    · exact cutbad_lo_c c t n s g 0 w (by omega) (by omega) (by omega) (by omega) y0c
    by_cases y1c : g < c
    · exact cutbad_hi_c c t n s g 0 w (by omega) (by omega) (by omega) (by omega) (by omega) y1c
    by_cases y0t : t < s
    · exact cutbad_lo_t c t n s g 0 w (by omega) (by omega) (by omega) (by omega) (by omega) (by omega) y0t
    by_cases y1t : g < t
    · exact cutbad_hi_t c t n s g 0 w (by omega) (by omega) (by omega) (by omega) (by omega) (by omega) (by omega) y1t
    by_cases y0n : n < 0
    · exact cutbad_lo_n c t n s g 0 w (by omega) (by omega) (by omega) (by omega) (by omega) (by omega) (by omega) (by omega) y0n
    by_cases y1n : 1024 < n
    · exact cutbad_hi_n c t n s g 0 w (by omega) (by omega) (by omega) (by omega) (by omega) (by omega) (by omega) (by omega) (by omega) y1n
    exact absurd ⟨⟨⟨by omega, by omega⟩, ⟨by omega, by omega⟩, ⟨by omega, by omega⟩, by omega, by omega⟩, by omega, by omega⟩ hf
end Go.Proofs.Ytdbnhmipbbadjaa.Hand
