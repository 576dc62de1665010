/- The table of what is done with a window, and each deed. (Written by a program of this session.) -/
import Derived.Test.YtdbnhmipbbadjaaProg
import Derived.Test.YtdbnhmipbbadjaaWMore
import Derived.WalkKit
import Derived.KernelRfl
import Derived.OwnWalk
import Derived.Below
import Derived.Deep.Draws
import Derived.Deep.QuietTactic
import Derived.BigQuiet
import Derived.Laws.EntriesVeiled
namespace Go.Proofs.Ytdbnhmipbbadjaa.Hand
open Go.RowKit Go.Proofs.YtdbnhmipbbadjaaW.PrintWords Go.Proofs.YtdbnhmipbbadjaaW.PrintLast Go.Proofs.YtdbnhmipbbadjaaW.PrintMore
set_option linter.unusedVariables false
set_option linter.unusedSimpArgs false
def tbl (g : Nat) : Array Value := #[.func (.func 47) #[] #[.pointer (some ⟨g + 1, 0, none⟩)], .func (.func 42) #[] #[], .func (.func 43) #[] #[], .func (.func 44) #[] #[], .func (.func 47) #[] #[.pointer (some ⟨g + 1 + 1, 0, none⟩)], .func (.func 45) #[] #[], .func (.func 47) #[] #[.pointer (some ⟨g + 1 + 1 + 1, 0, none⟩)], .func (.func 46) #[] #[]]
set_option maxHeartbeats 800000 in
theorem table_any (w : World) : Calls Try.prog 35 #[] w fun e w' => e = .returned (.agg (tbl w.heap.size)) ∧ w' = (((w.alloc (.cells (tbl w.heap.size) 59)).alloc (.cells #[.int .i64 1099511627776] 3)).alloc (.cells #[.int .i64 1024] 3)).alloc (.cells #[.int .i64 1] 3) := by
  have hmf : ∀ (fn : Fn) (first cap : Array Value) (w : World), (Instr.makeFunc fn first cap).run Try.prog w = .ok (.func fn first cap) w := fun _ _ _ _ => rfl
  go_enter Try.func35, Try.ntmps35
  go_wp2
  exact bodyPost_ret (v := .agg (tbl w.heap.size)) (by simp [results, Try.results35, go_sem, tbl]) rfl ⟨rfl, rfl⟩
theorem ix0 (g : Nat) (w : World) : (Instr.index 59 (.agg (tbl g)) (.int .i64 0)).run Try.prog w = .ok (.agg #[.func (.func 47) #[] #[.pointer (some ⟨g + 1, 0, none⟩)], .func (.func 42) #[] #[]]) w := by rfl
theorem ix1 (g : Nat) (w : World) : (Instr.index 59 (.agg (tbl g)) (.int .i64 1)).run Try.prog w = .ok (.agg #[.func (.func 43) #[] #[], .func (.func 44) #[] #[]]) w := by rfl
theorem ix2 (g : Nat) (w : World) : (Instr.index 59 (.agg (tbl g)) (.int .i64 2)).run Try.prog w = .ok (.agg #[.func (.func 47) #[] #[.pointer (some ⟨g + 1 + 1, 0, none⟩)], .func (.func 45) #[] #[]]) w := by rfl
theorem ix3 (g : Nat) (w : World) : (Instr.index 59 (.agg (tbl g)) (.int .i64 3)).run Try.prog w = .ok (.agg #[.func (.func 47) #[] #[.pointer (some ⟨g + 1 + 1 + 1, 0, none⟩)], .func (.func 46) #[] #[]]) w := by rfl
set_option maxHeartbeats 800000 in
theorem slow1 (c t n s g z : Int) (w : World) (h1 : 1 ≤ s) (h2 : s ≤ 1460) (h3 : s ≤ g) (h4 : g ≤ 1073741824) (h5 : s ≤ c) (h6 : c ≤ g) (h7 : s ≤ t) (h8 : t ≤ g) (h9 : 0 ≤ n) (h10 : n ≤ 1099511627776) (x1 : c < t) (x2 : c + n ≤ t) : Calls Try.prog 42 #[.agg #[.int .i64 c, .int .i64 t], .int .i64 n, .int .i64 s] w fun e w' => e = .returned (.agg #[.int .i64 (c + n), .int .i64 t]) ∧ w' = (w.alloc (.cells #[.int .i64 (c + n), .int .i64 t] 30)).alloc (.cells #[.int .i64 (c + n), .int .i64 t] 30) := by
  have hu30 := Try.underlying30
  go_enter Try.func42, Try.ntmps42
  go_wp2
  exact bodyPost_ret (v := .agg #[.int .i64 (c + n), .int .i64 t]) (by simp [results, Try.results42, go_sem]) rfl ⟨rfl, rfl⟩
set_option maxHeartbeats 800000 in
theorem slow2 (c t n s g z : Int) (w : World) (h1 : 1 ≤ s) (h2 : s ≤ 1460) (h3 : s ≤ g) (h4 : g ≤ 1073741824) (h5 : s ≤ c) (h6 : c ≤ g) (h7 : s ≤ t) (h8 : t ≤ g) (h9 : 0 ≤ n) (h10 : n ≤ 1099511627776) (x1 : c < t) (x2 : t < c + n) : Calls Try.prog 42 #[.agg #[.int .i64 c, .int .i64 t], .int .i64 n, .int .i64 s] w fun e w' => e = .returned (.agg #[.int .i64 t, .int .i64 t]) ∧ w' = (w.alloc (.cells #[.int .i64 t, .int .i64 t] 30)).alloc (.cells #[.int .i64 t, .int .i64 t] 30) := by
  have hu30 := Try.underlying30
  go_enter Try.func42, Try.ntmps42
  go_wp2
  exact bodyPost_ret (v := .agg #[.int .i64 t, .int .i64 t]) (by simp [results, Try.results42, go_sem]) rfl ⟨rfl, rfl⟩
set_option maxHeartbeats 800000 in
theorem slow3 (c t n s g z : Int) (w : World) (h1 : 1 ≤ s) (h2 : s ≤ 1460) (h3 : s ≤ g) (h4 : g ≤ 1073741824) (h5 : s ≤ c) (h6 : c ≤ g) (h7 : s ≤ t) (h8 : t ≤ g) (h9 : 0 ≤ n) (h10 : n ≤ 1099511627776) (x1 : t ≤ c) : Calls Try.prog 42 #[.agg #[.int .i64 c, .int .i64 t], .int .i64 n, .int .i64 s] w fun e w' => e = .returned (.agg #[.int .i64 c, .int .i64 t]) ∧ w' = (w.alloc (.cells #[.int .i64 c, .int .i64 t] 30)).alloc (.cells #[.int .i64 c, .int .i64 t] 30) := by
  have hu30 := Try.underlying30
  go_enter Try.func42, Try.ntmps42
  go_wp2
  exact bodyPost_ret (v := .agg #[.int .i64 c, .int .i64 t]) (by simp [results, Try.results42, go_sem]) rfl ⟨rfl, rfl⟩
set_option maxHeartbeats 800000 in
theorem round1 (c t n s g z : Int) (w : World) (h1 : 1 ≤ s) (h2 : s ≤ 1460) (h3 : s ≤ g) (h4 : g ≤ 1073741824) (h5 : s ≤ c) (h6 : c ≤ g) (h7 : s ≤ t) (h8 : t ≤ g) (h9 : 0 ≤ n) (h10 : n ≤ s) (x1 : c < t) : Calls Try.prog 44 #[.agg #[.int .i64 c, .int .i64 t], .int .i64 n, .int .i64 s] w fun e w' => e = .returned (.agg #[.int .i64 c, .int .i64 t]) ∧ w' = (w.alloc (.cells #[.int .i64 c, .int .i64 t] 30)).alloc (.cells #[.int .i64 c, .int .i64 t] 30) := by
  have hu30 := Try.underlying30
  go_enter Try.func44, Try.ntmps44
  go_wp2
  exact bodyPost_ret (v := .agg #[.int .i64 c, .int .i64 t]) (by simp [results, Try.results44, go_sem]) rfl ⟨rfl, rfl⟩
set_option maxHeartbeats 800000 in
theorem round2 (c t n s g z : Int) (w : World) (h1 : 1 ≤ s) (h2 : s ≤ 1460) (h3 : s ≤ g) (h4 : g ≤ 1073741824) (h5 : s ≤ c) (h6 : c ≤ g) (h7 : s ≤ t) (h8 : t ≤ g) (h9 : 0 ≤ n) (h10 : n ≤ s) (x1 : t ≤ c) : Calls Try.prog 44 #[.agg #[.int .i64 c, .int .i64 t], .int .i64 n, .int .i64 s] w fun e w' => e = .returned (.agg #[.int .i64 (c + n), .int .i64 t]) ∧ w' = (w.alloc (.cells #[.int .i64 (c + n), .int .i64 t] 30)).alloc (.cells #[.int .i64 (c + n), .int .i64 t] 30) := by
  have hu30 := Try.underlying30
  go_enter Try.func44, Try.ntmps44
  go_wp2
  exact bodyPost_ret (v := .agg #[.int .i64 (c + n), .int .i64 t]) (by simp [results, Try.results44, go_sem]) rfl ⟨rfl, rfl⟩
set_option maxHeartbeats 800000 in
theorem cut1 (c t n s g z : Int) (w : World) (h1 : 1 ≤ s) (h2 : s ≤ 1460) (h3 : s ≤ g) (h4 : g ≤ 1073741824) (h5 : s ≤ c) (h6 : c ≤ g) (h7 : s ≤ t) (h8 : t ≤ g) (h9 : 0 ≤ n) (h10 : n ≤ 1024) (hz : c * n = z) (z0 : 0 ≤ z) (z1 : z / 2048 ≤ c) (z2 : z ≤ 1099511627776) : Calls Try.prog 45 #[.agg #[.int .i64 c, .int .i64 t], .int .i64 n, .int .i64 s] w fun e w' => e = .returned (.agg #[.int .i64 (c - z / 2048), .int .i64 (c - z / 2048)]) ∧ w' = (w.alloc (.cells #[.int .i64 (c - z / 2048), .int .i64 (c - z / 2048)] 30)).alloc (.cells #[.int .i64 (c - z / 2048), .int .i64 (c - z / 2048)] 30) := by
  have hu30 := Try.underlying30
  go_enter Try.func45, Try.ntmps45
  go_wp2
  exact bodyPost_ret (v := .agg #[.int .i64 (c - z / 2048), .int .i64 (c - z / 2048)]) (by simp [results, Try.results45, go_sem]) rfl ⟨rfl, rfl⟩
set_option maxHeartbeats 800000 in
theorem loss1 (c t s g z : Int) (w : World) (h1 : 1 ≤ s) (h2 : s ≤ 1460) (h3 : s ≤ g) (h4 : g ≤ 1073741824) (h5 : s ≤ c) (h6 : c ≤ g) (h7 : s ≤ t) (h8 : t ≤ g) (x1 : 2 * s ≤ c / 2) : Calls Try.prog 46 #[.agg #[.int .i64 c, .int .i64 t], .int .i64 0, .int .i64 s] w fun e w' => e = .returned (.agg #[.int .i64 (c / 2), .int .i64 (c / 2)]) ∧ w' = (w.alloc (.cells #[.int .i64 (c / 2), .int .i64 (c / 2)] 30)).alloc (.cells #[.int .i64 (c / 2), .int .i64 (c / 2)] 30) := by
  have hu30 := Try.underlying30
  go_enter Try.func46, Try.ntmps46
  go_wp2
  exact bodyPost_ret (v := .agg #[.int .i64 (c / 2), .int .i64 (c / 2)]) (by simp [results, Try.results46, go_sem]) rfl ⟨rfl, rfl⟩
set_option maxHeartbeats 800000 in
theorem loss2 (c t s g z : Int) (w : World) (h1 : 1 ≤ s) (h2 : s ≤ 1460) (h3 : s ≤ g) (h4 : g ≤ 1073741824) (h5 : s ≤ c) (h6 : c ≤ g) (h7 : s ≤ t) (h8 : t ≤ g) (x1 : c / 2 < 2 * s) : Calls Try.prog 46 #[.agg #[.int .i64 c, .int .i64 t], .int .i64 0, .int .i64 s] w fun e w' => e = .returned (.agg #[.int .i64 (2 * s), .int .i64 (2 * s)]) ∧ w' = (w.alloc (.cells #[.int .i64 (2 * s), .int .i64 (2 * s)] 30)).alloc (.cells #[.int .i64 (2 * s), .int .i64 (2 * s)] 30) := by
  have hu30 := Try.underlying30
  go_enter Try.func46, Try.ntmps46
  go_wp2
  exact bodyPost_ret (v := .agg #[.int .i64 (2 * s), .int .i64 (2 * s)]) (by simp [results, Try.results46, go_sem]) rfl ⟨rfl, rfl⟩
set_option maxHeartbeats 800000 in
theorem loss3 (c t s g z : Int) (w : World) (h1 : 1 ≤ s) (h2 : s ≤ 1460) (h3 : s ≤ g) (h4 : g ≤ 1073741824) (h5 : s ≤ c) (h6 : c ≤ g) (h7 : s ≤ t) (h8 : t ≤ g) (x1 : 2 * s ≤ c / 2) : Calls Try.prog 46 #[.agg #[.int .i64 c, .int .i64 t], .int .i64 1, .int .i64 s] w fun e w' => e = .returned (.agg #[.int .i64 s, .int .i64 (c / 2)]) ∧ w' = (w.alloc (.cells #[.int .i64 s, .int .i64 (c / 2)] 30)).alloc (.cells #[.int .i64 s, .int .i64 (c / 2)] 30) := by
  have hu30 := Try.underlying30
  go_enter Try.func46, Try.ntmps46
  go_wp2
  exact bodyPost_ret (v := .agg #[.int .i64 s, .int .i64 (c / 2)]) (by simp [results, Try.results46, go_sem]) rfl ⟨rfl, rfl⟩
set_option maxHeartbeats 800000 in
theorem loss4 (c t s g z : Int) (w : World) (h1 : 1 ≤ s) (h2 : s ≤ 1460) (h3 : s ≤ g) (h4 : g ≤ 1073741824) (h5 : s ≤ c) (h6 : c ≤ g) (h7 : s ≤ t) (h8 : t ≤ g) (x1 : c / 2 < 2 * s) : Calls Try.prog 46 #[.agg #[.int .i64 c, .int .i64 t], .int .i64 1, .int .i64 s] w fun e w' => e = .returned (.agg #[.int .i64 s, .int .i64 (2 * s)]) ∧ w' = (w.alloc (.cells #[.int .i64 s, .int .i64 (2 * s)] 30)).alloc (.cells #[.int .i64 s, .int .i64 (2 * s)] 30) := by
  have hu30 := Try.underlying30
  go_enter Try.func46, Try.ntmps46
  go_wp2
  exact bodyPost_ret (v := .agg #[.int .i64 s, .int .i64 (2 * s)]) (by simp [results, Try.results46, go_sem]) rfl ⟨rfl, rfl⟩
set_option maxHeartbeats 400000 in
theorem clamp_in (v l u : Int) (w : World) (h1 : l ≤ v) (h2 : v ≤ u) : Calls Try.prog 36 #[.int .i64 v, .int .i64 l, .int .i64 u] w fun e w' => e = .returned (.int .i64 v) ∧ w' = w := by
  have key : ∀ x : Int, x = v → (Ending.returned (.int .i64 x) : Ending) = .returned (.int .i64 v) := fun x h => by rw [h]
  go_enter Try.func36, Try.ntmps36
  go_wp2
  all_goals
    go_ret
    exact ⟨key _ (by omega), rfl⟩
set_option maxHeartbeats 400000 in
theorem clamp_lo (v l u : Int) (w : World) (h1 : v < l) (h2 : l ≤ u) : Calls Try.prog 36 #[.int .i64 v, .int .i64 l, .int .i64 u] w fun e w' => e = .returned (.int .i64 l) ∧ w' = w := by
  have key : ∀ x : Int, x = l → (Ending.returned (.int .i64 x) : Ending) = .returned (.int .i64 l) := fun x h => by rw [h]
  go_enter Try.func36, Try.ntmps36
  go_wp2
  all_goals
    go_ret
    exact ⟨key _ (by omega), rfl⟩
set_option maxHeartbeats 400000 in
theorem clamp_hi (v l u : Int) (w : World) (h1 : u < v) (h2 : l ≤ u) : Calls Try.prog 36 #[.int .i64 v, .int .i64 l, .int .i64 u] w fun e w' => e = .returned (.int .i64 u) ∧ w' = w := by
  have key : ∀ x : Int, x = u → (Ending.returned (.int .i64 x) : Ending) = .returned (.int .i64 u) := fun x h => by rw [h]
  go_enter Try.func36, Try.ntmps36
  go_wp2
  all_goals
    go_ret
    exact ⟨key _ (by omega), rfl⟩
end Go.Proofs.Ytdbnhmipbbadjaa.Hand
