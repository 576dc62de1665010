-- Written by a program of this session (wip/hprint.py), over the kit's print.py: the walk of one law. Lean checks it.
import Derived.Test.YtieiamkcdgppaaaPFixTellsx0
import Derived.Test.YtieiamkcdgppaaaPFixTellsx1
namespace Go.Proofs.Ytieiamkcdgppaaa.PFixTells
open Go.RowKit Go.Proofs.YtieiamkcdgppaaaW.PrintWords Go.Proofs.YtieiamkcdgppaaaW.PrintLast Go.Proofs.YtieiamkcdgppaaaW.PrintMore
attribute [local go_sem] max2_int min2_int max_two min_two max_three min_three max_four min_four   -- for this text's walks alone
set_option linter.unusedVariables false
set_option linter.unusedSimpArgs false

/-! ### fix_Add: function 17 -/
def fix_Add.f (a0 : Int) (a1 : Int) : Option (Int × Bool) := if (-4611686018427387904 ≤ a0 ∧ a0 ≤ 4611686018427387904) ∧ (-4611686018427387904 ≤ a1 ∧ a1 ≤ 4611686018427387904) ∧ -4611686018427387904 ≤ a0 + a1 ∧ a0 + a1 ≤ 4611686018427387904 then some (a0 + a1, true) else some (0, false)
theorem fix_Add.below3 (w : World) (o o' o'' : Obj) : Below w.heap.size w (((w.alloc o).alloc o').alloc o'') := (((Below.refl _ _).alloc (Nat.le_refl _) o).alloc (by simp) o').alloc (by simp; omega) o''
set_option maxHeartbeats 800000 in
theorem fix_Add.calls_in (a0 a1 : Int) (w : World) (h0 : -4611686018427387904 ≤ a0) (h1 : a0 ≤ 4611686018427387904) (h2 : -4611686018427387904 ≤ a1) (h3 : a1 ≤ 4611686018427387904) (h4 : -4611686018427387904 ≤ a0 + a1) (h5 : a0 + a1 ≤ 4611686018427387904) :
    Calls Try.prog 17 #[.int .i64 a0, .int .i64 a1] w fun e w' => e = .returned (.tuple #[.int .i64 (a0 + a1), .bool true]) ∧ Below w.heap.size w w' := by
  have hmf : ∀ (fn : Fn) (first cap : Array Value) (w : World), (Instr.makeFunc fn first cap).run Try.prog w = .ok (.func fn first cap) w := fun _ _ _ _ => rfl
  go_enter Try.func17, Try.ntmps17
  go_wp2
  refine wp_loop_rounds 3 ?_
  rw [rounds_succ]
  go_wp2
  rw [rounds_succ]
  go_wp2
  rw [rounds_succ]
  go_wp2
  go_ret2
  exact ⟨rfl, fix_Add.below3 _ _ _ _⟩
-- the first is out of range
set_option maxHeartbeats 800000 in
theorem fix_Add.calls_a (a0 a1 : Int) (w : World) (h0 : a0 < -4611686018427387904 ∨ (4611686018427387904 < a0 ∧ -4611686018427387904 ≤ a0)) :
    Calls Try.prog 17 #[.int .i64 a0, .int .i64 a1] w fun e w' => e = .returned (.tuple #[.int .i64 0, .bool false]) ∧ Below w.heap.size w w' := by
  have hmf : ∀ (fn : Fn) (first cap : Array Value) (w : World), (Instr.makeFunc fn first cap).run Try.prog w = .ok (.func fn first cap) w := fun _ _ _ _ => rfl
  rcases h0 with h0 | ⟨h0, h0'⟩
  · have b0 : decide (-4611686018427387904 ≤ a0) = false := decide_eq_false (by omega)
    clear h0
    go_enter Try.func17, Try.ntmps17
    go_wp2
    refine wp_loop_rounds 3 ?_
    rw [rounds_succ]
    go_wp2
    go_ret2
    exact ⟨rfl, fix_Add.below3 _ _ _ _⟩
  · have b0 : decide (a0 ≤ 4611686018427387904) = false := decide_eq_false (by omega)
    clear h0
    go_enter Try.func17, Try.ntmps17
    go_wp2
    refine wp_loop_rounds 3 ?_
    rw [rounds_succ]
    go_wp2
    go_ret2
    exact ⟨rfl, fix_Add.below3 _ _ _ _⟩
set_option maxHeartbeats 800000 in
theorem fix_Add.calls_b (a0 a1 : Int) (w : World) (h0 : -4611686018427387904 ≤ a0) (h1 : a0 ≤ 4611686018427387904) (h2 : a1 < -4611686018427387904 ∨ (4611686018427387904 < a1 ∧ -4611686018427387904 ≤ a1)) :
    Calls Try.prog 17 #[.int .i64 a0, .int .i64 a1] w fun e w' => e = .returned (.tuple #[.int .i64 0, .bool false]) ∧ Below w.heap.size w w' := by
  have hmf : ∀ (fn : Fn) (first cap : Array Value) (w : World), (Instr.makeFunc fn first cap).run Try.prog w = .ok (.func fn first cap) w := fun _ _ _ _ => rfl
  rcases h2 with h2 | ⟨h2, h2'⟩
  · have b0 : decide (-4611686018427387904 ≤ a1) = false := decide_eq_false (by omega)
    clear h2
    go_enter Try.func17, Try.ntmps17
    go_wp2
    refine wp_loop_rounds 3 ?_
    rw [rounds_succ]
    go_wp2
    rw [rounds_succ]
    go_wp2
    go_ret2
    exact ⟨rfl, fix_Add.below3 _ _ _ _⟩
  · have b0 : decide (a1 ≤ 4611686018427387904) = false := decide_eq_false (by omega)
    clear h2
    go_enter Try.func17, Try.ntmps17
    go_wp2
    refine wp_loop_rounds 3 ?_
    rw [rounds_succ]
    go_wp2
    rw [rounds_succ]
    go_wp2
    go_ret2
    exact ⟨rfl, fix_Add.below3 _ _ _ _⟩
set_option maxHeartbeats 800000 in
theorem fix_Add.calls_top (a0 a1 : Int) (w : World) (h0 : -4611686018427387904 ≤ a0) (h1 : a0 ≤ 4611686018427387904) (h2 : -4611686018427387904 ≤ a1) (h3 : a1 ≤ 4611686018427387904) (h4 : 9223372036854775807 < a0 + a1) :
    Calls Try.prog 17 #[.int .i64 a0, .int .i64 a1] w fun e w' => e = .returned (.tuple #[.int .i64 0, .bool false]) ∧ Below w.heap.size w w' := by
  have hmf : ∀ (fn : Fn) (first cap : Array Value) (w : World), (Instr.makeFunc fn first cap).run Try.prog w = .ok (.func fn first cap) w := fun _ _ _ _ => rfl
  have b0 : decide (-4611686018427387904 ≤ wrap64 (a0 + a1)) = false := decide_eq_false (by unfold wrap64; omega)
  clear h4
  go_enter Try.func17, Try.ntmps17
  go_wp2
  refine wp_loop_rounds 3 ?_
  rw [rounds_succ]
  go_wp2
  rw [rounds_succ]
  go_wp2
  rw [rounds_succ]
  go_wp2
  go_ret2
  exact ⟨rfl, fix_Add.below3 _ _ _ _⟩
set_option maxHeartbeats 800000 in
theorem fix_Add.calls_out (a0 a1 : Int) (w : World) (h0 : -4611686018427387904 ≤ a0) (h1 : a0 ≤ 4611686018427387904) (h2 : -4611686018427387904 ≤ a1) (h3 : a1 ≤ 4611686018427387904) (h4 : (a0 + a1 < -4611686018427387904 ∧ a0 + a1 < 4611686018427387904) ∨ (4611686018427387904 < a0 + a1 ∧ a0 + a1 ≤ 9223372036854775807 ∧ -4611686018427387904 ≤ a0 + a1)) :
    Calls Try.prog 17 #[.int .i64 a0, .int .i64 a1] w fun e w' => e = .returned (.tuple #[.int .i64 0, .bool false]) ∧ Below w.heap.size w w' := by
  have hmf : ∀ (fn : Fn) (first cap : Array Value) (w : World), (Instr.makeFunc fn first cap).run Try.prog w = .ok (.func fn first cap) w := fun _ _ _ _ => rfl
  rcases h4 with ⟨h4, h5⟩ | ⟨h4, h5, h6⟩
  · have b0 : decide (-4611686018427387904 ≤ a0 + a1) = false := decide_eq_false (by omega)
    clear h4
    go_enter Try.func17, Try.ntmps17
    go_wp2
    refine wp_loop_rounds 3 ?_
    rw [rounds_succ]
    go_wp2
    rw [rounds_succ]
    go_wp2
    rw [rounds_succ]
    go_wp2
    go_ret2
    exact ⟨rfl, fix_Add.below3 _ _ _ _⟩
  · have b0 : decide (a0 + a1 ≤ 4611686018427387904) = false := decide_eq_false (by omega)
    clear h4
    go_enter Try.func17, Try.ntmps17
    go_wp2
    refine wp_loop_rounds 3 ?_
    rw [rounds_succ]
    go_wp2
    rw [rounds_succ]
    go_wp2
    rw [rounds_succ]
    go_wp2
    go_ret2
    exact ⟨rfl, fix_Add.below3 _ _ _ _⟩
theorem fix_Add.calls (a0 : Int) (a1 : Int) (r1 : Int) (r2 : Bool) (w : World) (h : fix_Add.f a0 a1 = some (r1, r2)) :
    Calls Try.prog 17 #[.int .i64 a0, .int .i64 a1] w fun e w' => e = .returned (.tuple #[.int .i64 r1, .bool r2]) ∧ Below w.heap.size w w' := by
  unfold fix_Add.f at h
  split at h
  · rename_i hc
    simp only [Option.some.injEq, Prod.mk.injEq] at h
    obtain ⟨rfl, rfl⟩ := h
    exact fix_Add.calls_in a0 a1 w hc.1.1 hc.1.2 hc.2.1.1 hc.2.1.2 hc.2.2.1 hc.2.2.2
  · rename_i hc
    simp only [Option.some.injEq, Prod.mk.injEq] at h
    obtain ⟨rfl, rfl⟩ := h
    by_cases ha : a0 < -4611686018427387904 ∨ 4611686018427387904 < a0
    · exact fix_Add.calls_a a0 a1 w (by omega)
    · by_cases hb : a1 < -4611686018427387904 ∨ 4611686018427387904 < a1
      · exact fix_Add.calls_b a0 a1 w (by omega) (by omega) (by omega)
      · by_cases ht : 9223372036854775807 < a0 + a1
        · exact fix_Add.calls_top a0 a1 w (by omega) (by omega) (by omega) (by omega) ht
        · exact fix_Add.calls_out a0 a1 w (by omega) (by omega) (by omega) (by omega) (by omega)

/-! ### fix_Sqrt: function 18 -/
mutual
def fix_Sqrt.j0 : Nat → Int → Bool → Option (Int × Bool)
  | 0, _, _ => none
  | k + 1, x0, x13 => if x13 = true then (some (0, false)) else (fix_Sqrt.l0 k x0 0 2147483649)
def fix_Sqrt.l0 : Nat → Int → Int → Int → Option (Int × Bool)
  | 0, _, _, _ => none
  | k + 1, x0, x4, x5 => if (wrap64 (x5 - x4)) > 1 then (if (wrap64 ((wrap64 (Int.tdiv (wrap64 (x4 + x5)) 2)) * (wrap64 (Int.tdiv (wrap64 (x4 + x5)) 2)))) ≤ x0 then (fix_Sqrt.l0 k x0 (wrap64 (Int.tdiv (wrap64 (x4 + x5)) 2)) x5) else (fix_Sqrt.l0 k x0 x4 (wrap64 (Int.tdiv (wrap64 (x4 + x5)) 2)))) else (some (x4, true))
end
def fix_Sqrt.f (k : Nat) (a0 : Int) : Option (Int × Bool) := if a0 < 0 then (fix_Sqrt.j0 k a0 true) else ((fix_In.f a0).bind fun t124 => (fix_Sqrt.j0 k a0 (!t124)))
theorem fix_Sqrt.mono_l : ∀ k, (∀ y0 y1, LeO (fix_Sqrt.j0 k y0 y1) (fix_Sqrt.j0 (k + 1) y0 y1)) ∧ (∀ y0 y1 y2, LeO (fix_Sqrt.l0 k y0 y1 y2) (fix_Sqrt.l0 (k + 1) y0 y1 y2))
  | 0 => ⟨fun _ _ r h => by simp [fix_Sqrt.j0] at h, fun _ _ _ r h => by simp [fix_Sqrt.l0] at h⟩
  | k + 1 => by
    obtain ⟨ih0, ih1⟩ := fix_Sqrt.mono_l k
    refine ⟨?_, ?_⟩
    · intro y0 y1
      unfold fix_Sqrt.j0
      repeat' first
      | (with_reducible exact ih0 _ _)
      | (with_reducible exact ih1 _ _ _)
      | (with_reducible exact LeO.refl _)
      | (with_reducible exact LeO.none _)
      | (with_reducible refine LeO.ite ?_ ?_)
      | (with_reducible refine LeO.bind ?_ (fun _ => ?_))
      | exact ih0 _ _
      | exact ih1 _ _ _
      | exact LeO.none _
      | refine LeO.ite ?_ ?_
      | refine LeO.bind ?_ (fun _ => ?_)
    · intro y0 y1 y2
      unfold fix_Sqrt.l0
      repeat' first
      | (with_reducible exact ih0 _ _)
      | (with_reducible exact ih1 _ _ _)
      | (with_reducible exact LeO.refl _)
      | (with_reducible exact LeO.none _)
      | (with_reducible refine LeO.ite ?_ ?_)
      | (with_reducible refine LeO.bind ?_ (fun _ => ?_))
      | exact ih0 _ _
      | exact ih1 _ _ _
      | exact LeO.none _
      | refine LeO.ite ?_ ?_
      | refine LeO.bind ?_ (fun _ => ?_)
theorem fix_Sqrt.mono : ∀ a0 k, LeO (fix_Sqrt.f k a0) (fix_Sqrt.f (k + 1) a0) := by
  intro a0 k
  obtain ⟨ih0, ih1⟩ := fix_Sqrt.mono_l k
  unfold fix_Sqrt.f
  repeat' first
      | (with_reducible exact ih0 _ _)
      | (with_reducible exact ih1 _ _ _)
      | (with_reducible exact LeO.refl _)
      | (with_reducible exact LeO.none _)
      | (with_reducible refine LeO.ite ?_ ?_)
      | (with_reducible refine LeO.bind ?_ (fun _ => ?_))
      | exact ih0 _ _
      | exact ih1 _ _ _
      | exact LeO.none _
      | refine LeO.ite ?_ ?_
      | refine LeO.bind ?_ (fun _ => ?_)
set_option maxHeartbeats 8000000 in
set_option maxRecDepth 100000 in
theorem fix_Sqrt.calls (k : Nat) (a0 : Int) (r1 : Int) (r2 : Bool) (w : World) (h : fix_Sqrt.f k a0 = some (r1, r2)) :
    Calls Try.prog 18 #[.int .i64 a0] w fun e w' => e = .returned (.tuple #[.int .i64 r1, .bool r2]) ∧ Drawn0 w w' := by
  have H : (if a0 < 0 then (fix_Sqrt.j0 k a0 true) else ((fix_In.f a0).bind fun t124 => (fix_Sqrt.j0 k a0 (!t124)))) = some (r1, r2) := h
  clear h
  have HC2 := Aside0.mk H
  clear H
  go_enter Try.func18, Try.ntmps18
  go_upto_region 1 with (fail)
  go_cut [13] (fun v13 wc => ∃ (kq : Nat) (x13_1 : Bool), v13 = .bool x13_1 ∧ Aside0 (fix_Sqrt.j0 kq a0 x13_1 = some (r1, r2)) ∧ Aside0 (kq ≤ k) ∧ Drawn0 w wc)
  case first =>
    have H := HC2.out
    clear HC2
    by_cases c3 : a0 < 0
    · rw [if_pos c3] at H
      have c3b0 : decide (a0 < 0) = true := decide_eq_true c3
      clear c3
      (first | rw [c3b0] | (simp only [i64_w, i32_w]; rw [c3b0]) | skip)
      have H' := Aside0.mk H
      clear H
      go_wp2
      go_meet
      case rel => exact ⟨_, (true), (by first | rfl | (simp; done) | (simp [*]; done)), H', ⟨by first | omega | exact Nat.le_refl _⟩, by repeat (first | exact Drawn0.refl _ | apply Drawn0.step)⟩
    · rw [if_neg c3] at H
      have c3b0 : decide (a0 < 0) = false := decide_eq_false c3
      clear c3
      (first | rw [c3b0] | (simp only [i64_w, i32_w]; rw [c3b0]) | skip)
      replace H := Option.bind_eq_some_iff.mp H
      obtain ⟨t124, A40, H⟩ := H
      replace H : (fix_Sqrt.j0 k a0 (!t124)) = some (r1, r2) := H
      have A4 := Aside0.mk A40
      clear A40
      have H' := Aside0.mk H
      clear H
      go_wp2_with (first | (go_at_call 14; (with_reducible refine (fix_In.calls a0 t124 _ A4.out).mono ?_); rintro e w' ⟨rfl, ⟨nd, rfl⟩⟩))
      go_meet
      case rel => exact ⟨_, (!t124), (by first | rfl | (simp; done) | (simp [*]; done)), H', ⟨by first | omega | exact Nat.le_refl _⟩, by repeat (first | exact Drawn0.refl _ | apply Drawn0.step)⟩
  case rest =>
    clear HC2
    try clear c1
    try clear p2
    try clear c3
    try clear c3b0
    obtain ⟨kq, x13_1, rfl, HA, HJ1, ⟨mc1, rfl⟩⟩ := hcut
    cases kq with
    | zero => exact absurd HA.out (by simp [fix_Sqrt.j0])
    | succ kj1 =>
      have H := HA.out
      clear HA
      simp only [fix_Sqrt.j0] at H
      by_cases c5 : x13_1 = true
      · subst c5
        have H1 : (some (0, false)) = some (r1, r2) := by rw [if_pos rfl] at H; exact H
        clear H
        have H := H1
        clear H1
        simp only [Option.some.injEq, Prod.mk.injEq] at H
        obtain ⟨rfl, rfl⟩ := H
        go_wp2
        go_ret2
        exact ⟨by first | rfl | (simp; done) | (simp [*]; done), by repeat (first | exact Drawn0.refl _ | apply Drawn0.step)⟩
      · replace c5 := Bool.eq_false_iff.mpr c5
        subst c5
        have H1 : (fix_Sqrt.l0 kj1 a0 0 2147483649) = some (r1, r2) := by rw [if_neg (show ¬ (false = true) by decide)] at H; exact H
        clear H
        have H := H1
        clear H1
        have H' := Aside0.mk H
        clear H
        go_wp2
        go_loopg [4, 5] kj1 (fun kq v4 v5 w' => ∃ (x4_2 : Int) (x5_2 : Int), v4 = .int .i64 x4_2 ∧ v5 = .int .i64 x5_2 ∧ Aside0 (fix_Sqrt.l0 kq a0 x4_2 x5_2 = some (r1, r2)) ∧ Aside0 (kq ≤ kj1) ∧ Drawn0 w w')
        case atStart => exact ⟨(0), (2147483649), (by first | rfl | (simp; done) | (simp [*]; done)), (by first | rfl | (simp; done) | (simp [*]; done)), H', ⟨Nat.le_refl _⟩, by repeat (first | exact Drawn0.refl _ | apply Drawn0.step)⟩
        case round =>
          clear H'
          try clear c1
          try clear p2
          try clear c3
          try clear c3b0
          try clear c5
          try clear p2
          obtain ⟨x4_2, x5_2, rfl, rfl, HA, HK2, ⟨m2, rfl⟩⟩ := hrel
          cases gk with
          | zero => exact absurd HA.out (by simp [fix_Sqrt.l0])
          | succ k2 =>
            have H := HA.out
            clear HA
            simp only [fix_Sqrt.l0] at H
            by_cases c6 : (wrap64 (x5_2 - x4_2)) > 1
            · rw [if_pos c6] at H
              have c6b0 : decide (1 < (wrap64 (x5_2 - x4_2))) = true := decide_eq_true c6
              clear c6
              by_cases c7 : (wrap64 ((wrap64 (Int.tdiv (wrap64 (x4_2 + x5_2)) 2)) * (wrap64 (Int.tdiv (wrap64 (x4_2 + x5_2)) 2)))) ≤ a0
              · rw [if_pos c7] at H
                have c7b0 : decide ((wrap64 ((wrap64 (Int.tdiv (wrap64 (x4_2 + x5_2)) 2)) * (wrap64 (Int.tdiv (wrap64 (x4_2 + x5_2)) 2)))) ≤ a0) = true := decide_eq_true c7
                clear c7
                have H' := Aside0.mk H
                clear H
                go_wp2
                go_roundg k2
                case measure => have := HJ1.out; have := HK2.out; omega
                case rel => exact ⟨(wrap64 (Int.tdiv (wrap64 (x4_2 + x5_2)) 2)), (x5_2), (by first | rfl | (simp; done) | (simp [*]; done)), (by first | rfl | (simp; done) | (simp [*]; done)), H', ⟨by have := HJ1.out; have := HK2.out; omega⟩, by repeat (first | exact Drawn0.refl _ | apply Drawn0.step)⟩
              · rw [if_neg c7] at H
                have c7b0 : decide ((wrap64 ((wrap64 (Int.tdiv (wrap64 (x4_2 + x5_2)) 2)) * (wrap64 (Int.tdiv (wrap64 (x4_2 + x5_2)) 2)))) ≤ a0) = false := decide_eq_false c7
                clear c7
                have H' := Aside0.mk H
                clear H
                go_wp2
                go_roundg k2
                case measure => have := HJ1.out; have := HK2.out; omega
                case rel => exact ⟨(x4_2), (wrap64 (Int.tdiv (wrap64 (x4_2 + x5_2)) 2)), (by first | rfl | (simp; done) | (simp [*]; done)), (by first | rfl | (simp; done) | (simp [*]; done)), H', ⟨by have := HJ1.out; have := HK2.out; omega⟩, by repeat (first | exact Drawn0.refl _ | apply Drawn0.step)⟩
            · rw [if_neg c6] at H
              have c6b0 : decide (1 < (wrap64 (x5_2 - x4_2))) = false := decide_eq_false c6
              clear c6
              simp only [Option.some.injEq, Prod.mk.injEq] at H
              obtain ⟨rfl, rfl⟩ := H
              go_wp2
              go_ret2
              exact ⟨by first | rfl | (simp; done) | (simp [*]; done), by repeat (first | exact Drawn0.refl _ | apply Drawn0.step)⟩

/-! ### fix_Ewma: function 19 -/
theorem fix_Ewma.below3 (w : World) (o o' o'' : Obj) : Below w.heap.size w (((w.alloc o).alloc o').alloc o'') := (((Below.refl _ _).alloc (Nat.le_refl _) o).alloc (by simp) o').alloc (by simp; omega) o''
def fix_Ewma.f (a0 : Int) (a1 : Int) (a2 : Int) : Option (Int × Bool) := if (-4611686018427387904 ≤ a0 ∧ a0 ≤ 4611686018427387904) ∧ (-4611686018427387904 ≤ a1 ∧ a1 ≤ 4611686018427387904) ∧ (-4611686018427387904 ≤ a1 - a0 ∧ a1 - a0 ≤ 4611686018427387904) ∧ 0 ≤ a2 ∧ a2 ≤ 30 then some (a0 + (a1 - a0) / 2 ^ a2.toNat, true) else some (0, false)
theorem fix_Ewma.shifted (d : Int) (n : Nat) : (0 ≤ d → 0 ≤ d / 2 ^ n ∧ d / 2 ^ n ≤ d) ∧ (d ≤ 0 → d ≤ d / 2 ^ n ∧ d / 2 ^ n ≤ 0) := by
  have hp : (1 : Int) ≤ 2 ^ n := by have h2 : (0 : Int) < 2 ^ n := Int.pow_pos (by omega); omega
  refine ⟨fun h => ⟨Int.ediv_nonneg h (by omega), Int.ediv_le_self _ h⟩, fun h => ⟨?_, ?_⟩⟩
  · rw [Int.le_ediv_iff_mul_le (by omega)]
    have := Int.mul_le_mul_of_nonpos_left h hp
    rw [Int.mul_one] at this
    exact this
  · have := Int.ediv_le_ediv (c := 2 ^ n) (by omega) h
    rwa [Int.zero_ediv] at this
set_option maxHeartbeats 800000 in
theorem fix_Ewma.calls_in (a0 a1 a2 : Int) (j : Int) (w : World) (h0 : -4611686018427387904 ≤ a0) (h1 : a0 ≤ 4611686018427387904) (h2 : -4611686018427387904 ≤ a1) (h3 : a1 ≤ 4611686018427387904) (h4 : -4611686018427387904 ≤ a1 - a0) (h5 : a1 - a0 ≤ 4611686018427387904) (h6 : 0 ≤ a2) (h7 : a2 ≤ 30)
    (hj : (a1 - a0) / 2 ^ a2.toNat = j) (h8 : -4611686018427387904 ≤ a0 + j) (h9 : a0 + j ≤ 4611686018427387904) :
    Calls Try.prog 19 #[.int .i64 a0, .int .i64 a1, .int .i64 a2] w fun e w' => e = .returned (.tuple #[.int .i64 (a0 + j), .bool true]) ∧ Below w.heap.size w w' := by
  have hmf : ∀ (fn : Fn) (first cap : Array Value) (w : World), (Instr.makeFunc fn first cap).run Try.prog w = .ok (.func fn first cap) w := fun _ _ _ _ => rfl
  have c0 := eq_true h6
  have c1 : decide (0 ≤ a2) = true := decide_eq_true h6
  have hj2 : (a1 - a0) / 2 ^ min a2.toNat 64 = j := by rw [Nat.min_eq_left (by omega)]; exact hj
  go_enter Try.func19, Try.ntmps19
  go_wp2
  refine wp_loop_rounds 3 ?_
  rw [rounds_succ]
  go_wp2
  go_quiet (fail)
  go_wp2
  go_ret2
  exact ⟨rfl, pw_below_drewN (fix_Ewma.below3 _ _ _ _) _⟩
set_option maxHeartbeats 800000 in
theorem fix_Ewma.lo0 (a0 a1 a2 : Int) (w : World) (h : a0 < -4611686018427387904) :
    Calls Try.prog 19 #[.int .i64 a0, .int .i64 a1, .int .i64 a2] w fun e w' => e = .returned (.tuple #[.int .i64 0, .bool false]) ∧ Below w.heap.size w w' := by
  have b0 : decide (-4611686018427387904 ≤ a0) = false := decide_eq_false (by omega)
  clear h
  go_enter Try.func19, Try.ntmps19
  go_wp2
  go_ret2
  exact ⟨rfl, fix_Ewma.below3 _ _ _ _⟩
set_option maxHeartbeats 800000 in
theorem fix_Ewma.hi0 (a0 a1 a2 : Int) (w : World) (h : 4611686018427387904 < a0) :
    Calls Try.prog 19 #[.int .i64 a0, .int .i64 a1, .int .i64 a2] w fun e w' => e = .returned (.tuple #[.int .i64 0, .bool false]) ∧ Below w.heap.size w w' := by
  have b0 : decide (-4611686018427387904 ≤ a0) = true := decide_eq_true (by omega)
  have b1 : decide (a0 ≤ 4611686018427387904) = false := decide_eq_false (by omega)
  clear h
  go_enter Try.func19, Try.ntmps19
  go_wp2
  go_ret2
  exact ⟨rfl, fix_Ewma.below3 _ _ _ _⟩
set_option maxHeartbeats 800000 in
theorem fix_Ewma.lo1 (a0 a1 a2 : Int) (w : World) (h0 : -4611686018427387904 ≤ a0) (h1 : a0 ≤ 4611686018427387904) (h : a1 < -4611686018427387904) :
    Calls Try.prog 19 #[.int .i64 a0, .int .i64 a1, .int .i64 a2] w fun e w' => e = .returned (.tuple #[.int .i64 0, .bool false]) ∧ Below w.heap.size w w' := by
  have b0 : decide (-4611686018427387904 ≤ a1) = false := decide_eq_false (by omega)
  clear h
  go_enter Try.func19, Try.ntmps19
  go_wp2
  go_ret2
  exact ⟨rfl, fix_Ewma.below3 _ _ _ _⟩
set_option maxHeartbeats 800000 in
theorem fix_Ewma.hi1 (a0 a1 a2 : Int) (w : World) (h0 : -4611686018427387904 ≤ a0) (h1 : a0 ≤ 4611686018427387904) (h : 4611686018427387904 < a1) :
    Calls Try.prog 19 #[.int .i64 a0, .int .i64 a1, .int .i64 a2] w fun e w' => e = .returned (.tuple #[.int .i64 0, .bool false]) ∧ Below w.heap.size w w' := by
  have b0 : decide (-4611686018427387904 ≤ a1) = true := decide_eq_true (by omega)
  have b1 : decide (a1 ≤ 4611686018427387904) = false := decide_eq_false (by omega)
  clear h
  go_enter Try.func19, Try.ntmps19
  go_wp2
  go_ret2
  exact ⟨rfl, fix_Ewma.below3 _ _ _ _⟩
set_option maxHeartbeats 800000 in
theorem fix_Ewma.lo2 (a0 a1 a2 : Int) (w : World) (h0 : -4611686018427387904 ≤ a0) (h1 : a0 ≤ 4611686018427387904) (h2 : -4611686018427387904 ≤ a1) (h3 : a1 ≤ 4611686018427387904) (h : a1 - a0 < -4611686018427387904) (h' : -9223372036854775807 ≤ a1 - a0) (h2' : a1 - a0 ≤ 0) :
    Calls Try.prog 19 #[.int .i64 a0, .int .i64 a1, .int .i64 a2] w fun e w' => e = .returned (.tuple #[.int .i64 0, .bool false]) ∧ Below w.heap.size w w' := by
  have b0 : decide (-4611686018427387904 ≤ a1 - a0) = false := decide_eq_false (by omega)
  clear h
  go_enter Try.func19, Try.ntmps19
  go_wp2
  go_ret2
  exact ⟨rfl, fix_Ewma.below3 _ _ _ _⟩
set_option maxHeartbeats 800000 in
theorem fix_Ewma.hi2 (a0 a1 a2 : Int) (w : World) (h0 : -4611686018427387904 ≤ a0) (h1 : a0 ≤ 4611686018427387904) (h2 : -4611686018427387904 ≤ a1) (h3 : a1 ≤ 4611686018427387904) (h : 4611686018427387904 < a1 - a0) (h' : a1 - a0 ≤ 9223372036854775807) (h2' : 0 ≤ a1 - a0) :
    Calls Try.prog 19 #[.int .i64 a0, .int .i64 a1, .int .i64 a2] w fun e w' => e = .returned (.tuple #[.int .i64 0, .bool false]) ∧ Below w.heap.size w w' := by
  have b0 : decide (-4611686018427387904 ≤ a1 - a0) = true := decide_eq_true (by omega)
  have b1 : decide (a1 - a0 ≤ 4611686018427387904) = false := decide_eq_false (by omega)
  clear h
  go_enter Try.func19, Try.ntmps19
  go_wp2
  go_ret2
  exact ⟨rfl, fix_Ewma.below3 _ _ _ _⟩
set_option maxHeartbeats 800000 in
theorem fix_Ewma.top2 (a0 a1 a2 : Int) (w : World) (h0 : -4611686018427387904 ≤ a0) (h1 : a0 ≤ 4611686018427387904) (h2 : -4611686018427387904 ≤ a1) (h3 : a1 ≤ 4611686018427387904) (h : 9223372036854775807 < a1 - a0) :
    Calls Try.prog 19 #[.int .i64 a0, .int .i64 a1, .int .i64 a2] w fun e w' => e = .returned (.tuple #[.int .i64 0, .bool false]) ∧ Below w.heap.size w w' := by
  have b0 : decide (-4611686018427387904 ≤ wrap64 (a1 - a0)) = false := decide_eq_false (by unfold wrap64; omega)
  clear h
  go_enter Try.func19, Try.ntmps19
  go_wp2
  go_ret2
  exact ⟨rfl, fix_Ewma.below3 _ _ _ _⟩
set_option maxHeartbeats 800000 in
theorem fix_Ewma.neg (a0 a1 a2 : Int) (w : World) (h0 : -4611686018427387904 ≤ a0) (h1 : a0 ≤ 4611686018427387904) (h2 : -4611686018427387904 ≤ a1) (h3 : a1 ≤ 4611686018427387904) (h4 : -4611686018427387904 ≤ a1 - a0) (h5 : a1 - a0 ≤ 4611686018427387904) (h : a2 < 0) :
    Calls Try.prog 19 #[.int .i64 a0, .int .i64 a1, .int .i64 a2] w fun e w' => e = .returned (.tuple #[.int .i64 0, .bool false]) ∧ Below w.heap.size w w' := by
  go_enter Try.func19, Try.ntmps19
  go_wp2
  go_ret2
  exact ⟨rfl, fix_Ewma.below3 _ _ _ _⟩
set_option maxHeartbeats 800000 in
theorem fix_Ewma.big (a0 a1 a2 : Int) (w : World) (h0 : -4611686018427387904 ≤ a0) (h1 : a0 ≤ 4611686018427387904) (h2 : -4611686018427387904 ≤ a1) (h3 : a1 ≤ 4611686018427387904) (h4 : -4611686018427387904 ≤ a1 - a0) (h5 : a1 - a0 ≤ 4611686018427387904) (h : 30 < a2) :
    Calls Try.prog 19 #[.int .i64 a0, .int .i64 a1, .int .i64 a2] w fun e w' => e = .returned (.tuple #[.int .i64 0, .bool false]) ∧ Below w.heap.size w w' := by
  go_enter Try.func19, Try.ntmps19
  go_wp2
  go_ret2
  exact ⟨rfl, fix_Ewma.below3 _ _ _ _⟩
set_option maxHeartbeats 800000 in
theorem fix_Ewma.bot2 (a0 a1 a2 : Int) (w : World) (h0 : -4611686018427387904 ≤ a0) (h1 : a0 ≤ 4611686018427387904) (h2 : -4611686018427387904 ≤ a1) (h3 : a1 ≤ 4611686018427387904) (h : a1 - a0 < -9223372036854775807) :
    Calls Try.prog 19 #[.int .i64 a0, .int .i64 a1, .int .i64 a2] w fun e w' => e = .returned (.tuple #[.int .i64 0, .bool false]) ∧ Below w.heap.size w w' := by
  have b0 : decide (-4611686018427387904 ≤ a1 - a0) = false := decide_eq_false (by omega)
  go_enter Try.func19, Try.ntmps19
  go_wp2
  go_ret2
  exact ⟨rfl, fix_Ewma.below3 _ _ _ _⟩
theorem fix_Ewma.calls (a0 : Int) (a1 : Int) (a2 : Int) (r1 : Int) (r2 : Bool) (w : World) (h : fix_Ewma.f a0 a1 a2 = some (r1, r2)) :
    Calls Try.prog 19 #[.int .i64 a0, .int .i64 a1, .int .i64 a2] w fun e w' => e = .returned (.tuple #[.int .i64 r1, .bool r2]) ∧ Below w.heap.size w w' := by
  unfold fix_Ewma.f at h
  split at h
  · rename_i hc
    simp only [Option.some.injEq, Prod.mk.injEq] at h
    obtain ⟨rfl, rfl⟩ := h
    have hs := fix_Ewma.shifted (a1 - a0) a2.toNat
    obtain ⟨j, hj⟩ : ∃ j, (a1 - a0) / 2 ^ a2.toNat = j := ⟨_, rfl⟩
    rw [hj] at hs ⊢
    have hb : -4611686018427387904 ≤ a0 + j ∧ a0 + j ≤ 4611686018427387904 := by
      rcases Int.le_total 0 (a1 - a0) with hd | hd
      · have := hs.1 hd; omega
      · have := hs.2 hd; omega
    exact fix_Ewma.calls_in a0 a1 a2 j w hc.1.1 hc.1.2 hc.2.1.1 hc.2.1.2 hc.2.2.1.1 hc.2.2.1.2 hc.2.2.2.1 hc.2.2.2.2 hj hb.1 hb.2
  · rename_i hc
    simp only [Option.some.injEq, Prod.mk.injEq] at h
    obtain ⟨rfl, rfl⟩ := h
    by_cases ha : a0 < -4611686018427387904
    · exact fix_Ewma.lo0 a0 a1 a2 w ha
    by_cases hb : 4611686018427387904 < a0
    · exact fix_Ewma.hi0 a0 a1 a2 w hb
    by_cases ha1 : a1 < -4611686018427387904
    · exact fix_Ewma.lo1 a0 a1 a2 w (by omega) (by omega) ha1
    by_cases hb1 : 4611686018427387904 < a1
    · exact fix_Ewma.hi1 a0 a1 a2 w (by omega) (by omega) hb1
    by_cases ht : 9223372036854775807 < a1 - a0
    · exact fix_Ewma.top2 a0 a1 a2 w (by omega) (by omega) (by omega) (by omega) ht
    by_cases hu : a1 - a0 < -9223372036854775807
    · exact fix_Ewma.bot2 a0 a1 a2 w (by omega) (by omega) (by omega) (by omega) hu
    by_cases ha2 : a1 - a0 < -4611686018427387904
    · exact fix_Ewma.lo2 a0 a1 a2 w (by omega) (by omega) (by omega) (by omega) ha2 (by omega) (by omega)
    by_cases hb2 : 4611686018427387904 < a1 - a0
    · exact fix_Ewma.hi2 a0 a1 a2 w (by omega) (by omega) (by omega) (by omega) hb2 (by omega) (by omega)
    by_cases hn : a2 < 0
    · exact fix_Ewma.neg a0 a1 a2 w (by omega) (by omega) (by omega) (by omega) (by omega) (by omega) hn
    · exact fix_Ewma.big a0 a1 a2 w (by omega) (by omega) (by omega) (by omega) (by omega) (by omega) (by omega)

/-! ### fourinhandref01_In: function 27 -/
def fourinhandref01_In.f (a0 : Int) : Option (Bool) := if a0 ≥ (-4611686018427387904) then (some (decide (a0 ≤ 4611686018427387904))) else (some false)
set_option maxHeartbeats 8000000 in
set_option maxRecDepth 100000 in
theorem fourinhandref01_In.calls (a0 : Int) (r : Bool) (w : World) (h : fourinhandref01_In.f a0 = some r) :
    Calls Try.prog 27 #[.int .i64 a0] w fun e w' => e = .returned (.bool r) ∧ Drawn0 w w' := by
  have H : (if a0 ≥ (-4611686018427387904) then (some (decide (a0 ≤ 4611686018427387904))) else (some false)) = some r := h
  clear h
  by_cases c2 : a0 ≥ (-4611686018427387904)
  · rw [if_pos c2] at H
    have c2b0 : decide ((-4611686018427387904) ≤ a0) = true := decide_eq_true c2
    clear c2
    obtain rfl := Option.some.inj H
    go_enter Try.func27, Try.ntmps27
    go_wp2
    go_ret
    exact ⟨by first | rfl | (simp; done) | (simp [*]; done), by repeat (first | exact Drawn0.refl _ | apply Drawn0.step)⟩
  · rw [if_neg c2] at H
    have c2b0 : decide ((-4611686018427387904) ≤ a0) = false := decide_eq_false c2
    clear c2
    obtain rfl := Option.some.inj H
    go_enter Try.func27, Try.ntmps27
    go_wp2
    go_ret
    exact ⟨by first | rfl | (simp; done) | (simp [*]; done), by repeat (first | exact Drawn0.refl _ | apply Drawn0.step)⟩

/-! ### fourinhandref01_Add: function 20 -/
def fourinhandref01_Add.f (a0 : Int) (a1 : Int) : Option (Int × Bool) := (fourinhandref01_In.f a0).bind fun t125 => (if t125 = true then ((fourinhandref01_In.f a1).bind fun t126 => (if t126 = true then ((fourinhandref01_In.f (wrap64 (a0 + a1))).bind fun t127 => (if t127 = true then (some (wrap64 (a0 + a1), true)) else (some (0, false)))) else (some (0, false)))) else (some (0, false)))
set_option maxHeartbeats 8000000 in
set_option maxRecDepth 100000 in
theorem fourinhandref01_Add.calls (a0 : Int) (a1 : Int) (r1 : Int) (r2 : Bool) (w : World) (h : fourinhandref01_Add.f a0 a1 = some (r1, r2)) :
    Calls Try.prog 20 #[.int .i64 a0, .int .i64 a1] w fun e w' => e = .returned (.tuple #[.int .i64 r1, .bool r2]) ∧ Drawn0 w w' := by
  have H : ((fourinhandref01_In.f a0).bind fun t125 => (if t125 = true then ((fourinhandref01_In.f a1).bind fun t126 => (if t126 = true then ((fourinhandref01_In.f (wrap64 (a0 + a1))).bind fun t127 => (if t127 = true then (some (wrap64 (a0 + a1), true)) else (some (0, false)))) else (some (0, false)))) else (some (0, false)))) = some (r1, r2) := h
  clear h
  replace H := Option.bind_eq_some_iff.mp H
  obtain ⟨t125, A30, H⟩ := H
  replace H : (if t125 = true then ((fourinhandref01_In.f a1).bind fun t126 => (if t126 = true then ((fourinhandref01_In.f (wrap64 (a0 + a1))).bind fun t127 => (if t127 = true then (some (wrap64 (a0 + a1), true)) else (some (0, false)))) else (some (0, false)))) else (some (0, false))) = some (r1, r2) := H
  have A3 := Aside0.mk A30
  clear A30
  by_cases c4 : t125 = true
  · subst c4
    have H1 : ((fourinhandref01_In.f a1).bind fun t126 => (if t126 = true then ((fourinhandref01_In.f (wrap64 (a0 + a1))).bind fun t127 => (if t127 = true then (some (wrap64 (a0 + a1), true)) else (some (0, false)))) else (some (0, false)))) = some (r1, r2) := by rw [if_pos rfl] at H; exact H
    clear H
    have H := H1
    clear H1
    replace H := Option.bind_eq_some_iff.mp H
    obtain ⟨t126, A50, H⟩ := H
    replace H : (if t126 = true then ((fourinhandref01_In.f (wrap64 (a0 + a1))).bind fun t127 => (if t127 = true then (some (wrap64 (a0 + a1), true)) else (some (0, false)))) else (some (0, false))) = some (r1, r2) := H
    have A5 := Aside0.mk A50
    clear A50
    by_cases c6 : t126 = true
    · subst c6
      have H1 : ((fourinhandref01_In.f (wrap64 (a0 + a1))).bind fun t127 => (if t127 = true then (some (wrap64 (a0 + a1), true)) else (some (0, false)))) = some (r1, r2) := by rw [if_pos rfl] at H; exact H
      clear H
      have H := H1
      clear H1
      replace H := Option.bind_eq_some_iff.mp H
      obtain ⟨t127, A70, H⟩ := H
      replace H : (if t127 = true then (some (wrap64 (a0 + a1), true)) else (some (0, false))) = some (r1, r2) := H
      have A7 := Aside0.mk A70
      clear A70
      by_cases c8 : t127 = true
      · subst c8
        have H1 : (some (wrap64 (a0 + a1), true)) = some (r1, r2) := by rw [if_pos rfl] at H; exact H
        clear H
        have H := H1
        clear H1
        simp only [Option.some.injEq, Prod.mk.injEq] at H
        obtain ⟨rfl, rfl⟩ := H
        go_enter Try.func20, Try.ntmps20
        go_wp2_with (first | ((with_reducible refine gate_callee (f := 27) rfl ?_); refine goesL_ (some 7) rfl rfl Try.func27 (by kernel_rfl) rfl #[.int .i64 a0] rfl (by (try simp only [List.map_toArray, List.map_cons, List.map_nil]); first | done | rfl | (simp only [List.length_drop, List.length_take]; rfl)) ?_; (with_reducible refine (fourinhandref01_In.calls a0 true _ A3.out).mono ?_); rintro e w' ⟨rfl, ⟨nd, rfl⟩⟩; refine ⟨_, rfl, ?_⟩) | (go_at_call 27; (with_reducible refine (fourinhandref01_In.calls a1 true _ A5.out).mono ?_); rintro e w' ⟨rfl, ⟨nd, rfl⟩⟩) | (go_at_call 27; (with_reducible refine (fourinhandref01_In.calls (wrap64 (a0 + a1)) true _ A7.out).mono ?_); rintro e w' ⟨rfl, ⟨nd, rfl⟩⟩))
        go_ret2
        exact ⟨by first | rfl | (simp; done) | (simp [*]; done), by repeat (first | exact Drawn0.refl _ | apply Drawn0.step)⟩
      · replace c8 := Bool.eq_false_iff.mpr c8
        subst c8
        have H1 : (some (0, false)) = some (r1, r2) := by rw [if_neg (show ¬ (false = true) by decide)] at H; exact H
        clear H
        have H := H1
        clear H1
        simp only [Option.some.injEq, Prod.mk.injEq] at H
        obtain ⟨rfl, rfl⟩ := H
        go_enter Try.func20, Try.ntmps20
        go_wp2_with (first | ((with_reducible refine gate_callee (f := 27) rfl ?_); refine goesL_ (some 7) rfl rfl Try.func27 (by kernel_rfl) rfl #[.int .i64 a0] rfl (by (try simp only [List.map_toArray, List.map_cons, List.map_nil]); first | done | rfl | (simp only [List.length_drop, List.length_take]; rfl)) ?_; (with_reducible refine (fourinhandref01_In.calls a0 true _ A3.out).mono ?_); rintro e w' ⟨rfl, ⟨nd, rfl⟩⟩; refine ⟨_, rfl, ?_⟩) | (go_at_call 27; (with_reducible refine (fourinhandref01_In.calls a1 true _ A5.out).mono ?_); rintro e w' ⟨rfl, ⟨nd, rfl⟩⟩) | (go_at_call 27; (with_reducible refine (fourinhandref01_In.calls (wrap64 (a0 + a1)) false _ A7.out).mono ?_); rintro e w' ⟨rfl, ⟨nd, rfl⟩⟩))
        go_ret2
        exact ⟨by first | rfl | (simp; done) | (simp [*]; done), by repeat (first | exact Drawn0.refl _ | apply Drawn0.step)⟩
    · replace c6 := Bool.eq_false_iff.mpr c6
      subst c6
      have H1 : (some (0, false)) = some (r1, r2) := by rw [if_neg (show ¬ (false = true) by decide)] at H; exact H
      clear H
      have H := H1
      clear H1
      simp only [Option.some.injEq, Prod.mk.injEq] at H
      obtain ⟨rfl, rfl⟩ := H
      go_enter Try.func20, Try.ntmps20
      go_wp2_with (first | ((with_reducible refine gate_callee (f := 27) rfl ?_); refine goesL_ (some 7) rfl rfl Try.func27 (by kernel_rfl) rfl #[.int .i64 a0] rfl (by (try simp only [List.map_toArray, List.map_cons, List.map_nil]); first | done | rfl | (simp only [List.length_drop, List.length_take]; rfl)) ?_; (with_reducible refine (fourinhandref01_In.calls a0 true _ A3.out).mono ?_); rintro e w' ⟨rfl, ⟨nd, rfl⟩⟩; refine ⟨_, rfl, ?_⟩) | (go_at_call 27; (with_reducible refine (fourinhandref01_In.calls a1 false _ A5.out).mono ?_); rintro e w' ⟨rfl, ⟨nd, rfl⟩⟩))
      go_ret2
      exact ⟨by first | rfl | (simp; done) | (simp [*]; done), by repeat (first | exact Drawn0.refl _ | apply Drawn0.step)⟩
  · replace c4 := Bool.eq_false_iff.mpr c4
    subst c4
    have H1 : (some (0, false)) = some (r1, r2) := by rw [if_neg (show ¬ (false = true) by decide)] at H; exact H
    clear H
    have H := H1
    clear H1
    simp only [Option.some.injEq, Prod.mk.injEq] at H
    obtain ⟨rfl, rfl⟩ := H
    go_enter Try.func20, Try.ntmps20
    go_wp2_with (first | ((with_reducible refine gate_callee (f := 27) rfl ?_); refine goesL_ (some 7) rfl rfl Try.func27 (by kernel_rfl) rfl #[.int .i64 a0] rfl (by (try simp only [List.map_toArray, List.map_cons, List.map_nil]); first | done | rfl | (simp only [List.length_drop, List.length_take]; rfl)) ?_; (with_reducible refine (fourinhandref01_In.calls a0 false _ A3.out).mono ?_); rintro e w' ⟨rfl, ⟨nd, rfl⟩⟩; refine ⟨_, rfl, ?_⟩))
    go_ret2
    exact ⟨by first | rfl | (simp; done) | (simp [*]; done), by repeat (first | exact Drawn0.refl _ | apply Drawn0.step)⟩

/-! ### fourinhandref01_size: function 34 -/
def fourinhandref01_size.f (a0 : Int) : Option (Int) := if a0 < 0 then (some (wrap64 (-a0))) else (some a0)
set_option maxHeartbeats 8000000 in
set_option maxRecDepth 100000 in
theorem fourinhandref01_size.calls (a0 : Int) (r : Int) (w : World) (h : fourinhandref01_size.f a0 = some r) :
    Calls Try.prog 34 #[.int .i64 a0] w fun e w' => e = .returned (.int .i64 r) ∧ Drawn0 w w' := by
  have H : (if a0 < 0 then (some (wrap64 (-a0))) else (some a0)) = some r := h
  clear h
  by_cases c2 : a0 < 0
  · rw [if_pos c2] at H
    have c2b0 : decide (a0 < 0) = true := decide_eq_true c2
    clear c2
    obtain rfl := Option.some.inj H
    go_enter Try.func34, Try.ntmps34
    go_wp2
    go_ret
    exact ⟨by first | rfl | (simp; done) | (simp [*]; done), by repeat (first | exact Drawn0.refl _ | apply Drawn0.step)⟩
  · rw [if_neg c2] at H
    have c2b0 : decide (a0 < 0) = false := decide_eq_false c2
    clear c2
    obtain rfl := Option.some.inj H
    go_enter Try.func34, Try.ntmps34
    go_wp2
    go_ret
    exact ⟨by first | rfl | (simp; done) | (simp [*]; done), by repeat (first | exact Drawn0.refl _ | apply Drawn0.step)⟩

/-! ### fourinhandref01_long: function 35 -/
mutual
def fourinhandref01_long.l0 : Nat → Int → Int → Int → Int → Int → Int → Option (Int × Int)
  | 0, _, _, _, _, _, _ => none
  | k + 1, x0, x1, x2, x8, x9, x10 => if x10 > 0 then (if x8 > 2305843009213693952 then (some (4611686018427387905, 0)) else (if (wrap64 (2 * x9)) ≥ x2 then (fourinhandref01_long.j1 k x0 x1 x2 (wrap64 ((wrap64 (2 * x8)) + 1)) (wrap64 ((wrap64 (2 * x9)) - x2)) x10) else (fourinhandref01_long.j1 k x0 x1 x2 (wrap64 (2 * x8)) (wrap64 (2 * x9)) x10))) else (some (x8, x9))
def fourinhandref01_long.j1 : Nat → Int → Int → Int → Int → Int → Int → Option (Int × Int)
  | 0, _, _, _, _, _, _ => none
  | k + 1, x0, x1, x2, x8, x9, x10 => if x0 < x10 then (fourinhandref01_long.l0 k x0 x1 x2 x8 x9 (wrap64 (Int.tdiv x10 2))) else (if x2 = 0 then (none) else (if (wrap64 (Int.tdiv x1 x2)) > (wrap64 (4611686018427387904 - x8)) then (some (4611686018427387905, 0)) else (if (wrap64 (x9 + (Int.tmod x1 x2))) ≥ x2 then (fourinhandref01_long.l0 k (wrap64 (x0 - x10)) x1 x2 (wrap64 ((wrap64 (x8 + (wrap64 (Int.tdiv x1 x2)))) + 1)) (wrap64 ((wrap64 (x9 + (Int.tmod x1 x2))) - x2)) (wrap64 (Int.tdiv x10 2))) else (fourinhandref01_long.l0 k (wrap64 (x0 - x10)) x1 x2 (wrap64 (x8 + (wrap64 (Int.tdiv x1 x2)))) (wrap64 (x9 + (Int.tmod x1 x2))) (wrap64 (Int.tdiv x10 2))))))
end
def fourinhandref01_long.f (k : Nat) (a0 : Int) (a1 : Int) (a2 : Int) : Option (Int × Int) := fourinhandref01_long.l0 k a0 a1 a2 0 0 4611686018427387904
theorem fourinhandref01_long.mono_l : ∀ k, (∀ y0 y1 y2 y3 y4 y5, LeO (fourinhandref01_long.l0 k y0 y1 y2 y3 y4 y5) (fourinhandref01_long.l0 (k + 1) y0 y1 y2 y3 y4 y5)) ∧ (∀ y0 y1 y2 y3 y4 y5, LeO (fourinhandref01_long.j1 k y0 y1 y2 y3 y4 y5) (fourinhandref01_long.j1 (k + 1) y0 y1 y2 y3 y4 y5))
  | 0 => ⟨fun _ _ _ _ _ _ r h => by simp [fourinhandref01_long.l0] at h, fun _ _ _ _ _ _ r h => by simp [fourinhandref01_long.j1] at h⟩
  | k + 1 => by
    obtain ⟨ih0, ih1⟩ := fourinhandref01_long.mono_l k
    refine ⟨?_, ?_⟩
    · intro y0 y1 y2 y3 y4 y5
      unfold fourinhandref01_long.l0
      repeat' first
      | (with_reducible exact ih0 _ _ _ _ _ _)
      | (with_reducible exact ih1 _ _ _ _ _ _)
      | (with_reducible exact LeO.refl _)
      | (with_reducible exact LeO.none _)
      | (with_reducible refine LeO.ite ?_ ?_)
      | (with_reducible refine LeO.bind ?_ (fun _ => ?_))
      | exact ih0 _ _ _ _ _ _
      | exact ih1 _ _ _ _ _ _
      | exact LeO.none _
      | refine LeO.ite ?_ ?_
      | refine LeO.bind ?_ (fun _ => ?_)
    · intro y0 y1 y2 y3 y4 y5
      unfold fourinhandref01_long.j1
      repeat' first
      | (with_reducible exact ih0 _ _ _ _ _ _)
      | (with_reducible exact ih1 _ _ _ _ _ _)
      | (with_reducible exact LeO.refl _)
      | (with_reducible exact LeO.none _)
      | (with_reducible refine LeO.ite ?_ ?_)
      | (with_reducible refine LeO.bind ?_ (fun _ => ?_))
      | exact ih0 _ _ _ _ _ _
      | exact ih1 _ _ _ _ _ _
      | exact LeO.none _
      | refine LeO.ite ?_ ?_
      | refine LeO.bind ?_ (fun _ => ?_)
theorem fourinhandref01_long.mono : ∀ a0 a1 a2 k, LeO (fourinhandref01_long.f k a0 a1 a2) (fourinhandref01_long.f (k + 1) a0 a1 a2) := by
  intro a0 a1 a2 k
  obtain ⟨ih0, ih1⟩ := fourinhandref01_long.mono_l k
  unfold fourinhandref01_long.f
  repeat' first
      | (with_reducible exact ih0 _ _ _ _ _ _)
      | (with_reducible exact ih1 _ _ _ _ _ _)
      | (with_reducible exact LeO.refl _)
      | (with_reducible exact LeO.none _)
      | (with_reducible refine LeO.ite ?_ ?_)
      | (with_reducible refine LeO.bind ?_ (fun _ => ?_))
      | exact ih0 _ _ _ _ _ _
      | exact ih1 _ _ _ _ _ _
      | exact LeO.none _
      | refine LeO.ite ?_ ?_
      | refine LeO.bind ?_ (fun _ => ?_)
set_option maxHeartbeats 8000000 in
set_option maxRecDepth 100000 in
theorem fourinhandref01_long.calls (k : Nat) (a0 : Int) (a1 : Int) (a2 : Int) (r1 : Int) (r2 : Int) (w : World) (h : fourinhandref01_long.f k a0 a1 a2 = some (r1, r2)) :
    Calls Try.prog 35 #[.int .i64 a0, .int .i64 a1, .int .i64 a2] w fun e w' => e = .returned (.tuple #[.int .i64 r1, .int .i64 r2]) ∧ Drawn0 w w' := by
  have H : (fourinhandref01_long.l0 k a0 a1 a2 0 0 4611686018427387904) = some (r1, r2) := h
  clear h
  have H' := Aside0.mk H
  clear H
  go_enter Try.func35, Try.ntmps35
  go_wp2
  go_loopg [0, 8, 9, 10] k (fun kq v0 v8 v9 v10 w' => ∃ (x0_1 : Int) (x8_1 : Int) (x9_1 : Int) (x10_1 : Int), v0 = .int .i64 x0_1 ∧ v8 = .int .i64 x8_1 ∧ v9 = .int .i64 x9_1 ∧ v10 = .int .i64 x10_1 ∧ Aside0 (fourinhandref01_long.l0 kq x0_1 a1 a2 x8_1 x9_1 x10_1 = some (r1, r2)) ∧ Aside0 (kq ≤ k) ∧ Drawn0 w w')
  case atStart => exact ⟨(a0), (0), (0), (4611686018427387904), (by first | rfl | (simp; done) | (simp [*]; done)), (by first | rfl | (simp; done) | (simp [*]; done)), (by first | rfl | (simp; done) | (simp [*]; done)), (by first | rfl | (simp; done) | (simp [*]; done)), H', ⟨Nat.le_refl _⟩, by repeat (first | exact Drawn0.refl _ | apply Drawn0.step)⟩
  case round =>
    clear H'
    try clear p2
    try clear c3
    obtain ⟨x0_1, x8_1, x9_1, x10_1, rfl, rfl, rfl, rfl, HA, HK1, ⟨m1, rfl⟩⟩ := hrel
    cases gk with
    | zero => exact absurd HA.out (by simp [fourinhandref01_long.l0])
    | succ k1 =>
      have H := HA.out
      clear HA
      simp only [fourinhandref01_long.l0] at H
      by_cases c4 : x10_1 > 0
      · rw [if_pos c4] at H
        have c4b0 : decide (0 < x10_1) = true := decide_eq_true c4
        clear c4
        by_cases c5 : x8_1 > 2305843009213693952
        · rw [if_pos c5] at H
          have c5b0 : decide (2305843009213693952 < x8_1) = true := decide_eq_true c5
          clear c5
          simp only [Option.some.injEq, Prod.mk.injEq] at H
          obtain ⟨rfl, rfl⟩ := H
          go_wp2
          go_ret2
          exact ⟨by first | rfl | (simp; done) | (simp [*]; done), by repeat (first | exact Drawn0.refl _ | apply Drawn0.step)⟩
        · rw [if_neg c5] at H
          have c5b0 : decide (2305843009213693952 < x8_1) = false := decide_eq_false c5
          clear c5
          have HC6 := Aside0.mk H
          clear H
          go_upto_if 23 with (fail)
          go_cut [8, 9] (fun v8 v9 wc => ∃ (kq : Nat) (x8_5 : Int) (x9_5 : Int), v8 = .int .i64 x8_5 ∧ v9 = .int .i64 x9_5 ∧ Aside0 (fourinhandref01_long.j1 kq x0_1 a1 a2 x8_5 x9_5 x10_1 = some (r1, r2)) ∧ Aside0 (kq ≤ k1) ∧ Drawn0 w wc)
          case first =>
            have H := HC6.out
            clear HC6
            by_cases c7 : (wrap64 (2 * x9_1)) ≥ a2
            · rw [if_pos c7] at H
              have c7b0 : decide (a2 ≤ (wrap64 (2 * x9_1))) = true := decide_eq_true c7
              clear c7
              (first | rw [c7b0] | (simp only [i64_w, i32_w]; rw [c7b0]) | skip)
              have H' := Aside0.mk H
              clear H
              go_wp2
              go_meet
              case rel => exact ⟨_, (wrap64 ((wrap64 (2 * x8_1)) + 1)), (wrap64 ((wrap64 (2 * x9_1)) - a2)), (by first | rfl | (simp; done) | (simp [*]; done)), (by first | rfl | (simp; done) | (simp [*]; done)), H', ⟨by have := HK1.out; first | omega | exact Nat.le_refl _⟩, by repeat (first | exact Drawn0.refl _ | apply Drawn0.step)⟩
            · rw [if_neg c7] at H
              have c7b0 : decide (a2 ≤ (wrap64 (2 * x9_1))) = false := decide_eq_false c7
              clear c7
              (first | rw [c7b0] | (simp only [i64_w, i32_w]; rw [c7b0]) | skip)
              have H' := Aside0.mk H
              clear H
              go_wp2
              go_meet
              case rel => exact ⟨_, (wrap64 (2 * x8_1)), (wrap64 (2 * x9_1)), (by first | rfl | (simp; done) | (simp [*]; done)), (by first | rfl | (simp; done) | (simp [*]; done)), H', ⟨by have := HK1.out; first | omega | exact Nat.le_refl _⟩, by repeat (first | exact Drawn0.refl _ | apply Drawn0.step)⟩
          case rest =>
            clear HC6
            try clear p2
            try clear c3
            try clear c4
            try clear c4b0
            try clear c5
            try clear c5b0
            try clear p6
            try clear c7
            try clear c7b0
            try clear p2
            obtain ⟨kq, x8_5, x9_5, rfl, rfl, HA, HJ5, ⟨mc5, rfl⟩⟩ := hcut
            cases kq with
            | zero => exact absurd HA.out (by simp [fourinhandref01_long.j1])
            | succ kj5 =>
              have H := HA.out
              clear HA
              simp only [fourinhandref01_long.j1] at H
              by_cases c8 : x0_1 < x10_1
              · rw [if_pos c8] at H
                have c8b0 : decide (x0_1 < x10_1) = true := decide_eq_true c8
                clear c8
                have H' := Aside0.mk H
                clear H
                go_wp2
                go_roundg kj5
                case measure => have := HK1.out; have := HJ5.out; omega
                case rel => exact ⟨(x0_1), (x8_5), (x9_5), (wrap64 (Int.tdiv x10_1 2)), (by first | rfl | (simp; done) | (simp [*]; done)), (by first | rfl | (simp; done) | (simp [*]; done)), (by first | rfl | (simp; done) | (simp [*]; done)), (by first | rfl | (simp; done) | (simp [*]; done)), H', ⟨by have := HK1.out; have := HJ5.out; omega⟩, by repeat (first | exact Drawn0.refl _ | apply Drawn0.step)⟩
              · rw [if_neg c8] at H
                have c8b0 : decide (x0_1 < x10_1) = false := decide_eq_false c8
                clear c8
                by_cases c9 : a2 = 0
                · rw [if_pos c9] at H
                  exact absurd H (by simp)
                · rw [if_neg c9] at H
                  have c9b0 : (a2 == 0) = false := beq_eq_false_iff_ne.mpr c9
                  have c9b1 : (a2 != 0) = true := bne_iff_ne.mpr c9
                  by_cases c10 : (wrap64 (Int.tdiv a1 a2)) > (wrap64 (4611686018427387904 - x8_5))
                  · rw [if_pos c10] at H
                    have c10b0 : decide ((wrap64 (4611686018427387904 - x8_5)) < (wrap64 (Int.tdiv a1 a2))) = true := decide_eq_true c10
                    clear c10
                    simp only [Option.some.injEq, Prod.mk.injEq] at H
                    obtain ⟨rfl, rfl⟩ := H
                    go_wp2
                    go_ret2
                    exact ⟨by first | rfl | (simp; done) | (simp [*]; done), by repeat (first | exact Drawn0.refl _ | apply Drawn0.step)⟩
                  · rw [if_neg c10] at H
                    have c10b0 : decide ((wrap64 (4611686018427387904 - x8_5)) < (wrap64 (Int.tdiv a1 a2))) = false := decide_eq_false c10
                    clear c10
                    by_cases c11 : (wrap64 (x9_5 + (Int.tmod a1 a2))) ≥ a2
                    · rw [if_pos c11] at H
                      have c11b0 : decide (a2 ≤ (wrap64 (x9_5 + (Int.tmod a1 a2)))) = true := decide_eq_true c11
                      clear c11
                      have H' := Aside0.mk H
                      clear H
                      go_wp2
                      go_roundg kj5
                      case measure => have := HK1.out; have := HJ5.out; omega
                      case rel => exact ⟨(wrap64 (x0_1 - x10_1)), (wrap64 ((wrap64 (x8_5 + (wrap64 (Int.tdiv a1 a2)))) + 1)), (wrap64 ((wrap64 (x9_5 + (Int.tmod a1 a2))) - a2)), (wrap64 (Int.tdiv x10_1 2)), (by first | rfl | (simp; done) | (simp [*]; done)), (by first | rfl | (simp; done) | (simp [*]; done)), (by first | rfl | (simp; done) | (simp [*]; done)), (by first | rfl | (simp; done) | (simp [*]; done)), H', ⟨by have := HK1.out; have := HJ5.out; omega⟩, by repeat (first | exact Drawn0.refl _ | apply Drawn0.step)⟩
                    · rw [if_neg c11] at H
                      have c11b0 : decide (a2 ≤ (wrap64 (x9_5 + (Int.tmod a1 a2)))) = false := decide_eq_false c11
                      clear c11
                      have H' := Aside0.mk H
                      clear H
                      go_wp2
                      go_roundg kj5
                      case measure => have := HK1.out; have := HJ5.out; omega
                      case rel => exact ⟨(wrap64 (x0_1 - x10_1)), (wrap64 (x8_5 + (wrap64 (Int.tdiv a1 a2)))), (wrap64 (x9_5 + (Int.tmod a1 a2))), (wrap64 (Int.tdiv x10_1 2)), (by first | rfl | (simp; done) | (simp [*]; done)), (by first | rfl | (simp; done) | (simp [*]; done)), (by first | rfl | (simp; done) | (simp [*]; done)), (by first | rfl | (simp; done) | (simp [*]; done)), H', ⟨by have := HK1.out; have := HJ5.out; omega⟩, by repeat (first | exact Drawn0.refl _ | apply Drawn0.step)⟩
      · rw [if_neg c4] at H
        have c4b0 : decide (0 < x10_1) = false := decide_eq_false c4
        clear c4
        simp only [Option.some.injEq, Prod.mk.injEq] at H
        obtain ⟨rfl, rfl⟩ := H
        go_wp2
        go_ret2
        exact ⟨by first | rfl | (simp; done) | (simp [*]; done), by repeat (first | exact Drawn0.refl _ | apply Drawn0.step)⟩

end Go.Proofs.Ytieiamkcdgppaaa.PFixTells
