-- Written by a program of this session (wip/hprint.py), over the kit's print.py: the walk of one law. Lean checks it.
import Derived.Test.YtjmblmomeijddaaPVegasQueuex0
import Derived.Test.YtjmblmomeijddaaPVegasQueuex2
namespace Go.Proofs.Ytjmblmomeijddaa.PVegasQueue
open Go.RowKit Go.Proofs.YtjmblmomeijddaaW.PrintWords Go.Proofs.YtjmblmomeijddaaW.PrintLast Go.Proofs.YtjmblmomeijddaaW.PrintMore
attribute [local go_sem] max2_int min2_int max_two min_two max_three min_three max_four min_four   -- for this text's walks alone
set_option linter.unusedVariables false
set_option linter.unusedSimpArgs false

/-! ### fourinhandlaw16_VegasQueue: function 4 -/
def fourinhandlaw16_VegasQueue.j0 : Nat → Int → Int → Int → Int → Int → Bool → Bool → Option (Bool)
  | 0, _, _, _, _, _, _, _ => none
  | k + 1, x0, x1, x2, x3, x4, x11, x48 => if x48 = true then (some x11) else ((vegas_Queue.f k x0 x2 x3 x4).bind fun t142 => ((vegas_Queue.f k (wrap64 (x0 + x1)) x2 x3 x4).bind fun t143 => (if t142 ≥ 0 then (if x4 = 0 then (none) else (if t142 ≤ (wrap64 (Int.tdiv x0 x4)) then (if t143 ≥ t142 then ((vegas_Queue.f k x0 x2 x2 x4).bind fun t144 => (if t144 = 0 then (if x3 ≤ x2 then (some true) else (some (t142 == 0))) else (some false))) else (some false)) else (some false))) else (some false))))
def fourinhandlaw16_VegasQueue.f (k : Nat) (a0 : Int) (a1 : Int) (a2 : Int) (a3 : Int) (a4 : Int) : Option (Bool) := (fourinhandlaw16_awake.f k).bind fun t141 => (if t141 = true then (if a0 < 1 then (fourinhandlaw16_VegasQueue.j0 k a0 a1 a2 a3 a4 t141 true) else (if a1 < 0 then (fourinhandlaw16_VegasQueue.j0 k a0 a1 a2 a3 a4 t141 true) else (if a0 > 536870912 then (fourinhandlaw16_VegasQueue.j0 k a0 a1 a2 a3 a4 t141 true) else (if a1 > 536870912 then (fourinhandlaw16_VegasQueue.j0 k a0 a1 a2 a3 a4 t141 true) else (if a4 < 1 then (fourinhandlaw16_VegasQueue.j0 k a0 a1 a2 a3 a4 t141 true) else (if a4 > 1460 then (fourinhandlaw16_VegasQueue.j0 k a0 a1 a2 a3 a4 t141 true) else (if a2 < 1 then (fourinhandlaw16_VegasQueue.j0 k a0 a1 a2 a3 a4 t141 true) else (fourinhandlaw16_VegasQueue.j0 k a0 a1 a2 a3 a4 t141 (decide (a2 > 1099511627776)))))))))) else (fourinhandlaw16_VegasQueue.j0 k a0 a1 a2 a3 a4 t141 true))
theorem fourinhandlaw16_VegasQueue.mono_l : ∀ k, (∀ y0 y1 y2 y3 y4 y5 y6, LeO (fourinhandlaw16_VegasQueue.j0 k y0 y1 y2 y3 y4 y5 y6) (fourinhandlaw16_VegasQueue.j0 (k + 1) y0 y1 y2 y3 y4 y5 y6))
  | 0 => fun _ _ _ _ _ _ _ r h => by simp [fourinhandlaw16_VegasQueue.j0] at h
  | k + 1 => by
    have ih0 := fourinhandlaw16_VegasQueue.mono_l k
    · intro y0 y1 y2 y3 y4 y5 y6
      unfold fourinhandlaw16_VegasQueue.j0
      repeat' first
      | (with_reducible exact ih0 _ _ _ _ _ _ _)
      | (with_reducible exact fourinhandlaw16_awake.mono _)
      | (with_reducible exact vegas_Queue.mono _ _ _ _ _)
      | (with_reducible exact LeO.refl _)
      | (with_reducible exact LeO.none _)
      | (with_reducible refine LeO.ite ?_ ?_)
      | (with_reducible refine LeO.bind ?_ (fun _ => ?_))
      | exact ih0 _ _ _ _ _ _ _
      | exact fourinhandlaw16_awake.mono _
      | exact vegas_Queue.mono _ _ _ _ _
      | exact LeO.none _
      | refine LeO.ite ?_ ?_
      | refine LeO.bind ?_ (fun _ => ?_)
theorem fourinhandlaw16_VegasQueue.mono : ∀ a0 a1 a2 a3 a4 k, LeO (fourinhandlaw16_VegasQueue.f k a0 a1 a2 a3 a4) (fourinhandlaw16_VegasQueue.f (k + 1) a0 a1 a2 a3 a4) := by
  intro a0 a1 a2 a3 a4 k
  have ih0 := fourinhandlaw16_VegasQueue.mono_l k
  unfold fourinhandlaw16_VegasQueue.f
  repeat' first
      | (with_reducible exact ih0 _ _ _ _ _ _ _)
      | (with_reducible exact fourinhandlaw16_awake.mono _)
      | (with_reducible exact vegas_Queue.mono _ _ _ _ _)
      | (with_reducible exact LeO.refl _)
      | (with_reducible exact LeO.none _)
      | (with_reducible refine LeO.ite ?_ ?_)
      | (with_reducible refine LeO.bind ?_ (fun _ => ?_))
      | exact ih0 _ _ _ _ _ _ _
      | exact fourinhandlaw16_awake.mono _
      | exact vegas_Queue.mono _ _ _ _ _
      | exact LeO.none _
      | refine LeO.ite ?_ ?_
      | refine LeO.bind ?_ (fun _ => ?_)
set_option maxHeartbeats 8000000 in
set_option maxRecDepth 100000 in
theorem fourinhandlaw16_VegasQueue.calls (k : Nat) (a0 : Int) (a1 : Int) (a2 : Int) (a3 : Int) (a4 : Int) (r : Bool) (hr_ : Aside0 (r = true)) (w : World) (h : fourinhandlaw16_VegasQueue.f k a0 a1 a2 a3 a4 = some r) :
    Calls Try.prog 4 #[.int .i64 a0, .int .i64 a1, .int .i64 a2, .int .i64 a3, .int .i64 a4] w fun e w' => e = .returned (.bool r) ∧ Below w.heap.size w w' := by
  have HB := Aside0.mk (Below.refl w.heap.size w)
  have H : ((fourinhandlaw16_awake.f k).bind fun t141 => (if t141 = true then (if a0 < 1 then (fourinhandlaw16_VegasQueue.j0 k a0 a1 a2 a3 a4 t141 true) else (if a1 < 0 then (fourinhandlaw16_VegasQueue.j0 k a0 a1 a2 a3 a4 t141 true) else (if a0 > 536870912 then (fourinhandlaw16_VegasQueue.j0 k a0 a1 a2 a3 a4 t141 true) else (if a1 > 536870912 then (fourinhandlaw16_VegasQueue.j0 k a0 a1 a2 a3 a4 t141 true) else (if a4 < 1 then (fourinhandlaw16_VegasQueue.j0 k a0 a1 a2 a3 a4 t141 true) else (if a4 > 1460 then (fourinhandlaw16_VegasQueue.j0 k a0 a1 a2 a3 a4 t141 true) else (if a2 < 1 then (fourinhandlaw16_VegasQueue.j0 k a0 a1 a2 a3 a4 t141 true) else (fourinhandlaw16_VegasQueue.j0 k a0 a1 a2 a3 a4 t141 (decide (a2 > 1099511627776)))))))))) else (fourinhandlaw16_VegasQueue.j0 k a0 a1 a2 a3 a4 t141 true))) = some r := h
  clear h
  replace H := Option.bind_eq_some_iff.mp H
  obtain ⟨t141, A60, H⟩ := H
  replace H : (if t141 = true then (if a0 < 1 then (fourinhandlaw16_VegasQueue.j0 k a0 a1 a2 a3 a4 t141 true) else (if a1 < 0 then (fourinhandlaw16_VegasQueue.j0 k a0 a1 a2 a3 a4 t141 true) else (if a0 > 536870912 then (fourinhandlaw16_VegasQueue.j0 k a0 a1 a2 a3 a4 t141 true) else (if a1 > 536870912 then (fourinhandlaw16_VegasQueue.j0 k a0 a1 a2 a3 a4 t141 true) else (if a4 < 1 then (fourinhandlaw16_VegasQueue.j0 k a0 a1 a2 a3 a4 t141 true) else (if a4 > 1460 then (fourinhandlaw16_VegasQueue.j0 k a0 a1 a2 a3 a4 t141 true) else (if a2 < 1 then (fourinhandlaw16_VegasQueue.j0 k a0 a1 a2 a3 a4 t141 true) else (fourinhandlaw16_VegasQueue.j0 k a0 a1 a2 a3 a4 t141 (decide (a2 > 1099511627776)))))))))) else (fourinhandlaw16_VegasQueue.j0 k a0 a1 a2 a3 a4 t141 true)) = some r := H
  have A6 := Aside0.mk A60
  clear A60
  have HC7 := Aside0.mk H
  clear H
  go_enter Try.func4, Try.ntmps4
  go_upto_region 2 with (first | ((with_reducible refine gate_callee (f := 9) rfl ?_); refine goesL_ (some 14) rfl rfl Try.func9 (by kernel_rfl) rfl #[] rfl (by (try simp only [List.map_toArray, List.map_cons, List.map_nil]); first | done | rfl | (simp only [List.length_drop, List.length_take]; rfl)) ?_; (with_reducible refine (fourinhandlaw16_awake.calls k  t141 _ A6.out).mono ?_); rintro e w8 ⟨rfl, hb⟩; refine ⟨_, rfl, ?_⟩; have n0_ := Aside0.mk (below_step (by repeat (first | (with_reducible first | exact HB.out | apply below_alloc | apply pw_below_drewN | apply below_drew1) | exact HB.out)) hb); clear HB; have HB := n0_; clear n0_; (try clear hb); (try clear hb2); (try clear hk); (try clear hi)))
  (try simp only [Act.put, List.setIfInBounds_toArray, List.set_cons_zero, List.set_cons_succ])
  go_cut [48] (fun v48 wc => ∃ (kq : Nat) (x48_6 : Bool), v48 = .bool x48_6 ∧ Aside0 (fourinhandlaw16_VegasQueue.j0 kq a0 a1 a2 a3 a4 t141 x48_6 = some r) ∧ Aside0 (kq ≤ k) ∧ Aside0 (Below w.heap.size w wc))
  case first =>
    have H := HC7.out
    clear HC7
    by_cases c9 : t141 = true
    · subst c9
      have H1 : (if a0 < 1 then (fourinhandlaw16_VegasQueue.j0 k a0 a1 a2 a3 a4 true true) else (if a1 < 0 then (fourinhandlaw16_VegasQueue.j0 k a0 a1 a2 a3 a4 true true) else (if a0 > 536870912 then (fourinhandlaw16_VegasQueue.j0 k a0 a1 a2 a3 a4 true true) else (if a1 > 536870912 then (fourinhandlaw16_VegasQueue.j0 k a0 a1 a2 a3 a4 true true) else (if a4 < 1 then (fourinhandlaw16_VegasQueue.j0 k a0 a1 a2 a3 a4 true true) else (if a4 > 1460 then (fourinhandlaw16_VegasQueue.j0 k a0 a1 a2 a3 a4 true true) else (if a2 < 1 then (fourinhandlaw16_VegasQueue.j0 k a0 a1 a2 a3 a4 true true) else (fourinhandlaw16_VegasQueue.j0 k a0 a1 a2 a3 a4 true (decide (a2 > 1099511627776)))))))))) = some r := by rw [if_pos rfl] at H; exact H
      clear H
      have H := H1
      clear H1
      by_cases c10 : a0 < 1
      · rw [if_pos c10] at H
        have c10b0 : decide (a0 < 1) = true := decide_eq_true c10
        clear c10
        (first | rw [c10b0] | (simp only [i64_w, i32_w]; rw [c10b0]) | skip)
        have H' := Aside0.mk H
        clear H
        go_wp2
        go_meet
        case rel => exact ⟨_, (true), (by first | rfl | (simp; done) | (simp [*]; done)), H', ⟨by first | omega | exact Nat.le_refl _⟩, ⟨by repeat (first | (with_reducible first | exact HB.out | apply below_alloc | apply pw_below_drewN | apply below_drew1) | exact HB.out)⟩⟩
      · rw [if_neg c10] at H
        have c10b0 : decide (a0 < 1) = false := decide_eq_false c10
        clear c10
        (first | rw [c10b0] | (simp only [i64_w, i32_w]; rw [c10b0]) | skip)
        by_cases c11 : a1 < 0
        · rw [if_pos c11] at H
          have c11b0 : decide (a1 < 0) = true := decide_eq_true c11
          clear c11
          have H' := Aside0.mk H
          clear H
          go_wp2
          go_meet
          case rel => exact ⟨_, (true), (by first | rfl | (simp; done) | (simp [*]; done)), H', ⟨by first | omega | exact Nat.le_refl _⟩, ⟨by repeat (first | (with_reducible first | exact HB.out | apply below_alloc | apply pw_below_drewN | apply below_drew1) | exact HB.out)⟩⟩
        · rw [if_neg c11] at H
          have c11b0 : decide (a1 < 0) = false := decide_eq_false c11
          clear c11
          by_cases c12 : a0 > 536870912
          · rw [if_pos c12] at H
            have c12b0 : decide (536870912 < a0) = true := decide_eq_true c12
            clear c12
            have H' := Aside0.mk H
            clear H
            go_wp2
            go_meet
            case rel => exact ⟨_, (true), (by first | rfl | (simp; done) | (simp [*]; done)), H', ⟨by first | omega | exact Nat.le_refl _⟩, ⟨by repeat (first | (with_reducible first | exact HB.out | apply below_alloc | apply pw_below_drewN | apply below_drew1) | exact HB.out)⟩⟩
          · rw [if_neg c12] at H
            have c12b0 : decide (536870912 < a0) = false := decide_eq_false c12
            clear c12
            by_cases c13 : a1 > 536870912
            · rw [if_pos c13] at H
              have c13b0 : decide (536870912 < a1) = true := decide_eq_true c13
              clear c13
              have H' := Aside0.mk H
              clear H
              go_wp2
              go_meet
              case rel => exact ⟨_, (true), (by first | rfl | (simp; done) | (simp [*]; done)), H', ⟨by first | omega | exact Nat.le_refl _⟩, ⟨by repeat (first | (with_reducible first | exact HB.out | apply below_alloc | apply pw_below_drewN | apply below_drew1) | exact HB.out)⟩⟩
            · rw [if_neg c13] at H
              have c13b0 : decide (536870912 < a1) = false := decide_eq_false c13
              clear c13
              by_cases c14 : a4 < 1
              · rw [if_pos c14] at H
                have c14b0 : decide (a4 < 1) = true := decide_eq_true c14
                clear c14
                have H' := Aside0.mk H
                clear H
                go_wp2
                go_meet
                case rel => exact ⟨_, (true), (by first | rfl | (simp; done) | (simp [*]; done)), H', ⟨by first | omega | exact Nat.le_refl _⟩, ⟨by repeat (first | (with_reducible first | exact HB.out | apply below_alloc | apply pw_below_drewN | apply below_drew1) | exact HB.out)⟩⟩
              · rw [if_neg c14] at H
                have c14b0 : decide (a4 < 1) = false := decide_eq_false c14
                clear c14
                by_cases c15 : a4 > 1460
                · rw [if_pos c15] at H
                  have c15b0 : decide (1460 < a4) = true := decide_eq_true c15
                  clear c15
                  have H' := Aside0.mk H
                  clear H
                  go_wp2
                  go_meet
                  case rel => exact ⟨_, (true), (by first | rfl | (simp; done) | (simp [*]; done)), H', ⟨by first | omega | exact Nat.le_refl _⟩, ⟨by repeat (first | (with_reducible first | exact HB.out | apply below_alloc | apply pw_below_drewN | apply below_drew1) | exact HB.out)⟩⟩
                · rw [if_neg c15] at H
                  have c15b0 : decide (1460 < a4) = false := decide_eq_false c15
                  clear c15
                  by_cases c16 : a2 < 1
                  · rw [if_pos c16] at H
                    have c16b0 : decide (a2 < 1) = true := decide_eq_true c16
                    clear c16
                    have H' := Aside0.mk H
                    clear H
                    go_wp2
                    go_meet
                    case rel => exact ⟨_, (true), (by first | rfl | (simp; done) | (simp [*]; done)), H', ⟨by first | omega | exact Nat.le_refl _⟩, ⟨by repeat (first | (with_reducible first | exact HB.out | apply below_alloc | apply pw_below_drewN | apply below_drew1) | exact HB.out)⟩⟩
                  · rw [if_neg c16] at H
                    have c16b0 : decide (a2 < 1) = false := decide_eq_false c16
                    clear c16
                    have H' := Aside0.mk H
                    clear H
                    go_wp2
                    go_meet
                    case rel => exact ⟨_, (decide (a2 > 1099511627776)), (by first | rfl | (simp; done) | (simp [*]; done)), H', ⟨by first | omega | exact Nat.le_refl _⟩, ⟨by repeat (first | (with_reducible first | exact HB.out | apply below_alloc | apply pw_below_drewN | apply below_drew1) | exact HB.out)⟩⟩
    · replace c9 := Bool.eq_false_iff.mpr c9
      subst c9
      have H1 : (fourinhandlaw16_VegasQueue.j0 k a0 a1 a2 a3 a4 false true) = some r := by rw [if_neg (show ¬ (false = true) by decide)] at H; exact H
      clear H
      have H := H1
      clear H1
      have H' := Aside0.mk H
      clear H
      go_wp2
      go_meet
      case rel => exact ⟨_, (true), (by first | rfl | (simp; done) | (simp [*]; done)), H', ⟨by first | omega | exact Nat.le_refl _⟩, ⟨by repeat (first | (with_reducible first | exact HB.out | apply below_alloc | apply pw_below_drewN | apply below_drew1) | exact HB.out)⟩⟩
  case rest =>
    clear HC7
    try clear c1
    try clear p2
    try clear c4
    try clear c9
    try clear c10
    try clear c10b0
    try clear c11
    try clear c11b0
    try clear c12
    try clear c12b0
    try clear c13
    try clear c13b0
    try clear c14
    try clear c14b0
    try clear c15
    try clear c15b0
    try clear c16
    try clear c16b0
    obtain ⟨kq, x48_6, rfl, HA, HJ6, HB⟩ := hcut
    cases kq with
    | zero => exact absurd HA.out (by simp [fourinhandlaw16_VegasQueue.j0])
    | succ kj6 =>
      have H := HA.out
      clear HA
      simp only [fourinhandlaw16_VegasQueue.j0] at H
      by_cases c17 : x48_6 = true
      · subst c17
        have H1 : (some t141) = some r := by rw [if_pos rfl] at H; exact H
        clear H
        have H := H1
        clear H1
        obtain rfl := Option.some.inj H
        go_wp2
        go_ret
        exact ⟨by first | rfl | (simp [errW_none, errW_some] <;> rfl) | (simp [*, errW_none, errW_some] <;> rfl), by repeat (first | (with_reducible first | exact HB.out | apply below_alloc | apply pw_below_drewN | apply below_drew1) | exact HB.out)⟩
      · replace c17 := Bool.eq_false_iff.mpr c17
        subst c17
        have H1 : ((vegas_Queue.f kj6 a0 a2 a3 a4).bind fun t142 => ((vegas_Queue.f kj6 (wrap64 (a0 + a1)) a2 a3 a4).bind fun t143 => (if t142 ≥ 0 then (if a4 = 0 then (none) else (if t142 ≤ (wrap64 (Int.tdiv a0 a4)) then (if t143 ≥ t142 then ((vegas_Queue.f kj6 a0 a2 a2 a4).bind fun t144 => (if t144 = 0 then (if a3 ≤ a2 then (some true) else (some (t142 == 0))) else (some false))) else (some false)) else (some false))) else (some false)))) = some r := by rw [if_neg (show ¬ (false = true) by decide)] at H; exact H
        clear H
        have H := H1
        clear H1
        replace H := Option.bind_eq_some_iff.mp H
        obtain ⟨t142, A180, H⟩ := H
        replace H : ((vegas_Queue.f kj6 (wrap64 (a0 + a1)) a2 a3 a4).bind fun t143 => (if t142 ≥ 0 then (if a4 = 0 then (none) else (if t142 ≤ (wrap64 (Int.tdiv a0 a4)) then (if t143 ≥ t142 then ((vegas_Queue.f kj6 a0 a2 a2 a4).bind fun t144 => (if t144 = 0 then (if a3 ≤ a2 then (some true) else (some (t142 == 0))) else (some false))) else (some false)) else (some false))) else (some false))) = some r := H
        have A18 := Aside0.mk A180
        clear A180
        replace H := Option.bind_eq_some_iff.mp H
        obtain ⟨t143, A190, H⟩ := H
        replace H : (if t142 ≥ 0 then (if a4 = 0 then (none) else (if t142 ≤ (wrap64 (Int.tdiv a0 a4)) then (if t143 ≥ t142 then ((vegas_Queue.f kj6 a0 a2 a2 a4).bind fun t144 => (if t144 = 0 then (if a3 ≤ a2 then (some true) else (some (t142 == 0))) else (some false))) else (some false)) else (some false))) else (some false)) = some r := H
        have A19 := Aside0.mk A190
        clear A190
        by_cases c20 : t142 ≥ 0
        · rw [if_pos c20] at H
          have c20b0 : decide (0 ≤ t142) = true := decide_eq_true c20
          clear c20
          by_cases c21 : a4 = 0
          · rw [if_pos c21] at H
            exact absurd H (by simp)
          · rw [if_neg c21] at H
            have c21b0 : (a4 == 0) = false := beq_eq_false_iff_ne.mpr c21
            have c21b1 : (a4 != 0) = true := bne_iff_ne.mpr c21
            by_cases c22 : t142 ≤ (wrap64 (Int.tdiv a0 a4))
            · rw [if_pos c22] at H
              have c22b0 : decide (t142 ≤ (wrap64 (Int.tdiv a0 a4))) = true := decide_eq_true c22
              clear c22
              by_cases c23 : t143 ≥ t142
              · rw [if_pos c23] at H
                have c23b0 : decide (t142 ≤ t143) = true := decide_eq_true c23
                clear c23
                replace H := Option.bind_eq_some_iff.mp H
                obtain ⟨t144, A240, H⟩ := H
                replace H : (if t144 = 0 then (if a3 ≤ a2 then (some true) else (some (t142 == 0))) else (some false)) = some r := H
                have A24 := Aside0.mk A240
                clear A240
                by_cases c25 : t144 = 0
                · rw [if_pos c25] at H
                  have c25b0 : (t144 == 0) = true := beq_iff_eq.mpr c25
                  have c25b1 : (t144 != 0) = false := bne_eq_false_iff_eq.mpr c25
                  clear c25
                  by_cases c26 : a3 ≤ a2
                  · rw [if_pos c26] at H
                    have c26b0 : decide (a3 ≤ a2) = true := decide_eq_true c26
                    clear c26
                    obtain rfl := Option.some.inj H
                    go_wp2_with (first | ((with_reducible refine gate_callee (f := 11) rfl ?_); refine goesL_ (some 54) rfl rfl Try.func11 (by kernel_rfl) rfl #[.int .i64 a0, .int .i64 a2, .int .i64 a3, .int .i64 a4] rfl (by (try simp only [List.map_toArray, List.map_cons, List.map_nil]); first | done | rfl | (simp only [List.length_drop, List.length_take]; rfl)) ?_; (with_reducible refine (vegas_Queue.calls kj6 a0 a2 a3 a4 t142 _ A18.out).mono ?_); rintro e w27 ⟨rfl, hb⟩; refine ⟨_, rfl, ?_⟩; have n0_ := Aside0.mk (below_step (by repeat (first | (with_reducible first | exact HB.out | apply below_alloc | apply pw_below_drewN | apply below_drew1) | exact HB.out)) hb); clear HB; have HB := n0_; clear n0_; (try clear hb); (try clear hb2); (try clear hk); (try clear hi)) | ((with_reducible refine gate_callee (f := 11) rfl ?_); refine goesL_ (some 61) rfl rfl Try.func11 (by kernel_rfl) rfl #[.int .i64 (wrap64 (a0 + a1)), .int .i64 a2, .int .i64 a3, .int .i64 a4] rfl (by (try simp only [List.map_toArray, List.map_cons, List.map_nil]); first | done | rfl | (simp only [List.length_drop, List.length_take]; rfl)) ?_; (with_reducible refine (vegas_Queue.calls kj6 (wrap64 (a0 + a1)) a2 a3 a4 t143 _ A19.out).mono ?_); rintro e w28 ⟨rfl, hb⟩; refine ⟨_, rfl, ?_⟩; have n0_ := Aside0.mk (below_step (by repeat (first | (with_reducible first | exact HB.out | apply below_alloc | apply pw_below_drewN | apply below_drew1) | exact HB.out)) hb); clear HB; have HB := n0_; clear n0_; (try clear hb); (try clear hb2); (try clear hk); (try clear hi)) | (go_at_call 11; (with_reducible refine (vegas_Queue.calls kj6 a0 a2 a2 a4 t144 _ A24.out).mono ?_); rintro e w29 ⟨rfl, hb⟩; have n0_ := Aside0.mk (below_step (by repeat (first | (with_reducible first | exact HB.out | apply below_alloc | apply pw_below_drewN | apply below_drew1) | exact HB.out)) hb); clear HB; have HB := n0_; clear n0_; (try clear hb); (try clear hb2); (try clear hk); (try clear hi)))
                    go_ret
                    exact ⟨by first | rfl | (simp [errW_none, errW_some] <;> rfl) | (simp [*, errW_none, errW_some] <;> rfl), by repeat (first | (with_reducible first | exact HB.out | apply below_alloc | apply pw_below_drewN | apply below_drew1) | exact HB.out)⟩
                  · rw [if_neg c26] at H
                    have c26b0 : decide (a3 ≤ a2) = false := decide_eq_false c26
                    clear c26
                    obtain rfl := Option.some.inj H
                    go_wp2_with (first | ((with_reducible refine gate_callee (f := 11) rfl ?_); refine goesL_ (some 54) rfl rfl Try.func11 (by kernel_rfl) rfl #[.int .i64 a0, .int .i64 a2, .int .i64 a3, .int .i64 a4] rfl (by (try simp only [List.map_toArray, List.map_cons, List.map_nil]); first | done | rfl | (simp only [List.length_drop, List.length_take]; rfl)) ?_; (with_reducible refine (vegas_Queue.calls kj6 a0 a2 a3 a4 t142 _ A18.out).mono ?_); rintro e w30 ⟨rfl, hb⟩; refine ⟨_, rfl, ?_⟩; have n0_ := Aside0.mk (below_step (by repeat (first | (with_reducible first | exact HB.out | apply below_alloc | apply pw_below_drewN | apply below_drew1) | exact HB.out)) hb); clear HB; have HB := n0_; clear n0_; (try clear hb); (try clear hb2); (try clear hk); (try clear hi)) | ((with_reducible refine gate_callee (f := 11) rfl ?_); refine goesL_ (some 61) rfl rfl Try.func11 (by kernel_rfl) rfl #[.int .i64 (wrap64 (a0 + a1)), .int .i64 a2, .int .i64 a3, .int .i64 a4] rfl (by (try simp only [List.map_toArray, List.map_cons, List.map_nil]); first | done | rfl | (simp only [List.length_drop, List.length_take]; rfl)) ?_; (with_reducible refine (vegas_Queue.calls kj6 (wrap64 (a0 + a1)) a2 a3 a4 t143 _ A19.out).mono ?_); rintro e w31 ⟨rfl, hb⟩; refine ⟨_, rfl, ?_⟩; have n0_ := Aside0.mk (below_step (by repeat (first | (with_reducible first | exact HB.out | apply below_alloc | apply pw_below_drewN | apply below_drew1) | exact HB.out)) hb); clear HB; have HB := n0_; clear n0_; (try clear hb); (try clear hb2); (try clear hk); (try clear hi)) | (go_at_call 11; (with_reducible refine (vegas_Queue.calls kj6 a0 a2 a2 a4 t144 _ A24.out).mono ?_); rintro e w32 ⟨rfl, hb⟩; have n0_ := Aside0.mk (below_step (by repeat (first | (with_reducible first | exact HB.out | apply below_alloc | apply pw_below_drewN | apply below_drew1) | exact HB.out)) hb); clear HB; have HB := n0_; clear n0_; (try clear hb); (try clear hb2); (try clear hk); (try clear hi)))
                    go_ret
                    exact ⟨by first | rfl | (simp [errW_none, errW_some] <;> rfl) | (simp [*, errW_none, errW_some] <;> rfl), by repeat (first | (with_reducible first | exact HB.out | apply below_alloc | apply pw_below_drewN | apply below_drew1) | exact HB.out)⟩
                · rw [if_neg c25] at H
                  have c25b0 : (t144 == 0) = false := beq_eq_false_iff_ne.mpr c25
                  have c25b1 : (t144 != 0) = true := bne_iff_ne.mpr c25
                  exact Bool.noConfusion ((Option.some.inj H).trans hr_.out)
              · rw [if_neg c23] at H
                have c23b0 : decide (t142 ≤ t143) = false := decide_eq_false c23
                clear c23
                exact Bool.noConfusion ((Option.some.inj H).trans hr_.out)
            · rw [if_neg c22] at H
              have c22b0 : decide (t142 ≤ (wrap64 (Int.tdiv a0 a4))) = false := decide_eq_false c22
              clear c22
              exact Bool.noConfusion ((Option.some.inj H).trans hr_.out)
        · rw [if_neg c20] at H
          have c20b0 : decide (0 ≤ t142) = false := decide_eq_false c20
          clear c20
          exact Bool.noConfusion ((Option.some.inj H).trans hr_.out)

/-- THE ONE PURE STATEMENT of fourinhandlaw16_VegasQueue: yours. -/
def fourinhandlaw16_VegasQueue.Pure : Prop := ∀ (a0 : Int) (a1 : Int) (a2 : Int) (a3 : Int) (a4 : Int), (Lit.int .i64 a0).wf = true → (Lit.int .i64 a1).wf = true → (Lit.int .i64 a2).wf = true → (Lit.int .i64 a3).wf = true → (Lit.int .i64 a4).wf = true → ∃ k, fourinhandlaw16_VegasQueue.f k a0 a1 a2 a3 a4 = some true
theorem fourinhandlaw16_VegasQueue.walk (P : fourinhandlaw16_VegasQueue.Pure) (a0 : Int) (a1 : Int) (a2 : Int) (a3 : Int) (a4 : Int) (w : World) (w0 : (Lit.int .i64 a0).wf = true) (w1 : (Lit.int .i64 a1).wf = true) (w2 : (Lit.int .i64 a2).wf = true) (w3 : (Lit.int .i64 a3).wf = true) (w4 : (Lit.int .i64 a4).wf = true) :
    Calls Try.prog 4 #[.int .i64 a0, .int .i64 a1, .int .i64 a2, .int .i64 a3, .int .i64 a4] w fun e w' => e = .returned (.bool true) ∧ Below w.heap.size w w' := by
  obtain ⟨k, h⟩ := P a0 a1 a2 a3 a4 w0 w1 w2 w3 w4
  refine (fourinhandlaw16_VegasQueue.calls k a0 a1 a2 a3 a4 true ⟨rfl⟩ w h).mono ?_
  rintro e w' ⟨rfl, hd⟩
  exact ⟨rfl, hd⟩

end Go.Proofs.Ytjmblmomeijddaa.PVegasQueue
