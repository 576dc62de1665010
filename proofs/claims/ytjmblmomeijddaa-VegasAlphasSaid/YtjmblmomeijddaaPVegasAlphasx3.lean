-- Written by a program of this session (wip/hprint.py), over the kit's print.py: the walk of one law. Lean checks it.
import Derived.Test.YtjmblmomeijddaaPVegasAlphasx0
import Derived.Test.YtjmblmomeijddaaPVegasAlphasx2
namespace Go.Proofs.Ytjmblmomeijddaa.PVegasAlphas
open Go.RowKit Go.Proofs.YtjmblmomeijddaaW.PrintWords Go.Proofs.YtjmblmomeijddaaW.PrintLast Go.Proofs.YtjmblmomeijddaaW.PrintMore
attribute [local go_sem] max2_int min2_int max_two min_two max_three min_three max_four min_four   -- for this text's walks alone
set_option linter.unusedVariables false
set_option linter.unusedSimpArgs false

/-! ### fourinhandlaw16_VegasAlphas: function 3 -/
mutual
def fourinhandlaw16_VegasAlphas.j0 : Nat → List (S29) → Int → Bool → Bool → Option (Bool)
  | 0, _, _, _, _ => none
  | k + 1, x0, x1, x5, x24 => if x24 = true then (some x5) else (fourinhandlaw16_VegasAlphas.l0 k x0 x1 0 0)
def fourinhandlaw16_VegasAlphas.l0 : Nat → List (S29) → Int → Int → Int → Option (Bool)
  | 0, _, _, _, _ => none
  | k + 1, x0, x1, x6, x7 => if x7 < (x0.length : Int) then ((vegas_Alpha.f k x0 x7 x1).bind fun t142 => (if t142 < 1 then (some false) else (if t142 > x1 then (some false) else (fourinhandlaw16_VegasAlphas.l0 k x0 x1 (wrap64 (x6 + t142)) (wrap64 (x7 + 1)))))) else (if x6 ≤ (wrap64 (x1 + (x0.length : Int))) then ((vegas_Alpha.f k x0 (x0.length : Int) x1).bind fun t143 => (if t143 = 0 then ((vegas_Alpha.f k x0 (-1) x1).bind fun t144 => (some (t144 == 0))) else (some false))) else (some false))
end
def fourinhandlaw16_VegasAlphas.f (k : Nat) (l0 : List (S29)) (a1 : Int) : Option (Bool) := (fourinhandlaw16_awake.f k).bind fun t141 => (if t141 = true then (if (l0.length : Int) > 4 then (fourinhandlaw16_VegasAlphas.j0 k l0 a1 t141 true) else (if a1 < 1 then (fourinhandlaw16_VegasAlphas.j0 k l0 a1 t141 true) else (fourinhandlaw16_VegasAlphas.j0 k l0 a1 t141 (decide (a1 > 1048576))))) else (fourinhandlaw16_VegasAlphas.j0 k l0 a1 t141 true))
theorem fourinhandlaw16_VegasAlphas.mono_l : ∀ k, (∀ y0 y1 y2 y3, LeO (fourinhandlaw16_VegasAlphas.j0 k y0 y1 y2 y3) (fourinhandlaw16_VegasAlphas.j0 (k + 1) y0 y1 y2 y3)) ∧ (∀ y0 y1 y2 y3, LeO (fourinhandlaw16_VegasAlphas.l0 k y0 y1 y2 y3) (fourinhandlaw16_VegasAlphas.l0 (k + 1) y0 y1 y2 y3))
  | 0 => ⟨fun _ _ _ _ r h => by simp [fourinhandlaw16_VegasAlphas.j0] at h, fun _ _ _ _ r h => by simp [fourinhandlaw16_VegasAlphas.l0] at h⟩
  | k + 1 => by
    obtain ⟨ih0, ih1⟩ := fourinhandlaw16_VegasAlphas.mono_l k
    refine ⟨?_, ?_⟩
    · intro y0 y1 y2 y3
      unfold fourinhandlaw16_VegasAlphas.j0
      repeat' first
      | (with_reducible exact ih0 _ _ _ _)
      | (with_reducible exact ih1 _ _ _ _)
      | (with_reducible exact fourinhandlaw16_awake.mono _)
      | (with_reducible exact vegas_Alpha.mono _ _ _ _)
      | (with_reducible exact LeO.refl _)
      | (with_reducible exact LeO.none _)
      | (with_reducible refine LeO.ite ?_ ?_)
      | (with_reducible refine LeO.bind ?_ (fun _ => ?_))
      | exact ih0 _ _ _ _
      | exact ih1 _ _ _ _
      | exact fourinhandlaw16_awake.mono _
      | exact vegas_Alpha.mono _ _ _ _
      | exact LeO.none _
      | refine LeO.ite ?_ ?_
      | refine LeO.bind ?_ (fun _ => ?_)
    · intro y0 y1 y2 y3
      unfold fourinhandlaw16_VegasAlphas.l0
      repeat' first
      | (with_reducible exact ih0 _ _ _ _)
      | (with_reducible exact ih1 _ _ _ _)
      | (with_reducible exact fourinhandlaw16_awake.mono _)
      | (with_reducible exact vegas_Alpha.mono _ _ _ _)
      | (with_reducible exact LeO.refl _)
      | (with_reducible exact LeO.none _)
      | (with_reducible refine LeO.ite ?_ ?_)
      | (with_reducible refine LeO.bind ?_ (fun _ => ?_))
      | exact ih0 _ _ _ _
      | exact ih1 _ _ _ _
      | exact fourinhandlaw16_awake.mono _
      | exact vegas_Alpha.mono _ _ _ _
      | exact LeO.none _
      | refine LeO.ite ?_ ?_
      | refine LeO.bind ?_ (fun _ => ?_)
theorem fourinhandlaw16_VegasAlphas.mono : ∀ a0 a1 k, LeO (fourinhandlaw16_VegasAlphas.f k a0 a1) (fourinhandlaw16_VegasAlphas.f (k + 1) a0 a1) := by
  intro a0 a1 k
  obtain ⟨ih0, ih1⟩ := fourinhandlaw16_VegasAlphas.mono_l k
  unfold fourinhandlaw16_VegasAlphas.f
  repeat' first
      | (with_reducible exact ih0 _ _ _ _)
      | (with_reducible exact ih1 _ _ _ _)
      | (with_reducible exact fourinhandlaw16_awake.mono _)
      | (with_reducible exact vegas_Alpha.mono _ _ _ _)
      | (with_reducible exact LeO.refl _)
      | (with_reducible exact LeO.none _)
      | (with_reducible refine LeO.ite ?_ ?_)
      | (with_reducible refine LeO.bind ?_ (fun _ => ?_))
      | exact ih0 _ _ _ _
      | exact ih1 _ _ _ _
      | exact fourinhandlaw16_awake.mono _
      | exact vegas_Alpha.mono _ _ _ _
      | exact LeO.none _
      | refine LeO.ite ?_ ?_
      | refine LeO.bind ?_ (fun _ => ?_)
set_option maxHeartbeats 8000000 in
set_option maxRecDepth 100000 in
theorem fourinhandlaw16_VegasAlphas.calls (k : Nat) (A0 : Option Addr) (c0 : Nat) (l0 : List (S29)) (a1 : Int) (r : Bool) (hr_ : Aside0 (r = true)) (w : World) (hr0 : Kd.C k29 w A0 l0.length l0) (hc0 : l0.length ≤ c0) (h : fourinhandlaw16_VegasAlphas.f k l0 a1 = some r) :
    Calls Try.prog 3 #[.slice A0 l0.length c0, .int .i64 a1] w fun e w' => e = .returned (.bool r) ∧ Below w.heap.size w w' := by
  have HR0 := Aside0.mk hr0
  have HC0 := Aside0.mk hc0
  clear hr0 hc0
  have HB := Aside0.mk (Below.refl w.heap.size w)
  have H : ((fourinhandlaw16_awake.f k).bind fun t141 => (if t141 = true then (if (l0.length : Int) > 4 then (fourinhandlaw16_VegasAlphas.j0 k l0 a1 t141 true) else (if a1 < 1 then (fourinhandlaw16_VegasAlphas.j0 k l0 a1 t141 true) else (fourinhandlaw16_VegasAlphas.j0 k l0 a1 t141 (decide (a1 > 1048576))))) else (fourinhandlaw16_VegasAlphas.j0 k l0 a1 t141 true))) = some r := h
  clear h
  replace H := Option.bind_eq_some_iff.mp H
  obtain ⟨t141, A30, H⟩ := H
  replace H : (if t141 = true then (if (l0.length : Int) > 4 then (fourinhandlaw16_VegasAlphas.j0 k l0 a1 t141 true) else (if a1 < 1 then (fourinhandlaw16_VegasAlphas.j0 k l0 a1 t141 true) else (fourinhandlaw16_VegasAlphas.j0 k l0 a1 t141 (decide (a1 > 1048576))))) else (fourinhandlaw16_VegasAlphas.j0 k l0 a1 t141 true)) = some r := H
  have A3 := Aside0.mk A30
  clear A30
  have HC4 := Aside0.mk H
  clear H
  go_enter Try.func3, Try.ntmps3
  go_upto_region 2 with (first | ((with_reducible refine gate_callee (f := 9) rfl ?_); refine goesL_ (some 9) rfl rfl Try.func9 (by kernel_rfl) rfl #[] rfl (by (try simp only [List.map_toArray, List.map_cons, List.map_nil]); first | done | rfl | (simp only [List.length_drop, List.length_take]; rfl)) ?_; (with_reducible refine (fourinhandlaw16_awake.calls k  t141 _ A3.out).mono ?_); rintro e w5 ⟨rfl, hb⟩; refine ⟨_, rfl, ?_⟩; have n0_ := Aside0.mk (below_step (by repeat (first | (with_reducible first | exact HB.out | apply below_alloc | apply pw_below_drewN | apply below_drew1) | exact HB.out)) hb); clear HB; have HB := n0_; clear n0_; (try clear hb); (try clear hb2); (try clear hk); (try clear hi)))
  (try simp only [Act.put, List.setIfInBounds_toArray, List.set_cons_zero, List.set_cons_succ])
  go_cut [24] (fun v24 wc => ∃ (kq : Nat) (x24_3 : Bool), v24 = .bool x24_3 ∧ Aside0 (fourinhandlaw16_VegasAlphas.j0 kq l0 a1 t141 x24_3 = some r) ∧ Aside0 (kq ≤ k) ∧ Aside0 (Below w.heap.size w wc))
  case first =>
    have H := HC4.out
    clear HC4
    by_cases c6 : t141 = true
    · subst c6
      have H1 : (if (l0.length : Int) > 4 then (fourinhandlaw16_VegasAlphas.j0 k l0 a1 true true) else (if a1 < 1 then (fourinhandlaw16_VegasAlphas.j0 k l0 a1 true true) else (fourinhandlaw16_VegasAlphas.j0 k l0 a1 true (decide (a1 > 1048576))))) = some r := by rw [if_pos rfl] at H; exact H
      clear H
      have H := H1
      clear H1
      by_cases c7 : (l0.length : Int) > 4
      · rw [if_pos c7] at H
        have c7b0 : decide (4 < (l0.length : Int)) = true := decide_eq_true c7
        have c7b1 : decide (4 < l0.length) = true := decide_eq_true (by omega)
        clear c7
        (first | rw [c7b0] | (simp only [i64_w, i32_w]; rw [c7b0]) | skip)
        have H' := Aside0.mk H
        clear H
        go_wp2
        go_meet
        case rel => exact ⟨_, (true), (by first | rfl | (simp; done) | (simp [*]; done)), H', ⟨by first | omega | exact Nat.le_refl _⟩, ⟨by repeat (first | (with_reducible first | exact HB.out | apply below_alloc | apply pw_below_drewN | apply below_drew1) | exact HB.out)⟩⟩
      · rw [if_neg c7] at H
        have c7b0 : decide (4 < (l0.length : Int)) = false := decide_eq_false c7
        have c7b1 : decide (4 < l0.length) = false := decide_eq_false (by omega)
        clear c7
        (first | rw [c7b0] | (simp only [i64_w, i32_w]; rw [c7b0]) | skip)
        by_cases c8 : a1 < 1
        · rw [if_pos c8] at H
          have c8b0 : decide (a1 < 1) = true := decide_eq_true c8
          clear c8
          have H' := Aside0.mk H
          clear H
          go_wp2
          go_meet
          case rel => exact ⟨_, (true), (by first | rfl | (simp; done) | (simp [*]; done)), H', ⟨by first | omega | exact Nat.le_refl _⟩, ⟨by repeat (first | (with_reducible first | exact HB.out | apply below_alloc | apply pw_below_drewN | apply below_drew1) | exact HB.out)⟩⟩
        · rw [if_neg c8] at H
          have c8b0 : decide (a1 < 1) = false := decide_eq_false c8
          clear c8
          have H' := Aside0.mk H
          clear H
          go_wp2
          go_meet
          case rel => exact ⟨_, (decide (a1 > 1048576)), (by first | rfl | (simp; done) | (simp [*]; done)), H', ⟨by first | omega | exact Nat.le_refl _⟩, ⟨by repeat (first | (with_reducible first | exact HB.out | apply below_alloc | apply pw_below_drewN | apply below_drew1) | exact HB.out)⟩⟩
    · replace c6 := Bool.eq_false_iff.mpr c6
      subst c6
      have H1 : (fourinhandlaw16_VegasAlphas.j0 k l0 a1 false true) = some r := by rw [if_neg (show ¬ (false = true) by decide)] at H; exact H
      clear H
      have H := H1
      clear H1
      have H' := Aside0.mk H
      clear H
      go_wp2
      go_meet
      case rel => exact ⟨_, (true), (by first | rfl | (simp; done) | (simp [*]; done)), H', ⟨by first | omega | exact Nat.le_refl _⟩, ⟨by repeat (first | (with_reducible first | exact HB.out | apply below_alloc | apply pw_below_drewN | apply below_drew1) | exact HB.out)⟩⟩
  case rest =>
    clear HC4
    try clear p2
    try clear c3
    try clear c6
    try clear c7
    try clear c7b0
    try clear c7b1
    try clear c8
    try clear c8b0
    obtain ⟨kq, x24_3, rfl, HA, HJ3, HB⟩ := hcut
    cases kq with
    | zero => exact absurd HA.out (by simp [fourinhandlaw16_VegasAlphas.j0])
    | succ kj3 =>
      have H := HA.out
      clear HA
      simp only [fourinhandlaw16_VegasAlphas.j0] at H
      by_cases c9 : x24_3 = true
      · subst c9
        have H1 : (some t141) = some r := by rw [if_pos rfl] at H; exact H
        clear H
        have H := H1
        clear H1
        obtain rfl := Option.some.inj H
        go_wp2
        go_ret
        exact ⟨by first | rfl | (simp [errW_none, errW_some] <;> rfl) | (simp [*, errW_none, errW_some] <;> rfl), by repeat (first | (with_reducible first | exact HB.out | apply below_alloc | apply pw_below_drewN | apply below_drew1) | exact HB.out)⟩
      · replace c9 := Bool.eq_false_iff.mpr c9
        subst c9
        have H1 : (fourinhandlaw16_VegasAlphas.l0 kj3 l0 a1 0 0) = some r := by rw [if_neg (show ¬ (false = true) by decide)] at H; exact H
        clear H
        have H := H1
        clear H1
        have H' := Aside0.mk H
        clear H
        go_wp2
        go_loopg [6, 7] kj3 (fun kq v6 v7 w' => ∃ (x6_2 : Int) (x7_2 : Int), v6 = .int .i64 x6_2 ∧ v7 = .int .i64 x7_2 ∧ Aside0 (fourinhandlaw16_VegasAlphas.l0 kq l0 a1 x6_2 x7_2 = some r) ∧ Aside0 (kq ≤ kj3) ∧ Aside0 (Below w.heap.size w w'))
        case atStart => exact ⟨(0), (0), (by first | rfl | (simp; done) | (simp [*]; done)), (by first | rfl | (simp; done) | (simp [*]; done)), H', ⟨Nat.le_refl _⟩, ⟨by repeat (first | (with_reducible first | exact HB.out | apply below_alloc | apply pw_below_drewN | apply below_drew1) | exact HB.out)⟩⟩
        case round =>
          clear H'
          try clear p2
          try clear c3
          try clear c6
          try clear c7
          try clear c7b0
          try clear c7b1
          try clear c8
          try clear c8b0
          try clear c9
          try clear p2
          obtain ⟨x6_2, x7_2, rfl, rfl, HA, HK2, HB⟩ := hrel
          cases gk with
          | zero => exact absurd HA.out (by simp [fourinhandlaw16_VegasAlphas.l0])
          | succ k2 =>
            have H := HA.out
            clear HA
            simp only [fourinhandlaw16_VegasAlphas.l0] at H
            by_cases c10 : x7_2 < (l0.length : Int)
            · rw [if_pos c10] at H
              have c10b0 : decide (x7_2 < (l0.length : Int)) = true := decide_eq_true c10
              clear c10
              replace H := Option.bind_eq_some_iff.mp H
              obtain ⟨t142, A110, H⟩ := H
              replace H : (if t142 < 1 then (some false) else (if t142 > a1 then (some false) else (fourinhandlaw16_VegasAlphas.l0 k2 l0 a1 (wrap64 (x6_2 + t142)) (wrap64 (x7_2 + 1))))) = some r := H
              have A11 := Aside0.mk A110
              clear A110
              by_cases c12 : t142 < 1
              · rw [if_pos c12] at H
                have c12b0 : decide (t142 < 1) = true := decide_eq_true c12
                clear c12
                exact Bool.noConfusion ((Option.some.inj H).trans hr_.out)
              · rw [if_neg c12] at H
                have c12b0 : decide (t142 < 1) = false := decide_eq_false c12
                clear c12
                by_cases c13 : t142 > a1
                · rw [if_pos c13] at H
                  have c13b0 : decide (a1 < t142) = true := decide_eq_true c13
                  clear c13
                  exact Bool.noConfusion ((Option.some.inj H).trans hr_.out)
                · rw [if_neg c13] at H
                  have c13b0 : decide (a1 < t142) = false := decide_eq_false c13
                  clear c13
                  have H' := Aside0.mk H
                  clear H
                  go_wp2_with (first | ((with_reducible refine gate_callee (f := 10) rfl ?_); refine goesL_ (some 35) rfl rfl Try.func10 (by kernel_rfl) rfl #[.slice A0 l0.length c0, .int .i64 x7_2, .int .i64 a1] rfl (by (try simp only [List.map_toArray, List.map_cons, List.map_nil]); first | done | rfl | (simp only [List.length_drop, List.length_take]; rfl)) ?_; (with_reducible refine (vegas_Alpha.calls k2 _ _ l0 x7_2 a1 t142 _ ?side1 ?side2 A11.out).mono ?_); (case side1 => repeat (first | exact (Kd.C_below HR0.out HB.out) | (with_reducible refine Kd.C_alloc ?_ _) | (with_reducible refine Kd.C_drewN ?_ _) | (with_reducible refine Kd.C_drew ?_))); (case side2 => exact HC0.out); rintro e w14 ⟨rfl, hb⟩; refine ⟨_, rfl, ?_⟩; have n0_ := Aside0.mk (below_step (by repeat (first | (with_reducible first | exact HB.out | apply below_alloc | apply pw_below_drewN | apply below_drew1) | exact HB.out)) hb); clear HB; have HB := n0_; clear n0_; (try clear hb); (try clear hb2); (try clear hk); (try clear hi)))
                  go_roundg k2
                  case measure => have := HJ3.out; have := HK2.out; omega
                  case rel => exact ⟨(wrap64 (x6_2 + t142)), (wrap64 (x7_2 + 1)), (by first | rfl | (simp; done) | (simp [*]; done)), (by first | rfl | (simp; done) | (simp [*]; done)), H', ⟨by have := HJ3.out; have := HK2.out; omega⟩, ⟨by repeat (first | (with_reducible first | exact HB.out | apply below_alloc | apply pw_below_drewN | apply below_drew1) | exact HB.out)⟩⟩
            · rw [if_neg c10] at H
              have c10b0 : decide (x7_2 < (l0.length : Int)) = false := decide_eq_false c10
              clear c10
              by_cases c15 : x6_2 ≤ (wrap64 (a1 + (l0.length : Int)))
              · rw [if_pos c15] at H
                have c15b0 : decide (x6_2 ≤ (wrap64 (a1 + (l0.length : Int)))) = true := decide_eq_true c15
                clear c15
                replace H := Option.bind_eq_some_iff.mp H
                obtain ⟨t143, A160, H⟩ := H
                replace H : (if t143 = 0 then ((vegas_Alpha.f k2 l0 (-1) a1).bind fun t144 => (some (t144 == 0))) else (some false)) = some r := H
                have A16 := Aside0.mk A160
                clear A160
                by_cases c17 : t143 = 0
                · rw [if_pos c17] at H
                  have c17b0 : (t143 == 0) = true := beq_iff_eq.mpr c17
                  have c17b1 : (t143 != 0) = false := bne_eq_false_iff_eq.mpr c17
                  clear c17
                  replace H := Option.bind_eq_some_iff.mp H
                  obtain ⟨t144, A180, H⟩ := H
                  replace H : (some (t144 == 0)) = some r := H
                  have A18 := Aside0.mk A180
                  clear A180
                  obtain rfl := Option.some.inj H
                  go_wp2_with (first | (go_at_call 10; (with_reducible refine (vegas_Alpha.calls k2 _ _ l0 (l0.length : Int) a1 t143 _ ?side1 ?side2 A16.out).mono ?_); (case side1 => repeat (first | exact (Kd.C_below HR0.out HB.out) | (with_reducible refine Kd.C_alloc ?_ _) | (with_reducible refine Kd.C_drewN ?_ _) | (with_reducible refine Kd.C_drew ?_))); (case side2 => exact HC0.out); rintro e w19 ⟨rfl, hb⟩; have n0_ := Aside0.mk (below_step (by repeat (first | (with_reducible first | exact HB.out | apply below_alloc | apply pw_below_drewN | apply below_drew1) | exact HB.out)) hb); clear HB; have HB := n0_; clear n0_; (try clear hb); (try clear hb2); (try clear hk); (try clear hi)) | (go_at_call 10; (with_reducible refine (vegas_Alpha.calls k2 _ _ l0 (-1) a1 t144 _ ?side1 ?side2 A18.out).mono ?_); (case side1 => repeat (first | exact (Kd.C_below HR0.out HB.out) | (with_reducible refine Kd.C_alloc ?_ _) | (with_reducible refine Kd.C_drewN ?_ _) | (with_reducible refine Kd.C_drew ?_))); (case side2 => exact HC0.out); rintro e w20 ⟨rfl, hb⟩; have n0_ := Aside0.mk (below_step (by repeat (first | (with_reducible first | exact HB.out | apply below_alloc | apply pw_below_drewN | apply below_drew1) | exact HB.out)) hb); clear HB; have HB := n0_; clear n0_; (try clear hb); (try clear hb2); (try clear hk); (try clear hi)))
                  go_ret
                  exact ⟨by first | rfl | (simp [errW_none, errW_some] <;> rfl) | (simp [*, errW_none, errW_some] <;> rfl), by repeat (first | (with_reducible first | exact HB.out | apply below_alloc | apply pw_below_drewN | apply below_drew1) | exact HB.out)⟩
                · rw [if_neg c17] at H
                  have c17b0 : (t143 == 0) = false := beq_eq_false_iff_ne.mpr c17
                  have c17b1 : (t143 != 0) = true := bne_iff_ne.mpr c17
                  exact Bool.noConfusion ((Option.some.inj H).trans hr_.out)
              · rw [if_neg c15] at H
                have c15b0 : decide (x6_2 ≤ (wrap64 (a1 + (l0.length : Int)))) = false := decide_eq_false c15
                clear c15
                exact Bool.noConfusion ((Option.some.inj H).trans hr_.out)

end Go.Proofs.Ytjmblmomeijddaa.PVegasAlphas
