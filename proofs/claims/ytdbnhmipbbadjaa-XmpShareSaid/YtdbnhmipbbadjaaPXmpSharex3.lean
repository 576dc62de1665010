-- Written by a program of this session (wip/hprint.py), over the kit's print.py: the walk of one law. Lean checks it.
import Derived.Test.YtdbnhmipbbadjaaPXmpSharex0
import Derived.Test.YtdbnhmipbbadjaaPXmpSharex2
namespace Go.Proofs.Ytdbnhmipbbadjaa.PXmpShare
open Go.RowKit Go.Proofs.YtdbnhmipbbadjaaW.PrintWords Go.Proofs.YtdbnhmipbbadjaaW.PrintLast Go.Proofs.YtdbnhmipbbadjaaW.PrintMore
attribute [local go_sem] max2_int min2_int max_two min_two max_three min_three max_four min_four   -- for this text's walks alone
set_option linter.unusedVariables false
set_option linter.unusedSimpArgs false

/-! ### fourinhandlaw15_XmpShare: function 4 -/
mutual
def fourinhandlaw15_XmpShare.j0 : Nat → List (S26) → Int → Int → Int → Bool → Bool → Option (Bool)
  | 0, _, _, _, _, _, _ => none
  | k + 1, x0, x1, x2, x3, x9, x41 => if x41 = true then (some x9) else ((xmp_Share.f k x0 x1 x3).bind fun t148 => ((xmp_Share.f k x0 x2 x3).bind fun t149 => (if ([] : List (S26)).length + x0.length < 8796093022208 then ((some (([] : List (S26)) ++ x0 : List (S26))).bind fun y150 => (if 0 ≤ x2 then (if x2 < (x0.length : Int) then (if 0 ≤ x1 then (if x1 < (y150.length : Int) then (if x1 < (x0.length : Int) then (if x2 < (y150.length : Int) then ((some ((y150.set (x1 : Int).toNat (⟨(rd_T26 x0 x2).f0, (rd_T26 x0 x2).f1⟩ : S26)).set (x2 : Int).toNat (⟨(rd_T26 x0 x1).f0, (rd_T26 x0 x1).f1⟩ : S26) : List (S26))).bind fun y156 => ((xmp_Share.f k y156 x2 x3).bind fun t157 => (if t157 = t148 then ((xmp_Share.f k y156 x1 x3).bind fun t158 => (fourinhandlaw15_XmpShare.j1 k x0 x1 x2 t148 t149 (t158 != t149))) else (fourinhandlaw15_XmpShare.j1 k x0 x1 x2 t148 t149 true)))) else (none)) else (none)) else (none)) else (none)) else (none)) else (none))) else (none))))
def fourinhandlaw15_XmpShare.j1 : Nat → List (S26) → Int → Int → Int → Int → Bool → Option (Bool)
  | 0, _, _, _, _, _, _ => none
  | k + 1, x0, x1, x2, x10, x11, x80 => if x80 = true then (some false) else (if 0 ≤ x1 then (if x1 < (x0.length : Int) then (if ((rd_T26 x0 x1).f0) < 1 then (some (x10 == 0)) else (if ((rd_T26 x0 x1).f1) < 1 then (some (x10 == 0)) else (if ((rd_T26 x0 x1).f0) > 1073741824 then (some (x10 == 0)) else (if ((rd_T26 x0 x1).f1) > 1099511627776 then (some (x10 == 0)) else (if 0 ≤ x2 then (if x2 < (x0.length : Int) then (if ((rd_T26 x0 x1).f1) = ((rd_T26 x0 x2).f1) then (if ((rd_T26 x0 x1).f0) < ((rd_T26 x0 x2).f0) then (some true) else (if x10 ≥ x11 then (some true) else (some (decide (((rd_T26 x0 x2).f0) > 1073741824))))) else (some true)) else (none)) else (none)))))) else (none)) else (none))
end
def fourinhandlaw15_XmpShare.f (k : Nat) (l0 : List (S26)) (a1 : Int) (a2 : Int) (a3 : Int) : Option (Bool) := (fourinhandlaw15_awake.f k).bind fun t147 => (if t147 = true then (if (l0.length : Int) > 4 then (fourinhandlaw15_XmpShare.j0 k l0 a1 a2 a3 t147 true) else (if a1 < 0 then (fourinhandlaw15_XmpShare.j0 k l0 a1 a2 a3 t147 true) else (if a2 < 0 then (fourinhandlaw15_XmpShare.j0 k l0 a1 a2 a3 t147 true) else (if a1 ≥ (l0.length : Int) then (fourinhandlaw15_XmpShare.j0 k l0 a1 a2 a3 t147 true) else (fourinhandlaw15_XmpShare.j0 k l0 a1 a2 a3 t147 (decide (a2 ≥ (l0.length : Int)))))))) else (fourinhandlaw15_XmpShare.j0 k l0 a1 a2 a3 t147 true))
theorem fourinhandlaw15_XmpShare.mono_l : ∀ k, (∀ y0 y1 y2 y3 y4 y5, LeO (fourinhandlaw15_XmpShare.j0 k y0 y1 y2 y3 y4 y5) (fourinhandlaw15_XmpShare.j0 (k + 1) y0 y1 y2 y3 y4 y5)) ∧ (∀ y0 y1 y2 y3 y4 y5, LeO (fourinhandlaw15_XmpShare.j1 k y0 y1 y2 y3 y4 y5) (fourinhandlaw15_XmpShare.j1 (k + 1) y0 y1 y2 y3 y4 y5))
  | 0 => ⟨fun _ _ _ _ _ _ r h => by simp [fourinhandlaw15_XmpShare.j0] at h, fun _ _ _ _ _ _ r h => by simp [fourinhandlaw15_XmpShare.j1] at h⟩
  | k + 1 => by
    obtain ⟨ih0, ih1⟩ := fourinhandlaw15_XmpShare.mono_l k
    refine ⟨?_, ?_⟩
    · intro y0 y1 y2 y3 y4 y5
      unfold fourinhandlaw15_XmpShare.j0
      repeat' first
      | (with_reducible exact ih0 _ _ _ _ _ _)
      | (with_reducible exact ih1 _ _ _ _ _ _)
      | (with_reducible exact fourinhandlaw15_awake.mono _)
      | (with_reducible exact xmp_Share.mono _ _ _ _)
      | (with_reducible exact LeO.refl _)
      | (with_reducible exact LeO.none _)
      | (with_reducible refine LeO.ite ?_ ?_)
      | (with_reducible refine LeO.bind ?_ (fun _ => ?_))
      | exact ih0 _ _ _ _ _ _
      | exact ih1 _ _ _ _ _ _
      | exact fourinhandlaw15_awake.mono _
      | exact xmp_Share.mono _ _ _ _
      | exact LeO.none _
      | refine LeO.ite ?_ ?_
      | refine LeO.bind ?_ (fun _ => ?_)
    · intro y0 y1 y2 y3 y4 y5
      unfold fourinhandlaw15_XmpShare.j1
      repeat' first
      | (with_reducible exact ih0 _ _ _ _ _ _)
      | (with_reducible exact ih1 _ _ _ _ _ _)
      | (with_reducible exact fourinhandlaw15_awake.mono _)
      | (with_reducible exact xmp_Share.mono _ _ _ _)
      | (with_reducible exact LeO.refl _)
      | (with_reducible exact LeO.none _)
      | (with_reducible refine LeO.ite ?_ ?_)
      | (with_reducible refine LeO.bind ?_ (fun _ => ?_))
      | exact ih0 _ _ _ _ _ _
      | exact ih1 _ _ _ _ _ _
      | exact fourinhandlaw15_awake.mono _
      | exact xmp_Share.mono _ _ _ _
      | exact LeO.none _
      | refine LeO.ite ?_ ?_
      | refine LeO.bind ?_ (fun _ => ?_)
theorem fourinhandlaw15_XmpShare.mono : ∀ a0 a1 a2 a3 k, LeO (fourinhandlaw15_XmpShare.f k a0 a1 a2 a3) (fourinhandlaw15_XmpShare.f (k + 1) a0 a1 a2 a3) := by
  intro a0 a1 a2 a3 k
  obtain ⟨ih0, ih1⟩ := fourinhandlaw15_XmpShare.mono_l k
  unfold fourinhandlaw15_XmpShare.f
  repeat' first
      | (with_reducible exact ih0 _ _ _ _ _ _)
      | (with_reducible exact ih1 _ _ _ _ _ _)
      | (with_reducible exact fourinhandlaw15_awake.mono _)
      | (with_reducible exact xmp_Share.mono _ _ _ _)
      | (with_reducible exact LeO.refl _)
      | (with_reducible exact LeO.none _)
      | (with_reducible refine LeO.ite ?_ ?_)
      | (with_reducible refine LeO.bind ?_ (fun _ => ?_))
      | exact ih0 _ _ _ _ _ _
      | exact ih1 _ _ _ _ _ _
      | exact fourinhandlaw15_awake.mono _
      | exact xmp_Share.mono _ _ _ _
      | exact LeO.none _
      | refine LeO.ite ?_ ?_
      | refine LeO.bind ?_ (fun _ => ?_)
set_option maxHeartbeats 8000000 in
set_option maxRecDepth 100000 in
theorem fourinhandlaw15_XmpShare.calls (k : Nat) (A0 : Option Addr) (c0 : Nat) (l0 : List (S26)) (a1 : Int) (a2 : Int) (a3 : Int) (r : Bool) (hr_ : Aside0 (r = true)) (w : World) (hr0 : Kd.C k26 w A0 l0.length l0) (hc0 : l0.length ≤ c0) (h : fourinhandlaw15_XmpShare.f k l0 a1 a2 a3 = some r) :
    Calls Try.prog 4 #[.slice A0 l0.length c0, .int .i64 a1, .int .i64 a2, .int .i64 a3] w fun e w' => e = .returned (.bool r) ∧ Below w.heap.size w w' := by
  have hu26 := Try.underlying26
  have HR0 := Aside0.mk hr0
  have HC0 := Aside0.mk hc0
  clear hr0 hc0
  have HB := Aside0.mk (Below.refl w.heap.size w)
  have H : ((fourinhandlaw15_awake.f k).bind fun t147 => (if t147 = true then (if (l0.length : Int) > 4 then (fourinhandlaw15_XmpShare.j0 k l0 a1 a2 a3 t147 true) else (if a1 < 0 then (fourinhandlaw15_XmpShare.j0 k l0 a1 a2 a3 t147 true) else (if a2 < 0 then (fourinhandlaw15_XmpShare.j0 k l0 a1 a2 a3 t147 true) else (if a1 ≥ (l0.length : Int) then (fourinhandlaw15_XmpShare.j0 k l0 a1 a2 a3 t147 true) else (fourinhandlaw15_XmpShare.j0 k l0 a1 a2 a3 t147 (decide (a2 ≥ (l0.length : Int)))))))) else (fourinhandlaw15_XmpShare.j0 k l0 a1 a2 a3 t147 true))) = some r := h
  clear h
  replace H := Option.bind_eq_some_iff.mp H
  obtain ⟨t147, A50, H⟩ := H
  replace H : (if t147 = true then (if (l0.length : Int) > 4 then (fourinhandlaw15_XmpShare.j0 k l0 a1 a2 a3 t147 true) else (if a1 < 0 then (fourinhandlaw15_XmpShare.j0 k l0 a1 a2 a3 t147 true) else (if a2 < 0 then (fourinhandlaw15_XmpShare.j0 k l0 a1 a2 a3 t147 true) else (if a1 ≥ (l0.length : Int) then (fourinhandlaw15_XmpShare.j0 k l0 a1 a2 a3 t147 true) else (fourinhandlaw15_XmpShare.j0 k l0 a1 a2 a3 t147 (decide (a2 ≥ (l0.length : Int)))))))) else (fourinhandlaw15_XmpShare.j0 k l0 a1 a2 a3 t147 true)) = some r := H
  have A5 := Aside0.mk A50
  clear A50
  have HC6 := Aside0.mk H
  clear H
  go_enter Try.func4, Try.ntmps4
  go_upto_region 2 with (first | (go_at_call 9; (with_reducible refine (fourinhandlaw15_awake.calls k  t147 _ A5.out).mono ?_); rintro e w7 ⟨rfl, hb⟩; have n0_ := Aside0.mk (below_step (by repeat (first | (with_reducible first | exact HB.out | apply below_alloc | apply pw_below_drewN | apply below_drew1) | exact HB.out)) hb); clear HB; have HB := n0_; clear n0_; (try clear hb); (try clear hb2); (try clear hk); (try clear hi)))
  repeat (go_quiet (first | (go_at_call 9; (with_reducible refine (fourinhandlaw15_awake.calls k  t147 _ A5.out).mono ?_); rintro e w7 ⟨rfl, hb⟩; have n0_ := Aside0.mk (below_step (by repeat (first | (with_reducible first | exact HB.out | apply below_alloc | apply pw_below_drewN | apply below_drew1) | exact HB.out)) hb); clear HB; have HB := n0_; clear n0_; (try clear hb); (try clear hb2); (try clear hk); (try clear hi))); go_upto_region 2 with (first | (go_at_call 9; (with_reducible refine (fourinhandlaw15_awake.calls k  t147 _ A5.out).mono ?_); rintro e w7 ⟨rfl, hb⟩; have n0_ := Aside0.mk (below_step (by repeat (first | (with_reducible first | exact HB.out | apply below_alloc | apply pw_below_drewN | apply below_drew1) | exact HB.out)) hb); clear HB; have HB := n0_; clear n0_; (try clear hb); (try clear hb2); (try clear hk); (try clear hi))))
  (try simp only [Act.put, List.setIfInBounds_toArray, List.set_cons_zero, List.set_cons_succ])
  go_cut [41] (fun v41 wc => ∃ (kq : Nat) (x41_5 : Bool), v41 = .bool x41_5 ∧ Aside0 (fourinhandlaw15_XmpShare.j0 kq l0 a1 a2 a3 t147 x41_5 = some r) ∧ Aside0 (kq ≤ k) ∧ Aside0 (Below w.heap.size w wc))
  case first =>
    have H := HC6.out
    clear HC6
    by_cases c8 : t147 = true
    · subst c8
      have H1 : (if (l0.length : Int) > 4 then (fourinhandlaw15_XmpShare.j0 k l0 a1 a2 a3 true true) else (if a1 < 0 then (fourinhandlaw15_XmpShare.j0 k l0 a1 a2 a3 true true) else (if a2 < 0 then (fourinhandlaw15_XmpShare.j0 k l0 a1 a2 a3 true true) else (if a1 ≥ (l0.length : Int) then (fourinhandlaw15_XmpShare.j0 k l0 a1 a2 a3 true true) else (fourinhandlaw15_XmpShare.j0 k l0 a1 a2 a3 true (decide (a2 ≥ (l0.length : Int)))))))) = some r := by rw [if_pos rfl] at H; exact H
      clear H
      have H := H1
      clear H1
      by_cases c9 : (l0.length : Int) > 4
      · rw [if_pos c9] at H
        have c9b0 : decide (4 < (l0.length : Int)) = true := decide_eq_true c9
        have c9b1 : decide (4 < l0.length) = true := decide_eq_true (by omega)
        clear c9
        (first | rw [c9b0] | (simp only [i64_w, i32_w]; rw [c9b0]) | skip)
        have H' := Aside0.mk H
        clear H
        go_wp2
        repeat (go_quiet (fail); try go_wp2)
        go_meet
        case rel => exact ⟨_, (true), (by first | rfl | (simp; done) | (simp [*]; done)), H', ⟨by first | omega | exact Nat.le_refl _⟩, ⟨by repeat (first | (with_reducible first | exact HB.out | apply below_alloc | apply pw_below_drewN | apply below_drew1) | exact HB.out)⟩⟩
      · rw [if_neg c9] at H
        have c9b0 : decide (4 < (l0.length : Int)) = false := decide_eq_false c9
        have c9b1 : decide (4 < l0.length) = false := decide_eq_false (by omega)
        clear c9
        (first | rw [c9b0] | (simp only [i64_w, i32_w]; rw [c9b0]) | skip)
        by_cases c10 : a1 < 0
        · rw [if_pos c10] at H
          have c10b0 : decide (a1 < 0) = true := decide_eq_true c10
          clear c10
          have H' := Aside0.mk H
          clear H
          go_wp2
          repeat (go_quiet (fail); try go_wp2)
          go_meet
          case rel => exact ⟨_, (true), (by first | rfl | (simp; done) | (simp [*]; done)), H', ⟨by first | omega | exact Nat.le_refl _⟩, ⟨by repeat (first | (with_reducible first | exact HB.out | apply below_alloc | apply pw_below_drewN | apply below_drew1) | exact HB.out)⟩⟩
        · rw [if_neg c10] at H
          have c10b0 : decide (a1 < 0) = false := decide_eq_false c10
          clear c10
          by_cases c11 : a2 < 0
          · rw [if_pos c11] at H
            have c11b0 : decide (a2 < 0) = true := decide_eq_true c11
            clear c11
            have H' := Aside0.mk H
            clear H
            go_wp2
            repeat (go_quiet (fail); try go_wp2)
            go_meet
            case rel => exact ⟨_, (true), (by first | rfl | (simp; done) | (simp [*]; done)), H', ⟨by first | omega | exact Nat.le_refl _⟩, ⟨by repeat (first | (with_reducible first | exact HB.out | apply below_alloc | apply pw_below_drewN | apply below_drew1) | exact HB.out)⟩⟩
          · rw [if_neg c11] at H
            have c11b0 : decide (a2 < 0) = false := decide_eq_false c11
            clear c11
            by_cases c12 : a1 ≥ (l0.length : Int)
            · rw [if_pos c12] at H
              have c12b0 : decide ((l0.length : Int) ≤ a1) = true := decide_eq_true c12
              clear c12
              have H' := Aside0.mk H
              clear H
              go_wp2
              repeat (go_quiet (fail); try go_wp2)
              go_meet
              case rel => exact ⟨_, (true), (by first | rfl | (simp; done) | (simp [*]; done)), H', ⟨by first | omega | exact Nat.le_refl _⟩, ⟨by repeat (first | (with_reducible first | exact HB.out | apply below_alloc | apply pw_below_drewN | apply below_drew1) | exact HB.out)⟩⟩
            · rw [if_neg c12] at H
              have c12b0 : decide ((l0.length : Int) ≤ a1) = false := decide_eq_false c12
              clear c12
              have H' := Aside0.mk H
              clear H
              go_wp2
              repeat (go_quiet (fail); try go_wp2)
              go_meet
              case rel => exact ⟨_, (decide (a2 ≥ (l0.length : Int))), (by first | rfl | (simp; done) | (simp [*]; done)), H', ⟨by first | omega | exact Nat.le_refl _⟩, ⟨by repeat (first | (with_reducible first | exact HB.out | apply below_alloc | apply pw_below_drewN | apply below_drew1) | exact HB.out)⟩⟩
    · replace c8 := Bool.eq_false_iff.mpr c8
      subst c8
      have H1 : (fourinhandlaw15_XmpShare.j0 k l0 a1 a2 a3 false true) = some r := by rw [if_neg (show ¬ (false = true) by decide)] at H; exact H
      clear H
      have H := H1
      clear H1
      have H' := Aside0.mk H
      clear H
      go_wp2
      repeat (go_quiet (fail); try go_wp2)
      go_meet
      case rel => exact ⟨_, (true), (by first | rfl | (simp; done) | (simp [*]; done)), H', ⟨by first | omega | exact Nat.le_refl _⟩, ⟨by repeat (first | (with_reducible first | exact HB.out | apply below_alloc | apply pw_below_drewN | apply below_drew1) | exact HB.out)⟩⟩
  case rest =>
    clear HC6
    try clear c1
    try clear p2
    try clear c4
    try clear c8
    try clear c9
    try clear c9b0
    try clear c9b1
    try clear c10
    try clear c10b0
    try clear c11
    try clear c11b0
    try clear c12
    try clear c12b0
    obtain ⟨kq, x41_5, rfl, HA, HJ5, HB⟩ := hcut
    cases kq with
    | zero => exact absurd HA.out (by simp [fourinhandlaw15_XmpShare.j0])
    | succ kj5 =>
      have H := HA.out
      clear HA
      simp only [fourinhandlaw15_XmpShare.j0] at H
      by_cases c13 : x41_5 = true
      · subst c13
        have H1 : (some t147) = some r := by rw [if_pos rfl] at H; exact H
        clear H
        have H := H1
        clear H1
        obtain rfl := Option.some.inj H
        go_wp2
        repeat (go_quiet (fail); try go_wp2)
        go_ret
        exact ⟨by first | rfl | (simp [errW_none, errW_some] <;> rfl) | (simp [*, errW_none, errW_some] <;> rfl), by repeat (first | (with_reducible first | exact HB.out | apply below_alloc | apply pw_below_drewN | apply below_drew1) | exact HB.out)⟩
      · replace c13 := Bool.eq_false_iff.mpr c13
        subst c13
        have H1 : ((xmp_Share.f kj5 l0 a1 a3).bind fun t148 => ((xmp_Share.f kj5 l0 a2 a3).bind fun t149 => (if ([] : List (S26)).length + l0.length < 8796093022208 then ((some (([] : List (S26)) ++ l0 : List (S26))).bind fun y150 => (if 0 ≤ a2 then (if a2 < (l0.length : Int) then (if 0 ≤ a1 then (if a1 < (y150.length : Int) then (if a1 < (l0.length : Int) then (if a2 < (y150.length : Int) then ((some ((y150.set (a1 : Int).toNat (⟨(rd_T26 l0 a2).f0, (rd_T26 l0 a2).f1⟩ : S26)).set (a2 : Int).toNat (⟨(rd_T26 l0 a1).f0, (rd_T26 l0 a1).f1⟩ : S26) : List (S26))).bind fun y156 => ((xmp_Share.f kj5 y156 a2 a3).bind fun t157 => (if t157 = t148 then ((xmp_Share.f kj5 y156 a1 a3).bind fun t158 => (fourinhandlaw15_XmpShare.j1 kj5 l0 a1 a2 t148 t149 (t158 != t149))) else (fourinhandlaw15_XmpShare.j1 kj5 l0 a1 a2 t148 t149 true)))) else (none)) else (none)) else (none)) else (none)) else (none)) else (none))) else (none)))) = some r := by rw [if_neg (show ¬ (false = true) by decide)] at H; exact H
        clear H
        have H := H1
        clear H1
        replace H := Option.bind_eq_some_iff.mp H
        obtain ⟨t148, A140, H⟩ := H
        replace H : ((xmp_Share.f kj5 l0 a2 a3).bind fun t149 => (if ([] : List (S26)).length + l0.length < 8796093022208 then ((some (([] : List (S26)) ++ l0 : List (S26))).bind fun y150 => (if 0 ≤ a2 then (if a2 < (l0.length : Int) then (if 0 ≤ a1 then (if a1 < (y150.length : Int) then (if a1 < (l0.length : Int) then (if a2 < (y150.length : Int) then ((some ((y150.set (a1 : Int).toNat (⟨(rd_T26 l0 a2).f0, (rd_T26 l0 a2).f1⟩ : S26)).set (a2 : Int).toNat (⟨(rd_T26 l0 a1).f0, (rd_T26 l0 a1).f1⟩ : S26) : List (S26))).bind fun y156 => ((xmp_Share.f kj5 y156 a2 a3).bind fun t157 => (if t157 = t148 then ((xmp_Share.f kj5 y156 a1 a3).bind fun t158 => (fourinhandlaw15_XmpShare.j1 kj5 l0 a1 a2 t148 t149 (t158 != t149))) else (fourinhandlaw15_XmpShare.j1 kj5 l0 a1 a2 t148 t149 true)))) else (none)) else (none)) else (none)) else (none)) else (none)) else (none))) else (none))) = some r := H
        have A14 := Aside0.mk A140
        clear A140
        replace H := Option.bind_eq_some_iff.mp H
        obtain ⟨t149, A150, H⟩ := H
        replace H : (if ([] : List (S26)).length + l0.length < 8796093022208 then ((some (([] : List (S26)) ++ l0 : List (S26))).bind fun y150 => (if 0 ≤ a2 then (if a2 < (l0.length : Int) then (if 0 ≤ a1 then (if a1 < (y150.length : Int) then (if a1 < (l0.length : Int) then (if a2 < (y150.length : Int) then ((some ((y150.set (a1 : Int).toNat (⟨(rd_T26 l0 a2).f0, (rd_T26 l0 a2).f1⟩ : S26)).set (a2 : Int).toNat (⟨(rd_T26 l0 a1).f0, (rd_T26 l0 a1).f1⟩ : S26) : List (S26))).bind fun y156 => ((xmp_Share.f kj5 y156 a2 a3).bind fun t157 => (if t157 = t148 then ((xmp_Share.f kj5 y156 a1 a3).bind fun t158 => (fourinhandlaw15_XmpShare.j1 kj5 l0 a1 a2 t148 t149 (t158 != t149))) else (fourinhandlaw15_XmpShare.j1 kj5 l0 a1 a2 t148 t149 true)))) else (none)) else (none)) else (none)) else (none)) else (none)) else (none))) else (none)) = some r := H
        have A15 := Aside0.mk A150
        clear A150
        by_cases c16 : ([] : List (S26)).length + l0.length < 8796093022208
        · rw [if_pos c16] at H
          have LMc16 := Aside0.mk c16
          clear c16
          obtain ⟨y150, hy150⟩ : ∃ y_ : List (S26), y_ = (([] : List (S26)) ++ l0) := ⟨_, rfl⟩
          replace H : (if 0 ≤ a2 then (if a2 < (l0.length : Int) then (if 0 ≤ a1 then (if a1 < (y150.length : Int) then (if a1 < (l0.length : Int) then (if a2 < (y150.length : Int) then ((some ((y150.set (a1 : Int).toNat (⟨(rd_T26 l0 a2).f0, (rd_T26 l0 a2).f1⟩ : S26)).set (a2 : Int).toNat (⟨(rd_T26 l0 a1).f0, (rd_T26 l0 a1).f1⟩ : S26) : List (S26))).bind fun y156 => ((xmp_Share.f kj5 y156 a2 a3).bind fun t157 => (if t157 = t148 then ((xmp_Share.f kj5 y156 a1 a3).bind fun t158 => (fourinhandlaw15_XmpShare.j1 kj5 l0 a1 a2 t148 t149 (t158 != t149))) else (fourinhandlaw15_XmpShare.j1 kj5 l0 a1 a2 t148 t149 true)))) else (none)) else (none)) else (none)) else (none)) else (none)) else (none)) = some r := by first | (rw [hy150]; with_reducible exact H) | (have H2_ := (Option.bind_some _ _).symm.trans H; rw [hy150]; with_reducible exact H2_) | (have H2_ := (Option.bind_some _ _).symm.trans H; with_reducible exact H2_) | with_reducible exact H | (rw [hy150]; exact H) | exact H
          have Ny150 := Aside0.mk hy150
          clear hy150
          by_cases c17 : 0 ≤ a2
          · rw [if_pos c17] at H
            have c17b0 : decide (0 ≤ a2) = true := decide_eq_true c17
            clear c17
            by_cases c18 : a2 < (l0.length : Int)
            · rw [if_pos c18] at H
              have c18b0 : decide (a2 < (l0.length : Int)) = true := decide_eq_true c18
              clear c18
              by_cases c19 : 0 ≤ a1
              · rw [if_pos c19] at H
                have c19b0 : decide (0 ≤ a1) = true := decide_eq_true c19
                clear c19
                by_cases c20 : a1 < (y150.length : Int)
                · rw [if_pos c20] at H
                  have c20b0 : decide (a1 < (y150.length : Int)) = true := decide_eq_true c20
                  clear c20
                  obtain ⟨y154, hy154⟩ : ∃ y_ : List (S26), y_ = (y150.set (a1 : Int).toNat (⟨(rd_T26 l0 a2).f0, (rd_T26 l0 a2).f1⟩ : S26)) := ⟨_, rfl⟩
                  replace H : (if a1 < (l0.length : Int) then (if a2 < (y150.length : Int) then ((some (y154.set (a2 : Int).toNat (⟨(rd_T26 l0 a1).f0, (rd_T26 l0 a1).f1⟩ : S26) : List (S26))).bind fun y156 => ((xmp_Share.f kj5 y156 a2 a3).bind fun t157 => (if t157 = t148 then ((xmp_Share.f kj5 y156 a1 a3).bind fun t158 => (fourinhandlaw15_XmpShare.j1 kj5 l0 a1 a2 t148 t149 (t158 != t149))) else (fourinhandlaw15_XmpShare.j1 kj5 l0 a1 a2 t148 t149 true)))) else (none)) else (none)) = some r := by first | (rw [hy154]; with_reducible exact H) | (have H2_ := (Option.bind_some _ _).symm.trans H; rw [hy154]; with_reducible exact H2_) | (have H2_ := (Option.bind_some _ _).symm.trans H; with_reducible exact H2_) | with_reducible exact H | (rw [hy154]; exact H) | exact H
                  have Ny154 := Aside0.mk hy154
                  clear hy154
                  by_cases c22 : a1 < (l0.length : Int)
                  · rw [if_pos c22] at H
                    have c22b0 : decide (a1 < (l0.length : Int)) = true := decide_eq_true c22
                    clear c22
                    by_cases c23 : a2 < (y150.length : Int)
                    · rw [if_pos c23] at H
                      have c23b0 : decide (a2 < (y150.length : Int)) = true := decide_eq_true c23
                      clear c23
                      obtain ⟨y156, hy156⟩ : ∃ y_ : List (S26), y_ = (y154.set (a2 : Int).toNat (⟨(rd_T26 l0 a1).f0, (rd_T26 l0 a1).f1⟩ : S26)) := ⟨_, rfl⟩
                      replace H : ((xmp_Share.f kj5 y156 a2 a3).bind fun t157 => (if t157 = t148 then ((xmp_Share.f kj5 y156 a1 a3).bind fun t158 => (fourinhandlaw15_XmpShare.j1 kj5 l0 a1 a2 t148 t149 (t158 != t149))) else (fourinhandlaw15_XmpShare.j1 kj5 l0 a1 a2 t148 t149 true))) = some r := by first | (rw [hy156]; with_reducible exact H) | (have H2_ := (Option.bind_some _ _).symm.trans H; rw [hy156]; with_reducible exact H2_) | (have H2_ := (Option.bind_some _ _).symm.trans H; with_reducible exact H2_) | with_reducible exact H | (rw [hy156]; exact H) | exact H
                      have Ny156 := Aside0.mk hy156
                      clear hy156
                      have HC25 := Aside0.mk H
                      clear H
                      go_upto_region 9 with (first | (go_at_call 10; (with_reducible refine (xmp_Share.calls kj5 _ _ l0 a1 a3 t148 _ ?side1 ?side2 A14.out).mono ?_); (case side1 => repeat (first | exact (Kd.C_below HR0.out HB.out) | (with_reducible refine Kd.C_alloc ?_ _) | (with_reducible refine Kd.C_drewN ?_ _) | (with_reducible refine Kd.C_drew ?_))); (case side2 => exact HC0.out); rintro e w26 ⟨rfl, hb⟩; have n0_ := Aside0.mk (below_step (by repeat (first | (with_reducible first | exact HB.out | apply below_alloc | apply pw_below_drewN | apply below_drew1) | exact HB.out)) hb); clear HB; have HB := n0_; clear n0_; (try clear hb); (try clear hb2); (try clear hk); (try clear hi)) | (go_at_call 10; (with_reducible refine (xmp_Share.calls kj5 _ _ l0 a2 a3 t149 _ ?side1 ?side2 A15.out).mono ?_); (case side1 => repeat (first | exact (Kd.C_below HR0.out HB.out) | (with_reducible refine Kd.C_alloc ?_ _) | (with_reducible refine Kd.C_drewN ?_ _) | (with_reducible refine Kd.C_drew ?_))); (case side2 => exact HC0.out); rintro e w27 ⟨rfl, hb⟩; have n0_ := Aside0.mk (below_step (by repeat (first | (with_reducible first | exact HB.out | apply below_alloc | apply pw_below_drewN | apply below_drew1) | exact HB.out)) hb); clear HB; have HB := n0_; clear n0_; (try clear hb); (try clear hb2); (try clear hk); (try clear hi)) | ((with_reducible refine gate_builtin (b := .append) (xs := #[.const (.slice none 0 0), .tmp 51]) rfl ?_); (try (refine gate_guard (by rfl) ?_; dsimp only)); at_builtin; refine Kd.R_append_rows k26 (w0 := w) w.heap.size rfl (.const (.slice none 0 0)) (.tmp 51) 22 26 (.agg #[(.int .i64 0), (.int .i64 0)]) 16 rfl Try.underlying22 info26 rfl (by decide) (by omega) (.slice none 0 0) ([] : List (S26)) l0 _ _ _ (fun _ => True) (fun _ => False) rfl rfl ?aO ?aR (fun _ _ h => h) (fun _ h => h.elim) ?aF ?aB ?aS ?aL ?_; (case aR => repeat (first | exact (Kd.C_below HR0.out HB.out) | (with_reducible refine Kd.C_alloc ?_ _) | (with_reducible refine Kd.C_drewN ?_ _) | (with_reducible refine Kd.C_drew ?_))); (case aB => exact (by repeat (first | (with_reducible first | exact HB.out | apply below_alloc | apply pw_below_drewN | apply below_drew1) | exact HB.out))); (case aF => exact (fun _ _ => trivial)); (case aO => exact ((Kd.R_nil _ _ _ _ (fun _ => True)))); (case aS => exact (below_size (by repeat (first | (with_reducible first | exact HB.out | apply below_alloc | apply pw_below_drewN | apply below_drew1) | exact HB.out)))); (case aL => have := LMc16.out; omega); intro v151 w28 ho hb hg hat; rw [← Ny150.out] at ho; have n0_ := Aside0.mk (hb); have n1_ := Aside0.mk (ho); clear HB; have HB := n0_; have HO152 := n1_; clear n0_ n1_; clear ho hb hg hat; have p153 : 0 ≤ (a2 : Int) := of_decide_eq_true (by first | (with_reducible assumption) | assumption); have q153 : a2 < (l0.length : Int) := of_decide_eq_true (by first | (with_reducible assumption) | assumption); obtain ⟨ad153, e153, hx153_0, hx153_1⟩ := at_T26 HR0.out a2 p153 q153; cases e153; replace hx153_0 := (HB.out.cell (World.block_lt_of_cell? w _ hx153_0)).trans hx153_0; replace hx153_1 := (HB.out.cell (World.block_lt_of_cell? w _ hx153_1)).trans hx153_1; replace p153 := eq_true p153; replace q153 := eq_true q153; have p21 : 0 ≤ (a1 : Int) := of_decide_eq_true (by first | (with_reducible assumption) | assumption); have q21 : (a1 : Int) < ((y150.length : Int) : Int) := of_decide_eq_true (by first | (with_reducible assumption) | assumption); obtain ⟨go21, co21, eo21, gb21, gl21, cl21, HG21⟩ := Kd.R_form HO152.out (by omega); (first | cases eo21 | (injection eo21 with ea_ en_ ec_; (first | subst ea_ | (injection ea_ with ea_; subst ea_)); subst ec_; clear en_)); have GB21 := Aside0.mk gb21; have GG21 := Aside0.mk HG21; clear gb21 gl21 HG21; obtain ⟨ce21, hcl21, hM21, hcc21, hfr21⟩ := Kd.R_elem HO152.out z26 (a1 : Int) p21 q21; obtain rfl := k26_openM hM21; have hx21_0 : w28.cell? ⟨go21, (a1 : Int).toNat * 2, none⟩ = some (.int .i64 ((rd_T26 y150 a1).f0)) := hcc21 0 _ rfl; have hx21_1 : w28.cell? ⟨go21, (a1 : Int).toNat * 2 + 1, none⟩ = some (.int .i64 ((rd_T26 y150 a1).f1)) := hcc21 1 _ rfl; have hf21_0 : w28.frozen? ⟨go21, (a1 : Int).toNat * 2, none⟩ = false := hfr21 0; have hf21_1 : w28.frozen? ⟨go21, (a1 : Int).toNat * 2 + 1, none⟩ = false := hfr21 1; clear hcl21 hcc21 hfr21 hM21; replace p21 := eq_true p21; replace q21 := eq_true q21; have HX29 := Aside0.mk (show Kd.R k26 26 w28 w.heap.size (fun _ => True) (.slice (some ⟨go21, 0, none⟩) y150.length co21) y150 from (by (with_reducible repeat (first | apply Kd.R_alloc | apply Kd.R_drewN | apply Kd.R_drew)); exact HO152.out)); obtain ⟨ce29, hcl29, hM29, hcc29, hfr29⟩ := Kd.R_elem HX29.out z26 (a1 : Int) (of_decide_eq_true (by first | (with_reducible assumption) | assumption)) (by have h_ : (a1 : Int) < ((y150.length : Int) : Int) := of_decide_eq_true (by first | (with_reducible assumption) | assumption); first | exact h_ | (have e_ := (Kd.R_reads' HO152.out).1; omega) | simpa using h_); obtain rfl := k26_openM hM29; have HP29 := Kd.R_seg HX29.out (a1 : Int) (of_decide_eq_true (by first | (with_reducible assumption) | assumption)) (by have h_ : (a1 : Int) < ((y150.length : Int) : Int) := of_decide_eq_true (by first | (with_reducible assumption) | assumption); first | exact h_ | (have e_ := (Kd.R_reads' HO152.out).1; omega) | simpa using h_) (seg := [.int .i64 ((rd_T26 l0 a2).f0), .int .i64 ((rd_T26 l0 a2).f1)]) (j := 0) hcl29 hcc29 (show 2 ≤ 2 from by decide) (x' := (⟨(rd_T26 l0 a2).f0, (rd_T26 l0 a2).f1⟩ : S26)) (k26_mkM _ _ _ (⟨(rd_T26 l0 a2).f0, (rd_T26 l0 a2).f1⟩ : S26) ) (fun _ hk => hk); have hx29_0 := hcc29 0 _ rfl; (try simp only [show (k26).sz = 2 from rfl, Nat.mul_one, Nat.add_zero] at hx29_0); have hf29_0 := hfr29 0; (try simp only [show (k26).sz = 2 from rfl, Nat.mul_one, Nat.add_zero] at hf29_0); have hx29_1 := hcc29 1 _ rfl; (try simp only [show (k26).sz = 2 from rfl, Nat.mul_one, Nat.add_zero] at hx29_1); have hf29_1 := hfr29 1; (try simp only [show (k26).sz = 2 from rfl, Nat.mul_one, Nat.add_zero] at hf29_1); clear hcl29 hcc29 hfr29 hM29) | ((with_reducible refine gate_store (t := 26) (p := 59) rfl ?_); (try (rw [drewN_self w28]; generalize hq_ : World.drewN w28 _ = w28; have n0_ := Aside0.mk (Kd.R_at hq_ HO152.out); have n1_ := Aside0.mk (below_at hq_ HB.out); clear hq_ HO152 HB; have HO152 := n0_; have HB := n1_; clear n0_ n1_; (try (have HX29 := Aside0.mk (show Kd.R k26 26 w28 w.heap.size (fun _ => True) (.slice (some ⟨go21, 0, none⟩) y150.length co21) y150 from (by (with_reducible repeat (first | apply Kd.R_alloc | apply Kd.R_drewN | apply Kd.R_drew)); exact HO152.out)))); (try (obtain ⟨ce29, hcl29, hM29, hcc29, hfr29⟩ := Kd.R_elem HX29.out z26 (a1 : Int) (of_decide_eq_true (by first | (with_reducible assumption) | assumption)) (by have h_ : (a1 : Int) < ((y150.length : Int) : Int) := of_decide_eq_true (by first | (with_reducible assumption) | assumption); first | exact h_ | (have e_ := (Kd.R_reads' HO152.out).1; omega) | simpa using h_))); (try (obtain rfl := k26_openM hM29)); (try (have HP29 := Kd.R_seg HX29.out (a1 : Int) (of_decide_eq_true (by first | (with_reducible assumption) | assumption)) (by have h_ : (a1 : Int) < ((y150.length : Int) : Int) := of_decide_eq_true (by first | (with_reducible assumption) | assumption); first | exact h_ | (have e_ := (Kd.R_reads' HO152.out).1; omega) | simpa using h_) (seg := [.int .i64 ((rd_T26 l0 a2).f0), .int .i64 ((rd_T26 l0 a2).f1)]) (j := 0) hcl29 hcc29 (show 2 ≤ 2 from by decide) (x' := (⟨(rd_T26 l0 a2).f0, (rd_T26 l0 a2).f1⟩ : S26)) (k26_mkM _ _ _ (⟨(rd_T26 l0 a2).f0, (rd_T26 l0 a2).f1⟩ : S26) ) (fun _ hk => hk))); (try (have hx29_0 := hcc29 0 _ rfl)); (try (try simp only [show (k26).sz = 2 from rfl, Nat.mul_one, Nat.add_zero] at hx29_0)); (try (have hf29_0 := hfr29 0)); (try (try simp only [show (k26).sz = 2 from rfl, Nat.mul_one, Nat.add_zero] at hf29_0)); (try (have hx29_1 := hcc29 1 _ rfl)); (try (try simp only [show (k26).sz = 2 from rfl, Nat.mul_one, Nat.add_zero] at hx29_1)); (try (have hf29_1 := hfr29 1)); (try (try simp only [show (k26).sz = 2 from rfl, Nat.mul_one, Nat.add_zero] at hf29_1)); (try (clear hcl29 hcc29 hfr29 hM29)))); refine store_event (t := 26) (p := 59) (v := ?vo_w30) (w1 := ((w28.setCell ⟨go21, (a1 : Int).toNat * 2, none⟩ (.int .i64 ((rd_T26 l0 a2).f0))).setCell ⟨go21, (a1 : Int).toNat * 2 + 1, none⟩ (.int .i64 ((rd_T26 l0 a2).f1)))) ?hg ?ho ?hn ?hr ?_; (case ho => rfl); (case hg => rfl); (case hn => rfl); (case hr => first | (go_simp; done) | (go_simp; rfl)); intro w30 hw; have hg : w28.grownBy w30 (some go21) := (by rw [hw]; exact HP29.2); have hp_ : Kd.R k26 26 w30 w.heap.size (fun _ => True) (.slice (some ⟨go21, 0, none⟩) y150.length co21) y154 := (by rw [hw, Ny154.out]; exact HP29.1); clear HP29; have n0_ := Aside0.mk (hp_); have n1_ := Aside0.mk ((by rw [hw]; exact below_set (below_set (HB.out) GB21.out) GB21.out : Below w.heap.size w w30)); clear HO152; clear HB; have HO152 := n0_; have HB := n1_; clear n0_ n1_; clear hg hw hp_; have p155 : 0 ≤ (a1 : Int) := of_decide_eq_true (by first | (with_reducible assumption) | assumption); have q155 : a1 < (l0.length : Int) := of_decide_eq_true (by first | (with_reducible assumption) | assumption); obtain ⟨ad155, e155, hx155_0, hx155_1⟩ := at_T26 HR0.out a1 p155 q155; obtain rfl : ad153 = ad155 := (by injection e155); replace hx155_0 := (HB.out.cell (World.block_lt_of_cell? w _ hx155_0)).trans hx155_0; replace hx155_1 := (HB.out.cell (World.block_lt_of_cell? w _ hx155_1)).trans hx155_1; replace p155 := eq_true p155; replace q155 := eq_true q155; have p24 : 0 ≤ (a2 : Int) := of_decide_eq_true (by first | (with_reducible assumption) | assumption); have q24 : (a2 : Int) < ((y150.length : Int) : Int) := of_decide_eq_true (by first | (with_reducible assumption) | assumption); obtain ⟨ce24, hcl24, hM24, hcc24, hfr24⟩ := Kd.R_elem HO152.out z26 (a2 : Int) p24 q24; obtain rfl := k26_openM hM24; have hx24_0 : w30.cell? ⟨go21, (a2 : Int).toNat * 2, none⟩ = some (.int .i64 ((rd_T26 y154 a2).f0)) := hcc24 0 _ rfl; have hx24_1 : w30.cell? ⟨go21, (a2 : Int).toNat * 2 + 1, none⟩ = some (.int .i64 ((rd_T26 y154 a2).f1)) := hcc24 1 _ rfl; have hf24_0 : w30.frozen? ⟨go21, (a2 : Int).toNat * 2, none⟩ = false := hfr24 0; have hf24_1 : w30.frozen? ⟨go21, (a2 : Int).toNat * 2 + 1, none⟩ = false := hfr24 1; clear hcl24 hcc24 hfr24 hM24; replace p24 := eq_true p24; replace q24 := eq_true q24; have HX31 := Aside0.mk (show Kd.R k26 26 w30 w.heap.size (fun _ => True) (.slice (some ⟨go21, 0, none⟩) y150.length co21) y154 from (by (with_reducible repeat (first | apply Kd.R_alloc | apply Kd.R_drewN | apply Kd.R_drew)); exact HO152.out)); obtain ⟨ce31, hcl31, hM31, hcc31, hfr31⟩ := Kd.R_elem HX31.out z26 (a2 : Int) (of_decide_eq_true (by first | (with_reducible assumption) | assumption)) (by have h_ : (a2 : Int) < ((y150.length : Int) : Int) := of_decide_eq_true (by first | (with_reducible assumption) | assumption); first | exact h_ | (have e_ := (Kd.R_reads' HO152.out).1; omega) | simpa using h_); obtain rfl := k26_openM hM31; have HP31 := Kd.R_seg HX31.out (a2 : Int) (of_decide_eq_true (by first | (with_reducible assumption) | assumption)) (by have h_ : (a2 : Int) < ((y150.length : Int) : Int) := of_decide_eq_true (by first | (with_reducible assumption) | assumption); first | exact h_ | (have e_ := (Kd.R_reads' HO152.out).1; omega) | simpa using h_) (seg := [.int .i64 ((rd_T26 l0 a1).f0), .int .i64 ((rd_T26 l0 a1).f1)]) (j := 0) hcl31 hcc31 (show 2 ≤ 2 from by decide) (x' := (⟨(rd_T26 l0 a1).f0, (rd_T26 l0 a1).f1⟩ : S26)) (k26_mkM _ _ _ (⟨(rd_T26 l0 a1).f0, (rd_T26 l0 a1).f1⟩ : S26) ) (fun _ hk => hk); have hx31_0 := hcc31 0 _ rfl; (try simp only [show (k26).sz = 2 from rfl, Nat.mul_one, Nat.add_zero] at hx31_0); have hf31_0 := hfr31 0; (try simp only [show (k26).sz = 2 from rfl, Nat.mul_one, Nat.add_zero] at hf31_0); have hx31_1 := hcc31 1 _ rfl; (try simp only [show (k26).sz = 2 from rfl, Nat.mul_one, Nat.add_zero] at hx31_1); have hf31_1 := hfr31 1; (try simp only [show (k26).sz = 2 from rfl, Nat.mul_one, Nat.add_zero] at hf31_1); clear hcl31 hcc31 hfr31 hM31) | ((with_reducible refine gate_store (t := 26) (p := 66) rfl ?_); (try (rw [drewN_self w30]; generalize hq_ : World.drewN w30 _ = w30; have n0_ := Aside0.mk (Kd.R_at hq_ HO152.out); have n1_ := Aside0.mk (below_at hq_ HB.out); clear hq_ HO152 HB; have HO152 := n0_; have HB := n1_; clear n0_ n1_; (try (have HX31 := Aside0.mk (show Kd.R k26 26 w30 w.heap.size (fun _ => True) (.slice (some ⟨go21, 0, none⟩) y150.length co21) y154 from (by (with_reducible repeat (first | apply Kd.R_alloc | apply Kd.R_drewN | apply Kd.R_drew)); exact HO152.out)))); (try (obtain ⟨ce31, hcl31, hM31, hcc31, hfr31⟩ := Kd.R_elem HX31.out z26 (a2 : Int) (of_decide_eq_true (by first | (with_reducible assumption) | assumption)) (by have h_ : (a2 : Int) < ((y150.length : Int) : Int) := of_decide_eq_true (by first | (with_reducible assumption) | assumption); first | exact h_ | (have e_ := (Kd.R_reads' HO152.out).1; omega) | simpa using h_))); (try (obtain rfl := k26_openM hM31)); (try (have HP31 := Kd.R_seg HX31.out (a2 : Int) (of_decide_eq_true (by first | (with_reducible assumption) | assumption)) (by have h_ : (a2 : Int) < ((y150.length : Int) : Int) := of_decide_eq_true (by first | (with_reducible assumption) | assumption); first | exact h_ | (have e_ := (Kd.R_reads' HO152.out).1; omega) | simpa using h_) (seg := [.int .i64 ((rd_T26 l0 a1).f0), .int .i64 ((rd_T26 l0 a1).f1)]) (j := 0) hcl31 hcc31 (show 2 ≤ 2 from by decide) (x' := (⟨(rd_T26 l0 a1).f0, (rd_T26 l0 a1).f1⟩ : S26)) (k26_mkM _ _ _ (⟨(rd_T26 l0 a1).f0, (rd_T26 l0 a1).f1⟩ : S26) ) (fun _ hk => hk))); (try (have hx31_0 := hcc31 0 _ rfl)); (try (try simp only [show (k26).sz = 2 from rfl, Nat.mul_one, Nat.add_zero] at hx31_0)); (try (have hf31_0 := hfr31 0)); (try (try simp only [show (k26).sz = 2 from rfl, Nat.mul_one, Nat.add_zero] at hf31_0)); (try (have hx31_1 := hcc31 1 _ rfl)); (try (try simp only [show (k26).sz = 2 from rfl, Nat.mul_one, Nat.add_zero] at hx31_1)); (try (have hf31_1 := hfr31 1)); (try (try simp only [show (k26).sz = 2 from rfl, Nat.mul_one, Nat.add_zero] at hf31_1)); (try (clear hcl31 hcc31 hfr31 hM31)))); refine store_event (t := 26) (p := 66) (v := ?vo_w32) (w1 := ((w30.setCell ⟨go21, (a2 : Int).toNat * 2, none⟩ (.int .i64 ((rd_T26 l0 a1).f0))).setCell ⟨go21, (a2 : Int).toNat * 2 + 1, none⟩ (.int .i64 ((rd_T26 l0 a1).f1)))) ?hg ?ho ?hn ?hr ?_; (case ho => rfl); (case hg => rfl); (case hn => rfl); (case hr => first | (go_simp; done) | (go_simp; rfl)); intro w32 hw; have hg : w30.grownBy w32 (some go21) := (by rw [hw]; exact HP31.2); have hp_ : Kd.R k26 26 w32 w.heap.size (fun _ => True) (.slice (some ⟨go21, 0, none⟩) y150.length co21) y156 := (by rw [hw, Ny156.out]; exact HP31.1); clear HP31; have n0_ := Aside0.mk (hp_); have n1_ := Aside0.mk ((by rw [hw]; exact below_set (below_set (HB.out) GB21.out) GB21.out : Below w.heap.size w w32)); clear HO152; clear HB; have HO152 := n0_; have HB := n1_; clear n0_ n1_; clear hg hw hp_))
                      repeat (go_quiet (first | (go_at_call 10; (with_reducible refine (xmp_Share.calls kj5 _ _ l0 a1 a3 t148 _ ?side1 ?side2 A14.out).mono ?_); (case side1 => repeat (first | exact (Kd.C_below HR0.out HB.out) | (with_reducible refine Kd.C_alloc ?_ _) | (with_reducible refine Kd.C_drewN ?_ _) | (with_reducible refine Kd.C_drew ?_))); (case side2 => exact HC0.out); rintro e w26 ⟨rfl, hb⟩; have n0_ := Aside0.mk (below_step (by repeat (first | (with_reducible first | exact HB.out | apply below_alloc | apply pw_below_drewN | apply below_drew1) | exact HB.out)) hb); clear HB; have HB := n0_; clear n0_; (try clear hb); (try clear hb2); (try clear hk); (try clear hi)) | (go_at_call 10; (with_reducible refine (xmp_Share.calls kj5 _ _ l0 a2 a3 t149 _ ?side1 ?side2 A15.out).mono ?_); (case side1 => repeat (first | exact (Kd.C_below HR0.out HB.out) | (with_reducible refine Kd.C_alloc ?_ _) | (with_reducible refine Kd.C_drewN ?_ _) | (with_reducible refine Kd.C_drew ?_))); (case side2 => exact HC0.out); rintro e w27 ⟨rfl, hb⟩; have n0_ := Aside0.mk (below_step (by repeat (first | (with_reducible first | exact HB.out | apply below_alloc | apply pw_below_drewN | apply below_drew1) | exact HB.out)) hb); clear HB; have HB := n0_; clear n0_; (try clear hb); (try clear hb2); (try clear hk); (try clear hi)) | ((with_reducible refine gate_builtin (b := .append) (xs := #[.const (.slice none 0 0), .tmp 51]) rfl ?_); (try (refine gate_guard (by rfl) ?_; dsimp only)); at_builtin; refine Kd.R_append_rows k26 (w0 := w) w.heap.size rfl (.const (.slice none 0 0)) (.tmp 51) 22 26 (.agg #[(.int .i64 0), (.int .i64 0)]) 16 rfl Try.underlying22 info26 rfl (by decide) (by omega) (.slice none 0 0) ([] : List (S26)) l0 _ _ _ (fun _ => True) (fun _ => False) rfl rfl ?aO ?aR (fun _ _ h => h) (fun _ h => h.elim) ?aF ?aB ?aS ?aL ?_; (case aR => repeat (first | exact (Kd.C_below HR0.out HB.out) | (with_reducible refine Kd.C_alloc ?_ _) | (with_reducible refine Kd.C_drewN ?_ _) | (with_reducible refine Kd.C_drew ?_))); (case aB => exact (by repeat (first | (with_reducible first | exact HB.out | apply below_alloc | apply pw_below_drewN | apply below_drew1) | exact HB.out))); (case aF => exact (fun _ _ => trivial)); (case aO => exact ((Kd.R_nil _ _ _ _ (fun _ => True)))); (case aS => exact (below_size (by repeat (first | (with_reducible first | exact HB.out | apply below_alloc | apply pw_below_drewN | apply below_drew1) | exact HB.out)))); (case aL => have := LMc16.out; omega); intro v151 w28 ho hb hg hat; rw [← Ny150.out] at ho; have n0_ := Aside0.mk (hb); have n1_ := Aside0.mk (ho); clear HB; have HB := n0_; have HO152 := n1_; clear n0_ n1_; clear ho hb hg hat; have p153 : 0 ≤ (a2 : Int) := of_decide_eq_true (by first | (with_reducible assumption) | assumption); have q153 : a2 < (l0.length : Int) := of_decide_eq_true (by first | (with_reducible assumption) | assumption); obtain ⟨ad153, e153, hx153_0, hx153_1⟩ := at_T26 HR0.out a2 p153 q153; cases e153; replace hx153_0 := (HB.out.cell (World.block_lt_of_cell? w _ hx153_0)).trans hx153_0; replace hx153_1 := (HB.out.cell (World.block_lt_of_cell? w _ hx153_1)).trans hx153_1; replace p153 := eq_true p153; replace q153 := eq_true q153; have p21 : 0 ≤ (a1 : Int) := of_decide_eq_true (by first | (with_reducible assumption) | assumption); have q21 : (a1 : Int) < ((y150.length : Int) : Int) := of_decide_eq_true (by first | (with_reducible assumption) | assumption); obtain ⟨go21, co21, eo21, gb21, gl21, cl21, HG21⟩ := Kd.R_form HO152.out (by omega); (first | cases eo21 | (injection eo21 with ea_ en_ ec_; (first | subst ea_ | (injection ea_ with ea_; subst ea_)); subst ec_; clear en_)); have GB21 := Aside0.mk gb21; have GG21 := Aside0.mk HG21; clear gb21 gl21 HG21; obtain ⟨ce21, hcl21, hM21, hcc21, hfr21⟩ := Kd.R_elem HO152.out z26 (a1 : Int) p21 q21; obtain rfl := k26_openM hM21; have hx21_0 : w28.cell? ⟨go21, (a1 : Int).toNat * 2, none⟩ = some (.int .i64 ((rd_T26 y150 a1).f0)) := hcc21 0 _ rfl; have hx21_1 : w28.cell? ⟨go21, (a1 : Int).toNat * 2 + 1, none⟩ = some (.int .i64 ((rd_T26 y150 a1).f1)) := hcc21 1 _ rfl; have hf21_0 : w28.frozen? ⟨go21, (a1 : Int).toNat * 2, none⟩ = false := hfr21 0; have hf21_1 : w28.frozen? ⟨go21, (a1 : Int).toNat * 2 + 1, none⟩ = false := hfr21 1; clear hcl21 hcc21 hfr21 hM21; replace p21 := eq_true p21; replace q21 := eq_true q21; have HX29 := Aside0.mk (show Kd.R k26 26 w28 w.heap.size (fun _ => True) (.slice (some ⟨go21, 0, none⟩) y150.length co21) y150 from (by (with_reducible repeat (first | apply Kd.R_alloc | apply Kd.R_drewN | apply Kd.R_drew)); exact HO152.out)); obtain ⟨ce29, hcl29, hM29, hcc29, hfr29⟩ := Kd.R_elem HX29.out z26 (a1 : Int) (of_decide_eq_true (by first | (with_reducible assumption) | assumption)) (by have h_ : (a1 : Int) < ((y150.length : Int) : Int) := of_decide_eq_true (by first | (with_reducible assumption) | assumption); first | exact h_ | (have e_ := (Kd.R_reads' HO152.out).1; omega) | simpa using h_); obtain rfl := k26_openM hM29; have HP29 := Kd.R_seg HX29.out (a1 : Int) (of_decide_eq_true (by first | (with_reducible assumption) | assumption)) (by have h_ : (a1 : Int) < ((y150.length : Int) : Int) := of_decide_eq_true (by first | (with_reducible assumption) | assumption); first | exact h_ | (have e_ := (Kd.R_reads' HO152.out).1; omega) | simpa using h_) (seg := [.int .i64 ((rd_T26 l0 a2).f0), .int .i64 ((rd_T26 l0 a2).f1)]) (j := 0) hcl29 hcc29 (show 2 ≤ 2 from by decide) (x' := (⟨(rd_T26 l0 a2).f0, (rd_T26 l0 a2).f1⟩ : S26)) (k26_mkM _ _ _ (⟨(rd_T26 l0 a2).f0, (rd_T26 l0 a2).f1⟩ : S26) ) (fun _ hk => hk); have hx29_0 := hcc29 0 _ rfl; (try simp only [show (k26).sz = 2 from rfl, Nat.mul_one, Nat.add_zero] at hx29_0); have hf29_0 := hfr29 0; (try simp only [show (k26).sz = 2 from rfl, Nat.mul_one, Nat.add_zero] at hf29_0); have hx29_1 := hcc29 1 _ rfl; (try simp only [show (k26).sz = 2 from rfl, Nat.mul_one, Nat.add_zero] at hx29_1); have hf29_1 := hfr29 1; (try simp only [show (k26).sz = 2 from rfl, Nat.mul_one, Nat.add_zero] at hf29_1); clear hcl29 hcc29 hfr29 hM29) | ((with_reducible refine gate_store (t := 26) (p := 59) rfl ?_); (try (rw [drewN_self w28]; generalize hq_ : World.drewN w28 _ = w28; have n0_ := Aside0.mk (Kd.R_at hq_ HO152.out); have n1_ := Aside0.mk (below_at hq_ HB.out); clear hq_ HO152 HB; have HO152 := n0_; have HB := n1_; clear n0_ n1_; (try (have HX29 := Aside0.mk (show Kd.R k26 26 w28 w.heap.size (fun _ => True) (.slice (some ⟨go21, 0, none⟩) y150.length co21) y150 from (by (with_reducible repeat (first | apply Kd.R_alloc | apply Kd.R_drewN | apply Kd.R_drew)); exact HO152.out)))); (try (obtain ⟨ce29, hcl29, hM29, hcc29, hfr29⟩ := Kd.R_elem HX29.out z26 (a1 : Int) (of_decide_eq_true (by first | (with_reducible assumption) | assumption)) (by have h_ : (a1 : Int) < ((y150.length : Int) : Int) := of_decide_eq_true (by first | (with_reducible assumption) | assumption); first | exact h_ | (have e_ := (Kd.R_reads' HO152.out).1; omega) | simpa using h_))); (try (obtain rfl := k26_openM hM29)); (try (have HP29 := Kd.R_seg HX29.out (a1 : Int) (of_decide_eq_true (by first | (with_reducible assumption) | assumption)) (by have h_ : (a1 : Int) < ((y150.length : Int) : Int) := of_decide_eq_true (by first | (with_reducible assumption) | assumption); first | exact h_ | (have e_ := (Kd.R_reads' HO152.out).1; omega) | simpa using h_) (seg := [.int .i64 ((rd_T26 l0 a2).f0), .int .i64 ((rd_T26 l0 a2).f1)]) (j := 0) hcl29 hcc29 (show 2 ≤ 2 from by decide) (x' := (⟨(rd_T26 l0 a2).f0, (rd_T26 l0 a2).f1⟩ : S26)) (k26_mkM _ _ _ (⟨(rd_T26 l0 a2).f0, (rd_T26 l0 a2).f1⟩ : S26) ) (fun _ hk => hk))); (try (have hx29_0 := hcc29 0 _ rfl)); (try (try simp only [show (k26).sz = 2 from rfl, Nat.mul_one, Nat.add_zero] at hx29_0)); (try (have hf29_0 := hfr29 0)); (try (try simp only [show (k26).sz = 2 from rfl, Nat.mul_one, Nat.add_zero] at hf29_0)); (try (have hx29_1 := hcc29 1 _ rfl)); (try (try simp only [show (k26).sz = 2 from rfl, Nat.mul_one, Nat.add_zero] at hx29_1)); (try (have hf29_1 := hfr29 1)); (try (try simp only [show (k26).sz = 2 from rfl, Nat.mul_one, Nat.add_zero] at hf29_1)); (try (clear hcl29 hcc29 hfr29 hM29)))); refine store_event (t := 26) (p := 59) (v := ?vo_w30) (w1 := ((w28.setCell ⟨go21, (a1 : Int).toNat * 2, none⟩ (.int .i64 ((rd_T26 l0 a2).f0))).setCell ⟨go21, (a1 : Int).toNat * 2 + 1, none⟩ (.int .i64 ((rd_T26 l0 a2).f1)))) ?hg ?ho ?hn ?hr ?_; (case ho => rfl); (case hg => rfl); (case hn => rfl); (case hr => first | (go_simp; done) | (go_simp; rfl)); intro w30 hw; have hg : w28.grownBy w30 (some go21) := (by rw [hw]; exact HP29.2); have hp_ : Kd.R k26 26 w30 w.heap.size (fun _ => True) (.slice (some ⟨go21, 0, none⟩) y150.length co21) y154 := (by rw [hw, Ny154.out]; exact HP29.1); clear HP29; have n0_ := Aside0.mk (hp_); have n1_ := Aside0.mk ((by rw [hw]; exact below_set (below_set (HB.out) GB21.out) GB21.out : Below w.heap.size w w30)); clear HO152; clear HB; have HO152 := n0_; have HB := n1_; clear n0_ n1_; clear hg hw hp_; have p155 : 0 ≤ (a1 : Int) := of_decide_eq_true (by first | (with_reducible assumption) | assumption); have q155 : a1 < (l0.length : Int) := of_decide_eq_true (by first | (with_reducible assumption) | assumption); obtain ⟨ad155, e155, hx155_0, hx155_1⟩ := at_T26 HR0.out a1 p155 q155; obtain rfl : ad153 = ad155 := (by injection e155); replace hx155_0 := (HB.out.cell (World.block_lt_of_cell? w _ hx155_0)).trans hx155_0; replace hx155_1 := (HB.out.cell (World.block_lt_of_cell? w _ hx155_1)).trans hx155_1; replace p155 := eq_true p155; replace q155 := eq_true q155; have p24 : 0 ≤ (a2 : Int) := of_decide_eq_true (by first | (with_reducible assumption) | assumption); have q24 : (a2 : Int) < ((y150.length : Int) : Int) := of_decide_eq_true (by first | (with_reducible assumption) | assumption); obtain ⟨ce24, hcl24, hM24, hcc24, hfr24⟩ := Kd.R_elem HO152.out z26 (a2 : Int) p24 q24; obtain rfl := k26_openM hM24; have hx24_0 : w30.cell? ⟨go21, (a2 : Int).toNat * 2, none⟩ = some (.int .i64 ((rd_T26 y154 a2).f0)) := hcc24 0 _ rfl; have hx24_1 : w30.cell? ⟨go21, (a2 : Int).toNat * 2 + 1, none⟩ = some (.int .i64 ((rd_T26 y154 a2).f1)) := hcc24 1 _ rfl; have hf24_0 : w30.frozen? ⟨go21, (a2 : Int).toNat * 2, none⟩ = false := hfr24 0; have hf24_1 : w30.frozen? ⟨go21, (a2 : Int).toNat * 2 + 1, none⟩ = false := hfr24 1; clear hcl24 hcc24 hfr24 hM24; replace p24 := eq_true p24; replace q24 := eq_true q24; have HX31 := Aside0.mk (show Kd.R k26 26 w30 w.heap.size (fun _ => True) (.slice (some ⟨go21, 0, none⟩) y150.length co21) y154 from (by (with_reducible repeat (first | apply Kd.R_alloc | apply Kd.R_drewN | apply Kd.R_drew)); exact HO152.out)); obtain ⟨ce31, hcl31, hM31, hcc31, hfr31⟩ := Kd.R_elem HX31.out z26 (a2 : Int) (of_decide_eq_true (by first | (with_reducible assumption) | assumption)) (by have h_ : (a2 : Int) < ((y150.length : Int) : Int) := of_decide_eq_true (by first | (with_reducible assumption) | assumption); first | exact h_ | (have e_ := (Kd.R_reads' HO152.out).1; omega) | simpa using h_); obtain rfl := k26_openM hM31; have HP31 := Kd.R_seg HX31.out (a2 : Int) (of_decide_eq_true (by first | (with_reducible assumption) | assumption)) (by have h_ : (a2 : Int) < ((y150.length : Int) : Int) := of_decide_eq_true (by first | (with_reducible assumption) | assumption); first | exact h_ | (have e_ := (Kd.R_reads' HO152.out).1; omega) | simpa using h_) (seg := [.int .i64 ((rd_T26 l0 a1).f0), .int .i64 ((rd_T26 l0 a1).f1)]) (j := 0) hcl31 hcc31 (show 2 ≤ 2 from by decide) (x' := (⟨(rd_T26 l0 a1).f0, (rd_T26 l0 a1).f1⟩ : S26)) (k26_mkM _ _ _ (⟨(rd_T26 l0 a1).f0, (rd_T26 l0 a1).f1⟩ : S26) ) (fun _ hk => hk); have hx31_0 := hcc31 0 _ rfl; (try simp only [show (k26).sz = 2 from rfl, Nat.mul_one, Nat.add_zero] at hx31_0); have hf31_0 := hfr31 0; (try simp only [show (k26).sz = 2 from rfl, Nat.mul_one, Nat.add_zero] at hf31_0); have hx31_1 := hcc31 1 _ rfl; (try simp only [show (k26).sz = 2 from rfl, Nat.mul_one, Nat.add_zero] at hx31_1); have hf31_1 := hfr31 1; (try simp only [show (k26).sz = 2 from rfl, Nat.mul_one, Nat.add_zero] at hf31_1); clear hcl31 hcc31 hfr31 hM31) | ((with_reducible refine gate_store (t := 26) (p := 66) rfl ?_); (try (rw [drewN_self w30]; generalize hq_ : World.drewN w30 _ = w30; have n0_ := Aside0.mk (Kd.R_at hq_ HO152.out); have n1_ := Aside0.mk (below_at hq_ HB.out); clear hq_ HO152 HB; have HO152 := n0_; have HB := n1_; clear n0_ n1_; (try (have HX31 := Aside0.mk (show Kd.R k26 26 w30 w.heap.size (fun _ => True) (.slice (some ⟨go21, 0, none⟩) y150.length co21) y154 from (by (with_reducible repeat (first | apply Kd.R_alloc | apply Kd.R_drewN | apply Kd.R_drew)); exact HO152.out)))); (try (obtain ⟨ce31, hcl31, hM31, hcc31, hfr31⟩ := Kd.R_elem HX31.out z26 (a2 : Int) (of_decide_eq_true (by first | (with_reducible assumption) | assumption)) (by have h_ : (a2 : Int) < ((y150.length : Int) : Int) := of_decide_eq_true (by first | (with_reducible assumption) | assumption); first | exact h_ | (have e_ := (Kd.R_reads' HO152.out).1; omega) | simpa using h_))); (try (obtain rfl := k26_openM hM31)); (try (have HP31 := Kd.R_seg HX31.out (a2 : Int) (of_decide_eq_true (by first | (with_reducible assumption) | assumption)) (by have h_ : (a2 : Int) < ((y150.length : Int) : Int) := of_decide_eq_true (by first | (with_reducible assumption) | assumption); first | exact h_ | (have e_ := (Kd.R_reads' HO152.out).1; omega) | simpa using h_) (seg := [.int .i64 ((rd_T26 l0 a1).f0), .int .i64 ((rd_T26 l0 a1).f1)]) (j := 0) hcl31 hcc31 (show 2 ≤ 2 from by decide) (x' := (⟨(rd_T26 l0 a1).f0, (rd_T26 l0 a1).f1⟩ : S26)) (k26_mkM _ _ _ (⟨(rd_T26 l0 a1).f0, (rd_T26 l0 a1).f1⟩ : S26) ) (fun _ hk => hk))); (try (have hx31_0 := hcc31 0 _ rfl)); (try (try simp only [show (k26).sz = 2 from rfl, Nat.mul_one, Nat.add_zero] at hx31_0)); (try (have hf31_0 := hfr31 0)); (try (try simp only [show (k26).sz = 2 from rfl, Nat.mul_one, Nat.add_zero] at hf31_0)); (try (have hx31_1 := hcc31 1 _ rfl)); (try (try simp only [show (k26).sz = 2 from rfl, Nat.mul_one, Nat.add_zero] at hx31_1)); (try (have hf31_1 := hfr31 1)); (try (try simp only [show (k26).sz = 2 from rfl, Nat.mul_one, Nat.add_zero] at hf31_1)); (try (clear hcl31 hcc31 hfr31 hM31)))); refine store_event (t := 26) (p := 66) (v := ?vo_w32) (w1 := ((w30.setCell ⟨go21, (a2 : Int).toNat * 2, none⟩ (.int .i64 ((rd_T26 l0 a1).f0))).setCell ⟨go21, (a2 : Int).toNat * 2 + 1, none⟩ (.int .i64 ((rd_T26 l0 a1).f1)))) ?hg ?ho ?hn ?hr ?_; (case ho => rfl); (case hg => rfl); (case hn => rfl); (case hr => first | (go_simp; done) | (go_simp; rfl)); intro w32 hw; have hg : w30.grownBy w32 (some go21) := (by rw [hw]; exact HP31.2); have hp_ : Kd.R k26 26 w32 w.heap.size (fun _ => True) (.slice (some ⟨go21, 0, none⟩) y150.length co21) y156 := (by rw [hw, Ny156.out]; exact HP31.1); clear HP31; have n0_ := Aside0.mk (hp_); have n1_ := Aside0.mk ((by rw [hw]; exact below_set (below_set (HB.out) GB21.out) GB21.out : Below w.heap.size w w32)); clear HO152; clear HB; have HO152 := n0_; have HB := n1_; clear n0_ n1_; clear hg hw hp_)); go_upto_region 9 with (first | (go_at_call 10; (with_reducible refine (xmp_Share.calls kj5 _ _ l0 a1 a3 t148 _ ?side1 ?side2 A14.out).mono ?_); (case side1 => repeat (first | exact (Kd.C_below HR0.out HB.out) | (with_reducible refine Kd.C_alloc ?_ _) | (with_reducible refine Kd.C_drewN ?_ _) | (with_reducible refine Kd.C_drew ?_))); (case side2 => exact HC0.out); rintro e w26 ⟨rfl, hb⟩; have n0_ := Aside0.mk (below_step (by repeat (first | (with_reducible first | exact HB.out | apply below_alloc | apply pw_below_drewN | apply below_drew1) | exact HB.out)) hb); clear HB; have HB := n0_; clear n0_; (try clear hb); (try clear hb2); (try clear hk); (try clear hi)) | (go_at_call 10; (with_reducible refine (xmp_Share.calls kj5 _ _ l0 a2 a3 t149 _ ?side1 ?side2 A15.out).mono ?_); (case side1 => repeat (first | exact (Kd.C_below HR0.out HB.out) | (with_reducible refine Kd.C_alloc ?_ _) | (with_reducible refine Kd.C_drewN ?_ _) | (with_reducible refine Kd.C_drew ?_))); (case side2 => exact HC0.out); rintro e w27 ⟨rfl, hb⟩; have n0_ := Aside0.mk (below_step (by repeat (first | (with_reducible first | exact HB.out | apply below_alloc | apply pw_below_drewN | apply below_drew1) | exact HB.out)) hb); clear HB; have HB := n0_; clear n0_; (try clear hb); (try clear hb2); (try clear hk); (try clear hi)) | ((with_reducible refine gate_builtin (b := .append) (xs := #[.const (.slice none 0 0), .tmp 51]) rfl ?_); (try (refine gate_guard (by rfl) ?_; dsimp only)); at_builtin; refine Kd.R_append_rows k26 (w0 := w) w.heap.size rfl (.const (.slice none 0 0)) (.tmp 51) 22 26 (.agg #[(.int .i64 0), (.int .i64 0)]) 16 rfl Try.underlying22 info26 rfl (by decide) (by omega) (.slice none 0 0) ([] : List (S26)) l0 _ _ _ (fun _ => True) (fun _ => False) rfl rfl ?aO ?aR (fun _ _ h => h) (fun _ h => h.elim) ?aF ?aB ?aS ?aL ?_; (case aR => repeat (first | exact (Kd.C_below HR0.out HB.out) | (with_reducible refine Kd.C_alloc ?_ _) | (with_reducible refine Kd.C_drewN ?_ _) | (with_reducible refine Kd.C_drew ?_))); (case aB => exact (by repeat (first | (with_reducible first | exact HB.out | apply below_alloc | apply pw_below_drewN | apply below_drew1) | exact HB.out))); (case aF => exact (fun _ _ => trivial)); (case aO => exact ((Kd.R_nil _ _ _ _ (fun _ => True)))); (case aS => exact (below_size (by repeat (first | (with_reducible first | exact HB.out | apply below_alloc | apply pw_below_drewN | apply below_drew1) | exact HB.out)))); (case aL => have := LMc16.out; omega); intro v151 w28 ho hb hg hat; rw [← Ny150.out] at ho; have n0_ := Aside0.mk (hb); have n1_ := Aside0.mk (ho); clear HB; have HB := n0_; have HO152 := n1_; clear n0_ n1_; clear ho hb hg hat; have p153 : 0 ≤ (a2 : Int) := of_decide_eq_true (by first | (with_reducible assumption) | assumption); have q153 : a2 < (l0.length : Int) := of_decide_eq_true (by first | (with_reducible assumption) | assumption); obtain ⟨ad153, e153, hx153_0, hx153_1⟩ := at_T26 HR0.out a2 p153 q153; cases e153; replace hx153_0 := (HB.out.cell (World.block_lt_of_cell? w _ hx153_0)).trans hx153_0; replace hx153_1 := (HB.out.cell (World.block_lt_of_cell? w _ hx153_1)).trans hx153_1; replace p153 := eq_true p153; replace q153 := eq_true q153; have p21 : 0 ≤ (a1 : Int) := of_decide_eq_true (by first | (with_reducible assumption) | assumption); have q21 : (a1 : Int) < ((y150.length : Int) : Int) := of_decide_eq_true (by first | (with_reducible assumption) | assumption); obtain ⟨go21, co21, eo21, gb21, gl21, cl21, HG21⟩ := Kd.R_form HO152.out (by omega); (first | cases eo21 | (injection eo21 with ea_ en_ ec_; (first | subst ea_ | (injection ea_ with ea_; subst ea_)); subst ec_; clear en_)); have GB21 := Aside0.mk gb21; have GG21 := Aside0.mk HG21; clear gb21 gl21 HG21; obtain ⟨ce21, hcl21, hM21, hcc21, hfr21⟩ := Kd.R_elem HO152.out z26 (a1 : Int) p21 q21; obtain rfl := k26_openM hM21; have hx21_0 : w28.cell? ⟨go21, (a1 : Int).toNat * 2, none⟩ = some (.int .i64 ((rd_T26 y150 a1).f0)) := hcc21 0 _ rfl; have hx21_1 : w28.cell? ⟨go21, (a1 : Int).toNat * 2 + 1, none⟩ = some (.int .i64 ((rd_T26 y150 a1).f1)) := hcc21 1 _ rfl; have hf21_0 : w28.frozen? ⟨go21, (a1 : Int).toNat * 2, none⟩ = false := hfr21 0; have hf21_1 : w28.frozen? ⟨go21, (a1 : Int).toNat * 2 + 1, none⟩ = false := hfr21 1; clear hcl21 hcc21 hfr21 hM21; replace p21 := eq_true p21; replace q21 := eq_true q21; have HX29 := Aside0.mk (show Kd.R k26 26 w28 w.heap.size (fun _ => True) (.slice (some ⟨go21, 0, none⟩) y150.length co21) y150 from (by (with_reducible repeat (first | apply Kd.R_alloc | apply Kd.R_drewN | apply Kd.R_drew)); exact HO152.out)); obtain ⟨ce29, hcl29, hM29, hcc29, hfr29⟩ := Kd.R_elem HX29.out z26 (a1 : Int) (of_decide_eq_true (by first | (with_reducible assumption) | assumption)) (by have h_ : (a1 : Int) < ((y150.length : Int) : Int) := of_decide_eq_true (by first | (with_reducible assumption) | assumption); first | exact h_ | (have e_ := (Kd.R_reads' HO152.out).1; omega) | simpa using h_); obtain rfl := k26_openM hM29; have HP29 := Kd.R_seg HX29.out (a1 : Int) (of_decide_eq_true (by first | (with_reducible assumption) | assumption)) (by have h_ : (a1 : Int) < ((y150.length : Int) : Int) := of_decide_eq_true (by first | (with_reducible assumption) | assumption); first | exact h_ | (have e_ := (Kd.R_reads' HO152.out).1; omega) | simpa using h_) (seg := [.int .i64 ((rd_T26 l0 a2).f0), .int .i64 ((rd_T26 l0 a2).f1)]) (j := 0) hcl29 hcc29 (show 2 ≤ 2 from by decide) (x' := (⟨(rd_T26 l0 a2).f0, (rd_T26 l0 a2).f1⟩ : S26)) (k26_mkM _ _ _ (⟨(rd_T26 l0 a2).f0, (rd_T26 l0 a2).f1⟩ : S26) ) (fun _ hk => hk); have hx29_0 := hcc29 0 _ rfl; (try simp only [show (k26).sz = 2 from rfl, Nat.mul_one, Nat.add_zero] at hx29_0); have hf29_0 := hfr29 0; (try simp only [show (k26).sz = 2 from rfl, Nat.mul_one, Nat.add_zero] at hf29_0); have hx29_1 := hcc29 1 _ rfl; (try simp only [show (k26).sz = 2 from rfl, Nat.mul_one, Nat.add_zero] at hx29_1); have hf29_1 := hfr29 1; (try simp only [show (k26).sz = 2 from rfl, Nat.mul_one, Nat.add_zero] at hf29_1); clear hcl29 hcc29 hfr29 hM29) | ((with_reducible refine gate_store (t := 26) (p := 59) rfl ?_); (try (rw [drewN_self w28]; generalize hq_ : World.drewN w28 _ = w28; have n0_ := Aside0.mk (Kd.R_at hq_ HO152.out); have n1_ := Aside0.mk (below_at hq_ HB.out); clear hq_ HO152 HB; have HO152 := n0_; have HB := n1_; clear n0_ n1_; (try (have HX29 := Aside0.mk (show Kd.R k26 26 w28 w.heap.size (fun _ => True) (.slice (some ⟨go21, 0, none⟩) y150.length co21) y150 from (by (with_reducible repeat (first | apply Kd.R_alloc | apply Kd.R_drewN | apply Kd.R_drew)); exact HO152.out)))); (try (obtain ⟨ce29, hcl29, hM29, hcc29, hfr29⟩ := Kd.R_elem HX29.out z26 (a1 : Int) (of_decide_eq_true (by first | (with_reducible assumption) | assumption)) (by have h_ : (a1 : Int) < ((y150.length : Int) : Int) := of_decide_eq_true (by first | (with_reducible assumption) | assumption); first | exact h_ | (have e_ := (Kd.R_reads' HO152.out).1; omega) | simpa using h_))); (try (obtain rfl := k26_openM hM29)); (try (have HP29 := Kd.R_seg HX29.out (a1 : Int) (of_decide_eq_true (by first | (with_reducible assumption) | assumption)) (by have h_ : (a1 : Int) < ((y150.length : Int) : Int) := of_decide_eq_true (by first | (with_reducible assumption) | assumption); first | exact h_ | (have e_ := (Kd.R_reads' HO152.out).1; omega) | simpa using h_) (seg := [.int .i64 ((rd_T26 l0 a2).f0), .int .i64 ((rd_T26 l0 a2).f1)]) (j := 0) hcl29 hcc29 (show 2 ≤ 2 from by decide) (x' := (⟨(rd_T26 l0 a2).f0, (rd_T26 l0 a2).f1⟩ : S26)) (k26_mkM _ _ _ (⟨(rd_T26 l0 a2).f0, (rd_T26 l0 a2).f1⟩ : S26) ) (fun _ hk => hk))); (try (have hx29_0 := hcc29 0 _ rfl)); (try (try simp only [show (k26).sz = 2 from rfl, Nat.mul_one, Nat.add_zero] at hx29_0)); (try (have hf29_0 := hfr29 0)); (try (try simp only [show (k26).sz = 2 from rfl, Nat.mul_one, Nat.add_zero] at hf29_0)); (try (have hx29_1 := hcc29 1 _ rfl)); (try (try simp only [show (k26).sz = 2 from rfl, Nat.mul_one, Nat.add_zero] at hx29_1)); (try (have hf29_1 := hfr29 1)); (try (try simp only [show (k26).sz = 2 from rfl, Nat.mul_one, Nat.add_zero] at hf29_1)); (try (clear hcl29 hcc29 hfr29 hM29)))); refine store_event (t := 26) (p := 59) (v := ?vo_w30) (w1 := ((w28.setCell ⟨go21, (a1 : Int).toNat * 2, none⟩ (.int .i64 ((rd_T26 l0 a2).f0))).setCell ⟨go21, (a1 : Int).toNat * 2 + 1, none⟩ (.int .i64 ((rd_T26 l0 a2).f1)))) ?hg ?ho ?hn ?hr ?_; (case ho => rfl); (case hg => rfl); (case hn => rfl); (case hr => first | (go_simp; done) | (go_simp; rfl)); intro w30 hw; have hg : w28.grownBy w30 (some go21) := (by rw [hw]; exact HP29.2); have hp_ : Kd.R k26 26 w30 w.heap.size (fun _ => True) (.slice (some ⟨go21, 0, none⟩) y150.length co21) y154 := (by rw [hw, Ny154.out]; exact HP29.1); clear HP29; have n0_ := Aside0.mk (hp_); have n1_ := Aside0.mk ((by rw [hw]; exact below_set (below_set (HB.out) GB21.out) GB21.out : Below w.heap.size w w30)); clear HO152; clear HB; have HO152 := n0_; have HB := n1_; clear n0_ n1_; clear hg hw hp_; have p155 : 0 ≤ (a1 : Int) := of_decide_eq_true (by first | (with_reducible assumption) | assumption); have q155 : a1 < (l0.length : Int) := of_decide_eq_true (by first | (with_reducible assumption) | assumption); obtain ⟨ad155, e155, hx155_0, hx155_1⟩ := at_T26 HR0.out a1 p155 q155; obtain rfl : ad153 = ad155 := (by injection e155); replace hx155_0 := (HB.out.cell (World.block_lt_of_cell? w _ hx155_0)).trans hx155_0; replace hx155_1 := (HB.out.cell (World.block_lt_of_cell? w _ hx155_1)).trans hx155_1; replace p155 := eq_true p155; replace q155 := eq_true q155; have p24 : 0 ≤ (a2 : Int) := of_decide_eq_true (by first | (with_reducible assumption) | assumption); have q24 : (a2 : Int) < ((y150.length : Int) : Int) := of_decide_eq_true (by first | (with_reducible assumption) | assumption); obtain ⟨ce24, hcl24, hM24, hcc24, hfr24⟩ := Kd.R_elem HO152.out z26 (a2 : Int) p24 q24; obtain rfl := k26_openM hM24; have hx24_0 : w30.cell? ⟨go21, (a2 : Int).toNat * 2, none⟩ = some (.int .i64 ((rd_T26 y154 a2).f0)) := hcc24 0 _ rfl; have hx24_1 : w30.cell? ⟨go21, (a2 : Int).toNat * 2 + 1, none⟩ = some (.int .i64 ((rd_T26 y154 a2).f1)) := hcc24 1 _ rfl; have hf24_0 : w30.frozen? ⟨go21, (a2 : Int).toNat * 2, none⟩ = false := hfr24 0; have hf24_1 : w30.frozen? ⟨go21, (a2 : Int).toNat * 2 + 1, none⟩ = false := hfr24 1; clear hcl24 hcc24 hfr24 hM24; replace p24 := eq_true p24; replace q24 := eq_true q24; have HX31 := Aside0.mk (show Kd.R k26 26 w30 w.heap.size (fun _ => True) (.slice (some ⟨go21, 0, none⟩) y150.length co21) y154 from (by (with_reducible repeat (first | apply Kd.R_alloc | apply Kd.R_drewN | apply Kd.R_drew)); exact HO152.out)); obtain ⟨ce31, hcl31, hM31, hcc31, hfr31⟩ := Kd.R_elem HX31.out z26 (a2 : Int) (of_decide_eq_true (by first | (with_reducible assumption) | assumption)) (by have h_ : (a2 : Int) < ((y150.length : Int) : Int) := of_decide_eq_true (by first | (with_reducible assumption) | assumption); first | exact h_ | (have e_ := (Kd.R_reads' HO152.out).1; omega) | simpa using h_); obtain rfl := k26_openM hM31; have HP31 := Kd.R_seg HX31.out (a2 : Int) (of_decide_eq_true (by first | (with_reducible assumption) | assumption)) (by have h_ : (a2 : Int) < ((y150.length : Int) : Int) := of_decide_eq_true (by first | (with_reducible assumption) | assumption); first | exact h_ | (have e_ := (Kd.R_reads' HO152.out).1; omega) | simpa using h_) (seg := [.int .i64 ((rd_T26 l0 a1).f0), .int .i64 ((rd_T26 l0 a1).f1)]) (j := 0) hcl31 hcc31 (show 2 ≤ 2 from by decide) (x' := (⟨(rd_T26 l0 a1).f0, (rd_T26 l0 a1).f1⟩ : S26)) (k26_mkM _ _ _ (⟨(rd_T26 l0 a1).f0, (rd_T26 l0 a1).f1⟩ : S26) ) (fun _ hk => hk); have hx31_0 := hcc31 0 _ rfl; (try simp only [show (k26).sz = 2 from rfl, Nat.mul_one, Nat.add_zero] at hx31_0); have hf31_0 := hfr31 0; (try simp only [show (k26).sz = 2 from rfl, Nat.mul_one, Nat.add_zero] at hf31_0); have hx31_1 := hcc31 1 _ rfl; (try simp only [show (k26).sz = 2 from rfl, Nat.mul_one, Nat.add_zero] at hx31_1); have hf31_1 := hfr31 1; (try simp only [show (k26).sz = 2 from rfl, Nat.mul_one, Nat.add_zero] at hf31_1); clear hcl31 hcc31 hfr31 hM31) | ((with_reducible refine gate_store (t := 26) (p := 66) rfl ?_); (try (rw [drewN_self w30]; generalize hq_ : World.drewN w30 _ = w30; have n0_ := Aside0.mk (Kd.R_at hq_ HO152.out); have n1_ := Aside0.mk (below_at hq_ HB.out); clear hq_ HO152 HB; have HO152 := n0_; have HB := n1_; clear n0_ n1_; (try (have HX31 := Aside0.mk (show Kd.R k26 26 w30 w.heap.size (fun _ => True) (.slice (some ⟨go21, 0, none⟩) y150.length co21) y154 from (by (with_reducible repeat (first | apply Kd.R_alloc | apply Kd.R_drewN | apply Kd.R_drew)); exact HO152.out)))); (try (obtain ⟨ce31, hcl31, hM31, hcc31, hfr31⟩ := Kd.R_elem HX31.out z26 (a2 : Int) (of_decide_eq_true (by first | (with_reducible assumption) | assumption)) (by have h_ : (a2 : Int) < ((y150.length : Int) : Int) := of_decide_eq_true (by first | (with_reducible assumption) | assumption); first | exact h_ | (have e_ := (Kd.R_reads' HO152.out).1; omega) | simpa using h_))); (try (obtain rfl := k26_openM hM31)); (try (have HP31 := Kd.R_seg HX31.out (a2 : Int) (of_decide_eq_true (by first | (with_reducible assumption) | assumption)) (by have h_ : (a2 : Int) < ((y150.length : Int) : Int) := of_decide_eq_true (by first | (with_reducible assumption) | assumption); first | exact h_ | (have e_ := (Kd.R_reads' HO152.out).1; omega) | simpa using h_) (seg := [.int .i64 ((rd_T26 l0 a1).f0), .int .i64 ((rd_T26 l0 a1).f1)]) (j := 0) hcl31 hcc31 (show 2 ≤ 2 from by decide) (x' := (⟨(rd_T26 l0 a1).f0, (rd_T26 l0 a1).f1⟩ : S26)) (k26_mkM _ _ _ (⟨(rd_T26 l0 a1).f0, (rd_T26 l0 a1).f1⟩ : S26) ) (fun _ hk => hk))); (try (have hx31_0 := hcc31 0 _ rfl)); (try (try simp only [show (k26).sz = 2 from rfl, Nat.mul_one, Nat.add_zero] at hx31_0)); (try (have hf31_0 := hfr31 0)); (try (try simp only [show (k26).sz = 2 from rfl, Nat.mul_one, Nat.add_zero] at hf31_0)); (try (have hx31_1 := hcc31 1 _ rfl)); (try (try simp only [show (k26).sz = 2 from rfl, Nat.mul_one, Nat.add_zero] at hx31_1)); (try (have hf31_1 := hfr31 1)); (try (try simp only [show (k26).sz = 2 from rfl, Nat.mul_one, Nat.add_zero] at hf31_1)); (try (clear hcl31 hcc31 hfr31 hM31)))); refine store_event (t := 26) (p := 66) (v := ?vo_w32) (w1 := ((w30.setCell ⟨go21, (a2 : Int).toNat * 2, none⟩ (.int .i64 ((rd_T26 l0 a1).f0))).setCell ⟨go21, (a2 : Int).toNat * 2 + 1, none⟩ (.int .i64 ((rd_T26 l0 a1).f1)))) ?hg ?ho ?hn ?hr ?_; (case ho => rfl); (case hg => rfl); (case hn => rfl); (case hr => first | (go_simp; done) | (go_simp; rfl)); intro w32 hw; have hg : w30.grownBy w32 (some go21) := (by rw [hw]; exact HP31.2); have hp_ : Kd.R k26 26 w32 w.heap.size (fun _ => True) (.slice (some ⟨go21, 0, none⟩) y150.length co21) y156 := (by rw [hw, Ny156.out]; exact HP31.1); clear HP31; have n0_ := Aside0.mk (hp_); have n1_ := Aside0.mk ((by rw [hw]; exact below_set (below_set (HB.out) GB21.out) GB21.out : Below w.heap.size w w32)); clear HO152; clear HB; have HO152 := n0_; have HB := n1_; clear n0_ n1_; clear hg hw hp_)))
                      (try simp only [Act.put, List.setIfInBounds_toArray, List.set_cons_zero, List.set_cons_succ])
                      go_cut [80] (fun v80 wc => ∃ (kq : Nat) (x80_24 : Bool), v80 = .bool x80_24 ∧ Aside0 (fourinhandlaw15_XmpShare.j1 kq l0 a1 a2 t148 t149 x80_24 = some r) ∧ Aside0 (kq ≤ kj5) ∧ Aside0 (Below w.heap.size w wc))
                      case first =>
                        have H := HC25.out
                        clear HC25
                        replace H := Option.bind_eq_some_iff.mp H
                        obtain ⟨t157, A330, H⟩ := H
                        replace H : (if t157 = t148 then ((xmp_Share.f kj5 y156 a1 a3).bind fun t158 => (fourinhandlaw15_XmpShare.j1 kj5 l0 a1 a2 t148 t149 (t158 != t149))) else (fourinhandlaw15_XmpShare.j1 kj5 l0 a1 a2 t148 t149 true)) = some r := H
                        have A33 := Aside0.mk A330
                        clear A330
                        by_cases c34 : t157 = t148
                        · rw [if_pos c34] at H
                          have c34b0 : (t157 == t148) = true := beq_iff_eq.mpr c34
                          have c34b1 : (t157 != t148) = false := bne_eq_false_iff_eq.mpr c34
                          clear c34
                          (first | rw [c34b0] | (simp only [i64_w, i32_w]; rw [c34b0]) | skip)
                          replace H := Option.bind_eq_some_iff.mp H
                          obtain ⟨t158, A350, H⟩ := H
                          replace H : (fourinhandlaw15_XmpShare.j1 kj5 l0 a1 a2 t148 t149 (t158 != t149)) = some r := H
                          have A35 := Aside0.mk A350
                          clear A350
                          have H' := Aside0.mk H
                          clear H
                          go_wp2_with (first | (go_at_call 10; refine calls_of_args (args' := #[.slice (some ⟨go21, 0, none⟩) y156.length co21, .int .i64 a2, .int .i64 a3]) (by first | (rw [show y156.length = y150.length from (Kd.R_reads' HO152.out).1.symm] <;> rfl) | rfl) ?_; (with_reducible refine (xmp_Share.calls kj5 _ _ y156 a2 a3 t157 _ ?side1 ?side2 A33.out).mono ?_); (case side1 => repeat (first | exact (Kd.R_reads' HO152.out).2.2 | (with_reducible refine Kd.C_alloc ?_ _) | (with_reducible refine Kd.C_drewN ?_ _) | (with_reducible refine Kd.C_drew ?_))); (case side2 => rw [show y156.length = y150.length from (Kd.R_reads' HO152.out).1.symm]; exact (Kd.R_reads' HO152.out).2.1); rintro e w36 ⟨rfl, hb⟩; have n0_ := Aside0.mk (Kd.R_below (by (with_reducible repeat (first | apply Kd.R_alloc | apply Kd.R_drewN | apply Kd.R_drew)); exact HO152.out) hb); have n1_ := Aside0.mk (below_step (by repeat (first | (with_reducible first | exact HB.out | apply below_alloc | apply pw_below_drewN | apply below_drew1) | exact HB.out)) hb); clear HO152; clear HB; have HO152 := n0_; have HB := n1_; clear n0_ n1_; (try clear hb); (try clear hb2); (try clear hk); (try clear hi)) | (go_at_call 10; refine calls_of_args (args' := #[.slice (some ⟨go21, 0, none⟩) y156.length co21, .int .i64 a1, .int .i64 a3]) (by first | (rw [show y156.length = y150.length from (Kd.R_reads' HO152.out).1.symm] <;> rfl) | rfl) ?_; (with_reducible refine (xmp_Share.calls kj5 _ _ y156 a1 a3 t158 _ ?side1 ?side2 A35.out).mono ?_); (case side1 => repeat (first | exact (Kd.R_reads' HO152.out).2.2 | (with_reducible refine Kd.C_alloc ?_ _) | (with_reducible refine Kd.C_drewN ?_ _) | (with_reducible refine Kd.C_drew ?_))); (case side2 => rw [show y156.length = y150.length from (Kd.R_reads' HO152.out).1.symm]; exact (Kd.R_reads' HO152.out).2.1); rintro e w37 ⟨rfl, hb⟩; have n0_ := Aside0.mk (Kd.R_below (by (with_reducible repeat (first | apply Kd.R_alloc | apply Kd.R_drewN | apply Kd.R_drew)); exact HO152.out) hb); have n1_ := Aside0.mk (below_step (by repeat (first | (with_reducible first | exact HB.out | apply below_alloc | apply pw_below_drewN | apply below_drew1) | exact HB.out)) hb); clear HO152; clear HB; have HO152 := n0_; have HB := n1_; clear n0_ n1_; (try clear hb); (try clear hb2); (try clear hk); (try clear hi)))
                          repeat (go_quiet (first | (go_at_call 10; refine calls_of_args (args' := #[.slice (some ⟨go21, 0, none⟩) y156.length co21, .int .i64 a2, .int .i64 a3]) (by first | (rw [show y156.length = y150.length from (Kd.R_reads' HO152.out).1.symm] <;> rfl) | rfl) ?_; (with_reducible refine (xmp_Share.calls kj5 _ _ y156 a2 a3 t157 _ ?side1 ?side2 A33.out).mono ?_); (case side1 => repeat (first | exact (Kd.R_reads' HO152.out).2.2 | (with_reducible refine Kd.C_alloc ?_ _) | (with_reducible refine Kd.C_drewN ?_ _) | (with_reducible refine Kd.C_drew ?_))); (case side2 => rw [show y156.length = y150.length from (Kd.R_reads' HO152.out).1.symm]; exact (Kd.R_reads' HO152.out).2.1); rintro e w36 ⟨rfl, hb⟩; have n0_ := Aside0.mk (Kd.R_below (by (with_reducible repeat (first | apply Kd.R_alloc | apply Kd.R_drewN | apply Kd.R_drew)); exact HO152.out) hb); have n1_ := Aside0.mk (below_step (by repeat (first | (with_reducible first | exact HB.out | apply below_alloc | apply pw_below_drewN | apply below_drew1) | exact HB.out)) hb); clear HO152; clear HB; have HO152 := n0_; have HB := n1_; clear n0_ n1_; (try clear hb); (try clear hb2); (try clear hk); (try clear hi)) | (go_at_call 10; refine calls_of_args (args' := #[.slice (some ⟨go21, 0, none⟩) y156.length co21, .int .i64 a1, .int .i64 a3]) (by first | (rw [show y156.length = y150.length from (Kd.R_reads' HO152.out).1.symm] <;> rfl) | rfl) ?_; (with_reducible refine (xmp_Share.calls kj5 _ _ y156 a1 a3 t158 _ ?side1 ?side2 A35.out).mono ?_); (case side1 => repeat (first | exact (Kd.R_reads' HO152.out).2.2 | (with_reducible refine Kd.C_alloc ?_ _) | (with_reducible refine Kd.C_drewN ?_ _) | (with_reducible refine Kd.C_drew ?_))); (case side2 => rw [show y156.length = y150.length from (Kd.R_reads' HO152.out).1.symm]; exact (Kd.R_reads' HO152.out).2.1); rintro e w37 ⟨rfl, hb⟩; have n0_ := Aside0.mk (Kd.R_below (by (with_reducible repeat (first | apply Kd.R_alloc | apply Kd.R_drewN | apply Kd.R_drew)); exact HO152.out) hb); have n1_ := Aside0.mk (below_step (by repeat (first | (with_reducible first | exact HB.out | apply below_alloc | apply pw_below_drewN | apply below_drew1) | exact HB.out)) hb); clear HO152; clear HB; have HO152 := n0_; have HB := n1_; clear n0_ n1_; (try clear hb); (try clear hb2); (try clear hk); (try clear hi))); try go_wp2_with (first | (go_at_call 10; refine calls_of_args (args' := #[.slice (some ⟨go21, 0, none⟩) y156.length co21, .int .i64 a2, .int .i64 a3]) (by first | (rw [show y156.length = y150.length from (Kd.R_reads' HO152.out).1.symm] <;> rfl) | rfl) ?_; (with_reducible refine (xmp_Share.calls kj5 _ _ y156 a2 a3 t157 _ ?side1 ?side2 A33.out).mono ?_); (case side1 => repeat (first | exact (Kd.R_reads' HO152.out).2.2 | (with_reducible refine Kd.C_alloc ?_ _) | (with_reducible refine Kd.C_drewN ?_ _) | (with_reducible refine Kd.C_drew ?_))); (case side2 => rw [show y156.length = y150.length from (Kd.R_reads' HO152.out).1.symm]; exact (Kd.R_reads' HO152.out).2.1); rintro e w36 ⟨rfl, hb⟩; have n0_ := Aside0.mk (Kd.R_below (by (with_reducible repeat (first | apply Kd.R_alloc | apply Kd.R_drewN | apply Kd.R_drew)); exact HO152.out) hb); have n1_ := Aside0.mk (below_step (by repeat (first | (with_reducible first | exact HB.out | apply below_alloc | apply pw_below_drewN | apply below_drew1) | exact HB.out)) hb); clear HO152; clear HB; have HO152 := n0_; have HB := n1_; clear n0_ n1_; (try clear hb); (try clear hb2); (try clear hk); (try clear hi)) | (go_at_call 10; refine calls_of_args (args' := #[.slice (some ⟨go21, 0, none⟩) y156.length co21, .int .i64 a1, .int .i64 a3]) (by first | (rw [show y156.length = y150.length from (Kd.R_reads' HO152.out).1.symm] <;> rfl) | rfl) ?_; (with_reducible refine (xmp_Share.calls kj5 _ _ y156 a1 a3 t158 _ ?side1 ?side2 A35.out).mono ?_); (case side1 => repeat (first | exact (Kd.R_reads' HO152.out).2.2 | (with_reducible refine Kd.C_alloc ?_ _) | (with_reducible refine Kd.C_drewN ?_ _) | (with_reducible refine Kd.C_drew ?_))); (case side2 => rw [show y156.length = y150.length from (Kd.R_reads' HO152.out).1.symm]; exact (Kd.R_reads' HO152.out).2.1); rintro e w37 ⟨rfl, hb⟩; have n0_ := Aside0.mk (Kd.R_below (by (with_reducible repeat (first | apply Kd.R_alloc | apply Kd.R_drewN | apply Kd.R_drew)); exact HO152.out) hb); have n1_ := Aside0.mk (below_step (by repeat (first | (with_reducible first | exact HB.out | apply below_alloc | apply pw_below_drewN | apply below_drew1) | exact HB.out)) hb); clear HO152; clear HB; have HO152 := n0_; have HB := n1_; clear n0_ n1_; (try clear hb); (try clear hb2); (try clear hk); (try clear hi))))
                          go_meet
                          case rel => exact ⟨_, ((t158 != t149)), (by first | rfl | (simp; done) | (simp [*]; done)), H', ⟨by have := HJ5.out; first | omega | exact Nat.le_refl _⟩, ⟨by repeat (first | (with_reducible first | exact HB.out | apply below_alloc | apply pw_below_drewN | apply below_drew1) | exact HB.out)⟩⟩
                        · rw [if_neg c34] at H
                          have c34b0 : (t157 == t148) = false := beq_eq_false_iff_ne.mpr c34
                          have c34b1 : (t157 != t148) = true := bne_iff_ne.mpr c34
                          (first | rw [c34b0] | (simp only [i64_w, i32_w]; rw [c34b0]) | skip)
                          have H' := Aside0.mk H
                          clear H
                          go_wp2_with (first | (go_at_call 10; refine calls_of_args (args' := #[.slice (some ⟨go21, 0, none⟩) y156.length co21, .int .i64 a2, .int .i64 a3]) (by first | (rw [show y156.length = y150.length from (Kd.R_reads' HO152.out).1.symm] <;> rfl) | rfl) ?_; (with_reducible refine (xmp_Share.calls kj5 _ _ y156 a2 a3 t157 _ ?side1 ?side2 A33.out).mono ?_); (case side1 => repeat (first | exact (Kd.R_reads' HO152.out).2.2 | (with_reducible refine Kd.C_alloc ?_ _) | (with_reducible refine Kd.C_drewN ?_ _) | (with_reducible refine Kd.C_drew ?_))); (case side2 => rw [show y156.length = y150.length from (Kd.R_reads' HO152.out).1.symm]; exact (Kd.R_reads' HO152.out).2.1); rintro e w38 ⟨rfl, hb⟩; have n0_ := Aside0.mk (Kd.R_below (by (with_reducible repeat (first | apply Kd.R_alloc | apply Kd.R_drewN | apply Kd.R_drew)); exact HO152.out) hb); have n1_ := Aside0.mk (below_step (by repeat (first | (with_reducible first | exact HB.out | apply below_alloc | apply pw_below_drewN | apply below_drew1) | exact HB.out)) hb); clear HO152; clear HB; have HO152 := n0_; have HB := n1_; clear n0_ n1_; (try clear hb); (try clear hb2); (try clear hk); (try clear hi)))
                          repeat (go_quiet (first | (go_at_call 10; refine calls_of_args (args' := #[.slice (some ⟨go21, 0, none⟩) y156.length co21, .int .i64 a2, .int .i64 a3]) (by first | (rw [show y156.length = y150.length from (Kd.R_reads' HO152.out).1.symm] <;> rfl) | rfl) ?_; (with_reducible refine (xmp_Share.calls kj5 _ _ y156 a2 a3 t157 _ ?side1 ?side2 A33.out).mono ?_); (case side1 => repeat (first | exact (Kd.R_reads' HO152.out).2.2 | (with_reducible refine Kd.C_alloc ?_ _) | (with_reducible refine Kd.C_drewN ?_ _) | (with_reducible refine Kd.C_drew ?_))); (case side2 => rw [show y156.length = y150.length from (Kd.R_reads' HO152.out).1.symm]; exact (Kd.R_reads' HO152.out).2.1); rintro e w38 ⟨rfl, hb⟩; have n0_ := Aside0.mk (Kd.R_below (by (with_reducible repeat (first | apply Kd.R_alloc | apply Kd.R_drewN | apply Kd.R_drew)); exact HO152.out) hb); have n1_ := Aside0.mk (below_step (by repeat (first | (with_reducible first | exact HB.out | apply below_alloc | apply pw_below_drewN | apply below_drew1) | exact HB.out)) hb); clear HO152; clear HB; have HO152 := n0_; have HB := n1_; clear n0_ n1_; (try clear hb); (try clear hb2); (try clear hk); (try clear hi))); try go_wp2_with (first | (go_at_call 10; refine calls_of_args (args' := #[.slice (some ⟨go21, 0, none⟩) y156.length co21, .int .i64 a2, .int .i64 a3]) (by first | (rw [show y156.length = y150.length from (Kd.R_reads' HO152.out).1.symm] <;> rfl) | rfl) ?_; (with_reducible refine (xmp_Share.calls kj5 _ _ y156 a2 a3 t157 _ ?side1 ?side2 A33.out).mono ?_); (case side1 => repeat (first | exact (Kd.R_reads' HO152.out).2.2 | (with_reducible refine Kd.C_alloc ?_ _) | (with_reducible refine Kd.C_drewN ?_ _) | (with_reducible refine Kd.C_drew ?_))); (case side2 => rw [show y156.length = y150.length from (Kd.R_reads' HO152.out).1.symm]; exact (Kd.R_reads' HO152.out).2.1); rintro e w38 ⟨rfl, hb⟩; have n0_ := Aside0.mk (Kd.R_below (by (with_reducible repeat (first | apply Kd.R_alloc | apply Kd.R_drewN | apply Kd.R_drew)); exact HO152.out) hb); have n1_ := Aside0.mk (below_step (by repeat (first | (with_reducible first | exact HB.out | apply below_alloc | apply pw_below_drewN | apply below_drew1) | exact HB.out)) hb); clear HO152; clear HB; have HO152 := n0_; have HB := n1_; clear n0_ n1_; (try clear hb); (try clear hb2); (try clear hk); (try clear hi))))
                          go_meet
                          case rel => exact ⟨_, (true), (by first | rfl | (simp; done) | (simp [*]; done)), H', ⟨by have := HJ5.out; first | omega | exact Nat.le_refl _⟩, ⟨by repeat (first | (with_reducible first | exact HB.out | apply below_alloc | apply pw_below_drewN | apply below_drew1) | exact HB.out)⟩⟩
                      case rest =>
                        clear HC25
                        try clear c1
                        try clear p1
                        try clear q1
                        try clear hx1
                        try clear c2
                        try clear p2
                        try clear q2
                        try clear hx2
                        try clear c3
                        try clear hx3
                        try clear c4
                        try clear c8
                        try clear c9
                        try clear c9b0
                        try clear c9b1
                        try clear c10
                        try clear c10b0
                        try clear c11
                        try clear c11b0
                        try clear c12
                        try clear c12b0
                        try clear c13
                        try clear p15
                        try clear q15
                        try clear hx15
                        try clear c16
                        try clear c17
                        try clear c17b0
                        try clear c18
                        try clear c18b0
                        try clear c19
                        try clear c19b0
                        try clear c20
                        try clear c20b0
                        try clear c21
                        try clear p21
                        try clear q21
                        try clear hx21
                        try clear hf21
                        try clear c22
                        try clear c22b0
                        try clear c23
                        try clear c23b0
                        try clear c24
                        try clear p24
                        try clear q24
                        try clear hx24
                        try clear hf24
                        try clear c29
                        try clear hx29
                        try clear hf29
                        try clear c31
                        try clear hx31
                        try clear hf31
                        try clear c34
                        try clear c34b0
                        try clear c34b1
                        try clear hx153_0
                        try clear hx153_1
                        try clear hx155_0
                        try clear hx155_1
                        try clear hx21_0
                        try clear hx21_1
                        try clear hx24_0
                        try clear hx24_1
                        try clear hx29_0
                        try clear hx29_1
                        try clear hx31_0
                        try clear hx31_1
                        try clear p153
                        try clear p155
                        try clear p2
                        try clear p21
                        try clear p24
                        try clear q153
                        try clear q155
                        try clear q21
                        try clear q24
                        obtain ⟨kq, x80_24, rfl, HA, HJ24, HB⟩ := hcut
                        cases kq with
                        | zero => exact absurd HA.out (by simp [fourinhandlaw15_XmpShare.j1])
                        | succ kj24 =>
                          have H := HA.out
                          clear HA
                          simp only [fourinhandlaw15_XmpShare.j1] at H
                          by_cases c39 : x80_24 = true
                          · subst c39
                            have H1 : (some false) = some r := by rw [if_pos rfl] at H; exact H
                            clear H
                            have H := H1
                            clear H1
                            exact Bool.noConfusion ((Option.some.inj H).trans hr_.out)
                          · replace c39 := Bool.eq_false_iff.mpr c39
                            subst c39
                            have H1 : (if 0 ≤ a1 then (if a1 < (l0.length : Int) then (if ((rd_T26 l0 a1).f0) < 1 then (some (t148 == 0)) else (if ((rd_T26 l0 a1).f1) < 1 then (some (t148 == 0)) else (if ((rd_T26 l0 a1).f0) > 1073741824 then (some (t148 == 0)) else (if ((rd_T26 l0 a1).f1) > 1099511627776 then (some (t148 == 0)) else (if 0 ≤ a2 then (if a2 < (l0.length : Int) then (if ((rd_T26 l0 a1).f1) = ((rd_T26 l0 a2).f1) then (if ((rd_T26 l0 a1).f0) < ((rd_T26 l0 a2).f0) then (some true) else (if t148 ≥ t149 then (some true) else (some (decide (((rd_T26 l0 a2).f0) > 1073741824))))) else (some true)) else (none)) else (none)))))) else (none)) else (none)) = some r := by rw [if_neg (show ¬ (false = true) by decide)] at H; exact H
                            clear H
                            have H := H1
                            clear H1
                            by_cases c40 : 0 ≤ a1
                            · rw [if_pos c40] at H
                              have c40b0 : decide (0 ≤ a1) = true := decide_eq_true c40
                              clear c40
                              by_cases c41 : a1 < (l0.length : Int)
                              · rw [if_pos c41] at H
                                have c41b0 : decide (a1 < (l0.length : Int)) = true := decide_eq_true c41
                                clear c41
                                by_cases c42 : ((rd_T26 l0 a1).f0) < 1
                                · rw [if_pos c42] at H
                                  have c42b0 : decide (((rd_T26 l0 a1).f0) < 1) = true := decide_eq_true c42
                                  clear c42
                                  obtain rfl := Option.some.inj H
                                  have p159 : 0 ≤ (a1 : Int) := of_decide_eq_true (by first | (with_reducible assumption) | assumption)
                                  have q159 : a1 < (l0.length : Int) := of_decide_eq_true (by first | (with_reducible assumption) | assumption)
                                  obtain ⟨ad159, e159, hx159_0, hx159_1⟩ := at_T26 HR0.out a1 p159 q159
                                  obtain rfl : ad153 = ad159 := (by injection e159)
                                  replace hx159_0 := (HB.out.cell (World.block_lt_of_cell? w _ hx159_0)).trans hx159_0
                                  replace hx159_1 := (HB.out.cell (World.block_lt_of_cell? w _ hx159_1)).trans hx159_1
                                  replace p159 := eq_true p159
                                  replace q159 := eq_true q159
                                  go_wp2
                                  repeat (go_quiet (fail); try go_wp2)
                                  go_ret
                                  exact ⟨by first | rfl | (simp [errW_none, errW_some] <;> rfl) | (simp [*, errW_none, errW_some] <;> rfl), by repeat (first | (with_reducible first | exact HB.out | apply below_alloc | apply pw_below_drewN | apply below_drew1) | exact HB.out)⟩
                                · rw [if_neg c42] at H
                                  have c42b0 : decide (((rd_T26 l0 a1).f0) < 1) = false := decide_eq_false c42
                                  clear c42
                                  by_cases c43 : ((rd_T26 l0 a1).f1) < 1
                                  · rw [if_pos c43] at H
                                    have c43b0 : decide (((rd_T26 l0 a1).f1) < 1) = true := decide_eq_true c43
                                    clear c43
                                    obtain rfl := Option.some.inj H
                                    have p159 : 0 ≤ (a1 : Int) := of_decide_eq_true (by first | (with_reducible assumption) | assumption)
                                    have q159 : a1 < (l0.length : Int) := of_decide_eq_true (by first | (with_reducible assumption) | assumption)
                                    obtain ⟨ad159, e159, hx159_0, hx159_1⟩ := at_T26 HR0.out a1 p159 q159
                                    obtain rfl : ad153 = ad159 := (by injection e159)
                                    replace hx159_0 := (HB.out.cell (World.block_lt_of_cell? w _ hx159_0)).trans hx159_0
                                    replace hx159_1 := (HB.out.cell (World.block_lt_of_cell? w _ hx159_1)).trans hx159_1
                                    replace p159 := eq_true p159
                                    replace q159 := eq_true q159
                                    have p160 : 0 ≤ (a1 : Int) := of_decide_eq_true (by first | (with_reducible assumption) | assumption)
                                    have q160 : a1 < (l0.length : Int) := of_decide_eq_true (by first | (with_reducible assumption) | assumption)
                                    obtain ⟨ad160, e160, hx160_0, hx160_1⟩ := at_T26 HR0.out a1 p160 q160
                                    obtain rfl : ad153 = ad160 := (by injection e160)
                                    replace hx160_0 := (HB.out.cell (World.block_lt_of_cell? w _ hx160_0)).trans hx160_0
                                    replace hx160_1 := (HB.out.cell (World.block_lt_of_cell? w _ hx160_1)).trans hx160_1
                                    replace p160 := eq_true p160
                                    replace q160 := eq_true q160
                                    go_wp2
                                    repeat (go_quiet (fail); try go_wp2)
                                    go_ret
                                    exact ⟨by first | rfl | (simp [errW_none, errW_some] <;> rfl) | (simp [*, errW_none, errW_some] <;> rfl), by repeat (first | (with_reducible first | exact HB.out | apply below_alloc | apply pw_below_drewN | apply below_drew1) | exact HB.out)⟩
                                  · rw [if_neg c43] at H
                                    have c43b0 : decide (((rd_T26 l0 a1).f1) < 1) = false := decide_eq_false c43
                                    clear c43
                                    by_cases c44 : ((rd_T26 l0 a1).f0) > 1073741824
                                    · rw [if_pos c44] at H
                                      have c44b0 : decide (1073741824 < ((rd_T26 l0 a1).f0)) = true := decide_eq_true c44
                                      clear c44
                                      obtain rfl := Option.some.inj H
                                      have p159 : 0 ≤ (a1 : Int) := of_decide_eq_true (by first | (with_reducible assumption) | assumption)
                                      have q159 : a1 < (l0.length : Int) := of_decide_eq_true (by first | (with_reducible assumption) | assumption)
                                      obtain ⟨ad159, e159, hx159_0, hx159_1⟩ := at_T26 HR0.out a1 p159 q159
                                      obtain rfl : ad153 = ad159 := (by injection e159)
                                      replace hx159_0 := (HB.out.cell (World.block_lt_of_cell? w _ hx159_0)).trans hx159_0
                                      replace hx159_1 := (HB.out.cell (World.block_lt_of_cell? w _ hx159_1)).trans hx159_1
                                      replace p159 := eq_true p159
                                      replace q159 := eq_true q159
                                      have p160 : 0 ≤ (a1 : Int) := of_decide_eq_true (by first | (with_reducible assumption) | assumption)
                                      have q160 : a1 < (l0.length : Int) := of_decide_eq_true (by first | (with_reducible assumption) | assumption)
                                      obtain ⟨ad160, e160, hx160_0, hx160_1⟩ := at_T26 HR0.out a1 p160 q160
                                      obtain rfl : ad153 = ad160 := (by injection e160)
                                      replace hx160_0 := (HB.out.cell (World.block_lt_of_cell? w _ hx160_0)).trans hx160_0
                                      replace hx160_1 := (HB.out.cell (World.block_lt_of_cell? w _ hx160_1)).trans hx160_1
                                      replace p160 := eq_true p160
                                      replace q160 := eq_true q160
                                      have p161 : 0 ≤ (a1 : Int) := of_decide_eq_true (by first | (with_reducible assumption) | assumption)
                                      have q161 : a1 < (l0.length : Int) := of_decide_eq_true (by first | (with_reducible assumption) | assumption)
                                      obtain ⟨ad161, e161, hx161_0, hx161_1⟩ := at_T26 HR0.out a1 p161 q161
                                      obtain rfl : ad153 = ad161 := (by injection e161)
                                      replace hx161_0 := (HB.out.cell (World.block_lt_of_cell? w _ hx161_0)).trans hx161_0
                                      replace hx161_1 := (HB.out.cell (World.block_lt_of_cell? w _ hx161_1)).trans hx161_1
                                      replace p161 := eq_true p161
                                      replace q161 := eq_true q161
                                      go_wp2
                                      repeat (go_quiet (fail); try go_wp2)
                                      go_ret
                                      exact ⟨by first | rfl | (simp [errW_none, errW_some] <;> rfl) | (simp [*, errW_none, errW_some] <;> rfl), by repeat (first | (with_reducible first | exact HB.out | apply below_alloc | apply pw_below_drewN | apply below_drew1) | exact HB.out)⟩
                                    · rw [if_neg c44] at H
                                      have c44b0 : decide (1073741824 < ((rd_T26 l0 a1).f0)) = false := decide_eq_false c44
                                      clear c44
                                      by_cases c45 : ((rd_T26 l0 a1).f1) > 1099511627776
                                      · rw [if_pos c45] at H
                                        have c45b0 : decide (1099511627776 < ((rd_T26 l0 a1).f1)) = true := decide_eq_true c45
                                        clear c45
                                        obtain rfl := Option.some.inj H
                                        have p159 : 0 ≤ (a1 : Int) := of_decide_eq_true (by first | (with_reducible assumption) | assumption)
                                        have q159 : a1 < (l0.length : Int) := of_decide_eq_true (by first | (with_reducible assumption) | assumption)
                                        obtain ⟨ad159, e159, hx159_0, hx159_1⟩ := at_T26 HR0.out a1 p159 q159
                                        obtain rfl : ad153 = ad159 := (by injection e159)
                                        replace hx159_0 := (HB.out.cell (World.block_lt_of_cell? w _ hx159_0)).trans hx159_0
                                        replace hx159_1 := (HB.out.cell (World.block_lt_of_cell? w _ hx159_1)).trans hx159_1
                                        replace p159 := eq_true p159
                                        replace q159 := eq_true q159
                                        have p160 : 0 ≤ (a1 : Int) := of_decide_eq_true (by first | (with_reducible assumption) | assumption)
                                        have q160 : a1 < (l0.length : Int) := of_decide_eq_true (by first | (with_reducible assumption) | assumption)
                                        obtain ⟨ad160, e160, hx160_0, hx160_1⟩ := at_T26 HR0.out a1 p160 q160
                                        obtain rfl : ad153 = ad160 := (by injection e160)
                                        replace hx160_0 := (HB.out.cell (World.block_lt_of_cell? w _ hx160_0)).trans hx160_0
                                        replace hx160_1 := (HB.out.cell (World.block_lt_of_cell? w _ hx160_1)).trans hx160_1
                                        replace p160 := eq_true p160
                                        replace q160 := eq_true q160
                                        have p161 : 0 ≤ (a1 : Int) := of_decide_eq_true (by first | (with_reducible assumption) | assumption)
                                        have q161 : a1 < (l0.length : Int) := of_decide_eq_true (by first | (with_reducible assumption) | assumption)
                                        obtain ⟨ad161, e161, hx161_0, hx161_1⟩ := at_T26 HR0.out a1 p161 q161
                                        obtain rfl : ad153 = ad161 := (by injection e161)
                                        replace hx161_0 := (HB.out.cell (World.block_lt_of_cell? w _ hx161_0)).trans hx161_0
                                        replace hx161_1 := (HB.out.cell (World.block_lt_of_cell? w _ hx161_1)).trans hx161_1
                                        replace p161 := eq_true p161
                                        replace q161 := eq_true q161
                                        have p162 : 0 ≤ (a1 : Int) := of_decide_eq_true (by first | (with_reducible assumption) | assumption)
                                        have q162 : a1 < (l0.length : Int) := of_decide_eq_true (by first | (with_reducible assumption) | assumption)
                                        obtain ⟨ad162, e162, hx162_0, hx162_1⟩ := at_T26 HR0.out a1 p162 q162
                                        obtain rfl : ad153 = ad162 := (by injection e162)
                                        replace hx162_0 := (HB.out.cell (World.block_lt_of_cell? w _ hx162_0)).trans hx162_0
                                        replace hx162_1 := (HB.out.cell (World.block_lt_of_cell? w _ hx162_1)).trans hx162_1
                                        replace p162 := eq_true p162
                                        replace q162 := eq_true q162
                                        go_wp2
                                        repeat (go_quiet (fail); try go_wp2)
                                        go_ret
                                        exact ⟨by first | rfl | (simp [errW_none, errW_some] <;> rfl) | (simp [*, errW_none, errW_some] <;> rfl), by repeat (first | (with_reducible first | exact HB.out | apply below_alloc | apply pw_below_drewN | apply below_drew1) | exact HB.out)⟩
                                      · rw [if_neg c45] at H
                                        have c45b0 : decide (1099511627776 < ((rd_T26 l0 a1).f1)) = false := decide_eq_false c45
                                        clear c45
                                        by_cases c46 : 0 ≤ a2
                                        · rw [if_pos c46] at H
                                          have c46b0 : decide (0 ≤ a2) = true := decide_eq_true c46
                                          clear c46
                                          by_cases c47 : a2 < (l0.length : Int)
                                          · rw [if_pos c47] at H
                                            have c47b0 : decide (a2 < (l0.length : Int)) = true := decide_eq_true c47
                                            clear c47
                                            by_cases c48 : ((rd_T26 l0 a1).f1) = ((rd_T26 l0 a2).f1)
                                            · rw [if_pos c48] at H
                                              have c48b0 : (((rd_T26 l0 a1).f1) == ((rd_T26 l0 a2).f1)) = true := beq_iff_eq.mpr c48
                                              have c48b1 : (((rd_T26 l0 a1).f1) != ((rd_T26 l0 a2).f1)) = false := bne_eq_false_iff_eq.mpr c48
                                              clear c48
                                              by_cases c49 : ((rd_T26 l0 a1).f0) < ((rd_T26 l0 a2).f0)
                                              · rw [if_pos c49] at H
                                                have c49b0 : decide (((rd_T26 l0 a1).f0) < ((rd_T26 l0 a2).f0)) = true := decide_eq_true c49
                                                clear c49
                                                obtain rfl := Option.some.inj H
                                                have p159 : 0 ≤ (a1 : Int) := of_decide_eq_true (by first | (with_reducible assumption) | assumption)
                                                have q159 : a1 < (l0.length : Int) := of_decide_eq_true (by first | (with_reducible assumption) | assumption)
                                                obtain ⟨ad159, e159, hx159_0, hx159_1⟩ := at_T26 HR0.out a1 p159 q159
                                                obtain rfl : ad153 = ad159 := (by injection e159)
                                                replace hx159_0 := (HB.out.cell (World.block_lt_of_cell? w _ hx159_0)).trans hx159_0
                                                replace hx159_1 := (HB.out.cell (World.block_lt_of_cell? w _ hx159_1)).trans hx159_1
                                                replace p159 := eq_true p159
                                                replace q159 := eq_true q159
                                                have p160 : 0 ≤ (a1 : Int) := of_decide_eq_true (by first | (with_reducible assumption) | assumption)
                                                have q160 : a1 < (l0.length : Int) := of_decide_eq_true (by first | (with_reducible assumption) | assumption)
                                                obtain ⟨ad160, e160, hx160_0, hx160_1⟩ := at_T26 HR0.out a1 p160 q160
                                                obtain rfl : ad153 = ad160 := (by injection e160)
                                                replace hx160_0 := (HB.out.cell (World.block_lt_of_cell? w _ hx160_0)).trans hx160_0
                                                replace hx160_1 := (HB.out.cell (World.block_lt_of_cell? w _ hx160_1)).trans hx160_1
                                                replace p160 := eq_true p160
                                                replace q160 := eq_true q160
                                                have p161 : 0 ≤ (a1 : Int) := of_decide_eq_true (by first | (with_reducible assumption) | assumption)
                                                have q161 : a1 < (l0.length : Int) := of_decide_eq_true (by first | (with_reducible assumption) | assumption)
                                                obtain ⟨ad161, e161, hx161_0, hx161_1⟩ := at_T26 HR0.out a1 p161 q161
                                                obtain rfl : ad153 = ad161 := (by injection e161)
                                                replace hx161_0 := (HB.out.cell (World.block_lt_of_cell? w _ hx161_0)).trans hx161_0
                                                replace hx161_1 := (HB.out.cell (World.block_lt_of_cell? w _ hx161_1)).trans hx161_1
                                                replace p161 := eq_true p161
                                                replace q161 := eq_true q161
                                                have p162 : 0 ≤ (a1 : Int) := of_decide_eq_true (by first | (with_reducible assumption) | assumption)
                                                have q162 : a1 < (l0.length : Int) := of_decide_eq_true (by first | (with_reducible assumption) | assumption)
                                                obtain ⟨ad162, e162, hx162_0, hx162_1⟩ := at_T26 HR0.out a1 p162 q162
                                                obtain rfl : ad153 = ad162 := (by injection e162)
                                                replace hx162_0 := (HB.out.cell (World.block_lt_of_cell? w _ hx162_0)).trans hx162_0
                                                replace hx162_1 := (HB.out.cell (World.block_lt_of_cell? w _ hx162_1)).trans hx162_1
                                                replace p162 := eq_true p162
                                                replace q162 := eq_true q162
                                                have p163 : 0 ≤ (a1 : Int) := of_decide_eq_true (by first | (with_reducible assumption) | assumption)
                                                have q163 : a1 < (l0.length : Int) := of_decide_eq_true (by first | (with_reducible assumption) | assumption)
                                                obtain ⟨ad163, e163, hx163_0, hx163_1⟩ := at_T26 HR0.out a1 p163 q163
                                                obtain rfl : ad153 = ad163 := (by injection e163)
                                                replace hx163_0 := (HB.out.cell (World.block_lt_of_cell? w _ hx163_0)).trans hx163_0
                                                replace hx163_1 := (HB.out.cell (World.block_lt_of_cell? w _ hx163_1)).trans hx163_1
                                                replace p163 := eq_true p163
                                                replace q163 := eq_true q163
                                                have p164 : 0 ≤ (a2 : Int) := of_decide_eq_true (by first | (with_reducible assumption) | assumption)
                                                have q164 : a2 < (l0.length : Int) := of_decide_eq_true (by first | (with_reducible assumption) | assumption)
                                                obtain ⟨ad164, e164, hx164_0, hx164_1⟩ := at_T26 HR0.out a2 p164 q164
                                                obtain rfl : ad153 = ad164 := (by injection e164)
                                                replace hx164_0 := (HB.out.cell (World.block_lt_of_cell? w _ hx164_0)).trans hx164_0
                                                replace hx164_1 := (HB.out.cell (World.block_lt_of_cell? w _ hx164_1)).trans hx164_1
                                                replace p164 := eq_true p164
                                                replace q164 := eq_true q164
                                                have p165 : 0 ≤ (a1 : Int) := of_decide_eq_true (by first | (with_reducible assumption) | assumption)
                                                have q165 : a1 < (l0.length : Int) := of_decide_eq_true (by first | (with_reducible assumption) | assumption)
                                                obtain ⟨ad165, e165, hx165_0, hx165_1⟩ := at_T26 HR0.out a1 p165 q165
                                                obtain rfl : ad153 = ad165 := (by injection e165)
                                                replace hx165_0 := (HB.out.cell (World.block_lt_of_cell? w _ hx165_0)).trans hx165_0
                                                replace hx165_1 := (HB.out.cell (World.block_lt_of_cell? w _ hx165_1)).trans hx165_1
                                                replace p165 := eq_true p165
                                                replace q165 := eq_true q165
                                                have p166 : 0 ≤ (a2 : Int) := of_decide_eq_true (by first | (with_reducible assumption) | assumption)
                                                have q166 : a2 < (l0.length : Int) := of_decide_eq_true (by first | (with_reducible assumption) | assumption)
                                                obtain ⟨ad166, e166, hx166_0, hx166_1⟩ := at_T26 HR0.out a2 p166 q166
                                                obtain rfl : ad153 = ad166 := (by injection e166)
                                                replace hx166_0 := (HB.out.cell (World.block_lt_of_cell? w _ hx166_0)).trans hx166_0
                                                replace hx166_1 := (HB.out.cell (World.block_lt_of_cell? w _ hx166_1)).trans hx166_1
                                                replace p166 := eq_true p166
                                                replace q166 := eq_true q166
                                                go_wp2
                                                repeat (go_quiet (fail); try go_wp2)
                                                go_ret
                                                exact ⟨by first | rfl | (simp [errW_none, errW_some] <;> rfl) | (simp [*, errW_none, errW_some] <;> rfl), by repeat (first | (with_reducible first | exact HB.out | apply below_alloc | apply pw_below_drewN | apply below_drew1) | exact HB.out)⟩
                                              · rw [if_neg c49] at H
                                                have c49b0 : decide (((rd_T26 l0 a1).f0) < ((rd_T26 l0 a2).f0)) = false := decide_eq_false c49
                                                clear c49
                                                by_cases c50 : t148 ≥ t149
                                                · rw [if_pos c50] at H
                                                  have c50b0 : decide (t149 ≤ t148) = true := decide_eq_true c50
                                                  clear c50
                                                  obtain rfl := Option.some.inj H
                                                  have p159 : 0 ≤ (a1 : Int) := of_decide_eq_true (by first | (with_reducible assumption) | assumption)
                                                  have q159 : a1 < (l0.length : Int) := of_decide_eq_true (by first | (with_reducible assumption) | assumption)
                                                  obtain ⟨ad159, e159, hx159_0, hx159_1⟩ := at_T26 HR0.out a1 p159 q159
                                                  obtain rfl : ad153 = ad159 := (by injection e159)
                                                  replace hx159_0 := (HB.out.cell (World.block_lt_of_cell? w _ hx159_0)).trans hx159_0
                                                  replace hx159_1 := (HB.out.cell (World.block_lt_of_cell? w _ hx159_1)).trans hx159_1
                                                  replace p159 := eq_true p159
                                                  replace q159 := eq_true q159
                                                  have p160 : 0 ≤ (a1 : Int) := of_decide_eq_true (by first | (with_reducible assumption) | assumption)
                                                  have q160 : a1 < (l0.length : Int) := of_decide_eq_true (by first | (with_reducible assumption) | assumption)
                                                  obtain ⟨ad160, e160, hx160_0, hx160_1⟩ := at_T26 HR0.out a1 p160 q160
                                                  obtain rfl : ad153 = ad160 := (by injection e160)
                                                  replace hx160_0 := (HB.out.cell (World.block_lt_of_cell? w _ hx160_0)).trans hx160_0
                                                  replace hx160_1 := (HB.out.cell (World.block_lt_of_cell? w _ hx160_1)).trans hx160_1
                                                  replace p160 := eq_true p160
                                                  replace q160 := eq_true q160
                                                  have p161 : 0 ≤ (a1 : Int) := of_decide_eq_true (by first | (with_reducible assumption) | assumption)
                                                  have q161 : a1 < (l0.length : Int) := of_decide_eq_true (by first | (with_reducible assumption) | assumption)
                                                  obtain ⟨ad161, e161, hx161_0, hx161_1⟩ := at_T26 HR0.out a1 p161 q161
                                                  obtain rfl : ad153 = ad161 := (by injection e161)
                                                  replace hx161_0 := (HB.out.cell (World.block_lt_of_cell? w _ hx161_0)).trans hx161_0
                                                  replace hx161_1 := (HB.out.cell (World.block_lt_of_cell? w _ hx161_1)).trans hx161_1
                                                  replace p161 := eq_true p161
                                                  replace q161 := eq_true q161
                                                  have p162 : 0 ≤ (a1 : Int) := of_decide_eq_true (by first | (with_reducible assumption) | assumption)
                                                  have q162 : a1 < (l0.length : Int) := of_decide_eq_true (by first | (with_reducible assumption) | assumption)
                                                  obtain ⟨ad162, e162, hx162_0, hx162_1⟩ := at_T26 HR0.out a1 p162 q162
                                                  obtain rfl : ad153 = ad162 := (by injection e162)
                                                  replace hx162_0 := (HB.out.cell (World.block_lt_of_cell? w _ hx162_0)).trans hx162_0
                                                  replace hx162_1 := (HB.out.cell (World.block_lt_of_cell? w _ hx162_1)).trans hx162_1
                                                  replace p162 := eq_true p162
                                                  replace q162 := eq_true q162
                                                  have p163 : 0 ≤ (a1 : Int) := of_decide_eq_true (by first | (with_reducible assumption) | assumption)
                                                  have q163 : a1 < (l0.length : Int) := of_decide_eq_true (by first | (with_reducible assumption) | assumption)
                                                  obtain ⟨ad163, e163, hx163_0, hx163_1⟩ := at_T26 HR0.out a1 p163 q163
                                                  obtain rfl : ad153 = ad163 := (by injection e163)
                                                  replace hx163_0 := (HB.out.cell (World.block_lt_of_cell? w _ hx163_0)).trans hx163_0
                                                  replace hx163_1 := (HB.out.cell (World.block_lt_of_cell? w _ hx163_1)).trans hx163_1
                                                  replace p163 := eq_true p163
                                                  replace q163 := eq_true q163
                                                  have p164 : 0 ≤ (a2 : Int) := of_decide_eq_true (by first | (with_reducible assumption) | assumption)
                                                  have q164 : a2 < (l0.length : Int) := of_decide_eq_true (by first | (with_reducible assumption) | assumption)
                                                  obtain ⟨ad164, e164, hx164_0, hx164_1⟩ := at_T26 HR0.out a2 p164 q164
                                                  obtain rfl : ad153 = ad164 := (by injection e164)
                                                  replace hx164_0 := (HB.out.cell (World.block_lt_of_cell? w _ hx164_0)).trans hx164_0
                                                  replace hx164_1 := (HB.out.cell (World.block_lt_of_cell? w _ hx164_1)).trans hx164_1
                                                  replace p164 := eq_true p164
                                                  replace q164 := eq_true q164
                                                  have p165 : 0 ≤ (a1 : Int) := of_decide_eq_true (by first | (with_reducible assumption) | assumption)
                                                  have q165 : a1 < (l0.length : Int) := of_decide_eq_true (by first | (with_reducible assumption) | assumption)
                                                  obtain ⟨ad165, e165, hx165_0, hx165_1⟩ := at_T26 HR0.out a1 p165 q165
                                                  obtain rfl : ad153 = ad165 := (by injection e165)
                                                  replace hx165_0 := (HB.out.cell (World.block_lt_of_cell? w _ hx165_0)).trans hx165_0
                                                  replace hx165_1 := (HB.out.cell (World.block_lt_of_cell? w _ hx165_1)).trans hx165_1
                                                  replace p165 := eq_true p165
                                                  replace q165 := eq_true q165
                                                  have p166 : 0 ≤ (a2 : Int) := of_decide_eq_true (by first | (with_reducible assumption) | assumption)
                                                  have q166 : a2 < (l0.length : Int) := of_decide_eq_true (by first | (with_reducible assumption) | assumption)
                                                  obtain ⟨ad166, e166, hx166_0, hx166_1⟩ := at_T26 HR0.out a2 p166 q166
                                                  obtain rfl : ad153 = ad166 := (by injection e166)
                                                  replace hx166_0 := (HB.out.cell (World.block_lt_of_cell? w _ hx166_0)).trans hx166_0
                                                  replace hx166_1 := (HB.out.cell (World.block_lt_of_cell? w _ hx166_1)).trans hx166_1
                                                  replace p166 := eq_true p166
                                                  replace q166 := eq_true q166
                                                  go_wp2
                                                  repeat (go_quiet (fail); try go_wp2)
                                                  go_ret
                                                  exact ⟨by first | rfl | (simp [errW_none, errW_some] <;> rfl) | (simp [*, errW_none, errW_some] <;> rfl), by repeat (first | (with_reducible first | exact HB.out | apply below_alloc | apply pw_below_drewN | apply below_drew1) | exact HB.out)⟩
                                                · rw [if_neg c50] at H
                                                  have c50b0 : decide (t149 ≤ t148) = false := decide_eq_false c50
                                                  clear c50
                                                  obtain rfl := Option.some.inj H
                                                  have p159 : 0 ≤ (a1 : Int) := of_decide_eq_true (by first | (with_reducible assumption) | assumption)
                                                  have q159 : a1 < (l0.length : Int) := of_decide_eq_true (by first | (with_reducible assumption) | assumption)
                                                  obtain ⟨ad159, e159, hx159_0, hx159_1⟩ := at_T26 HR0.out a1 p159 q159
                                                  obtain rfl : ad153 = ad159 := (by injection e159)
                                                  replace hx159_0 := (HB.out.cell (World.block_lt_of_cell? w _ hx159_0)).trans hx159_0
                                                  replace hx159_1 := (HB.out.cell (World.block_lt_of_cell? w _ hx159_1)).trans hx159_1
                                                  replace p159 := eq_true p159
                                                  replace q159 := eq_true q159
                                                  have p160 : 0 ≤ (a1 : Int) := of_decide_eq_true (by first | (with_reducible assumption) | assumption)
                                                  have q160 : a1 < (l0.length : Int) := of_decide_eq_true (by first | (with_reducible assumption) | assumption)
                                                  obtain ⟨ad160, e160, hx160_0, hx160_1⟩ := at_T26 HR0.out a1 p160 q160
                                                  obtain rfl : ad153 = ad160 := (by injection e160)
                                                  replace hx160_0 := (HB.out.cell (World.block_lt_of_cell? w _ hx160_0)).trans hx160_0
                                                  replace hx160_1 := (HB.out.cell (World.block_lt_of_cell? w _ hx160_1)).trans hx160_1
                                                  replace p160 := eq_true p160
                                                  replace q160 := eq_true q160
                                                  have p161 : 0 ≤ (a1 : Int) := of_decide_eq_true (by first | (with_reducible assumption) | assumption)
                                                  have q161 : a1 < (l0.length : Int) := of_decide_eq_true (by first | (with_reducible assumption) | assumption)
                                                  obtain ⟨ad161, e161, hx161_0, hx161_1⟩ := at_T26 HR0.out a1 p161 q161
                                                  obtain rfl : ad153 = ad161 := (by injection e161)
                                                  replace hx161_0 := (HB.out.cell (World.block_lt_of_cell? w _ hx161_0)).trans hx161_0
                                                  replace hx161_1 := (HB.out.cell (World.block_lt_of_cell? w _ hx161_1)).trans hx161_1
                                                  replace p161 := eq_true p161
                                                  replace q161 := eq_true q161
                                                  have p162 : 0 ≤ (a1 : Int) := of_decide_eq_true (by first | (with_reducible assumption) | assumption)
                                                  have q162 : a1 < (l0.length : Int) := of_decide_eq_true (by first | (with_reducible assumption) | assumption)
                                                  obtain ⟨ad162, e162, hx162_0, hx162_1⟩ := at_T26 HR0.out a1 p162 q162
                                                  obtain rfl : ad153 = ad162 := (by injection e162)
                                                  replace hx162_0 := (HB.out.cell (World.block_lt_of_cell? w _ hx162_0)).trans hx162_0
                                                  replace hx162_1 := (HB.out.cell (World.block_lt_of_cell? w _ hx162_1)).trans hx162_1
                                                  replace p162 := eq_true p162
                                                  replace q162 := eq_true q162
                                                  have p163 : 0 ≤ (a1 : Int) := of_decide_eq_true (by first | (with_reducible assumption) | assumption)
                                                  have q163 : a1 < (l0.length : Int) := of_decide_eq_true (by first | (with_reducible assumption) | assumption)
                                                  obtain ⟨ad163, e163, hx163_0, hx163_1⟩ := at_T26 HR0.out a1 p163 q163
                                                  obtain rfl : ad153 = ad163 := (by injection e163)
                                                  replace hx163_0 := (HB.out.cell (World.block_lt_of_cell? w _ hx163_0)).trans hx163_0
                                                  replace hx163_1 := (HB.out.cell (World.block_lt_of_cell? w _ hx163_1)).trans hx163_1
                                                  replace p163 := eq_true p163
                                                  replace q163 := eq_true q163
                                                  have p164 : 0 ≤ (a2 : Int) := of_decide_eq_true (by first | (with_reducible assumption) | assumption)
                                                  have q164 : a2 < (l0.length : Int) := of_decide_eq_true (by first | (with_reducible assumption) | assumption)
                                                  obtain ⟨ad164, e164, hx164_0, hx164_1⟩ := at_T26 HR0.out a2 p164 q164
                                                  obtain rfl : ad153 = ad164 := (by injection e164)
                                                  replace hx164_0 := (HB.out.cell (World.block_lt_of_cell? w _ hx164_0)).trans hx164_0
                                                  replace hx164_1 := (HB.out.cell (World.block_lt_of_cell? w _ hx164_1)).trans hx164_1
                                                  replace p164 := eq_true p164
                                                  replace q164 := eq_true q164
                                                  have p165 : 0 ≤ (a1 : Int) := of_decide_eq_true (by first | (with_reducible assumption) | assumption)
                                                  have q165 : a1 < (l0.length : Int) := of_decide_eq_true (by first | (with_reducible assumption) | assumption)
                                                  obtain ⟨ad165, e165, hx165_0, hx165_1⟩ := at_T26 HR0.out a1 p165 q165
                                                  obtain rfl : ad153 = ad165 := (by injection e165)
                                                  replace hx165_0 := (HB.out.cell (World.block_lt_of_cell? w _ hx165_0)).trans hx165_0
                                                  replace hx165_1 := (HB.out.cell (World.block_lt_of_cell? w _ hx165_1)).trans hx165_1
                                                  replace p165 := eq_true p165
                                                  replace q165 := eq_true q165
                                                  have p166 : 0 ≤ (a2 : Int) := of_decide_eq_true (by first | (with_reducible assumption) | assumption)
                                                  have q166 : a2 < (l0.length : Int) := of_decide_eq_true (by first | (with_reducible assumption) | assumption)
                                                  obtain ⟨ad166, e166, hx166_0, hx166_1⟩ := at_T26 HR0.out a2 p166 q166
                                                  obtain rfl : ad153 = ad166 := (by injection e166)
                                                  replace hx166_0 := (HB.out.cell (World.block_lt_of_cell? w _ hx166_0)).trans hx166_0
                                                  replace hx166_1 := (HB.out.cell (World.block_lt_of_cell? w _ hx166_1)).trans hx166_1
                                                  replace p166 := eq_true p166
                                                  replace q166 := eq_true q166
                                                  have p167 : 0 ≤ (a2 : Int) := of_decide_eq_true (by first | (with_reducible assumption) | assumption)
                                                  have q167 : a2 < (l0.length : Int) := of_decide_eq_true (by first | (with_reducible assumption) | assumption)
                                                  obtain ⟨ad167, e167, hx167_0, hx167_1⟩ := at_T26 HR0.out a2 p167 q167
                                                  obtain rfl : ad153 = ad167 := (by injection e167)
                                                  replace hx167_0 := (HB.out.cell (World.block_lt_of_cell? w _ hx167_0)).trans hx167_0
                                                  replace hx167_1 := (HB.out.cell (World.block_lt_of_cell? w _ hx167_1)).trans hx167_1
                                                  replace p167 := eq_true p167
                                                  replace q167 := eq_true q167
                                                  go_wp2
                                                  repeat (go_quiet (fail); try go_wp2)
                                                  go_ret
                                                  exact ⟨by first | rfl | (simp [errW_none, errW_some] <;> rfl) | (simp [*, errW_none, errW_some] <;> rfl), by repeat (first | (with_reducible first | exact HB.out | apply below_alloc | apply pw_below_drewN | apply below_drew1) | exact HB.out)⟩
                                            · rw [if_neg c48] at H
                                              have c48b0 : (((rd_T26 l0 a1).f1) == ((rd_T26 l0 a2).f1)) = false := beq_eq_false_iff_ne.mpr c48
                                              have c48b1 : (((rd_T26 l0 a1).f1) != ((rd_T26 l0 a2).f1)) = true := bne_iff_ne.mpr c48
                                              obtain rfl := Option.some.inj H
                                              have p159 : 0 ≤ (a1 : Int) := of_decide_eq_true (by first | (with_reducible assumption) | assumption)
                                              have q159 : a1 < (l0.length : Int) := of_decide_eq_true (by first | (with_reducible assumption) | assumption)
                                              obtain ⟨ad159, e159, hx159_0, hx159_1⟩ := at_T26 HR0.out a1 p159 q159
                                              obtain rfl : ad153 = ad159 := (by injection e159)
                                              replace hx159_0 := (HB.out.cell (World.block_lt_of_cell? w _ hx159_0)).trans hx159_0
                                              replace hx159_1 := (HB.out.cell (World.block_lt_of_cell? w _ hx159_1)).trans hx159_1
                                              replace p159 := eq_true p159
                                              replace q159 := eq_true q159
                                              have p160 : 0 ≤ (a1 : Int) := of_decide_eq_true (by first | (with_reducible assumption) | assumption)
                                              have q160 : a1 < (l0.length : Int) := of_decide_eq_true (by first | (with_reducible assumption) | assumption)
                                              obtain ⟨ad160, e160, hx160_0, hx160_1⟩ := at_T26 HR0.out a1 p160 q160
                                              obtain rfl : ad153 = ad160 := (by injection e160)
                                              replace hx160_0 := (HB.out.cell (World.block_lt_of_cell? w _ hx160_0)).trans hx160_0
                                              replace hx160_1 := (HB.out.cell (World.block_lt_of_cell? w _ hx160_1)).trans hx160_1
                                              replace p160 := eq_true p160
                                              replace q160 := eq_true q160
                                              have p161 : 0 ≤ (a1 : Int) := of_decide_eq_true (by first | (with_reducible assumption) | assumption)
                                              have q161 : a1 < (l0.length : Int) := of_decide_eq_true (by first | (with_reducible assumption) | assumption)
                                              obtain ⟨ad161, e161, hx161_0, hx161_1⟩ := at_T26 HR0.out a1 p161 q161
                                              obtain rfl : ad153 = ad161 := (by injection e161)
                                              replace hx161_0 := (HB.out.cell (World.block_lt_of_cell? w _ hx161_0)).trans hx161_0
                                              replace hx161_1 := (HB.out.cell (World.block_lt_of_cell? w _ hx161_1)).trans hx161_1
                                              replace p161 := eq_true p161
                                              replace q161 := eq_true q161
                                              have p162 : 0 ≤ (a1 : Int) := of_decide_eq_true (by first | (with_reducible assumption) | assumption)
                                              have q162 : a1 < (l0.length : Int) := of_decide_eq_true (by first | (with_reducible assumption) | assumption)
                                              obtain ⟨ad162, e162, hx162_0, hx162_1⟩ := at_T26 HR0.out a1 p162 q162
                                              obtain rfl : ad153 = ad162 := (by injection e162)
                                              replace hx162_0 := (HB.out.cell (World.block_lt_of_cell? w _ hx162_0)).trans hx162_0
                                              replace hx162_1 := (HB.out.cell (World.block_lt_of_cell? w _ hx162_1)).trans hx162_1
                                              replace p162 := eq_true p162
                                              replace q162 := eq_true q162
                                              have p163 : 0 ≤ (a1 : Int) := of_decide_eq_true (by first | (with_reducible assumption) | assumption)
                                              have q163 : a1 < (l0.length : Int) := of_decide_eq_true (by first | (with_reducible assumption) | assumption)
                                              obtain ⟨ad163, e163, hx163_0, hx163_1⟩ := at_T26 HR0.out a1 p163 q163
                                              obtain rfl : ad153 = ad163 := (by injection e163)
                                              replace hx163_0 := (HB.out.cell (World.block_lt_of_cell? w _ hx163_0)).trans hx163_0
                                              replace hx163_1 := (HB.out.cell (World.block_lt_of_cell? w _ hx163_1)).trans hx163_1
                                              replace p163 := eq_true p163
                                              replace q163 := eq_true q163
                                              have p164 : 0 ≤ (a2 : Int) := of_decide_eq_true (by first | (with_reducible assumption) | assumption)
                                              have q164 : a2 < (l0.length : Int) := of_decide_eq_true (by first | (with_reducible assumption) | assumption)
                                              obtain ⟨ad164, e164, hx164_0, hx164_1⟩ := at_T26 HR0.out a2 p164 q164
                                              obtain rfl : ad153 = ad164 := (by injection e164)
                                              replace hx164_0 := (HB.out.cell (World.block_lt_of_cell? w _ hx164_0)).trans hx164_0
                                              replace hx164_1 := (HB.out.cell (World.block_lt_of_cell? w _ hx164_1)).trans hx164_1
                                              replace p164 := eq_true p164
                                              replace q164 := eq_true q164
                                              go_wp2
                                              repeat (go_quiet (fail); try go_wp2)
                                              go_ret
                                              exact ⟨by first | rfl | (simp [errW_none, errW_some] <;> rfl) | (simp [*, errW_none, errW_some] <;> rfl), by repeat (first | (with_reducible first | exact HB.out | apply below_alloc | apply pw_below_drewN | apply below_drew1) | exact HB.out)⟩
                                          · rw [if_neg c47] at H
                                            exact absurd H (by simp)
                                        · rw [if_neg c46] at H
                                          exact absurd H (by simp)
                              · rw [if_neg c41] at H
                                exact absurd H (by simp)
                            · rw [if_neg c40] at H
                              exact absurd H (by simp)
                    · rw [if_neg c23] at H
                      exact absurd H (by simp)
                  · rw [if_neg c22] at H
                    exact absurd H (by simp)
                · rw [if_neg c20] at H
                  exact absurd H (by simp)
              · rw [if_neg c19] at H
                exact absurd H (by simp)
            · rw [if_neg c18] at H
              exact absurd H (by simp)
          · rw [if_neg c17] at H
            exact absurd H (by simp)
        · rw [if_neg c16] at H
          exact absurd H (by simp)

end Go.Proofs.Ytdbnhmipbbadjaa.PXmpShare
