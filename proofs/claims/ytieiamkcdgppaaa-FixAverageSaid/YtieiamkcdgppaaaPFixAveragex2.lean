-- Written by a program of this session (wip/hprint.py), over the kit's print.py: the walk of one law. Lean checks it.
import Derived.Test.YtieiamkcdgppaaaPFixAveragex0
import Derived.Test.YtieiamkcdgppaaaPFixAveragex1
namespace Go.Proofs.Ytieiamkcdgppaaa.PFixAverage
open Go.RowKit Go.Proofs.YtieiamkcdgppaaaW.PrintWords Go.Proofs.YtieiamkcdgppaaaW.PrintLast Go.Proofs.YtieiamkcdgppaaaW.PrintMore
attribute [local go_sem] max2_int min2_int max_two min_two max_three min_three max_four min_four   -- for this text's walks alone
set_option linter.unusedVariables false
set_option linter.unusedSimpArgs false

/-! ### fourinhandlaw01_FixAverage: function 8 -/
def fourinhandlaw01_FixAverage.j0 : Nat → Int → Int → Int → Bool → Int → Bool → Option (Bool)
  | 0, _, _, _, _, _, _ => none
  | k + 1, x0, x1, x2, x7, x8, x23 => if x23 = true then (if x7 = true then (some (x8 == 0)) else (some false)) else (if x2 = 0 then (if x8 = x1 then (if x0 = x1 then (if x8 = x0 then (if x8 ≥ x0 then (if x8 ≤ x1 then (some true) else (if x8 ≤ x0 then (some (decide (x8 ≥ x1))) else (some false))) else (if x8 ≤ x0 then (some (decide (x8 ≥ x1))) else (some false))) else (some false)) else (if x8 ≥ x0 then (if x8 ≤ x1 then (some true) else (if x8 ≤ x0 then (some (decide (x8 ≥ x1))) else (some false))) else (if x8 ≤ x0 then (some (decide (x8 ≥ x1))) else (some false)))) else (some false)) else (if x0 = x1 then (if x8 = x0 then (if x8 ≥ x0 then (if x8 ≤ x1 then (some true) else (if x8 ≤ x0 then (some (decide (x8 ≥ x1))) else (some false))) else (if x8 ≤ x0 then (some (decide (x8 ≥ x1))) else (some false))) else (some false)) else (if x8 ≥ x0 then (if x8 ≤ x1 then (some true) else (if x8 ≤ x0 then (some (decide (x8 ≥ x1))) else (some false))) else (if x8 ≤ x0 then (some (decide (x8 ≥ x1))) else (some false)))))
def fourinhandlaw01_FixAverage.f (k : Nat) (a0 : Int) (a1 : Int) (a2 : Int) : Option (Bool) := (fourinhandlaw01_awake.f k).bind fun t122 => ((fix_Ewma.f a0 a1 a2).bind fun bt123 => (if t122 = true then (fourinhandlaw01_FixAverage.j0 k a0 a1 a2 t122 bt123.1 (!bt123.2)) else (fourinhandlaw01_FixAverage.j0 k a0 a1 a2 t122 bt123.1 true)))
theorem fourinhandlaw01_FixAverage.mono_l : ∀ k, (∀ y0 y1 y2 y3 y4 y5, LeO (fourinhandlaw01_FixAverage.j0 k y0 y1 y2 y3 y4 y5) (fourinhandlaw01_FixAverage.j0 (k + 1) y0 y1 y2 y3 y4 y5))
  | 0 => fun _ _ _ _ _ _ r h => by simp [fourinhandlaw01_FixAverage.j0] at h
  | k + 1 => by
    have ih0 := fourinhandlaw01_FixAverage.mono_l k
    · intro y0 y1 y2 y3 y4 y5
      unfold fourinhandlaw01_FixAverage.j0
      repeat' first
      | (with_reducible exact ih0 _ _ _ _ _ _)
      | (with_reducible exact fourinhandlaw01_awake.mono _)
      | (with_reducible exact LeO.refl _)
      | (with_reducible exact LeO.none _)
      | (with_reducible refine LeO.ite ?_ ?_)
      | (with_reducible refine LeO.bind ?_ (fun _ => ?_))
      | exact ih0 _ _ _ _ _ _
      | exact fourinhandlaw01_awake.mono _
      | exact LeO.none _
      | refine LeO.ite ?_ ?_
      | refine LeO.bind ?_ (fun _ => ?_)
theorem fourinhandlaw01_FixAverage.mono : ∀ a0 a1 a2 k, LeO (fourinhandlaw01_FixAverage.f k a0 a1 a2) (fourinhandlaw01_FixAverage.f (k + 1) a0 a1 a2) := by
  intro a0 a1 a2 k
  have ih0 := fourinhandlaw01_FixAverage.mono_l k
  unfold fourinhandlaw01_FixAverage.f
  repeat' first
      | (with_reducible exact ih0 _ _ _ _ _ _)
      | (with_reducible exact fourinhandlaw01_awake.mono _)
      | (with_reducible exact LeO.refl _)
      | (with_reducible exact LeO.none _)
      | (with_reducible refine LeO.ite ?_ ?_)
      | (with_reducible refine LeO.bind ?_ (fun _ => ?_))
      | exact ih0 _ _ _ _ _ _
      | exact fourinhandlaw01_awake.mono _
      | exact LeO.none _
      | refine LeO.ite ?_ ?_
      | refine LeO.bind ?_ (fun _ => ?_)
set_option maxHeartbeats 8000000 in
set_option maxRecDepth 100000 in
theorem fourinhandlaw01_FixAverage.calls (k : Nat) (a0 : Int) (a1 : Int) (a2 : Int) (r : Bool) (w : World) (h : fourinhandlaw01_FixAverage.f k a0 a1 a2 = some r) :
    Calls Try.prog 8 #[.int .i64 a0, .int .i64 a1, .int .i64 a2] w fun e w' => e = .returned (.bool r) ∧ Below w.heap.size w w' := by
  have HB := Aside0.mk (Below.refl w.heap.size w)
  have H : ((fourinhandlaw01_awake.f k).bind fun t122 => ((fix_Ewma.f a0 a1 a2).bind fun bt123 => (if t122 = true then (fourinhandlaw01_FixAverage.j0 k a0 a1 a2 t122 bt123.1 (!bt123.2)) else (fourinhandlaw01_FixAverage.j0 k a0 a1 a2 t122 bt123.1 true)))) = some r := h
  clear h
  replace H := Option.bind_eq_some_iff.mp H
  obtain ⟨t122, A40, H⟩ := H
  replace H : ((fix_Ewma.f a0 a1 a2).bind fun bt123 => (if t122 = true then (fourinhandlaw01_FixAverage.j0 k a0 a1 a2 t122 bt123.1 (!bt123.2)) else (fourinhandlaw01_FixAverage.j0 k a0 a1 a2 t122 bt123.1 true))) = some r := H
  have A4 := Aside0.mk A40
  clear A40
  replace H := Option.bind_eq_some_iff.mp H
  obtain ⟨⟨t123, t124⟩, A50, H⟩ := H
  replace H : (if t122 = true then (fourinhandlaw01_FixAverage.j0 k a0 a1 a2 t122 t123 (!t124)) else (fourinhandlaw01_FixAverage.j0 k a0 a1 a2 t122 t123 true)) = some r := H
  have A5 := Aside0.mk A50
  clear A50
  have HC6 := Aside0.mk H
  clear H
  go_enter Try.func8, Try.ntmps8
  go_upto_region 3 with (first | ((with_reducible refine gate_callee (f := 11) rfl ?_); refine goesL_ (some 10) rfl rfl Try.func11 (by kernel_rfl) rfl #[] rfl (by (try simp only [List.map_toArray, List.map_cons, List.map_nil]); first | done | rfl | (simp only [List.length_drop, List.length_take]; rfl)) ?_; (with_reducible refine (fourinhandlaw01_awake.calls k  t122 _ A4.out).mono ?_); rintro e w7 ⟨rfl, hb⟩; refine ⟨_, rfl, ?_⟩; have n0_ := Aside0.mk (below_step (by repeat (first | (with_reducible first | exact HB.out | apply below_alloc | apply pw_below_drewN | apply below_drew1) | exact HB.out)) hb); clear HB; have HB := n0_; clear n0_; (try clear hb); (try clear hb2); (try clear hk); (try clear hi)) | ((with_reducible refine gate_callee (f := 19) rfl ?_); refine goesL_ (some 15) rfl rfl Try.func19 (by kernel_rfl) rfl #[.int .i64 a0, .int .i64 a1, .int .i64 a2] rfl (by (try simp only [List.map_toArray, List.map_cons, List.map_nil]); first | done | rfl | (simp only [List.length_drop, List.length_take]; rfl)) ?_; (with_reducible refine (fix_Ewma.calls a0 a1 a2 t123 t124 _ A5.out).mono ?_); rintro e w8 ⟨rfl, hb⟩; refine ⟨_, rfl, ?_⟩; have n0_ := Aside0.mk (below_step (by repeat (first | (with_reducible first | exact HB.out | apply below_alloc | apply pw_below_drewN | apply below_drew1) | exact HB.out)) hb); clear HB; have HB := n0_; clear n0_; (try clear hb); (try clear hb2); (try clear hk); (try clear hi)))
  (try simp only [Act.put, List.setIfInBounds_toArray, List.set_cons_zero, List.set_cons_succ])
  go_cut [23] (fun v23 wc => ∃ (kq : Nat) (x23_5 : Bool), v23 = .bool x23_5 ∧ Aside0 (fourinhandlaw01_FixAverage.j0 kq a0 a1 a2 t122 t123 x23_5 = some r) ∧ Aside0 (kq ≤ k) ∧ Aside0 (Below w.heap.size w wc))
  case first =>
    have H := HC6.out
    clear HC6
    by_cases c9 : t122 = true
    · subst c9
      have H1 : (fourinhandlaw01_FixAverage.j0 k a0 a1 a2 true t123 (!t124)) = some r := by rw [if_pos rfl] at H; exact H
      clear H
      have H := H1
      clear H1
      have H' := Aside0.mk H
      clear H
      go_wp2
      go_meet
      case rel => exact ⟨_, (!t124), (by first | rfl | (simp; done) | (simp [*]; done)), H', ⟨by first | omega | exact Nat.le_refl _⟩, ⟨by repeat (first | (with_reducible first | exact HB.out | apply below_alloc | apply pw_below_drewN | apply below_drew1) | exact HB.out)⟩⟩
    · replace c9 := Bool.eq_false_iff.mpr c9
      subst c9
      have H1 : (fourinhandlaw01_FixAverage.j0 k a0 a1 a2 false t123 true) = some r := by rw [if_neg (show ¬ (false = true) by decide)] at H; exact H
      clear H
      have H := H1
      clear H1
      have H' := Aside0.mk H
      clear H
      go_wp2
      go_meet
      case rel => exact ⟨_, (true), (by first | rfl | (simp; done) | (simp [*]; done)), H', ⟨by first | omega | exact Nat.le_refl _⟩, ⟨by repeat (first | (with_reducible first | exact HB.out | apply below_alloc | apply pw_below_drewN | apply below_drew1) | exact HB.out)⟩⟩
  case rest =>
    clear HC6
    try clear c1
    try clear p2
    try clear c8
    try clear c9
    obtain ⟨kq, x23_5, rfl, HA, HJ5, HB⟩ := hcut
    cases kq with
    | zero => exact absurd HA.out (by simp [fourinhandlaw01_FixAverage.j0])
    | succ kj5 =>
      have H := HA.out
      clear HA
      simp only [fourinhandlaw01_FixAverage.j0] at H
      by_cases c10 : x23_5 = true
      · subst c10
        have H1 : (if t122 = true then (some (t123 == 0)) else (some false)) = some r := by rw [if_pos rfl] at H; exact H
        clear H
        have H := H1
        clear H1
        by_cases c11 : t122 = true
        · subst c11
          have H1 : (some (t123 == 0)) = some r := by rw [if_pos rfl] at H; exact H
          clear H
          have H := H1
          clear H1
          obtain rfl := Option.some.inj H
          go_wp2
          go_ret
          exact ⟨by first | rfl | (simp [errW_none, errW_some] <;> rfl) | (simp [*, errW_none, errW_some] <;> rfl), by repeat (first | (with_reducible first | exact HB.out | apply below_alloc | apply pw_below_drewN | apply below_drew1) | exact HB.out)⟩
        · replace c11 := Bool.eq_false_iff.mpr c11
          subst c11
          have H1 : (some false) = some r := by rw [if_neg (show ¬ (false = true) by decide)] at H; exact H
          clear H
          have H := H1
          clear H1
          obtain rfl := Option.some.inj H
          go_wp2
          go_ret
          exact ⟨by first | rfl | (simp [errW_none, errW_some] <;> rfl) | (simp [*, errW_none, errW_some] <;> rfl), by repeat (first | (with_reducible first | exact HB.out | apply below_alloc | apply pw_below_drewN | apply below_drew1) | exact HB.out)⟩
      · replace c10 := Bool.eq_false_iff.mpr c10
        subst c10
        have H1 : (if a2 = 0 then (if t123 = a1 then (if a0 = a1 then (if t123 = a0 then (if t123 ≥ a0 then (if t123 ≤ a1 then (some true) else (if t123 ≤ a0 then (some (decide (t123 ≥ a1))) else (some false))) else (if t123 ≤ a0 then (some (decide (t123 ≥ a1))) else (some false))) else (some false)) else (if t123 ≥ a0 then (if t123 ≤ a1 then (some true) else (if t123 ≤ a0 then (some (decide (t123 ≥ a1))) else (some false))) else (if t123 ≤ a0 then (some (decide (t123 ≥ a1))) else (some false)))) else (some false)) else (if a0 = a1 then (if t123 = a0 then (if t123 ≥ a0 then (if t123 ≤ a1 then (some true) else (if t123 ≤ a0 then (some (decide (t123 ≥ a1))) else (some false))) else (if t123 ≤ a0 then (some (decide (t123 ≥ a1))) else (some false))) else (some false)) else (if t123 ≥ a0 then (if t123 ≤ a1 then (some true) else (if t123 ≤ a0 then (some (decide (t123 ≥ a1))) else (some false))) else (if t123 ≤ a0 then (some (decide (t123 ≥ a1))) else (some false))))) = some r := by rw [if_neg (show ¬ (false = true) by decide)] at H; exact H
        clear H
        have H := H1
        clear H1
        by_cases c12 : a2 = 0
        · rw [if_pos c12] at H
          have c12b0 : (a2 == 0) = true := beq_iff_eq.mpr c12
          have c12b1 : (a2 != 0) = false := bne_eq_false_iff_eq.mpr c12
          clear c12
          by_cases c13 : t123 = a1
          · rw [if_pos c13] at H
            have c13b0 : (t123 == a1) = true := beq_iff_eq.mpr c13
            have c13b1 : (t123 != a1) = false := bne_eq_false_iff_eq.mpr c13
            clear c13
            by_cases c14 : a0 = a1
            · rw [if_pos c14] at H
              have c14b0 : (a0 == a1) = true := beq_iff_eq.mpr c14
              have c14b1 : (a0 != a1) = false := bne_eq_false_iff_eq.mpr c14
              clear c14
              by_cases c15 : t123 = a0
              · rw [if_pos c15] at H
                have c15b0 : (t123 == a0) = true := beq_iff_eq.mpr c15
                have c15b1 : (t123 != a0) = false := bne_eq_false_iff_eq.mpr c15
                clear c15
                by_cases c16 : t123 ≥ a0
                · rw [if_pos c16] at H
                  have c16b0 : decide (a0 ≤ t123) = true := decide_eq_true c16
                  clear c16
                  by_cases c17 : t123 ≤ a1
                  · rw [if_pos c17] at H
                    have c17b0 : decide (t123 ≤ a1) = true := decide_eq_true c17
                    clear c17
                    obtain rfl := Option.some.inj H
                    go_wp2
                    go_ret
                    exact ⟨by first | rfl | (simp [errW_none, errW_some] <;> rfl) | (simp [*, errW_none, errW_some] <;> rfl), by repeat (first | (with_reducible first | exact HB.out | apply below_alloc | apply pw_below_drewN | apply below_drew1) | exact HB.out)⟩
                  · rw [if_neg c17] at H
                    have c17b0 : decide (t123 ≤ a1) = false := decide_eq_false c17
                    clear c17
                    by_cases c18 : t123 ≤ a0
                    · rw [if_pos c18] at H
                      have c18b0 : decide (t123 ≤ a0) = true := decide_eq_true c18
                      clear c18
                      obtain rfl := Option.some.inj H
                      go_wp2
                      go_ret
                      exact ⟨by first | rfl | (simp [errW_none, errW_some] <;> rfl) | (simp [*, errW_none, errW_some] <;> rfl), by repeat (first | (with_reducible first | exact HB.out | apply below_alloc | apply pw_below_drewN | apply below_drew1) | exact HB.out)⟩
                    · rw [if_neg c18] at H
                      have c18b0 : decide (t123 ≤ a0) = false := decide_eq_false c18
                      clear c18
                      obtain rfl := Option.some.inj H
                      go_wp2
                      go_ret
                      exact ⟨by first | rfl | (simp [errW_none, errW_some] <;> rfl) | (simp [*, errW_none, errW_some] <;> rfl), by repeat (first | (with_reducible first | exact HB.out | apply below_alloc | apply pw_below_drewN | apply below_drew1) | exact HB.out)⟩
                · rw [if_neg c16] at H
                  have c16b0 : decide (a0 ≤ t123) = false := decide_eq_false c16
                  clear c16
                  by_cases c19 : t123 ≤ a0
                  · rw [if_pos c19] at H
                    have c19b0 : decide (t123 ≤ a0) = true := decide_eq_true c19
                    clear c19
                    obtain rfl := Option.some.inj H
                    go_wp2
                    go_ret
                    exact ⟨by first | rfl | (simp [errW_none, errW_some] <;> rfl) | (simp [*, errW_none, errW_some] <;> rfl), by repeat (first | (with_reducible first | exact HB.out | apply below_alloc | apply pw_below_drewN | apply below_drew1) | exact HB.out)⟩
                  · rw [if_neg c19] at H
                    have c19b0 : decide (t123 ≤ a0) = false := decide_eq_false c19
                    clear c19
                    obtain rfl := Option.some.inj H
                    go_wp2
                    go_ret
                    exact ⟨by first | rfl | (simp [errW_none, errW_some] <;> rfl) | (simp [*, errW_none, errW_some] <;> rfl), by repeat (first | (with_reducible first | exact HB.out | apply below_alloc | apply pw_below_drewN | apply below_drew1) | exact HB.out)⟩
              · rw [if_neg c15] at H
                have c15b0 : (t123 == a0) = false := beq_eq_false_iff_ne.mpr c15
                have c15b1 : (t123 != a0) = true := bne_iff_ne.mpr c15
                obtain rfl := Option.some.inj H
                go_wp2
                go_ret
                exact ⟨by first | rfl | (simp [errW_none, errW_some] <;> rfl) | (simp [*, errW_none, errW_some] <;> rfl), by repeat (first | (with_reducible first | exact HB.out | apply below_alloc | apply pw_below_drewN | apply below_drew1) | exact HB.out)⟩
            · rw [if_neg c14] at H
              have c14b0 : (a0 == a1) = false := beq_eq_false_iff_ne.mpr c14
              have c14b1 : (a0 != a1) = true := bne_iff_ne.mpr c14
              by_cases c20 : t123 ≥ a0
              · rw [if_pos c20] at H
                have c20b0 : decide (a0 ≤ t123) = true := decide_eq_true c20
                clear c20
                by_cases c21 : t123 ≤ a1
                · rw [if_pos c21] at H
                  have c21b0 : decide (t123 ≤ a1) = true := decide_eq_true c21
                  clear c21
                  obtain rfl := Option.some.inj H
                  go_wp2
                  go_ret
                  exact ⟨by first | rfl | (simp [errW_none, errW_some] <;> rfl) | (simp [*, errW_none, errW_some] <;> rfl), by repeat (first | (with_reducible first | exact HB.out | apply below_alloc | apply pw_below_drewN | apply below_drew1) | exact HB.out)⟩
                · rw [if_neg c21] at H
                  have c21b0 : decide (t123 ≤ a1) = false := decide_eq_false c21
                  clear c21
                  by_cases c22 : t123 ≤ a0
                  · rw [if_pos c22] at H
                    have c22b0 : decide (t123 ≤ a0) = true := decide_eq_true c22
                    clear c22
                    obtain rfl := Option.some.inj H
                    go_wp2
                    go_ret
                    exact ⟨by first | rfl | (simp [errW_none, errW_some] <;> rfl) | (simp [*, errW_none, errW_some] <;> rfl), by repeat (first | (with_reducible first | exact HB.out | apply below_alloc | apply pw_below_drewN | apply below_drew1) | exact HB.out)⟩
                  · rw [if_neg c22] at H
                    have c22b0 : decide (t123 ≤ a0) = false := decide_eq_false c22
                    clear c22
                    obtain rfl := Option.some.inj H
                    go_wp2
                    go_ret
                    exact ⟨by first | rfl | (simp [errW_none, errW_some] <;> rfl) | (simp [*, errW_none, errW_some] <;> rfl), by repeat (first | (with_reducible first | exact HB.out | apply below_alloc | apply pw_below_drewN | apply below_drew1) | exact HB.out)⟩
              · rw [if_neg c20] at H
                have c20b0 : decide (a0 ≤ t123) = false := decide_eq_false c20
                clear c20
                by_cases c23 : t123 ≤ a0
                · rw [if_pos c23] at H
                  have c23b0 : decide (t123 ≤ a0) = true := decide_eq_true c23
                  clear c23
                  obtain rfl := Option.some.inj H
                  go_wp2
                  go_ret
                  exact ⟨by first | rfl | (simp [errW_none, errW_some] <;> rfl) | (simp [*, errW_none, errW_some] <;> rfl), by repeat (first | (with_reducible first | exact HB.out | apply below_alloc | apply pw_below_drewN | apply below_drew1) | exact HB.out)⟩
                · rw [if_neg c23] at H
                  have c23b0 : decide (t123 ≤ a0) = false := decide_eq_false c23
                  clear c23
                  obtain rfl := Option.some.inj H
                  go_wp2
                  go_ret
                  exact ⟨by first | rfl | (simp [errW_none, errW_some] <;> rfl) | (simp [*, errW_none, errW_some] <;> rfl), by repeat (first | (with_reducible first | exact HB.out | apply below_alloc | apply pw_below_drewN | apply below_drew1) | exact HB.out)⟩
          · rw [if_neg c13] at H
            have c13b0 : (t123 == a1) = false := beq_eq_false_iff_ne.mpr c13
            have c13b1 : (t123 != a1) = true := bne_iff_ne.mpr c13
            obtain rfl := Option.some.inj H
            go_wp2
            go_ret
            exact ⟨by first | rfl | (simp [errW_none, errW_some] <;> rfl) | (simp [*, errW_none, errW_some] <;> rfl), by repeat (first | (with_reducible first | exact HB.out | apply below_alloc | apply pw_below_drewN | apply below_drew1) | exact HB.out)⟩
        · rw [if_neg c12] at H
          have c12b0 : (a2 == 0) = false := beq_eq_false_iff_ne.mpr c12
          have c12b1 : (a2 != 0) = true := bne_iff_ne.mpr c12
          by_cases c24 : a0 = a1
          · rw [if_pos c24] at H
            have c24b0 : (a0 == a1) = true := beq_iff_eq.mpr c24
            have c24b1 : (a0 != a1) = false := bne_eq_false_iff_eq.mpr c24
            clear c24
            by_cases c25 : t123 = a0
            · rw [if_pos c25] at H
              have c25b0 : (t123 == a0) = true := beq_iff_eq.mpr c25
              have c25b1 : (t123 != a0) = false := bne_eq_false_iff_eq.mpr c25
              clear c25
              by_cases c26 : t123 ≥ a0
              · rw [if_pos c26] at H
                have c26b0 : decide (a0 ≤ t123) = true := decide_eq_true c26
                clear c26
                by_cases c27 : t123 ≤ a1
                · rw [if_pos c27] at H
                  have c27b0 : decide (t123 ≤ a1) = true := decide_eq_true c27
                  clear c27
                  obtain rfl := Option.some.inj H
                  go_wp2
                  go_ret
                  exact ⟨by first | rfl | (simp [errW_none, errW_some] <;> rfl) | (simp [*, errW_none, errW_some] <;> rfl), by repeat (first | (with_reducible first | exact HB.out | apply below_alloc | apply pw_below_drewN | apply below_drew1) | exact HB.out)⟩
                · rw [if_neg c27] at H
                  have c27b0 : decide (t123 ≤ a1) = false := decide_eq_false c27
                  clear c27
                  by_cases c28 : t123 ≤ a0
                  · rw [if_pos c28] at H
                    have c28b0 : decide (t123 ≤ a0) = true := decide_eq_true c28
                    clear c28
                    obtain rfl := Option.some.inj H
                    go_wp2
                    go_ret
                    exact ⟨by first | rfl | (simp [errW_none, errW_some] <;> rfl) | (simp [*, errW_none, errW_some] <;> rfl), by repeat (first | (with_reducible first | exact HB.out | apply below_alloc | apply pw_below_drewN | apply below_drew1) | exact HB.out)⟩
                  · rw [if_neg c28] at H
                    have c28b0 : decide (t123 ≤ a0) = false := decide_eq_false c28
                    clear c28
                    obtain rfl := Option.some.inj H
                    go_wp2
                    go_ret
                    exact ⟨by first | rfl | (simp [errW_none, errW_some] <;> rfl) | (simp [*, errW_none, errW_some] <;> rfl), by repeat (first | (with_reducible first | exact HB.out | apply below_alloc | apply pw_below_drewN | apply below_drew1) | exact HB.out)⟩
              · rw [if_neg c26] at H
                have c26b0 : decide (a0 ≤ t123) = false := decide_eq_false c26
                clear c26
                by_cases c29 : t123 ≤ a0
                · rw [if_pos c29] at H
                  have c29b0 : decide (t123 ≤ a0) = true := decide_eq_true c29
                  clear c29
                  obtain rfl := Option.some.inj H
                  go_wp2
                  go_ret
                  exact ⟨by first | rfl | (simp [errW_none, errW_some] <;> rfl) | (simp [*, errW_none, errW_some] <;> rfl), by repeat (first | (with_reducible first | exact HB.out | apply below_alloc | apply pw_below_drewN | apply below_drew1) | exact HB.out)⟩
                · rw [if_neg c29] at H
                  have c29b0 : decide (t123 ≤ a0) = false := decide_eq_false c29
                  clear c29
                  obtain rfl := Option.some.inj H
                  go_wp2
                  go_ret
                  exact ⟨by first | rfl | (simp [errW_none, errW_some] <;> rfl) | (simp [*, errW_none, errW_some] <;> rfl), by repeat (first | (with_reducible first | exact HB.out | apply below_alloc | apply pw_below_drewN | apply below_drew1) | exact HB.out)⟩
            · rw [if_neg c25] at H
              have c25b0 : (t123 == a0) = false := beq_eq_false_iff_ne.mpr c25
              have c25b1 : (t123 != a0) = true := bne_iff_ne.mpr c25
              obtain rfl := Option.some.inj H
              go_wp2
              go_ret
              exact ⟨by first | rfl | (simp [errW_none, errW_some] <;> rfl) | (simp [*, errW_none, errW_some] <;> rfl), by repeat (first | (with_reducible first | exact HB.out | apply below_alloc | apply pw_below_drewN | apply below_drew1) | exact HB.out)⟩
          · rw [if_neg c24] at H
            have c24b0 : (a0 == a1) = false := beq_eq_false_iff_ne.mpr c24
            have c24b1 : (a0 != a1) = true := bne_iff_ne.mpr c24
            by_cases c30 : t123 ≥ a0
            · rw [if_pos c30] at H
              have c30b0 : decide (a0 ≤ t123) = true := decide_eq_true c30
              clear c30
              by_cases c31 : t123 ≤ a1
              · rw [if_pos c31] at H
                have c31b0 : decide (t123 ≤ a1) = true := decide_eq_true c31
                clear c31
                obtain rfl := Option.some.inj H
                go_wp2
                go_ret
                exact ⟨by first | rfl | (simp [errW_none, errW_some] <;> rfl) | (simp [*, errW_none, errW_some] <;> rfl), by repeat (first | (with_reducible first | exact HB.out | apply below_alloc | apply pw_below_drewN | apply below_drew1) | exact HB.out)⟩
              · rw [if_neg c31] at H
                have c31b0 : decide (t123 ≤ a1) = false := decide_eq_false c31
                clear c31
                by_cases c32 : t123 ≤ a0
                · rw [if_pos c32] at H
                  have c32b0 : decide (t123 ≤ a0) = true := decide_eq_true c32
                  clear c32
                  obtain rfl := Option.some.inj H
                  go_wp2
                  go_ret
                  exact ⟨by first | rfl | (simp [errW_none, errW_some] <;> rfl) | (simp [*, errW_none, errW_some] <;> rfl), by repeat (first | (with_reducible first | exact HB.out | apply below_alloc | apply pw_below_drewN | apply below_drew1) | exact HB.out)⟩
                · rw [if_neg c32] at H
                  have c32b0 : decide (t123 ≤ a0) = false := decide_eq_false c32
                  clear c32
                  obtain rfl := Option.some.inj H
                  go_wp2
                  go_ret
                  exact ⟨by first | rfl | (simp [errW_none, errW_some] <;> rfl) | (simp [*, errW_none, errW_some] <;> rfl), by repeat (first | (with_reducible first | exact HB.out | apply below_alloc | apply pw_below_drewN | apply below_drew1) | exact HB.out)⟩
            · rw [if_neg c30] at H
              have c30b0 : decide (a0 ≤ t123) = false := decide_eq_false c30
              clear c30
              by_cases c33 : t123 ≤ a0
              · rw [if_pos c33] at H
                have c33b0 : decide (t123 ≤ a0) = true := decide_eq_true c33
                clear c33
                obtain rfl := Option.some.inj H
                go_wp2
                go_ret
                exact ⟨by first | rfl | (simp [errW_none, errW_some] <;> rfl) | (simp [*, errW_none, errW_some] <;> rfl), by repeat (first | (with_reducible first | exact HB.out | apply below_alloc | apply pw_below_drewN | apply below_drew1) | exact HB.out)⟩
              · rw [if_neg c33] at H
                have c33b0 : decide (t123 ≤ a0) = false := decide_eq_false c33
                clear c33
                obtain rfl := Option.some.inj H
                go_wp2
                go_ret
                exact ⟨by first | rfl | (simp [errW_none, errW_some] <;> rfl) | (simp [*, errW_none, errW_some] <;> rfl), by repeat (first | (with_reducible first | exact HB.out | apply below_alloc | apply pw_below_drewN | apply below_drew1) | exact HB.out)⟩

/-- THE ONE PURE STATEMENT of fourinhandlaw01_FixAverage: yours. -/
def fourinhandlaw01_FixAverage.Pure : Prop := ∀ (a0 : Int) (a1 : Int) (a2 : Int), (Lit.int .i64 a0).wf = true → (Lit.int .i64 a1).wf = true → (Lit.int .i64 a2).wf = true → ∃ k, fourinhandlaw01_FixAverage.f k a0 a1 a2 = some true
theorem fourinhandlaw01_FixAverage.walk (P : fourinhandlaw01_FixAverage.Pure) (a0 : Int) (a1 : Int) (a2 : Int) (w : World) (w0 : (Lit.int .i64 a0).wf = true) (w1 : (Lit.int .i64 a1).wf = true) (w2 : (Lit.int .i64 a2).wf = true) :
    Calls Try.prog 8 #[.int .i64 a0, .int .i64 a1, .int .i64 a2] w fun e w' => e = .returned (.bool true) ∧ Below w.heap.size w w' := by
  obtain ⟨k, h⟩ := P a0 a1 a2 w0 w1 w2
  refine (fourinhandlaw01_FixAverage.calls k a0 a1 a2 true w h).mono ?_
  rintro e w' ⟨rfl, hd⟩
  exact ⟨rfl, hd⟩

end Go.Proofs.Ytieiamkcdgppaaa.PFixAverage
