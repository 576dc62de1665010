-- Written by a program of this session (wip/hprint.py), over the kit's print.py: the walk of one law. Lean checks it.
import Derived.Test.YthklaiedabekjaaPMarksRoundsx0
import Derived.Test.YthklaiedabekjaaPMarksRoundsx3
namespace Go.Proofs.Ythklaiedabekjaa.PMarksRounds
open Go.RowKit Go.Proofs.YthklaiedabekjaaW.PrintWords Go.Proofs.YthklaiedabekjaaW.PrintLast Go.Proofs.YthklaiedabekjaaW.PrintMore
attribute [local go_sem] max2_int min2_int max_two min_two max_three min_three max_four min_four   -- for this text's walks alone
set_option linter.unusedVariables false
set_option linter.unusedSimpArgs false

/-! ### fourinhandlaw10_MarksRounds: function 4 -/
mutual
def fourinhandlaw10_MarksRounds.j0 : Nat → Int → Int → Bool → Bool → Bool → Option (Bool)
  | 0, _, _, _, _, _ => none
  | k + 1, x0, x1, x2, x7, x30 => if x30 = true then (some x7) else (fourinhandlaw10_MarksRounds.l0 k x1 x2 0 0 0 0 0 x0)
def fourinhandlaw10_MarksRounds.l0 : Nat → Int → Bool → Int → Int → Int → Int → Int → Int → Option (Bool)
  | 0, _, _, _, _, _, _, _, _ => none
  | k + 1, x1, x2, x9, x146000, x146001, x146002, x146003, x146004 => if x9 < x1 then (if x2 = true then (fourinhandlaw10_MarksRounds.j2 k x1 x2 x9 x146000 x146001 50 50 x146004) else (fourinhandlaw10_MarksRounds.j2 k x1 x2 x9 x146000 x146001 50 0 x146004)) else (if x1 < 100 then (fourinhandlaw10_MarksRounds.j4 k true) else (if x2 = true then (if x146004 ≥ 1009 then (fourinhandlaw10_MarksRounds.j4 k true) else (fourinhandlaw10_MarksRounds.j4 k false)) else (fourinhandlaw10_MarksRounds.j4 k (decide (x146004 ≤ 100)))))
def fourinhandlaw10_MarksRounds.j2 : Nat → Int → Bool → Int → Int → Int → Int → Int → Int → Option (Bool)
  | 0, _, _, _, _, _, _, _, _ => none
  | k + 1, x1, x2, x9, x146000, x146001, x146002, x146003, x146004 => (marks_Round.f k x146000 x146001 x146002 x146003 x146004).bind fun bt146 => (if bt146.2.2.2.2.2 = 0 then (if x2 = true then (if bt146.2.2.2.2.1 < x146004 then (fourinhandlaw10_MarksRounds.j3 k x1 x2 x9 true bt146.1 bt146.2.1 bt146.2.2.1 bt146.2.2.2.1 bt146.2.2.2.2.1) else (fourinhandlaw10_MarksRounds.j3 k x1 x2 x9 false bt146.1 bt146.2.1 bt146.2.2.1 bt146.2.2.2.1 bt146.2.2.2.2.1)) else (if bt146.2.2.2.2.1 > x146004 then (fourinhandlaw10_MarksRounds.j3 k x1 x2 x9 true bt146.1 bt146.2.1 bt146.2.2.1 bt146.2.2.2.1 bt146.2.2.2.2.1) else (if x146004 > 0 then (fourinhandlaw10_MarksRounds.j3 k x1 x2 x9 (bt146.2.2.2.2.1 == x146004) bt146.1 bt146.2.1 bt146.2.2.1 bt146.2.2.2.1 bt146.2.2.2.2.1) else (fourinhandlaw10_MarksRounds.j3 k x1 x2 x9 false bt146.1 bt146.2.1 bt146.2.2.1 bt146.2.2.2.1 bt146.2.2.2.2.1)))) else (fourinhandlaw10_MarksRounds.j3 k x1 x2 x9 true bt146.1 bt146.2.1 bt146.2.2.1 bt146.2.2.2.1 bt146.2.2.2.2.1))
def fourinhandlaw10_MarksRounds.j3 : Nat → Int → Bool → Int → Bool → Int → Int → Int → Int → Int → Option (Bool)
  | 0, _, _, _, _, _, _, _, _, _ => none
  | k + 1, x1, x2, x9, x86, x153000, x153001, x153002, x153003, x153004 => if x86 = true then (some false) else (fourinhandlaw10_MarksRounds.l0 k x1 x2 (wrap64 (x9 + 1)) x153000 x153001 x153002 x153003 x153004)
def fourinhandlaw10_MarksRounds.j4 : Nat → Bool → Option (Bool)
  | 0, _ => none
  | k + 1, x6 => some x6
end
def fourinhandlaw10_MarksRounds.f (k : Nat) (a0 : Int) (a1 : Int) (a2 : Bool) : Option (Bool) := (fourinhandlaw10_awake.f k).bind fun t144 => (if t144 = true then (if a0 < 0 then (fourinhandlaw10_MarksRounds.j0 k a0 a1 a2 t144 true) else (if a0 > 1024 then (fourinhandlaw10_MarksRounds.j0 k a0 a1 a2 t144 true) else (if a1 < 0 then (fourinhandlaw10_MarksRounds.j0 k a0 a1 a2 t144 true) else (fourinhandlaw10_MarksRounds.j0 k a0 a1 a2 t144 (decide (a1 > 100)))))) else (fourinhandlaw10_MarksRounds.j0 k a0 a1 a2 t144 true))
theorem fourinhandlaw10_MarksRounds.mono_l : ∀ k, (∀ y0 y1 y2 y3 y4, LeO (fourinhandlaw10_MarksRounds.j0 k y0 y1 y2 y3 y4) (fourinhandlaw10_MarksRounds.j0 (k + 1) y0 y1 y2 y3 y4)) ∧ (∀ y0 y1 y2 y3 y4 y5 y6 y7, LeO (fourinhandlaw10_MarksRounds.l0 k y0 y1 y2 y3 y4 y5 y6 y7) (fourinhandlaw10_MarksRounds.l0 (k + 1) y0 y1 y2 y3 y4 y5 y6 y7)) ∧ (∀ y0 y1 y2 y3 y4 y5 y6 y7, LeO (fourinhandlaw10_MarksRounds.j2 k y0 y1 y2 y3 y4 y5 y6 y7) (fourinhandlaw10_MarksRounds.j2 (k + 1) y0 y1 y2 y3 y4 y5 y6 y7)) ∧ (∀ y0 y1 y2 y3 y4 y5 y6 y7 y8, LeO (fourinhandlaw10_MarksRounds.j3 k y0 y1 y2 y3 y4 y5 y6 y7 y8) (fourinhandlaw10_MarksRounds.j3 (k + 1) y0 y1 y2 y3 y4 y5 y6 y7 y8)) ∧ (∀ y0, LeO (fourinhandlaw10_MarksRounds.j4 k y0) (fourinhandlaw10_MarksRounds.j4 (k + 1) y0))
  | 0 => ⟨fun _ _ _ _ _ r h => by simp [fourinhandlaw10_MarksRounds.j0] at h, fun _ _ _ _ _ _ _ _ r h => by simp [fourinhandlaw10_MarksRounds.l0] at h, fun _ _ _ _ _ _ _ _ r h => by simp [fourinhandlaw10_MarksRounds.j2] at h, fun _ _ _ _ _ _ _ _ _ r h => by simp [fourinhandlaw10_MarksRounds.j3] at h, fun _ r h => by simp [fourinhandlaw10_MarksRounds.j4] at h⟩
  | k + 1 => by
    obtain ⟨ih0, ih1, ih2, ih3, ih4⟩ := fourinhandlaw10_MarksRounds.mono_l k
    refine ⟨?_, ?_, ?_, ?_, ?_⟩
    · intro y0 y1 y2 y3 y4
      unfold fourinhandlaw10_MarksRounds.j0
      repeat' first
      | (with_reducible exact ih0 _ _ _ _ _)
      | (with_reducible exact ih1 _ _ _ _ _ _ _ _)
      | (with_reducible exact ih2 _ _ _ _ _ _ _ _)
      | (with_reducible exact ih3 _ _ _ _ _ _ _ _ _)
      | (with_reducible exact ih4 _)
      | (with_reducible exact fourinhandlaw10_awake.mono _)
      | (with_reducible exact marks_Round.mono _ _ _ _ _ _)
      | (with_reducible exact LeO.refl _)
      | (with_reducible exact LeO.none _)
      | (with_reducible refine LeO.ite ?_ ?_)
      | (with_reducible refine LeO.bind ?_ (fun _ => ?_))
      | exact ih0 _ _ _ _ _
      | exact ih1 _ _ _ _ _ _ _ _
      | exact ih2 _ _ _ _ _ _ _ _
      | exact ih3 _ _ _ _ _ _ _ _ _
      | exact ih4 _
      | exact fourinhandlaw10_awake.mono _
      | exact marks_Round.mono _ _ _ _ _ _
      | exact LeO.none _
      | refine LeO.ite ?_ ?_
      | refine LeO.bind ?_ (fun _ => ?_)
    · intro y0 y1 y2 y3 y4 y5 y6 y7
      unfold fourinhandlaw10_MarksRounds.l0
      repeat' first
      | (with_reducible exact ih0 _ _ _ _ _)
      | (with_reducible exact ih1 _ _ _ _ _ _ _ _)
      | (with_reducible exact ih2 _ _ _ _ _ _ _ _)
      | (with_reducible exact ih3 _ _ _ _ _ _ _ _ _)
      | (with_reducible exact ih4 _)
      | (with_reducible exact fourinhandlaw10_awake.mono _)
      | (with_reducible exact marks_Round.mono _ _ _ _ _ _)
      | (with_reducible exact LeO.refl _)
      | (with_reducible exact LeO.none _)
      | (with_reducible refine LeO.ite ?_ ?_)
      | (with_reducible refine LeO.bind ?_ (fun _ => ?_))
      | exact ih0 _ _ _ _ _
      | exact ih1 _ _ _ _ _ _ _ _
      | exact ih2 _ _ _ _ _ _ _ _
      | exact ih3 _ _ _ _ _ _ _ _ _
      | exact ih4 _
      | exact fourinhandlaw10_awake.mono _
      | exact marks_Round.mono _ _ _ _ _ _
      | exact LeO.none _
      | refine LeO.ite ?_ ?_
      | refine LeO.bind ?_ (fun _ => ?_)
    · intro y0 y1 y2 y3 y4 y5 y6 y7
      unfold fourinhandlaw10_MarksRounds.j2
      repeat' first
      | (with_reducible exact ih0 _ _ _ _ _)
      | (with_reducible exact ih1 _ _ _ _ _ _ _ _)
      | (with_reducible exact ih2 _ _ _ _ _ _ _ _)
      | (with_reducible exact ih3 _ _ _ _ _ _ _ _ _)
      | (with_reducible exact ih4 _)
      | (with_reducible exact fourinhandlaw10_awake.mono _)
      | (with_reducible exact marks_Round.mono _ _ _ _ _ _)
      | (with_reducible exact LeO.refl _)
      | (with_reducible exact LeO.none _)
      | (with_reducible refine LeO.ite ?_ ?_)
      | (with_reducible refine LeO.bind ?_ (fun _ => ?_))
      | exact ih0 _ _ _ _ _
      | exact ih1 _ _ _ _ _ _ _ _
      | exact ih2 _ _ _ _ _ _ _ _
      | exact ih3 _ _ _ _ _ _ _ _ _
      | exact ih4 _
      | exact fourinhandlaw10_awake.mono _
      | exact marks_Round.mono _ _ _ _ _ _
      | exact LeO.none _
      | refine LeO.ite ?_ ?_
      | refine LeO.bind ?_ (fun _ => ?_)
    · intro y0 y1 y2 y3 y4 y5 y6 y7 y8
      unfold fourinhandlaw10_MarksRounds.j3
      repeat' first
      | (with_reducible exact ih0 _ _ _ _ _)
      | (with_reducible exact ih1 _ _ _ _ _ _ _ _)
      | (with_reducible exact ih2 _ _ _ _ _ _ _ _)
      | (with_reducible exact ih3 _ _ _ _ _ _ _ _ _)
      | (with_reducible exact ih4 _)
      | (with_reducible exact fourinhandlaw10_awake.mono _)
      | (with_reducible exact marks_Round.mono _ _ _ _ _ _)
      | (with_reducible exact LeO.refl _)
      | (with_reducible exact LeO.none _)
      | (with_reducible refine LeO.ite ?_ ?_)
      | (with_reducible refine LeO.bind ?_ (fun _ => ?_))
      | exact ih0 _ _ _ _ _
      | exact ih1 _ _ _ _ _ _ _ _
      | exact ih2 _ _ _ _ _ _ _ _
      | exact ih3 _ _ _ _ _ _ _ _ _
      | exact ih4 _
      | exact fourinhandlaw10_awake.mono _
      | exact marks_Round.mono _ _ _ _ _ _
      | exact LeO.none _
      | refine LeO.ite ?_ ?_
      | refine LeO.bind ?_ (fun _ => ?_)
    · intro y0
      unfold fourinhandlaw10_MarksRounds.j4
      repeat' first
      | (with_reducible exact ih0 _ _ _ _ _)
      | (with_reducible exact ih1 _ _ _ _ _ _ _ _)
      | (with_reducible exact ih2 _ _ _ _ _ _ _ _)
      | (with_reducible exact ih3 _ _ _ _ _ _ _ _ _)
      | (with_reducible exact ih4 _)
      | (with_reducible exact fourinhandlaw10_awake.mono _)
      | (with_reducible exact marks_Round.mono _ _ _ _ _ _)
      | (with_reducible exact LeO.refl _)
      | (with_reducible exact LeO.none _)
      | (with_reducible refine LeO.ite ?_ ?_)
      | (with_reducible refine LeO.bind ?_ (fun _ => ?_))
      | exact ih0 _ _ _ _ _
      | exact ih1 _ _ _ _ _ _ _ _
      | exact ih2 _ _ _ _ _ _ _ _
      | exact ih3 _ _ _ _ _ _ _ _ _
      | exact ih4 _
      | exact fourinhandlaw10_awake.mono _
      | exact marks_Round.mono _ _ _ _ _ _
      | exact LeO.none _
      | refine LeO.ite ?_ ?_
      | refine LeO.bind ?_ (fun _ => ?_)
theorem fourinhandlaw10_MarksRounds.mono : ∀ a0 a1 a2 k, LeO (fourinhandlaw10_MarksRounds.f k a0 a1 a2) (fourinhandlaw10_MarksRounds.f (k + 1) a0 a1 a2) := by
  intro a0 a1 a2 k
  obtain ⟨ih0, ih1, ih2, ih3, ih4⟩ := fourinhandlaw10_MarksRounds.mono_l k
  unfold fourinhandlaw10_MarksRounds.f
  repeat' first
      | (with_reducible exact ih0 _ _ _ _ _)
      | (with_reducible exact ih1 _ _ _ _ _ _ _ _)
      | (with_reducible exact ih2 _ _ _ _ _ _ _ _)
      | (with_reducible exact ih3 _ _ _ _ _ _ _ _ _)
      | (with_reducible exact ih4 _)
      | (with_reducible exact fourinhandlaw10_awake.mono _)
      | (with_reducible exact marks_Round.mono _ _ _ _ _ _)
      | (with_reducible exact LeO.refl _)
      | (with_reducible exact LeO.none _)
      | (with_reducible refine LeO.ite ?_ ?_)
      | (with_reducible refine LeO.bind ?_ (fun _ => ?_))
      | exact ih0 _ _ _ _ _
      | exact ih1 _ _ _ _ _ _ _ _
      | exact ih2 _ _ _ _ _ _ _ _
      | exact ih3 _ _ _ _ _ _ _ _ _
      | exact ih4 _
      | exact fourinhandlaw10_awake.mono _
      | exact marks_Round.mono _ _ _ _ _ _
      | exact LeO.none _
      | refine LeO.ite ?_ ?_
      | refine LeO.bind ?_ (fun _ => ?_)
set_option maxHeartbeats 8000000 in
set_option maxRecDepth 100000 in
theorem fourinhandlaw10_MarksRounds.calls (k : Nat) (a0 : Int) (a1 : Int) (a2 : Bool) (r : Bool) (hr_ : Aside0 (r = true)) (w : World) (h : fourinhandlaw10_MarksRounds.f k a0 a1 a2 = some r) :
    Calls Try.prog 4 #[.int .i64 a0, .int .i64 a1, .bool a2] w fun e w' => e = .returned (.bool r) ∧ Below w.heap.size w w' := by
  have hu23 := Try.underlying23
  have HB := Aside0.mk (Below.refl w.heap.size w)
  have H : ((fourinhandlaw10_awake.f k).bind fun t144 => (if t144 = true then (if a0 < 0 then (fourinhandlaw10_MarksRounds.j0 k a0 a1 a2 t144 true) else (if a0 > 1024 then (fourinhandlaw10_MarksRounds.j0 k a0 a1 a2 t144 true) else (if a1 < 0 then (fourinhandlaw10_MarksRounds.j0 k a0 a1 a2 t144 true) else (fourinhandlaw10_MarksRounds.j0 k a0 a1 a2 t144 (decide (a1 > 100)))))) else (fourinhandlaw10_MarksRounds.j0 k a0 a1 a2 t144 true))) = some r := h
  clear h
  replace H := Option.bind_eq_some_iff.mp H
  obtain ⟨t144, A40, H⟩ := H
  replace H : (if t144 = true then (if a0 < 0 then (fourinhandlaw10_MarksRounds.j0 k a0 a1 a2 t144 true) else (if a0 > 1024 then (fourinhandlaw10_MarksRounds.j0 k a0 a1 a2 t144 true) else (if a1 < 0 then (fourinhandlaw10_MarksRounds.j0 k a0 a1 a2 t144 true) else (fourinhandlaw10_MarksRounds.j0 k a0 a1 a2 t144 (decide (a1 > 100)))))) else (fourinhandlaw10_MarksRounds.j0 k a0 a1 a2 t144 true)) = some r := H
  have A4 := Aside0.mk A40
  clear A40
  have HC5 := Aside0.mk H
  clear H
  go_enter Try.func4, Try.ntmps4
  go_upto_region 2 with (first | ((with_reducible refine gate_callee (f := 8) rfl ?_); refine goesL_ (some 12) rfl rfl Try.func8 (by kernel_rfl) rfl #[] rfl (by (try simp only [List.map_toArray, List.map_cons, List.map_nil]); first | done | rfl | (simp only [List.length_drop, List.length_take]; rfl)) ?_; (with_reducible refine (fourinhandlaw10_awake.calls k  t144 _ A4.out).mono ?_); rintro e w6 ⟨rfl, hb⟩; refine ⟨_, rfl, ?_⟩; have n0_ := Aside0.mk (below_step (by repeat (first | (with_reducible first | exact HB.out | apply below_alloc | apply pw_below_drewN | apply below_drew1) | exact HB.out)) hb); clear HB; have HB := n0_; clear n0_; (try clear hb); (try clear hb2); (try clear hk); (try clear hi)))
  (try simp only [Act.put, List.setIfInBounds_toArray, List.set_cons_zero, List.set_cons_succ])
  go_cut [30] (fun v30 wc => ∃ (kq : Nat) (x30_4 : Bool), v30 = .bool x30_4 ∧ Aside0 (fourinhandlaw10_MarksRounds.j0 kq a0 a1 a2 t144 x30_4 = some r) ∧ Aside0 (kq ≤ k) ∧ Aside0 (Below w.heap.size w wc))
  case first =>
    have H := HC5.out
    clear HC5
    by_cases c7 : t144 = true
    · subst c7
      have H1 : (if a0 < 0 then (fourinhandlaw10_MarksRounds.j0 k a0 a1 a2 true true) else (if a0 > 1024 then (fourinhandlaw10_MarksRounds.j0 k a0 a1 a2 true true) else (if a1 < 0 then (fourinhandlaw10_MarksRounds.j0 k a0 a1 a2 true true) else (fourinhandlaw10_MarksRounds.j0 k a0 a1 a2 true (decide (a1 > 100)))))) = some r := by rw [if_pos rfl] at H; exact H
      clear H
      have H := H1
      clear H1
      by_cases c8 : a0 < 0
      · rw [if_pos c8] at H
        have c8b0 : decide (a0 < 0) = true := decide_eq_true c8
        clear c8
        (first | rw [c8b0] | (simp only [i64_w, i32_w]; rw [c8b0]) | skip)
        have H' := Aside0.mk H
        clear H
        go_wp2
        go_meet
        case rel => exact ⟨_, (true), (by first | rfl | (simp; done) | (simp [*]; done)), H', ⟨by first | omega | exact Nat.le_refl _⟩, ⟨by repeat (first | (with_reducible first | exact HB.out | apply below_alloc | apply pw_below_drewN | apply below_drew1) | exact HB.out)⟩⟩
      · rw [if_neg c8] at H
        have c8b0 : decide (a0 < 0) = false := decide_eq_false c8
        clear c8
        (first | rw [c8b0] | (simp only [i64_w, i32_w]; rw [c8b0]) | skip)
        by_cases c9 : a0 > 1024
        · rw [if_pos c9] at H
          have c9b0 : decide (1024 < a0) = true := decide_eq_true c9
          clear c9
          have H' := Aside0.mk H
          clear H
          go_wp2
          go_meet
          case rel => exact ⟨_, (true), (by first | rfl | (simp; done) | (simp [*]; done)), H', ⟨by first | omega | exact Nat.le_refl _⟩, ⟨by repeat (first | (with_reducible first | exact HB.out | apply below_alloc | apply pw_below_drewN | apply below_drew1) | exact HB.out)⟩⟩
        · rw [if_neg c9] at H
          have c9b0 : decide (1024 < a0) = false := decide_eq_false c9
          clear c9
          by_cases c10 : a1 < 0
          · rw [if_pos c10] at H
            have c10b0 : decide (a1 < 0) = true := decide_eq_true c10
            clear c10
            have H' := Aside0.mk H
            clear H
            go_wp2
            go_meet
            case rel => exact ⟨_, (true), (by first | rfl | (simp; done) | (simp [*]; done)), H', ⟨by first | omega | exact Nat.le_refl _⟩, ⟨by repeat (first | (with_reducible first | exact HB.out | apply below_alloc | apply pw_below_drewN | apply below_drew1) | exact HB.out)⟩⟩
          · rw [if_neg c10] at H
            have c10b0 : decide (a1 < 0) = false := decide_eq_false c10
            clear c10
            have H' := Aside0.mk H
            clear H
            go_wp2
            go_meet
            case rel => exact ⟨_, (decide (a1 > 100)), (by first | rfl | (simp; done) | (simp [*]; done)), H', ⟨by first | omega | exact Nat.le_refl _⟩, ⟨by repeat (first | (with_reducible first | exact HB.out | apply below_alloc | apply pw_below_drewN | apply below_drew1) | exact HB.out)⟩⟩
    · replace c7 := Bool.eq_false_iff.mpr c7
      subst c7
      have H1 : (fourinhandlaw10_MarksRounds.j0 k a0 a1 a2 false true) = some r := by rw [if_neg (show ¬ (false = true) by decide)] at H; exact H
      clear H
      have H := H1
      clear H1
      have H' := Aside0.mk H
      clear H
      go_wp2
      go_meet
      case rel => exact ⟨_, (true), (by first | rfl | (simp; done) | (simp [*]; done)), H', ⟨by first | omega | exact Nat.le_refl _⟩, ⟨by repeat (first | (with_reducible first | exact HB.out | apply below_alloc | apply pw_below_drewN | apply below_drew1) | exact HB.out)⟩⟩
  case rest =>
    clear HC5
    try clear c1
    try clear p2
    try clear c4
    try clear c7
    try clear c8
    try clear c8b0
    try clear c9
    try clear c9b0
    try clear c10
    try clear c10b0
    obtain ⟨kq, x30_4, rfl, HA, HJ4, HB⟩ := hcut
    cases kq with
    | zero => exact absurd HA.out (by simp [fourinhandlaw10_MarksRounds.j0])
    | succ kj4 =>
      have H := HA.out
      clear HA
      simp only [fourinhandlaw10_MarksRounds.j0] at H
      by_cases c11 : x30_4 = true
      · subst c11
        have H1 : (some t144) = some r := by rw [if_pos rfl] at H; exact H
        clear H
        have H := H1
        clear H1
        obtain rfl := Option.some.inj H
        go_wp2
        go_ret
        exact ⟨by first | rfl | (simp [errW_none, errW_some] <;> rfl) | (simp [*, errW_none, errW_some] <;> rfl), by repeat (first | (with_reducible first | exact HB.out | apply below_alloc | apply pw_below_drewN | apply below_drew1) | exact HB.out)⟩
      · replace c11 := Bool.eq_false_iff.mpr c11
        subst c11
        have H1 : (fourinhandlaw10_MarksRounds.l0 kj4 a1 a2 0 0 0 0 0 a0) = some r := by rw [if_neg (show ¬ (false = true) by decide)] at H; exact H
        clear H
        have H := H1
        clear H1
        have H' := Aside0.mk H
        clear H
        go_wp2_with (first | ((with_reducible refine gate_dst (N := 8) rfl ?_); refine box_event ?hg (N := 8) ?hd (cs := #[.int .i64 0, .int .i64 0, .int .i64 0, .int .i64 0, .int .i64 0]) (t := 23) ?hr ?_; (case hd => rfl); (case hg => rfl); (case hr => first | (go_simp; done) | (go_simp; rfl)); intro gb145 hg w12 hbox hb; have n0_ := Aside0.mk (below_step (by repeat (first | (with_reducible first | exact HB.out | apply below_alloc | apply pw_below_drewN | apply below_drew1) | exact HB.out)) hb); have n1_ := Aside0.mk (hbox); have n2_ := Aside0.mk ((by rw [hg]; exact (below_size (by repeat (first | (with_reducible first | exact HB.out | apply below_alloc | apply pw_below_drewN | apply below_drew1) | exact HB.out))) : w.heap.size ≤ gb145)); have n3_ := Aside0.mk ((by rw [hg]; exact (below_size (by repeat (first | (with_reducible first | exact HB.out | apply below_alloc | apply pw_below_drewN | apply below_drew1) | exact HB.out))) : w.heap.size ≤ gb145)); clear HB; have HB := n0_; have BK145 := n1_; have GW145 := n2_; have GE145 := n3_; clear n0_ n1_ n2_ n3_; clear hb hbox hg; have hcz13_0 : w12.cell? ⟨gb145, 0, none⟩ = some (.int .i64 0) := (blk_cell BK145.out 0).trans rfl; have hcz13_1 : w12.cell? ⟨gb145, 1, none⟩ = some (.int .i64 0) := (blk_cell BK145.out 1).trans rfl; have hcz13_2 : w12.cell? ⟨gb145, 2, none⟩ = some (.int .i64 0) := (blk_cell BK145.out 2).trans rfl; have hcz13_3 : w12.cell? ⟨gb145, 3, none⟩ = some (.int .i64 0) := (blk_cell BK145.out 3).trans rfl; have hcz13_4 : w12.cell? ⟨gb145, 4, none⟩ = some (.int .i64 0) := (blk_cell BK145.out 4).trans rfl; have hfz13_0 := blk_frozen BK145.out 0; have hfz13_1 := blk_frozen BK145.out 1; have hfz13_2 := blk_frozen BK145.out 2; have hfz13_3 := blk_frozen BK145.out 3; have hfz13_4 := blk_frozen BK145.out 4))
        go_loopg [9] kj4 (fun kq v9 w' => ∃ (x9_2 : Int) (x146000_2 : Int) (x146001_2 : Int) (x146002_2 : Int) (x146003_2 : Int) (x146004_2 : Int), v9 = .int .i64 x9_2 ∧ Aside0 (fourinhandlaw10_MarksRounds.l0 kq a1 a2 x9_2 x146000_2 x146001_2 x146002_2 x146003_2 x146004_2 = some r) ∧ Aside0 (kq ≤ kj4) ∧ Aside0 (w'.heap[gb145]? = some (.cells #[.int .i64 x146000_2, .int .i64 x146001_2, .int .i64 x146002_2, .int .i64 x146003_2, .int .i64 x146004_2] 23 (0, 0))) ∧ Aside0 (Below w.heap.size w w'))
        case atStart => exact ⟨(0), (0), (0), (0), (0), (a0), (by first | rfl | (simp; done) | (simp [*]; done)), H', ⟨Nat.le_refl _⟩, ⟨by (with_reducible repeat (first | refine blk_drewN ?_ _ | refine blk_drew ?_ | refine blk_alloc ?_ _)); refine blk_put (cs := #[.int .i64 0, .int .i64 0, .int .i64 0, .int .i64 0, .int .i64 0]) ?_ 4 _ rfl; (with_reducible repeat (first | refine blk_drewN ?_ _ | refine blk_drew ?_ | refine blk_alloc ?_ _)); refine blk_put (cs := #[.int .i64 0, .int .i64 0, .int .i64 0, .int .i64 0, .int .i64 0]) ?_ 3 _ rfl; (with_reducible repeat (first | refine blk_drewN ?_ _ | refine blk_drew ?_ | refine blk_alloc ?_ _)); refine blk_put (cs := #[.int .i64 0, .int .i64 0, .int .i64 0, .int .i64 0, .int .i64 0]) ?_ 2 _ rfl; (with_reducible repeat (first | refine blk_drewN ?_ _ | refine blk_drew ?_ | refine blk_alloc ?_ _)); refine blk_put (cs := #[.int .i64 0, .int .i64 0, .int .i64 0, .int .i64 0, .int .i64 0]) ?_ 1 _ rfl; (with_reducible repeat (first | refine blk_drewN ?_ _ | refine blk_drew ?_ | refine blk_alloc ?_ _)); refine blk_put (cs := #[.int .i64 0, .int .i64 0, .int .i64 0, .int .i64 0, .int .i64 0]) ?_ 0 _ rfl; (with_reducible repeat (first | refine blk_drewN ?_ _ | refine blk_drew ?_ | refine blk_alloc ?_ _)); exact BK145.out⟩, ⟨by repeat (first | (with_reducible first | exact HB.out | apply below_alloc | apply pw_below_drewN | apply below_drew1 | refine below_set ?_ GE145.out) | exact HB.out)⟩⟩
        case round =>
          clear H'
          try clear c1
          try clear p2
          try clear c4
          try clear c7
          try clear c8
          try clear c8b0
          try clear c9
          try clear c9b0
          try clear c10
          try clear c10b0
          try clear c11
          try clear hcz13_0
          try clear hcz13_1
          try clear hcz13_2
          try clear hcz13_3
          try clear hcz13_4
          try clear hfz13_0
          try clear hfz13_1
          try clear hfz13_2
          try clear hfz13_3
          try clear hfz13_4
          try clear p2
          obtain ⟨x9_2, x146000_2, x146001_2, x146002_2, x146003_2, x146004_2, rfl, HA, HK2, BK145, HB⟩ := hrel
          cases gk with
          | zero => exact absurd HA.out (by simp [fourinhandlaw10_MarksRounds.l0])
          | succ k2 =>
            have H := HA.out
            clear HA
            simp only [fourinhandlaw10_MarksRounds.l0] at H
            by_cases c14 : x9_2 < a1
            · rw [if_pos c14] at H
              have c14b0 : decide (x9_2 < a1) = true := decide_eq_true c14
              clear c14
              have HC15 := Aside0.mk H
              clear H
              have hcz16_0 : wr.cell? ⟨gb145, 0, none⟩ = some (.int .i64 x146000_2) := (blk_cell BK145.out 0).trans rfl
              have hcz16_1 : wr.cell? ⟨gb145, 1, none⟩ = some (.int .i64 x146001_2) := (blk_cell BK145.out 1).trans rfl
              have hcz16_2 : wr.cell? ⟨gb145, 2, none⟩ = some (.int .i64 x146002_2) := (blk_cell BK145.out 2).trans rfl
              have hcz16_3 : wr.cell? ⟨gb145, 3, none⟩ = some (.int .i64 x146003_2) := (blk_cell BK145.out 3).trans rfl
              have hcz16_4 : wr.cell? ⟨gb145, 4, none⟩ = some (.int .i64 x146004_2) := (blk_cell BK145.out 4).trans rfl
              have hfz16_0 := blk_frozen BK145.out 0
              have hfz16_1 := blk_frozen BK145.out 1
              have hfz16_2 := blk_frozen BK145.out 2
              have hfz16_3 := blk_frozen BK145.out 3
              have hfz16_4 := blk_frozen BK145.out 4
              go_upto_if 41 with (fail)
              go_cut [] (fun wc => ∃ (kq : Nat) (x146003_14 : Int), Aside0 (fourinhandlaw10_MarksRounds.j2 kq a1 a2 x9_2 x146000_2 x146001_2 50 x146003_14 x146004_2 = some r) ∧ Aside0 (kq ≤ k2) ∧ Aside0 (wc.heap[gb145]? = some (.cells #[.int .i64 x146000_2, .int .i64 x146001_2, .int .i64 50, .int .i64 x146003_14, .int .i64 x146004_2] 23 (0, 0))) ∧ Aside0 (Below w.heap.size w wc))
              case first =>
                have H := HC15.out
                clear HC15
                by_cases c17 : a2 = true
                · subst c17
                  have H1 : (fourinhandlaw10_MarksRounds.j2 k2 a1 true x9_2 x146000_2 x146001_2 50 50 x146004_2) = some r := by rw [if_pos rfl] at H; exact H
                  clear H
                  have H := H1
                  clear H1
                  have H' := Aside0.mk H
                  clear H
                  have hcz18_0 : wr.cell? ⟨gb145, 0, none⟩ = some (.int .i64 x146000_2) := (blk_cell BK145.out 0).trans rfl
                  have hcz18_1 : wr.cell? ⟨gb145, 1, none⟩ = some (.int .i64 x146001_2) := (blk_cell BK145.out 1).trans rfl
                  have hcz18_2 : wr.cell? ⟨gb145, 2, none⟩ = some (.int .i64 x146002_2) := (blk_cell BK145.out 2).trans rfl
                  have hcz18_3 : wr.cell? ⟨gb145, 3, none⟩ = some (.int .i64 x146003_2) := (blk_cell BK145.out 3).trans rfl
                  have hcz18_4 : wr.cell? ⟨gb145, 4, none⟩ = some (.int .i64 x146004_2) := (blk_cell BK145.out 4).trans rfl
                  have hfz18_0 := blk_frozen BK145.out 0
                  have hfz18_1 := blk_frozen BK145.out 1
                  have hfz18_2 := blk_frozen BK145.out 2
                  have hfz18_3 := blk_frozen BK145.out 3
                  have hfz18_4 := blk_frozen BK145.out 4
                  go_wp2
                  go_meet
                  case rel => exact ⟨_, (50), H', ⟨by have := HJ4.out; have := HK2.out; first | omega | exact Nat.le_refl _⟩, ⟨by (with_reducible repeat (first | refine blk_drewN ?_ _ | refine blk_drew ?_ | refine blk_alloc ?_ _)); refine blk_put (cs := #[.int .i64 x146000_2, .int .i64 x146001_2, .int .i64 50, .int .i64 0, .int .i64 x146004_2]) ?_ 3 _ rfl; (with_reducible repeat (first | refine blk_drewN ?_ _ | refine blk_drew ?_ | refine blk_alloc ?_ _)); refine blk_put (cs := #[.int .i64 x146000_2, .int .i64 x146001_2, .int .i64 50, .int .i64 x146003_2, .int .i64 x146004_2]) ?_ 3 _ rfl; (with_reducible repeat (first | refine blk_drewN ?_ _ | refine blk_drew ?_ | refine blk_alloc ?_ _)); refine blk_put (cs := #[.int .i64 x146000_2, .int .i64 x146001_2, .int .i64 x146002_2, .int .i64 x146003_2, .int .i64 x146004_2]) ?_ 2 _ rfl; (with_reducible repeat (first | refine blk_drewN ?_ _ | refine blk_drew ?_ | refine blk_alloc ?_ _)); exact BK145.out⟩, ⟨by repeat (first | (with_reducible first | exact HB.out | apply below_alloc | apply pw_below_drewN | apply below_drew1 | refine below_set ?_ GE145.out) | exact HB.out)⟩⟩
                · replace c17 := Bool.eq_false_iff.mpr c17
                  subst c17
                  have H1 : (fourinhandlaw10_MarksRounds.j2 k2 a1 false x9_2 x146000_2 x146001_2 50 0 x146004_2) = some r := by rw [if_neg (show ¬ (false = true) by decide)] at H; exact H
                  clear H
                  have H := H1
                  clear H1
                  have H' := Aside0.mk H
                  clear H
                  go_wp2
                  go_meet
                  case rel => exact ⟨_, (0), H', ⟨by have := HJ4.out; have := HK2.out; first | omega | exact Nat.le_refl _⟩, ⟨by (with_reducible repeat (first | refine blk_drewN ?_ _ | refine blk_drew ?_ | refine blk_alloc ?_ _)); refine blk_put (cs := #[.int .i64 x146000_2, .int .i64 x146001_2, .int .i64 50, .int .i64 x146003_2, .int .i64 x146004_2]) ?_ 3 _ rfl; (with_reducible repeat (first | refine blk_drewN ?_ _ | refine blk_drew ?_ | refine blk_alloc ?_ _)); refine blk_put (cs := #[.int .i64 x146000_2, .int .i64 x146001_2, .int .i64 x146002_2, .int .i64 x146003_2, .int .i64 x146004_2]) ?_ 2 _ rfl; (with_reducible repeat (first | refine blk_drewN ?_ _ | refine blk_drew ?_ | refine blk_alloc ?_ _)); exact BK145.out⟩, ⟨by repeat (first | (with_reducible first | exact HB.out | apply below_alloc | apply pw_below_drewN | apply below_drew1 | refine below_set ?_ GE145.out) | exact HB.out)⟩⟩
              case rest =>
                clear HC15
                try clear c1
                try clear p2
                try clear c4
                try clear c7
                try clear c8
                try clear c8b0
                try clear c9
                try clear c9b0
                try clear c10
                try clear c10b0
                try clear c11
                try clear c14
                try clear c14b0
                try clear c17
                try clear hcz13_0
                try clear hcz13_1
                try clear hcz13_2
                try clear hcz13_3
                try clear hcz13_4
                try clear hcz16_0
                try clear hcz16_1
                try clear hcz16_2
                try clear hcz16_3
                try clear hcz16_4
                try clear hcz18_0
                try clear hcz18_1
                try clear hcz18_2
                try clear hcz18_3
                try clear hcz18_4
                try clear hfz13_0
                try clear hfz13_1
                try clear hfz13_2
                try clear hfz13_3
                try clear hfz13_4
                try clear hfz16_0
                try clear hfz16_1
                try clear hfz16_2
                try clear hfz16_3
                try clear hfz16_4
                try clear hfz18_0
                try clear hfz18_1
                try clear hfz18_2
                try clear hfz18_3
                try clear hfz18_4
                try clear p2
                obtain ⟨kq, x146003_14, HA, HJ14, BK145, HB⟩ := hcut
                cases kq with
                | zero => exact absurd HA.out (by simp [fourinhandlaw10_MarksRounds.j2])
                | succ kj14 =>
                  have H := HA.out
                  clear HA
                  simp only [fourinhandlaw10_MarksRounds.j2] at H
                  replace H := Option.bind_eq_some_iff.mp H
                  obtain ⟨⟨t146, t147, t148, t149, t150, t151⟩, A190, H⟩ := H
                  replace H : (if t151 = 0 then (if a2 = true then (if t150 < x146004_2 then (fourinhandlaw10_MarksRounds.j3 kj14 a1 a2 x9_2 true t146 t147 t148 t149 t150) else (fourinhandlaw10_MarksRounds.j3 kj14 a1 a2 x9_2 false t146 t147 t148 t149 t150)) else (if t150 > x146004_2 then (fourinhandlaw10_MarksRounds.j3 kj14 a1 a2 x9_2 true t146 t147 t148 t149 t150) else (if x146004_2 > 0 then (fourinhandlaw10_MarksRounds.j3 kj14 a1 a2 x9_2 (t150 == x146004_2) t146 t147 t148 t149 t150) else (fourinhandlaw10_MarksRounds.j3 kj14 a1 a2 x9_2 false t146 t147 t148 t149 t150)))) else (fourinhandlaw10_MarksRounds.j3 kj14 a1 a2 x9_2 true t146 t147 t148 t149 t150)) = some r := H
                  have A19 := Aside0.mk A190
                  clear A190
                  have HC20 := Aside0.mk H
                  clear H
                  have hcz21_0 : wc.cell? ⟨gb145, 0, none⟩ = some (.int .i64 x146000_2) := (blk_cell BK145.out 0).trans rfl
                  have hcz21_1 : wc.cell? ⟨gb145, 1, none⟩ = some (.int .i64 x146001_2) := (blk_cell BK145.out 1).trans rfl
                  have hcz21_2 : wc.cell? ⟨gb145, 2, none⟩ = some (.int .i64 50) := (blk_cell BK145.out 2).trans rfl
                  have hcz21_3 : wc.cell? ⟨gb145, 3, none⟩ = some (.int .i64 x146003_14) := (blk_cell BK145.out 3).trans rfl
                  have hcz21_4 : wc.cell? ⟨gb145, 4, none⟩ = some (.int .i64 x146004_2) := (blk_cell BK145.out 4).trans rfl
                  have hfz21_0 := blk_frozen BK145.out 0
                  have hfz21_1 := blk_frozen BK145.out 1
                  have hfz21_2 := blk_frozen BK145.out 2
                  have hfz21_3 := blk_frozen BK145.out 3
                  have hfz21_4 := blk_frozen BK145.out 4
                  go_upto_region 13 with (first | ((with_reducible refine gate_callee (f := 9) rfl ?_); refine goesL_ (some 45) rfl rfl Try.func9 (by kernel_rfl) rfl #[.agg #[.int .i64 x146000_2, .int .i64 x146001_2, .int .i64 50, .int .i64 x146003_14, .int .i64 x146004_2]] rfl (by (try simp only [List.map_toArray, List.map_cons, List.map_nil]); first | done | rfl | (simp only [List.length_drop, List.length_take]; rfl)) ?_; (with_reducible refine (marks_Round.calls kj14 x146000_2 x146001_2 50 x146003_14 x146004_2 t146 t147 t148 t149 t150 t151 _ A19.out).mono ?_); rintro e w22 ⟨rfl, hb⟩; refine ⟨_, rfl, ?_⟩; have n0_ := Aside0.mk (blk_below (g := gb145) (o := .cells #[.int .i64 x146000_2, .int .i64 x146001_2, .int .i64 50, .int .i64 x146003_14, .int .i64 x146004_2] 23 (0, 0)) (by (with_reducible repeat (first | refine blk_drewN ?_ _ | refine blk_drew ?_ | refine blk_alloc ?_ _)); exact BK145.out) hb); have n1_ := Aside0.mk (below_step (by repeat (first | (with_reducible first | exact HB.out | apply below_alloc | apply pw_below_drewN | apply below_drew1 | refine below_set ?_ GE145.out) | exact HB.out)) hb); clear BK145; clear HB; have BK145 := n0_; have HB := n1_; clear n0_ n1_; (try clear hb); (try clear hb2); (try clear hk); (try clear hi)) | ((with_reducible refine gate_dst (N := 10) rfl ?_); refine box_event ?hg (N := 10) ?hd (cs := #[.int .i64 0, .int .i64 0, .int .i64 0, .int .i64 0, .int .i64 0]) (t := 23) ?hr ?_; (case hd => rfl); (case hg => rfl); (case hr => first | (go_simp; done) | (go_simp; rfl)); intro gb152 hg w23 hbox hb; have n0_ := Aside0.mk (blk_below (g := gb145) (o := .cells #[.int .i64 x146000_2, .int .i64 x146001_2, .int .i64 50, .int .i64 x146003_14, .int .i64 x146004_2] 23 (0, 0)) (by (with_reducible repeat (first | refine blk_drewN ?_ _ | refine blk_drew ?_ | refine blk_alloc ?_ _)); exact BK145.out) hb); have n1_ := Aside0.mk (below_step (by repeat (first | (with_reducible first | exact HB.out | apply below_alloc | apply pw_below_drewN | apply below_drew1 | refine below_set ?_ GE145.out) | exact HB.out)) hb); have n2_ := Aside0.mk (hbox); have n3_ := Aside0.mk ((by rw [hg]; exact (below_size (by repeat (first | (with_reducible first | exact HB.out | apply below_alloc | apply pw_below_drewN | apply below_drew1 | refine below_set ?_ GE145.out) | exact HB.out))) : w.heap.size ≤ gb152)); have n4_ := Aside0.mk ((by rw [hg]; exact (below_size (by repeat (first | (with_reducible first | exact HB.out | apply below_alloc | apply pw_below_drewN | apply below_drew1 | refine below_set ?_ GE145.out) | exact HB.out))) : w.heap.size ≤ gb152)); have n5_ := Aside0.mk ((by rw [hg]; exact Nat.ne_of_lt (blk_lt (g := gb145) (o := .cells #[.int .i64 x146000_2, .int .i64 x146001_2, .int .i64 50, .int .i64 x146003_14, .int .i64 x146004_2] 23 (0, 0)) (by (with_reducible repeat (first | refine blk_drewN ?_ _ | refine blk_drew ?_ | refine blk_alloc ?_ _)); exact BK145.out)) : gb145 ≠ gb152)); have n6_ := Aside0.mk ((by rw [hg]; exact Nat.ne_of_gt (blk_lt (g := gb145) (o := .cells #[.int .i64 x146000_2, .int .i64 x146001_2, .int .i64 50, .int .i64 x146003_14, .int .i64 x146004_2] 23 (0, 0)) (by (with_reducible repeat (first | refine blk_drewN ?_ _ | refine blk_drew ?_ | refine blk_alloc ?_ _)); exact BK145.out)) : gb152 ≠ gb145)); clear BK145; clear HB; have BK145 := n0_; have HB := n1_; have BK152 := n2_; have GW152 := n3_; have GE152 := n4_; have NB145_152 := n5_; have NB152_145 := n6_; clear n0_ n1_ n2_ n3_ n4_ n5_ n6_; clear hb hbox hg; have hnb24 := NB152_145.out; have hnc24 := NB145_152.out; have hcz25_0 : w23.cell? ⟨gb152, 0, none⟩ = some (.int .i64 0) := (blk_cell BK152.out 0).trans rfl; have hcz25_1 : w23.cell? ⟨gb152, 1, none⟩ = some (.int .i64 0) := (blk_cell BK152.out 1).trans rfl; have hcz25_2 : w23.cell? ⟨gb152, 2, none⟩ = some (.int .i64 0) := (blk_cell BK152.out 2).trans rfl; have hcz25_3 : w23.cell? ⟨gb152, 3, none⟩ = some (.int .i64 0) := (blk_cell BK152.out 3).trans rfl; have hcz25_4 : w23.cell? ⟨gb152, 4, none⟩ = some (.int .i64 0) := (blk_cell BK152.out 4).trans rfl; have hfz25_0 := blk_frozen BK152.out 0; have hfz25_1 := blk_frozen BK152.out 1; have hfz25_2 := blk_frozen BK152.out 2; have hfz25_3 := blk_frozen BK152.out 3; have hfz25_4 := blk_frozen BK152.out 4))
                  (try simp only [Act.put, List.setIfInBounds_toArray, List.set_cons_zero, List.set_cons_succ])
                  go_cut [86] (fun v86 wc => ∃ (kq : Nat) (x86_19 : Bool), v86 = .bool x86_19 ∧ Aside0 (fourinhandlaw10_MarksRounds.j3 kq a1 a2 x9_2 x86_19 t146 t147 t148 t149 t150 = some r) ∧ Aside0 (kq ≤ kj14) ∧ Aside0 (wc.heap[gb145]? = some (.cells #[.int .i64 x146000_2, .int .i64 x146001_2, .int .i64 50, .int .i64 x146003_14, .int .i64 x146004_2] 23 (0, 0))) ∧ Aside0 (wc.heap[gb152]? = some (.cells #[.int .i64 t146, .int .i64 t147, .int .i64 t148, .int .i64 t149, .int .i64 t150] 23 (0, 0))) ∧ Aside0 (Below w.heap.size w wc))
                  case first =>
                    have H := HC20.out
                    clear HC20
                    by_cases c26 : t151 = 0
                    · rw [if_pos c26] at H
                      have c26b0 : (t151 == 0) = true := beq_iff_eq.mpr c26
                      have c26b1 : (t151 != 0) = false := bne_eq_false_iff_eq.mpr c26
                      clear c26
                      (first | rw [c26b0] | (simp only [i64_w, i32_w]; rw [c26b0]) | skip)
                      by_cases c27 : a2 = true
                      · subst c27
                        have H1 : (if t150 < x146004_2 then (fourinhandlaw10_MarksRounds.j3 kj14 a1 true x9_2 true t146 t147 t148 t149 t150) else (fourinhandlaw10_MarksRounds.j3 kj14 a1 true x9_2 false t146 t147 t148 t149 t150)) = some r := by rw [if_pos rfl] at H; exact H
                        clear H
                        have H := H1
                        clear H1
                        by_cases c28 : t150 < x146004_2
                        · rw [if_pos c28] at H
                          have c28b0 : decide (t150 < x146004_2) = true := decide_eq_true c28
                          clear c28
                          have H' := Aside0.mk H
                          clear H
                          have hnb29 := NB152_145.out
                          have hnc29 := NB145_152.out
                          have hcz30_0 : w23.cell? ⟨gb152, 0, none⟩ = some (.int .i64 0) := (blk_cell BK152.out 0).trans rfl
                          have hcz30_1 : w23.cell? ⟨gb152, 1, none⟩ = some (.int .i64 0) := (blk_cell BK152.out 1).trans rfl
                          have hcz30_2 : w23.cell? ⟨gb152, 2, none⟩ = some (.int .i64 0) := (blk_cell BK152.out 2).trans rfl
                          have hcz30_3 : w23.cell? ⟨gb152, 3, none⟩ = some (.int .i64 0) := (blk_cell BK152.out 3).trans rfl
                          have hcz30_4 : w23.cell? ⟨gb152, 4, none⟩ = some (.int .i64 0) := (blk_cell BK152.out 4).trans rfl
                          have hfz30_0 := blk_frozen BK152.out 0
                          have hfz30_1 := blk_frozen BK152.out 1
                          have hfz30_2 := blk_frozen BK152.out 2
                          have hfz30_3 := blk_frozen BK152.out 3
                          have hfz30_4 := blk_frozen BK152.out 4
                          have hcz31_0 : w23.cell? ⟨gb145, 0, none⟩ = some (.int .i64 x146000_2) := (blk_cell BK145.out 0).trans rfl
                          have hcz31_1 : w23.cell? ⟨gb145, 1, none⟩ = some (.int .i64 x146001_2) := (blk_cell BK145.out 1).trans rfl
                          have hcz31_2 : w23.cell? ⟨gb145, 2, none⟩ = some (.int .i64 50) := (blk_cell BK145.out 2).trans rfl
                          have hcz31_3 : w23.cell? ⟨gb145, 3, none⟩ = some (.int .i64 x146003_14) := (blk_cell BK145.out 3).trans rfl
                          have hcz31_4 : w23.cell? ⟨gb145, 4, none⟩ = some (.int .i64 x146004_2) := (blk_cell BK145.out 4).trans rfl
                          have hfz31_0 := blk_frozen BK145.out 0
                          have hfz31_1 := blk_frozen BK145.out 1
                          have hfz31_2 := blk_frozen BK145.out 2
                          have hfz31_3 := blk_frozen BK145.out 3
                          have hfz31_4 := blk_frozen BK145.out 4
                          go_wp2
                          go_meet
                          case rel => exact ⟨_, (true), (by first | rfl | (simp; done) | (simp [*]; done)), H', ⟨by have := HJ4.out; have := HK2.out; have := HJ14.out; first | omega | exact Nat.le_refl _⟩, ⟨by (with_reducible repeat (first | refine blk_drewN ?_ _ | refine blk_drew ?_ | refine blk_alloc ?_ _)); refine blk_far ?_ NB145_152.out _; (with_reducible repeat (first | refine blk_drewN ?_ _ | refine blk_drew ?_ | refine blk_alloc ?_ _)); refine blk_far ?_ NB145_152.out _; (with_reducible repeat (first | refine blk_drewN ?_ _ | refine blk_drew ?_ | refine blk_alloc ?_ _)); refine blk_far ?_ NB145_152.out _; (with_reducible repeat (first | refine blk_drewN ?_ _ | refine blk_drew ?_ | refine blk_alloc ?_ _)); refine blk_far ?_ NB145_152.out _; (with_reducible repeat (first | refine blk_drewN ?_ _ | refine blk_drew ?_ | refine blk_alloc ?_ _)); refine blk_far ?_ NB145_152.out _; (with_reducible repeat (first | refine blk_drewN ?_ _ | refine blk_drew ?_ | refine blk_alloc ?_ _)); exact BK145.out⟩, ⟨by (with_reducible repeat (first | refine blk_drewN ?_ _ | refine blk_drew ?_ | refine blk_alloc ?_ _)); refine blk_put (cs := #[.int .i64 t146, .int .i64 t147, .int .i64 t148, .int .i64 t149, .int .i64 0]) ?_ 4 _ rfl; (with_reducible repeat (first | refine blk_drewN ?_ _ | refine blk_drew ?_ | refine blk_alloc ?_ _)); refine blk_put (cs := #[.int .i64 t146, .int .i64 t147, .int .i64 t148, .int .i64 0, .int .i64 0]) ?_ 3 _ rfl; (with_reducible repeat (first | refine blk_drewN ?_ _ | refine blk_drew ?_ | refine blk_alloc ?_ _)); refine blk_put (cs := #[.int .i64 t146, .int .i64 t147, .int .i64 0, .int .i64 0, .int .i64 0]) ?_ 2 _ rfl; (with_reducible repeat (first | refine blk_drewN ?_ _ | refine blk_drew ?_ | refine blk_alloc ?_ _)); refine blk_put (cs := #[.int .i64 t146, .int .i64 0, .int .i64 0, .int .i64 0, .int .i64 0]) ?_ 1 _ rfl; (with_reducible repeat (first | refine blk_drewN ?_ _ | refine blk_drew ?_ | refine blk_alloc ?_ _)); refine blk_put (cs := #[.int .i64 0, .int .i64 0, .int .i64 0, .int .i64 0, .int .i64 0]) ?_ 0 _ rfl; (with_reducible repeat (first | refine blk_drewN ?_ _ | refine blk_drew ?_ | refine blk_alloc ?_ _)); exact BK152.out⟩, ⟨by repeat (first | (with_reducible first | exact HB.out | apply below_alloc | apply pw_below_drewN | apply below_drew1 | refine below_set ?_ GE145.out | refine below_set ?_ GE152.out) | exact HB.out)⟩⟩
                        · rw [if_neg c28] at H
                          have c28b0 : decide (t150 < x146004_2) = false := decide_eq_false c28
                          clear c28
                          have H' := Aside0.mk H
                          clear H
                          have hnb32 := NB152_145.out
                          have hnc32 := NB145_152.out
                          have hcz33_0 : w23.cell? ⟨gb152, 0, none⟩ = some (.int .i64 0) := (blk_cell BK152.out 0).trans rfl
                          have hcz33_1 : w23.cell? ⟨gb152, 1, none⟩ = some (.int .i64 0) := (blk_cell BK152.out 1).trans rfl
                          have hcz33_2 : w23.cell? ⟨gb152, 2, none⟩ = some (.int .i64 0) := (blk_cell BK152.out 2).trans rfl
                          have hcz33_3 : w23.cell? ⟨gb152, 3, none⟩ = some (.int .i64 0) := (blk_cell BK152.out 3).trans rfl
                          have hcz33_4 : w23.cell? ⟨gb152, 4, none⟩ = some (.int .i64 0) := (blk_cell BK152.out 4).trans rfl
                          have hfz33_0 := blk_frozen BK152.out 0
                          have hfz33_1 := blk_frozen BK152.out 1
                          have hfz33_2 := blk_frozen BK152.out 2
                          have hfz33_3 := blk_frozen BK152.out 3
                          have hfz33_4 := blk_frozen BK152.out 4
                          have hcz34_0 : w23.cell? ⟨gb145, 0, none⟩ = some (.int .i64 x146000_2) := (blk_cell BK145.out 0).trans rfl
                          have hcz34_1 : w23.cell? ⟨gb145, 1, none⟩ = some (.int .i64 x146001_2) := (blk_cell BK145.out 1).trans rfl
                          have hcz34_2 : w23.cell? ⟨gb145, 2, none⟩ = some (.int .i64 50) := (blk_cell BK145.out 2).trans rfl
                          have hcz34_3 : w23.cell? ⟨gb145, 3, none⟩ = some (.int .i64 x146003_14) := (blk_cell BK145.out 3).trans rfl
                          have hcz34_4 : w23.cell? ⟨gb145, 4, none⟩ = some (.int .i64 x146004_2) := (blk_cell BK145.out 4).trans rfl
                          have hfz34_0 := blk_frozen BK145.out 0
                          have hfz34_1 := blk_frozen BK145.out 1
                          have hfz34_2 := blk_frozen BK145.out 2
                          have hfz34_3 := blk_frozen BK145.out 3
                          have hfz34_4 := blk_frozen BK145.out 4
                          go_wp2
                          go_meet
                          case rel => exact ⟨_, (false), (by first | rfl | (simp; done) | (simp [*]; done)), H', ⟨by have := HJ4.out; have := HK2.out; have := HJ14.out; first | omega | exact Nat.le_refl _⟩, ⟨by (with_reducible repeat (first | refine blk_drewN ?_ _ | refine blk_drew ?_ | refine blk_alloc ?_ _)); refine blk_far ?_ NB145_152.out _; (with_reducible repeat (first | refine blk_drewN ?_ _ | refine blk_drew ?_ | refine blk_alloc ?_ _)); refine blk_far ?_ NB145_152.out _; (with_reducible repeat (first | refine blk_drewN ?_ _ | refine blk_drew ?_ | refine blk_alloc ?_ _)); refine blk_far ?_ NB145_152.out _; (with_reducible repeat (first | refine blk_drewN ?_ _ | refine blk_drew ?_ | refine blk_alloc ?_ _)); refine blk_far ?_ NB145_152.out _; (with_reducible repeat (first | refine blk_drewN ?_ _ | refine blk_drew ?_ | refine blk_alloc ?_ _)); refine blk_far ?_ NB145_152.out _; (with_reducible repeat (first | refine blk_drewN ?_ _ | refine blk_drew ?_ | refine blk_alloc ?_ _)); exact BK145.out⟩, ⟨by (with_reducible repeat (first | refine blk_drewN ?_ _ | refine blk_drew ?_ | refine blk_alloc ?_ _)); refine blk_put (cs := #[.int .i64 t146, .int .i64 t147, .int .i64 t148, .int .i64 t149, .int .i64 0]) ?_ 4 _ rfl; (with_reducible repeat (first | refine blk_drewN ?_ _ | refine blk_drew ?_ | refine blk_alloc ?_ _)); refine blk_put (cs := #[.int .i64 t146, .int .i64 t147, .int .i64 t148, .int .i64 0, .int .i64 0]) ?_ 3 _ rfl; (with_reducible repeat (first | refine blk_drewN ?_ _ | refine blk_drew ?_ | refine blk_alloc ?_ _)); refine blk_put (cs := #[.int .i64 t146, .int .i64 t147, .int .i64 0, .int .i64 0, .int .i64 0]) ?_ 2 _ rfl; (with_reducible repeat (first | refine blk_drewN ?_ _ | refine blk_drew ?_ | refine blk_alloc ?_ _)); refine blk_put (cs := #[.int .i64 t146, .int .i64 0, .int .i64 0, .int .i64 0, .int .i64 0]) ?_ 1 _ rfl; (with_reducible repeat (first | refine blk_drewN ?_ _ | refine blk_drew ?_ | refine blk_alloc ?_ _)); refine blk_put (cs := #[.int .i64 0, .int .i64 0, .int .i64 0, .int .i64 0, .int .i64 0]) ?_ 0 _ rfl; (with_reducible repeat (first | refine blk_drewN ?_ _ | refine blk_drew ?_ | refine blk_alloc ?_ _)); exact BK152.out⟩, ⟨by repeat (first | (with_reducible first | exact HB.out | apply below_alloc | apply pw_below_drewN | apply below_drew1 | refine below_set ?_ GE145.out | refine below_set ?_ GE152.out) | exact HB.out)⟩⟩
                      · replace c27 := Bool.eq_false_iff.mpr c27
                        subst c27
                        have H1 : (if t150 > x146004_2 then (fourinhandlaw10_MarksRounds.j3 kj14 a1 false x9_2 true t146 t147 t148 t149 t150) else (if x146004_2 > 0 then (fourinhandlaw10_MarksRounds.j3 kj14 a1 false x9_2 (t150 == x146004_2) t146 t147 t148 t149 t150) else (fourinhandlaw10_MarksRounds.j3 kj14 a1 false x9_2 false t146 t147 t148 t149 t150))) = some r := by rw [if_neg (show ¬ (false = true) by decide)] at H; exact H
                        clear H
                        have H := H1
                        clear H1
                        by_cases c35 : t150 > x146004_2
                        · rw [if_pos c35] at H
                          have c35b0 : decide (x146004_2 < t150) = true := decide_eq_true c35
                          clear c35
                          have H' := Aside0.mk H
                          clear H
                          have hnb36 := NB152_145.out
                          have hnc36 := NB145_152.out
                          have hcz37_0 : w23.cell? ⟨gb152, 0, none⟩ = some (.int .i64 0) := (blk_cell BK152.out 0).trans rfl
                          have hcz37_1 : w23.cell? ⟨gb152, 1, none⟩ = some (.int .i64 0) := (blk_cell BK152.out 1).trans rfl
                          have hcz37_2 : w23.cell? ⟨gb152, 2, none⟩ = some (.int .i64 0) := (blk_cell BK152.out 2).trans rfl
                          have hcz37_3 : w23.cell? ⟨gb152, 3, none⟩ = some (.int .i64 0) := (blk_cell BK152.out 3).trans rfl
                          have hcz37_4 : w23.cell? ⟨gb152, 4, none⟩ = some (.int .i64 0) := (blk_cell BK152.out 4).trans rfl
                          have hfz37_0 := blk_frozen BK152.out 0
                          have hfz37_1 := blk_frozen BK152.out 1
                          have hfz37_2 := blk_frozen BK152.out 2
                          have hfz37_3 := blk_frozen BK152.out 3
                          have hfz37_4 := blk_frozen BK152.out 4
                          have hcz38_0 : w23.cell? ⟨gb145, 0, none⟩ = some (.int .i64 x146000_2) := (blk_cell BK145.out 0).trans rfl
                          have hcz38_1 : w23.cell? ⟨gb145, 1, none⟩ = some (.int .i64 x146001_2) := (blk_cell BK145.out 1).trans rfl
                          have hcz38_2 : w23.cell? ⟨gb145, 2, none⟩ = some (.int .i64 50) := (blk_cell BK145.out 2).trans rfl
                          have hcz38_3 : w23.cell? ⟨gb145, 3, none⟩ = some (.int .i64 x146003_14) := (blk_cell BK145.out 3).trans rfl
                          have hcz38_4 : w23.cell? ⟨gb145, 4, none⟩ = some (.int .i64 x146004_2) := (blk_cell BK145.out 4).trans rfl
                          have hfz38_0 := blk_frozen BK145.out 0
                          have hfz38_1 := blk_frozen BK145.out 1
                          have hfz38_2 := blk_frozen BK145.out 2
                          have hfz38_3 := blk_frozen BK145.out 3
                          have hfz38_4 := blk_frozen BK145.out 4
                          go_wp2
                          go_meet
                          case rel => exact ⟨_, (true), (by first | rfl | (simp; done) | (simp [*]; done)), H', ⟨by have := HJ4.out; have := HK2.out; have := HJ14.out; first | omega | exact Nat.le_refl _⟩, ⟨by (with_reducible repeat (first | refine blk_drewN ?_ _ | refine blk_drew ?_ | refine blk_alloc ?_ _)); refine blk_far ?_ NB145_152.out _; (with_reducible repeat (first | refine blk_drewN ?_ _ | refine blk_drew ?_ | refine blk_alloc ?_ _)); refine blk_far ?_ NB145_152.out _; (with_reducible repeat (first | refine blk_drewN ?_ _ | refine blk_drew ?_ | refine blk_alloc ?_ _)); refine blk_far ?_ NB145_152.out _; (with_reducible repeat (first | refine blk_drewN ?_ _ | refine blk_drew ?_ | refine blk_alloc ?_ _)); refine blk_far ?_ NB145_152.out _; (with_reducible repeat (first | refine blk_drewN ?_ _ | refine blk_drew ?_ | refine blk_alloc ?_ _)); refine blk_far ?_ NB145_152.out _; (with_reducible repeat (first | refine blk_drewN ?_ _ | refine blk_drew ?_ | refine blk_alloc ?_ _)); exact BK145.out⟩, ⟨by (with_reducible repeat (first | refine blk_drewN ?_ _ | refine blk_drew ?_ | refine blk_alloc ?_ _)); refine blk_put (cs := #[.int .i64 t146, .int .i64 t147, .int .i64 t148, .int .i64 t149, .int .i64 0]) ?_ 4 _ rfl; (with_reducible repeat (first | refine blk_drewN ?_ _ | refine blk_drew ?_ | refine blk_alloc ?_ _)); refine blk_put (cs := #[.int .i64 t146, .int .i64 t147, .int .i64 t148, .int .i64 0, .int .i64 0]) ?_ 3 _ rfl; (with_reducible repeat (first | refine blk_drewN ?_ _ | refine blk_drew ?_ | refine blk_alloc ?_ _)); refine blk_put (cs := #[.int .i64 t146, .int .i64 t147, .int .i64 0, .int .i64 0, .int .i64 0]) ?_ 2 _ rfl; (with_reducible repeat (first | refine blk_drewN ?_ _ | refine blk_drew ?_ | refine blk_alloc ?_ _)); refine blk_put (cs := #[.int .i64 t146, .int .i64 0, .int .i64 0, .int .i64 0, .int .i64 0]) ?_ 1 _ rfl; (with_reducible repeat (first | refine blk_drewN ?_ _ | refine blk_drew ?_ | refine blk_alloc ?_ _)); refine blk_put (cs := #[.int .i64 0, .int .i64 0, .int .i64 0, .int .i64 0, .int .i64 0]) ?_ 0 _ rfl; (with_reducible repeat (first | refine blk_drewN ?_ _ | refine blk_drew ?_ | refine blk_alloc ?_ _)); exact BK152.out⟩, ⟨by repeat (first | (with_reducible first | exact HB.out | apply below_alloc | apply pw_below_drewN | apply below_drew1 | refine below_set ?_ GE145.out | refine below_set ?_ GE152.out) | exact HB.out)⟩⟩
                        · rw [if_neg c35] at H
                          have c35b0 : decide (x146004_2 < t150) = false := decide_eq_false c35
                          clear c35
                          by_cases c39 : x146004_2 > 0
                          · rw [if_pos c39] at H
                            have c39b0 : decide (0 < x146004_2) = true := decide_eq_true c39
                            clear c39
                            have H' := Aside0.mk H
                            clear H
                            have hnb40 := NB152_145.out
                            have hnc40 := NB145_152.out
                            have hcz41_0 : w23.cell? ⟨gb152, 0, none⟩ = some (.int .i64 0) := (blk_cell BK152.out 0).trans rfl
                            have hcz41_1 : w23.cell? ⟨gb152, 1, none⟩ = some (.int .i64 0) := (blk_cell BK152.out 1).trans rfl
                            have hcz41_2 : w23.cell? ⟨gb152, 2, none⟩ = some (.int .i64 0) := (blk_cell BK152.out 2).trans rfl
                            have hcz41_3 : w23.cell? ⟨gb152, 3, none⟩ = some (.int .i64 0) := (blk_cell BK152.out 3).trans rfl
                            have hcz41_4 : w23.cell? ⟨gb152, 4, none⟩ = some (.int .i64 0) := (blk_cell BK152.out 4).trans rfl
                            have hfz41_0 := blk_frozen BK152.out 0
                            have hfz41_1 := blk_frozen BK152.out 1
                            have hfz41_2 := blk_frozen BK152.out 2
                            have hfz41_3 := blk_frozen BK152.out 3
                            have hfz41_4 := blk_frozen BK152.out 4
                            have hcz42_0 : w23.cell? ⟨gb145, 0, none⟩ = some (.int .i64 x146000_2) := (blk_cell BK145.out 0).trans rfl
                            have hcz42_1 : w23.cell? ⟨gb145, 1, none⟩ = some (.int .i64 x146001_2) := (blk_cell BK145.out 1).trans rfl
                            have hcz42_2 : w23.cell? ⟨gb145, 2, none⟩ = some (.int .i64 50) := (blk_cell BK145.out 2).trans rfl
                            have hcz42_3 : w23.cell? ⟨gb145, 3, none⟩ = some (.int .i64 x146003_14) := (blk_cell BK145.out 3).trans rfl
                            have hcz42_4 : w23.cell? ⟨gb145, 4, none⟩ = some (.int .i64 x146004_2) := (blk_cell BK145.out 4).trans rfl
                            have hfz42_0 := blk_frozen BK145.out 0
                            have hfz42_1 := blk_frozen BK145.out 1
                            have hfz42_2 := blk_frozen BK145.out 2
                            have hfz42_3 := blk_frozen BK145.out 3
                            have hfz42_4 := blk_frozen BK145.out 4
                            go_wp2
                            go_meet
                            case rel => exact ⟨_, ((t150 == x146004_2)), (by first | rfl | (simp; done) | (simp [*]; done)), H', ⟨by have := HJ4.out; have := HK2.out; have := HJ14.out; first | omega | exact Nat.le_refl _⟩, ⟨by (with_reducible repeat (first | refine blk_drewN ?_ _ | refine blk_drew ?_ | refine blk_alloc ?_ _)); refine blk_far ?_ NB145_152.out _; (with_reducible repeat (first | refine blk_drewN ?_ _ | refine blk_drew ?_ | refine blk_alloc ?_ _)); refine blk_far ?_ NB145_152.out _; (with_reducible repeat (first | refine blk_drewN ?_ _ | refine blk_drew ?_ | refine blk_alloc ?_ _)); refine blk_far ?_ NB145_152.out _; (with_reducible repeat (first | refine blk_drewN ?_ _ | refine blk_drew ?_ | refine blk_alloc ?_ _)); refine blk_far ?_ NB145_152.out _; (with_reducible repeat (first | refine blk_drewN ?_ _ | refine blk_drew ?_ | refine blk_alloc ?_ _)); refine blk_far ?_ NB145_152.out _; (with_reducible repeat (first | refine blk_drewN ?_ _ | refine blk_drew ?_ | refine blk_alloc ?_ _)); exact BK145.out⟩, ⟨by (with_reducible repeat (first | refine blk_drewN ?_ _ | refine blk_drew ?_ | refine blk_alloc ?_ _)); refine blk_put (cs := #[.int .i64 t146, .int .i64 t147, .int .i64 t148, .int .i64 t149, .int .i64 0]) ?_ 4 _ rfl; (with_reducible repeat (first | refine blk_drewN ?_ _ | refine blk_drew ?_ | refine blk_alloc ?_ _)); refine blk_put (cs := #[.int .i64 t146, .int .i64 t147, .int .i64 t148, .int .i64 0, .int .i64 0]) ?_ 3 _ rfl; (with_reducible repeat (first | refine blk_drewN ?_ _ | refine blk_drew ?_ | refine blk_alloc ?_ _)); refine blk_put (cs := #[.int .i64 t146, .int .i64 t147, .int .i64 0, .int .i64 0, .int .i64 0]) ?_ 2 _ rfl; (with_reducible repeat (first | refine blk_drewN ?_ _ | refine blk_drew ?_ | refine blk_alloc ?_ _)); refine blk_put (cs := #[.int .i64 t146, .int .i64 0, .int .i64 0, .int .i64 0, .int .i64 0]) ?_ 1 _ rfl; (with_reducible repeat (first | refine blk_drewN ?_ _ | refine blk_drew ?_ | refine blk_alloc ?_ _)); refine blk_put (cs := #[.int .i64 0, .int .i64 0, .int .i64 0, .int .i64 0, .int .i64 0]) ?_ 0 _ rfl; (with_reducible repeat (first | refine blk_drewN ?_ _ | refine blk_drew ?_ | refine blk_alloc ?_ _)); exact BK152.out⟩, ⟨by repeat (first | (with_reducible first | exact HB.out | apply below_alloc | apply pw_below_drewN | apply below_drew1 | refine below_set ?_ GE145.out | refine below_set ?_ GE152.out) | exact HB.out)⟩⟩
                          · rw [if_neg c39] at H
                            have c39b0 : decide (0 < x146004_2) = false := decide_eq_false c39
                            clear c39
                            have H' := Aside0.mk H
                            clear H
                            have hnb43 := NB152_145.out
                            have hnc43 := NB145_152.out
                            have hcz44_0 : w23.cell? ⟨gb152, 0, none⟩ = some (.int .i64 0) := (blk_cell BK152.out 0).trans rfl
                            have hcz44_1 : w23.cell? ⟨gb152, 1, none⟩ = some (.int .i64 0) := (blk_cell BK152.out 1).trans rfl
                            have hcz44_2 : w23.cell? ⟨gb152, 2, none⟩ = some (.int .i64 0) := (blk_cell BK152.out 2).trans rfl
                            have hcz44_3 : w23.cell? ⟨gb152, 3, none⟩ = some (.int .i64 0) := (blk_cell BK152.out 3).trans rfl
                            have hcz44_4 : w23.cell? ⟨gb152, 4, none⟩ = some (.int .i64 0) := (blk_cell BK152.out 4).trans rfl
                            have hfz44_0 := blk_frozen BK152.out 0
                            have hfz44_1 := blk_frozen BK152.out 1
                            have hfz44_2 := blk_frozen BK152.out 2
                            have hfz44_3 := blk_frozen BK152.out 3
                            have hfz44_4 := blk_frozen BK152.out 4
                            have hcz45_0 : w23.cell? ⟨gb145, 0, none⟩ = some (.int .i64 x146000_2) := (blk_cell BK145.out 0).trans rfl
                            have hcz45_1 : w23.cell? ⟨gb145, 1, none⟩ = some (.int .i64 x146001_2) := (blk_cell BK145.out 1).trans rfl
                            have hcz45_2 : w23.cell? ⟨gb145, 2, none⟩ = some (.int .i64 50) := (blk_cell BK145.out 2).trans rfl
                            have hcz45_3 : w23.cell? ⟨gb145, 3, none⟩ = some (.int .i64 x146003_14) := (blk_cell BK145.out 3).trans rfl
                            have hcz45_4 : w23.cell? ⟨gb145, 4, none⟩ = some (.int .i64 x146004_2) := (blk_cell BK145.out 4).trans rfl
                            have hfz45_0 := blk_frozen BK145.out 0
                            have hfz45_1 := blk_frozen BK145.out 1
                            have hfz45_2 := blk_frozen BK145.out 2
                            have hfz45_3 := blk_frozen BK145.out 3
                            have hfz45_4 := blk_frozen BK145.out 4
                            go_wp2
                            go_meet
                            case rel => exact ⟨_, (false), (by first | rfl | (simp; done) | (simp [*]; done)), H', ⟨by have := HJ4.out; have := HK2.out; have := HJ14.out; first | omega | exact Nat.le_refl _⟩, ⟨by (with_reducible repeat (first | refine blk_drewN ?_ _ | refine blk_drew ?_ | refine blk_alloc ?_ _)); refine blk_far ?_ NB145_152.out _; (with_reducible repeat (first | refine blk_drewN ?_ _ | refine blk_drew ?_ | refine blk_alloc ?_ _)); refine blk_far ?_ NB145_152.out _; (with_reducible repeat (first | refine blk_drewN ?_ _ | refine blk_drew ?_ | refine blk_alloc ?_ _)); refine blk_far ?_ NB145_152.out _; (with_reducible repeat (first | refine blk_drewN ?_ _ | refine blk_drew ?_ | refine blk_alloc ?_ _)); refine blk_far ?_ NB145_152.out _; (with_reducible repeat (first | refine blk_drewN ?_ _ | refine blk_drew ?_ | refine blk_alloc ?_ _)); refine blk_far ?_ NB145_152.out _; (with_reducible repeat (first | refine blk_drewN ?_ _ | refine blk_drew ?_ | refine blk_alloc ?_ _)); exact BK145.out⟩, ⟨by (with_reducible repeat (first | refine blk_drewN ?_ _ | refine blk_drew ?_ | refine blk_alloc ?_ _)); refine blk_put (cs := #[.int .i64 t146, .int .i64 t147, .int .i64 t148, .int .i64 t149, .int .i64 0]) ?_ 4 _ rfl; (with_reducible repeat (first | refine blk_drewN ?_ _ | refine blk_drew ?_ | refine blk_alloc ?_ _)); refine blk_put (cs := #[.int .i64 t146, .int .i64 t147, .int .i64 t148, .int .i64 0, .int .i64 0]) ?_ 3 _ rfl; (with_reducible repeat (first | refine blk_drewN ?_ _ | refine blk_drew ?_ | refine blk_alloc ?_ _)); refine blk_put (cs := #[.int .i64 t146, .int .i64 t147, .int .i64 0, .int .i64 0, .int .i64 0]) ?_ 2 _ rfl; (with_reducible repeat (first | refine blk_drewN ?_ _ | refine blk_drew ?_ | refine blk_alloc ?_ _)); refine blk_put (cs := #[.int .i64 t146, .int .i64 0, .int .i64 0, .int .i64 0, .int .i64 0]) ?_ 1 _ rfl; (with_reducible repeat (first | refine blk_drewN ?_ _ | refine blk_drew ?_ | refine blk_alloc ?_ _)); refine blk_put (cs := #[.int .i64 0, .int .i64 0, .int .i64 0, .int .i64 0, .int .i64 0]) ?_ 0 _ rfl; (with_reducible repeat (first | refine blk_drewN ?_ _ | refine blk_drew ?_ | refine blk_alloc ?_ _)); exact BK152.out⟩, ⟨by repeat (first | (with_reducible first | exact HB.out | apply below_alloc | apply pw_below_drewN | apply below_drew1 | refine below_set ?_ GE145.out | refine below_set ?_ GE152.out) | exact HB.out)⟩⟩
                    · rw [if_neg c26] at H
                      have c26b0 : (t151 == 0) = false := beq_eq_false_iff_ne.mpr c26
                      have c26b1 : (t151 != 0) = true := bne_iff_ne.mpr c26
                      (first | rw [c26b0] | (simp only [i64_w, i32_w]; rw [c26b0]) | skip)
                      have H' := Aside0.mk H
                      clear H
                      go_wp2
                      go_meet
                      case rel => exact ⟨_, (true), (by first | rfl | (simp; done) | (simp [*]; done)), H', ⟨by have := HJ4.out; have := HK2.out; have := HJ14.out; first | omega | exact Nat.le_refl _⟩, ⟨by (with_reducible repeat (first | refine blk_drewN ?_ _ | refine blk_drew ?_ | refine blk_alloc ?_ _)); refine blk_far ?_ NB145_152.out _; (with_reducible repeat (first | refine blk_drewN ?_ _ | refine blk_drew ?_ | refine blk_alloc ?_ _)); refine blk_far ?_ NB145_152.out _; (with_reducible repeat (first | refine blk_drewN ?_ _ | refine blk_drew ?_ | refine blk_alloc ?_ _)); refine blk_far ?_ NB145_152.out _; (with_reducible repeat (first | refine blk_drewN ?_ _ | refine blk_drew ?_ | refine blk_alloc ?_ _)); refine blk_far ?_ NB145_152.out _; (with_reducible repeat (first | refine blk_drewN ?_ _ | refine blk_drew ?_ | refine blk_alloc ?_ _)); refine blk_far ?_ NB145_152.out _; (with_reducible repeat (first | refine blk_drewN ?_ _ | refine blk_drew ?_ | refine blk_alloc ?_ _)); exact BK145.out⟩, ⟨by (with_reducible repeat (first | refine blk_drewN ?_ _ | refine blk_drew ?_ | refine blk_alloc ?_ _)); refine blk_put (cs := #[.int .i64 t146, .int .i64 t147, .int .i64 t148, .int .i64 t149, .int .i64 0]) ?_ 4 _ rfl; (with_reducible repeat (first | refine blk_drewN ?_ _ | refine blk_drew ?_ | refine blk_alloc ?_ _)); refine blk_put (cs := #[.int .i64 t146, .int .i64 t147, .int .i64 t148, .int .i64 0, .int .i64 0]) ?_ 3 _ rfl; (with_reducible repeat (first | refine blk_drewN ?_ _ | refine blk_drew ?_ | refine blk_alloc ?_ _)); refine blk_put (cs := #[.int .i64 t146, .int .i64 t147, .int .i64 0, .int .i64 0, .int .i64 0]) ?_ 2 _ rfl; (with_reducible repeat (first | refine blk_drewN ?_ _ | refine blk_drew ?_ | refine blk_alloc ?_ _)); refine blk_put (cs := #[.int .i64 t146, .int .i64 0, .int .i64 0, .int .i64 0, .int .i64 0]) ?_ 1 _ rfl; (with_reducible repeat (first | refine blk_drewN ?_ _ | refine blk_drew ?_ | refine blk_alloc ?_ _)); refine blk_put (cs := #[.int .i64 0, .int .i64 0, .int .i64 0, .int .i64 0, .int .i64 0]) ?_ 0 _ rfl; (with_reducible repeat (first | refine blk_drewN ?_ _ | refine blk_drew ?_ | refine blk_alloc ?_ _)); exact BK152.out⟩, ⟨by repeat (first | (with_reducible first | exact HB.out | apply below_alloc | apply pw_below_drewN | apply below_drew1 | refine below_set ?_ GE145.out | refine below_set ?_ GE152.out) | exact HB.out)⟩⟩
                  case rest =>
                    clear HC20
                    try clear c1
                    try clear c2
                    try clear p2
                    try clear c3
                    try clear c4
                    try clear c7
                    try clear c8
                    try clear c8b0
                    try clear c9
                    try clear c9b0
                    try clear c10
                    try clear c10b0
                    try clear c11
                    try clear c14
                    try clear c14b0
                    try clear c17
                    try clear c24
                    try clear c26
                    try clear c26b0
                    try clear c26b1
                    try clear c27
                    try clear c28
                    try clear c28b0
                    try clear c29
                    try clear c32
                    try clear c35
                    try clear c35b0
                    try clear c36
                    try clear c39
                    try clear c39b0
                    try clear c40
                    try clear c43
                    try clear hcz13_0
                    try clear hcz13_1
                    try clear hcz13_2
                    try clear hcz13_3
                    try clear hcz13_4
                    try clear hcz16_0
                    try clear hcz16_1
                    try clear hcz16_2
                    try clear hcz16_3
                    try clear hcz16_4
                    try clear hcz18_0
                    try clear hcz18_1
                    try clear hcz18_2
                    try clear hcz18_3
                    try clear hcz18_4
                    try clear hcz21_0
                    try clear hcz21_1
                    try clear hcz21_2
                    try clear hcz21_3
                    try clear hcz21_4
                    try clear hcz25_0
                    try clear hcz25_1
                    try clear hcz25_2
                    try clear hcz25_3
                    try clear hcz25_4
                    try clear hcz30_0
                    try clear hcz30_1
                    try clear hcz30_2
                    try clear hcz30_3
                    try clear hcz30_4
                    try clear hcz31_0
                    try clear hcz31_1
                    try clear hcz31_2
                    try clear hcz31_3
                    try clear hcz31_4
                    try clear hcz33_0
                    try clear hcz33_1
                    try clear hcz33_2
                    try clear hcz33_3
                    try clear hcz33_4
                    try clear hcz34_0
                    try clear hcz34_1
                    try clear hcz34_2
                    try clear hcz34_3
                    try clear hcz34_4
                    try clear hcz37_0
                    try clear hcz37_1
                    try clear hcz37_2
                    try clear hcz37_3
                    try clear hcz37_4
                    try clear hcz38_0
                    try clear hcz38_1
                    try clear hcz38_2
                    try clear hcz38_3
                    try clear hcz38_4
                    try clear hcz41_0
                    try clear hcz41_1
                    try clear hcz41_2
                    try clear hcz41_3
                    try clear hcz41_4
                    try clear hcz42_0
                    try clear hcz42_1
                    try clear hcz42_2
                    try clear hcz42_3
                    try clear hcz42_4
                    try clear hcz44_0
                    try clear hcz44_1
                    try clear hcz44_2
                    try clear hcz44_3
                    try clear hcz44_4
                    try clear hcz45_0
                    try clear hcz45_1
                    try clear hcz45_2
                    try clear hcz45_3
                    try clear hcz45_4
                    try clear hfz13_0
                    try clear hfz13_1
                    try clear hfz13_2
                    try clear hfz13_3
                    try clear hfz13_4
                    try clear hfz16_0
                    try clear hfz16_1
                    try clear hfz16_2
                    try clear hfz16_3
                    try clear hfz16_4
                    try clear hfz18_0
                    try clear hfz18_1
                    try clear hfz18_2
                    try clear hfz18_3
                    try clear hfz18_4
                    try clear hfz21_0
                    try clear hfz21_1
                    try clear hfz21_2
                    try clear hfz21_3
                    try clear hfz21_4
                    try clear hfz25_0
                    try clear hfz25_1
                    try clear hfz25_2
                    try clear hfz25_3
                    try clear hfz25_4
                    try clear hfz30_0
                    try clear hfz30_1
                    try clear hfz30_2
                    try clear hfz30_3
                    try clear hfz30_4
                    try clear hfz31_0
                    try clear hfz31_1
                    try clear hfz31_2
                    try clear hfz31_3
                    try clear hfz31_4
                    try clear hfz33_0
                    try clear hfz33_1
                    try clear hfz33_2
                    try clear hfz33_3
                    try clear hfz33_4
                    try clear hfz34_0
                    try clear hfz34_1
                    try clear hfz34_2
                    try clear hfz34_3
                    try clear hfz34_4
                    try clear hfz37_0
                    try clear hfz37_1
                    try clear hfz37_2
                    try clear hfz37_3
                    try clear hfz37_4
                    try clear hfz38_0
                    try clear hfz38_1
                    try clear hfz38_2
                    try clear hfz38_3
                    try clear hfz38_4
                    try clear hfz41_0
                    try clear hfz41_1
                    try clear hfz41_2
                    try clear hfz41_3
                    try clear hfz41_4
                    try clear hfz42_0
                    try clear hfz42_1
                    try clear hfz42_2
                    try clear hfz42_3
                    try clear hfz42_4
                    try clear hfz44_0
                    try clear hfz44_1
                    try clear hfz44_2
                    try clear hfz44_3
                    try clear hfz44_4
                    try clear hfz45_0
                    try clear hfz45_1
                    try clear hfz45_2
                    try clear hfz45_3
                    try clear hfz45_4
                    try clear p2
                    obtain ⟨kq, x86_19, rfl, HA, HJ19, BK145, BK152, HB⟩ := hcut
                    cases kq with
                    | zero => exact absurd HA.out (by simp [fourinhandlaw10_MarksRounds.j3])
                    | succ kj19 =>
                      have H := HA.out
                      clear HA
                      simp only [fourinhandlaw10_MarksRounds.j3] at H
                      by_cases c46 : x86_19 = true
                      · subst c46
                        have H1 : (some false) = some r := by rw [if_pos rfl] at H; exact H
                        clear H
                        have H := H1
                        clear H1
                        exact Bool.noConfusion ((Option.some.inj H).trans hr_.out)
                      · replace c46 := Bool.eq_false_iff.mpr c46
                        subst c46
                        have H1 : (fourinhandlaw10_MarksRounds.l0 kj19 a1 a2 (wrap64 (x9_2 + 1)) t146 t147 t148 t149 t150) = some r := by rw [if_neg (show ¬ (false = true) by decide)] at H; exact H
                        clear H
                        have H := H1
                        clear H1
                        have H' := Aside0.mk H
                        clear H
                        have hnb47 := NB152_145.out
                        have hnc47 := NB145_152.out
                        have hcz48_0 : wc.cell? ⟨gb152, 0, none⟩ = some (.int .i64 t146) := (blk_cell BK152.out 0).trans rfl
                        have hcz48_1 : wc.cell? ⟨gb152, 1, none⟩ = some (.int .i64 t147) := (blk_cell BK152.out 1).trans rfl
                        have hcz48_2 : wc.cell? ⟨gb152, 2, none⟩ = some (.int .i64 t148) := (blk_cell BK152.out 2).trans rfl
                        have hcz48_3 : wc.cell? ⟨gb152, 3, none⟩ = some (.int .i64 t149) := (blk_cell BK152.out 3).trans rfl
                        have hcz48_4 : wc.cell? ⟨gb152, 4, none⟩ = some (.int .i64 t150) := (blk_cell BK152.out 4).trans rfl
                        have hfz48_0 := blk_frozen BK152.out 0
                        have hfz48_1 := blk_frozen BK152.out 1
                        have hfz48_2 := blk_frozen BK152.out 2
                        have hfz48_3 := blk_frozen BK152.out 3
                        have hfz48_4 := blk_frozen BK152.out 4
                        have hcz49_0 : wc.cell? ⟨gb145, 0, none⟩ = some (.int .i64 x146000_2) := (blk_cell BK145.out 0).trans rfl
                        have hcz49_1 : wc.cell? ⟨gb145, 1, none⟩ = some (.int .i64 x146001_2) := (blk_cell BK145.out 1).trans rfl
                        have hcz49_2 : wc.cell? ⟨gb145, 2, none⟩ = some (.int .i64 50) := (blk_cell BK145.out 2).trans rfl
                        have hcz49_3 : wc.cell? ⟨gb145, 3, none⟩ = some (.int .i64 x146003_14) := (blk_cell BK145.out 3).trans rfl
                        have hcz49_4 : wc.cell? ⟨gb145, 4, none⟩ = some (.int .i64 x146004_2) := (blk_cell BK145.out 4).trans rfl
                        have hfz49_0 := blk_frozen BK145.out 0
                        have hfz49_1 := blk_frozen BK145.out 1
                        have hfz49_2 := blk_frozen BK145.out 2
                        have hfz49_3 := blk_frozen BK145.out 3
                        have hfz49_4 := blk_frozen BK145.out 4
                        go_wp2
                        go_roundg kj19
                        case measure => have := HJ4.out; have := HK2.out; have := HJ14.out; have := HJ19.out; omega
                        case rel => exact ⟨(wrap64 (x9_2 + 1)), (t146), (t147), (t148), (t149), (t150), (by first | rfl | (simp; done) | (simp [*]; done)), H', ⟨by have := HJ4.out; have := HK2.out; have := HJ14.out; have := HJ19.out; omega⟩, ⟨by (with_reducible repeat (first | refine blk_drewN ?_ _ | refine blk_drew ?_ | refine blk_alloc ?_ _)); refine blk_put (cs := #[.int .i64 t146, .int .i64 t147, .int .i64 t148, .int .i64 t149, .int .i64 x146004_2]) ?_ 4 _ rfl; (with_reducible repeat (first | refine blk_drewN ?_ _ | refine blk_drew ?_ | refine blk_alloc ?_ _)); refine blk_put (cs := #[.int .i64 t146, .int .i64 t147, .int .i64 t148, .int .i64 x146003_14, .int .i64 x146004_2]) ?_ 3 _ rfl; (with_reducible repeat (first | refine blk_drewN ?_ _ | refine blk_drew ?_ | refine blk_alloc ?_ _)); refine blk_put (cs := #[.int .i64 t146, .int .i64 t147, .int .i64 50, .int .i64 x146003_14, .int .i64 x146004_2]) ?_ 2 _ rfl; (with_reducible repeat (first | refine blk_drewN ?_ _ | refine blk_drew ?_ | refine blk_alloc ?_ _)); refine blk_put (cs := #[.int .i64 t146, .int .i64 x146001_2, .int .i64 50, .int .i64 x146003_14, .int .i64 x146004_2]) ?_ 1 _ rfl; (with_reducible repeat (first | refine blk_drewN ?_ _ | refine blk_drew ?_ | refine blk_alloc ?_ _)); refine blk_put (cs := #[.int .i64 x146000_2, .int .i64 x146001_2, .int .i64 50, .int .i64 x146003_14, .int .i64 x146004_2]) ?_ 0 _ rfl; (with_reducible repeat (first | refine blk_drewN ?_ _ | refine blk_drew ?_ | refine blk_alloc ?_ _)); exact BK145.out⟩, ⟨by repeat (first | (with_reducible first | exact HB.out | apply below_alloc | apply pw_below_drewN | apply below_drew1 | refine below_set ?_ GE145.out | refine below_set ?_ GE152.out) | exact HB.out)⟩⟩
            · rw [if_neg c14] at H
              have c14b0 : decide (x9_2 < a1) = false := decide_eq_false c14
              clear c14
              have HC50 := Aside0.mk H
              clear H
              go_upto_region 16 with (fail)
              go_cut [6] (fun v6 wc => ∃ (kq : Nat) (x6_49 : Bool), v6 = .bool x6_49 ∧ Aside0 (fourinhandlaw10_MarksRounds.j4 kq x6_49 = some r) ∧ Aside0 (kq ≤ k2) ∧ Aside0 (wc.heap[gb145]? = some (.cells #[.int .i64 x146000_2, .int .i64 x146001_2, .int .i64 x146002_2, .int .i64 x146003_2, .int .i64 x146004_2] 23 (0, 0))) ∧ Aside0 (Below w.heap.size w wc))
              case first =>
                have H := HC50.out
                clear HC50
                by_cases c51 : a1 < 100
                · rw [if_pos c51] at H
                  have c51b0 : decide (a1 < 100) = true := decide_eq_true c51
                  clear c51
                  (first | rw [c51b0] | (simp only [i64_w, i32_w]; rw [c51b0]) | skip)
                  have H' := Aside0.mk H
                  clear H
                  go_wp2
                  go_meet
                  case rel => exact ⟨_, (true), (by first | rfl | (simp; done) | (simp [*]; done)), H', ⟨by have := HJ4.out; have := HK2.out; first | omega | exact Nat.le_refl _⟩, ⟨by (with_reducible repeat (first | refine blk_drewN ?_ _ | refine blk_drew ?_ | refine blk_alloc ?_ _)); exact BK145.out⟩, ⟨by repeat (first | (with_reducible first | exact HB.out | apply below_alloc | apply pw_below_drewN | apply below_drew1 | refine below_set ?_ GE145.out) | exact HB.out)⟩⟩
                · rw [if_neg c51] at H
                  have c51b0 : decide (a1 < 100) = false := decide_eq_false c51
                  clear c51
                  (first | rw [c51b0] | (simp only [i64_w, i32_w]; rw [c51b0]) | skip)
                  by_cases c52 : a2 = true
                  · subst c52
                    have H1 : (if x146004_2 ≥ 1009 then (fourinhandlaw10_MarksRounds.j4 k2 true) else (fourinhandlaw10_MarksRounds.j4 k2 false)) = some r := by rw [if_pos rfl] at H; exact H
                    clear H
                    have H := H1
                    clear H1
                    by_cases c53 : x146004_2 ≥ 1009
                    · rw [if_pos c53] at H
                      have c53b0 : decide (1009 ≤ x146004_2) = true := decide_eq_true c53
                      clear c53
                      have H' := Aside0.mk H
                      clear H
                      have hcz54_0 : wr.cell? ⟨gb145, 0, none⟩ = some (.int .i64 x146000_2) := (blk_cell BK145.out 0).trans rfl
                      have hcz54_1 : wr.cell? ⟨gb145, 1, none⟩ = some (.int .i64 x146001_2) := (blk_cell BK145.out 1).trans rfl
                      have hcz54_2 : wr.cell? ⟨gb145, 2, none⟩ = some (.int .i64 x146002_2) := (blk_cell BK145.out 2).trans rfl
                      have hcz54_3 : wr.cell? ⟨gb145, 3, none⟩ = some (.int .i64 x146003_2) := (blk_cell BK145.out 3).trans rfl
                      have hcz54_4 : wr.cell? ⟨gb145, 4, none⟩ = some (.int .i64 x146004_2) := (blk_cell BK145.out 4).trans rfl
                      have hfz54_0 := blk_frozen BK145.out 0
                      have hfz54_1 := blk_frozen BK145.out 1
                      have hfz54_2 := blk_frozen BK145.out 2
                      have hfz54_3 := blk_frozen BK145.out 3
                      have hfz54_4 := blk_frozen BK145.out 4
                      go_wp2
                      go_meet
                      case rel => exact ⟨_, (true), (by first | rfl | (simp; done) | (simp [*]; done)), H', ⟨by have := HJ4.out; have := HK2.out; first | omega | exact Nat.le_refl _⟩, ⟨by (with_reducible repeat (first | refine blk_drewN ?_ _ | refine blk_drew ?_ | refine blk_alloc ?_ _)); exact BK145.out⟩, ⟨by repeat (first | (with_reducible first | exact HB.out | apply below_alloc | apply pw_below_drewN | apply below_drew1 | refine below_set ?_ GE145.out) | exact HB.out)⟩⟩
                    · rw [if_neg c53] at H
                      have c53b0 : decide (1009 ≤ x146004_2) = false := decide_eq_false c53
                      clear c53
                      have H' := Aside0.mk H
                      clear H
                      have hcz55_0 : wr.cell? ⟨gb145, 0, none⟩ = some (.int .i64 x146000_2) := (blk_cell BK145.out 0).trans rfl
                      have hcz55_1 : wr.cell? ⟨gb145, 1, none⟩ = some (.int .i64 x146001_2) := (blk_cell BK145.out 1).trans rfl
                      have hcz55_2 : wr.cell? ⟨gb145, 2, none⟩ = some (.int .i64 x146002_2) := (blk_cell BK145.out 2).trans rfl
                      have hcz55_3 : wr.cell? ⟨gb145, 3, none⟩ = some (.int .i64 x146003_2) := (blk_cell BK145.out 3).trans rfl
                      have hcz55_4 : wr.cell? ⟨gb145, 4, none⟩ = some (.int .i64 x146004_2) := (blk_cell BK145.out 4).trans rfl
                      have hfz55_0 := blk_frozen BK145.out 0
                      have hfz55_1 := blk_frozen BK145.out 1
                      have hfz55_2 := blk_frozen BK145.out 2
                      have hfz55_3 := blk_frozen BK145.out 3
                      have hfz55_4 := blk_frozen BK145.out 4
                      go_wp2
                      go_meet
                      case rel => exact ⟨_, (false), (by first | rfl | (simp; done) | (simp [*]; done)), H', ⟨by have := HJ4.out; have := HK2.out; first | omega | exact Nat.le_refl _⟩, ⟨by (with_reducible repeat (first | refine blk_drewN ?_ _ | refine blk_drew ?_ | refine blk_alloc ?_ _)); exact BK145.out⟩, ⟨by repeat (first | (with_reducible first | exact HB.out | apply below_alloc | apply pw_below_drewN | apply below_drew1 | refine below_set ?_ GE145.out) | exact HB.out)⟩⟩
                  · replace c52 := Bool.eq_false_iff.mpr c52
                    subst c52
                    have H1 : (fourinhandlaw10_MarksRounds.j4 k2 (decide (x146004_2 ≤ 100))) = some r := by rw [if_neg (show ¬ (false = true) by decide)] at H; exact H
                    clear H
                    have H := H1
                    clear H1
                    have H' := Aside0.mk H
                    clear H
                    have hcz56_0 : wr.cell? ⟨gb145, 0, none⟩ = some (.int .i64 x146000_2) := (blk_cell BK145.out 0).trans rfl
                    have hcz56_1 : wr.cell? ⟨gb145, 1, none⟩ = some (.int .i64 x146001_2) := (blk_cell BK145.out 1).trans rfl
                    have hcz56_2 : wr.cell? ⟨gb145, 2, none⟩ = some (.int .i64 x146002_2) := (blk_cell BK145.out 2).trans rfl
                    have hcz56_3 : wr.cell? ⟨gb145, 3, none⟩ = some (.int .i64 x146003_2) := (blk_cell BK145.out 3).trans rfl
                    have hcz56_4 : wr.cell? ⟨gb145, 4, none⟩ = some (.int .i64 x146004_2) := (blk_cell BK145.out 4).trans rfl
                    have hfz56_0 := blk_frozen BK145.out 0
                    have hfz56_1 := blk_frozen BK145.out 1
                    have hfz56_2 := blk_frozen BK145.out 2
                    have hfz56_3 := blk_frozen BK145.out 3
                    have hfz56_4 := blk_frozen BK145.out 4
                    go_wp2
                    go_meet
                    case rel => exact ⟨_, (decide (x146004_2 ≤ 100)), (by first | rfl | (simp; done) | (simp [*]; done)), H', ⟨by have := HJ4.out; have := HK2.out; first | omega | exact Nat.le_refl _⟩, ⟨by (with_reducible repeat (first | refine blk_drewN ?_ _ | refine blk_drew ?_ | refine blk_alloc ?_ _)); exact BK145.out⟩, ⟨by repeat (first | (with_reducible first | exact HB.out | apply below_alloc | apply pw_below_drewN | apply below_drew1 | refine below_set ?_ GE145.out) | exact HB.out)⟩⟩
              case rest =>
                clear HC50
                try clear c1
                try clear c2
                try clear p2
                try clear c3
                try clear c4
                try clear c5
                try clear p6
                try clear c7
                try clear c8
                try clear c8b0
                try clear c9
                try clear c9b0
                try clear c10
                try clear c10b0
                try clear c11
                try clear c14
                try clear c14b0
                try clear c17
                try clear c24
                try clear c26
                try clear c26b0
                try clear c26b1
                try clear c27
                try clear c28
                try clear c28b0
                try clear c29
                try clear c32
                try clear c35
                try clear c35b0
                try clear c36
                try clear c39
                try clear c39b0
                try clear c40
                try clear c43
                try clear c46
                try clear c47
                try clear c51
                try clear c51b0
                try clear c52
                try clear c53
                try clear c53b0
                try clear hcz13_0
                try clear hcz13_1
                try clear hcz13_2
                try clear hcz13_3
                try clear hcz13_4
                try clear hcz16_0
                try clear hcz16_1
                try clear hcz16_2
                try clear hcz16_3
                try clear hcz16_4
                try clear hcz18_0
                try clear hcz18_1
                try clear hcz18_2
                try clear hcz18_3
                try clear hcz18_4
                try clear hcz21_0
                try clear hcz21_1
                try clear hcz21_2
                try clear hcz21_3
                try clear hcz21_4
                try clear hcz25_0
                try clear hcz25_1
                try clear hcz25_2
                try clear hcz25_3
                try clear hcz25_4
                try clear hcz30_0
                try clear hcz30_1
                try clear hcz30_2
                try clear hcz30_3
                try clear hcz30_4
                try clear hcz31_0
                try clear hcz31_1
                try clear hcz31_2
                try clear hcz31_3
                try clear hcz31_4
                try clear hcz33_0
                try clear hcz33_1
                try clear hcz33_2
                try clear hcz33_3
                try clear hcz33_4
                try clear hcz34_0
                try clear hcz34_1
                try clear hcz34_2
                try clear hcz34_3
                try clear hcz34_4
                try clear hcz37_0
                try clear hcz37_1
                try clear hcz37_2
                try clear hcz37_3
                try clear hcz37_4
                try clear hcz38_0
                try clear hcz38_1
                try clear hcz38_2
                try clear hcz38_3
                try clear hcz38_4
                try clear hcz41_0
                try clear hcz41_1
                try clear hcz41_2
                try clear hcz41_3
                try clear hcz41_4
                try clear hcz42_0
                try clear hcz42_1
                try clear hcz42_2
                try clear hcz42_3
                try clear hcz42_4
                try clear hcz44_0
                try clear hcz44_1
                try clear hcz44_2
                try clear hcz44_3
                try clear hcz44_4
                try clear hcz45_0
                try clear hcz45_1
                try clear hcz45_2
                try clear hcz45_3
                try clear hcz45_4
                try clear hcz48_0
                try clear hcz48_1
                try clear hcz48_2
                try clear hcz48_3
                try clear hcz48_4
                try clear hcz49_0
                try clear hcz49_1
                try clear hcz49_2
                try clear hcz49_3
                try clear hcz49_4
                try clear hcz54_0
                try clear hcz54_1
                try clear hcz54_2
                try clear hcz54_3
                try clear hcz54_4
                try clear hcz55_0
                try clear hcz55_1
                try clear hcz55_2
                try clear hcz55_3
                try clear hcz55_4
                try clear hcz56_0
                try clear hcz56_1
                try clear hcz56_2
                try clear hcz56_3
                try clear hcz56_4
                try clear hfz13_0
                try clear hfz13_1
                try clear hfz13_2
                try clear hfz13_3
                try clear hfz13_4
                try clear hfz16_0
                try clear hfz16_1
                try clear hfz16_2
                try clear hfz16_3
                try clear hfz16_4
                try clear hfz18_0
                try clear hfz18_1
                try clear hfz18_2
                try clear hfz18_3
                try clear hfz18_4
                try clear hfz21_0
                try clear hfz21_1
                try clear hfz21_2
                try clear hfz21_3
                try clear hfz21_4
                try clear hfz25_0
                try clear hfz25_1
                try clear hfz25_2
                try clear hfz25_3
                try clear hfz25_4
                try clear hfz30_0
                try clear hfz30_1
                try clear hfz30_2
                try clear hfz30_3
                try clear hfz30_4
                try clear hfz31_0
                try clear hfz31_1
                try clear hfz31_2
                try clear hfz31_3
                try clear hfz31_4
                try clear hfz33_0
                try clear hfz33_1
                try clear hfz33_2
                try clear hfz33_3
                try clear hfz33_4
                try clear hfz34_0
                try clear hfz34_1
                try clear hfz34_2
                try clear hfz34_3
                try clear hfz34_4
                try clear hfz37_0
                try clear hfz37_1
                try clear hfz37_2
                try clear hfz37_3
                try clear hfz37_4
                try clear hfz38_0
                try clear hfz38_1
                try clear hfz38_2
                try clear hfz38_3
                try clear hfz38_4
                try clear hfz41_0
                try clear hfz41_1
                try clear hfz41_2
                try clear hfz41_3
                try clear hfz41_4
                try clear hfz42_0
                try clear hfz42_1
                try clear hfz42_2
                try clear hfz42_3
                try clear hfz42_4
                try clear hfz44_0
                try clear hfz44_1
                try clear hfz44_2
                try clear hfz44_3
                try clear hfz44_4
                try clear hfz45_0
                try clear hfz45_1
                try clear hfz45_2
                try clear hfz45_3
                try clear hfz45_4
                try clear hfz48_0
                try clear hfz48_1
                try clear hfz48_2
                try clear hfz48_3
                try clear hfz48_4
                try clear hfz49_0
                try clear hfz49_1
                try clear hfz49_2
                try clear hfz49_3
                try clear hfz49_4
                try clear hfz54_0
                try clear hfz54_1
                try clear hfz54_2
                try clear hfz54_3
                try clear hfz54_4
                try clear hfz55_0
                try clear hfz55_1
                try clear hfz55_2
                try clear hfz55_3
                try clear hfz55_4
                try clear hfz56_0
                try clear hfz56_1
                try clear hfz56_2
                try clear hfz56_3
                try clear hfz56_4
                try clear p2
                obtain ⟨kq, x6_49, rfl, HA, HJ49, BK145, HB⟩ := hcut
                cases kq with
                | zero => exact absurd HA.out (by simp [fourinhandlaw10_MarksRounds.j4])
                | succ kj49 =>
                  have H := HA.out
                  clear HA
                  simp only [fourinhandlaw10_MarksRounds.j4] at H
                  obtain rfl := Option.some.inj H
                  go_wp2
                  go_ret
                  exact ⟨by first | rfl | (simp [errW_none, errW_some] <;> rfl) | (simp [*, errW_none, errW_some] <;> rfl), by repeat (first | (with_reducible first | exact HB.out | apply below_alloc | apply pw_below_drewN | apply below_drew1 | refine below_set ?_ GE145.out) | exact HB.out)⟩

/-- THE ONE PURE STATEMENT of fourinhandlaw10_MarksRounds: yours. -/
def fourinhandlaw10_MarksRounds.Pure : Prop := ∀ (a0 : Int) (a1 : Int) (a2 : Bool), (Lit.int .i64 a0).wf = true → (Lit.int .i64 a1).wf = true → ∃ k, fourinhandlaw10_MarksRounds.f k a0 a1 a2 = some true
theorem fourinhandlaw10_MarksRounds.walk (P : fourinhandlaw10_MarksRounds.Pure) (a0 : Int) (a1 : Int) (a2 : Bool) (w : World) (w0 : (Lit.int .i64 a0).wf = true) (w1 : (Lit.int .i64 a1).wf = true) :
    Calls Try.prog 4 #[.int .i64 a0, .int .i64 a1, .bool a2] w fun e w' => e = .returned (.bool true) ∧ Below w.heap.size w w' := by
  obtain ⟨k, h⟩ := P a0 a1 a2 w0 w1
  refine (fourinhandlaw10_MarksRounds.calls k a0 a1 a2 true ⟨rfl⟩ w h).mono ?_
  rintro e w' ⟨rfl, hd⟩
  exact ⟨rfl, hd⟩

end Go.Proofs.Ythklaiedabekjaa.PMarksRounds
