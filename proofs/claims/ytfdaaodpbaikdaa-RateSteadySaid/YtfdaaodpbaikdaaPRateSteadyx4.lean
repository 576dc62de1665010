-- Written by a program of this session (wip/hprint.py), over the kit's print.py: the walk of one law. Lean checks it.
import Derived.Test.YtfdaaodpbaikdaaPRateSteadyx0
import Derived.Test.YtfdaaodpbaikdaaPRateSteadyx1
import Derived.Test.YtfdaaodpbaikdaaPRateSteadyx3
namespace Go.Proofs.Ytfdaaodpbaikdaa.PRateSteady
open Go.RowKit Go.Proofs.YtfdaaodpbaikdaaW.PrintWords Go.Proofs.YtfdaaodpbaikdaaW.PrintLast Go.Proofs.YtfdaaodpbaikdaaW.PrintMore
attribute [local go_sem] max2_int min2_int max_two min_two max_three min_three max_four min_four   -- for this text's walks alone
set_option linter.unusedVariables false
set_option linter.unusedSimpArgs false

/-! ### fourinhandlaw11_RateSteady: function 7 -/
mutual
def fourinhandlaw11_RateSteady.j0 : Nat → Int → Int → Int → Bool → Bool → Option (Bool)
  | 0, _, _, _, _, _ => none
  | k + 1, x0, x1, x2, x7, x43 => if x43 = true then (some x7) else (fourinhandlaw11_RateSteady.l0 k x0 x1 x2 0 0 0 ([] : List Int))
def fourinhandlaw11_RateSteady.l0 : Nat → Int → Int → Int → Int → Int → Int → List Int → Option (Bool)
  | 0, _, _, _, _, _, _, _ => none
  | k + 1, x0, x1, x2, x9, x173000, x173001, x173002 => if x9 < x2 then ((rate_Came.f k x173000 x173001 x173002 (wrap64 (x173001 + x1)) x0).bind fun bt173 => ((rate_Sample.f k bt173.1 bt173.2.1 bt173.2.2.1 x173000 x173001).bind fun bt180 => (if bt173.2.2.2 = 0 then (if bt180.2.2.2.2 = 0 then (if x1 = 0 then (none) else (if bt180.2.2.2.1 = (wrap64 (Int.tdiv (wrap64 (x0 * 1000000)) x1)) then ((rate_Best.f k bt180.1 bt180.2.1 bt180.2.2.1).bind fun t188 => (if t188 = bt180.2.2.2.1 then (fourinhandlaw11_RateSteady.l0 k x0 x1 x2 (wrap64 (x9 + 1)) bt180.1 bt180.2.1 bt180.2.2.1) else (some false))) else (some false))) else (some false)) else (some false)))) else (if x173000 = (wrap64 (x2 * x0)) then (some (x173001 == (wrap64 (x2 * x1)))) else (some false))
end
def fourinhandlaw11_RateSteady.f (k : Nat) (a0 : Int) (a1 : Int) (a2 : Int) : Option (Bool) := (fourinhandlaw11_awake.f k).bind fun t171 => (if t171 = true then (if a0 < 0 then (fourinhandlaw11_RateSteady.j0 k a0 a1 a2 t171 true) else (if a0 > 1000000000 then (fourinhandlaw11_RateSteady.j0 k a0 a1 a2 t171 true) else (if a1 < 1 then (fourinhandlaw11_RateSteady.j0 k a0 a1 a2 t171 true) else (if a1 > 1000000000 then (fourinhandlaw11_RateSteady.j0 k a0 a1 a2 t171 true) else (if a2 < 1 then (fourinhandlaw11_RateSteady.j0 k a0 a1 a2 t171 true) else (fourinhandlaw11_RateSteady.j0 k a0 a1 a2 t171 (decide (a2 > 30)))))))) else (fourinhandlaw11_RateSteady.j0 k a0 a1 a2 t171 true))
theorem fourinhandlaw11_RateSteady.mono_l : ∀ k, (∀ y0 y1 y2 y3 y4, LeO (fourinhandlaw11_RateSteady.j0 k y0 y1 y2 y3 y4) (fourinhandlaw11_RateSteady.j0 (k + 1) y0 y1 y2 y3 y4)) ∧ (∀ y0 y1 y2 y3 y4 y5 y6, LeO (fourinhandlaw11_RateSteady.l0 k y0 y1 y2 y3 y4 y5 y6) (fourinhandlaw11_RateSteady.l0 (k + 1) y0 y1 y2 y3 y4 y5 y6))
  | 0 => ⟨fun _ _ _ _ _ r h => by simp [fourinhandlaw11_RateSteady.j0] at h, fun _ _ _ _ _ _ _ r h => by simp [fourinhandlaw11_RateSteady.l0] at h⟩
  | k + 1 => by
    obtain ⟨ih0, ih1⟩ := fourinhandlaw11_RateSteady.mono_l k
    refine ⟨?_, ?_⟩
    · intro y0 y1 y2 y3 y4
      unfold fourinhandlaw11_RateSteady.j0
      repeat' first
      | (with_reducible exact ih0 _ _ _ _ _)
      | (with_reducible exact ih1 _ _ _ _ _ _ _)
      | (with_reducible exact fourinhandlaw11_awake.mono _)
      | (with_reducible exact rate_Best.mono _ _ _ _)
      | (with_reducible exact rate_Came.mono _ _ _ _ _ _)
      | (with_reducible exact rate_Sample.mono _ _ _ _ _ _)
      | (with_reducible exact LeO.refl _)
      | (with_reducible exact LeO.none _)
      | (with_reducible refine LeO.ite ?_ ?_)
      | (with_reducible refine LeO.bind ?_ (fun _ => ?_))
      | exact ih0 _ _ _ _ _
      | exact ih1 _ _ _ _ _ _ _
      | exact fourinhandlaw11_awake.mono _
      | exact rate_Best.mono _ _ _ _
      | exact rate_Came.mono _ _ _ _ _ _
      | exact rate_Sample.mono _ _ _ _ _ _
      | exact LeO.none _
      | refine LeO.ite ?_ ?_
      | refine LeO.bind ?_ (fun _ => ?_)
    · intro y0 y1 y2 y3 y4 y5 y6
      unfold fourinhandlaw11_RateSteady.l0
      repeat' first
      | (with_reducible exact ih0 _ _ _ _ _)
      | (with_reducible exact ih1 _ _ _ _ _ _ _)
      | (with_reducible exact fourinhandlaw11_awake.mono _)
      | (with_reducible exact rate_Best.mono _ _ _ _)
      | (with_reducible exact rate_Came.mono _ _ _ _ _ _)
      | (with_reducible exact rate_Sample.mono _ _ _ _ _ _)
      | (with_reducible exact LeO.refl _)
      | (with_reducible exact LeO.none _)
      | (with_reducible refine LeO.ite ?_ ?_)
      | (with_reducible refine LeO.bind ?_ (fun _ => ?_))
      | exact ih0 _ _ _ _ _
      | exact ih1 _ _ _ _ _ _ _
      | exact fourinhandlaw11_awake.mono _
      | exact rate_Best.mono _ _ _ _
      | exact rate_Came.mono _ _ _ _ _ _
      | exact rate_Sample.mono _ _ _ _ _ _
      | exact LeO.none _
      | refine LeO.ite ?_ ?_
      | refine LeO.bind ?_ (fun _ => ?_)
theorem fourinhandlaw11_RateSteady.mono : ∀ a0 a1 a2 k, LeO (fourinhandlaw11_RateSteady.f k a0 a1 a2) (fourinhandlaw11_RateSteady.f (k + 1) a0 a1 a2) := by
  intro a0 a1 a2 k
  obtain ⟨ih0, ih1⟩ := fourinhandlaw11_RateSteady.mono_l k
  unfold fourinhandlaw11_RateSteady.f
  repeat' first
      | (with_reducible exact ih0 _ _ _ _ _)
      | (with_reducible exact ih1 _ _ _ _ _ _ _)
      | (with_reducible exact fourinhandlaw11_awake.mono _)
      | (with_reducible exact rate_Best.mono _ _ _ _)
      | (with_reducible exact rate_Came.mono _ _ _ _ _ _)
      | (with_reducible exact rate_Sample.mono _ _ _ _ _ _)
      | (with_reducible exact LeO.refl _)
      | (with_reducible exact LeO.none _)
      | (with_reducible refine LeO.ite ?_ ?_)
      | (with_reducible refine LeO.bind ?_ (fun _ => ?_))
      | exact ih0 _ _ _ _ _
      | exact ih1 _ _ _ _ _ _ _
      | exact fourinhandlaw11_awake.mono _
      | exact rate_Best.mono _ _ _ _
      | exact rate_Came.mono _ _ _ _ _ _
      | exact rate_Sample.mono _ _ _ _ _ _
      | exact LeO.none _
      | refine LeO.ite ?_ ?_
      | refine LeO.bind ?_ (fun _ => ?_)
set_option maxHeartbeats 8000000 in
set_option maxRecDepth 100000 in
theorem fourinhandlaw11_RateSteady.calls (k : Nat) (a0 : Int) (a1 : Int) (a2 : Int) (r : Bool) (hr_ : Aside0 (r = true)) (w : World) (h : fourinhandlaw11_RateSteady.f k a0 a1 a2 = some r) :
    Calls Try.prog 7 #[.int .i64 a0, .int .i64 a1, .int .i64 a2] w fun e w' => e = .returned (.bool r) ∧ Below w.heap.size w w' := by
  have hu24 := Try.underlying24
  have HB := Aside0.mk (Below.refl w.heap.size w)
  have H : ((fourinhandlaw11_awake.f k).bind fun t171 => (if t171 = true then (if a0 < 0 then (fourinhandlaw11_RateSteady.j0 k a0 a1 a2 t171 true) else (if a0 > 1000000000 then (fourinhandlaw11_RateSteady.j0 k a0 a1 a2 t171 true) else (if a1 < 1 then (fourinhandlaw11_RateSteady.j0 k a0 a1 a2 t171 true) else (if a1 > 1000000000 then (fourinhandlaw11_RateSteady.j0 k a0 a1 a2 t171 true) else (if a2 < 1 then (fourinhandlaw11_RateSteady.j0 k a0 a1 a2 t171 true) else (fourinhandlaw11_RateSteady.j0 k a0 a1 a2 t171 (decide (a2 > 30)))))))) else (fourinhandlaw11_RateSteady.j0 k a0 a1 a2 t171 true))) = some r := h
  clear h
  replace H := Option.bind_eq_some_iff.mp H
  obtain ⟨t171, A40, H⟩ := H
  replace H : (if t171 = true then (if a0 < 0 then (fourinhandlaw11_RateSteady.j0 k a0 a1 a2 t171 true) else (if a0 > 1000000000 then (fourinhandlaw11_RateSteady.j0 k a0 a1 a2 t171 true) else (if a1 < 1 then (fourinhandlaw11_RateSteady.j0 k a0 a1 a2 t171 true) else (if a1 > 1000000000 then (fourinhandlaw11_RateSteady.j0 k a0 a1 a2 t171 true) else (if a2 < 1 then (fourinhandlaw11_RateSteady.j0 k a0 a1 a2 t171 true) else (fourinhandlaw11_RateSteady.j0 k a0 a1 a2 t171 (decide (a2 > 30)))))))) else (fourinhandlaw11_RateSteady.j0 k a0 a1 a2 t171 true)) = some r := H
  have A4 := Aside0.mk A40
  clear A40
  have HC5 := Aside0.mk H
  clear H
  go_enter Try.func7, Try.ntmps7
  go_upto_region 2 with (first | ((with_reducible refine gate_callee (f := 8) rfl ?_); refine goesL_ (some 17) rfl rfl Try.func8 (by kernel_rfl) rfl #[] rfl (by (try simp only [List.map_toArray, List.map_cons, List.map_nil]); first | done | rfl | (simp only [List.length_drop, List.length_take]; rfl)) ?_; (with_reducible refine (fourinhandlaw11_awake.calls k  t171 _ A4.out).mono ?_); rintro e w6 ⟨rfl, hb⟩; refine ⟨_, rfl, ?_⟩; have n0_ := Aside0.mk (below_step (by repeat (first | (with_reducible first | exact HB.out | apply below_alloc | apply pw_below_drewN | apply below_drew1) | exact HB.out)) hb); clear HB; have HB := n0_; clear n0_; (try clear hb); (try clear hb2); (try clear hk); (try clear hi)))
  (try simp only [Act.put, List.setIfInBounds_toArray, List.set_cons_zero, List.set_cons_succ])
  go_cut [43] (fun v43 wc => ∃ (kq : Nat) (x43_4 : Bool), v43 = .bool x43_4 ∧ Aside0 (fourinhandlaw11_RateSteady.j0 kq a0 a1 a2 t171 x43_4 = some r) ∧ Aside0 (kq ≤ k) ∧ Aside0 (Below w.heap.size w wc))
  case first =>
    have H := HC5.out
    clear HC5
    by_cases c7 : t171 = true
    · subst c7
      have H1 : (if a0 < 0 then (fourinhandlaw11_RateSteady.j0 k a0 a1 a2 true true) else (if a0 > 1000000000 then (fourinhandlaw11_RateSteady.j0 k a0 a1 a2 true true) else (if a1 < 1 then (fourinhandlaw11_RateSteady.j0 k a0 a1 a2 true true) else (if a1 > 1000000000 then (fourinhandlaw11_RateSteady.j0 k a0 a1 a2 true true) else (if a2 < 1 then (fourinhandlaw11_RateSteady.j0 k a0 a1 a2 true true) else (fourinhandlaw11_RateSteady.j0 k a0 a1 a2 true (decide (a2 > 30)))))))) = some r := by rw [if_pos rfl] at H; exact H
      clear H
      have H := H1
      clear H1
      by_cases c8 : a0 < 0
      · rw [if_pos c8] at H
        have c8b0 : decide (a0 < 0) = true := decide_eq_true c8
        clear c8
        (first | rw [c8b0] | (simp only [i64_w, i32_w]; rw [c8b0]) | skip)
        have H' := Aside0.mk H
        clear H
        go_wp2
        go_meet
        case rel => exact ⟨_, (true), (by first | rfl | (simp; done) | (simp [*]; done)), H', ⟨by first | omega | exact Nat.le_refl _⟩, ⟨by repeat (first | (with_reducible first | exact HB.out | apply below_alloc | apply pw_below_drewN | apply below_drew1) | exact HB.out)⟩⟩
      · rw [if_neg c8] at H
        have c8b0 : decide (a0 < 0) = false := decide_eq_false c8
        clear c8
        (first | rw [c8b0] | (simp only [i64_w, i32_w]; rw [c8b0]) | skip)
        by_cases c9 : a0 > 1000000000
        · rw [if_pos c9] at H
          have c9b0 : decide (1000000000 < a0) = true := decide_eq_true c9
          clear c9
          have H' := Aside0.mk H
          clear H
          go_wp2
          go_meet
          case rel => exact ⟨_, (true), (by first | rfl | (simp; done) | (simp [*]; done)), H', ⟨by first | omega | exact Nat.le_refl _⟩, ⟨by repeat (first | (with_reducible first | exact HB.out | apply below_alloc | apply pw_below_drewN | apply below_drew1) | exact HB.out)⟩⟩
        · rw [if_neg c9] at H
          have c9b0 : decide (1000000000 < a0) = false := decide_eq_false c9
          clear c9
          by_cases c10 : a1 < 1
          · rw [if_pos c10] at H
            have c10b0 : decide (a1 < 1) = true := decide_eq_true c10
            clear c10
            have H' := Aside0.mk H
            clear H
            go_wp2
            go_meet
            case rel => exact ⟨_, (true), (by first | rfl | (simp; done) | (simp [*]; done)), H', ⟨by first | omega | exact Nat.le_refl _⟩, ⟨by repeat (first | (with_reducible first | exact HB.out | apply below_alloc | apply pw_below_drewN | apply below_drew1) | exact HB.out)⟩⟩
          · rw [if_neg c10] at H
            have c10b0 : decide (a1 < 1) = false := decide_eq_false c10
            clear c10
            by_cases c11 : a1 > 1000000000
            · rw [if_pos c11] at H
              have c11b0 : decide (1000000000 < a1) = true := decide_eq_true c11
              clear c11
              have H' := Aside0.mk H
              clear H
              go_wp2
              go_meet
              case rel => exact ⟨_, (true), (by first | rfl | (simp; done) | (simp [*]; done)), H', ⟨by first | omega | exact Nat.le_refl _⟩, ⟨by repeat (first | (with_reducible first | exact HB.out | apply below_alloc | apply pw_below_drewN | apply below_drew1) | exact HB.out)⟩⟩
            · rw [if_neg c11] at H
              have c11b0 : decide (1000000000 < a1) = false := decide_eq_false c11
              clear c11
              by_cases c12 : a2 < 1
              · rw [if_pos c12] at H
                have c12b0 : decide (a2 < 1) = true := decide_eq_true c12
                clear c12
                have H' := Aside0.mk H
                clear H
                go_wp2
                go_meet
                case rel => exact ⟨_, (true), (by first | rfl | (simp; done) | (simp [*]; done)), H', ⟨by first | omega | exact Nat.le_refl _⟩, ⟨by repeat (first | (with_reducible first | exact HB.out | apply below_alloc | apply pw_below_drewN | apply below_drew1) | exact HB.out)⟩⟩
              · rw [if_neg c12] at H
                have c12b0 : decide (a2 < 1) = false := decide_eq_false c12
                clear c12
                have H' := Aside0.mk H
                clear H
                go_wp2
                go_meet
                case rel => exact ⟨_, (decide (a2 > 30)), (by first | rfl | (simp; done) | (simp [*]; done)), H', ⟨by first | omega | exact Nat.le_refl _⟩, ⟨by repeat (first | (with_reducible first | exact HB.out | apply below_alloc | apply pw_below_drewN | apply below_drew1) | exact HB.out)⟩⟩
    · replace c7 := Bool.eq_false_iff.mpr c7
      subst c7
      have H1 : (fourinhandlaw11_RateSteady.j0 k a0 a1 a2 false true) = some r := by rw [if_neg (show ¬ (false = true) by decide)] at H; exact H
      clear H
      have H := H1
      clear H1
      have H' := Aside0.mk H
      clear H
      go_wp2
      go_meet
      case rel => exact ⟨_, (true), (by first | rfl | (simp; done) | (simp [*]; done)), H', ⟨by first | omega | exact Nat.le_refl _⟩, ⟨by repeat (first | (with_reducible first | exact HB.out | apply below_alloc | apply pw_below_drewN | apply below_drew1) | exact HB.out)⟩⟩
  case rest =>
    clear HC5
    try clear c1
    try clear p2
    try clear c7
    try clear c8
    try clear c8b0
    try clear c9
    try clear c9b0
    try clear c10
    try clear c10b0
    try clear c11
    try clear c11b0
    try clear c12
    try clear c12b0
    obtain ⟨kq, x43_4, rfl, HA, HJ4, HB⟩ := hcut
    cases kq with
    | zero => exact absurd HA.out (by simp [fourinhandlaw11_RateSteady.j0])
    | succ kj4 =>
      have H := HA.out
      clear HA
      simp only [fourinhandlaw11_RateSteady.j0] at H
      by_cases c13 : x43_4 = true
      · subst c13
        have H1 : (some t171) = some r := by rw [if_pos rfl] at H; exact H
        clear H
        have H := H1
        clear H1
        obtain rfl := Option.some.inj H
        go_wp2
        go_ret
        exact ⟨by first | rfl | (simp [errW_none, errW_some] <;> rfl) | (simp [*, errW_none, errW_some] <;> rfl), by repeat (first | (with_reducible first | exact HB.out | apply below_alloc | apply pw_below_drewN | apply below_drew1) | exact HB.out)⟩
      · replace c13 := Bool.eq_false_iff.mpr c13
        subst c13
        have H1 : (fourinhandlaw11_RateSteady.l0 kj4 a0 a1 a2 0 0 0 ([] : List Int)) = some r := by rw [if_neg (show ¬ (false = true) by decide)] at H; exact H
        clear H
        have H := H1
        clear H1
        have H' := Aside0.mk H
        clear H
        go_wp2_with (first | ((with_reducible refine gate_dst (N := 8) rfl ?_); refine box_event ?hg (N := 8) ?hd (cs := #[.int .i64 0, .int .i64 0, .slice none 0 0]) (t := 24) ?hr ?_; (case hd => rfl); (case hg => rfl); (case hr => first | (go_simp; done) | (go_simp; rfl)); intro gb172 hg w14 hbox hb; have n0_ := Aside0.mk (below_step (by repeat (first | (with_reducible first | exact HB.out | apply below_alloc | apply pw_below_drewN | apply below_drew1) | exact HB.out)) hb); have n1_ := Aside0.mk (hbox); have n2_ := Aside0.mk ((by rw [hg]; exact (below_size (by repeat (first | (with_reducible first | exact HB.out | apply below_alloc | apply pw_below_drewN | apply below_drew1) | exact HB.out))) : w.heap.size ≤ gb172)); have n3_ := Aside0.mk ((by rw [hg]; exact (below_size (by repeat (first | (with_reducible first | exact HB.out | apply below_alloc | apply pw_below_drewN | apply below_drew1) | exact HB.out))) : w.heap.size ≤ gb172)); clear HB; have HB := n0_; have BK172 := n1_; have GW172 := n2_; have GE172 := n3_; clear n0_ n1_ n2_ n3_; clear hb hbox hg; have hcz15_0 : w14.cell? ⟨gb172, 0, none⟩ = some (.int .i64 0) := (blk_cell BK172.out 0).trans rfl; have hcz15_1 : w14.cell? ⟨gb172, 1, none⟩ = some (.int .i64 0) := (blk_cell BK172.out 1).trans rfl; have hcz15_2 : w14.cell? ⟨gb172, 2, none⟩ = some (.slice none 0 0) := (blk_cell BK172.out 2).trans rfl; have hfz15_0 := blk_frozen BK172.out 0; have hfz15_1 := blk_frozen BK172.out 1; have hfz15_2 := blk_frozen BK172.out 2))
        go_loopg [9] kj4 (fun kq v9 w' => ∃ (x9_2 : Int) (x173000_2 : Int) (x173001_2 : Int) (x173002_2 : List Int) (u173002 : Value), v9 = .int .i64 x9_2 ∧ Aside0 (fourinhandlaw11_RateSteady.l0 kq a0 a1 a2 x9_2 x173000_2 x173001_2 x173002_2 = some r) ∧ Aside0 (kq ≤ kj4) ∧ Aside0 (Kd.Q (Kd.int .i64) 3 w' w.heap.size (fun _ => True) u173002 x173002_2) ∧ Aside0 (w'.heap[gb172]? = some (.cells #[.int .i64 x173000_2, .int .i64 x173001_2, u173002] 24 (0, 0))) ∧ Aside0 (Below w.heap.size w w'))
        case atStart => exact ⟨(0), (0), (0), (([] : List Int)), (.slice none 0 0), (by first | rfl | (simp; done) | (simp [*]; done)), H', ⟨Nat.le_refl _⟩, ⟨Kd.Q_of_R (by first | exact Kd.R_nil _ _ _ _ _ | exact Kd.N_nil _ _ _ _ _ | exact Kd.V_nil _ _ _ _ _ | exact Kd.Q_nil _ _ _ _ _ | exact Kd.S_nil _ _ _ _ _)⟩, ⟨by (with_reducible repeat (first | refine blk_drewN ?_ _ | refine blk_drew ?_ | refine blk_alloc ?_ _)); refine blk_put (cs := #[.int .i64 0, .int .i64 0, .slice none 0 0]) ?_ 2 _ rfl; (with_reducible repeat (first | refine blk_drewN ?_ _ | refine blk_drew ?_ | refine blk_alloc ?_ _)); refine blk_put (cs := #[.int .i64 0, .int .i64 0, .slice none 0 0]) ?_ 1 _ rfl; (with_reducible repeat (first | refine blk_drewN ?_ _ | refine blk_drew ?_ | refine blk_alloc ?_ _)); refine blk_put (cs := #[.int .i64 0, .int .i64 0, .slice none 0 0]) ?_ 0 _ rfl; (with_reducible repeat (first | refine blk_drewN ?_ _ | refine blk_drew ?_ | refine blk_alloc ?_ _)); exact BK172.out⟩, ⟨by repeat (first | (with_reducible first | exact HB.out | apply below_alloc | apply pw_below_drewN | apply below_drew1 | refine below_set ?_ GE172.out) | exact HB.out)⟩⟩
        case round =>
          clear H'
          try clear c1
          try clear p2
          try clear c7
          try clear c8
          try clear c8b0
          try clear c9
          try clear c9b0
          try clear c10
          try clear c10b0
          try clear c11
          try clear c11b0
          try clear c12
          try clear c12b0
          try clear c13
          try clear hcz15_0
          try clear hcz15_1
          try clear hcz15_2
          try clear hfz15_0
          try clear hfz15_1
          try clear hfz15_2
          try clear p2
          obtain ⟨x9_2, x173000_2, x173001_2, x173002_2, u173002, rfl, HA, HK2, HO_173002, BK172, HB⟩ := hrel
          cases gk with
          | zero => exact absurd HA.out (by simp [fourinhandlaw11_RateSteady.l0])
          | succ k2 =>
            have H := HA.out
            clear HA
            simp only [fourinhandlaw11_RateSteady.l0] at H
            by_cases c16 : x9_2 < a2
            · rw [if_pos c16] at H
              have c16b0 : decide (x9_2 < a2) = true := decide_eq_true c16
              clear c16
              replace H := Option.bind_eq_some_iff.mp H
              obtain ⟨⟨t173, t174, t175, t178⟩, A170, H⟩ := H
              replace H : ((rate_Sample.f k2 t173 t174 t175 x173000_2 x173001_2).bind fun bt180 => (if t178 = 0 then (if bt180.2.2.2.2 = 0 then (if a1 = 0 then (none) else (if bt180.2.2.2.1 = (wrap64 (Int.tdiv (wrap64 (a0 * 1000000)) a1)) then ((rate_Best.f k2 bt180.1 bt180.2.1 bt180.2.2.1).bind fun t188 => (if t188 = bt180.2.2.2.1 then (fourinhandlaw11_RateSteady.l0 k2 a0 a1 a2 (wrap64 (x9_2 + 1)) bt180.1 bt180.2.1 bt180.2.2.1) else (some false))) else (some false))) else (some false)) else (some false))) = some r := H
              have A17 := Aside0.mk A170
              clear A170
              replace H := Option.bind_eq_some_iff.mp H
              obtain ⟨⟨t180, t181, t182, t185, t186⟩, A180, H⟩ := H
              replace H : (if t178 = 0 then (if t186 = 0 then (if a1 = 0 then (none) else (if t185 = (wrap64 (Int.tdiv (wrap64 (a0 * 1000000)) a1)) then ((rate_Best.f k2 t180 t181 t182).bind fun t188 => (if t188 = t185 then (fourinhandlaw11_RateSteady.l0 k2 a0 a1 a2 (wrap64 (x9_2 + 1)) t180 t181 t182) else (some false))) else (some false))) else (some false)) else (some false)) = some r := H
              have A18 := Aside0.mk A180
              clear A180
              by_cases c19 : t178 = 0
              · rw [if_pos c19] at H
                have c19b0 : (t178 == 0) = true := beq_iff_eq.mpr c19
                have c19b1 : (t178 != 0) = false := bne_eq_false_iff_eq.mpr c19
                clear c19
                by_cases c20 : t186 = 0
                · rw [if_pos c20] at H
                  have c20b0 : (t186 == 0) = true := beq_iff_eq.mpr c20
                  have c20b1 : (t186 != 0) = false := bne_eq_false_iff_eq.mpr c20
                  clear c20
                  by_cases c21 : a1 = 0
                  · rw [if_pos c21] at H
                    exact absurd H (by simp)
                  · rw [if_neg c21] at H
                    have c21b0 : (a1 == 0) = false := beq_eq_false_iff_ne.mpr c21
                    have c21b1 : (a1 != 0) = true := bne_iff_ne.mpr c21
                    by_cases c22 : t185 = (wrap64 (Int.tdiv (wrap64 (a0 * 1000000)) a1))
                    · rw [if_pos c22] at H
                      have c22b0 : (t185 == (wrap64 (Int.tdiv (wrap64 (a0 * 1000000)) a1))) = true := beq_iff_eq.mpr c22
                      have c22b1 : (t185 != (wrap64 (Int.tdiv (wrap64 (a0 * 1000000)) a1))) = false := bne_eq_false_iff_eq.mpr c22
                      clear c22
                      replace H := Option.bind_eq_some_iff.mp H
                      obtain ⟨t188, A230, H⟩ := H
                      replace H : (if t188 = t185 then (fourinhandlaw11_RateSteady.l0 k2 a0 a1 a2 (wrap64 (x9_2 + 1)) t180 t181 t182) else (some false)) = some r := H
                      have A23 := Aside0.mk A230
                      clear A230
                      by_cases c24 : t188 = t185
                      · rw [if_pos c24] at H
                        have c24b0 : (t188 == t185) = true := beq_iff_eq.mpr c24
                        have c24b1 : (t188 != t185) = false := bne_eq_false_iff_eq.mpr c24
                        clear c24
                        have H' := Aside0.mk H
                        clear H
                        have hcz25_0 : wr.cell? ⟨gb172, 0, none⟩ = some (.int .i64 x173000_2) := (blk_cell BK172.out 0).trans rfl
                        have hcz25_1 : wr.cell? ⟨gb172, 1, none⟩ = some (.int .i64 x173001_2) := (blk_cell BK172.out 1).trans rfl
                        have hcz25_2 : wr.cell? ⟨gb172, 2, none⟩ = some (u173002) := (blk_cell BK172.out 2).trans rfl
                        have hfz25_0 := blk_frozen BK172.out 0
                        have hfz25_1 := blk_frozen BK172.out 1
                        have hfz25_2 := blk_frozen BK172.out 2
                        obtain ⟨Ao26, co26, eo26, _⟩ := Kd.Q_slice HO_173002.out
                        subst eo26
                        go_wp2_with (first | ((with_reducible refine gate_callee (f := 10) rfl ?_); refine goesL_ (some 61) rfl rfl Try.func10 (by kernel_rfl) rfl #[.agg #[.int .i64 x173000_2, .int .i64 x173001_2, .slice Ao26 x173002_2.length co26], .int .i64 (wrap64 (x173001_2 + a1)), .int .i64 a0] rfl (by (try simp only [List.map_toArray, List.map_cons, List.map_nil]); first | done | rfl | (simp only [List.length_drop, List.length_take]; rfl)) ?_; (with_reducible refine (rate_Came.calls k2 x173000_2 x173001_2 _ _ x173002_2 (wrap64 (x173001_2 + a1)) a0 t173 t174 t175 t178 _ ?side1 ?side2 A17.out).mono ?_); (case side1 => repeat (first | exact (Kd.Q_reads' HO_173002.out).2.2 | (with_reducible refine Kd.C_alloc ?_ _) | (with_reducible refine Kd.C_drewN ?_ _) | (with_reducible refine Kd.C_drew ?_))); (case side2 => exact (Kd.Q_reads' HO_173002.out).2.1); rintro e w27 ⟨v176, rfl, ho0, hb⟩; refine ⟨_, rfl, ?_⟩; have n0_ := Aside0.mk (Kd.Q_elder' (by (with_reducible repeat (first | apply Kd.Q_alloc | apply Kd.Q_drewN | apply Kd.Q_drew)); exact HO_173002.out) (Kd.R_base ho0) hb); have n1_ := Aside0.mk (Kd.R_lower (Kd.R_new' ho0 (Kd.Q_lt (by (with_reducible repeat (first | apply Kd.Q_alloc | apply Kd.Q_drewN | apply Kd.Q_drew)); exact HO_173002.out))) (below_size (by repeat (first | (with_reducible first | exact HB.out | apply below_alloc | apply pw_below_drewN | apply below_drew1 | refine below_set ?_ GE172.out) | exact HB.out)))); have n2_ := Aside0.mk (blk_below (g := gb172) (o := .cells #[.int .i64 x173000_2, .int .i64 x173001_2, .slice Ao26 x173002_2.length co26] 24 (0, 0)) (by (with_reducible repeat (first | refine blk_drewN ?_ _ | refine blk_drew ?_ | refine blk_alloc ?_ _)); exact BK172.out) hb); have n3_ := Aside0.mk (below_step (by repeat (first | (with_reducible first | exact HB.out | apply below_alloc | apply pw_below_drewN | apply below_drew1 | refine below_set ?_ GE172.out) | exact HB.out)) hb); clear HO_173002; clear BK172; clear HB; have HO_173002 := n0_; have HO177 := n1_; have BK172 := n2_; have HB := n3_; clear n0_ n1_ n2_ n3_; (try clear hb); (try clear hb2); (try clear hk); (try clear hi); (try clear ho0)) | ((with_reducible refine gate_dst (N := 12) rfl ?_); refine box_event ?hg (N := 12) ?hd (cs := #[.int .i64 0, .int .i64 0, .slice none 0 0]) (t := 24) ?hr ?_; (case hd => rfl); (case hg => rfl); (case hr => first | (go_simp; done) | (go_simp; rfl)); intro gb179 hg w28 hbox hb; have n0_ := Aside0.mk (Kd.Q_below (by (with_reducible repeat (first | apply Kd.Q_alloc | apply Kd.Q_drewN | apply Kd.Q_drew)); exact HO_173002.out) hb); have n1_ := Aside0.mk (Kd.R_below (by (with_reducible repeat (first | apply Kd.R_alloc | apply Kd.R_drewN | apply Kd.R_drew)); exact HO177.out) hb); have n2_ := Aside0.mk (blk_below (g := gb172) (o := .cells #[.int .i64 x173000_2, .int .i64 x173001_2, .slice Ao26 x173002_2.length co26] 24 (0, 0)) (by (with_reducible repeat (first | refine blk_drewN ?_ _ | refine blk_drew ?_ | refine blk_alloc ?_ _)); exact BK172.out) hb); have n3_ := Aside0.mk (below_step (by repeat (first | (with_reducible first | exact HB.out | apply below_alloc | apply pw_below_drewN | apply below_drew1 | refine below_set ?_ GE172.out) | exact HB.out)) hb); have n4_ := Aside0.mk (hbox); have n5_ := Aside0.mk ((by rw [hg]; exact (below_size (by repeat (first | (with_reducible first | exact HB.out | apply below_alloc | apply pw_below_drewN | apply below_drew1 | refine below_set ?_ GE172.out) | exact HB.out))) : w.heap.size ≤ gb179)); have n6_ := Aside0.mk ((by rw [hg]; exact (below_size (by repeat (first | (with_reducible first | exact HB.out | apply below_alloc | apply pw_below_drewN | apply below_drew1 | refine below_set ?_ GE172.out) | exact HB.out))) : w.heap.size ≤ gb179)); have n7_ := Aside0.mk ((by rw [hg]; exact Nat.ne_of_lt (blk_lt (g := gb172) (o := .cells #[.int .i64 x173000_2, .int .i64 x173001_2, .slice Ao26 x173002_2.length co26] 24 (0, 0)) (by (with_reducible repeat (first | refine blk_drewN ?_ _ | refine blk_drew ?_ | refine blk_alloc ?_ _)); exact BK172.out)) : gb172 ≠ gb179)); have n8_ := Aside0.mk ((by rw [hg]; exact Nat.ne_of_gt (blk_lt (g := gb172) (o := .cells #[.int .i64 x173000_2, .int .i64 x173001_2, .slice Ao26 x173002_2.length co26] 24 (0, 0)) (by (with_reducible repeat (first | refine blk_drewN ?_ _ | refine blk_drew ?_ | refine blk_alloc ?_ _)); exact BK172.out)) : gb179 ≠ gb172)); clear HO_173002; clear HO177; clear BK172; clear HB; have HO_173002 := n0_; have HO177 := n1_; have BK172 := n2_; have HB := n3_; have BK179 := n4_; have GW179 := n5_; have GE179 := n6_; have NB172_179 := n7_; have NB179_172 := n8_; clear n0_ n1_ n2_ n3_ n4_ n5_ n6_ n7_ n8_; clear hb hbox hg; have hnb29 := NB179_172.out; have hnc29 := NB172_179.out; have hcz30_0 : w28.cell? ⟨gb179, 0, none⟩ = some (.int .i64 0) := (blk_cell BK179.out 0).trans rfl; have hcz30_1 : w28.cell? ⟨gb179, 1, none⟩ = some (.int .i64 0) := (blk_cell BK179.out 1).trans rfl; have hcz30_2 : w28.cell? ⟨gb179, 2, none⟩ = some (.slice none 0 0) := (blk_cell BK179.out 2).trans rfl; have hfz30_0 := blk_frozen BK179.out 0; have hfz30_1 := blk_frozen BK179.out 1; have hfz30_2 := blk_frozen BK179.out 2; obtain ⟨Ao31, co31, eo31⟩ := Kd.R_slice HO177.out; subst eo31) | ((with_reducible refine gate_callee (f := 13) rfl ?_); refine goesL_ (some 68) rfl rfl Try.func13 (by kernel_rfl) rfl #[.agg #[.int .i64 t173, .int .i64 t174, .slice Ao31 t175.length co31], .int .i64 x173000_2, .int .i64 x173001_2] rfl (by (try simp only [List.map_toArray, List.map_cons, List.map_nil]); first | done | rfl | (simp only [List.length_drop, List.length_take]; rfl)) ?_; (with_reducible refine (rate_Sample.calls k2 t173 t174 _ _ t175 x173000_2 x173001_2 t180 t181 t182 t185 t186 _ ?side1 ?side2 A18.out).mono ?_); (case side1 => refine (Kd.R_reads' (e := 3) (base := w.heap.size) (ok := fun k_ => (True ∧ some k_ ≠ (.slice Ao26 x173002_2.length co26 : Value).ownBlock)) (n := t175.length) (c := co31) ?_).2.2; exact (by (with_reducible repeat (first | apply Kd.R_alloc | apply Kd.R_drewN | apply Kd.R_drew)); exact (Kd.R_mono (Kd.R_far (p := ⟨gb179, 2, none⟩) (Kd.R_far (p := ⟨gb179, 1, none⟩) (Kd.R_far (p := ⟨gb179, 0, none⟩) (Kd.R_types HO177.out BK179.out (by decide)) (fun _ hk => hk.2) (.int .i64 t173)) (fun _ hk => hk.2) (.int .i64 t174)) (fun _ hk => hk.2) (.slice Ao31 t175.length co31)) (fun _ h_ => h_.1)))); (case side2 => exact (Kd.R_reads' HO177.out).2.1); rintro e w32 ⟨v183, rfl, ho0, hb⟩; refine ⟨_, rfl, ?_⟩; have n0_ := Aside0.mk (Kd.Q_elder' (by (with_reducible repeat (first | apply Kd.Q_alloc | apply Kd.Q_drewN | apply Kd.Q_drew)); exact (Kd.Q_mono (Kd.Q_far (p := ⟨gb179, 2, none⟩) (Kd.Q_far (p := ⟨gb179, 1, none⟩) (Kd.Q_far (p := ⟨gb179, 0, none⟩) (Kd.Q_types HO_173002.out BK179.out (by decide)) (fun _ hk => hk.2) (.int .i64 t173)) (fun _ hk => hk.2) (.int .i64 t174)) (fun _ hk => hk.2) (.slice Ao31 t175.length co31)) (fun _ h_ => h_.1))) (Kd.Q_base ho0) hb); have n1_ := Aside0.mk (Kd.R_elder' (by (with_reducible repeat (first | apply Kd.R_alloc | apply Kd.R_drewN | apply Kd.R_drew)); exact (Kd.R_mono (Kd.R_far (p := ⟨gb179, 2, none⟩) (Kd.R_far (p := ⟨gb179, 1, none⟩) (Kd.R_far (p := ⟨gb179, 0, none⟩) (Kd.R_types HO177.out BK179.out (by decide)) (fun _ hk => hk.2) (.int .i64 t173)) (fun _ hk => hk.2) (.int .i64 t174)) (fun _ hk => hk.2) (.slice Ao31 t175.length co31)) (fun _ h_ => h_.1))) (Kd.Q_base ho0) hb); have n2_ := Aside0.mk (Kd.Q_lower (Kd.Q_new' (Kd.Q_new' ho0 (Kd.Q_lt (by (with_reducible repeat (first | apply Kd.Q_alloc | apply Kd.Q_drewN | apply Kd.Q_drew)); exact (Kd.Q_mono (Kd.Q_far (p := ⟨gb179, 2, none⟩) (Kd.Q_far (p := ⟨gb179, 1, none⟩) (Kd.Q_far (p := ⟨gb179, 0, none⟩) (Kd.Q_types HO_173002.out BK179.out (by decide)) (fun _ hk => hk.2) (.int .i64 t173)) (fun _ hk => hk.2) (.int .i64 t174)) (fun _ hk => hk.2) (.slice Ao31 t175.length co31)) (fun _ h_ => h_.1))))) (Kd.R_lt (by (with_reducible repeat (first | apply Kd.R_alloc | apply Kd.R_drewN | apply Kd.R_drew)); exact (Kd.R_mono (Kd.R_far (p := ⟨gb179, 2, none⟩) (Kd.R_far (p := ⟨gb179, 1, none⟩) (Kd.R_far (p := ⟨gb179, 0, none⟩) (Kd.R_types HO177.out BK179.out (by decide)) (fun _ hk => hk.2) (.int .i64 t173)) (fun _ hk => hk.2) (.int .i64 t174)) (fun _ hk => hk.2) (.slice Ao31 t175.length co31)) (fun _ h_ => h_.1))))) (below_size (by repeat (first | (with_reducible first | exact HB.out | apply below_alloc | apply pw_below_drewN | apply below_drew1 | refine below_set ?_ GE172.out | refine below_set ?_ GE179.out) | exact HB.out)))); have n3_ := Aside0.mk (blk_below (g := gb172) (o := .cells #[.int .i64 x173000_2, .int .i64 x173001_2, .slice Ao26 x173002_2.length co26] 24 (0, 0)) (by (with_reducible repeat (first | refine blk_drewN ?_ _ | refine blk_drew ?_ | refine blk_alloc ?_ _)); refine blk_far ?_ NB172_179.out _; (with_reducible repeat (first | refine blk_drewN ?_ _ | refine blk_drew ?_ | refine blk_alloc ?_ _)); refine blk_far ?_ NB172_179.out _; (with_reducible repeat (first | refine blk_drewN ?_ _ | refine blk_drew ?_ | refine blk_alloc ?_ _)); refine blk_far ?_ NB172_179.out _; (with_reducible repeat (first | refine blk_drewN ?_ _ | refine blk_drew ?_ | refine blk_alloc ?_ _)); exact BK172.out) hb); have n4_ := Aside0.mk (blk_below (g := gb179) (o := .cells #[.int .i64 t173, .int .i64 t174, .slice Ao31 t175.length co31] 24 (0, 0)) (by (with_reducible repeat (first | refine blk_drewN ?_ _ | refine blk_drew ?_ | refine blk_alloc ?_ _)); refine blk_put (cs := #[.int .i64 t173, .int .i64 t174, .slice none 0 0]) ?_ 2 _ rfl; (with_reducible repeat (first | refine blk_drewN ?_ _ | refine blk_drew ?_ | refine blk_alloc ?_ _)); refine blk_put (cs := #[.int .i64 t173, .int .i64 0, .slice none 0 0]) ?_ 1 _ rfl; (with_reducible repeat (first | refine blk_drewN ?_ _ | refine blk_drew ?_ | refine blk_alloc ?_ _)); refine blk_put (cs := #[.int .i64 0, .int .i64 0, .slice none 0 0]) ?_ 0 _ rfl; (with_reducible repeat (first | refine blk_drewN ?_ _ | refine blk_drew ?_ | refine blk_alloc ?_ _)); exact BK179.out) hb); have n5_ := Aside0.mk (below_step (by repeat (first | (with_reducible first | exact HB.out | apply below_alloc | apply pw_below_drewN | apply below_drew1 | refine below_set ?_ GE172.out | refine below_set ?_ GE179.out) | exact HB.out)) hb); clear HO_173002; clear HO177; clear BK172; clear BK179; clear HB; have HO_173002 := n0_; have HO177 := n1_; have HO184 := n2_; have BK172 := n3_; have BK179 := n4_; have HB := n5_; clear n0_ n1_ n2_ n3_ n4_ n5_; (try clear hb); (try clear hb2); (try clear hk); (try clear hi); (try clear ho0)) | ((with_reducible refine gate_dst (N := 14) rfl ?_); refine box_event ?hg (N := 14) ?hd (cs := #[.int .i64 0, .int .i64 0, .slice none 0 0]) (t := 24) ?hr ?_; (case hd => rfl); (case hg => rfl); (case hr => first | (go_simp; done) | (go_simp; rfl)); intro gb187 hg w33 hbox hb; have n0_ := Aside0.mk (Kd.Q_below (by (with_reducible repeat (first | apply Kd.Q_alloc | apply Kd.Q_drewN | apply Kd.Q_drew)); exact HO_173002.out) hb); have n1_ := Aside0.mk (Kd.R_below (by (with_reducible repeat (first | apply Kd.R_alloc | apply Kd.R_drewN | apply Kd.R_drew)); exact HO177.out) hb); have n2_ := Aside0.mk (Kd.Q_below (by (with_reducible repeat (first | apply Kd.Q_alloc | apply Kd.Q_drewN | apply Kd.Q_drew)); exact HO184.out) hb); have n3_ := Aside0.mk (blk_below (g := gb172) (o := .cells #[.int .i64 x173000_2, .int .i64 x173001_2, .slice Ao26 x173002_2.length co26] 24 (0, 0)) (by (with_reducible repeat (first | refine blk_drewN ?_ _ | refine blk_drew ?_ | refine blk_alloc ?_ _)); exact BK172.out) hb); have n4_ := Aside0.mk (blk_below (g := gb179) (o := .cells #[.int .i64 t173, .int .i64 t174, .slice Ao31 t175.length co31] 24 (0, 0)) (by (with_reducible repeat (first | refine blk_drewN ?_ _ | refine blk_drew ?_ | refine blk_alloc ?_ _)); exact BK179.out) hb); have n5_ := Aside0.mk (below_step (by repeat (first | (with_reducible first | exact HB.out | apply below_alloc | apply pw_below_drewN | apply below_drew1 | refine below_set ?_ GE172.out | refine below_set ?_ GE179.out) | exact HB.out)) hb); have n6_ := Aside0.mk (hbox); have n7_ := Aside0.mk ((by rw [hg]; exact (below_size (by repeat (first | (with_reducible first | exact HB.out | apply below_alloc | apply pw_below_drewN | apply below_drew1 | refine below_set ?_ GE172.out | refine below_set ?_ GE179.out) | exact HB.out))) : w.heap.size ≤ gb187)); have n8_ := Aside0.mk ((by rw [hg]; exact (below_size (by repeat (first | (with_reducible first | exact HB.out | apply below_alloc | apply pw_below_drewN | apply below_drew1 | refine below_set ?_ GE172.out | refine below_set ?_ GE179.out) | exact HB.out))) : w.heap.size ≤ gb187)); have n9_ := Aside0.mk ((by rw [hg]; exact Nat.ne_of_lt (blk_lt (g := gb172) (o := .cells #[.int .i64 x173000_2, .int .i64 x173001_2, .slice Ao26 x173002_2.length co26] 24 (0, 0)) (by (with_reducible repeat (first | refine blk_drewN ?_ _ | refine blk_drew ?_ | refine blk_alloc ?_ _)); exact BK172.out)) : gb172 ≠ gb187)); have n10_ := Aside0.mk ((by rw [hg]; exact Nat.ne_of_gt (blk_lt (g := gb172) (o := .cells #[.int .i64 x173000_2, .int .i64 x173001_2, .slice Ao26 x173002_2.length co26] 24 (0, 0)) (by (with_reducible repeat (first | refine blk_drewN ?_ _ | refine blk_drew ?_ | refine blk_alloc ?_ _)); exact BK172.out)) : gb187 ≠ gb172)); have n11_ := Aside0.mk ((by rw [hg]; exact Nat.ne_of_lt (blk_lt (g := gb179) (o := .cells #[.int .i64 t173, .int .i64 t174, .slice Ao31 t175.length co31] 24 (0, 0)) (by (with_reducible repeat (first | refine blk_drewN ?_ _ | refine blk_drew ?_ | refine blk_alloc ?_ _)); exact BK179.out)) : gb179 ≠ gb187)); have n12_ := Aside0.mk ((by rw [hg]; exact Nat.ne_of_gt (blk_lt (g := gb179) (o := .cells #[.int .i64 t173, .int .i64 t174, .slice Ao31 t175.length co31] 24 (0, 0)) (by (with_reducible repeat (first | refine blk_drewN ?_ _ | refine blk_drew ?_ | refine blk_alloc ?_ _)); exact BK179.out)) : gb187 ≠ gb179)); clear HO_173002; clear HO177; clear HO184; clear BK172; clear BK179; clear HB; have HO_173002 := n0_; have HO177 := n1_; have HO184 := n2_; have BK172 := n3_; have BK179 := n4_; have HB := n5_; have BK187 := n6_; have GW187 := n7_; have GE187 := n8_; have NB172_187 := n9_; have NB187_172 := n10_; have NB179_187 := n11_; have NB187_179 := n12_; clear n0_ n1_ n2_ n3_ n4_ n5_ n6_ n7_ n8_ n9_ n10_ n11_ n12_; clear hb hbox hg; have hnb34 := NB187_172.out; have hnc34 := NB172_187.out; have hnb35 := NB187_179.out; have hnc35 := NB179_187.out; have hcz36_0 : w33.cell? ⟨gb187, 0, none⟩ = some (.int .i64 0) := (blk_cell BK187.out 0).trans rfl; have hcz36_1 : w33.cell? ⟨gb187, 1, none⟩ = some (.int .i64 0) := (blk_cell BK187.out 1).trans rfl; have hcz36_2 : w33.cell? ⟨gb187, 2, none⟩ = some (.slice none 0 0) := (blk_cell BK187.out 2).trans rfl; have hfz36_0 := blk_frozen BK187.out 0; have hfz36_1 := blk_frozen BK187.out 1; have hfz36_2 := blk_frozen BK187.out 2; obtain ⟨Ao37, co37, eo37, _⟩ := Kd.Q_slice HO184.out; subst eo37) | (go_at_call 15; (with_reducible refine (rate_Best.calls k2 t180 t181 _ _ t182 t188 _ ?side1 ?side2 A23.out).mono ?_); (case side1 => refine (Kd.Q_reads' (e := 3) (base := w.heap.size) (ok := fun k_ => ((True ∧ some k_ ≠ (.slice Ao26 x173002_2.length co26 : Value).ownBlock) ∧ some k_ ≠ (.slice Ao31 t175.length co31 : Value).ownBlock)) (n := t182.length) (c := co37) ?_).2.2; exact (by (with_reducible repeat (first | apply Kd.Q_alloc | apply Kd.Q_drewN | apply Kd.Q_drew)); exact (Kd.Q_mono (Kd.Q_far (p := ⟨gb187, 2, none⟩) (Kd.Q_far (p := ⟨gb187, 1, none⟩) (Kd.Q_far (p := ⟨gb187, 0, none⟩) (Kd.Q_types HO184.out BK187.out (by decide)) (fun _ hk => hk.2) (.int .i64 t180)) (fun _ hk => hk.2) (.int .i64 t181)) (fun _ hk => hk.2) (.slice Ao37 t182.length co37)) (fun _ h_ => h_.1)))); (case side2 => exact (Kd.Q_reads' HO184.out).2.1); rintro e w38 ⟨rfl, hb⟩; have n0_ := Aside0.mk (Kd.Q_below (by (with_reducible repeat (first | apply Kd.Q_alloc | apply Kd.Q_drewN | apply Kd.Q_drew)); exact (Kd.Q_mono (Kd.Q_far (p := ⟨gb187, 2, none⟩) (Kd.Q_far (p := ⟨gb187, 1, none⟩) (Kd.Q_far (p := ⟨gb187, 0, none⟩) (Kd.Q_types HO_173002.out BK187.out (by decide)) (fun _ hk => hk.2) (.int .i64 t180)) (fun _ hk => hk.2) (.int .i64 t181)) (fun _ hk => hk.2) (.slice Ao37 t182.length co37)) (fun _ h_ => h_.1))) hb); have n1_ := Aside0.mk (Kd.R_below (by (with_reducible repeat (first | apply Kd.R_alloc | apply Kd.R_drewN | apply Kd.R_drew)); exact (Kd.R_mono (Kd.R_far (p := ⟨gb187, 2, none⟩) (Kd.R_far (p := ⟨gb187, 1, none⟩) (Kd.R_far (p := ⟨gb187, 0, none⟩) (Kd.R_types HO177.out BK187.out (by decide)) (fun _ hk => hk.2) (.int .i64 t180)) (fun _ hk => hk.2) (.int .i64 t181)) (fun _ hk => hk.2) (.slice Ao37 t182.length co37)) (fun _ h_ => h_.1))) hb); have n2_ := Aside0.mk (Kd.Q_below (by (with_reducible repeat (first | apply Kd.Q_alloc | apply Kd.Q_drewN | apply Kd.Q_drew)); exact (Kd.Q_mono (Kd.Q_far (p := ⟨gb187, 2, none⟩) (Kd.Q_far (p := ⟨gb187, 1, none⟩) (Kd.Q_far (p := ⟨gb187, 0, none⟩) (Kd.Q_types HO184.out BK187.out (by decide)) (fun _ hk => hk.2) (.int .i64 t180)) (fun _ hk => hk.2) (.int .i64 t181)) (fun _ hk => hk.2) (.slice Ao37 t182.length co37)) (fun _ h_ => h_.1))) hb); have n3_ := Aside0.mk (blk_below (g := gb172) (o := .cells #[.int .i64 x173000_2, .int .i64 x173001_2, .slice Ao26 x173002_2.length co26] 24 (0, 0)) (by (with_reducible repeat (first | refine blk_drewN ?_ _ | refine blk_drew ?_ | refine blk_alloc ?_ _)); refine blk_far ?_ NB172_187.out _; (with_reducible repeat (first | refine blk_drewN ?_ _ | refine blk_drew ?_ | refine blk_alloc ?_ _)); refine blk_far ?_ NB172_187.out _; (with_reducible repeat (first | refine blk_drewN ?_ _ | refine blk_drew ?_ | refine blk_alloc ?_ _)); refine blk_far ?_ NB172_187.out _; (with_reducible repeat (first | refine blk_drewN ?_ _ | refine blk_drew ?_ | refine blk_alloc ?_ _)); exact BK172.out) hb); have n4_ := Aside0.mk (blk_below (g := gb179) (o := .cells #[.int .i64 t173, .int .i64 t174, .slice Ao31 t175.length co31] 24 (0, 0)) (by (with_reducible repeat (first | refine blk_drewN ?_ _ | refine blk_drew ?_ | refine blk_alloc ?_ _)); refine blk_far ?_ NB179_187.out _; (with_reducible repeat (first | refine blk_drewN ?_ _ | refine blk_drew ?_ | refine blk_alloc ?_ _)); refine blk_far ?_ NB179_187.out _; (with_reducible repeat (first | refine blk_drewN ?_ _ | refine blk_drew ?_ | refine blk_alloc ?_ _)); refine blk_far ?_ NB179_187.out _; (with_reducible repeat (first | refine blk_drewN ?_ _ | refine blk_drew ?_ | refine blk_alloc ?_ _)); exact BK179.out) hb); have n5_ := Aside0.mk (blk_below (g := gb187) (o := .cells #[.int .i64 t180, .int .i64 t181, .slice Ao37 t182.length co37] 24 (0, 0)) (by (with_reducible repeat (first | refine blk_drewN ?_ _ | refine blk_drew ?_ | refine blk_alloc ?_ _)); refine blk_put (cs := #[.int .i64 t180, .int .i64 t181, .slice none 0 0]) ?_ 2 _ rfl; (with_reducible repeat (first | refine blk_drewN ?_ _ | refine blk_drew ?_ | refine blk_alloc ?_ _)); refine blk_put (cs := #[.int .i64 t180, .int .i64 0, .slice none 0 0]) ?_ 1 _ rfl; (with_reducible repeat (first | refine blk_drewN ?_ _ | refine blk_drew ?_ | refine blk_alloc ?_ _)); refine blk_put (cs := #[.int .i64 0, .int .i64 0, .slice none 0 0]) ?_ 0 _ rfl; (with_reducible repeat (first | refine blk_drewN ?_ _ | refine blk_drew ?_ | refine blk_alloc ?_ _)); exact BK187.out) hb); have n6_ := Aside0.mk (below_step (by repeat (first | (with_reducible first | exact HB.out | apply below_alloc | apply pw_below_drewN | apply below_drew1 | refine below_set ?_ GE172.out | refine below_set ?_ GE179.out | refine below_set ?_ GE187.out) | exact HB.out)) hb); clear HO_173002; clear HO177; clear HO184; clear BK172; clear BK179; clear BK187; clear HB; have HO_173002 := n0_; have HO177 := n1_; have HO184 := n2_; have BK172 := n3_; have BK179 := n4_; have BK187 := n5_; have HB := n6_; clear n0_ n1_ n2_ n3_ n4_ n5_ n6_; (try clear hb); (try clear hb2); (try clear hk); (try clear hi); have hcz39_0 : w38.cell? ⟨gb187, 0, none⟩ = some (.int .i64 t180) := (blk_cell BK187.out 0).trans rfl; have hcz39_1 : w38.cell? ⟨gb187, 1, none⟩ = some (.int .i64 t181) := (blk_cell BK187.out 1).trans rfl; have hcz39_2 : w38.cell? ⟨gb187, 2, none⟩ = some (.slice Ao37 t182.length co37) := (blk_cell BK187.out 2).trans rfl; have hfz39_0 := blk_frozen BK187.out 0; have hfz39_1 := blk_frozen BK187.out 1; have hfz39_2 := blk_frozen BK187.out 2; have hcz40_0 : w38.cell? ⟨gb172, 0, none⟩ = some (.int .i64 x173000_2) := (blk_cell BK172.out 0).trans rfl; have hcz40_1 : w38.cell? ⟨gb172, 1, none⟩ = some (.int .i64 x173001_2) := (blk_cell BK172.out 1).trans rfl; have hcz40_2 : w38.cell? ⟨gb172, 2, none⟩ = some (.slice Ao26 x173002_2.length co26) := (blk_cell BK172.out 2).trans rfl; have hfz40_0 := blk_frozen BK172.out 0; have hfz40_1 := blk_frozen BK172.out 1; have hfz40_2 := blk_frozen BK172.out 2))
                        go_roundg k2
                        case measure => have := HJ4.out; have := HK2.out; omega
                        case rel => exact ⟨(wrap64 (x9_2 + 1)), (t180), (t181), (t182), (.slice Ao37 t182.length co37), (by first | rfl | (simp; done) | (simp [*]; done)), H', ⟨by have := HJ4.out; have := HK2.out; omega⟩, ⟨by (with_reducible repeat (first | apply Kd.Q_alloc | apply Kd.Q_drewN | apply Kd.Q_drew)); exact Kd.Q_mono (Kd.Q_far (p := ⟨gb172, 2, none⟩) (Kd.Q_far (p := ⟨gb172, 1, none⟩) (Kd.Q_far (p := ⟨gb172, 0, none⟩) (Kd.Q_types HO184.out BK172.out (by decide)) (fun _ hk => hk.2) (.int .i64 t180)) (fun _ hk => hk.2) (.int .i64 t181)) (fun _ hk => hk.2) (.slice Ao37 t182.length co37)) (fun _ hk => trivial)⟩, ⟨by (with_reducible repeat (first | refine blk_drewN ?_ _ | refine blk_drew ?_ | refine blk_alloc ?_ _)); refine blk_put (cs := #[.int .i64 t180, .int .i64 t181, .slice Ao26 x173002_2.length co26]) ?_ 2 _ rfl; (with_reducible repeat (first | refine blk_drewN ?_ _ | refine blk_drew ?_ | refine blk_alloc ?_ _)); refine blk_put (cs := #[.int .i64 t180, .int .i64 x173001_2, .slice Ao26 x173002_2.length co26]) ?_ 1 _ rfl; (with_reducible repeat (first | refine blk_drewN ?_ _ | refine blk_drew ?_ | refine blk_alloc ?_ _)); refine blk_put (cs := #[.int .i64 x173000_2, .int .i64 x173001_2, .slice Ao26 x173002_2.length co26]) ?_ 0 _ rfl; (with_reducible repeat (first | refine blk_drewN ?_ _ | refine blk_drew ?_ | refine blk_alloc ?_ _)); exact BK172.out⟩, ⟨by repeat (first | (with_reducible first | exact HB.out | apply below_alloc | apply pw_below_drewN | apply below_drew1 | refine below_set ?_ GE172.out | refine below_set ?_ GE179.out | refine below_set ?_ GE187.out) | exact HB.out)⟩⟩
                      · rw [if_neg c24] at H
                        have c24b0 : (t188 == t185) = false := beq_eq_false_iff_ne.mpr c24
                        have c24b1 : (t188 != t185) = true := bne_iff_ne.mpr c24
                        exact Bool.noConfusion ((Option.some.inj H).trans hr_.out)
                    · rw [if_neg c22] at H
                      have c22b0 : (t185 == (wrap64 (Int.tdiv (wrap64 (a0 * 1000000)) a1))) = false := beq_eq_false_iff_ne.mpr c22
                      have c22b1 : (t185 != (wrap64 (Int.tdiv (wrap64 (a0 * 1000000)) a1))) = true := bne_iff_ne.mpr c22
                      exact Bool.noConfusion ((Option.some.inj H).trans hr_.out)
                · rw [if_neg c20] at H
                  have c20b0 : (t186 == 0) = false := beq_eq_false_iff_ne.mpr c20
                  have c20b1 : (t186 != 0) = true := bne_iff_ne.mpr c20
                  exact Bool.noConfusion ((Option.some.inj H).trans hr_.out)
              · rw [if_neg c19] at H
                have c19b0 : (t178 == 0) = false := beq_eq_false_iff_ne.mpr c19
                have c19b1 : (t178 != 0) = true := bne_iff_ne.mpr c19
                exact Bool.noConfusion ((Option.some.inj H).trans hr_.out)
            · rw [if_neg c16] at H
              have c16b0 : decide (x9_2 < a2) = false := decide_eq_false c16
              clear c16
              by_cases c41 : x173000_2 = (wrap64 (a2 * a0))
              · rw [if_pos c41] at H
                have c41b0 : (x173000_2 == (wrap64 (a2 * a0))) = true := beq_iff_eq.mpr c41
                have c41b1 : (x173000_2 != (wrap64 (a2 * a0))) = false := bne_eq_false_iff_eq.mpr c41
                clear c41
                obtain rfl := Option.some.inj H
                have hcz42_0 : wr.cell? ⟨gb172, 0, none⟩ = some (.int .i64 x173000_2) := (blk_cell BK172.out 0).trans rfl
                have hcz42_1 : wr.cell? ⟨gb172, 1, none⟩ = some (.int .i64 x173001_2) := (blk_cell BK172.out 1).trans rfl
                have hcz42_2 : wr.cell? ⟨gb172, 2, none⟩ = some (u173002) := (blk_cell BK172.out 2).trans rfl
                have hfz42_0 := blk_frozen BK172.out 0
                have hfz42_1 := blk_frozen BK172.out 1
                have hfz42_2 := blk_frozen BK172.out 2
                go_wp2
                go_ret
                exact ⟨by first | rfl | (simp [errW_none, errW_some] <;> rfl) | (simp [*, errW_none, errW_some] <;> rfl), by repeat (first | (with_reducible first | exact HB.out | apply below_alloc | apply pw_below_drewN | apply below_drew1 | refine below_set ?_ GE172.out) | exact HB.out)⟩
              · rw [if_neg c41] at H
                have c41b0 : (x173000_2 == (wrap64 (a2 * a0))) = false := beq_eq_false_iff_ne.mpr c41
                have c41b1 : (x173000_2 != (wrap64 (a2 * a0))) = true := bne_iff_ne.mpr c41
                exact Bool.noConfusion ((Option.some.inj H).trans hr_.out)

/-- THE ONE PURE STATEMENT of fourinhandlaw11_RateSteady: yours. -/
def fourinhandlaw11_RateSteady.Pure : Prop := ∀ (a0 : Int) (a1 : Int) (a2 : Int), (Lit.int .i64 a0).wf = true → (Lit.int .i64 a1).wf = true → (Lit.int .i64 a2).wf = true → ∃ k, fourinhandlaw11_RateSteady.f k a0 a1 a2 = some true
theorem fourinhandlaw11_RateSteady.walk (P : fourinhandlaw11_RateSteady.Pure) (a0 : Int) (a1 : Int) (a2 : Int) (w : World) (w0 : (Lit.int .i64 a0).wf = true) (w1 : (Lit.int .i64 a1).wf = true) (w2 : (Lit.int .i64 a2).wf = true) :
    Calls Try.prog 7 #[.int .i64 a0, .int .i64 a1, .int .i64 a2] w fun e w' => e = .returned (.bool true) ∧ Below w.heap.size w w' := by
  obtain ⟨k, h⟩ := P a0 a1 a2 w0 w1 w2
  refine (fourinhandlaw11_RateSteady.calls k a0 a1 a2 true ⟨rfl⟩ w h).mono ?_
  rintro e w' ⟨rfl, hd⟩
  exact ⟨rfl, hd⟩

end Go.Proofs.Ytfdaaodpbaikdaa.PRateSteady
