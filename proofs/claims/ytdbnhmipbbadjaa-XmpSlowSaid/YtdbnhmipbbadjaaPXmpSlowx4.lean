-- Written by a program of this session (wip/hprint.py), over the kit's print.py: the walk of one law. Lean checks it.
import Derived.Test.YtdbnhmipbbadjaaPXmpSlowx0
import Derived.Test.YtdbnhmipbbadjaaPXmpSlowx1
import Derived.Test.YtdbnhmipbbadjaaPXmpSlowx3
namespace Go.Proofs.Ytdbnhmipbbadjaa.PXmpSlow
open Go.RowKit Go.Proofs.YtdbnhmipbbadjaaW.PrintWords Go.Proofs.YtdbnhmipbbadjaaW.PrintLast Go.Proofs.YtdbnhmipbbadjaaW.PrintMore
attribute [local go_sem] max2_int min2_int max_two min_two max_three min_three max_four min_four   -- for this text's walks alone
set_option linter.unusedVariables false
set_option linter.unusedSimpArgs false

attribute [local go_sem high] eqA30
/-! ### fourinhandlaw15_XmpSlow: function 5 -/
mutual
def fourinhandlaw15_XmpSlow.j0 : Nat → Int → Int → Int → Int → Bool → Bool → Int → Int → Option (Bool)
  | 0, _, _, _, _, _, _, _, _ => none
  | k + 1, x1, x2, x3, x4, x11, x44, x148000, x148001 => if x44 = true then (some x11) else ((xmp_Slow.f x148000 x148001 x1 x3 x4).bind fun bt150 => ((xmp_Slow.f bt150.1 bt150.2.1 x2 x3 x4).bind fun bt154 => ((xmp_Slow.f x148000 x148001 (wrap64 (x1 + x2)) x3 x4).bind fun bt157 => ((xmp_Round.f x148000 x148001 x3 x3 x4).bind fun bt161 => (if bt150.2.2 = 0 then (if bt154.2.2 = 0 then (if bt157.2.2 = 0 then (if bt161.2.2 = 0 then (fourinhandlaw15_XmpSlow.j1 k (!(bt154.1 == bt157.1) || (!(bt154.2.1 == bt157.2.1))) x148000 x148001 bt157.1 bt157.2.1 bt161.1 bt161.2.1) else (fourinhandlaw15_XmpSlow.j1 k true x148000 x148001 bt157.1 bt157.2.1 bt161.1 bt161.2.1)) else (fourinhandlaw15_XmpSlow.j1 k true x148000 x148001 bt157.1 bt157.2.1 bt161.1 bt161.2.1)) else (fourinhandlaw15_XmpSlow.j1 k true x148000 x148001 bt157.1 bt157.2.1 bt161.1 bt161.2.1)) else (fourinhandlaw15_XmpSlow.j1 k true x148000 x148001 bt157.1 bt157.2.1 bt161.1 bt161.2.1))))))
def fourinhandlaw15_XmpSlow.j1 : Nat → Bool → Int → Int → Int → Int → Int → Int → Option (Bool)
  | 0, _, _, _, _, _, _, _ => none
  | k + 1, x98, x148000, x148001, x161000, x161001, x165000, x165001 => if x98 = true then (some false) else (if x148000 < x148001 then (some (x165000 == x148000 && (x165001 == x148001))) else (some (x161000 == x148000 && (x161001 == x148001))))
end
def fourinhandlaw15_XmpSlow.f (k : Nat) (a0_0 : Int) (a0_1 : Int) (a1 : Int) (a2 : Int) (a3 : Int) (a4 : Int) : Option (Bool) := (fourinhandlaw15_awake.f k).bind fun t148 => (if t148 = true then ((xmp_May.f a0_0 a0_1 a3 a4).bind fun t149 => (if t149 = true then (if a1 < 0 then (fourinhandlaw15_XmpSlow.j0 k a1 a2 a3 a4 t148 true a0_0 a0_1) else (if a2 < 0 then (fourinhandlaw15_XmpSlow.j0 k a1 a2 a3 a4 t148 true a0_0 a0_1) else (if a1 > 1000000000 then (fourinhandlaw15_XmpSlow.j0 k a1 a2 a3 a4 t148 true a0_0 a0_1) else (fourinhandlaw15_XmpSlow.j0 k a1 a2 a3 a4 t148 (decide (a2 > 1000000000)) a0_0 a0_1)))) else (fourinhandlaw15_XmpSlow.j0 k a1 a2 a3 a4 t148 true a0_0 a0_1))) else (fourinhandlaw15_XmpSlow.j0 k a1 a2 a3 a4 t148 true a0_0 a0_1))
theorem fourinhandlaw15_XmpSlow.mono_l : ∀ k, (∀ y0 y1 y2 y3 y4 y5 y6 y7, LeO (fourinhandlaw15_XmpSlow.j0 k y0 y1 y2 y3 y4 y5 y6 y7) (fourinhandlaw15_XmpSlow.j0 (k + 1) y0 y1 y2 y3 y4 y5 y6 y7)) ∧ (∀ y0 y1 y2 y3 y4 y5 y6, LeO (fourinhandlaw15_XmpSlow.j1 k y0 y1 y2 y3 y4 y5 y6) (fourinhandlaw15_XmpSlow.j1 (k + 1) y0 y1 y2 y3 y4 y5 y6))
  | 0 => ⟨fun _ _ _ _ _ _ _ _ r h => by simp [fourinhandlaw15_XmpSlow.j0] at h, fun _ _ _ _ _ _ _ r h => by simp [fourinhandlaw15_XmpSlow.j1] at h⟩
  | k + 1 => by
    obtain ⟨ih0, ih1⟩ := fourinhandlaw15_XmpSlow.mono_l k
    refine ⟨?_, ?_⟩
    · intro y0 y1 y2 y3 y4 y5 y6 y7
      unfold fourinhandlaw15_XmpSlow.j0
      repeat' first
      | (with_reducible exact ih0 _ _ _ _ _ _ _ _)
      | (with_reducible exact ih1 _ _ _ _ _ _ _)
      | (with_reducible exact fourinhandlaw15_awake.mono _)
      | (with_reducible exact LeO.refl _)
      | (with_reducible exact LeO.none _)
      | (with_reducible refine LeO.ite ?_ ?_)
      | (with_reducible refine LeO.bind ?_ (fun _ => ?_))
      | exact ih0 _ _ _ _ _ _ _ _
      | exact ih1 _ _ _ _ _ _ _
      | exact fourinhandlaw15_awake.mono _
      | exact LeO.none _
      | refine LeO.ite ?_ ?_
      | refine LeO.bind ?_ (fun _ => ?_)
    · intro y0 y1 y2 y3 y4 y5 y6
      unfold fourinhandlaw15_XmpSlow.j1
      repeat' first
      | (with_reducible exact ih0 _ _ _ _ _ _ _ _)
      | (with_reducible exact ih1 _ _ _ _ _ _ _)
      | (with_reducible exact fourinhandlaw15_awake.mono _)
      | (with_reducible exact LeO.refl _)
      | (with_reducible exact LeO.none _)
      | (with_reducible refine LeO.ite ?_ ?_)
      | (with_reducible refine LeO.bind ?_ (fun _ => ?_))
      | exact ih0 _ _ _ _ _ _ _ _
      | exact ih1 _ _ _ _ _ _ _
      | exact fourinhandlaw15_awake.mono _
      | exact LeO.none _
      | refine LeO.ite ?_ ?_
      | refine LeO.bind ?_ (fun _ => ?_)
theorem fourinhandlaw15_XmpSlow.mono : ∀ a0 a1 a2 a3 a4 a5 k, LeO (fourinhandlaw15_XmpSlow.f k a0 a1 a2 a3 a4 a5) (fourinhandlaw15_XmpSlow.f (k + 1) a0 a1 a2 a3 a4 a5) := by
  intro a0 a1 a2 a3 a4 a5 k
  obtain ⟨ih0, ih1⟩ := fourinhandlaw15_XmpSlow.mono_l k
  unfold fourinhandlaw15_XmpSlow.f
  repeat' first
      | (with_reducible exact ih0 _ _ _ _ _ _ _ _)
      | (with_reducible exact ih1 _ _ _ _ _ _ _)
      | (with_reducible exact fourinhandlaw15_awake.mono _)
      | (with_reducible exact LeO.refl _)
      | (with_reducible exact LeO.none _)
      | (with_reducible refine LeO.ite ?_ ?_)
      | (with_reducible refine LeO.bind ?_ (fun _ => ?_))
      | exact ih0 _ _ _ _ _ _ _ _
      | exact ih1 _ _ _ _ _ _ _
      | exact fourinhandlaw15_awake.mono _
      | exact LeO.none _
      | refine LeO.ite ?_ ?_
      | refine LeO.bind ?_ (fun _ => ?_)
set_option maxHeartbeats 8000000 in
set_option maxRecDepth 100000 in
theorem fourinhandlaw15_XmpSlow.calls (k : Nat) (a0_0 : Int) (a0_1 : Int) (a1 : Int) (a2 : Int) (a3 : Int) (a4 : Int) (r : Bool) (hr_ : Aside0 (r = true)) (w : World) (h : fourinhandlaw15_XmpSlow.f k a0_0 a0_1 a1 a2 a3 a4 = some r) :
    Calls Try.prog 5 #[.agg #[.int .i64 a0_0, .int .i64 a0_1], .int .i64 a1, .int .i64 a2, .int .i64 a3, .int .i64 a4] w fun e w' => e = .returned (.bool r) ∧ Below w.heap.size w w' := by
  have hu30 := Try.underlying30
  have HB := Aside0.mk (Below.refl w.heap.size w)
  have H : ((fourinhandlaw15_awake.f k).bind fun t148 => (if t148 = true then ((xmp_May.f a0_0 a0_1 a3 a4).bind fun t149 => (if t149 = true then (if a1 < 0 then (fourinhandlaw15_XmpSlow.j0 k a1 a2 a3 a4 t148 true a0_0 a0_1) else (if a2 < 0 then (fourinhandlaw15_XmpSlow.j0 k a1 a2 a3 a4 t148 true a0_0 a0_1) else (if a1 > 1000000000 then (fourinhandlaw15_XmpSlow.j0 k a1 a2 a3 a4 t148 true a0_0 a0_1) else (fourinhandlaw15_XmpSlow.j0 k a1 a2 a3 a4 t148 (decide (a2 > 1000000000)) a0_0 a0_1)))) else (fourinhandlaw15_XmpSlow.j0 k a1 a2 a3 a4 t148 true a0_0 a0_1))) else (fourinhandlaw15_XmpSlow.j0 k a1 a2 a3 a4 t148 true a0_0 a0_1))) = some r := h
  clear h
  replace H := Option.bind_eq_some_iff.mp H
  obtain ⟨t148, A60, H⟩ := H
  replace H : (if t148 = true then ((xmp_May.f a0_0 a0_1 a3 a4).bind fun t149 => (if t149 = true then (if a1 < 0 then (fourinhandlaw15_XmpSlow.j0 k a1 a2 a3 a4 t148 true a0_0 a0_1) else (if a2 < 0 then (fourinhandlaw15_XmpSlow.j0 k a1 a2 a3 a4 t148 true a0_0 a0_1) else (if a1 > 1000000000 then (fourinhandlaw15_XmpSlow.j0 k a1 a2 a3 a4 t148 true a0_0 a0_1) else (fourinhandlaw15_XmpSlow.j0 k a1 a2 a3 a4 t148 (decide (a2 > 1000000000)) a0_0 a0_1)))) else (fourinhandlaw15_XmpSlow.j0 k a1 a2 a3 a4 t148 true a0_0 a0_1))) else (fourinhandlaw15_XmpSlow.j0 k a1 a2 a3 a4 t148 true a0_0 a0_1)) = some r := H
  have A6 := Aside0.mk A60
  clear A60
  have HC7 := Aside0.mk H
  clear H
  go_enter Try.func5, Try.ntmps5
  go_upto_region 2 with (first | ((with_reducible refine gate_dst (N := 5) rfl ?_); refine box_event ?hg (N := 5) ?hd (cs := #[.int .i64 a0_0, .int .i64 a0_1]) (t := 30) ?hr ?_; (case hd => rfl); (case hg => rfl); (case hr => first | (go_simp; done) | (go_simp; rfl)); intro gb147 hg w8 hbox hb; have n0_ := Aside0.mk (below_step (by repeat (first | (with_reducible first | exact HB.out | apply below_alloc | apply pw_below_drewN | apply below_drew1) | exact HB.out)) hb); have n1_ := Aside0.mk (hbox); have n2_ := Aside0.mk ((by rw [hg]; exact (below_size (by repeat (first | (with_reducible first | exact HB.out | apply below_alloc | apply pw_below_drewN | apply below_drew1) | exact HB.out))) : w.heap.size ≤ gb147)); have n3_ := Aside0.mk ((by rw [hg]; exact (below_size (by repeat (first | (with_reducible first | exact HB.out | apply below_alloc | apply pw_below_drewN | apply below_drew1) | exact HB.out))) : w.heap.size ≤ gb147)); clear HB; have HB := n0_; have BK147 := n1_; have GW147 := n2_; have GE147 := n3_; clear n0_ n1_ n2_ n3_; clear hb hbox hg) | ((with_reducible refine gate_callee (f := 9) rfl ?_); refine goesL_ (some 19) rfl rfl Try.func9 (by kernel_rfl) rfl #[] rfl (by (try simp only [List.map_toArray, List.map_cons, List.map_nil]); first | done | rfl | (simp only [List.length_drop, List.length_take]; rfl)) ?_; (with_reducible refine (fourinhandlaw15_awake.calls k  t148 _ A6.out).mono ?_); rintro e w9 ⟨rfl, hb⟩; refine ⟨_, rfl, ?_⟩; have n0_ := Aside0.mk (blk_below (g := gb147) (o := .cells #[.int .i64 a0_0, .int .i64 a0_1] 30 (0, 0)) (by (with_reducible repeat (first | refine blk_drewN ?_ _ | refine blk_drew ?_ | refine blk_alloc ?_ _)); exact BK147.out) hb); have n1_ := Aside0.mk (below_step (by repeat (first | (with_reducible first | exact HB.out | apply below_alloc | apply pw_below_drewN | apply below_drew1 | refine below_set ?_ GE147.out) | exact HB.out)) hb); clear BK147; clear HB; have BK147 := n0_; have HB := n1_; clear n0_ n1_; (try clear hb); (try clear hb2); (try clear hk); (try clear hi)))
  (try simp only [Act.put, List.setIfInBounds_toArray, List.set_cons_zero, List.set_cons_succ])
  go_cut [44] (fun v44 wc => ∃ (kq : Nat) (x44_6 : Bool), v44 = .bool x44_6 ∧ Aside0 (fourinhandlaw15_XmpSlow.j0 kq a1 a2 a3 a4 t148 x44_6 a0_0 a0_1 = some r) ∧ Aside0 (kq ≤ k) ∧ Aside0 (wc.heap[gb147]? = some (.cells #[.int .i64 a0_0, .int .i64 a0_1] 30 (0, 0))) ∧ Aside0 (Below w.heap.size w wc))
  case first =>
    have H := HC7.out
    clear HC7
    by_cases c10 : t148 = true
    · subst c10
      have H1 : ((xmp_May.f a0_0 a0_1 a3 a4).bind fun t149 => (if t149 = true then (if a1 < 0 then (fourinhandlaw15_XmpSlow.j0 k a1 a2 a3 a4 true true a0_0 a0_1) else (if a2 < 0 then (fourinhandlaw15_XmpSlow.j0 k a1 a2 a3 a4 true true a0_0 a0_1) else (if a1 > 1000000000 then (fourinhandlaw15_XmpSlow.j0 k a1 a2 a3 a4 true true a0_0 a0_1) else (fourinhandlaw15_XmpSlow.j0 k a1 a2 a3 a4 true (decide (a2 > 1000000000)) a0_0 a0_1)))) else (fourinhandlaw15_XmpSlow.j0 k a1 a2 a3 a4 true true a0_0 a0_1))) = some r := by rw [if_pos rfl] at H; exact H
      clear H
      have H := H1
      clear H1
      replace H := Option.bind_eq_some_iff.mp H
      obtain ⟨t149, A110, H⟩ := H
      replace H : (if t149 = true then (if a1 < 0 then (fourinhandlaw15_XmpSlow.j0 k a1 a2 a3 a4 true true a0_0 a0_1) else (if a2 < 0 then (fourinhandlaw15_XmpSlow.j0 k a1 a2 a3 a4 true true a0_0 a0_1) else (if a1 > 1000000000 then (fourinhandlaw15_XmpSlow.j0 k a1 a2 a3 a4 true true a0_0 a0_1) else (fourinhandlaw15_XmpSlow.j0 k a1 a2 a3 a4 true (decide (a2 > 1000000000)) a0_0 a0_1)))) else (fourinhandlaw15_XmpSlow.j0 k a1 a2 a3 a4 true true a0_0 a0_1)) = some r := H
      have A11 := Aside0.mk A110
      clear A110
      by_cases c12 : t149 = true
      · subst c12
        have H1 : (if a1 < 0 then (fourinhandlaw15_XmpSlow.j0 k a1 a2 a3 a4 true true a0_0 a0_1) else (if a2 < 0 then (fourinhandlaw15_XmpSlow.j0 k a1 a2 a3 a4 true true a0_0 a0_1) else (if a1 > 1000000000 then (fourinhandlaw15_XmpSlow.j0 k a1 a2 a3 a4 true true a0_0 a0_1) else (fourinhandlaw15_XmpSlow.j0 k a1 a2 a3 a4 true (decide (a2 > 1000000000)) a0_0 a0_1)))) = some r := by rw [if_pos rfl] at H; exact H
        clear H
        have H := H1
        clear H1
        by_cases c13 : a1 < 0
        · rw [if_pos c13] at H
          have c13b0 : decide (a1 < 0) = true := decide_eq_true c13
          clear c13
          (first | rw [c13b0] | (simp only [i64_w, i32_w]; rw [c13b0]) | skip)
          have H' := Aside0.mk H
          clear H
          have hcz14_0 : w9.cell? ⟨gb147, 0, none⟩ = some (.int .i64 a0_0) := (blk_cell BK147.out 0).trans rfl
          have hcz14_1 : w9.cell? ⟨gb147, 1, none⟩ = some (.int .i64 a0_1) := (blk_cell BK147.out 1).trans rfl
          have hfz14_0 := blk_frozen BK147.out 0
          have hfz14_1 := blk_frozen BK147.out 1
          go_wp2_with (first | (go_at_call 11; (with_reducible refine (xmp_May.calls a0_0 a0_1 a3 a4 true _ A11.out).mono ?_); rintro e w15 ⟨rfl, hb⟩; have n0_ := Aside0.mk (blk_below (g := gb147) (o := .cells #[.int .i64 a0_0, .int .i64 a0_1] 30 (0, 0)) (by (with_reducible repeat (first | refine blk_drewN ?_ _ | refine blk_drew ?_ | refine blk_alloc ?_ _)); exact BK147.out) hb); have n1_ := Aside0.mk (below_step (by repeat (first | (with_reducible first | exact HB.out | apply below_alloc | apply pw_below_drewN | apply below_drew1 | refine below_set ?_ GE147.out) | exact HB.out)) hb); clear BK147; clear HB; have BK147 := n0_; have HB := n1_; clear n0_ n1_; (try clear hb); (try clear hb2); (try clear hk); (try clear hi)))
          go_meet
          case rel => exact ⟨_, (true), (by first | rfl | (simp; done) | (simp [*]; done)), H', ⟨by first | omega | exact Nat.le_refl _⟩, ⟨by (with_reducible repeat (first | refine blk_drewN ?_ _ | refine blk_drew ?_ | refine blk_alloc ?_ _)); exact BK147.out⟩, ⟨by repeat (first | (with_reducible first | exact HB.out | apply below_alloc | apply pw_below_drewN | apply below_drew1 | refine below_set ?_ GE147.out) | exact HB.out)⟩⟩
        · rw [if_neg c13] at H
          have c13b0 : decide (a1 < 0) = false := decide_eq_false c13
          clear c13
          (first | rw [c13b0] | (simp only [i64_w, i32_w]; rw [c13b0]) | skip)
          by_cases c16 : a2 < 0
          · rw [if_pos c16] at H
            have c16b0 : decide (a2 < 0) = true := decide_eq_true c16
            clear c16
            have H' := Aside0.mk H
            clear H
            have hcz17_0 : w9.cell? ⟨gb147, 0, none⟩ = some (.int .i64 a0_0) := (blk_cell BK147.out 0).trans rfl
            have hcz17_1 : w9.cell? ⟨gb147, 1, none⟩ = some (.int .i64 a0_1) := (blk_cell BK147.out 1).trans rfl
            have hfz17_0 := blk_frozen BK147.out 0
            have hfz17_1 := blk_frozen BK147.out 1
            go_wp2_with (first | (go_at_call 11; (with_reducible refine (xmp_May.calls a0_0 a0_1 a3 a4 true _ A11.out).mono ?_); rintro e w18 ⟨rfl, hb⟩; have n0_ := Aside0.mk (blk_below (g := gb147) (o := .cells #[.int .i64 a0_0, .int .i64 a0_1] 30 (0, 0)) (by (with_reducible repeat (first | refine blk_drewN ?_ _ | refine blk_drew ?_ | refine blk_alloc ?_ _)); exact BK147.out) hb); have n1_ := Aside0.mk (below_step (by repeat (first | (with_reducible first | exact HB.out | apply below_alloc | apply pw_below_drewN | apply below_drew1 | refine below_set ?_ GE147.out) | exact HB.out)) hb); clear BK147; clear HB; have BK147 := n0_; have HB := n1_; clear n0_ n1_; (try clear hb); (try clear hb2); (try clear hk); (try clear hi)))
            go_meet
            case rel => exact ⟨_, (true), (by first | rfl | (simp; done) | (simp [*]; done)), H', ⟨by first | omega | exact Nat.le_refl _⟩, ⟨by (with_reducible repeat (first | refine blk_drewN ?_ _ | refine blk_drew ?_ | refine blk_alloc ?_ _)); exact BK147.out⟩, ⟨by repeat (first | (with_reducible first | exact HB.out | apply below_alloc | apply pw_below_drewN | apply below_drew1 | refine below_set ?_ GE147.out) | exact HB.out)⟩⟩
          · rw [if_neg c16] at H
            have c16b0 : decide (a2 < 0) = false := decide_eq_false c16
            clear c16
            by_cases c19 : a1 > 1000000000
            · rw [if_pos c19] at H
              have c19b0 : decide (1000000000 < a1) = true := decide_eq_true c19
              clear c19
              have H' := Aside0.mk H
              clear H
              have hcz20_0 : w9.cell? ⟨gb147, 0, none⟩ = some (.int .i64 a0_0) := (blk_cell BK147.out 0).trans rfl
              have hcz20_1 : w9.cell? ⟨gb147, 1, none⟩ = some (.int .i64 a0_1) := (blk_cell BK147.out 1).trans rfl
              have hfz20_0 := blk_frozen BK147.out 0
              have hfz20_1 := blk_frozen BK147.out 1
              go_wp2_with (first | (go_at_call 11; (with_reducible refine (xmp_May.calls a0_0 a0_1 a3 a4 true _ A11.out).mono ?_); rintro e w21 ⟨rfl, hb⟩; have n0_ := Aside0.mk (blk_below (g := gb147) (o := .cells #[.int .i64 a0_0, .int .i64 a0_1] 30 (0, 0)) (by (with_reducible repeat (first | refine blk_drewN ?_ _ | refine blk_drew ?_ | refine blk_alloc ?_ _)); exact BK147.out) hb); have n1_ := Aside0.mk (below_step (by repeat (first | (with_reducible first | exact HB.out | apply below_alloc | apply pw_below_drewN | apply below_drew1 | refine below_set ?_ GE147.out) | exact HB.out)) hb); clear BK147; clear HB; have BK147 := n0_; have HB := n1_; clear n0_ n1_; (try clear hb); (try clear hb2); (try clear hk); (try clear hi)))
              go_meet
              case rel => exact ⟨_, (true), (by first | rfl | (simp; done) | (simp [*]; done)), H', ⟨by first | omega | exact Nat.le_refl _⟩, ⟨by (with_reducible repeat (first | refine blk_drewN ?_ _ | refine blk_drew ?_ | refine blk_alloc ?_ _)); exact BK147.out⟩, ⟨by repeat (first | (with_reducible first | exact HB.out | apply below_alloc | apply pw_below_drewN | apply below_drew1 | refine below_set ?_ GE147.out) | exact HB.out)⟩⟩
            · rw [if_neg c19] at H
              have c19b0 : decide (1000000000 < a1) = false := decide_eq_false c19
              clear c19
              have H' := Aside0.mk H
              clear H
              have hcz22_0 : w9.cell? ⟨gb147, 0, none⟩ = some (.int .i64 a0_0) := (blk_cell BK147.out 0).trans rfl
              have hcz22_1 : w9.cell? ⟨gb147, 1, none⟩ = some (.int .i64 a0_1) := (blk_cell BK147.out 1).trans rfl
              have hfz22_0 := blk_frozen BK147.out 0
              have hfz22_1 := blk_frozen BK147.out 1
              go_wp2_with (first | (go_at_call 11; (with_reducible refine (xmp_May.calls a0_0 a0_1 a3 a4 true _ A11.out).mono ?_); rintro e w23 ⟨rfl, hb⟩; have n0_ := Aside0.mk (blk_below (g := gb147) (o := .cells #[.int .i64 a0_0, .int .i64 a0_1] 30 (0, 0)) (by (with_reducible repeat (first | refine blk_drewN ?_ _ | refine blk_drew ?_ | refine blk_alloc ?_ _)); exact BK147.out) hb); have n1_ := Aside0.mk (below_step (by repeat (first | (with_reducible first | exact HB.out | apply below_alloc | apply pw_below_drewN | apply below_drew1 | refine below_set ?_ GE147.out) | exact HB.out)) hb); clear BK147; clear HB; have BK147 := n0_; have HB := n1_; clear n0_ n1_; (try clear hb); (try clear hb2); (try clear hk); (try clear hi)))
              go_meet
              case rel => exact ⟨_, (decide (a2 > 1000000000)), (by first | rfl | (simp; done) | (simp [*]; done)), H', ⟨by first | omega | exact Nat.le_refl _⟩, ⟨by (with_reducible repeat (first | refine blk_drewN ?_ _ | refine blk_drew ?_ | refine blk_alloc ?_ _)); exact BK147.out⟩, ⟨by repeat (first | (with_reducible first | exact HB.out | apply below_alloc | apply pw_below_drewN | apply below_drew1 | refine below_set ?_ GE147.out) | exact HB.out)⟩⟩
      · replace c12 := Bool.eq_false_iff.mpr c12
        subst c12
        have H1 : (fourinhandlaw15_XmpSlow.j0 k a1 a2 a3 a4 true true a0_0 a0_1) = some r := by rw [if_neg (show ¬ (false = true) by decide)] at H; exact H
        clear H
        have H := H1
        clear H1
        have H' := Aside0.mk H
        clear H
        have hcz24_0 : w9.cell? ⟨gb147, 0, none⟩ = some (.int .i64 a0_0) := (blk_cell BK147.out 0).trans rfl
        have hcz24_1 : w9.cell? ⟨gb147, 1, none⟩ = some (.int .i64 a0_1) := (blk_cell BK147.out 1).trans rfl
        have hfz24_0 := blk_frozen BK147.out 0
        have hfz24_1 := blk_frozen BK147.out 1
        go_wp2_with (first | (go_at_call 11; (with_reducible refine (xmp_May.calls a0_0 a0_1 a3 a4 false _ A11.out).mono ?_); rintro e w25 ⟨rfl, hb⟩; have n0_ := Aside0.mk (blk_below (g := gb147) (o := .cells #[.int .i64 a0_0, .int .i64 a0_1] 30 (0, 0)) (by (with_reducible repeat (first | refine blk_drewN ?_ _ | refine blk_drew ?_ | refine blk_alloc ?_ _)); exact BK147.out) hb); have n1_ := Aside0.mk (below_step (by repeat (first | (with_reducible first | exact HB.out | apply below_alloc | apply pw_below_drewN | apply below_drew1 | refine below_set ?_ GE147.out) | exact HB.out)) hb); clear BK147; clear HB; have BK147 := n0_; have HB := n1_; clear n0_ n1_; (try clear hb); (try clear hb2); (try clear hk); (try clear hi)))
        go_meet
        case rel => exact ⟨_, (true), (by first | rfl | (simp; done) | (simp [*]; done)), H', ⟨by first | omega | exact Nat.le_refl _⟩, ⟨by (with_reducible repeat (first | refine blk_drewN ?_ _ | refine blk_drew ?_ | refine blk_alloc ?_ _)); exact BK147.out⟩, ⟨by repeat (first | (with_reducible first | exact HB.out | apply below_alloc | apply pw_below_drewN | apply below_drew1 | refine below_set ?_ GE147.out) | exact HB.out)⟩⟩
    · replace c10 := Bool.eq_false_iff.mpr c10
      subst c10
      have H1 : (fourinhandlaw15_XmpSlow.j0 k a1 a2 a3 a4 false true a0_0 a0_1) = some r := by rw [if_neg (show ¬ (false = true) by decide)] at H; exact H
      clear H
      have H := H1
      clear H1
      have H' := Aside0.mk H
      clear H
      go_wp2
      go_meet
      case rel => exact ⟨_, (true), (by first | rfl | (simp; done) | (simp [*]; done)), H', ⟨by first | omega | exact Nat.le_refl _⟩, ⟨by (with_reducible repeat (first | refine blk_drewN ?_ _ | refine blk_drew ?_ | refine blk_alloc ?_ _)); exact BK147.out⟩, ⟨by repeat (first | (with_reducible first | exact HB.out | apply below_alloc | apply pw_below_drewN | apply below_drew1 | refine below_set ?_ GE147.out) | exact HB.out)⟩⟩
  case rest =>
    clear HC7
    try clear c1
    try clear p2
    try clear c5
    try clear c9
    try clear c10
    try clear c12
    try clear c13
    try clear c13b0
    try clear c16
    try clear c16b0
    try clear c19
    try clear c19b0
    try clear hcz14_0
    try clear hcz14_1
    try clear hcz17_0
    try clear hcz17_1
    try clear hcz20_0
    try clear hcz20_1
    try clear hcz22_0
    try clear hcz22_1
    try clear hcz24_0
    try clear hcz24_1
    try clear hfz14_0
    try clear hfz14_1
    try clear hfz17_0
    try clear hfz17_1
    try clear hfz20_0
    try clear hfz20_1
    try clear hfz22_0
    try clear hfz22_1
    try clear hfz24_0
    try clear hfz24_1
    obtain ⟨kq, x44_6, rfl, HA, HJ6, BK147, HB⟩ := hcut
    cases kq with
    | zero => exact absurd HA.out (by simp [fourinhandlaw15_XmpSlow.j0])
    | succ kj6 =>
      have H := HA.out
      clear HA
      simp only [fourinhandlaw15_XmpSlow.j0] at H
      by_cases c26 : x44_6 = true
      · subst c26
        have H1 : (some t148) = some r := by rw [if_pos rfl] at H; exact H
        clear H
        have H := H1
        clear H1
        obtain rfl := Option.some.inj H
        go_wp2
        go_ret
        exact ⟨by first | rfl | (simp [errW_none, errW_some] <;> rfl) | (simp [*, errW_none, errW_some] <;> rfl), by repeat (first | (with_reducible first | exact HB.out | apply below_alloc | apply pw_below_drewN | apply below_drew1 | refine below_set ?_ GE147.out) | exact HB.out)⟩
      · replace c26 := Bool.eq_false_iff.mpr c26
        subst c26
        have H1 : ((xmp_Slow.f a0_0 a0_1 a1 a3 a4).bind fun bt150 => ((xmp_Slow.f bt150.1 bt150.2.1 a2 a3 a4).bind fun bt154 => ((xmp_Slow.f a0_0 a0_1 (wrap64 (a1 + a2)) a3 a4).bind fun bt157 => ((xmp_Round.f a0_0 a0_1 a3 a3 a4).bind fun bt161 => (if bt150.2.2 = 0 then (if bt154.2.2 = 0 then (if bt157.2.2 = 0 then (if bt161.2.2 = 0 then (fourinhandlaw15_XmpSlow.j1 kj6 (!(bt154.1 == bt157.1) || (!(bt154.2.1 == bt157.2.1))) a0_0 a0_1 bt157.1 bt157.2.1 bt161.1 bt161.2.1) else (fourinhandlaw15_XmpSlow.j1 kj6 true a0_0 a0_1 bt157.1 bt157.2.1 bt161.1 bt161.2.1)) else (fourinhandlaw15_XmpSlow.j1 kj6 true a0_0 a0_1 bt157.1 bt157.2.1 bt161.1 bt161.2.1)) else (fourinhandlaw15_XmpSlow.j1 kj6 true a0_0 a0_1 bt157.1 bt157.2.1 bt161.1 bt161.2.1)) else (fourinhandlaw15_XmpSlow.j1 kj6 true a0_0 a0_1 bt157.1 bt157.2.1 bt161.1 bt161.2.1)))))) = some r := by rw [if_neg (show ¬ (false = true) by decide)] at H; exact H
        clear H
        have H := H1
        clear H1
        replace H := Option.bind_eq_some_iff.mp H
        obtain ⟨⟨t150, t151, t152⟩, A270, H⟩ := H
        replace H : ((xmp_Slow.f t150 t151 a2 a3 a4).bind fun bt154 => ((xmp_Slow.f a0_0 a0_1 (wrap64 (a1 + a2)) a3 a4).bind fun bt157 => ((xmp_Round.f a0_0 a0_1 a3 a3 a4).bind fun bt161 => (if t152 = 0 then (if bt154.2.2 = 0 then (if bt157.2.2 = 0 then (if bt161.2.2 = 0 then (fourinhandlaw15_XmpSlow.j1 kj6 (!(bt154.1 == bt157.1) || (!(bt154.2.1 == bt157.2.1))) a0_0 a0_1 bt157.1 bt157.2.1 bt161.1 bt161.2.1) else (fourinhandlaw15_XmpSlow.j1 kj6 true a0_0 a0_1 bt157.1 bt157.2.1 bt161.1 bt161.2.1)) else (fourinhandlaw15_XmpSlow.j1 kj6 true a0_0 a0_1 bt157.1 bt157.2.1 bt161.1 bt161.2.1)) else (fourinhandlaw15_XmpSlow.j1 kj6 true a0_0 a0_1 bt157.1 bt157.2.1 bt161.1 bt161.2.1)) else (fourinhandlaw15_XmpSlow.j1 kj6 true a0_0 a0_1 bt157.1 bt157.2.1 bt161.1 bt161.2.1))))) = some r := H
        have A27 := Aside0.mk A270
        clear A270
        replace H := Option.bind_eq_some_iff.mp H
        obtain ⟨⟨t154, t155, t156⟩, A280, H⟩ := H
        replace H : ((xmp_Slow.f a0_0 a0_1 (wrap64 (a1 + a2)) a3 a4).bind fun bt157 => ((xmp_Round.f a0_0 a0_1 a3 a3 a4).bind fun bt161 => (if t152 = 0 then (if t156 = 0 then (if bt157.2.2 = 0 then (if bt161.2.2 = 0 then (fourinhandlaw15_XmpSlow.j1 kj6 (!(t154 == bt157.1) || (!(t155 == bt157.2.1))) a0_0 a0_1 bt157.1 bt157.2.1 bt161.1 bt161.2.1) else (fourinhandlaw15_XmpSlow.j1 kj6 true a0_0 a0_1 bt157.1 bt157.2.1 bt161.1 bt161.2.1)) else (fourinhandlaw15_XmpSlow.j1 kj6 true a0_0 a0_1 bt157.1 bt157.2.1 bt161.1 bt161.2.1)) else (fourinhandlaw15_XmpSlow.j1 kj6 true a0_0 a0_1 bt157.1 bt157.2.1 bt161.1 bt161.2.1)) else (fourinhandlaw15_XmpSlow.j1 kj6 true a0_0 a0_1 bt157.1 bt157.2.1 bt161.1 bt161.2.1)))) = some r := H
        have A28 := Aside0.mk A280
        clear A280
        replace H := Option.bind_eq_some_iff.mp H
        obtain ⟨⟨t157, t158, t159⟩, A290, H⟩ := H
        replace H : ((xmp_Round.f a0_0 a0_1 a3 a3 a4).bind fun bt161 => (if t152 = 0 then (if t156 = 0 then (if t159 = 0 then (if bt161.2.2 = 0 then (fourinhandlaw15_XmpSlow.j1 kj6 (!(t154 == t157) || (!(t155 == t158))) a0_0 a0_1 t157 t158 bt161.1 bt161.2.1) else (fourinhandlaw15_XmpSlow.j1 kj6 true a0_0 a0_1 t157 t158 bt161.1 bt161.2.1)) else (fourinhandlaw15_XmpSlow.j1 kj6 true a0_0 a0_1 t157 t158 bt161.1 bt161.2.1)) else (fourinhandlaw15_XmpSlow.j1 kj6 true a0_0 a0_1 t157 t158 bt161.1 bt161.2.1)) else (fourinhandlaw15_XmpSlow.j1 kj6 true a0_0 a0_1 t157 t158 bt161.1 bt161.2.1))) = some r := H
        have A29 := Aside0.mk A290
        clear A290
        replace H := Option.bind_eq_some_iff.mp H
        obtain ⟨⟨t161, t162, t163⟩, A300, H⟩ := H
        replace H : (if t152 = 0 then (if t156 = 0 then (if t159 = 0 then (if t163 = 0 then (fourinhandlaw15_XmpSlow.j1 kj6 (!(t154 == t157) || (!(t155 == t158))) a0_0 a0_1 t157 t158 t161 t162) else (fourinhandlaw15_XmpSlow.j1 kj6 true a0_0 a0_1 t157 t158 t161 t162)) else (fourinhandlaw15_XmpSlow.j1 kj6 true a0_0 a0_1 t157 t158 t161 t162)) else (fourinhandlaw15_XmpSlow.j1 kj6 true a0_0 a0_1 t157 t158 t161 t162)) else (fourinhandlaw15_XmpSlow.j1 kj6 true a0_0 a0_1 t157 t158 t161 t162)) = some r := H
        have A30 := Aside0.mk A300
        clear A300
        have HC31 := Aside0.mk H
        clear H
        have hcz32_0 : wc.cell? ⟨gb147, 0, none⟩ = some (.int .i64 a0_0) := (blk_cell BK147.out 0).trans rfl
        have hcz32_1 : wc.cell? ⟨gb147, 1, none⟩ = some (.int .i64 a0_1) := (blk_cell BK147.out 1).trans rfl
        have hfz32_0 := blk_frozen BK147.out 0
        have hfz32_1 := blk_frozen BK147.out 1
        go_upto_region 8 with (first | ((with_reducible refine gate_callee (f := 12) rfl ?_); refine goesL_ (some 51) rfl rfl Try.func12 (by kernel_rfl) rfl #[.agg #[.int .i64 a0_0, .int .i64 a0_1], .int .i64 a1, .int .i64 a3, .int .i64 a4] rfl (by (try simp only [List.map_toArray, List.map_cons, List.map_nil]); first | done | rfl | (simp only [List.length_drop, List.length_take]; rfl)) ?_; (with_reducible refine (xmp_Slow.calls a0_0 a0_1 a1 a3 a4 t150 t151 t152 _ A27.out).mono ?_); rintro e w33 ⟨rfl, hb⟩; refine ⟨_, rfl, ?_⟩; have n0_ := Aside0.mk (blk_below (g := gb147) (o := .cells #[.int .i64 a0_0, .int .i64 a0_1] 30 (0, 0)) (by (with_reducible repeat (first | refine blk_drewN ?_ _ | refine blk_drew ?_ | refine blk_alloc ?_ _)); exact BK147.out) hb); have n1_ := Aside0.mk (below_step (by repeat (first | (with_reducible first | exact HB.out | apply below_alloc | apply pw_below_drewN | apply below_drew1 | refine below_set ?_ GE147.out) | exact HB.out)) hb); clear BK147; clear HB; have BK147 := n0_; have HB := n1_; clear n0_ n1_; (try clear hb); (try clear hb2); (try clear hk); (try clear hi)) | ((with_reducible refine gate_dst (N := 12) rfl ?_); refine box_event ?hg (N := 12) ?hd (cs := #[.int .i64 0, .int .i64 0]) (t := 30) ?hr ?_; (case hd => rfl); (case hg => rfl); (case hr => first | (go_simp; done) | (go_simp; rfl)); intro gb153 hg w34 hbox hb; have n0_ := Aside0.mk (blk_below (g := gb147) (o := .cells #[.int .i64 a0_0, .int .i64 a0_1] 30 (0, 0)) (by (with_reducible repeat (first | refine blk_drewN ?_ _ | refine blk_drew ?_ | refine blk_alloc ?_ _)); exact BK147.out) hb); have n1_ := Aside0.mk (below_step (by repeat (first | (with_reducible first | exact HB.out | apply below_alloc | apply pw_below_drewN | apply below_drew1 | refine below_set ?_ GE147.out) | exact HB.out)) hb); have n2_ := Aside0.mk (hbox); have n3_ := Aside0.mk ((by rw [hg]; exact (below_size (by repeat (first | (with_reducible first | exact HB.out | apply below_alloc | apply pw_below_drewN | apply below_drew1 | refine below_set ?_ GE147.out) | exact HB.out))) : w.heap.size ≤ gb153)); have n4_ := Aside0.mk ((by rw [hg]; exact (below_size (by repeat (first | (with_reducible first | exact HB.out | apply below_alloc | apply pw_below_drewN | apply below_drew1 | refine below_set ?_ GE147.out) | exact HB.out))) : w.heap.size ≤ gb153)); have n5_ := Aside0.mk ((by rw [hg]; exact Nat.ne_of_lt (blk_lt (g := gb147) (o := .cells #[.int .i64 a0_0, .int .i64 a0_1] 30 (0, 0)) (by (with_reducible repeat (first | refine blk_drewN ?_ _ | refine blk_drew ?_ | refine blk_alloc ?_ _)); exact BK147.out)) : gb147 ≠ gb153)); have n6_ := Aside0.mk ((by rw [hg]; exact Nat.ne_of_gt (blk_lt (g := gb147) (o := .cells #[.int .i64 a0_0, .int .i64 a0_1] 30 (0, 0)) (by (with_reducible repeat (first | refine blk_drewN ?_ _ | refine blk_drew ?_ | refine blk_alloc ?_ _)); exact BK147.out)) : gb153 ≠ gb147)); clear BK147; clear HB; have BK147 := n0_; have HB := n1_; have BK153 := n2_; have GW153 := n3_; have GE153 := n4_; have NB147_153 := n5_; have NB153_147 := n6_; clear n0_ n1_ n2_ n3_ n4_ n5_ n6_; clear hb hbox hg; have hnb35 := NB153_147.out; have hnc35 := NB147_153.out; have hcz36_0 : w34.cell? ⟨gb153, 0, none⟩ = some (.int .i64 0) := (blk_cell BK153.out 0).trans rfl; have hcz36_1 : w34.cell? ⟨gb153, 1, none⟩ = some (.int .i64 0) := (blk_cell BK153.out 1).trans rfl; have hfz36_0 := blk_frozen BK153.out 0; have hfz36_1 := blk_frozen BK153.out 1) | ((with_reducible refine gate_callee (f := 12) rfl ?_); refine goesL_ (some 59) rfl rfl Try.func12 (by kernel_rfl) rfl #[.agg #[.int .i64 t150, .int .i64 t151], .int .i64 a2, .int .i64 a3, .int .i64 a4] rfl (by (try simp only [List.map_toArray, List.map_cons, List.map_nil]); first | done | rfl | (simp only [List.length_drop, List.length_take]; rfl)) ?_; (with_reducible refine (xmp_Slow.calls t150 t151 a2 a3 a4 t154 t155 t156 _ A28.out).mono ?_); rintro e w37 ⟨rfl, hb⟩; refine ⟨_, rfl, ?_⟩; have n0_ := Aside0.mk (blk_below (g := gb147) (o := .cells #[.int .i64 a0_0, .int .i64 a0_1] 30 (0, 0)) (by (with_reducible repeat (first | refine blk_drewN ?_ _ | refine blk_drew ?_ | refine blk_alloc ?_ _)); refine blk_far ?_ NB147_153.out _; (with_reducible repeat (first | refine blk_drewN ?_ _ | refine blk_drew ?_ | refine blk_alloc ?_ _)); refine blk_far ?_ NB147_153.out _; (with_reducible repeat (first | refine blk_drewN ?_ _ | refine blk_drew ?_ | refine blk_alloc ?_ _)); exact BK147.out) hb); have n1_ := Aside0.mk (blk_below (g := gb153) (o := .cells #[.int .i64 t150, .int .i64 t151] 30 (0, 0)) (by (with_reducible repeat (first | refine blk_drewN ?_ _ | refine blk_drew ?_ | refine blk_alloc ?_ _)); refine blk_put (cs := #[.int .i64 t150, .int .i64 0]) ?_ 1 _ rfl; (with_reducible repeat (first | refine blk_drewN ?_ _ | refine blk_drew ?_ | refine blk_alloc ?_ _)); refine blk_put (cs := #[.int .i64 0, .int .i64 0]) ?_ 0 _ rfl; (with_reducible repeat (first | refine blk_drewN ?_ _ | refine blk_drew ?_ | refine blk_alloc ?_ _)); exact BK153.out) hb); have n2_ := Aside0.mk (below_step (by repeat (first | (with_reducible first | exact HB.out | apply below_alloc | apply pw_below_drewN | apply below_drew1 | refine below_set ?_ GE147.out | refine below_set ?_ GE153.out) | exact HB.out)) hb); clear BK147; clear BK153; clear HB; have BK147 := n0_; have BK153 := n1_; have HB := n2_; clear n0_ n1_ n2_; (try clear hb); (try clear hb2); (try clear hk); (try clear hi); have hcz38_0 : w37.cell? ⟨gb153, 0, none⟩ = some (.int .i64 t150) := (blk_cell BK153.out 0).trans rfl; have hcz38_1 : w37.cell? ⟨gb153, 1, none⟩ = some (.int .i64 t151) := (blk_cell BK153.out 1).trans rfl; have hfz38_0 := blk_frozen BK153.out 0; have hfz38_1 := blk_frozen BK153.out 1; have hcz39_0 : w37.cell? ⟨gb147, 0, none⟩ = some (.int .i64 a0_0) := (blk_cell BK147.out 0).trans rfl; have hcz39_1 : w37.cell? ⟨gb147, 1, none⟩ = some (.int .i64 a0_1) := (blk_cell BK147.out 1).trans rfl; have hfz39_0 := blk_frozen BK147.out 0; have hfz39_1 := blk_frozen BK147.out 1) | ((with_reducible refine gate_callee (f := 12) rfl ?_); refine goesL_ (some 69) rfl rfl Try.func12 (by kernel_rfl) rfl #[.agg #[.int .i64 a0_0, .int .i64 a0_1], .int .i64 (wrap64 (a1 + a2)), .int .i64 a3, .int .i64 a4] rfl (by (try simp only [List.map_toArray, List.map_cons, List.map_nil]); first | done | rfl | (simp only [List.length_drop, List.length_take]; rfl)) ?_; (with_reducible refine (xmp_Slow.calls a0_0 a0_1 (wrap64 (a1 + a2)) a3 a4 t157 t158 t159 _ A29.out).mono ?_); rintro e w40 ⟨rfl, hb⟩; refine ⟨_, rfl, ?_⟩; have n0_ := Aside0.mk (blk_below (g := gb147) (o := .cells #[.int .i64 a0_0, .int .i64 a0_1] 30 (0, 0)) (by (with_reducible repeat (first | refine blk_drewN ?_ _ | refine blk_drew ?_ | refine blk_alloc ?_ _)); refine blk_far ?_ NB147_153.out _; (with_reducible repeat (first | refine blk_drewN ?_ _ | refine blk_drew ?_ | refine blk_alloc ?_ _)); refine blk_far ?_ NB147_153.out _; (with_reducible repeat (first | refine blk_drewN ?_ _ | refine blk_drew ?_ | refine blk_alloc ?_ _)); exact BK147.out) hb); have n1_ := Aside0.mk (blk_below (g := gb153) (o := .cells #[.int .i64 t154, .int .i64 t155] 30 (0, 0)) (by (with_reducible repeat (first | refine blk_drewN ?_ _ | refine blk_drew ?_ | refine blk_alloc ?_ _)); refine blk_put (cs := #[.int .i64 t154, .int .i64 t151]) ?_ 1 _ rfl; (with_reducible repeat (first | refine blk_drewN ?_ _ | refine blk_drew ?_ | refine blk_alloc ?_ _)); refine blk_put (cs := #[.int .i64 t150, .int .i64 t151]) ?_ 0 _ rfl; (with_reducible repeat (first | refine blk_drewN ?_ _ | refine blk_drew ?_ | refine blk_alloc ?_ _)); exact BK153.out) hb); have n2_ := Aside0.mk (below_step (by repeat (first | (with_reducible first | exact HB.out | apply below_alloc | apply pw_below_drewN | apply below_drew1 | refine below_set ?_ GE147.out | refine below_set ?_ GE153.out) | exact HB.out)) hb); clear BK147; clear BK153; clear HB; have BK147 := n0_; have BK153 := n1_; have HB := n2_; clear n0_ n1_ n2_; (try clear hb); (try clear hb2); (try clear hk); (try clear hi)) | ((with_reducible refine gate_dst (N := 15) rfl ?_); refine box_event ?hg (N := 15) ?hd (cs := #[.int .i64 0, .int .i64 0]) (t := 30) ?hr ?_; (case hd => rfl); (case hg => rfl); (case hr => first | (go_simp; done) | (go_simp; rfl)); intro gb160 hg w41 hbox hb; have n0_ := Aside0.mk (blk_below (g := gb147) (o := .cells #[.int .i64 a0_0, .int .i64 a0_1] 30 (0, 0)) (by (with_reducible repeat (first | refine blk_drewN ?_ _ | refine blk_drew ?_ | refine blk_alloc ?_ _)); exact BK147.out) hb); have n1_ := Aside0.mk (blk_below (g := gb153) (o := .cells #[.int .i64 t154, .int .i64 t155] 30 (0, 0)) (by (with_reducible repeat (first | refine blk_drewN ?_ _ | refine blk_drew ?_ | refine blk_alloc ?_ _)); exact BK153.out) hb); have n2_ := Aside0.mk (below_step (by repeat (first | (with_reducible first | exact HB.out | apply below_alloc | apply pw_below_drewN | apply below_drew1 | refine below_set ?_ GE147.out | refine below_set ?_ GE153.out) | exact HB.out)) hb); have n3_ := Aside0.mk (hbox); have n4_ := Aside0.mk ((by rw [hg]; exact (below_size (by repeat (first | (with_reducible first | exact HB.out | apply below_alloc | apply pw_below_drewN | apply below_drew1 | refine below_set ?_ GE147.out | refine below_set ?_ GE153.out) | exact HB.out))) : w.heap.size ≤ gb160)); have n5_ := Aside0.mk ((by rw [hg]; exact (below_size (by repeat (first | (with_reducible first | exact HB.out | apply below_alloc | apply pw_below_drewN | apply below_drew1 | refine below_set ?_ GE147.out | refine below_set ?_ GE153.out) | exact HB.out))) : w.heap.size ≤ gb160)); have n6_ := Aside0.mk ((by rw [hg]; exact Nat.ne_of_lt (blk_lt (g := gb147) (o := .cells #[.int .i64 a0_0, .int .i64 a0_1] 30 (0, 0)) (by (with_reducible repeat (first | refine blk_drewN ?_ _ | refine blk_drew ?_ | refine blk_alloc ?_ _)); exact BK147.out)) : gb147 ≠ gb160)); have n7_ := Aside0.mk ((by rw [hg]; exact Nat.ne_of_gt (blk_lt (g := gb147) (o := .cells #[.int .i64 a0_0, .int .i64 a0_1] 30 (0, 0)) (by (with_reducible repeat (first | refine blk_drewN ?_ _ | refine blk_drew ?_ | refine blk_alloc ?_ _)); exact BK147.out)) : gb160 ≠ gb147)); have n8_ := Aside0.mk ((by rw [hg]; exact Nat.ne_of_lt (blk_lt (g := gb153) (o := .cells #[.int .i64 t154, .int .i64 t155] 30 (0, 0)) (by (with_reducible repeat (first | refine blk_drewN ?_ _ | refine blk_drew ?_ | refine blk_alloc ?_ _)); exact BK153.out)) : gb153 ≠ gb160)); have n9_ := Aside0.mk ((by rw [hg]; exact Nat.ne_of_gt (blk_lt (g := gb153) (o := .cells #[.int .i64 t154, .int .i64 t155] 30 (0, 0)) (by (with_reducible repeat (first | refine blk_drewN ?_ _ | refine blk_drew ?_ | refine blk_alloc ?_ _)); exact BK153.out)) : gb160 ≠ gb153)); clear BK147; clear BK153; clear HB; have BK147 := n0_; have BK153 := n1_; have HB := n2_; have BK160 := n3_; have GW160 := n4_; have GE160 := n5_; have NB147_160 := n6_; have NB160_147 := n7_; have NB153_160 := n8_; have NB160_153 := n9_; clear n0_ n1_ n2_ n3_ n4_ n5_ n6_ n7_ n8_ n9_; clear hb hbox hg; have hnb42 := NB160_147.out; have hnc42 := NB147_160.out; have hnb43 := NB160_153.out; have hnc43 := NB153_160.out; have hcz44_0 : w41.cell? ⟨gb160, 0, none⟩ = some (.int .i64 0) := (blk_cell BK160.out 0).trans rfl; have hcz44_1 : w41.cell? ⟨gb160, 1, none⟩ = some (.int .i64 0) := (blk_cell BK160.out 1).trans rfl; have hfz44_0 := blk_frozen BK160.out 0; have hfz44_1 := blk_frozen BK160.out 1; have hcz45_0 : w41.cell? ⟨gb147, 0, none⟩ = some (.int .i64 a0_0) := (blk_cell BK147.out 0).trans rfl; have hcz45_1 : w41.cell? ⟨gb147, 1, none⟩ = some (.int .i64 a0_1) := (blk_cell BK147.out 1).trans rfl; have hfz45_0 := blk_frozen BK147.out 0; have hfz45_1 := blk_frozen BK147.out 1) | ((with_reducible refine gate_callee (f := 13) rfl ?_); refine goesL_ (some 77) rfl rfl Try.func13 (by kernel_rfl) rfl #[.agg #[.int .i64 a0_0, .int .i64 a0_1], .int .i64 a3, .int .i64 a3, .int .i64 a4] rfl (by (try simp only [List.map_toArray, List.map_cons, List.map_nil]); first | done | rfl | (simp only [List.length_drop, List.length_take]; rfl)) ?_; (with_reducible refine (xmp_Round.calls a0_0 a0_1 a3 a3 a4 t161 t162 t163 _ A30.out).mono ?_); rintro e w46 ⟨rfl, hb⟩; refine ⟨_, rfl, ?_⟩; have n0_ := Aside0.mk (blk_below (g := gb147) (o := .cells #[.int .i64 a0_0, .int .i64 a0_1] 30 (0, 0)) (by (with_reducible repeat (first | refine blk_drewN ?_ _ | refine blk_drew ?_ | refine blk_alloc ?_ _)); refine blk_far ?_ NB147_160.out _; (with_reducible repeat (first | refine blk_drewN ?_ _ | refine blk_drew ?_ | refine blk_alloc ?_ _)); refine blk_far ?_ NB147_160.out _; (with_reducible repeat (first | refine blk_drewN ?_ _ | refine blk_drew ?_ | refine blk_alloc ?_ _)); exact BK147.out) hb); have n1_ := Aside0.mk (blk_below (g := gb153) (o := .cells #[.int .i64 t154, .int .i64 t155] 30 (0, 0)) (by (with_reducible repeat (first | refine blk_drewN ?_ _ | refine blk_drew ?_ | refine blk_alloc ?_ _)); refine blk_far ?_ NB153_160.out _; (with_reducible repeat (first | refine blk_drewN ?_ _ | refine blk_drew ?_ | refine blk_alloc ?_ _)); refine blk_far ?_ NB153_160.out _; (with_reducible repeat (first | refine blk_drewN ?_ _ | refine blk_drew ?_ | refine blk_alloc ?_ _)); exact BK153.out) hb); have n2_ := Aside0.mk (blk_below (g := gb160) (o := .cells #[.int .i64 t157, .int .i64 t158] 30 (0, 0)) (by (with_reducible repeat (first | refine blk_drewN ?_ _ | refine blk_drew ?_ | refine blk_alloc ?_ _)); refine blk_put (cs := #[.int .i64 t157, .int .i64 0]) ?_ 1 _ rfl; (with_reducible repeat (first | refine blk_drewN ?_ _ | refine blk_drew ?_ | refine blk_alloc ?_ _)); refine blk_put (cs := #[.int .i64 0, .int .i64 0]) ?_ 0 _ rfl; (with_reducible repeat (first | refine blk_drewN ?_ _ | refine blk_drew ?_ | refine blk_alloc ?_ _)); exact BK160.out) hb); have n3_ := Aside0.mk (below_step (by repeat (first | (with_reducible first | exact HB.out | apply below_alloc | apply pw_below_drewN | apply below_drew1 | refine below_set ?_ GE147.out | refine below_set ?_ GE153.out | refine below_set ?_ GE160.out) | exact HB.out)) hb); clear BK147; clear BK153; clear BK160; clear HB; have BK147 := n0_; have BK153 := n1_; have BK160 := n2_; have HB := n3_; clear n0_ n1_ n2_ n3_; (try clear hb); (try clear hb2); (try clear hk); (try clear hi)) | ((with_reducible refine gate_dst (N := 17) rfl ?_); refine box_event ?hg (N := 17) ?hd (cs := #[.int .i64 0, .int .i64 0]) (t := 30) ?hr ?_; (case hd => rfl); (case hg => rfl); (case hr => first | (go_simp; done) | (go_simp; rfl)); intro gb164 hg w47 hbox hb; have n0_ := Aside0.mk (blk_below (g := gb147) (o := .cells #[.int .i64 a0_0, .int .i64 a0_1] 30 (0, 0)) (by (with_reducible repeat (first | refine blk_drewN ?_ _ | refine blk_drew ?_ | refine blk_alloc ?_ _)); exact BK147.out) hb); have n1_ := Aside0.mk (blk_below (g := gb153) (o := .cells #[.int .i64 t154, .int .i64 t155] 30 (0, 0)) (by (with_reducible repeat (first | refine blk_drewN ?_ _ | refine blk_drew ?_ | refine blk_alloc ?_ _)); exact BK153.out) hb); have n2_ := Aside0.mk (blk_below (g := gb160) (o := .cells #[.int .i64 t157, .int .i64 t158] 30 (0, 0)) (by (with_reducible repeat (first | refine blk_drewN ?_ _ | refine blk_drew ?_ | refine blk_alloc ?_ _)); exact BK160.out) hb); have n3_ := Aside0.mk (below_step (by repeat (first | (with_reducible first | exact HB.out | apply below_alloc | apply pw_below_drewN | apply below_drew1 | refine below_set ?_ GE147.out | refine below_set ?_ GE153.out | refine below_set ?_ GE160.out) | exact HB.out)) hb); have n4_ := Aside0.mk (hbox); have n5_ := Aside0.mk ((by rw [hg]; exact (below_size (by repeat (first | (with_reducible first | exact HB.out | apply below_alloc | apply pw_below_drewN | apply below_drew1 | refine below_set ?_ GE147.out | refine below_set ?_ GE153.out | refine below_set ?_ GE160.out) | exact HB.out))) : w.heap.size ≤ gb164)); have n6_ := Aside0.mk ((by rw [hg]; exact (below_size (by repeat (first | (with_reducible first | exact HB.out | apply below_alloc | apply pw_below_drewN | apply below_drew1 | refine below_set ?_ GE147.out | refine below_set ?_ GE153.out | refine below_set ?_ GE160.out) | exact HB.out))) : w.heap.size ≤ gb164)); have n7_ := Aside0.mk ((by rw [hg]; exact Nat.ne_of_lt (blk_lt (g := gb147) (o := .cells #[.int .i64 a0_0, .int .i64 a0_1] 30 (0, 0)) (by (with_reducible repeat (first | refine blk_drewN ?_ _ | refine blk_drew ?_ | refine blk_alloc ?_ _)); exact BK147.out)) : gb147 ≠ gb164)); have n8_ := Aside0.mk ((by rw [hg]; exact Nat.ne_of_gt (blk_lt (g := gb147) (o := .cells #[.int .i64 a0_0, .int .i64 a0_1] 30 (0, 0)) (by (with_reducible repeat (first | refine blk_drewN ?_ _ | refine blk_drew ?_ | refine blk_alloc ?_ _)); exact BK147.out)) : gb164 ≠ gb147)); have n9_ := Aside0.mk ((by rw [hg]; exact Nat.ne_of_lt (blk_lt (g := gb153) (o := .cells #[.int .i64 t154, .int .i64 t155] 30 (0, 0)) (by (with_reducible repeat (first | refine blk_drewN ?_ _ | refine blk_drew ?_ | refine blk_alloc ?_ _)); exact BK153.out)) : gb153 ≠ gb164)); have n10_ := Aside0.mk ((by rw [hg]; exact Nat.ne_of_gt (blk_lt (g := gb153) (o := .cells #[.int .i64 t154, .int .i64 t155] 30 (0, 0)) (by (with_reducible repeat (first | refine blk_drewN ?_ _ | refine blk_drew ?_ | refine blk_alloc ?_ _)); exact BK153.out)) : gb164 ≠ gb153)); have n11_ := Aside0.mk ((by rw [hg]; exact Nat.ne_of_lt (blk_lt (g := gb160) (o := .cells #[.int .i64 t157, .int .i64 t158] 30 (0, 0)) (by (with_reducible repeat (first | refine blk_drewN ?_ _ | refine blk_drew ?_ | refine blk_alloc ?_ _)); exact BK160.out)) : gb160 ≠ gb164)); have n12_ := Aside0.mk ((by rw [hg]; exact Nat.ne_of_gt (blk_lt (g := gb160) (o := .cells #[.int .i64 t157, .int .i64 t158] 30 (0, 0)) (by (with_reducible repeat (first | refine blk_drewN ?_ _ | refine blk_drew ?_ | refine blk_alloc ?_ _)); exact BK160.out)) : gb164 ≠ gb160)); clear BK147; clear BK153; clear BK160; clear HB; have BK147 := n0_; have BK153 := n1_; have BK160 := n2_; have HB := n3_; have BK164 := n4_; have GW164 := n5_; have GE164 := n6_; have NB147_164 := n7_; have NB164_147 := n8_; have NB153_164 := n9_; have NB164_153 := n10_; have NB160_164 := n11_; have NB164_160 := n12_; clear n0_ n1_ n2_ n3_ n4_ n5_ n6_ n7_ n8_ n9_ n10_ n11_ n12_; clear hb hbox hg; have hnb48 := NB164_147.out; have hnc48 := NB147_164.out; have hnb49 := NB164_153.out; have hnc49 := NB153_164.out; have hnb50 := NB164_160.out; have hnc50 := NB160_164.out; have hcz51_0 : w47.cell? ⟨gb164, 0, none⟩ = some (.int .i64 0) := (blk_cell BK164.out 0).trans rfl; have hcz51_1 : w47.cell? ⟨gb164, 1, none⟩ = some (.int .i64 0) := (blk_cell BK164.out 1).trans rfl; have hfz51_0 := blk_frozen BK164.out 0; have hfz51_1 := blk_frozen BK164.out 1))
        (try simp only [Act.put, List.setIfInBounds_toArray, List.set_cons_zero, List.set_cons_succ])
        go_cut [98] (fun v98 wc => ∃ (kq : Nat) (x98_30 : Bool), v98 = .bool x98_30 ∧ Aside0 (fourinhandlaw15_XmpSlow.j1 kq x98_30 a0_0 a0_1 t157 t158 t161 t162 = some r) ∧ Aside0 (kq ≤ kj6) ∧ Aside0 (wc.heap[gb147]? = some (.cells #[.int .i64 a0_0, .int .i64 a0_1] 30 (0, 0))) ∧ Aside0 (wc.heap[gb153]? = some (.cells #[.int .i64 t154, .int .i64 t155] 30 (0, 0))) ∧ Aside0 (wc.heap[gb160]? = some (.cells #[.int .i64 t157, .int .i64 t158] 30 (0, 0))) ∧ Aside0 (wc.heap[gb164]? = some (.cells #[.int .i64 t161, .int .i64 t162] 30 (0, 0))) ∧ Aside0 (Below w.heap.size w wc))
        case first =>
          have H := HC31.out
          clear HC31
          by_cases c52 : t152 = 0
          · rw [if_pos c52] at H
            have c52b0 : (t152 == 0) = true := beq_iff_eq.mpr c52
            have c52b1 : (t152 != 0) = false := bne_eq_false_iff_eq.mpr c52
            clear c52
            (first | rw [c52b0] | (simp only [i64_w, i32_w]; rw [c52b0]) | skip)
            by_cases c53 : t156 = 0
            · rw [if_pos c53] at H
              have c53b0 : (t156 == 0) = true := beq_iff_eq.mpr c53
              have c53b1 : (t156 != 0) = false := bne_eq_false_iff_eq.mpr c53
              clear c53
              by_cases c54 : t159 = 0
              · rw [if_pos c54] at H
                have c54b0 : (t159 == 0) = true := beq_iff_eq.mpr c54
                have c54b1 : (t159 != 0) = false := bne_eq_false_iff_eq.mpr c54
                clear c54
                by_cases c55 : t163 = 0
                · rw [if_pos c55] at H
                  have c55b0 : (t163 == 0) = true := beq_iff_eq.mpr c55
                  have c55b1 : (t163 != 0) = false := bne_eq_false_iff_eq.mpr c55
                  clear c55
                  have H' := Aside0.mk H
                  clear H
                  have hnb56 := NB153_147.out
                  have hnc56 := NB147_153.out
                  have hnb57 := NB153_160.out
                  have hnc57 := NB160_153.out
                  have hnb58 := NB153_164.out
                  have hnc58 := NB164_153.out
                  have hcz59_0 : w47.cell? ⟨gb153, 0, none⟩ = some (.int .i64 t154) := (blk_cell BK153.out 0).trans rfl
                  have hcz59_1 : w47.cell? ⟨gb153, 1, none⟩ = some (.int .i64 t155) := (blk_cell BK153.out 1).trans rfl
                  have hfz59_0 := blk_frozen BK153.out 0
                  have hfz59_1 := blk_frozen BK153.out 1
                  have hnb60 := NB160_147.out
                  have hnc60 := NB147_160.out
                  have hnb61 := NB160_164.out
                  have hnc61 := NB164_160.out
                  have hcz62_0 : w47.cell? ⟨gb160, 0, none⟩ = some (.int .i64 t157) := (blk_cell BK160.out 0).trans rfl
                  have hcz62_1 : w47.cell? ⟨gb160, 1, none⟩ = some (.int .i64 t158) := (blk_cell BK160.out 1).trans rfl
                  have hfz62_0 := blk_frozen BK160.out 0
                  have hfz62_1 := blk_frozen BK160.out 1
                  go_wp2
                  go_meet
                  case rel => exact ⟨_, ((!(t154 == t157) || (!(t155 == t158)))), (by first | rfl | (simp; done) | (simp [*]; done)), H', ⟨by have := HJ6.out; first | omega | exact Nat.le_refl _⟩, ⟨by (with_reducible repeat (first | refine blk_drewN ?_ _ | refine blk_drew ?_ | refine blk_alloc ?_ _)); refine blk_far ?_ NB147_164.out _; (with_reducible repeat (first | refine blk_drewN ?_ _ | refine blk_drew ?_ | refine blk_alloc ?_ _)); refine blk_far ?_ NB147_164.out _; (with_reducible repeat (first | refine blk_drewN ?_ _ | refine blk_drew ?_ | refine blk_alloc ?_ _)); exact BK147.out⟩, ⟨by (with_reducible repeat (first | refine blk_drewN ?_ _ | refine blk_drew ?_ | refine blk_alloc ?_ _)); refine blk_far ?_ NB153_164.out _; (with_reducible repeat (first | refine blk_drewN ?_ _ | refine blk_drew ?_ | refine blk_alloc ?_ _)); refine blk_far ?_ NB153_164.out _; (with_reducible repeat (first | refine blk_drewN ?_ _ | refine blk_drew ?_ | refine blk_alloc ?_ _)); exact BK153.out⟩, ⟨by (with_reducible repeat (first | refine blk_drewN ?_ _ | refine blk_drew ?_ | refine blk_alloc ?_ _)); refine blk_far ?_ NB160_164.out _; (with_reducible repeat (first | refine blk_drewN ?_ _ | refine blk_drew ?_ | refine blk_alloc ?_ _)); refine blk_far ?_ NB160_164.out _; (with_reducible repeat (first | refine blk_drewN ?_ _ | refine blk_drew ?_ | refine blk_alloc ?_ _)); exact BK160.out⟩, ⟨by (with_reducible repeat (first | refine blk_drewN ?_ _ | refine blk_drew ?_ | refine blk_alloc ?_ _)); refine blk_put (cs := #[.int .i64 t161, .int .i64 0]) ?_ 1 _ rfl; (with_reducible repeat (first | refine blk_drewN ?_ _ | refine blk_drew ?_ | refine blk_alloc ?_ _)); refine blk_put (cs := #[.int .i64 0, .int .i64 0]) ?_ 0 _ rfl; (with_reducible repeat (first | refine blk_drewN ?_ _ | refine blk_drew ?_ | refine blk_alloc ?_ _)); exact BK164.out⟩, ⟨by repeat (first | (with_reducible first | exact HB.out | apply below_alloc | apply pw_below_drewN | apply below_drew1 | refine below_set ?_ GE147.out | refine below_set ?_ GE153.out | refine below_set ?_ GE160.out | refine below_set ?_ GE164.out) | exact HB.out)⟩⟩
                · rw [if_neg c55] at H
                  have c55b0 : (t163 == 0) = false := beq_eq_false_iff_ne.mpr c55
                  have c55b1 : (t163 != 0) = true := bne_iff_ne.mpr c55
                  have H' := Aside0.mk H
                  clear H
                  go_wp2
                  go_meet
                  case rel => exact ⟨_, (true), (by first | rfl | (simp; done) | (simp [*]; done)), H', ⟨by have := HJ6.out; first | omega | exact Nat.le_refl _⟩, ⟨by (with_reducible repeat (first | refine blk_drewN ?_ _ | refine blk_drew ?_ | refine blk_alloc ?_ _)); refine blk_far ?_ NB147_164.out _; (with_reducible repeat (first | refine blk_drewN ?_ _ | refine blk_drew ?_ | refine blk_alloc ?_ _)); refine blk_far ?_ NB147_164.out _; (with_reducible repeat (first | refine blk_drewN ?_ _ | refine blk_drew ?_ | refine blk_alloc ?_ _)); exact BK147.out⟩, ⟨by (with_reducible repeat (first | refine blk_drewN ?_ _ | refine blk_drew ?_ | refine blk_alloc ?_ _)); refine blk_far ?_ NB153_164.out _; (with_reducible repeat (first | refine blk_drewN ?_ _ | refine blk_drew ?_ | refine blk_alloc ?_ _)); refine blk_far ?_ NB153_164.out _; (with_reducible repeat (first | refine blk_drewN ?_ _ | refine blk_drew ?_ | refine blk_alloc ?_ _)); exact BK153.out⟩, ⟨by (with_reducible repeat (first | refine blk_drewN ?_ _ | refine blk_drew ?_ | refine blk_alloc ?_ _)); refine blk_far ?_ NB160_164.out _; (with_reducible repeat (first | refine blk_drewN ?_ _ | refine blk_drew ?_ | refine blk_alloc ?_ _)); refine blk_far ?_ NB160_164.out _; (with_reducible repeat (first | refine blk_drewN ?_ _ | refine blk_drew ?_ | refine blk_alloc ?_ _)); exact BK160.out⟩, ⟨by (with_reducible repeat (first | refine blk_drewN ?_ _ | refine blk_drew ?_ | refine blk_alloc ?_ _)); refine blk_put (cs := #[.int .i64 t161, .int .i64 0]) ?_ 1 _ rfl; (with_reducible repeat (first | refine blk_drewN ?_ _ | refine blk_drew ?_ | refine blk_alloc ?_ _)); refine blk_put (cs := #[.int .i64 0, .int .i64 0]) ?_ 0 _ rfl; (with_reducible repeat (first | refine blk_drewN ?_ _ | refine blk_drew ?_ | refine blk_alloc ?_ _)); exact BK164.out⟩, ⟨by repeat (first | (with_reducible first | exact HB.out | apply below_alloc | apply pw_below_drewN | apply below_drew1 | refine below_set ?_ GE147.out | refine below_set ?_ GE153.out | refine below_set ?_ GE160.out | refine below_set ?_ GE164.out) | exact HB.out)⟩⟩
              · rw [if_neg c54] at H
                have c54b0 : (t159 == 0) = false := beq_eq_false_iff_ne.mpr c54
                have c54b1 : (t159 != 0) = true := bne_iff_ne.mpr c54
                have H' := Aside0.mk H
                clear H
                go_wp2
                go_meet
                case rel => exact ⟨_, (true), (by first | rfl | (simp; done) | (simp [*]; done)), H', ⟨by have := HJ6.out; first | omega | exact Nat.le_refl _⟩, ⟨by (with_reducible repeat (first | refine blk_drewN ?_ _ | refine blk_drew ?_ | refine blk_alloc ?_ _)); refine blk_far ?_ NB147_164.out _; (with_reducible repeat (first | refine blk_drewN ?_ _ | refine blk_drew ?_ | refine blk_alloc ?_ _)); refine blk_far ?_ NB147_164.out _; (with_reducible repeat (first | refine blk_drewN ?_ _ | refine blk_drew ?_ | refine blk_alloc ?_ _)); exact BK147.out⟩, ⟨by (with_reducible repeat (first | refine blk_drewN ?_ _ | refine blk_drew ?_ | refine blk_alloc ?_ _)); refine blk_far ?_ NB153_164.out _; (with_reducible repeat (first | refine blk_drewN ?_ _ | refine blk_drew ?_ | refine blk_alloc ?_ _)); refine blk_far ?_ NB153_164.out _; (with_reducible repeat (first | refine blk_drewN ?_ _ | refine blk_drew ?_ | refine blk_alloc ?_ _)); exact BK153.out⟩, ⟨by (with_reducible repeat (first | refine blk_drewN ?_ _ | refine blk_drew ?_ | refine blk_alloc ?_ _)); refine blk_far ?_ NB160_164.out _; (with_reducible repeat (first | refine blk_drewN ?_ _ | refine blk_drew ?_ | refine blk_alloc ?_ _)); refine blk_far ?_ NB160_164.out _; (with_reducible repeat (first | refine blk_drewN ?_ _ | refine blk_drew ?_ | refine blk_alloc ?_ _)); exact BK160.out⟩, ⟨by (with_reducible repeat (first | refine blk_drewN ?_ _ | refine blk_drew ?_ | refine blk_alloc ?_ _)); refine blk_put (cs := #[.int .i64 t161, .int .i64 0]) ?_ 1 _ rfl; (with_reducible repeat (first | refine blk_drewN ?_ _ | refine blk_drew ?_ | refine blk_alloc ?_ _)); refine blk_put (cs := #[.int .i64 0, .int .i64 0]) ?_ 0 _ rfl; (with_reducible repeat (first | refine blk_drewN ?_ _ | refine blk_drew ?_ | refine blk_alloc ?_ _)); exact BK164.out⟩, ⟨by repeat (first | (with_reducible first | exact HB.out | apply below_alloc | apply pw_below_drewN | apply below_drew1 | refine below_set ?_ GE147.out | refine below_set ?_ GE153.out | refine below_set ?_ GE160.out | refine below_set ?_ GE164.out) | exact HB.out)⟩⟩
            · rw [if_neg c53] at H
              have c53b0 : (t156 == 0) = false := beq_eq_false_iff_ne.mpr c53
              have c53b1 : (t156 != 0) = true := bne_iff_ne.mpr c53
              have H' := Aside0.mk H
              clear H
              go_wp2
              go_meet
              case rel => exact ⟨_, (true), (by first | rfl | (simp; done) | (simp [*]; done)), H', ⟨by have := HJ6.out; first | omega | exact Nat.le_refl _⟩, ⟨by (with_reducible repeat (first | refine blk_drewN ?_ _ | refine blk_drew ?_ | refine blk_alloc ?_ _)); refine blk_far ?_ NB147_164.out _; (with_reducible repeat (first | refine blk_drewN ?_ _ | refine blk_drew ?_ | refine blk_alloc ?_ _)); refine blk_far ?_ NB147_164.out _; (with_reducible repeat (first | refine blk_drewN ?_ _ | refine blk_drew ?_ | refine blk_alloc ?_ _)); exact BK147.out⟩, ⟨by (with_reducible repeat (first | refine blk_drewN ?_ _ | refine blk_drew ?_ | refine blk_alloc ?_ _)); refine blk_far ?_ NB153_164.out _; (with_reducible repeat (first | refine blk_drewN ?_ _ | refine blk_drew ?_ | refine blk_alloc ?_ _)); refine blk_far ?_ NB153_164.out _; (with_reducible repeat (first | refine blk_drewN ?_ _ | refine blk_drew ?_ | refine blk_alloc ?_ _)); exact BK153.out⟩, ⟨by (with_reducible repeat (first | refine blk_drewN ?_ _ | refine blk_drew ?_ | refine blk_alloc ?_ _)); refine blk_far ?_ NB160_164.out _; (with_reducible repeat (first | refine blk_drewN ?_ _ | refine blk_drew ?_ | refine blk_alloc ?_ _)); refine blk_far ?_ NB160_164.out _; (with_reducible repeat (first | refine blk_drewN ?_ _ | refine blk_drew ?_ | refine blk_alloc ?_ _)); exact BK160.out⟩, ⟨by (with_reducible repeat (first | refine blk_drewN ?_ _ | refine blk_drew ?_ | refine blk_alloc ?_ _)); refine blk_put (cs := #[.int .i64 t161, .int .i64 0]) ?_ 1 _ rfl; (with_reducible repeat (first | refine blk_drewN ?_ _ | refine blk_drew ?_ | refine blk_alloc ?_ _)); refine blk_put (cs := #[.int .i64 0, .int .i64 0]) ?_ 0 _ rfl; (with_reducible repeat (first | refine blk_drewN ?_ _ | refine blk_drew ?_ | refine blk_alloc ?_ _)); exact BK164.out⟩, ⟨by repeat (first | (with_reducible first | exact HB.out | apply below_alloc | apply pw_below_drewN | apply below_drew1 | refine below_set ?_ GE147.out | refine below_set ?_ GE153.out | refine below_set ?_ GE160.out | refine below_set ?_ GE164.out) | exact HB.out)⟩⟩
          · rw [if_neg c52] at H
            have c52b0 : (t152 == 0) = false := beq_eq_false_iff_ne.mpr c52
            have c52b1 : (t152 != 0) = true := bne_iff_ne.mpr c52
            (first | rw [c52b0] | (simp only [i64_w, i32_w]; rw [c52b0]) | skip)
            have H' := Aside0.mk H
            clear H
            go_wp2
            go_meet
            case rel => exact ⟨_, (true), (by first | rfl | (simp; done) | (simp [*]; done)), H', ⟨by have := HJ6.out; first | omega | exact Nat.le_refl _⟩, ⟨by (with_reducible repeat (first | refine blk_drewN ?_ _ | refine blk_drew ?_ | refine blk_alloc ?_ _)); refine blk_far ?_ NB147_164.out _; (with_reducible repeat (first | refine blk_drewN ?_ _ | refine blk_drew ?_ | refine blk_alloc ?_ _)); refine blk_far ?_ NB147_164.out _; (with_reducible repeat (first | refine blk_drewN ?_ _ | refine blk_drew ?_ | refine blk_alloc ?_ _)); exact BK147.out⟩, ⟨by (with_reducible repeat (first | refine blk_drewN ?_ _ | refine blk_drew ?_ | refine blk_alloc ?_ _)); refine blk_far ?_ NB153_164.out _; (with_reducible repeat (first | refine blk_drewN ?_ _ | refine blk_drew ?_ | refine blk_alloc ?_ _)); refine blk_far ?_ NB153_164.out _; (with_reducible repeat (first | refine blk_drewN ?_ _ | refine blk_drew ?_ | refine blk_alloc ?_ _)); exact BK153.out⟩, ⟨by (with_reducible repeat (first | refine blk_drewN ?_ _ | refine blk_drew ?_ | refine blk_alloc ?_ _)); refine blk_far ?_ NB160_164.out _; (with_reducible repeat (first | refine blk_drewN ?_ _ | refine blk_drew ?_ | refine blk_alloc ?_ _)); refine blk_far ?_ NB160_164.out _; (with_reducible repeat (first | refine blk_drewN ?_ _ | refine blk_drew ?_ | refine blk_alloc ?_ _)); exact BK160.out⟩, ⟨by (with_reducible repeat (first | refine blk_drewN ?_ _ | refine blk_drew ?_ | refine blk_alloc ?_ _)); refine blk_put (cs := #[.int .i64 t161, .int .i64 0]) ?_ 1 _ rfl; (with_reducible repeat (first | refine blk_drewN ?_ _ | refine blk_drew ?_ | refine blk_alloc ?_ _)); refine blk_put (cs := #[.int .i64 0, .int .i64 0]) ?_ 0 _ rfl; (with_reducible repeat (first | refine blk_drewN ?_ _ | refine blk_drew ?_ | refine blk_alloc ?_ _)); exact BK164.out⟩, ⟨by repeat (first | (with_reducible first | exact HB.out | apply below_alloc | apply pw_below_drewN | apply below_drew1 | refine below_set ?_ GE147.out | refine below_set ?_ GE153.out | refine below_set ?_ GE160.out | refine below_set ?_ GE164.out) | exact HB.out)⟩⟩
        case rest =>
          clear HC31
          try clear c1
          try clear c2
          try clear p2
          try clear c3
          try clear c4
          try clear c5
          try clear c6
          try clear p6
          try clear c9
          try clear c10
          try clear c12
          try clear c13
          try clear c13b0
          try clear c16
          try clear c16b0
          try clear c19
          try clear c19b0
          try clear c26
          try clear c35
          try clear c42
          try clear c43
          try clear c48
          try clear c49
          try clear c50
          try clear c52
          try clear c52b0
          try clear c52b1
          try clear c53
          try clear c53b0
          try clear c53b1
          try clear c54
          try clear c54b0
          try clear c54b1
          try clear c55
          try clear c55b0
          try clear c55b1
          try clear c56
          try clear c57
          try clear c58
          try clear c60
          try clear c61
          try clear hcz14_0
          try clear hcz14_1
          try clear hcz17_0
          try clear hcz17_1
          try clear hcz20_0
          try clear hcz20_1
          try clear hcz22_0
          try clear hcz22_1
          try clear hcz24_0
          try clear hcz24_1
          try clear hcz32_0
          try clear hcz32_1
          try clear hcz36_0
          try clear hcz36_1
          try clear hcz38_0
          try clear hcz38_1
          try clear hcz39_0
          try clear hcz39_1
          try clear hcz44_0
          try clear hcz44_1
          try clear hcz45_0
          try clear hcz45_1
          try clear hcz51_0
          try clear hcz51_1
          try clear hcz59_0
          try clear hcz59_1
          try clear hcz62_0
          try clear hcz62_1
          try clear hfz14_0
          try clear hfz14_1
          try clear hfz17_0
          try clear hfz17_1
          try clear hfz20_0
          try clear hfz20_1
          try clear hfz22_0
          try clear hfz22_1
          try clear hfz24_0
          try clear hfz24_1
          try clear hfz32_0
          try clear hfz32_1
          try clear hfz36_0
          try clear hfz36_1
          try clear hfz38_0
          try clear hfz38_1
          try clear hfz39_0
          try clear hfz39_1
          try clear hfz44_0
          try clear hfz44_1
          try clear hfz45_0
          try clear hfz45_1
          try clear hfz51_0
          try clear hfz51_1
          try clear hfz59_0
          try clear hfz59_1
          try clear hfz62_0
          try clear hfz62_1
          try clear p2
          obtain ⟨kq, x98_30, rfl, HA, HJ30, BK147, BK153, BK160, BK164, HB⟩ := hcut
          cases kq with
          | zero => exact absurd HA.out (by simp [fourinhandlaw15_XmpSlow.j1])
          | succ kj30 =>
            have H := HA.out
            clear HA
            simp only [fourinhandlaw15_XmpSlow.j1] at H
            by_cases c63 : x98_30 = true
            · subst c63
              have H1 : (some false) = some r := by rw [if_pos rfl] at H; exact H
              clear H
              have H := H1
              clear H1
              exact Bool.noConfusion ((Option.some.inj H).trans hr_.out)
            · replace c63 := Bool.eq_false_iff.mpr c63
              subst c63
              have H1 : (if a0_0 < a0_1 then (some (t161 == a0_0 && (t162 == a0_1))) else (some (t157 == a0_0 && (t158 == a0_1)))) = some r := by rw [if_neg (show ¬ (false = true) by decide)] at H; exact H
              clear H
              have H := H1
              clear H1
              by_cases c64 : a0_0 < a0_1
              · rw [if_pos c64] at H
                have c64b0 : decide (a0_0 < a0_1) = true := decide_eq_true c64
                clear c64
                obtain rfl := Option.some.inj H
                have hnb65 := NB147_153.out
                have hnc65 := NB153_147.out
                have hnb66 := NB147_160.out
                have hnc66 := NB160_147.out
                have hnb67 := NB147_164.out
                have hnc67 := NB164_147.out
                have hcz68_0 : wc.cell? ⟨gb147, 0, none⟩ = some (.int .i64 a0_0) := (blk_cell BK147.out 0).trans rfl
                have hcz68_1 : wc.cell? ⟨gb147, 1, none⟩ = some (.int .i64 a0_1) := (blk_cell BK147.out 1).trans rfl
                have hfz68_0 := blk_frozen BK147.out 0
                have hfz68_1 := blk_frozen BK147.out 1
                have hnb69 := NB164_153.out
                have hnc69 := NB153_164.out
                have hnb70 := NB164_160.out
                have hnc70 := NB160_164.out
                have hcz71_0 : wc.cell? ⟨gb164, 0, none⟩ = some (.int .i64 t161) := (blk_cell BK164.out 0).trans rfl
                have hcz71_1 : wc.cell? ⟨gb164, 1, none⟩ = some (.int .i64 t162) := (blk_cell BK164.out 1).trans rfl
                have hfz71_0 := blk_frozen BK164.out 0
                have hfz71_1 := blk_frozen BK164.out 1
                go_wp2
                go_ret
                exact ⟨by first | rfl | (simp [errW_none, errW_some] <;> rfl) | (simp [*, errW_none, errW_some] <;> rfl), by repeat (first | (with_reducible first | exact HB.out | apply below_alloc | apply pw_below_drewN | apply below_drew1 | refine below_set ?_ GE147.out | refine below_set ?_ GE153.out | refine below_set ?_ GE160.out | refine below_set ?_ GE164.out) | exact HB.out)⟩
              · rw [if_neg c64] at H
                have c64b0 : decide (a0_0 < a0_1) = false := decide_eq_false c64
                clear c64
                obtain rfl := Option.some.inj H
                have hnb72 := NB147_153.out
                have hnc72 := NB153_147.out
                have hnb73 := NB147_160.out
                have hnc73 := NB160_147.out
                have hnb74 := NB147_164.out
                have hnc74 := NB164_147.out
                have hcz75_0 : wc.cell? ⟨gb147, 0, none⟩ = some (.int .i64 a0_0) := (blk_cell BK147.out 0).trans rfl
                have hcz75_1 : wc.cell? ⟨gb147, 1, none⟩ = some (.int .i64 a0_1) := (blk_cell BK147.out 1).trans rfl
                have hfz75_0 := blk_frozen BK147.out 0
                have hfz75_1 := blk_frozen BK147.out 1
                have hnb76 := NB160_153.out
                have hnc76 := NB153_160.out
                have hnb77 := NB160_164.out
                have hnc77 := NB164_160.out
                have hcz78_0 : wc.cell? ⟨gb160, 0, none⟩ = some (.int .i64 t157) := (blk_cell BK160.out 0).trans rfl
                have hcz78_1 : wc.cell? ⟨gb160, 1, none⟩ = some (.int .i64 t158) := (blk_cell BK160.out 1).trans rfl
                have hfz78_0 := blk_frozen BK160.out 0
                have hfz78_1 := blk_frozen BK160.out 1
                go_wp2
                go_ret
                exact ⟨by first | rfl | (simp [errW_none, errW_some] <;> rfl) | (simp [*, errW_none, errW_some] <;> rfl), by repeat (first | (with_reducible first | exact HB.out | apply below_alloc | apply pw_below_drewN | apply below_drew1 | refine below_set ?_ GE147.out | refine below_set ?_ GE153.out | refine below_set ?_ GE160.out | refine below_set ?_ GE164.out) | exact HB.out)⟩

end Go.Proofs.Ytdbnhmipbbadjaa.PXmpSlow
