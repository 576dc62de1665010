-- Written by a program of this session (wip/hprint.py), over the kit's print.py: the walk of one law. Lean checks it.
import Derived.Test.YtjmblmomeijddaaPVegasBoundsx0
import Derived.Test.YtjmblmomeijddaaPVegasBoundsx1
import Derived.Test.YtjmblmomeijddaaPVegasBoundsx3
namespace Go.Proofs.Ytjmblmomeijddaa.PVegasBounds
open Go.RowKit Go.Proofs.YtjmblmomeijddaaW.PrintWords Go.Proofs.YtjmblmomeijddaaW.PrintLast Go.Proofs.YtjmblmomeijddaaW.PrintMore
attribute [local go_sem] max2_int min2_int max_two min_two max_three min_three max_four min_four   -- for this text's walks alone
set_option linter.unusedVariables false
set_option linter.unusedSimpArgs false

attribute [local go_sem high] eqA32
/-! ### fourinhandlaw16_VegasBounds: function 7 -/
mutual
def fourinhandlaw16_VegasBounds.j0 : Nat → Int → Int → Int → Int → Bool → Bool → Int → Int → Int → Int → Option (Bool)
  | 0, _, _, _, _, _, _, _, _, _, _ => none
  | k + 1, x1, x2, x3, x4, x11, x31, x148000, x148001, x153000, x153001 => if x31 = true then (if x11 = true then (some (x153000 == 0 && (x153001 == 0))) else (some false)) else ((xmp_May.f x153000 x153001 x3 x4).bind fun t153 => (if t153 = true then (if (wrap64 (x153000 - x148000)) > x3 then (fourinhandlaw16_VegasBounds.j1 k x1 x2 (wrap64 (x153000 - x148000)) true x148000 x148001 x153000 x153001) else (if (wrap64 (x153000 - x148000)) < (wrap64 (-x3)) then (fourinhandlaw16_VegasBounds.j1 k x1 x2 (wrap64 (x153000 - x148000)) true x148000 x148001 x153000 x153001) else (if (wrap64 (x153000 - x148000)) > 0 then (if x1 ≥ x2 then (fourinhandlaw16_VegasBounds.j1 k x1 x2 (wrap64 (x153000 - x148000)) true x148000 x148001 x153000 x153001) else (if (wrap64 (x153000 - x148000)) < 0 then (fourinhandlaw16_VegasBounds.j1 k x1 x2 (wrap64 (x153000 - x148000)) (decide (x1 ≤ x2)) x148000 x148001 x153000 x153001) else (fourinhandlaw16_VegasBounds.j1 k x1 x2 (wrap64 (x153000 - x148000)) false x148000 x148001 x153000 x153001))) else (if (wrap64 (x153000 - x148000)) < 0 then (fourinhandlaw16_VegasBounds.j1 k x1 x2 (wrap64 (x153000 - x148000)) (decide (x1 ≤ x2)) x148000 x148001 x153000 x153001) else (fourinhandlaw16_VegasBounds.j1 k x1 x2 (wrap64 (x153000 - x148000)) false x148000 x148001 x153000 x153001))))) else (fourinhandlaw16_VegasBounds.j1 k x1 x2 (wrap64 (x153000 - x148000)) true x148000 x148001 x153000 x153001)))
def fourinhandlaw16_VegasBounds.j1 : Nat → Int → Int → Int → Bool → Int → Int → Int → Int → Option (Bool)
  | 0, _, _, _, _, _, _, _, _ => none
  | k + 1, x1, x2, x14, x76, x148000, x148001, x153000, x153001 => if x76 = true then (some false) else (if x148000 < x148001 then (if x14 = 0 then (some ((x153001 == x148001) == (decide (x1 ≤ x2)))) else (some false)) else (if x153001 = x148001 then (if x1 = x2 then (some (x153000 == x148000 && (x153001 == x148001))) else (some true)) else (some false)))
end
def fourinhandlaw16_VegasBounds.f (k : Nat) (a0_0 : Int) (a0_1 : Int) (a1 : Int) (a2 : Int) (a3 : Int) (a4 : Int) : Option (Bool) := (fourinhandlaw16_awake.f k).bind fun t148 => ((vegas_Round.f a0_0 a0_1 a1 a2 a3 a4).bind fun bt149 => (if t148 = true then (fourinhandlaw16_VegasBounds.j0 k a1 a2 a3 a4 t148 (bt149.2.2 != 0) a0_0 a0_1 bt149.1 bt149.2.1) else (fourinhandlaw16_VegasBounds.j0 k a1 a2 a3 a4 t148 true a0_0 a0_1 bt149.1 bt149.2.1)))
theorem fourinhandlaw16_VegasBounds.mono_l : ∀ k, (∀ y0 y1 y2 y3 y4 y5 y6 y7 y8 y9, LeO (fourinhandlaw16_VegasBounds.j0 k y0 y1 y2 y3 y4 y5 y6 y7 y8 y9) (fourinhandlaw16_VegasBounds.j0 (k + 1) y0 y1 y2 y3 y4 y5 y6 y7 y8 y9)) ∧ (∀ y0 y1 y2 y3 y4 y5 y6 y7, LeO (fourinhandlaw16_VegasBounds.j1 k y0 y1 y2 y3 y4 y5 y6 y7) (fourinhandlaw16_VegasBounds.j1 (k + 1) y0 y1 y2 y3 y4 y5 y6 y7))
  | 0 => ⟨fun _ _ _ _ _ _ _ _ _ _ r h => by simp [fourinhandlaw16_VegasBounds.j0] at h, fun _ _ _ _ _ _ _ _ r h => by simp [fourinhandlaw16_VegasBounds.j1] at h⟩
  | k + 1 => by
    obtain ⟨ih0, ih1⟩ := fourinhandlaw16_VegasBounds.mono_l k
    refine ⟨?_, ?_⟩
    · intro y0 y1 y2 y3 y4 y5 y6 y7 y8 y9
      unfold fourinhandlaw16_VegasBounds.j0
      repeat' first
      | (with_reducible exact ih0 _ _ _ _ _ _ _ _ _ _)
      | (with_reducible exact ih1 _ _ _ _ _ _ _ _)
      | (with_reducible exact fourinhandlaw16_awake.mono _)
      | (with_reducible exact LeO.refl _)
      | (with_reducible exact LeO.none _)
      | (with_reducible refine LeO.ite ?_ ?_)
      | (with_reducible refine LeO.bind ?_ (fun _ => ?_))
      | exact ih0 _ _ _ _ _ _ _ _ _ _
      | exact ih1 _ _ _ _ _ _ _ _
      | exact fourinhandlaw16_awake.mono _
      | exact LeO.none _
      | refine LeO.ite ?_ ?_
      | refine LeO.bind ?_ (fun _ => ?_)
    · intro y0 y1 y2 y3 y4 y5 y6 y7
      unfold fourinhandlaw16_VegasBounds.j1
      repeat' first
      | (with_reducible exact ih0 _ _ _ _ _ _ _ _ _ _)
      | (with_reducible exact ih1 _ _ _ _ _ _ _ _)
      | (with_reducible exact fourinhandlaw16_awake.mono _)
      | (with_reducible exact LeO.refl _)
      | (with_reducible exact LeO.none _)
      | (with_reducible refine LeO.ite ?_ ?_)
      | (with_reducible refine LeO.bind ?_ (fun _ => ?_))
      | exact ih0 _ _ _ _ _ _ _ _ _ _
      | exact ih1 _ _ _ _ _ _ _ _
      | exact fourinhandlaw16_awake.mono _
      | exact LeO.none _
      | refine LeO.ite ?_ ?_
      | refine LeO.bind ?_ (fun _ => ?_)
theorem fourinhandlaw16_VegasBounds.mono : ∀ a0 a1 a2 a3 a4 a5 k, LeO (fourinhandlaw16_VegasBounds.f k a0 a1 a2 a3 a4 a5) (fourinhandlaw16_VegasBounds.f (k + 1) a0 a1 a2 a3 a4 a5) := by
  intro a0 a1 a2 a3 a4 a5 k
  obtain ⟨ih0, ih1⟩ := fourinhandlaw16_VegasBounds.mono_l k
  unfold fourinhandlaw16_VegasBounds.f
  repeat' first
      | (with_reducible exact ih0 _ _ _ _ _ _ _ _ _ _)
      | (with_reducible exact ih1 _ _ _ _ _ _ _ _)
      | (with_reducible exact fourinhandlaw16_awake.mono _)
      | (with_reducible exact LeO.refl _)
      | (with_reducible exact LeO.none _)
      | (with_reducible refine LeO.ite ?_ ?_)
      | (with_reducible refine LeO.bind ?_ (fun _ => ?_))
      | exact ih0 _ _ _ _ _ _ _ _ _ _
      | exact ih1 _ _ _ _ _ _ _ _
      | exact fourinhandlaw16_awake.mono _
      | exact LeO.none _
      | refine LeO.ite ?_ ?_
      | refine LeO.bind ?_ (fun _ => ?_)
set_option maxHeartbeats 8000000 in
set_option maxRecDepth 100000 in
theorem fourinhandlaw16_VegasBounds.calls (k : Nat) (a0_0 : Int) (a0_1 : Int) (a1 : Int) (a2 : Int) (a3 : Int) (a4 : Int) (r : Bool) (hr_ : Aside0 (r = true)) (w : World) (h : fourinhandlaw16_VegasBounds.f k a0_0 a0_1 a1 a2 a3 a4 = some r) :
    Calls Try.prog 7 #[.agg #[.int .i64 a0_0, .int .i64 a0_1], .int .i64 a1, .int .i64 a2, .int .i64 a3, .int .i64 a4] w fun e w' => e = .returned (.bool r) ∧ Below w.heap.size w w' := by
  have hu32 := Try.underlying32
  have HB := Aside0.mk (Below.refl w.heap.size w)
  have H : ((fourinhandlaw16_awake.f k).bind fun t148 => ((vegas_Round.f a0_0 a0_1 a1 a2 a3 a4).bind fun bt149 => (if t148 = true then (fourinhandlaw16_VegasBounds.j0 k a1 a2 a3 a4 t148 (bt149.2.2 != 0) a0_0 a0_1 bt149.1 bt149.2.1) else (fourinhandlaw16_VegasBounds.j0 k a1 a2 a3 a4 t148 true a0_0 a0_1 bt149.1 bt149.2.1)))) = some r := h
  clear h
  replace H := Option.bind_eq_some_iff.mp H
  obtain ⟨t148, A60, H⟩ := H
  replace H : ((vegas_Round.f a0_0 a0_1 a1 a2 a3 a4).bind fun bt149 => (if t148 = true then (fourinhandlaw16_VegasBounds.j0 k a1 a2 a3 a4 t148 (bt149.2.2 != 0) a0_0 a0_1 bt149.1 bt149.2.1) else (fourinhandlaw16_VegasBounds.j0 k a1 a2 a3 a4 t148 true a0_0 a0_1 bt149.1 bt149.2.1))) = some r := H
  have A6 := Aside0.mk A60
  clear A60
  replace H := Option.bind_eq_some_iff.mp H
  obtain ⟨⟨t149, t150, t151⟩, A70, H⟩ := H
  replace H : (if t148 = true then (fourinhandlaw16_VegasBounds.j0 k a1 a2 a3 a4 t148 (t151 != 0) a0_0 a0_1 t149 t150) else (fourinhandlaw16_VegasBounds.j0 k a1 a2 a3 a4 t148 true a0_0 a0_1 t149 t150)) = some r := H
  have A7 := Aside0.mk A70
  clear A70
  have HC8 := Aside0.mk H
  clear H
  go_enter Try.func7, Try.ntmps7
  go_upto_region 3 with (first | ((with_reducible refine gate_dst (N := 5) rfl ?_); refine box_event ?hg (N := 5) ?hd (cs := #[.int .i64 a0_0, .int .i64 a0_1]) (t := 32) ?hr ?_; (case hd => rfl); (case hg => rfl); (case hr => first | (go_simp; done) | (go_simp; rfl)); intro gb147 hg w9 hbox hb; have n0_ := Aside0.mk (below_step (by repeat (first | (with_reducible first | exact HB.out | apply below_alloc | apply pw_below_drewN | apply below_drew1) | exact HB.out)) hb); have n1_ := Aside0.mk (hbox); have n2_ := Aside0.mk ((by rw [hg]; exact (below_size (by repeat (first | (with_reducible first | exact HB.out | apply below_alloc | apply pw_below_drewN | apply below_drew1) | exact HB.out))) : w.heap.size ≤ gb147)); have n3_ := Aside0.mk ((by rw [hg]; exact (below_size (by repeat (first | (with_reducible first | exact HB.out | apply below_alloc | apply pw_below_drewN | apply below_drew1) | exact HB.out))) : w.heap.size ≤ gb147)); clear HB; have HB := n0_; have BK147 := n1_; have GW147 := n2_; have GE147 := n3_; clear n0_ n1_ n2_ n3_; clear hb hbox hg) | ((with_reducible refine gate_callee (f := 9) rfl ?_); refine goesL_ (some 16) rfl rfl Try.func9 (by kernel_rfl) rfl #[] rfl (by (try simp only [List.map_toArray, List.map_cons, List.map_nil]); first | done | rfl | (simp only [List.length_drop, List.length_take]; rfl)) ?_; (with_reducible refine (fourinhandlaw16_awake.calls k  t148 _ A6.out).mono ?_); rintro e w10 ⟨rfl, hb⟩; refine ⟨_, rfl, ?_⟩; have n0_ := Aside0.mk (blk_below (g := gb147) (o := .cells #[.int .i64 a0_0, .int .i64 a0_1] 32 (0, 0)) (by (with_reducible repeat (first | refine blk_drewN ?_ _ | refine blk_drew ?_ | refine blk_alloc ?_ _)); exact BK147.out) hb); have n1_ := Aside0.mk (below_step (by repeat (first | (with_reducible first | exact HB.out | apply below_alloc | apply pw_below_drewN | apply below_drew1 | refine below_set ?_ GE147.out) | exact HB.out)) hb); clear BK147; clear HB; have BK147 := n0_; have HB := n1_; clear n0_ n1_; (try clear hb); (try clear hb2); (try clear hk); (try clear hi); have hcz11_0 : w10.cell? ⟨gb147, 0, none⟩ = some (.int .i64 a0_0) := (blk_cell BK147.out 0).trans rfl; have hcz11_1 : w10.cell? ⟨gb147, 1, none⟩ = some (.int .i64 a0_1) := (blk_cell BK147.out 1).trans rfl; have hfz11_0 := blk_frozen BK147.out 0; have hfz11_1 := blk_frozen BK147.out 1) | ((with_reducible refine gate_callee (f := 12) rfl ?_); refine goesL_ (some 23) rfl rfl Try.func12 (by kernel_rfl) rfl #[.agg #[.int .i64 a0_0, .int .i64 a0_1], .int .i64 a1, .int .i64 a2, .int .i64 a3, .int .i64 a4] rfl (by (try simp only [List.map_toArray, List.map_cons, List.map_nil]); first | done | rfl | (simp only [List.length_drop, List.length_take]; rfl)) ?_; (with_reducible refine (vegas_Round.calls a0_0 a0_1 a1 a2 a3 a4 t149 t150 t151 _ A7.out).mono ?_); rintro e w12 ⟨rfl, hb⟩; refine ⟨_, rfl, ?_⟩; have n0_ := Aside0.mk (blk_below (g := gb147) (o := .cells #[.int .i64 a0_0, .int .i64 a0_1] 32 (0, 0)) (by (with_reducible repeat (first | refine blk_drewN ?_ _ | refine blk_drew ?_ | refine blk_alloc ?_ _)); exact BK147.out) hb); have n1_ := Aside0.mk (below_step (by repeat (first | (with_reducible first | exact HB.out | apply below_alloc | apply pw_below_drewN | apply below_drew1 | refine below_set ?_ GE147.out) | exact HB.out)) hb); clear BK147; clear HB; have BK147 := n0_; have HB := n1_; clear n0_ n1_; (try clear hb); (try clear hb2); (try clear hk); (try clear hi)) | ((with_reducible refine gate_dst (N := 12) rfl ?_); refine box_event ?hg (N := 12) ?hd (cs := #[.int .i64 0, .int .i64 0]) (t := 32) ?hr ?_; (case hd => rfl); (case hg => rfl); (case hr => first | (go_simp; done) | (go_simp; rfl)); intro gb152 hg w13 hbox hb; have n0_ := Aside0.mk (blk_below (g := gb147) (o := .cells #[.int .i64 a0_0, .int .i64 a0_1] 32 (0, 0)) (by (with_reducible repeat (first | refine blk_drewN ?_ _ | refine blk_drew ?_ | refine blk_alloc ?_ _)); exact BK147.out) hb); have n1_ := Aside0.mk (below_step (by repeat (first | (with_reducible first | exact HB.out | apply below_alloc | apply pw_below_drewN | apply below_drew1 | refine below_set ?_ GE147.out) | exact HB.out)) hb); have n2_ := Aside0.mk (hbox); have n3_ := Aside0.mk ((by rw [hg]; exact (below_size (by repeat (first | (with_reducible first | exact HB.out | apply below_alloc | apply pw_below_drewN | apply below_drew1 | refine below_set ?_ GE147.out) | exact HB.out))) : w.heap.size ≤ gb152)); have n4_ := Aside0.mk ((by rw [hg]; exact (below_size (by repeat (first | (with_reducible first | exact HB.out | apply below_alloc | apply pw_below_drewN | apply below_drew1 | refine below_set ?_ GE147.out) | exact HB.out))) : w.heap.size ≤ gb152)); have n5_ := Aside0.mk ((by rw [hg]; exact Nat.ne_of_lt (blk_lt (g := gb147) (o := .cells #[.int .i64 a0_0, .int .i64 a0_1] 32 (0, 0)) (by (with_reducible repeat (first | refine blk_drewN ?_ _ | refine blk_drew ?_ | refine blk_alloc ?_ _)); exact BK147.out)) : gb147 ≠ gb152)); have n6_ := Aside0.mk ((by rw [hg]; exact Nat.ne_of_gt (blk_lt (g := gb147) (o := .cells #[.int .i64 a0_0, .int .i64 a0_1] 32 (0, 0)) (by (with_reducible repeat (first | refine blk_drewN ?_ _ | refine blk_drew ?_ | refine blk_alloc ?_ _)); exact BK147.out)) : gb152 ≠ gb147)); clear BK147; clear HB; have BK147 := n0_; have HB := n1_; have BK152 := n2_; have GW152 := n3_; have GE152 := n4_; have NB147_152 := n5_; have NB152_147 := n6_; clear n0_ n1_ n2_ n3_ n4_ n5_ n6_; clear hb hbox hg; have hnb14 := NB152_147.out; have hnc14 := NB147_152.out; have hcz15_0 : w13.cell? ⟨gb152, 0, none⟩ = some (.int .i64 0) := (blk_cell BK152.out 0).trans rfl; have hcz15_1 : w13.cell? ⟨gb152, 1, none⟩ = some (.int .i64 0) := (blk_cell BK152.out 1).trans rfl; have hfz15_0 := blk_frozen BK152.out 0; have hfz15_1 := blk_frozen BK152.out 1))
  (try simp only [Act.put, List.setIfInBounds_toArray, List.set_cons_zero, List.set_cons_succ])
  go_cut [31] (fun v31 wc => ∃ (kq : Nat) (x31_7 : Bool), v31 = .bool x31_7 ∧ Aside0 (fourinhandlaw16_VegasBounds.j0 kq a1 a2 a3 a4 t148 x31_7 a0_0 a0_1 t149 t150 = some r) ∧ Aside0 (kq ≤ k) ∧ Aside0 (wc.heap[gb147]? = some (.cells #[.int .i64 a0_0, .int .i64 a0_1] 32 (0, 0))) ∧ Aside0 (wc.heap[gb152]? = some (.cells #[.int .i64 t149, .int .i64 t150] 32 (0, 0))) ∧ Aside0 (Below w.heap.size w wc))
  case first =>
    have H := HC8.out
    clear HC8
    by_cases c16 : t148 = true
    · subst c16
      have H1 : (fourinhandlaw16_VegasBounds.j0 k a1 a2 a3 a4 true (t151 != 0) a0_0 a0_1 t149 t150) = some r := by rw [if_pos rfl] at H; exact H
      clear H
      have H := H1
      clear H1
      have H' := Aside0.mk H
      clear H
      go_wp2
      go_meet
      case rel => exact ⟨_, ((t151 != 0)), (by first | rfl | (simp; done) | (simp [*]; done)), H', ⟨by first | omega | exact Nat.le_refl _⟩, ⟨by (with_reducible repeat (first | refine blk_drewN ?_ _ | refine blk_drew ?_ | refine blk_alloc ?_ _)); refine blk_far ?_ NB147_152.out _; (with_reducible repeat (first | refine blk_drewN ?_ _ | refine blk_drew ?_ | refine blk_alloc ?_ _)); refine blk_far ?_ NB147_152.out _; (with_reducible repeat (first | refine blk_drewN ?_ _ | refine blk_drew ?_ | refine blk_alloc ?_ _)); exact BK147.out⟩, ⟨by (with_reducible repeat (first | refine blk_drewN ?_ _ | refine blk_drew ?_ | refine blk_alloc ?_ _)); refine blk_put (cs := #[.int .i64 t149, .int .i64 0]) ?_ 1 _ rfl; (with_reducible repeat (first | refine blk_drewN ?_ _ | refine blk_drew ?_ | refine blk_alloc ?_ _)); refine blk_put (cs := #[.int .i64 0, .int .i64 0]) ?_ 0 _ rfl; (with_reducible repeat (first | refine blk_drewN ?_ _ | refine blk_drew ?_ | refine blk_alloc ?_ _)); exact BK152.out⟩, ⟨by repeat (first | (with_reducible first | exact HB.out | apply below_alloc | apply pw_below_drewN | apply below_drew1 | refine below_set ?_ GE147.out | refine below_set ?_ GE152.out) | exact HB.out)⟩⟩
    · replace c16 := Bool.eq_false_iff.mpr c16
      subst c16
      have H1 : (fourinhandlaw16_VegasBounds.j0 k a1 a2 a3 a4 false true a0_0 a0_1 t149 t150) = some r := by rw [if_neg (show ¬ (false = true) by decide)] at H; exact H
      clear H
      have H := H1
      clear H1
      have H' := Aside0.mk H
      clear H
      go_wp2
      go_meet
      case rel => exact ⟨_, (true), (by first | rfl | (simp; done) | (simp [*]; done)), H', ⟨by first | omega | exact Nat.le_refl _⟩, ⟨by (with_reducible repeat (first | refine blk_drewN ?_ _ | refine blk_drew ?_ | refine blk_alloc ?_ _)); refine blk_far ?_ NB147_152.out _; (with_reducible repeat (first | refine blk_drewN ?_ _ | refine blk_drew ?_ | refine blk_alloc ?_ _)); refine blk_far ?_ NB147_152.out _; (with_reducible repeat (first | refine blk_drewN ?_ _ | refine blk_drew ?_ | refine blk_alloc ?_ _)); exact BK147.out⟩, ⟨by (with_reducible repeat (first | refine blk_drewN ?_ _ | refine blk_drew ?_ | refine blk_alloc ?_ _)); refine blk_put (cs := #[.int .i64 t149, .int .i64 0]) ?_ 1 _ rfl; (with_reducible repeat (first | refine blk_drewN ?_ _ | refine blk_drew ?_ | refine blk_alloc ?_ _)); refine blk_put (cs := #[.int .i64 0, .int .i64 0]) ?_ 0 _ rfl; (with_reducible repeat (first | refine blk_drewN ?_ _ | refine blk_drew ?_ | refine blk_alloc ?_ _)); exact BK152.out⟩, ⟨by repeat (first | (with_reducible first | exact HB.out | apply below_alloc | apply pw_below_drewN | apply below_drew1 | refine below_set ?_ GE147.out | refine below_set ?_ GE152.out) | exact HB.out)⟩⟩
  case rest =>
    clear HC8
    try clear c1
    try clear p2
    try clear c7
    try clear c9
    try clear c12
    try clear c14
    try clear c16
    try clear hcz11_0
    try clear hcz11_1
    try clear hcz15_0
    try clear hcz15_1
    try clear hfz11_0
    try clear hfz11_1
    try clear hfz15_0
    try clear hfz15_1
    obtain ⟨kq, x31_7, rfl, HA, HJ7, BK147, BK152, HB⟩ := hcut
    cases kq with
    | zero => exact absurd HA.out (by simp [fourinhandlaw16_VegasBounds.j0])
    | succ kj7 =>
      have H := HA.out
      clear HA
      simp only [fourinhandlaw16_VegasBounds.j0] at H
      by_cases c17 : x31_7 = true
      · subst c17
        have H1 : (if t148 = true then (some (t149 == 0 && (t150 == 0))) else (some false)) = some r := by rw [if_pos rfl] at H; exact H
        clear H
        have H := H1
        clear H1
        by_cases c18 : t148 = true
        · subst c18
          have H1 : (some (t149 == 0 && (t150 == 0))) = some r := by rw [if_pos rfl] at H; exact H
          clear H
          have H := H1
          clear H1
          obtain rfl := Option.some.inj H
          have hnb19 := NB152_147.out
          have hnc19 := NB147_152.out
          have hcz20_0 : wc.cell? ⟨gb152, 0, none⟩ = some (.int .i64 t149) := (blk_cell BK152.out 0).trans rfl
          have hcz20_1 : wc.cell? ⟨gb152, 1, none⟩ = some (.int .i64 t150) := (blk_cell BK152.out 1).trans rfl
          have hfz20_0 := blk_frozen BK152.out 0
          have hfz20_1 := blk_frozen BK152.out 1
          go_wp2
          go_ret
          exact ⟨by first | rfl | (simp [errW_none, errW_some] <;> rfl) | (simp [*, errW_none, errW_some] <;> rfl), by repeat (first | (with_reducible first | exact HB.out | apply below_alloc | apply pw_below_drewN | apply below_drew1 | refine below_set ?_ GE147.out | refine below_set ?_ GE152.out) | exact HB.out)⟩
        · replace c18 := Bool.eq_false_iff.mpr c18
          subst c18
          have H1 : (some false) = some r := by rw [if_neg (show ¬ (false = true) by decide)] at H; exact H
          clear H
          have H := H1
          clear H1
          exact Bool.noConfusion ((Option.some.inj H).trans hr_.out)
      · replace c17 := Bool.eq_false_iff.mpr c17
        subst c17
        have H1 : ((xmp_May.f t149 t150 a3 a4).bind fun t153 => (if t153 = true then (if (wrap64 (t149 - a0_0)) > a3 then (fourinhandlaw16_VegasBounds.j1 kj7 a1 a2 (wrap64 (t149 - a0_0)) true a0_0 a0_1 t149 t150) else (if (wrap64 (t149 - a0_0)) < (wrap64 (-a3)) then (fourinhandlaw16_VegasBounds.j1 kj7 a1 a2 (wrap64 (t149 - a0_0)) true a0_0 a0_1 t149 t150) else (if (wrap64 (t149 - a0_0)) > 0 then (if a1 ≥ a2 then (fourinhandlaw16_VegasBounds.j1 kj7 a1 a2 (wrap64 (t149 - a0_0)) true a0_0 a0_1 t149 t150) else (if (wrap64 (t149 - a0_0)) < 0 then (fourinhandlaw16_VegasBounds.j1 kj7 a1 a2 (wrap64 (t149 - a0_0)) (decide (a1 ≤ a2)) a0_0 a0_1 t149 t150) else (fourinhandlaw16_VegasBounds.j1 kj7 a1 a2 (wrap64 (t149 - a0_0)) false a0_0 a0_1 t149 t150))) else (if (wrap64 (t149 - a0_0)) < 0 then (fourinhandlaw16_VegasBounds.j1 kj7 a1 a2 (wrap64 (t149 - a0_0)) (decide (a1 ≤ a2)) a0_0 a0_1 t149 t150) else (fourinhandlaw16_VegasBounds.j1 kj7 a1 a2 (wrap64 (t149 - a0_0)) false a0_0 a0_1 t149 t150))))) else (fourinhandlaw16_VegasBounds.j1 kj7 a1 a2 (wrap64 (t149 - a0_0)) true a0_0 a0_1 t149 t150))) = some r := by rw [if_neg (show ¬ (false = true) by decide)] at H; exact H
        clear H
        have H := H1
        clear H1
        have HC21 := Aside0.mk H
        clear H
        have hnb22 := NB152_147.out
        have hnc22 := NB147_152.out
        have hcz23_0 : wc.cell? ⟨gb152, 0, none⟩ = some (.int .i64 t149) := (blk_cell BK152.out 0).trans rfl
        have hcz23_1 : wc.cell? ⟨gb152, 1, none⟩ = some (.int .i64 t150) := (blk_cell BK152.out 1).trans rfl
        have hfz23_0 := blk_frozen BK152.out 0
        have hfz23_1 := blk_frozen BK152.out 1
        have hcz24_0 : wc.cell? ⟨gb147, 0, none⟩ = some (.int .i64 a0_0) := (blk_cell BK147.out 0).trans rfl
        have hcz24_1 : wc.cell? ⟨gb147, 1, none⟩ = some (.int .i64 a0_1) := (blk_cell BK147.out 1).trans rfl
        have hfz24_0 := blk_frozen BK147.out 0
        have hfz24_1 := blk_frozen BK147.out 1
        go_upto_region 6 with (fail)
        go_cut [76] (fun v76 wc => ∃ (kq : Nat) (x76_20 : Bool), v76 = .bool x76_20 ∧ Aside0 (fourinhandlaw16_VegasBounds.j1 kq a1 a2 (wrap64 (t149 - a0_0)) x76_20 a0_0 a0_1 t149 t150 = some r) ∧ Aside0 (kq ≤ kj7) ∧ Aside0 (wc.heap[gb147]? = some (.cells #[.int .i64 a0_0, .int .i64 a0_1] 32 (0, 0))) ∧ Aside0 (wc.heap[gb152]? = some (.cells #[.int .i64 t149, .int .i64 t150] 32 (0, 0))) ∧ Aside0 (Below w.heap.size w wc))
        case first =>
          have H := HC21.out
          clear HC21
          replace H := Option.bind_eq_some_iff.mp H
          obtain ⟨t153, A250, H⟩ := H
          replace H : (if t153 = true then (if (wrap64 (t149 - a0_0)) > a3 then (fourinhandlaw16_VegasBounds.j1 kj7 a1 a2 (wrap64 (t149 - a0_0)) true a0_0 a0_1 t149 t150) else (if (wrap64 (t149 - a0_0)) < (wrap64 (-a3)) then (fourinhandlaw16_VegasBounds.j1 kj7 a1 a2 (wrap64 (t149 - a0_0)) true a0_0 a0_1 t149 t150) else (if (wrap64 (t149 - a0_0)) > 0 then (if a1 ≥ a2 then (fourinhandlaw16_VegasBounds.j1 kj7 a1 a2 (wrap64 (t149 - a0_0)) true a0_0 a0_1 t149 t150) else (if (wrap64 (t149 - a0_0)) < 0 then (fourinhandlaw16_VegasBounds.j1 kj7 a1 a2 (wrap64 (t149 - a0_0)) (decide (a1 ≤ a2)) a0_0 a0_1 t149 t150) else (fourinhandlaw16_VegasBounds.j1 kj7 a1 a2 (wrap64 (t149 - a0_0)) false a0_0 a0_1 t149 t150))) else (if (wrap64 (t149 - a0_0)) < 0 then (fourinhandlaw16_VegasBounds.j1 kj7 a1 a2 (wrap64 (t149 - a0_0)) (decide (a1 ≤ a2)) a0_0 a0_1 t149 t150) else (fourinhandlaw16_VegasBounds.j1 kj7 a1 a2 (wrap64 (t149 - a0_0)) false a0_0 a0_1 t149 t150))))) else (fourinhandlaw16_VegasBounds.j1 kj7 a1 a2 (wrap64 (t149 - a0_0)) true a0_0 a0_1 t149 t150)) = some r := H
          have A25 := Aside0.mk A250
          clear A250
          by_cases c26 : t153 = true
          · subst c26
            have H1 : (if (wrap64 (t149 - a0_0)) > a3 then (fourinhandlaw16_VegasBounds.j1 kj7 a1 a2 (wrap64 (t149 - a0_0)) true a0_0 a0_1 t149 t150) else (if (wrap64 (t149 - a0_0)) < (wrap64 (-a3)) then (fourinhandlaw16_VegasBounds.j1 kj7 a1 a2 (wrap64 (t149 - a0_0)) true a0_0 a0_1 t149 t150) else (if (wrap64 (t149 - a0_0)) > 0 then (if a1 ≥ a2 then (fourinhandlaw16_VegasBounds.j1 kj7 a1 a2 (wrap64 (t149 - a0_0)) true a0_0 a0_1 t149 t150) else (if (wrap64 (t149 - a0_0)) < 0 then (fourinhandlaw16_VegasBounds.j1 kj7 a1 a2 (wrap64 (t149 - a0_0)) (decide (a1 ≤ a2)) a0_0 a0_1 t149 t150) else (fourinhandlaw16_VegasBounds.j1 kj7 a1 a2 (wrap64 (t149 - a0_0)) false a0_0 a0_1 t149 t150))) else (if (wrap64 (t149 - a0_0)) < 0 then (fourinhandlaw16_VegasBounds.j1 kj7 a1 a2 (wrap64 (t149 - a0_0)) (decide (a1 ≤ a2)) a0_0 a0_1 t149 t150) else (fourinhandlaw16_VegasBounds.j1 kj7 a1 a2 (wrap64 (t149 - a0_0)) false a0_0 a0_1 t149 t150))))) = some r := by rw [if_pos rfl] at H; exact H
            clear H
            have H := H1
            clear H1
            by_cases c27 : (wrap64 (t149 - a0_0)) > a3
            · rw [if_pos c27] at H
              have c27b0 : decide (a3 < (wrap64 (t149 - a0_0))) = true := decide_eq_true c27
              clear c27
              (first | rw [c27b0] | (simp only [i64_w, i32_w]; rw [c27b0]) | skip)
              have H' := Aside0.mk H
              clear H
              have hnb28 := NB152_147.out
              have hnc28 := NB147_152.out
              have hcz29_0 : wc.cell? ⟨gb152, 0, none⟩ = some (.int .i64 t149) := (blk_cell BK152.out 0).trans rfl
              have hcz29_1 : wc.cell? ⟨gb152, 1, none⟩ = some (.int .i64 t150) := (blk_cell BK152.out 1).trans rfl
              have hfz29_0 := blk_frozen BK152.out 0
              have hfz29_1 := blk_frozen BK152.out 1
              go_wp2_with (first | ((with_reducible refine gate_callee (f := 18) rfl ?_); refine goesL_ (some 46) rfl rfl Try.func18 (by kernel_rfl) rfl #[.agg #[.int .i64 t149, .int .i64 t150], .int .i64 a3, .int .i64 a4] rfl (by (try simp only [List.map_toArray, List.map_cons, List.map_nil]); first | done | rfl | (simp only [List.length_drop, List.length_take]; rfl)) ?_; (with_reducible refine (xmp_May.calls t149 t150 a3 a4 true _ A25.out).mono ?_); rintro e w30 ⟨rfl, hb⟩; refine ⟨_, rfl, ?_⟩; have n0_ := Aside0.mk (blk_below (g := gb147) (o := .cells #[.int .i64 a0_0, .int .i64 a0_1] 32 (0, 0)) (by (with_reducible repeat (first | refine blk_drewN ?_ _ | refine blk_drew ?_ | refine blk_alloc ?_ _)); exact BK147.out) hb); have n1_ := Aside0.mk (blk_below (g := gb152) (o := .cells #[.int .i64 t149, .int .i64 t150] 32 (0, 0)) (by (with_reducible repeat (first | refine blk_drewN ?_ _ | refine blk_drew ?_ | refine blk_alloc ?_ _)); exact BK152.out) hb); have n2_ := Aside0.mk (below_step (by repeat (first | (with_reducible first | exact HB.out | apply below_alloc | apply pw_below_drewN | apply below_drew1 | refine below_set ?_ GE147.out | refine below_set ?_ GE152.out) | exact HB.out)) hb); clear BK147; clear BK152; clear HB; have BK147 := n0_; have BK152 := n1_; have HB := n2_; clear n0_ n1_ n2_; (try clear hb); (try clear hb2); (try clear hk); (try clear hi)))
              go_meet
              case rel => exact ⟨_, (true), (by first | rfl | (simp; done) | (simp [*]; done)), H', ⟨by have := HJ7.out; first | omega | exact Nat.le_refl _⟩, ⟨by (with_reducible repeat (first | refine blk_drewN ?_ _ | refine blk_drew ?_ | refine blk_alloc ?_ _)); exact BK147.out⟩, ⟨by (with_reducible repeat (first | refine blk_drewN ?_ _ | refine blk_drew ?_ | refine blk_alloc ?_ _)); exact BK152.out⟩, ⟨by repeat (first | (with_reducible first | exact HB.out | apply below_alloc | apply pw_below_drewN | apply below_drew1 | refine below_set ?_ GE147.out | refine below_set ?_ GE152.out) | exact HB.out)⟩⟩
            · rw [if_neg c27] at H
              have c27b0 : decide (a3 < (wrap64 (t149 - a0_0))) = false := decide_eq_false c27
              clear c27
              (first | rw [c27b0] | (simp only [i64_w, i32_w]; rw [c27b0]) | skip)
              by_cases c31 : (wrap64 (t149 - a0_0)) < (wrap64 (-a3))
              · rw [if_pos c31] at H
                have c31b0 : decide ((wrap64 (t149 - a0_0)) < (wrap64 (-a3))) = true := decide_eq_true c31
                clear c31
                have H' := Aside0.mk H
                clear H
                have hnb32 := NB152_147.out
                have hnc32 := NB147_152.out
                have hcz33_0 : wc.cell? ⟨gb152, 0, none⟩ = some (.int .i64 t149) := (blk_cell BK152.out 0).trans rfl
                have hcz33_1 : wc.cell? ⟨gb152, 1, none⟩ = some (.int .i64 t150) := (blk_cell BK152.out 1).trans rfl
                have hfz33_0 := blk_frozen BK152.out 0
                have hfz33_1 := blk_frozen BK152.out 1
                go_wp2_with (first | ((with_reducible refine gate_callee (f := 18) rfl ?_); refine goesL_ (some 46) rfl rfl Try.func18 (by kernel_rfl) rfl #[.agg #[.int .i64 t149, .int .i64 t150], .int .i64 a3, .int .i64 a4] rfl (by (try simp only [List.map_toArray, List.map_cons, List.map_nil]); first | done | rfl | (simp only [List.length_drop, List.length_take]; rfl)) ?_; (with_reducible refine (xmp_May.calls t149 t150 a3 a4 true _ A25.out).mono ?_); rintro e w34 ⟨rfl, hb⟩; refine ⟨_, rfl, ?_⟩; have n0_ := Aside0.mk (blk_below (g := gb147) (o := .cells #[.int .i64 a0_0, .int .i64 a0_1] 32 (0, 0)) (by (with_reducible repeat (first | refine blk_drewN ?_ _ | refine blk_drew ?_ | refine blk_alloc ?_ _)); exact BK147.out) hb); have n1_ := Aside0.mk (blk_below (g := gb152) (o := .cells #[.int .i64 t149, .int .i64 t150] 32 (0, 0)) (by (with_reducible repeat (first | refine blk_drewN ?_ _ | refine blk_drew ?_ | refine blk_alloc ?_ _)); exact BK152.out) hb); have n2_ := Aside0.mk (below_step (by repeat (first | (with_reducible first | exact HB.out | apply below_alloc | apply pw_below_drewN | apply below_drew1 | refine below_set ?_ GE147.out | refine below_set ?_ GE152.out) | exact HB.out)) hb); clear BK147; clear BK152; clear HB; have BK147 := n0_; have BK152 := n1_; have HB := n2_; clear n0_ n1_ n2_; (try clear hb); (try clear hb2); (try clear hk); (try clear hi)))
                go_meet
                case rel => exact ⟨_, (true), (by first | rfl | (simp; done) | (simp [*]; done)), H', ⟨by have := HJ7.out; first | omega | exact Nat.le_refl _⟩, ⟨by (with_reducible repeat (first | refine blk_drewN ?_ _ | refine blk_drew ?_ | refine blk_alloc ?_ _)); exact BK147.out⟩, ⟨by (with_reducible repeat (first | refine blk_drewN ?_ _ | refine blk_drew ?_ | refine blk_alloc ?_ _)); exact BK152.out⟩, ⟨by repeat (first | (with_reducible first | exact HB.out | apply below_alloc | apply pw_below_drewN | apply below_drew1 | refine below_set ?_ GE147.out | refine below_set ?_ GE152.out) | exact HB.out)⟩⟩
              · rw [if_neg c31] at H
                have c31b0 : decide ((wrap64 (t149 - a0_0)) < (wrap64 (-a3))) = false := decide_eq_false c31
                clear c31
                by_cases c35 : (wrap64 (t149 - a0_0)) > 0
                · rw [if_pos c35] at H
                  have c35b0 : decide (0 < (wrap64 (t149 - a0_0))) = true := decide_eq_true c35
                  clear c35
                  by_cases c36 : a1 ≥ a2
                  · rw [if_pos c36] at H
                    have c36b0 : decide (a2 ≤ a1) = true := decide_eq_true c36
                    clear c36
                    have H' := Aside0.mk H
                    clear H
                    have hnb37 := NB152_147.out
                    have hnc37 := NB147_152.out
                    have hcz38_0 : wc.cell? ⟨gb152, 0, none⟩ = some (.int .i64 t149) := (blk_cell BK152.out 0).trans rfl
                    have hcz38_1 : wc.cell? ⟨gb152, 1, none⟩ = some (.int .i64 t150) := (blk_cell BK152.out 1).trans rfl
                    have hfz38_0 := blk_frozen BK152.out 0
                    have hfz38_1 := blk_frozen BK152.out 1
                    go_wp2_with (first | ((with_reducible refine gate_callee (f := 18) rfl ?_); refine goesL_ (some 46) rfl rfl Try.func18 (by kernel_rfl) rfl #[.agg #[.int .i64 t149, .int .i64 t150], .int .i64 a3, .int .i64 a4] rfl (by (try simp only [List.map_toArray, List.map_cons, List.map_nil]); first | done | rfl | (simp only [List.length_drop, List.length_take]; rfl)) ?_; (with_reducible refine (xmp_May.calls t149 t150 a3 a4 true _ A25.out).mono ?_); rintro e w39 ⟨rfl, hb⟩; refine ⟨_, rfl, ?_⟩; have n0_ := Aside0.mk (blk_below (g := gb147) (o := .cells #[.int .i64 a0_0, .int .i64 a0_1] 32 (0, 0)) (by (with_reducible repeat (first | refine blk_drewN ?_ _ | refine blk_drew ?_ | refine blk_alloc ?_ _)); exact BK147.out) hb); have n1_ := Aside0.mk (blk_below (g := gb152) (o := .cells #[.int .i64 t149, .int .i64 t150] 32 (0, 0)) (by (with_reducible repeat (first | refine blk_drewN ?_ _ | refine blk_drew ?_ | refine blk_alloc ?_ _)); exact BK152.out) hb); have n2_ := Aside0.mk (below_step (by repeat (first | (with_reducible first | exact HB.out | apply below_alloc | apply pw_below_drewN | apply below_drew1 | refine below_set ?_ GE147.out | refine below_set ?_ GE152.out) | exact HB.out)) hb); clear BK147; clear BK152; clear HB; have BK147 := n0_; have BK152 := n1_; have HB := n2_; clear n0_ n1_ n2_; (try clear hb); (try clear hb2); (try clear hk); (try clear hi)))
                    go_meet
                    case rel => exact ⟨_, (true), (by first | rfl | (simp; done) | (simp [*]; done)), H', ⟨by have := HJ7.out; first | omega | exact Nat.le_refl _⟩, ⟨by (with_reducible repeat (first | refine blk_drewN ?_ _ | refine blk_drew ?_ | refine blk_alloc ?_ _)); exact BK147.out⟩, ⟨by (with_reducible repeat (first | refine blk_drewN ?_ _ | refine blk_drew ?_ | refine blk_alloc ?_ _)); exact BK152.out⟩, ⟨by repeat (first | (with_reducible first | exact HB.out | apply below_alloc | apply pw_below_drewN | apply below_drew1 | refine below_set ?_ GE147.out | refine below_set ?_ GE152.out) | exact HB.out)⟩⟩
                  · rw [if_neg c36] at H
                    have c36b0 : decide (a2 ≤ a1) = false := decide_eq_false c36
                    clear c36
                    by_cases c40 : (wrap64 (t149 - a0_0)) < 0
                    · rw [if_pos c40] at H
                      have c40b0 : decide ((wrap64 (t149 - a0_0)) < 0) = true := decide_eq_true c40
                      clear c40
                      have H' := Aside0.mk H
                      clear H
                      have hnb41 := NB152_147.out
                      have hnc41 := NB147_152.out
                      have hcz42_0 : wc.cell? ⟨gb152, 0, none⟩ = some (.int .i64 t149) := (blk_cell BK152.out 0).trans rfl
                      have hcz42_1 : wc.cell? ⟨gb152, 1, none⟩ = some (.int .i64 t150) := (blk_cell BK152.out 1).trans rfl
                      have hfz42_0 := blk_frozen BK152.out 0
                      have hfz42_1 := blk_frozen BK152.out 1
                      go_wp2_with (first | ((with_reducible refine gate_callee (f := 18) rfl ?_); refine goesL_ (some 46) rfl rfl Try.func18 (by kernel_rfl) rfl #[.agg #[.int .i64 t149, .int .i64 t150], .int .i64 a3, .int .i64 a4] rfl (by (try simp only [List.map_toArray, List.map_cons, List.map_nil]); first | done | rfl | (simp only [List.length_drop, List.length_take]; rfl)) ?_; (with_reducible refine (xmp_May.calls t149 t150 a3 a4 true _ A25.out).mono ?_); rintro e w43 ⟨rfl, hb⟩; refine ⟨_, rfl, ?_⟩; have n0_ := Aside0.mk (blk_below (g := gb147) (o := .cells #[.int .i64 a0_0, .int .i64 a0_1] 32 (0, 0)) (by (with_reducible repeat (first | refine blk_drewN ?_ _ | refine blk_drew ?_ | refine blk_alloc ?_ _)); exact BK147.out) hb); have n1_ := Aside0.mk (blk_below (g := gb152) (o := .cells #[.int .i64 t149, .int .i64 t150] 32 (0, 0)) (by (with_reducible repeat (first | refine blk_drewN ?_ _ | refine blk_drew ?_ | refine blk_alloc ?_ _)); exact BK152.out) hb); have n2_ := Aside0.mk (below_step (by repeat (first | (with_reducible first | exact HB.out | apply below_alloc | apply pw_below_drewN | apply below_drew1 | refine below_set ?_ GE147.out | refine below_set ?_ GE152.out) | exact HB.out)) hb); clear BK147; clear BK152; clear HB; have BK147 := n0_; have BK152 := n1_; have HB := n2_; clear n0_ n1_ n2_; (try clear hb); (try clear hb2); (try clear hk); (try clear hi)))
                      go_meet
                      case rel => exact ⟨_, (decide (a1 ≤ a2)), (by first | rfl | (simp; done) | (simp [*]; done)), H', ⟨by have := HJ7.out; first | omega | exact Nat.le_refl _⟩, ⟨by (with_reducible repeat (first | refine blk_drewN ?_ _ | refine blk_drew ?_ | refine blk_alloc ?_ _)); exact BK147.out⟩, ⟨by (with_reducible repeat (first | refine blk_drewN ?_ _ | refine blk_drew ?_ | refine blk_alloc ?_ _)); exact BK152.out⟩, ⟨by repeat (first | (with_reducible first | exact HB.out | apply below_alloc | apply pw_below_drewN | apply below_drew1 | refine below_set ?_ GE147.out | refine below_set ?_ GE152.out) | exact HB.out)⟩⟩
                    · rw [if_neg c40] at H
                      have c40b0 : decide ((wrap64 (t149 - a0_0)) < 0) = false := decide_eq_false c40
                      clear c40
                      have H' := Aside0.mk H
                      clear H
                      have hnb44 := NB152_147.out
                      have hnc44 := NB147_152.out
                      have hcz45_0 : wc.cell? ⟨gb152, 0, none⟩ = some (.int .i64 t149) := (blk_cell BK152.out 0).trans rfl
                      have hcz45_1 : wc.cell? ⟨gb152, 1, none⟩ = some (.int .i64 t150) := (blk_cell BK152.out 1).trans rfl
                      have hfz45_0 := blk_frozen BK152.out 0
                      have hfz45_1 := blk_frozen BK152.out 1
                      go_wp2_with (first | ((with_reducible refine gate_callee (f := 18) rfl ?_); refine goesL_ (some 46) rfl rfl Try.func18 (by kernel_rfl) rfl #[.agg #[.int .i64 t149, .int .i64 t150], .int .i64 a3, .int .i64 a4] rfl (by (try simp only [List.map_toArray, List.map_cons, List.map_nil]); first | done | rfl | (simp only [List.length_drop, List.length_take]; rfl)) ?_; (with_reducible refine (xmp_May.calls t149 t150 a3 a4 true _ A25.out).mono ?_); rintro e w46 ⟨rfl, hb⟩; refine ⟨_, rfl, ?_⟩; have n0_ := Aside0.mk (blk_below (g := gb147) (o := .cells #[.int .i64 a0_0, .int .i64 a0_1] 32 (0, 0)) (by (with_reducible repeat (first | refine blk_drewN ?_ _ | refine blk_drew ?_ | refine blk_alloc ?_ _)); exact BK147.out) hb); have n1_ := Aside0.mk (blk_below (g := gb152) (o := .cells #[.int .i64 t149, .int .i64 t150] 32 (0, 0)) (by (with_reducible repeat (first | refine blk_drewN ?_ _ | refine blk_drew ?_ | refine blk_alloc ?_ _)); exact BK152.out) hb); have n2_ := Aside0.mk (below_step (by repeat (first | (with_reducible first | exact HB.out | apply below_alloc | apply pw_below_drewN | apply below_drew1 | refine below_set ?_ GE147.out | refine below_set ?_ GE152.out) | exact HB.out)) hb); clear BK147; clear BK152; clear HB; have BK147 := n0_; have BK152 := n1_; have HB := n2_; clear n0_ n1_ n2_; (try clear hb); (try clear hb2); (try clear hk); (try clear hi)))
                      go_meet
                      case rel => exact ⟨_, (false), (by first | rfl | (simp; done) | (simp [*]; done)), H', ⟨by have := HJ7.out; first | omega | exact Nat.le_refl _⟩, ⟨by (with_reducible repeat (first | refine blk_drewN ?_ _ | refine blk_drew ?_ | refine blk_alloc ?_ _)); exact BK147.out⟩, ⟨by (with_reducible repeat (first | refine blk_drewN ?_ _ | refine blk_drew ?_ | refine blk_alloc ?_ _)); exact BK152.out⟩, ⟨by repeat (first | (with_reducible first | exact HB.out | apply below_alloc | apply pw_below_drewN | apply below_drew1 | refine below_set ?_ GE147.out | refine below_set ?_ GE152.out) | exact HB.out)⟩⟩
                · rw [if_neg c35] at H
                  have c35b0 : decide (0 < (wrap64 (t149 - a0_0))) = false := decide_eq_false c35
                  clear c35
                  by_cases c47 : (wrap64 (t149 - a0_0)) < 0
                  · rw [if_pos c47] at H
                    have c47b0 : decide ((wrap64 (t149 - a0_0)) < 0) = true := decide_eq_true c47
                    clear c47
                    have H' := Aside0.mk H
                    clear H
                    have hnb48 := NB152_147.out
                    have hnc48 := NB147_152.out
                    have hcz49_0 : wc.cell? ⟨gb152, 0, none⟩ = some (.int .i64 t149) := (blk_cell BK152.out 0).trans rfl
                    have hcz49_1 : wc.cell? ⟨gb152, 1, none⟩ = some (.int .i64 t150) := (blk_cell BK152.out 1).trans rfl
                    have hfz49_0 := blk_frozen BK152.out 0
                    have hfz49_1 := blk_frozen BK152.out 1
                    go_wp2_with (first | ((with_reducible refine gate_callee (f := 18) rfl ?_); refine goesL_ (some 46) rfl rfl Try.func18 (by kernel_rfl) rfl #[.agg #[.int .i64 t149, .int .i64 t150], .int .i64 a3, .int .i64 a4] rfl (by (try simp only [List.map_toArray, List.map_cons, List.map_nil]); first | done | rfl | (simp only [List.length_drop, List.length_take]; rfl)) ?_; (with_reducible refine (xmp_May.calls t149 t150 a3 a4 true _ A25.out).mono ?_); rintro e w50 ⟨rfl, hb⟩; refine ⟨_, rfl, ?_⟩; have n0_ := Aside0.mk (blk_below (g := gb147) (o := .cells #[.int .i64 a0_0, .int .i64 a0_1] 32 (0, 0)) (by (with_reducible repeat (first | refine blk_drewN ?_ _ | refine blk_drew ?_ | refine blk_alloc ?_ _)); exact BK147.out) hb); have n1_ := Aside0.mk (blk_below (g := gb152) (o := .cells #[.int .i64 t149, .int .i64 t150] 32 (0, 0)) (by (with_reducible repeat (first | refine blk_drewN ?_ _ | refine blk_drew ?_ | refine blk_alloc ?_ _)); exact BK152.out) hb); have n2_ := Aside0.mk (below_step (by repeat (first | (with_reducible first | exact HB.out | apply below_alloc | apply pw_below_drewN | apply below_drew1 | refine below_set ?_ GE147.out | refine below_set ?_ GE152.out) | exact HB.out)) hb); clear BK147; clear BK152; clear HB; have BK147 := n0_; have BK152 := n1_; have HB := n2_; clear n0_ n1_ n2_; (try clear hb); (try clear hb2); (try clear hk); (try clear hi)))
                    go_meet
                    case rel => exact ⟨_, (decide (a1 ≤ a2)), (by first | rfl | (simp; done) | (simp [*]; done)), H', ⟨by have := HJ7.out; first | omega | exact Nat.le_refl _⟩, ⟨by (with_reducible repeat (first | refine blk_drewN ?_ _ | refine blk_drew ?_ | refine blk_alloc ?_ _)); exact BK147.out⟩, ⟨by (with_reducible repeat (first | refine blk_drewN ?_ _ | refine blk_drew ?_ | refine blk_alloc ?_ _)); exact BK152.out⟩, ⟨by repeat (first | (with_reducible first | exact HB.out | apply below_alloc | apply pw_below_drewN | apply below_drew1 | refine below_set ?_ GE147.out | refine below_set ?_ GE152.out) | exact HB.out)⟩⟩
                  · rw [if_neg c47] at H
                    have c47b0 : decide ((wrap64 (t149 - a0_0)) < 0) = false := decide_eq_false c47
                    clear c47
                    have H' := Aside0.mk H
                    clear H
                    have hnb51 := NB152_147.out
                    have hnc51 := NB147_152.out
                    have hcz52_0 : wc.cell? ⟨gb152, 0, none⟩ = some (.int .i64 t149) := (blk_cell BK152.out 0).trans rfl
                    have hcz52_1 : wc.cell? ⟨gb152, 1, none⟩ = some (.int .i64 t150) := (blk_cell BK152.out 1).trans rfl
                    have hfz52_0 := blk_frozen BK152.out 0
                    have hfz52_1 := blk_frozen BK152.out 1
                    go_wp2_with (first | ((with_reducible refine gate_callee (f := 18) rfl ?_); refine goesL_ (some 46) rfl rfl Try.func18 (by kernel_rfl) rfl #[.agg #[.int .i64 t149, .int .i64 t150], .int .i64 a3, .int .i64 a4] rfl (by (try simp only [List.map_toArray, List.map_cons, List.map_nil]); first | done | rfl | (simp only [List.length_drop, List.length_take]; rfl)) ?_; (with_reducible refine (xmp_May.calls t149 t150 a3 a4 true _ A25.out).mono ?_); rintro e w53 ⟨rfl, hb⟩; refine ⟨_, rfl, ?_⟩; have n0_ := Aside0.mk (blk_below (g := gb147) (o := .cells #[.int .i64 a0_0, .int .i64 a0_1] 32 (0, 0)) (by (with_reducible repeat (first | refine blk_drewN ?_ _ | refine blk_drew ?_ | refine blk_alloc ?_ _)); exact BK147.out) hb); have n1_ := Aside0.mk (blk_below (g := gb152) (o := .cells #[.int .i64 t149, .int .i64 t150] 32 (0, 0)) (by (with_reducible repeat (first | refine blk_drewN ?_ _ | refine blk_drew ?_ | refine blk_alloc ?_ _)); exact BK152.out) hb); have n2_ := Aside0.mk (below_step (by repeat (first | (with_reducible first | exact HB.out | apply below_alloc | apply pw_below_drewN | apply below_drew1 | refine below_set ?_ GE147.out | refine below_set ?_ GE152.out) | exact HB.out)) hb); clear BK147; clear BK152; clear HB; have BK147 := n0_; have BK152 := n1_; have HB := n2_; clear n0_ n1_ n2_; (try clear hb); (try clear hb2); (try clear hk); (try clear hi)))
                    go_meet
                    case rel => exact ⟨_, (false), (by first | rfl | (simp; done) | (simp [*]; done)), H', ⟨by have := HJ7.out; first | omega | exact Nat.le_refl _⟩, ⟨by (with_reducible repeat (first | refine blk_drewN ?_ _ | refine blk_drew ?_ | refine blk_alloc ?_ _)); exact BK147.out⟩, ⟨by (with_reducible repeat (first | refine blk_drewN ?_ _ | refine blk_drew ?_ | refine blk_alloc ?_ _)); exact BK152.out⟩, ⟨by repeat (first | (with_reducible first | exact HB.out | apply below_alloc | apply pw_below_drewN | apply below_drew1 | refine below_set ?_ GE147.out | refine below_set ?_ GE152.out) | exact HB.out)⟩⟩
          · replace c26 := Bool.eq_false_iff.mpr c26
            subst c26
            have H1 : (fourinhandlaw16_VegasBounds.j1 kj7 a1 a2 (wrap64 (t149 - a0_0)) true a0_0 a0_1 t149 t150) = some r := by rw [if_neg (show ¬ (false = true) by decide)] at H; exact H
            clear H
            have H := H1
            clear H1
            have H' := Aside0.mk H
            clear H
            have hnb54 := NB152_147.out
            have hnc54 := NB147_152.out
            have hcz55_0 : wc.cell? ⟨gb152, 0, none⟩ = some (.int .i64 t149) := (blk_cell BK152.out 0).trans rfl
            have hcz55_1 : wc.cell? ⟨gb152, 1, none⟩ = some (.int .i64 t150) := (blk_cell BK152.out 1).trans rfl
            have hfz55_0 := blk_frozen BK152.out 0
            have hfz55_1 := blk_frozen BK152.out 1
            go_wp2_with (first | ((with_reducible refine gate_callee (f := 18) rfl ?_); refine goesL_ (some 46) rfl rfl Try.func18 (by kernel_rfl) rfl #[.agg #[.int .i64 t149, .int .i64 t150], .int .i64 a3, .int .i64 a4] rfl (by (try simp only [List.map_toArray, List.map_cons, List.map_nil]); first | done | rfl | (simp only [List.length_drop, List.length_take]; rfl)) ?_; (with_reducible refine (xmp_May.calls t149 t150 a3 a4 false _ A25.out).mono ?_); rintro e w56 ⟨rfl, hb⟩; refine ⟨_, rfl, ?_⟩; have n0_ := Aside0.mk (blk_below (g := gb147) (o := .cells #[.int .i64 a0_0, .int .i64 a0_1] 32 (0, 0)) (by (with_reducible repeat (first | refine blk_drewN ?_ _ | refine blk_drew ?_ | refine blk_alloc ?_ _)); exact BK147.out) hb); have n1_ := Aside0.mk (blk_below (g := gb152) (o := .cells #[.int .i64 t149, .int .i64 t150] 32 (0, 0)) (by (with_reducible repeat (first | refine blk_drewN ?_ _ | refine blk_drew ?_ | refine blk_alloc ?_ _)); exact BK152.out) hb); have n2_ := Aside0.mk (below_step (by repeat (first | (with_reducible first | exact HB.out | apply below_alloc | apply pw_below_drewN | apply below_drew1 | refine below_set ?_ GE147.out | refine below_set ?_ GE152.out) | exact HB.out)) hb); clear BK147; clear BK152; clear HB; have BK147 := n0_; have BK152 := n1_; have HB := n2_; clear n0_ n1_ n2_; (try clear hb); (try clear hb2); (try clear hk); (try clear hi)))
            go_meet
            case rel => exact ⟨_, (true), (by first | rfl | (simp; done) | (simp [*]; done)), H', ⟨by have := HJ7.out; first | omega | exact Nat.le_refl _⟩, ⟨by (with_reducible repeat (first | refine blk_drewN ?_ _ | refine blk_drew ?_ | refine blk_alloc ?_ _)); exact BK147.out⟩, ⟨by (with_reducible repeat (first | refine blk_drewN ?_ _ | refine blk_drew ?_ | refine blk_alloc ?_ _)); exact BK152.out⟩, ⟨by repeat (first | (with_reducible first | exact HB.out | apply below_alloc | apply pw_below_drewN | apply below_drew1 | refine below_set ?_ GE147.out | refine below_set ?_ GE152.out) | exact HB.out)⟩⟩
        case rest =>
          clear HC21
          try clear c1
          try clear c2
          try clear p2
          try clear c3
          try clear c4
          try clear c5
          try clear p6
          try clear c7
          try clear c9
          try clear c12
          try clear c14
          try clear c16
          try clear c17
          try clear c18
          try clear c19
          try clear c22
          try clear c26
          try clear c27
          try clear c27b0
          try clear c28
          try clear c31
          try clear c31b0
          try clear c32
          try clear c35
          try clear c35b0
          try clear c36
          try clear c36b0
          try clear c37
          try clear c40
          try clear c40b0
          try clear c41
          try clear c44
          try clear c47
          try clear c47b0
          try clear c48
          try clear c51
          try clear c54
          try clear hcz11_0
          try clear hcz11_1
          try clear hcz15_0
          try clear hcz15_1
          try clear hcz20_0
          try clear hcz20_1
          try clear hcz23_0
          try clear hcz23_1
          try clear hcz24_0
          try clear hcz24_1
          try clear hcz29_0
          try clear hcz29_1
          try clear hcz33_0
          try clear hcz33_1
          try clear hcz38_0
          try clear hcz38_1
          try clear hcz42_0
          try clear hcz42_1
          try clear hcz45_0
          try clear hcz45_1
          try clear hcz49_0
          try clear hcz49_1
          try clear hcz52_0
          try clear hcz52_1
          try clear hcz55_0
          try clear hcz55_1
          try clear hfz11_0
          try clear hfz11_1
          try clear hfz15_0
          try clear hfz15_1
          try clear hfz20_0
          try clear hfz20_1
          try clear hfz23_0
          try clear hfz23_1
          try clear hfz24_0
          try clear hfz24_1
          try clear hfz29_0
          try clear hfz29_1
          try clear hfz33_0
          try clear hfz33_1
          try clear hfz38_0
          try clear hfz38_1
          try clear hfz42_0
          try clear hfz42_1
          try clear hfz45_0
          try clear hfz45_1
          try clear hfz49_0
          try clear hfz49_1
          try clear hfz52_0
          try clear hfz52_1
          try clear hfz55_0
          try clear hfz55_1
          try clear p2
          obtain ⟨kq, x76_20, rfl, HA, HJ20, BK147, BK152, HB⟩ := hcut
          cases kq with
          | zero => exact absurd HA.out (by simp [fourinhandlaw16_VegasBounds.j1])
          | succ kj20 =>
            have H := HA.out
            clear HA
            simp only [fourinhandlaw16_VegasBounds.j1] at H
            by_cases c57 : x76_20 = true
            · subst c57
              have H1 : (some false) = some r := by rw [if_pos rfl] at H; exact H
              clear H
              have H := H1
              clear H1
              exact Bool.noConfusion ((Option.some.inj H).trans hr_.out)
            · replace c57 := Bool.eq_false_iff.mpr c57
              subst c57
              have H1 : (if a0_0 < a0_1 then (if (wrap64 (t149 - a0_0)) = 0 then (some ((t150 == a0_1) == (decide (a1 ≤ a2)))) else (some false)) else (if t150 = a0_1 then (if a1 = a2 then (some (t149 == a0_0 && (t150 == a0_1))) else (some true)) else (some false))) = some r := by rw [if_neg (show ¬ (false = true) by decide)] at H; exact H
              clear H
              have H := H1
              clear H1
              by_cases c58 : a0_0 < a0_1
              · rw [if_pos c58] at H
                have c58b0 : decide (a0_0 < a0_1) = true := decide_eq_true c58
                clear c58
                by_cases c59 : (wrap64 (t149 - a0_0)) = 0
                · rw [if_pos c59] at H
                  have c59b0 : ((wrap64 (t149 - a0_0)) == 0) = true := beq_iff_eq.mpr c59
                  have c59b1 : ((wrap64 (t149 - a0_0)) != 0) = false := bne_eq_false_iff_eq.mpr c59
                  clear c59
                  obtain rfl := Option.some.inj H
                  have hnb60 := NB147_152.out
                  have hnc60 := NB152_147.out
                  have hcz61_0 : wc.cell? ⟨gb147, 0, none⟩ = some (.int .i64 a0_0) := (blk_cell BK147.out 0).trans rfl
                  have hcz61_1 : wc.cell? ⟨gb147, 1, none⟩ = some (.int .i64 a0_1) := (blk_cell BK147.out 1).trans rfl
                  have hfz61_0 := blk_frozen BK147.out 0
                  have hfz61_1 := blk_frozen BK147.out 1
                  have hcz62_0 : wc.cell? ⟨gb152, 0, none⟩ = some (.int .i64 t149) := (blk_cell BK152.out 0).trans rfl
                  have hcz62_1 : wc.cell? ⟨gb152, 1, none⟩ = some (.int .i64 t150) := (blk_cell BK152.out 1).trans rfl
                  have hfz62_0 := blk_frozen BK152.out 0
                  have hfz62_1 := blk_frozen BK152.out 1
                  go_wp2
                  go_ret
                  exact ⟨by first | rfl | (simp [errW_none, errW_some] <;> rfl) | (simp [*, errW_none, errW_some] <;> rfl), by repeat (first | (with_reducible first | exact HB.out | apply below_alloc | apply pw_below_drewN | apply below_drew1 | refine below_set ?_ GE147.out | refine below_set ?_ GE152.out) | exact HB.out)⟩
                · rw [if_neg c59] at H
                  have c59b0 : ((wrap64 (t149 - a0_0)) == 0) = false := beq_eq_false_iff_ne.mpr c59
                  have c59b1 : ((wrap64 (t149 - a0_0)) != 0) = true := bne_iff_ne.mpr c59
                  exact Bool.noConfusion ((Option.some.inj H).trans hr_.out)
              · rw [if_neg c58] at H
                have c58b0 : decide (a0_0 < a0_1) = false := decide_eq_false c58
                clear c58
                by_cases c63 : t150 = a0_1
                · rw [if_pos c63] at H
                  have c63b0 : (t150 == a0_1) = true := beq_iff_eq.mpr c63
                  have c63b1 : (t150 != a0_1) = false := bne_eq_false_iff_eq.mpr c63
                  clear c63
                  by_cases c64 : a1 = a2
                  · rw [if_pos c64] at H
                    have c64b0 : (a1 == a2) = true := beq_iff_eq.mpr c64
                    have c64b1 : (a1 != a2) = false := bne_eq_false_iff_eq.mpr c64
                    clear c64
                    obtain rfl := Option.some.inj H
                    have hnb65 := NB147_152.out
                    have hnc65 := NB152_147.out
                    have hcz66_0 : wc.cell? ⟨gb147, 0, none⟩ = some (.int .i64 a0_0) := (blk_cell BK147.out 0).trans rfl
                    have hcz66_1 : wc.cell? ⟨gb147, 1, none⟩ = some (.int .i64 a0_1) := (blk_cell BK147.out 1).trans rfl
                    have hfz66_0 := blk_frozen BK147.out 0
                    have hfz66_1 := blk_frozen BK147.out 1
                    have hcz67_0 : wc.cell? ⟨gb152, 0, none⟩ = some (.int .i64 t149) := (blk_cell BK152.out 0).trans rfl
                    have hcz67_1 : wc.cell? ⟨gb152, 1, none⟩ = some (.int .i64 t150) := (blk_cell BK152.out 1).trans rfl
                    have hfz67_0 := blk_frozen BK152.out 0
                    have hfz67_1 := blk_frozen BK152.out 1
                    go_wp2
                    go_ret
                    exact ⟨by first | rfl | (simp [errW_none, errW_some] <;> rfl) | (simp [*, errW_none, errW_some] <;> rfl), by repeat (first | (with_reducible first | exact HB.out | apply below_alloc | apply pw_below_drewN | apply below_drew1 | refine below_set ?_ GE147.out | refine below_set ?_ GE152.out) | exact HB.out)⟩
                  · rw [if_neg c64] at H
                    have c64b0 : (a1 == a2) = false := beq_eq_false_iff_ne.mpr c64
                    have c64b1 : (a1 != a2) = true := bne_iff_ne.mpr c64
                    obtain rfl := Option.some.inj H
                    have hnb68 := NB147_152.out
                    have hnc68 := NB152_147.out
                    have hcz69_0 : wc.cell? ⟨gb147, 0, none⟩ = some (.int .i64 a0_0) := (blk_cell BK147.out 0).trans rfl
                    have hcz69_1 : wc.cell? ⟨gb147, 1, none⟩ = some (.int .i64 a0_1) := (blk_cell BK147.out 1).trans rfl
                    have hfz69_0 := blk_frozen BK147.out 0
                    have hfz69_1 := blk_frozen BK147.out 1
                    have hcz70_0 : wc.cell? ⟨gb152, 0, none⟩ = some (.int .i64 t149) := (blk_cell BK152.out 0).trans rfl
                    have hcz70_1 : wc.cell? ⟨gb152, 1, none⟩ = some (.int .i64 t150) := (blk_cell BK152.out 1).trans rfl
                    have hfz70_0 := blk_frozen BK152.out 0
                    have hfz70_1 := blk_frozen BK152.out 1
                    go_wp2
                    go_ret
                    exact ⟨by first | rfl | (simp [errW_none, errW_some] <;> rfl) | (simp [*, errW_none, errW_some] <;> rfl), by repeat (first | (with_reducible first | exact HB.out | apply below_alloc | apply pw_below_drewN | apply below_drew1 | refine below_set ?_ GE147.out | refine below_set ?_ GE152.out) | exact HB.out)⟩
                · rw [if_neg c63] at H
                  have c63b0 : (t150 == a0_1) = false := beq_eq_false_iff_ne.mpr c63
                  have c63b1 : (t150 != a0_1) = true := bne_iff_ne.mpr c63
                  exact Bool.noConfusion ((Option.some.inj H).trans hr_.out)

end Go.Proofs.Ytjmblmomeijddaa.PVegasBounds
