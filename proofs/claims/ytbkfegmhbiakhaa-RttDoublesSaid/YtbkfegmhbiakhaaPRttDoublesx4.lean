-- Written by a program of this session (wip/hprint.py), over the kit's print.py: the walk of one law. Lean checks it.
import Derived.Test.YtbkfegmhbiakhaaPRttDoublesx0
import Derived.Test.YtbkfegmhbiakhaaPRttDoublesx1
import Derived.Test.YtbkfegmhbiakhaaPRttDoublesx2
import Derived.Test.YtbkfegmhbiakhaaPRttDoublesx3
namespace Go.Proofs.Ytbkfegmhbiakhaa.PRttDoubles
open Go.RowKit Go.Proofs.YtbkfegmhbiakhaaW.PrintWords Go.Proofs.YtbkfegmhbiakhaaW.PrintLast Go.Proofs.YtbkfegmhbiakhaaW.PrintMore
attribute [local go_sem] max2_int min2_int max_two min_two max_three min_three max_four min_four   -- for this text's walks alone
set_option linter.unusedVariables false
set_option linter.unusedSimpArgs false

attribute [local go_sem high] eqA23
/-! ### rtt_Double: function 14 -/
def rtt_Double.f (k : Nat) (a0_0 : Bool) (a0_1 : Int) (a0_2 : Int) (a0_3 : Int) (a0_4 : Int) : Option (Bool × Int × Int × Int × Int × Int) := (rtt_May.f k a0_0 a0_1 a0_2 a0_3 a0_4).bind fun t149 => (if t149 = true then (some (a0_0, a0_1, a0_2, a0_3, mn (wrap64 (a0_4 + 1)) 16, 0)) else (some (false, 0, 0, 0, 0, 1)))
theorem rtt_Double.mono : ∀ a0 a1 a2 a3 a4 k, LeO (rtt_Double.f k a0 a1 a2 a3 a4) (rtt_Double.f (k + 1) a0 a1 a2 a3 a4) := by
  intro a0 a1 a2 a3 a4 k
  unfold rtt_Double.f
  repeat' first
      | (with_reducible exact rtt_May.mono _ _ _ _ _ _)
      | (with_reducible exact LeO.refl _)
      | (with_reducible exact LeO.none _)
      | (with_reducible refine LeO.ite ?_ ?_)
      | (with_reducible refine LeO.bind ?_ (fun _ => ?_))
      | exact rtt_May.mono _ _ _ _ _ _
      | exact LeO.none _
      | refine LeO.ite ?_ ?_
      | refine LeO.bind ?_ (fun _ => ?_)
set_option maxHeartbeats 8000000 in
set_option maxRecDepth 100000 in
theorem rtt_Double.calls (k : Nat) (a0_0 : Bool) (a0_1 : Int) (a0_2 : Int) (a0_3 : Int) (a0_4 : Int) (r1 : Bool) (r2 : Int) (r3 : Int) (r4 : Int) (r5 : Int) (r6 : Int) (w : World) (h : rtt_Double.f k a0_0 a0_1 a0_2 a0_3 a0_4 = some (r1, r2, r3, r4, r5, r6)) :
    Calls Try.prog 14 #[.agg #[.bool a0_0, .int .i64 a0_1, .int .i64 a0_2, .int .i64 a0_3, .int .i64 a0_4]] w fun e w' => e = .returned (.tuple #[.agg #[.bool r1, .int .i64 r2, .int .i64 r3, .int .i64 r4, .int .i64 r5], .int .i64 r6]) ∧ Below w.heap.size w w' := by
  have hu23 := Try.underlying23
  have HB := Aside0.mk (Below.refl w.heap.size w)
  have H : ((rtt_May.f k a0_0 a0_1 a0_2 a0_3 a0_4).bind fun t149 => (if t149 = true then (some (a0_0, a0_1, a0_2, a0_3, mn (wrap64 (a0_4 + 1)) 16, 0)) else (some (false, 0, 0, 0, 0, 1)))) = some (r1, r2, r3, r4, r5, r6) := h
  clear h
  replace H := Option.bind_eq_some_iff.mp H
  obtain ⟨t149, A20, H⟩ := H
  replace H : (if t149 = true then (some (a0_0, a0_1, a0_2, a0_3, mn (wrap64 (a0_4 + 1)) 16, 0)) else (some (false, 0, 0, 0, 0, 1))) = some (r1, r2, r3, r4, r5, r6) := H
  have A2 := Aside0.mk A20
  clear A20
  by_cases c3 : t149 = true
  · subst c3
    have H1 : (some (a0_0, a0_1, a0_2, a0_3, mn (wrap64 (a0_4 + 1)) 16, 0)) = some (r1, r2, r3, r4, r5, r6) := by rw [if_pos rfl] at H; exact H
    clear H
    have H := H1
    clear H1
    obtain ⟨ji4, hji4⟩ : ∃ j_ : Int, (mn (wrap64 (a0_4 + 1)) 16) = j_ := ⟨_, rfl⟩
    replace H : (some (a0_0, a0_1, a0_2, a0_3, ji4, 0)) = some (r1, r2, r3, r4, r5, r6) := by first | (rw [hji4] at H; exact H) | (simp only [hji4] at H ⊢; exact H)
    (try rw [hji4] at A2)
    (try (have hji4h : ji4 ≤ 16 := by (rw [← hji4]; unfold mn; (repeat' split) <;> omega)))
    (try (have hji4g : ji4 ≤ 64 := by omega))
    have hji4_ : (if 16 < (wrap64 (a0_4 + 1)) then 16 else (wrap64 (a0_4 + 1))) = ji4 := hji4
    simp only [Option.some.injEq, Prod.mk.injEq] at H
    obtain ⟨rfl, rfl, rfl, rfl, rfl, rfl⟩ := H
    go_enter Try.func14, Try.ntmps14
    go_wp2_with (first | ((with_reducible refine gate_dst (N := 1) rfl ?_); refine box_event ?hg (N := 1) ?hd (cs := #[.bool a0_0, .int .i64 a0_1, .int .i64 a0_2, .int .i64 a0_3, .int .i64 a0_4]) (t := 23) ?hr ?_; (case hd => rfl); (case hg => rfl); (case hr => first | (go_simp; done) | (go_simp; rfl)); intro gb147 hg w5 hbox hb; have n0_ := Aside0.mk (below_step (by repeat (first | (with_reducible first | exact HB.out | apply below_alloc | apply pw_below_drewN | apply below_drew1) | exact HB.out)) hb); have n1_ := Aside0.mk (hbox); have n2_ := Aside0.mk ((by rw [hg]; exact (below_size (by repeat (first | (with_reducible first | exact HB.out | apply below_alloc | apply pw_below_drewN | apply below_drew1) | exact HB.out))) : w.heap.size ≤ gb147)); have n3_ := Aside0.mk ((by rw [hg]; exact (below_size (by repeat (first | (with_reducible first | exact HB.out | apply below_alloc | apply pw_below_drewN | apply below_drew1) | exact HB.out))) : w.heap.size ≤ gb147)); clear HB; have HB := n0_; have BK147 := n1_; have GW147 := n2_; have GE147 := n3_; clear n0_ n1_ n2_ n3_; clear hb hbox hg) | ((with_reducible refine gate_dst (N := 2) rfl ?_); refine box_event ?hg (N := 2) ?hd (cs := #[.bool false, .int .i64 0, .int .i64 0, .int .i64 0, .int .i64 0]) (t := 23) ?hr ?_; (case hd => rfl); (case hg => rfl); (case hr => first | (go_simp; done) | (go_simp; rfl)); intro gb148 hg w6 hbox hb; have n0_ := Aside0.mk (blk_below (g := gb147) (o := .cells #[.bool a0_0, .int .i64 a0_1, .int .i64 a0_2, .int .i64 a0_3, .int .i64 a0_4] 23 (0, 0)) (by (with_reducible repeat (first | refine blk_drewN ?_ _ | refine blk_drew ?_ | refine blk_alloc ?_ _)); exact BK147.out) hb); have n1_ := Aside0.mk (below_step (by repeat (first | (with_reducible first | exact HB.out | apply below_alloc | apply pw_below_drewN | apply below_drew1 | refine below_set ?_ GE147.out) | exact HB.out)) hb); have n2_ := Aside0.mk (hbox); have n3_ := Aside0.mk ((by rw [hg]; exact (below_size (by repeat (first | (with_reducible first | exact HB.out | apply below_alloc | apply pw_below_drewN | apply below_drew1 | refine below_set ?_ GE147.out) | exact HB.out))) : w.heap.size ≤ gb148)); have n4_ := Aside0.mk ((by rw [hg]; exact (below_size (by repeat (first | (with_reducible first | exact HB.out | apply below_alloc | apply pw_below_drewN | apply below_drew1 | refine below_set ?_ GE147.out) | exact HB.out))) : w.heap.size ≤ gb148)); have n5_ := Aside0.mk ((by rw [hg]; exact Nat.ne_of_lt (blk_lt (g := gb147) (o := .cells #[.bool a0_0, .int .i64 a0_1, .int .i64 a0_2, .int .i64 a0_3, .int .i64 a0_4] 23 (0, 0)) (by (with_reducible repeat (first | refine blk_drewN ?_ _ | refine blk_drew ?_ | refine blk_alloc ?_ _)); exact BK147.out)) : gb147 ≠ gb148)); have n6_ := Aside0.mk ((by rw [hg]; exact Nat.ne_of_gt (blk_lt (g := gb147) (o := .cells #[.bool a0_0, .int .i64 a0_1, .int .i64 a0_2, .int .i64 a0_3, .int .i64 a0_4] 23 (0, 0)) (by (with_reducible repeat (first | refine blk_drewN ?_ _ | refine blk_drew ?_ | refine blk_alloc ?_ _)); exact BK147.out)) : gb148 ≠ gb147)); clear BK147; clear HB; have BK147 := n0_; have HB := n1_; have BK148 := n2_; have GW148 := n3_; have GE148 := n4_; have NB147_148 := n5_; have NB148_147 := n6_; clear n0_ n1_ n2_ n3_ n4_ n5_ n6_; clear hb hbox hg; have hnb7 := NB147_148.out; have hnc7 := NB148_147.out; have hcz8_0 : w6.cell? ⟨gb147, 0, none⟩ = some (.bool a0_0) := (blk_cell BK147.out 0).trans rfl; have hcz8_1 : w6.cell? ⟨gb147, 1, none⟩ = some (.int .i64 a0_1) := (blk_cell BK147.out 1).trans rfl; have hcz8_2 : w6.cell? ⟨gb147, 2, none⟩ = some (.int .i64 a0_2) := (blk_cell BK147.out 2).trans rfl; have hcz8_3 : w6.cell? ⟨gb147, 3, none⟩ = some (.int .i64 a0_3) := (blk_cell BK147.out 3).trans rfl; have hcz8_4 : w6.cell? ⟨gb147, 4, none⟩ = some (.int .i64 a0_4) := (blk_cell BK147.out 4).trans rfl; have hfz8_0 := blk_frozen BK147.out 0; have hfz8_1 := blk_frozen BK147.out 1; have hfz8_2 := blk_frozen BK147.out 2; have hfz8_3 := blk_frozen BK147.out 3; have hfz8_4 := blk_frozen BK147.out 4) | ((with_reducible refine gate_callee (f := 12) rfl ?_); refine goesL_ (some 5) rfl rfl Try.func12 (by kernel_rfl) rfl #[.agg #[.bool a0_0, .int .i64 a0_1, .int .i64 a0_2, .int .i64 a0_3, .int .i64 a0_4]] rfl (by (try simp only [List.map_toArray, List.map_cons, List.map_nil]); first | done | rfl | (simp only [List.length_drop, List.length_take]; rfl)) ?_; (with_reducible refine (rtt_May.calls k a0_0 a0_1 a0_2 a0_3 a0_4 true _ A2.out).mono ?_); rintro e w9 ⟨rfl, hb⟩; refine ⟨_, rfl, ?_⟩; have n0_ := Aside0.mk (blk_below (g := gb147) (o := .cells #[.bool a0_0, .int .i64 a0_1, .int .i64 a0_2, .int .i64 a0_3, .int .i64 a0_4] 23 (0, 0)) (by (with_reducible repeat (first | refine blk_drewN ?_ _ | refine blk_drew ?_ | refine blk_alloc ?_ _)); exact BK147.out) hb); have n1_ := Aside0.mk (blk_below (g := gb148) (o := .cells #[.bool false, .int .i64 0, .int .i64 0, .int .i64 0, .int .i64 0] 23 (0, 0)) (by (with_reducible repeat (first | refine blk_drewN ?_ _ | refine blk_drew ?_ | refine blk_alloc ?_ _)); exact BK148.out) hb); have n2_ := Aside0.mk (below_step (by repeat (first | (with_reducible first | exact HB.out | apply below_alloc | apply pw_below_drewN | apply below_drew1 | refine below_set ?_ GE147.out | refine below_set ?_ GE148.out) | exact HB.out)) hb); clear BK147; clear BK148; clear HB; have BK147 := n0_; have BK148 := n1_; have HB := n2_; clear n0_ n1_ n2_; (try clear hb); (try clear hb2); (try clear hk); (try clear hi); have hcz10_0 : w9.cell? ⟨gb147, 0, none⟩ = some (.bool a0_0) := (blk_cell BK147.out 0).trans rfl; have hcz10_1 : w9.cell? ⟨gb147, 1, none⟩ = some (.int .i64 a0_1) := (blk_cell BK147.out 1).trans rfl; have hcz10_2 : w9.cell? ⟨gb147, 2, none⟩ = some (.int .i64 a0_2) := (blk_cell BK147.out 2).trans rfl; have hcz10_3 : w9.cell? ⟨gb147, 3, none⟩ = some (.int .i64 a0_3) := (blk_cell BK147.out 3).trans rfl; have hcz10_4 : w9.cell? ⟨gb147, 4, none⟩ = some (.int .i64 a0_4) := (blk_cell BK147.out 4).trans rfl; have hfz10_0 := blk_frozen BK147.out 0; have hfz10_1 := blk_frozen BK147.out 1; have hfz10_2 := blk_frozen BK147.out 2; have hfz10_3 := blk_frozen BK147.out 3; have hfz10_4 := blk_frozen BK147.out 4; have hcz11_0 : w9.cell? ⟨gb148, 0, none⟩ = some (.bool false) := (blk_cell BK148.out 0).trans rfl; have hcz11_1 : w9.cell? ⟨gb148, 1, none⟩ = some (.int .i64 0) := (blk_cell BK148.out 1).trans rfl; have hcz11_2 : w9.cell? ⟨gb148, 2, none⟩ = some (.int .i64 0) := (blk_cell BK148.out 2).trans rfl; have hcz11_3 : w9.cell? ⟨gb148, 3, none⟩ = some (.int .i64 0) := (blk_cell BK148.out 3).trans rfl; have hcz11_4 : w9.cell? ⟨gb148, 4, none⟩ = some (.int .i64 0) := (blk_cell BK148.out 4).trans rfl; have hfz11_0 := blk_frozen BK148.out 0; have hfz11_1 := blk_frozen BK148.out 1; have hfz11_2 := blk_frozen BK148.out 2; have hfz11_3 := blk_frozen BK148.out 3; have hfz11_4 := blk_frozen BK148.out 4))
    refine bodyPost_ret (results_ct rfl _ _ gb148 23 #[.bool a0_0, .int .i64 a0_1, .int .i64 a0_2, .int .i64 a0_3, .int .i64 ji4] (0, 0) _ rfl (by (with_reducible repeat (first | refine blk_drewN ?_ _ | refine blk_drew ?_ | refine blk_alloc ?_ _)); refine blk_put (cs := #[.bool a0_0, .int .i64 a0_1, .int .i64 a0_2, .int .i64 a0_3, .int .i64 0]) ?_ 4 _ rfl; (with_reducible repeat (first | refine blk_drewN ?_ _ | refine blk_drew ?_ | refine blk_alloc ?_ _)); refine blk_put (cs := #[.bool a0_0, .int .i64 a0_1, .int .i64 a0_2, .int .i64 0, .int .i64 0]) ?_ 3 _ rfl; (with_reducible repeat (first | refine blk_drewN ?_ _ | refine blk_drew ?_ | refine blk_alloc ?_ _)); refine blk_put (cs := #[.bool a0_0, .int .i64 a0_1, .int .i64 0, .int .i64 0, .int .i64 0]) ?_ 2 _ rfl; (with_reducible repeat (first | refine blk_drewN ?_ _ | refine blk_drew ?_ | refine blk_alloc ?_ _)); refine blk_put (cs := #[.bool a0_0, .int .i64 0, .int .i64 0, .int .i64 0, .int .i64 0]) ?_ 1 _ rfl; (with_reducible repeat (first | refine blk_drewN ?_ _ | refine blk_drew ?_ | refine blk_alloc ?_ _)); refine blk_put (cs := #[.bool false, .int .i64 0, .int .i64 0, .int .i64 0, .int .i64 0]) ?_ 0 _ rfl; (with_reducible repeat (first | refine blk_drewN ?_ _ | refine blk_drew ?_ | refine blk_alloc ?_ _)); refine blk_far ?_ NB148_147.out _; (with_reducible repeat (first | refine blk_drewN ?_ _ | refine blk_drew ?_ | refine blk_alloc ?_ _)); exact BK148.out) Try.underlying23 rfl (by kernel_rfl)) rfl ?_
    exact ⟨by first | rfl | (simp [errW_none, errW_some] <;> rfl) | (simp only [← hji4]; first | rfl | (simp [errW_none, errW_some] <;> rfl)) | (simp [*, errW_none, errW_some] <;> rfl), by repeat (first | (with_reducible first | exact HB.out | apply below_alloc | apply pw_below_drewN | apply below_drew1 | refine below_set ?_ GE147.out | refine below_set ?_ GE148.out) | exact HB.out)⟩
  · replace c3 := Bool.eq_false_iff.mpr c3
    subst c3
    have H1 : (some (false, 0, 0, 0, 0, 1)) = some (r1, r2, r3, r4, r5, r6) := by rw [if_neg (show ¬ (false = true) by decide)] at H; exact H
    clear H
    have H := H1
    clear H1
    simp only [Option.some.injEq, Prod.mk.injEq] at H
    obtain ⟨rfl, rfl, rfl, rfl, rfl, rfl⟩ := H
    go_enter Try.func14, Try.ntmps14
    go_wp2_with (first | ((with_reducible refine gate_dst (N := 1) rfl ?_); refine box_event ?hg (N := 1) ?hd (cs := #[.bool a0_0, .int .i64 a0_1, .int .i64 a0_2, .int .i64 a0_3, .int .i64 a0_4]) (t := 23) ?hr ?_; (case hd => rfl); (case hg => rfl); (case hr => first | (go_simp; done) | (go_simp; rfl)); intro gb147 hg w12 hbox hb; have n0_ := Aside0.mk (below_step (by repeat (first | (with_reducible first | exact HB.out | apply below_alloc | apply pw_below_drewN | apply below_drew1) | exact HB.out)) hb); have n1_ := Aside0.mk (hbox); have n2_ := Aside0.mk ((by rw [hg]; exact (below_size (by repeat (first | (with_reducible first | exact HB.out | apply below_alloc | apply pw_below_drewN | apply below_drew1) | exact HB.out))) : w.heap.size ≤ gb147)); have n3_ := Aside0.mk ((by rw [hg]; exact (below_size (by repeat (first | (with_reducible first | exact HB.out | apply below_alloc | apply pw_below_drewN | apply below_drew1) | exact HB.out))) : w.heap.size ≤ gb147)); clear HB; have HB := n0_; have BK147 := n1_; have GW147 := n2_; have GE147 := n3_; clear n0_ n1_ n2_ n3_; clear hb hbox hg) | ((with_reducible refine gate_dst (N := 2) rfl ?_); refine box_event ?hg (N := 2) ?hd (cs := #[.bool false, .int .i64 0, .int .i64 0, .int .i64 0, .int .i64 0]) (t := 23) ?hr ?_; (case hd => rfl); (case hg => rfl); (case hr => first | (go_simp; done) | (go_simp; rfl)); intro gb148 hg w13 hbox hb; have n0_ := Aside0.mk (blk_below (g := gb147) (o := .cells #[.bool a0_0, .int .i64 a0_1, .int .i64 a0_2, .int .i64 a0_3, .int .i64 a0_4] 23 (0, 0)) (by (with_reducible repeat (first | refine blk_drewN ?_ _ | refine blk_drew ?_ | refine blk_alloc ?_ _)); exact BK147.out) hb); have n1_ := Aside0.mk (below_step (by repeat (first | (with_reducible first | exact HB.out | apply below_alloc | apply pw_below_drewN | apply below_drew1 | refine below_set ?_ GE147.out) | exact HB.out)) hb); have n2_ := Aside0.mk (hbox); have n3_ := Aside0.mk ((by rw [hg]; exact (below_size (by repeat (first | (with_reducible first | exact HB.out | apply below_alloc | apply pw_below_drewN | apply below_drew1 | refine below_set ?_ GE147.out) | exact HB.out))) : w.heap.size ≤ gb148)); have n4_ := Aside0.mk ((by rw [hg]; exact (below_size (by repeat (first | (with_reducible first | exact HB.out | apply below_alloc | apply pw_below_drewN | apply below_drew1 | refine below_set ?_ GE147.out) | exact HB.out))) : w.heap.size ≤ gb148)); have n5_ := Aside0.mk ((by rw [hg]; exact Nat.ne_of_lt (blk_lt (g := gb147) (o := .cells #[.bool a0_0, .int .i64 a0_1, .int .i64 a0_2, .int .i64 a0_3, .int .i64 a0_4] 23 (0, 0)) (by (with_reducible repeat (first | refine blk_drewN ?_ _ | refine blk_drew ?_ | refine blk_alloc ?_ _)); exact BK147.out)) : gb147 ≠ gb148)); have n6_ := Aside0.mk ((by rw [hg]; exact Nat.ne_of_gt (blk_lt (g := gb147) (o := .cells #[.bool a0_0, .int .i64 a0_1, .int .i64 a0_2, .int .i64 a0_3, .int .i64 a0_4] 23 (0, 0)) (by (with_reducible repeat (first | refine blk_drewN ?_ _ | refine blk_drew ?_ | refine blk_alloc ?_ _)); exact BK147.out)) : gb148 ≠ gb147)); clear BK147; clear HB; have BK147 := n0_; have HB := n1_; have BK148 := n2_; have GW148 := n3_; have GE148 := n4_; have NB147_148 := n5_; have NB148_147 := n6_; clear n0_ n1_ n2_ n3_ n4_ n5_ n6_; clear hb hbox hg; have hnb14 := NB147_148.out; have hnc14 := NB148_147.out; have hcz15_0 : w13.cell? ⟨gb147, 0, none⟩ = some (.bool a0_0) := (blk_cell BK147.out 0).trans rfl; have hcz15_1 : w13.cell? ⟨gb147, 1, none⟩ = some (.int .i64 a0_1) := (blk_cell BK147.out 1).trans rfl; have hcz15_2 : w13.cell? ⟨gb147, 2, none⟩ = some (.int .i64 a0_2) := (blk_cell BK147.out 2).trans rfl; have hcz15_3 : w13.cell? ⟨gb147, 3, none⟩ = some (.int .i64 a0_3) := (blk_cell BK147.out 3).trans rfl; have hcz15_4 : w13.cell? ⟨gb147, 4, none⟩ = some (.int .i64 a0_4) := (blk_cell BK147.out 4).trans rfl; have hfz15_0 := blk_frozen BK147.out 0; have hfz15_1 := blk_frozen BK147.out 1; have hfz15_2 := blk_frozen BK147.out 2; have hfz15_3 := blk_frozen BK147.out 3; have hfz15_4 := blk_frozen BK147.out 4) | ((with_reducible refine gate_callee (f := 12) rfl ?_); refine goesL_ (some 5) rfl rfl Try.func12 (by kernel_rfl) rfl #[.agg #[.bool a0_0, .int .i64 a0_1, .int .i64 a0_2, .int .i64 a0_3, .int .i64 a0_4]] rfl (by (try simp only [List.map_toArray, List.map_cons, List.map_nil]); first | done | rfl | (simp only [List.length_drop, List.length_take]; rfl)) ?_; (with_reducible refine (rtt_May.calls k a0_0 a0_1 a0_2 a0_3 a0_4 false _ A2.out).mono ?_); rintro e w16 ⟨rfl, hb⟩; refine ⟨_, rfl, ?_⟩; have n0_ := Aside0.mk (blk_below (g := gb147) (o := .cells #[.bool a0_0, .int .i64 a0_1, .int .i64 a0_2, .int .i64 a0_3, .int .i64 a0_4] 23 (0, 0)) (by (with_reducible repeat (first | refine blk_drewN ?_ _ | refine blk_drew ?_ | refine blk_alloc ?_ _)); exact BK147.out) hb); have n1_ := Aside0.mk (blk_below (g := gb148) (o := .cells #[.bool false, .int .i64 0, .int .i64 0, .int .i64 0, .int .i64 0] 23 (0, 0)) (by (with_reducible repeat (first | refine blk_drewN ?_ _ | refine blk_drew ?_ | refine blk_alloc ?_ _)); exact BK148.out) hb); have n2_ := Aside0.mk (below_step (by repeat (first | (with_reducible first | exact HB.out | apply below_alloc | apply pw_below_drewN | apply below_drew1 | refine below_set ?_ GE147.out | refine below_set ?_ GE148.out) | exact HB.out)) hb); clear BK147; clear BK148; clear HB; have BK147 := n0_; have BK148 := n1_; have HB := n2_; clear n0_ n1_ n2_; (try clear hb); (try clear hb2); (try clear hk); (try clear hi); have hcz17_0 : w16.cell? ⟨gb148, 0, none⟩ = some (.bool false) := (blk_cell BK148.out 0).trans rfl; have hcz17_1 : w16.cell? ⟨gb148, 1, none⟩ = some (.int .i64 0) := (blk_cell BK148.out 1).trans rfl; have hcz17_2 : w16.cell? ⟨gb148, 2, none⟩ = some (.int .i64 0) := (blk_cell BK148.out 2).trans rfl; have hcz17_3 : w16.cell? ⟨gb148, 3, none⟩ = some (.int .i64 0) := (blk_cell BK148.out 3).trans rfl; have hcz17_4 : w16.cell? ⟨gb148, 4, none⟩ = some (.int .i64 0) := (blk_cell BK148.out 4).trans rfl; have hfz17_0 := blk_frozen BK148.out 0; have hfz17_1 := blk_frozen BK148.out 1; have hfz17_2 := blk_frozen BK148.out 2; have hfz17_3 := blk_frozen BK148.out 3; have hfz17_4 := blk_frozen BK148.out 4))
    refine bodyPost_ret (results_ct rfl _ _ gb148 23 #[.bool false, .int .i64 0, .int .i64 0, .int .i64 0, .int .i64 0] (0, 0) _ rfl (by (with_reducible repeat (first | refine blk_drewN ?_ _ | refine blk_drew ?_ | refine blk_alloc ?_ _)); refine blk_put (cs := #[.bool false, .int .i64 0, .int .i64 0, .int .i64 0, .int .i64 0]) ?_ 4 _ rfl; (with_reducible repeat (first | refine blk_drewN ?_ _ | refine blk_drew ?_ | refine blk_alloc ?_ _)); refine blk_put (cs := #[.bool false, .int .i64 0, .int .i64 0, .int .i64 0, .int .i64 0]) ?_ 3 _ rfl; (with_reducible repeat (first | refine blk_drewN ?_ _ | refine blk_drew ?_ | refine blk_alloc ?_ _)); refine blk_put (cs := #[.bool false, .int .i64 0, .int .i64 0, .int .i64 0, .int .i64 0]) ?_ 2 _ rfl; (with_reducible repeat (first | refine blk_drewN ?_ _ | refine blk_drew ?_ | refine blk_alloc ?_ _)); refine blk_put (cs := #[.bool false, .int .i64 0, .int .i64 0, .int .i64 0, .int .i64 0]) ?_ 1 _ rfl; (with_reducible repeat (first | refine blk_drewN ?_ _ | refine blk_drew ?_ | refine blk_alloc ?_ _)); refine blk_put (cs := #[.bool false, .int .i64 0, .int .i64 0, .int .i64 0, .int .i64 0]) ?_ 0 _ rfl; (with_reducible repeat (first | refine blk_drewN ?_ _ | refine blk_drew ?_ | refine blk_alloc ?_ _)); exact BK148.out) Try.underlying23 rfl (by kernel_rfl)) rfl ?_
    exact ⟨by first | rfl | (simp [errW_none, errW_some] <;> rfl) | (simp [*, errW_none, errW_some] <;> rfl), by repeat (first | (with_reducible first | exact HB.out | apply below_alloc | apply pw_below_drewN | apply below_drew1 | refine below_set ?_ GE147.out | refine below_set ?_ GE148.out) | exact HB.out)⟩

/-! ### fourinhandlaw08_RttDoubles: function 8 -/
mutual
def fourinhandlaw08_RttDoubles.j0 : Nat → Int → Bool → Bool → Bool → Int → Int → Int → Int → Bool → Int → Int → Int → Int → Option (Bool)
  | 0, _, _, _, _, _, _, _, _, _, _, _, _, _ => none
  | k + 1, x1, x5, x32, x151000, x151001, x151002, x151003, x151004, x159000, x159001, x159002, x159003, x159004 => if x32 = true then (some x5) else ((rtt_Wait.f k x151000 x151001 x151002 x151003 x151004 x1).bind fun t159 => ((rtt_Wait.f k x159000 x159001 x159002 x159003 x159004 x1).bind fun t160 => (if t159 < 0 then (fourinhandlaw08_RttDoubles.j1 k true x151000 x151001 x151002 x151003 x151004 x159000 x159001 x159002 x159003 x159004) else (if t159 > x1 then (fourinhandlaw08_RttDoubles.j1 k true x151000 x151001 x151002 x151003 x151004 x159000 x159001 x159002 x159003 x159004) else (if t160 < t159 then (fourinhandlaw08_RttDoubles.j1 k true x151000 x151001 x151002 x151003 x151004 x159000 x159001 x159002 x159003 x159004) else (if t160 > x1 then (fourinhandlaw08_RttDoubles.j1 k true x151000 x151001 x151002 x151003 x151004 x159000 x159001 x159002 x159003 x159004) else (if t160 > (wrap64 (2 * t159)) then (fourinhandlaw08_RttDoubles.j1 k true x151000 x151001 x151002 x151003 x151004 x159000 x159001 x159002 x159003 x159004) else (if x151004 = 16 then (fourinhandlaw08_RttDoubles.j1 k (!(x159000 == x151000) || (!(x159001 == x151001) || (!(x159002 == x151002) || (!(x159003 == x151003) || (!(x159004 == x151004)))))) x151000 x151001 x151002 x151003 x151004 x159000 x159001 x159002 x159003 x159004) else (fourinhandlaw08_RttDoubles.j1 k false x151000 x151001 x151002 x151003 x151004 x159000 x159001 x159002 x159003 x159004)))))))))
def fourinhandlaw08_RttDoubles.j1 : Nat → Bool → Bool → Int → Int → Int → Int → Bool → Int → Int → Int → Int → Option (Bool)
  | 0, _, _, _, _, _, _, _, _, _, _, _ => none
  | k + 1, x72, x151000, x151001, x151002, x151003, x151004, x159000, x159001, x159002, x159003, x159004 => if x72 = true then (some false) else (fourinhandlaw08_RttDoubles.l0 k 0 x151000 x151001 x151002 x151003 x151004 x159000 x159001 x159002 x159003 x159004)
def fourinhandlaw08_RttDoubles.l0 : Nat → Int → Bool → Int → Int → Int → Int → Bool → Int → Int → Int → Int → Option (Bool)
  | 0, _, _, _, _, _, _, _, _, _, _, _ => none
  | k + 1, x10, x151000, x151001, x151002, x151003, x151004, x159000, x159001, x159002, x159003, x159004 => if x10 < 20 then ((rtt_Double.f k x159000 x159001 x159002 x159003 x159004).bind fun bt161 => (fourinhandlaw08_RttDoubles.l0 k (wrap64 (x10 + 1)) x151000 x151001 x151002 x151003 x151004 bt161.1 bt161.2.1 bt161.2.2.1 bt161.2.2.2.1 bt161.2.2.2.2.1)) else ((rtt_Double.f k x159000 x159001 x159002 x159003 x159004).bind fun bt167 => (if (x159000 == bt167.1 && (x159001 == bt167.2.1 && (x159002 == bt167.2.2.1 && (x159003 == bt167.2.2.2.1 && (x159004 == bt167.2.2.2.2.1))))) = true then (if x159004 = 16 then (some (x159003 == x151003)) else (some false)) else (some false)))
end
def fourinhandlaw08_RttDoubles.f (k : Nat) (a0_0 : Bool) (a0_1 : Int) (a0_2 : Int) (a0_3 : Int) (a0_4 : Int) (a1 : Int) : Option (Bool) := (fourinhandlaw08_awake.f k).bind fun t151 => ((rtt_Double.f k a0_0 a0_1 a0_2 a0_3 a0_4).bind fun bt152 => (if t151 = true then (if bt152.2.2.2.2.2 = 0 then (if a1 < 1 then (fourinhandlaw08_RttDoubles.j0 k a1 t151 true a0_0 a0_1 a0_2 a0_3 a0_4 bt152.1 bt152.2.1 bt152.2.2.1 bt152.2.2.2.1 bt152.2.2.2.2.1) else (fourinhandlaw08_RttDoubles.j0 k a1 t151 (decide (a1 > 1099511627776)) a0_0 a0_1 a0_2 a0_3 a0_4 bt152.1 bt152.2.1 bt152.2.2.1 bt152.2.2.2.1 bt152.2.2.2.2.1)) else (fourinhandlaw08_RttDoubles.j0 k a1 t151 true a0_0 a0_1 a0_2 a0_3 a0_4 bt152.1 bt152.2.1 bt152.2.2.1 bt152.2.2.2.1 bt152.2.2.2.2.1)) else (fourinhandlaw08_RttDoubles.j0 k a1 t151 true a0_0 a0_1 a0_2 a0_3 a0_4 bt152.1 bt152.2.1 bt152.2.2.1 bt152.2.2.2.1 bt152.2.2.2.2.1)))
theorem fourinhandlaw08_RttDoubles.mono_l : ∀ k, (∀ y0 y1 y2 y3 y4 y5 y6 y7 y8 y9 y10 y11 y12, LeO (fourinhandlaw08_RttDoubles.j0 k y0 y1 y2 y3 y4 y5 y6 y7 y8 y9 y10 y11 y12) (fourinhandlaw08_RttDoubles.j0 (k + 1) y0 y1 y2 y3 y4 y5 y6 y7 y8 y9 y10 y11 y12)) ∧ (∀ y0 y1 y2 y3 y4 y5 y6 y7 y8 y9 y10, LeO (fourinhandlaw08_RttDoubles.j1 k y0 y1 y2 y3 y4 y5 y6 y7 y8 y9 y10) (fourinhandlaw08_RttDoubles.j1 (k + 1) y0 y1 y2 y3 y4 y5 y6 y7 y8 y9 y10)) ∧ (∀ y0 y1 y2 y3 y4 y5 y6 y7 y8 y9 y10, LeO (fourinhandlaw08_RttDoubles.l0 k y0 y1 y2 y3 y4 y5 y6 y7 y8 y9 y10) (fourinhandlaw08_RttDoubles.l0 (k + 1) y0 y1 y2 y3 y4 y5 y6 y7 y8 y9 y10))
  | 0 => ⟨fun _ _ _ _ _ _ _ _ _ _ _ _ _ r h => by simp [fourinhandlaw08_RttDoubles.j0] at h, fun _ _ _ _ _ _ _ _ _ _ _ r h => by simp [fourinhandlaw08_RttDoubles.j1] at h, fun _ _ _ _ _ _ _ _ _ _ _ r h => by simp [fourinhandlaw08_RttDoubles.l0] at h⟩
  | k + 1 => by
    obtain ⟨ih0, ih1, ih2⟩ := fourinhandlaw08_RttDoubles.mono_l k
    refine ⟨?_, ?_, ?_⟩
    · intro y0 y1 y2 y3 y4 y5 y6 y7 y8 y9 y10 y11 y12
      unfold fourinhandlaw08_RttDoubles.j0
      repeat' first
      | (with_reducible exact ih0 _ _ _ _ _ _ _ _ _ _ _ _ _)
      | (with_reducible exact ih1 _ _ _ _ _ _ _ _ _ _ _)
      | (with_reducible exact ih2 _ _ _ _ _ _ _ _ _ _ _)
      | (with_reducible exact fourinhandlaw08_awake.mono _)
      | (with_reducible exact rtt_Double.mono _ _ _ _ _ _)
      | (with_reducible exact rtt_Wait.mono _ _ _ _ _ _ _)
      | (with_reducible exact LeO.refl _)
      | (with_reducible exact LeO.none _)
      | (with_reducible refine LeO.ite ?_ ?_)
      | (with_reducible refine LeO.bind ?_ (fun _ => ?_))
      | exact ih0 _ _ _ _ _ _ _ _ _ _ _ _ _
      | exact ih1 _ _ _ _ _ _ _ _ _ _ _
      | exact ih2 _ _ _ _ _ _ _ _ _ _ _
      | exact fourinhandlaw08_awake.mono _
      | exact rtt_Double.mono _ _ _ _ _ _
      | exact rtt_Wait.mono _ _ _ _ _ _ _
      | exact LeO.none _
      | refine LeO.ite ?_ ?_
      | refine LeO.bind ?_ (fun _ => ?_)
    · intro y0 y1 y2 y3 y4 y5 y6 y7 y8 y9 y10
      unfold fourinhandlaw08_RttDoubles.j1
      repeat' first
      | (with_reducible exact ih0 _ _ _ _ _ _ _ _ _ _ _ _ _)
      | (with_reducible exact ih1 _ _ _ _ _ _ _ _ _ _ _)
      | (with_reducible exact ih2 _ _ _ _ _ _ _ _ _ _ _)
      | (with_reducible exact fourinhandlaw08_awake.mono _)
      | (with_reducible exact rtt_Double.mono _ _ _ _ _ _)
      | (with_reducible exact rtt_Wait.mono _ _ _ _ _ _ _)
      | (with_reducible exact LeO.refl _)
      | (with_reducible exact LeO.none _)
      | (with_reducible refine LeO.ite ?_ ?_)
      | (with_reducible refine LeO.bind ?_ (fun _ => ?_))
      | exact ih0 _ _ _ _ _ _ _ _ _ _ _ _ _
      | exact ih1 _ _ _ _ _ _ _ _ _ _ _
      | exact ih2 _ _ _ _ _ _ _ _ _ _ _
      | exact fourinhandlaw08_awake.mono _
      | exact rtt_Double.mono _ _ _ _ _ _
      | exact rtt_Wait.mono _ _ _ _ _ _ _
      | exact LeO.none _
      | refine LeO.ite ?_ ?_
      | refine LeO.bind ?_ (fun _ => ?_)
    · intro y0 y1 y2 y3 y4 y5 y6 y7 y8 y9 y10
      unfold fourinhandlaw08_RttDoubles.l0
      repeat' first
      | (with_reducible exact ih0 _ _ _ _ _ _ _ _ _ _ _ _ _)
      | (with_reducible exact ih1 _ _ _ _ _ _ _ _ _ _ _)
      | (with_reducible exact ih2 _ _ _ _ _ _ _ _ _ _ _)
      | (with_reducible exact fourinhandlaw08_awake.mono _)
      | (with_reducible exact rtt_Double.mono _ _ _ _ _ _)
      | (with_reducible exact rtt_Wait.mono _ _ _ _ _ _ _)
      | (with_reducible exact LeO.refl _)
      | (with_reducible exact LeO.none _)
      | (with_reducible refine LeO.ite ?_ ?_)
      | (with_reducible refine LeO.bind ?_ (fun _ => ?_))
      | exact ih0 _ _ _ _ _ _ _ _ _ _ _ _ _
      | exact ih1 _ _ _ _ _ _ _ _ _ _ _
      | exact ih2 _ _ _ _ _ _ _ _ _ _ _
      | exact fourinhandlaw08_awake.mono _
      | exact rtt_Double.mono _ _ _ _ _ _
      | exact rtt_Wait.mono _ _ _ _ _ _ _
      | exact LeO.none _
      | refine LeO.ite ?_ ?_
      | refine LeO.bind ?_ (fun _ => ?_)
theorem fourinhandlaw08_RttDoubles.mono : ∀ a0 a1 a2 a3 a4 a5 k, LeO (fourinhandlaw08_RttDoubles.f k a0 a1 a2 a3 a4 a5) (fourinhandlaw08_RttDoubles.f (k + 1) a0 a1 a2 a3 a4 a5) := by
  intro a0 a1 a2 a3 a4 a5 k
  obtain ⟨ih0, ih1, ih2⟩ := fourinhandlaw08_RttDoubles.mono_l k
  unfold fourinhandlaw08_RttDoubles.f
  repeat' first
      | (with_reducible exact ih0 _ _ _ _ _ _ _ _ _ _ _ _ _)
      | (with_reducible exact ih1 _ _ _ _ _ _ _ _ _ _ _)
      | (with_reducible exact ih2 _ _ _ _ _ _ _ _ _ _ _)
      | (with_reducible exact fourinhandlaw08_awake.mono _)
      | (with_reducible exact rtt_Double.mono _ _ _ _ _ _)
      | (with_reducible exact rtt_Wait.mono _ _ _ _ _ _ _)
      | (with_reducible exact LeO.refl _)
      | (with_reducible exact LeO.none _)
      | (with_reducible refine LeO.ite ?_ ?_)
      | (with_reducible refine LeO.bind ?_ (fun _ => ?_))
      | exact ih0 _ _ _ _ _ _ _ _ _ _ _ _ _
      | exact ih1 _ _ _ _ _ _ _ _ _ _ _
      | exact ih2 _ _ _ _ _ _ _ _ _ _ _
      | exact fourinhandlaw08_awake.mono _
      | exact rtt_Double.mono _ _ _ _ _ _
      | exact rtt_Wait.mono _ _ _ _ _ _ _
      | exact LeO.none _
      | refine LeO.ite ?_ ?_
      | refine LeO.bind ?_ (fun _ => ?_)
set_option maxHeartbeats 8000000 in
set_option maxRecDepth 100000 in
theorem fourinhandlaw08_RttDoubles.calls (k : Nat) (a0_0 : Bool) (a0_1 : Int) (a0_2 : Int) (a0_3 : Int) (a0_4 : Int) (a1 : Int) (r : Bool) (w : World) (h : fourinhandlaw08_RttDoubles.f k a0_0 a0_1 a0_2 a0_3 a0_4 a1 = some r) :
    Calls Try.prog 8 #[.agg #[.bool a0_0, .int .i64 a0_1, .int .i64 a0_2, .int .i64 a0_3, .int .i64 a0_4], .int .i64 a1] w fun e w' => e = .returned (.bool r) ∧ Below w.heap.size w w' := by
  have hu23 := Try.underlying23
  have HB := Aside0.mk (Below.refl w.heap.size w)
  have H : ((fourinhandlaw08_awake.f k).bind fun t151 => ((rtt_Double.f k a0_0 a0_1 a0_2 a0_3 a0_4).bind fun bt152 => (if t151 = true then (if bt152.2.2.2.2.2 = 0 then (if a1 < 1 then (fourinhandlaw08_RttDoubles.j0 k a1 t151 true a0_0 a0_1 a0_2 a0_3 a0_4 bt152.1 bt152.2.1 bt152.2.2.1 bt152.2.2.2.1 bt152.2.2.2.2.1) else (fourinhandlaw08_RttDoubles.j0 k a1 t151 (decide (a1 > 1099511627776)) a0_0 a0_1 a0_2 a0_3 a0_4 bt152.1 bt152.2.1 bt152.2.2.1 bt152.2.2.2.1 bt152.2.2.2.2.1)) else (fourinhandlaw08_RttDoubles.j0 k a1 t151 true a0_0 a0_1 a0_2 a0_3 a0_4 bt152.1 bt152.2.1 bt152.2.2.1 bt152.2.2.2.1 bt152.2.2.2.2.1)) else (fourinhandlaw08_RttDoubles.j0 k a1 t151 true a0_0 a0_1 a0_2 a0_3 a0_4 bt152.1 bt152.2.1 bt152.2.2.1 bt152.2.2.2.1 bt152.2.2.2.2.1)))) = some r := h
  clear h
  replace H := Option.bind_eq_some_iff.mp H
  obtain ⟨t151, A30, H⟩ := H
  replace H : ((rtt_Double.f k a0_0 a0_1 a0_2 a0_3 a0_4).bind fun bt152 => (if t151 = true then (if bt152.2.2.2.2.2 = 0 then (if a1 < 1 then (fourinhandlaw08_RttDoubles.j0 k a1 t151 true a0_0 a0_1 a0_2 a0_3 a0_4 bt152.1 bt152.2.1 bt152.2.2.1 bt152.2.2.2.1 bt152.2.2.2.2.1) else (fourinhandlaw08_RttDoubles.j0 k a1 t151 (decide (a1 > 1099511627776)) a0_0 a0_1 a0_2 a0_3 a0_4 bt152.1 bt152.2.1 bt152.2.2.1 bt152.2.2.2.1 bt152.2.2.2.2.1)) else (fourinhandlaw08_RttDoubles.j0 k a1 t151 true a0_0 a0_1 a0_2 a0_3 a0_4 bt152.1 bt152.2.1 bt152.2.2.1 bt152.2.2.2.1 bt152.2.2.2.2.1)) else (fourinhandlaw08_RttDoubles.j0 k a1 t151 true a0_0 a0_1 a0_2 a0_3 a0_4 bt152.1 bt152.2.1 bt152.2.2.1 bt152.2.2.2.1 bt152.2.2.2.2.1))) = some r := H
  have A3 := Aside0.mk A30
  clear A30
  replace H := Option.bind_eq_some_iff.mp H
  obtain ⟨⟨t152, t153, t154, t155, t156, t157⟩, A40, H⟩ := H
  replace H : (if t151 = true then (if t157 = 0 then (if a1 < 1 then (fourinhandlaw08_RttDoubles.j0 k a1 t151 true a0_0 a0_1 a0_2 a0_3 a0_4 t152 t153 t154 t155 t156) else (fourinhandlaw08_RttDoubles.j0 k a1 t151 (decide (a1 > 1099511627776)) a0_0 a0_1 a0_2 a0_3 a0_4 t152 t153 t154 t155 t156)) else (fourinhandlaw08_RttDoubles.j0 k a1 t151 true a0_0 a0_1 a0_2 a0_3 a0_4 t152 t153 t154 t155 t156)) else (fourinhandlaw08_RttDoubles.j0 k a1 t151 true a0_0 a0_1 a0_2 a0_3 a0_4 t152 t153 t154 t155 t156)) = some r := H
  have A4 := Aside0.mk A40
  clear A40
  have HC5 := Aside0.mk H
  clear H
  go_enter Try.func8, Try.ntmps8
  go_upto_region 3 with (first | ((with_reducible refine gate_dst (N := 2) rfl ?_); refine box_event ?hg (N := 2) ?hd (cs := #[.bool a0_0, .int .i64 a0_1, .int .i64 a0_2, .int .i64 a0_3, .int .i64 a0_4]) (t := 23) ?hr ?_; (case hd => rfl); (case hg => rfl); (case hr => first | (go_simp; done) | (go_simp; rfl)); intro gb150 hg w6 hbox hb; have n0_ := Aside0.mk (below_step (by repeat (first | (with_reducible first | exact HB.out | apply below_alloc | apply pw_below_drewN | apply below_drew1) | exact HB.out)) hb); have n1_ := Aside0.mk (hbox); have n2_ := Aside0.mk ((by rw [hg]; exact (below_size (by repeat (first | (with_reducible first | exact HB.out | apply below_alloc | apply pw_below_drewN | apply below_drew1) | exact HB.out))) : w.heap.size ≤ gb150)); have n3_ := Aside0.mk ((by rw [hg]; exact (below_size (by repeat (first | (with_reducible first | exact HB.out | apply below_alloc | apply pw_below_drewN | apply below_drew1) | exact HB.out))) : w.heap.size ≤ gb150)); clear HB; have HB := n0_; have BK150 := n1_; have GW150 := n2_; have GE150 := n3_; clear n0_ n1_ n2_ n3_; clear hb hbox hg) | ((with_reducible refine gate_callee (f := 9) rfl ?_); refine goesL_ (some 13) rfl rfl Try.func9 (by kernel_rfl) rfl #[] rfl (by (try simp only [List.map_toArray, List.map_cons, List.map_nil]); first | done | rfl | (simp only [List.length_drop, List.length_take]; rfl)) ?_; (with_reducible refine (fourinhandlaw08_awake.calls k  t151 _ A3.out).mono ?_); rintro e w7 ⟨rfl, hb⟩; refine ⟨_, rfl, ?_⟩; have n0_ := Aside0.mk (blk_below (g := gb150) (o := .cells #[.bool a0_0, .int .i64 a0_1, .int .i64 a0_2, .int .i64 a0_3, .int .i64 a0_4] 23 (0, 0)) (by (with_reducible repeat (first | refine blk_drewN ?_ _ | refine blk_drew ?_ | refine blk_alloc ?_ _)); exact BK150.out) hb); have n1_ := Aside0.mk (below_step (by repeat (first | (with_reducible first | exact HB.out | apply below_alloc | apply pw_below_drewN | apply below_drew1 | refine below_set ?_ GE150.out) | exact HB.out)) hb); clear BK150; clear HB; have BK150 := n0_; have HB := n1_; clear n0_ n1_; (try clear hb); (try clear hb2); (try clear hk); (try clear hi); have hcz8_0 : w7.cell? ⟨gb150, 0, none⟩ = some (.bool a0_0) := (blk_cell BK150.out 0).trans rfl; have hcz8_1 : w7.cell? ⟨gb150, 1, none⟩ = some (.int .i64 a0_1) := (blk_cell BK150.out 1).trans rfl; have hcz8_2 : w7.cell? ⟨gb150, 2, none⟩ = some (.int .i64 a0_2) := (blk_cell BK150.out 2).trans rfl; have hcz8_3 : w7.cell? ⟨gb150, 3, none⟩ = some (.int .i64 a0_3) := (blk_cell BK150.out 3).trans rfl; have hcz8_4 : w7.cell? ⟨gb150, 4, none⟩ = some (.int .i64 a0_4) := (blk_cell BK150.out 4).trans rfl; have hfz8_0 := blk_frozen BK150.out 0; have hfz8_1 := blk_frozen BK150.out 1; have hfz8_2 := blk_frozen BK150.out 2; have hfz8_3 := blk_frozen BK150.out 3; have hfz8_4 := blk_frozen BK150.out 4) | ((with_reducible refine gate_callee (f := 14) rfl ?_); refine goesL_ (some 16) rfl rfl Try.func14 (by kernel_rfl) rfl #[.agg #[.bool a0_0, .int .i64 a0_1, .int .i64 a0_2, .int .i64 a0_3, .int .i64 a0_4]] rfl (by (try simp only [List.map_toArray, List.map_cons, List.map_nil]); first | done | rfl | (simp only [List.length_drop, List.length_take]; rfl)) ?_; (with_reducible refine (rtt_Double.calls k a0_0 a0_1 a0_2 a0_3 a0_4 t152 t153 t154 t155 t156 t157 _ A4.out).mono ?_); rintro e w9 ⟨rfl, hb⟩; refine ⟨_, rfl, ?_⟩; have n0_ := Aside0.mk (blk_below (g := gb150) (o := .cells #[.bool a0_0, .int .i64 a0_1, .int .i64 a0_2, .int .i64 a0_3, .int .i64 a0_4] 23 (0, 0)) (by (with_reducible repeat (first | refine blk_drewN ?_ _ | refine blk_drew ?_ | refine blk_alloc ?_ _)); exact BK150.out) hb); have n1_ := Aside0.mk (below_step (by repeat (first | (with_reducible first | exact HB.out | apply below_alloc | apply pw_below_drewN | apply below_drew1 | refine below_set ?_ GE150.out) | exact HB.out)) hb); clear BK150; clear HB; have BK150 := n0_; have HB := n1_; clear n0_ n1_; (try clear hb); (try clear hb2); (try clear hk); (try clear hi)) | ((with_reducible refine gate_dst (N := 6) rfl ?_); refine box_event ?hg (N := 6) ?hd (cs := #[.bool false, .int .i64 0, .int .i64 0, .int .i64 0, .int .i64 0]) (t := 23) ?hr ?_; (case hd => rfl); (case hg => rfl); (case hr => first | (go_simp; done) | (go_simp; rfl)); intro gb158 hg w10 hbox hb; have n0_ := Aside0.mk (blk_below (g := gb150) (o := .cells #[.bool a0_0, .int .i64 a0_1, .int .i64 a0_2, .int .i64 a0_3, .int .i64 a0_4] 23 (0, 0)) (by (with_reducible repeat (first | refine blk_drewN ?_ _ | refine blk_drew ?_ | refine blk_alloc ?_ _)); exact BK150.out) hb); have n1_ := Aside0.mk (below_step (by repeat (first | (with_reducible first | exact HB.out | apply below_alloc | apply pw_below_drewN | apply below_drew1 | refine below_set ?_ GE150.out) | exact HB.out)) hb); have n2_ := Aside0.mk (hbox); have n3_ := Aside0.mk ((by rw [hg]; exact (below_size (by repeat (first | (with_reducible first | exact HB.out | apply below_alloc | apply pw_below_drewN | apply below_drew1 | refine below_set ?_ GE150.out) | exact HB.out))) : w.heap.size ≤ gb158)); have n4_ := Aside0.mk ((by rw [hg]; exact (below_size (by repeat (first | (with_reducible first | exact HB.out | apply below_alloc | apply pw_below_drewN | apply below_drew1 | refine below_set ?_ GE150.out) | exact HB.out))) : w.heap.size ≤ gb158)); have n5_ := Aside0.mk ((by rw [hg]; exact Nat.ne_of_lt (blk_lt (g := gb150) (o := .cells #[.bool a0_0, .int .i64 a0_1, .int .i64 a0_2, .int .i64 a0_3, .int .i64 a0_4] 23 (0, 0)) (by (with_reducible repeat (first | refine blk_drewN ?_ _ | refine blk_drew ?_ | refine blk_alloc ?_ _)); exact BK150.out)) : gb150 ≠ gb158)); have n6_ := Aside0.mk ((by rw [hg]; exact Nat.ne_of_gt (blk_lt (g := gb150) (o := .cells #[.bool a0_0, .int .i64 a0_1, .int .i64 a0_2, .int .i64 a0_3, .int .i64 a0_4] 23 (0, 0)) (by (with_reducible repeat (first | refine blk_drewN ?_ _ | refine blk_drew ?_ | refine blk_alloc ?_ _)); exact BK150.out)) : gb158 ≠ gb150)); clear BK150; clear HB; have BK150 := n0_; have HB := n1_; have BK158 := n2_; have GW158 := n3_; have GE158 := n4_; have NB150_158 := n5_; have NB158_150 := n6_; clear n0_ n1_ n2_ n3_ n4_ n5_ n6_; clear hb hbox hg; have hnb11 := NB158_150.out; have hnc11 := NB150_158.out; have hcz12_0 : w10.cell? ⟨gb158, 0, none⟩ = some (.bool false) := (blk_cell BK158.out 0).trans rfl; have hcz12_1 : w10.cell? ⟨gb158, 1, none⟩ = some (.int .i64 0) := (blk_cell BK158.out 1).trans rfl; have hcz12_2 : w10.cell? ⟨gb158, 2, none⟩ = some (.int .i64 0) := (blk_cell BK158.out 2).trans rfl; have hcz12_3 : w10.cell? ⟨gb158, 3, none⟩ = some (.int .i64 0) := (blk_cell BK158.out 3).trans rfl; have hcz12_4 : w10.cell? ⟨gb158, 4, none⟩ = some (.int .i64 0) := (blk_cell BK158.out 4).trans rfl; have hfz12_0 := blk_frozen BK158.out 0; have hfz12_1 := blk_frozen BK158.out 1; have hfz12_2 := blk_frozen BK158.out 2; have hfz12_3 := blk_frozen BK158.out 3; have hfz12_4 := blk_frozen BK158.out 4))
  (try simp only [Act.put, List.setIfInBounds_toArray, List.set_cons_zero, List.set_cons_succ])
  go_cut [32] (fun v32 wc => ∃ (kq : Nat) (x32_4 : Bool), v32 = .bool x32_4 ∧ Aside0 (fourinhandlaw08_RttDoubles.j0 kq a1 t151 x32_4 a0_0 a0_1 a0_2 a0_3 a0_4 t152 t153 t154 t155 t156 = some r) ∧ Aside0 (kq ≤ k) ∧ Aside0 (wc.heap[gb150]? = some (.cells #[.bool a0_0, .int .i64 a0_1, .int .i64 a0_2, .int .i64 a0_3, .int .i64 a0_4] 23 (0, 0))) ∧ Aside0 (wc.heap[gb158]? = some (.cells #[.bool t152, .int .i64 t153, .int .i64 t154, .int .i64 t155, .int .i64 t156] 23 (0, 0))) ∧ Aside0 (Below w.heap.size w wc))
  case first =>
    have H := HC5.out
    clear HC5
    by_cases c13 : t151 = true
    · subst c13
      have H1 : (if t157 = 0 then (if a1 < 1 then (fourinhandlaw08_RttDoubles.j0 k a1 true true a0_0 a0_1 a0_2 a0_3 a0_4 t152 t153 t154 t155 t156) else (fourinhandlaw08_RttDoubles.j0 k a1 true (decide (a1 > 1099511627776)) a0_0 a0_1 a0_2 a0_3 a0_4 t152 t153 t154 t155 t156)) else (fourinhandlaw08_RttDoubles.j0 k a1 true true a0_0 a0_1 a0_2 a0_3 a0_4 t152 t153 t154 t155 t156)) = some r := by rw [if_pos rfl] at H; exact H
      clear H
      have H := H1
      clear H1
      by_cases c14 : t157 = 0
      · rw [if_pos c14] at H
        have c14b0 : (t157 == 0) = true := beq_iff_eq.mpr c14
        have c14b1 : (t157 != 0) = false := bne_eq_false_iff_eq.mpr c14
        clear c14
        (first | rw [c14b0] | (simp only [i64_w, i32_w]; rw [c14b0]) | skip)
        by_cases c15 : a1 < 1
        · rw [if_pos c15] at H
          have c15b0 : decide (a1 < 1) = true := decide_eq_true c15
          clear c15
          have H' := Aside0.mk H
          clear H
          go_wp2
          go_meet
          case rel => exact ⟨_, (true), (by first | rfl | (simp; done) | (simp [*]; done)), H', ⟨by first | omega | exact Nat.le_refl _⟩, ⟨by (with_reducible repeat (first | refine blk_drewN ?_ _ | refine blk_drew ?_ | refine blk_alloc ?_ _)); refine blk_far ?_ NB150_158.out _; (with_reducible repeat (first | refine blk_drewN ?_ _ | refine blk_drew ?_ | refine blk_alloc ?_ _)); refine blk_far ?_ NB150_158.out _; (with_reducible repeat (first | refine blk_drewN ?_ _ | refine blk_drew ?_ | refine blk_alloc ?_ _)); refine blk_far ?_ NB150_158.out _; (with_reducible repeat (first | refine blk_drewN ?_ _ | refine blk_drew ?_ | refine blk_alloc ?_ _)); refine blk_far ?_ NB150_158.out _; (with_reducible repeat (first | refine blk_drewN ?_ _ | refine blk_drew ?_ | refine blk_alloc ?_ _)); refine blk_far ?_ NB150_158.out _; (with_reducible repeat (first | refine blk_drewN ?_ _ | refine blk_drew ?_ | refine blk_alloc ?_ _)); exact BK150.out⟩, ⟨by (with_reducible repeat (first | refine blk_drewN ?_ _ | refine blk_drew ?_ | refine blk_alloc ?_ _)); refine blk_put (cs := #[.bool t152, .int .i64 t153, .int .i64 t154, .int .i64 t155, .int .i64 0]) ?_ 4 _ rfl; (with_reducible repeat (first | refine blk_drewN ?_ _ | refine blk_drew ?_ | refine blk_alloc ?_ _)); refine blk_put (cs := #[.bool t152, .int .i64 t153, .int .i64 t154, .int .i64 0, .int .i64 0]) ?_ 3 _ rfl; (with_reducible repeat (first | refine blk_drewN ?_ _ | refine blk_drew ?_ | refine blk_alloc ?_ _)); refine blk_put (cs := #[.bool t152, .int .i64 t153, .int .i64 0, .int .i64 0, .int .i64 0]) ?_ 2 _ rfl; (with_reducible repeat (first | refine blk_drewN ?_ _ | refine blk_drew ?_ | refine blk_alloc ?_ _)); refine blk_put (cs := #[.bool t152, .int .i64 0, .int .i64 0, .int .i64 0, .int .i64 0]) ?_ 1 _ rfl; (with_reducible repeat (first | refine blk_drewN ?_ _ | refine blk_drew ?_ | refine blk_alloc ?_ _)); refine blk_put (cs := #[.bool false, .int .i64 0, .int .i64 0, .int .i64 0, .int .i64 0]) ?_ 0 _ rfl; (with_reducible repeat (first | refine blk_drewN ?_ _ | refine blk_drew ?_ | refine blk_alloc ?_ _)); exact BK158.out⟩, ⟨by repeat (first | (with_reducible first | exact HB.out | apply below_alloc | apply pw_below_drewN | apply below_drew1 | refine below_set ?_ GE150.out | refine below_set ?_ GE158.out) | exact HB.out)⟩⟩
        · rw [if_neg c15] at H
          have c15b0 : decide (a1 < 1) = false := decide_eq_false c15
          clear c15
          have H' := Aside0.mk H
          clear H
          go_wp2
          go_meet
          case rel => exact ⟨_, (decide (a1 > 1099511627776)), (by first | rfl | (simp; done) | (simp [*]; done)), H', ⟨by first | omega | exact Nat.le_refl _⟩, ⟨by (with_reducible repeat (first | refine blk_drewN ?_ _ | refine blk_drew ?_ | refine blk_alloc ?_ _)); refine blk_far ?_ NB150_158.out _; (with_reducible repeat (first | refine blk_drewN ?_ _ | refine blk_drew ?_ | refine blk_alloc ?_ _)); refine blk_far ?_ NB150_158.out _; (with_reducible repeat (first | refine blk_drewN ?_ _ | refine blk_drew ?_ | refine blk_alloc ?_ _)); refine blk_far ?_ NB150_158.out _; (with_reducible repeat (first | refine blk_drewN ?_ _ | refine blk_drew ?_ | refine blk_alloc ?_ _)); refine blk_far ?_ NB150_158.out _; (with_reducible repeat (first | refine blk_drewN ?_ _ | refine blk_drew ?_ | refine blk_alloc ?_ _)); refine blk_far ?_ NB150_158.out _; (with_reducible repeat (first | refine blk_drewN ?_ _ | refine blk_drew ?_ | refine blk_alloc ?_ _)); exact BK150.out⟩, ⟨by (with_reducible repeat (first | refine blk_drewN ?_ _ | refine blk_drew ?_ | refine blk_alloc ?_ _)); refine blk_put (cs := #[.bool t152, .int .i64 t153, .int .i64 t154, .int .i64 t155, .int .i64 0]) ?_ 4 _ rfl; (with_reducible repeat (first | refine blk_drewN ?_ _ | refine blk_drew ?_ | refine blk_alloc ?_ _)); refine blk_put (cs := #[.bool t152, .int .i64 t153, .int .i64 t154, .int .i64 0, .int .i64 0]) ?_ 3 _ rfl; (with_reducible repeat (first | refine blk_drewN ?_ _ | refine blk_drew ?_ | refine blk_alloc ?_ _)); refine blk_put (cs := #[.bool t152, .int .i64 t153, .int .i64 0, .int .i64 0, .int .i64 0]) ?_ 2 _ rfl; (with_reducible repeat (first | refine blk_drewN ?_ _ | refine blk_drew ?_ | refine blk_alloc ?_ _)); refine blk_put (cs := #[.bool t152, .int .i64 0, .int .i64 0, .int .i64 0, .int .i64 0]) ?_ 1 _ rfl; (with_reducible repeat (first | refine blk_drewN ?_ _ | refine blk_drew ?_ | refine blk_alloc ?_ _)); refine blk_put (cs := #[.bool false, .int .i64 0, .int .i64 0, .int .i64 0, .int .i64 0]) ?_ 0 _ rfl; (with_reducible repeat (first | refine blk_drewN ?_ _ | refine blk_drew ?_ | refine blk_alloc ?_ _)); exact BK158.out⟩, ⟨by repeat (first | (with_reducible first | exact HB.out | apply below_alloc | apply pw_below_drewN | apply below_drew1 | refine below_set ?_ GE150.out | refine below_set ?_ GE158.out) | exact HB.out)⟩⟩
      · rw [if_neg c14] at H
        have c14b0 : (t157 == 0) = false := beq_eq_false_iff_ne.mpr c14
        have c14b1 : (t157 != 0) = true := bne_iff_ne.mpr c14
        (first | rw [c14b0] | (simp only [i64_w, i32_w]; rw [c14b0]) | skip)
        have H' := Aside0.mk H
        clear H
        go_wp2
        go_meet
        case rel => exact ⟨_, (true), (by first | rfl | (simp; done) | (simp [*]; done)), H', ⟨by first | omega | exact Nat.le_refl _⟩, ⟨by (with_reducible repeat (first | refine blk_drewN ?_ _ | refine blk_drew ?_ | refine blk_alloc ?_ _)); refine blk_far ?_ NB150_158.out _; (with_reducible repeat (first | refine blk_drewN ?_ _ | refine blk_drew ?_ | refine blk_alloc ?_ _)); refine blk_far ?_ NB150_158.out _; (with_reducible repeat (first | refine blk_drewN ?_ _ | refine blk_drew ?_ | refine blk_alloc ?_ _)); refine blk_far ?_ NB150_158.out _; (with_reducible repeat (first | refine blk_drewN ?_ _ | refine blk_drew ?_ | refine blk_alloc ?_ _)); refine blk_far ?_ NB150_158.out _; (with_reducible repeat (first | refine blk_drewN ?_ _ | refine blk_drew ?_ | refine blk_alloc ?_ _)); refine blk_far ?_ NB150_158.out _; (with_reducible repeat (first | refine blk_drewN ?_ _ | refine blk_drew ?_ | refine blk_alloc ?_ _)); exact BK150.out⟩, ⟨by (with_reducible repeat (first | refine blk_drewN ?_ _ | refine blk_drew ?_ | refine blk_alloc ?_ _)); refine blk_put (cs := #[.bool t152, .int .i64 t153, .int .i64 t154, .int .i64 t155, .int .i64 0]) ?_ 4 _ rfl; (with_reducible repeat (first | refine blk_drewN ?_ _ | refine blk_drew ?_ | refine blk_alloc ?_ _)); refine blk_put (cs := #[.bool t152, .int .i64 t153, .int .i64 t154, .int .i64 0, .int .i64 0]) ?_ 3 _ rfl; (with_reducible repeat (first | refine blk_drewN ?_ _ | refine blk_drew ?_ | refine blk_alloc ?_ _)); refine blk_put (cs := #[.bool t152, .int .i64 t153, .int .i64 0, .int .i64 0, .int .i64 0]) ?_ 2 _ rfl; (with_reducible repeat (first | refine blk_drewN ?_ _ | refine blk_drew ?_ | refine blk_alloc ?_ _)); refine blk_put (cs := #[.bool t152, .int .i64 0, .int .i64 0, .int .i64 0, .int .i64 0]) ?_ 1 _ rfl; (with_reducible repeat (first | refine blk_drewN ?_ _ | refine blk_drew ?_ | refine blk_alloc ?_ _)); refine blk_put (cs := #[.bool false, .int .i64 0, .int .i64 0, .int .i64 0, .int .i64 0]) ?_ 0 _ rfl; (with_reducible repeat (first | refine blk_drewN ?_ _ | refine blk_drew ?_ | refine blk_alloc ?_ _)); exact BK158.out⟩, ⟨by repeat (first | (with_reducible first | exact HB.out | apply below_alloc | apply pw_below_drewN | apply below_drew1 | refine below_set ?_ GE150.out | refine below_set ?_ GE158.out) | exact HB.out)⟩⟩
    · replace c13 := Bool.eq_false_iff.mpr c13
      subst c13
      have H1 : (fourinhandlaw08_RttDoubles.j0 k a1 false true a0_0 a0_1 a0_2 a0_3 a0_4 t152 t153 t154 t155 t156) = some r := by rw [if_neg (show ¬ (false = true) by decide)] at H; exact H
      clear H
      have H := H1
      clear H1
      have H' := Aside0.mk H
      clear H
      go_wp2
      go_meet
      case rel => exact ⟨_, (true), (by first | rfl | (simp; done) | (simp [*]; done)), H', ⟨by first | omega | exact Nat.le_refl _⟩, ⟨by (with_reducible repeat (first | refine blk_drewN ?_ _ | refine blk_drew ?_ | refine blk_alloc ?_ _)); refine blk_far ?_ NB150_158.out _; (with_reducible repeat (first | refine blk_drewN ?_ _ | refine blk_drew ?_ | refine blk_alloc ?_ _)); refine blk_far ?_ NB150_158.out _; (with_reducible repeat (first | refine blk_drewN ?_ _ | refine blk_drew ?_ | refine blk_alloc ?_ _)); refine blk_far ?_ NB150_158.out _; (with_reducible repeat (first | refine blk_drewN ?_ _ | refine blk_drew ?_ | refine blk_alloc ?_ _)); refine blk_far ?_ NB150_158.out _; (with_reducible repeat (first | refine blk_drewN ?_ _ | refine blk_drew ?_ | refine blk_alloc ?_ _)); refine blk_far ?_ NB150_158.out _; (with_reducible repeat (first | refine blk_drewN ?_ _ | refine blk_drew ?_ | refine blk_alloc ?_ _)); exact BK150.out⟩, ⟨by (with_reducible repeat (first | refine blk_drewN ?_ _ | refine blk_drew ?_ | refine blk_alloc ?_ _)); refine blk_put (cs := #[.bool t152, .int .i64 t153, .int .i64 t154, .int .i64 t155, .int .i64 0]) ?_ 4 _ rfl; (with_reducible repeat (first | refine blk_drewN ?_ _ | refine blk_drew ?_ | refine blk_alloc ?_ _)); refine blk_put (cs := #[.bool t152, .int .i64 t153, .int .i64 t154, .int .i64 0, .int .i64 0]) ?_ 3 _ rfl; (with_reducible repeat (first | refine blk_drewN ?_ _ | refine blk_drew ?_ | refine blk_alloc ?_ _)); refine blk_put (cs := #[.bool t152, .int .i64 t153, .int .i64 0, .int .i64 0, .int .i64 0]) ?_ 2 _ rfl; (with_reducible repeat (first | refine blk_drewN ?_ _ | refine blk_drew ?_ | refine blk_alloc ?_ _)); refine blk_put (cs := #[.bool t152, .int .i64 0, .int .i64 0, .int .i64 0, .int .i64 0]) ?_ 1 _ rfl; (with_reducible repeat (first | refine blk_drewN ?_ _ | refine blk_drew ?_ | refine blk_alloc ?_ _)); refine blk_put (cs := #[.bool false, .int .i64 0, .int .i64 0, .int .i64 0, .int .i64 0]) ?_ 0 _ rfl; (with_reducible repeat (first | refine blk_drewN ?_ _ | refine blk_drew ?_ | refine blk_alloc ?_ _)); exact BK158.out⟩, ⟨by repeat (first | (with_reducible first | exact HB.out | apply below_alloc | apply pw_below_drewN | apply below_drew1 | refine below_set ?_ GE150.out | refine below_set ?_ GE158.out) | exact HB.out)⟩⟩
  case rest =>
    clear HC5
    try clear c1
    try clear p2
    try clear c8
    try clear c9
    try clear c11
    try clear c13
    try clear c14
    try clear c14b0
    try clear c14b1
    try clear c15
    try clear c15b0
    try clear hcz12_0
    try clear hcz12_1
    try clear hcz12_2
    try clear hcz12_3
    try clear hcz12_4
    try clear hcz8_0
    try clear hcz8_1
    try clear hcz8_2
    try clear hcz8_3
    try clear hcz8_4
    try clear hfz12_0
    try clear hfz12_1
    try clear hfz12_2
    try clear hfz12_3
    try clear hfz12_4
    try clear hfz8_0
    try clear hfz8_1
    try clear hfz8_2
    try clear hfz8_3
    try clear hfz8_4
    obtain ⟨kq, x32_4, rfl, HA, HJ4, BK150, BK158, HB⟩ := hcut
    cases kq with
    | zero => exact absurd HA.out (by simp [fourinhandlaw08_RttDoubles.j0])
    | succ kj4 =>
      have H := HA.out
      clear HA
      simp only [fourinhandlaw08_RttDoubles.j0] at H
      by_cases c16 : x32_4 = true
      · subst c16
        have H1 : (some t151) = some r := by rw [if_pos rfl] at H; exact H
        clear H
        have H := H1
        clear H1
        obtain rfl := Option.some.inj H
        go_wp2
        go_ret
        exact ⟨by first | rfl | (simp [errW_none, errW_some] <;> rfl) | (simp [*, errW_none, errW_some] <;> rfl), by repeat (first | (with_reducible first | exact HB.out | apply below_alloc | apply pw_below_drewN | apply below_drew1 | refine below_set ?_ GE150.out | refine below_set ?_ GE158.out) | exact HB.out)⟩
      · replace c16 := Bool.eq_false_iff.mpr c16
        subst c16
        have H1 : ((rtt_Wait.f kj4 a0_0 a0_1 a0_2 a0_3 a0_4 a1).bind fun t159 => ((rtt_Wait.f kj4 t152 t153 t154 t155 t156 a1).bind fun t160 => (if t159 < 0 then (fourinhandlaw08_RttDoubles.j1 kj4 true a0_0 a0_1 a0_2 a0_3 a0_4 t152 t153 t154 t155 t156) else (if t159 > a1 then (fourinhandlaw08_RttDoubles.j1 kj4 true a0_0 a0_1 a0_2 a0_3 a0_4 t152 t153 t154 t155 t156) else (if t160 < t159 then (fourinhandlaw08_RttDoubles.j1 kj4 true a0_0 a0_1 a0_2 a0_3 a0_4 t152 t153 t154 t155 t156) else (if t160 > a1 then (fourinhandlaw08_RttDoubles.j1 kj4 true a0_0 a0_1 a0_2 a0_3 a0_4 t152 t153 t154 t155 t156) else (if t160 > (wrap64 (2 * t159)) then (fourinhandlaw08_RttDoubles.j1 kj4 true a0_0 a0_1 a0_2 a0_3 a0_4 t152 t153 t154 t155 t156) else (if a0_4 = 16 then (fourinhandlaw08_RttDoubles.j1 kj4 (!(t152 == a0_0) || (!(t153 == a0_1) || (!(t154 == a0_2) || (!(t155 == a0_3) || (!(t156 == a0_4)))))) a0_0 a0_1 a0_2 a0_3 a0_4 t152 t153 t154 t155 t156) else (fourinhandlaw08_RttDoubles.j1 kj4 false a0_0 a0_1 a0_2 a0_3 a0_4 t152 t153 t154 t155 t156))))))))) = some r := by rw [if_neg (show ¬ (false = true) by decide)] at H; exact H
        clear H
        have H := H1
        clear H1
        replace H := Option.bind_eq_some_iff.mp H
        obtain ⟨t159, A170, H⟩ := H
        replace H : ((rtt_Wait.f kj4 t152 t153 t154 t155 t156 a1).bind fun t160 => (if t159 < 0 then (fourinhandlaw08_RttDoubles.j1 kj4 true a0_0 a0_1 a0_2 a0_3 a0_4 t152 t153 t154 t155 t156) else (if t159 > a1 then (fourinhandlaw08_RttDoubles.j1 kj4 true a0_0 a0_1 a0_2 a0_3 a0_4 t152 t153 t154 t155 t156) else (if t160 < t159 then (fourinhandlaw08_RttDoubles.j1 kj4 true a0_0 a0_1 a0_2 a0_3 a0_4 t152 t153 t154 t155 t156) else (if t160 > a1 then (fourinhandlaw08_RttDoubles.j1 kj4 true a0_0 a0_1 a0_2 a0_3 a0_4 t152 t153 t154 t155 t156) else (if t160 > (wrap64 (2 * t159)) then (fourinhandlaw08_RttDoubles.j1 kj4 true a0_0 a0_1 a0_2 a0_3 a0_4 t152 t153 t154 t155 t156) else (if a0_4 = 16 then (fourinhandlaw08_RttDoubles.j1 kj4 (!(t152 == a0_0) || (!(t153 == a0_1) || (!(t154 == a0_2) || (!(t155 == a0_3) || (!(t156 == a0_4)))))) a0_0 a0_1 a0_2 a0_3 a0_4 t152 t153 t154 t155 t156) else (fourinhandlaw08_RttDoubles.j1 kj4 false a0_0 a0_1 a0_2 a0_3 a0_4 t152 t153 t154 t155 t156)))))))) = some r := H
        have A17 := Aside0.mk A170
        clear A170
        replace H := Option.bind_eq_some_iff.mp H
        obtain ⟨t160, A180, H⟩ := H
        replace H : (if t159 < 0 then (fourinhandlaw08_RttDoubles.j1 kj4 true a0_0 a0_1 a0_2 a0_3 a0_4 t152 t153 t154 t155 t156) else (if t159 > a1 then (fourinhandlaw08_RttDoubles.j1 kj4 true a0_0 a0_1 a0_2 a0_3 a0_4 t152 t153 t154 t155 t156) else (if t160 < t159 then (fourinhandlaw08_RttDoubles.j1 kj4 true a0_0 a0_1 a0_2 a0_3 a0_4 t152 t153 t154 t155 t156) else (if t160 > a1 then (fourinhandlaw08_RttDoubles.j1 kj4 true a0_0 a0_1 a0_2 a0_3 a0_4 t152 t153 t154 t155 t156) else (if t160 > (wrap64 (2 * t159)) then (fourinhandlaw08_RttDoubles.j1 kj4 true a0_0 a0_1 a0_2 a0_3 a0_4 t152 t153 t154 t155 t156) else (if a0_4 = 16 then (fourinhandlaw08_RttDoubles.j1 kj4 (!(t152 == a0_0) || (!(t153 == a0_1) || (!(t154 == a0_2) || (!(t155 == a0_3) || (!(t156 == a0_4)))))) a0_0 a0_1 a0_2 a0_3 a0_4 t152 t153 t154 t155 t156) else (fourinhandlaw08_RttDoubles.j1 kj4 false a0_0 a0_1 a0_2 a0_3 a0_4 t152 t153 t154 t155 t156))))))) = some r := H
        have A18 := Aside0.mk A180
        clear A180
        have HC19 := Aside0.mk H
        clear H
        have hnb20 := NB150_158.out
        have hnc20 := NB158_150.out
        have hcz21_0 : wc.cell? ⟨gb150, 0, none⟩ = some (.bool a0_0) := (blk_cell BK150.out 0).trans rfl
        have hcz21_1 : wc.cell? ⟨gb150, 1, none⟩ = some (.int .i64 a0_1) := (blk_cell BK150.out 1).trans rfl
        have hcz21_2 : wc.cell? ⟨gb150, 2, none⟩ = some (.int .i64 a0_2) := (blk_cell BK150.out 2).trans rfl
        have hcz21_3 : wc.cell? ⟨gb150, 3, none⟩ = some (.int .i64 a0_3) := (blk_cell BK150.out 3).trans rfl
        have hcz21_4 : wc.cell? ⟨gb150, 4, none⟩ = some (.int .i64 a0_4) := (blk_cell BK150.out 4).trans rfl
        have hfz21_0 := blk_frozen BK150.out 0
        have hfz21_1 := blk_frozen BK150.out 1
        have hfz21_2 := blk_frozen BK150.out 2
        have hfz21_3 := blk_frozen BK150.out 3
        have hfz21_4 := blk_frozen BK150.out 4
        go_upto_region 7 with (first | ((with_reducible refine gate_callee (f := 11) rfl ?_); refine goesL_ (some 36) rfl rfl Try.func11 (by kernel_rfl) rfl #[.agg #[.bool a0_0, .int .i64 a0_1, .int .i64 a0_2, .int .i64 a0_3, .int .i64 a0_4], .int .i64 a1] rfl (by (try simp only [List.map_toArray, List.map_cons, List.map_nil]); first | done | rfl | (simp only [List.length_drop, List.length_take]; rfl)) ?_; (with_reducible refine (rtt_Wait.calls kj4 a0_0 a0_1 a0_2 a0_3 a0_4 a1 t159 _ A17.out).mono ?_); rintro e w22 ⟨rfl, hb⟩; refine ⟨_, rfl, ?_⟩; have n0_ := Aside0.mk (blk_below (g := gb150) (o := .cells #[.bool a0_0, .int .i64 a0_1, .int .i64 a0_2, .int .i64 a0_3, .int .i64 a0_4] 23 (0, 0)) (by (with_reducible repeat (first | refine blk_drewN ?_ _ | refine blk_drew ?_ | refine blk_alloc ?_ _)); exact BK150.out) hb); have n1_ := Aside0.mk (blk_below (g := gb158) (o := .cells #[.bool t152, .int .i64 t153, .int .i64 t154, .int .i64 t155, .int .i64 t156] 23 (0, 0)) (by (with_reducible repeat (first | refine blk_drewN ?_ _ | refine blk_drew ?_ | refine blk_alloc ?_ _)); exact BK158.out) hb); have n2_ := Aside0.mk (below_step (by repeat (first | (with_reducible first | exact HB.out | apply below_alloc | apply pw_below_drewN | apply below_drew1 | refine below_set ?_ GE150.out | refine below_set ?_ GE158.out) | exact HB.out)) hb); clear BK150; clear BK158; clear HB; have BK150 := n0_; have BK158 := n1_; have HB := n2_; clear n0_ n1_ n2_; (try clear hb); (try clear hb2); (try clear hk); (try clear hi); have hcz23_0 : w22.cell? ⟨gb158, 0, none⟩ = some (.bool t152) := (blk_cell BK158.out 0).trans rfl; have hcz23_1 : w22.cell? ⟨gb158, 1, none⟩ = some (.int .i64 t153) := (blk_cell BK158.out 1).trans rfl; have hcz23_2 : w22.cell? ⟨gb158, 2, none⟩ = some (.int .i64 t154) := (blk_cell BK158.out 2).trans rfl; have hcz23_3 : w22.cell? ⟨gb158, 3, none⟩ = some (.int .i64 t155) := (blk_cell BK158.out 3).trans rfl; have hcz23_4 : w22.cell? ⟨gb158, 4, none⟩ = some (.int .i64 t156) := (blk_cell BK158.out 4).trans rfl; have hfz23_0 := blk_frozen BK158.out 0; have hfz23_1 := blk_frozen BK158.out 1; have hfz23_2 := blk_frozen BK158.out 2; have hfz23_3 := blk_frozen BK158.out 3; have hfz23_4 := blk_frozen BK158.out 4) | ((with_reducible refine gate_callee (f := 11) rfl ?_); refine goesL_ (some 39) rfl rfl Try.func11 (by kernel_rfl) rfl #[.agg #[.bool t152, .int .i64 t153, .int .i64 t154, .int .i64 t155, .int .i64 t156], .int .i64 a1] rfl (by (try simp only [List.map_toArray, List.map_cons, List.map_nil]); first | done | rfl | (simp only [List.length_drop, List.length_take]; rfl)) ?_; (with_reducible refine (rtt_Wait.calls kj4 t152 t153 t154 t155 t156 a1 t160 _ A18.out).mono ?_); rintro e w24 ⟨rfl, hb⟩; refine ⟨_, rfl, ?_⟩; have n0_ := Aside0.mk (blk_below (g := gb150) (o := .cells #[.bool a0_0, .int .i64 a0_1, .int .i64 a0_2, .int .i64 a0_3, .int .i64 a0_4] 23 (0, 0)) (by (with_reducible repeat (first | refine blk_drewN ?_ _ | refine blk_drew ?_ | refine blk_alloc ?_ _)); exact BK150.out) hb); have n1_ := Aside0.mk (blk_below (g := gb158) (o := .cells #[.bool t152, .int .i64 t153, .int .i64 t154, .int .i64 t155, .int .i64 t156] 23 (0, 0)) (by (with_reducible repeat (first | refine blk_drewN ?_ _ | refine blk_drew ?_ | refine blk_alloc ?_ _)); exact BK158.out) hb); have n2_ := Aside0.mk (below_step (by repeat (first | (with_reducible first | exact HB.out | apply below_alloc | apply pw_below_drewN | apply below_drew1 | refine below_set ?_ GE150.out | refine below_set ?_ GE158.out) | exact HB.out)) hb); clear BK150; clear BK158; clear HB; have BK150 := n0_; have BK158 := n1_; have HB := n2_; clear n0_ n1_ n2_; (try clear hb); (try clear hb2); (try clear hk); (try clear hi)))
        (try simp only [Act.put, List.setIfInBounds_toArray, List.set_cons_zero, List.set_cons_succ])
        go_cut [72] (fun v72 wc => ∃ (kq : Nat) (x72_18 : Bool), v72 = .bool x72_18 ∧ Aside0 (fourinhandlaw08_RttDoubles.j1 kq x72_18 a0_0 a0_1 a0_2 a0_3 a0_4 t152 t153 t154 t155 t156 = some r) ∧ Aside0 (kq ≤ kj4) ∧ Aside0 (wc.heap[gb150]? = some (.cells #[.bool a0_0, .int .i64 a0_1, .int .i64 a0_2, .int .i64 a0_3, .int .i64 a0_4] 23 (0, 0))) ∧ Aside0 (wc.heap[gb158]? = some (.cells #[.bool t152, .int .i64 t153, .int .i64 t154, .int .i64 t155, .int .i64 t156] 23 (0, 0))) ∧ Aside0 (Below w.heap.size w wc))
        case first =>
          have H := HC19.out
          clear HC19
          by_cases c25 : t159 < 0
          · rw [if_pos c25] at H
            have c25b0 : decide (t159 < 0) = true := decide_eq_true c25
            clear c25
            (first | rw [c25b0] | (simp only [i64_w, i32_w]; rw [c25b0]) | skip)
            have H' := Aside0.mk H
            clear H
            go_wp2
            go_meet
            case rel => exact ⟨_, (true), (by first | rfl | (simp; done) | (simp [*]; done)), H', ⟨by have := HJ4.out; first | omega | exact Nat.le_refl _⟩, ⟨by (with_reducible repeat (first | refine blk_drewN ?_ _ | refine blk_drew ?_ | refine blk_alloc ?_ _)); exact BK150.out⟩, ⟨by (with_reducible repeat (first | refine blk_drewN ?_ _ | refine blk_drew ?_ | refine blk_alloc ?_ _)); exact BK158.out⟩, ⟨by repeat (first | (with_reducible first | exact HB.out | apply below_alloc | apply pw_below_drewN | apply below_drew1 | refine below_set ?_ GE150.out | refine below_set ?_ GE158.out) | exact HB.out)⟩⟩
          · rw [if_neg c25] at H
            have c25b0 : decide (t159 < 0) = false := decide_eq_false c25
            clear c25
            (first | rw [c25b0] | (simp only [i64_w, i32_w]; rw [c25b0]) | skip)
            by_cases c26 : t159 > a1
            · rw [if_pos c26] at H
              have c26b0 : decide (a1 < t159) = true := decide_eq_true c26
              clear c26
              have H' := Aside0.mk H
              clear H
              go_wp2
              go_meet
              case rel => exact ⟨_, (true), (by first | rfl | (simp; done) | (simp [*]; done)), H', ⟨by have := HJ4.out; first | omega | exact Nat.le_refl _⟩, ⟨by (with_reducible repeat (first | refine blk_drewN ?_ _ | refine blk_drew ?_ | refine blk_alloc ?_ _)); exact BK150.out⟩, ⟨by (with_reducible repeat (first | refine blk_drewN ?_ _ | refine blk_drew ?_ | refine blk_alloc ?_ _)); exact BK158.out⟩, ⟨by repeat (first | (with_reducible first | exact HB.out | apply below_alloc | apply pw_below_drewN | apply below_drew1 | refine below_set ?_ GE150.out | refine below_set ?_ GE158.out) | exact HB.out)⟩⟩
            · rw [if_neg c26] at H
              have c26b0 : decide (a1 < t159) = false := decide_eq_false c26
              clear c26
              by_cases c27 : t160 < t159
              · rw [if_pos c27] at H
                have c27b0 : decide (t160 < t159) = true := decide_eq_true c27
                clear c27
                have H' := Aside0.mk H
                clear H
                go_wp2
                go_meet
                case rel => exact ⟨_, (true), (by first | rfl | (simp; done) | (simp [*]; done)), H', ⟨by have := HJ4.out; first | omega | exact Nat.le_refl _⟩, ⟨by (with_reducible repeat (first | refine blk_drewN ?_ _ | refine blk_drew ?_ | refine blk_alloc ?_ _)); exact BK150.out⟩, ⟨by (with_reducible repeat (first | refine blk_drewN ?_ _ | refine blk_drew ?_ | refine blk_alloc ?_ _)); exact BK158.out⟩, ⟨by repeat (first | (with_reducible first | exact HB.out | apply below_alloc | apply pw_below_drewN | apply below_drew1 | refine below_set ?_ GE150.out | refine below_set ?_ GE158.out) | exact HB.out)⟩⟩
              · rw [if_neg c27] at H
                have c27b0 : decide (t160 < t159) = false := decide_eq_false c27
                clear c27
                by_cases c28 : t160 > a1
                · rw [if_pos c28] at H
                  have c28b0 : decide (a1 < t160) = true := decide_eq_true c28
                  clear c28
                  have H' := Aside0.mk H
                  clear H
                  go_wp2
                  go_meet
                  case rel => exact ⟨_, (true), (by first | rfl | (simp; done) | (simp [*]; done)), H', ⟨by have := HJ4.out; first | omega | exact Nat.le_refl _⟩, ⟨by (with_reducible repeat (first | refine blk_drewN ?_ _ | refine blk_drew ?_ | refine blk_alloc ?_ _)); exact BK150.out⟩, ⟨by (with_reducible repeat (first | refine blk_drewN ?_ _ | refine blk_drew ?_ | refine blk_alloc ?_ _)); exact BK158.out⟩, ⟨by repeat (first | (with_reducible first | exact HB.out | apply below_alloc | apply pw_below_drewN | apply below_drew1 | refine below_set ?_ GE150.out | refine below_set ?_ GE158.out) | exact HB.out)⟩⟩
                · rw [if_neg c28] at H
                  have c28b0 : decide (a1 < t160) = false := decide_eq_false c28
                  clear c28
                  by_cases c29 : t160 > (wrap64 (2 * t159))
                  · rw [if_pos c29] at H
                    have c29b0 : decide ((wrap64 (2 * t159)) < t160) = true := decide_eq_true c29
                    clear c29
                    have H' := Aside0.mk H
                    clear H
                    go_wp2
                    go_meet
                    case rel => exact ⟨_, (true), (by first | rfl | (simp; done) | (simp [*]; done)), H', ⟨by have := HJ4.out; first | omega | exact Nat.le_refl _⟩, ⟨by (with_reducible repeat (first | refine blk_drewN ?_ _ | refine blk_drew ?_ | refine blk_alloc ?_ _)); exact BK150.out⟩, ⟨by (with_reducible repeat (first | refine blk_drewN ?_ _ | refine blk_drew ?_ | refine blk_alloc ?_ _)); exact BK158.out⟩, ⟨by repeat (first | (with_reducible first | exact HB.out | apply below_alloc | apply pw_below_drewN | apply below_drew1 | refine below_set ?_ GE150.out | refine below_set ?_ GE158.out) | exact HB.out)⟩⟩
                  · rw [if_neg c29] at H
                    have c29b0 : decide ((wrap64 (2 * t159)) < t160) = false := decide_eq_false c29
                    clear c29
                    by_cases c30 : a0_4 = 16
                    · rw [if_pos c30] at H
                      have c30b0 : (a0_4 == 16) = true := beq_iff_eq.mpr c30
                      have c30b1 : (a0_4 != 16) = false := bne_eq_false_iff_eq.mpr c30
                      clear c30
                      have H' := Aside0.mk H
                      clear H
                      have hnb31 := NB150_158.out
                      have hnc31 := NB158_150.out
                      have hcz32_0 : w24.cell? ⟨gb150, 0, none⟩ = some (.bool a0_0) := (blk_cell BK150.out 0).trans rfl
                      have hcz32_1 : w24.cell? ⟨gb150, 1, none⟩ = some (.int .i64 a0_1) := (blk_cell BK150.out 1).trans rfl
                      have hcz32_2 : w24.cell? ⟨gb150, 2, none⟩ = some (.int .i64 a0_2) := (blk_cell BK150.out 2).trans rfl
                      have hcz32_3 : w24.cell? ⟨gb150, 3, none⟩ = some (.int .i64 a0_3) := (blk_cell BK150.out 3).trans rfl
                      have hcz32_4 : w24.cell? ⟨gb150, 4, none⟩ = some (.int .i64 a0_4) := (blk_cell BK150.out 4).trans rfl
                      have hfz32_0 := blk_frozen BK150.out 0
                      have hfz32_1 := blk_frozen BK150.out 1
                      have hfz32_2 := blk_frozen BK150.out 2
                      have hfz32_3 := blk_frozen BK150.out 3
                      have hfz32_4 := blk_frozen BK150.out 4
                      have hcz33_0 : w24.cell? ⟨gb158, 0, none⟩ = some (.bool t152) := (blk_cell BK158.out 0).trans rfl
                      have hcz33_1 : w24.cell? ⟨gb158, 1, none⟩ = some (.int .i64 t153) := (blk_cell BK158.out 1).trans rfl
                      have hcz33_2 : w24.cell? ⟨gb158, 2, none⟩ = some (.int .i64 t154) := (blk_cell BK158.out 2).trans rfl
                      have hcz33_3 : w24.cell? ⟨gb158, 3, none⟩ = some (.int .i64 t155) := (blk_cell BK158.out 3).trans rfl
                      have hcz33_4 : w24.cell? ⟨gb158, 4, none⟩ = some (.int .i64 t156) := (blk_cell BK158.out 4).trans rfl
                      have hfz33_0 := blk_frozen BK158.out 0
                      have hfz33_1 := blk_frozen BK158.out 1
                      have hfz33_2 := blk_frozen BK158.out 2
                      have hfz33_3 := blk_frozen BK158.out 3
                      have hfz33_4 := blk_frozen BK158.out 4
                      go_wp2
                      go_meet
                      case rel => exact ⟨_, ((!(t152 == a0_0) || (!(t153 == a0_1) || (!(t154 == a0_2) || (!(t155 == a0_3) || (!(t156 == a0_4))))))), (by first | rfl | (simp; done) | (simp [*]; done)), H', ⟨by have := HJ4.out; first | omega | exact Nat.le_refl _⟩, ⟨by (with_reducible repeat (first | refine blk_drewN ?_ _ | refine blk_drew ?_ | refine blk_alloc ?_ _)); exact BK150.out⟩, ⟨by (with_reducible repeat (first | refine blk_drewN ?_ _ | refine blk_drew ?_ | refine blk_alloc ?_ _)); exact BK158.out⟩, ⟨by repeat (first | (with_reducible first | exact HB.out | apply below_alloc | apply pw_below_drewN | apply below_drew1 | refine below_set ?_ GE150.out | refine below_set ?_ GE158.out) | exact HB.out)⟩⟩
                    · rw [if_neg c30] at H
                      have c30b0 : (a0_4 == 16) = false := beq_eq_false_iff_ne.mpr c30
                      have c30b1 : (a0_4 != 16) = true := bne_iff_ne.mpr c30
                      have H' := Aside0.mk H
                      clear H
                      have hnb34 := NB150_158.out
                      have hnc34 := NB158_150.out
                      have hcz35_0 : w24.cell? ⟨gb150, 0, none⟩ = some (.bool a0_0) := (blk_cell BK150.out 0).trans rfl
                      have hcz35_1 : w24.cell? ⟨gb150, 1, none⟩ = some (.int .i64 a0_1) := (blk_cell BK150.out 1).trans rfl
                      have hcz35_2 : w24.cell? ⟨gb150, 2, none⟩ = some (.int .i64 a0_2) := (blk_cell BK150.out 2).trans rfl
                      have hcz35_3 : w24.cell? ⟨gb150, 3, none⟩ = some (.int .i64 a0_3) := (blk_cell BK150.out 3).trans rfl
                      have hcz35_4 : w24.cell? ⟨gb150, 4, none⟩ = some (.int .i64 a0_4) := (blk_cell BK150.out 4).trans rfl
                      have hfz35_0 := blk_frozen BK150.out 0
                      have hfz35_1 := blk_frozen BK150.out 1
                      have hfz35_2 := blk_frozen BK150.out 2
                      have hfz35_3 := blk_frozen BK150.out 3
                      have hfz35_4 := blk_frozen BK150.out 4
                      go_wp2
                      go_meet
                      case rel => exact ⟨_, (false), (by first | rfl | (simp; done) | (simp [*]; done)), H', ⟨by have := HJ4.out; first | omega | exact Nat.le_refl _⟩, ⟨by (with_reducible repeat (first | refine blk_drewN ?_ _ | refine blk_drew ?_ | refine blk_alloc ?_ _)); exact BK150.out⟩, ⟨by (with_reducible repeat (first | refine blk_drewN ?_ _ | refine blk_drew ?_ | refine blk_alloc ?_ _)); exact BK158.out⟩, ⟨by repeat (first | (with_reducible first | exact HB.out | apply below_alloc | apply pw_below_drewN | apply below_drew1 | refine below_set ?_ GE150.out | refine below_set ?_ GE158.out) | exact HB.out)⟩⟩
        case rest =>
          clear HC19
          try clear c1
          try clear c2
          try clear p2
          try clear c3
          try clear p6
          try clear c8
          try clear c9
          try clear c11
          try clear c13
          try clear c14
          try clear c14b0
          try clear c14b1
          try clear c15
          try clear c15b0
          try clear c16
          try clear c20
          try clear c25
          try clear c25b0
          try clear c26
          try clear c26b0
          try clear c27
          try clear c27b0
          try clear c28
          try clear c28b0
          try clear c29
          try clear c29b0
          try clear c30
          try clear c30b0
          try clear c30b1
          try clear c31
          try clear c34
          try clear hcz12_0
          try clear hcz12_1
          try clear hcz12_2
          try clear hcz12_3
          try clear hcz12_4
          try clear hcz21_0
          try clear hcz21_1
          try clear hcz21_2
          try clear hcz21_3
          try clear hcz21_4
          try clear hcz23_0
          try clear hcz23_1
          try clear hcz23_2
          try clear hcz23_3
          try clear hcz23_4
          try clear hcz32_0
          try clear hcz32_1
          try clear hcz32_2
          try clear hcz32_3
          try clear hcz32_4
          try clear hcz33_0
          try clear hcz33_1
          try clear hcz33_2
          try clear hcz33_3
          try clear hcz33_4
          try clear hcz35_0
          try clear hcz35_1
          try clear hcz35_2
          try clear hcz35_3
          try clear hcz35_4
          try clear hcz8_0
          try clear hcz8_1
          try clear hcz8_2
          try clear hcz8_3
          try clear hcz8_4
          try clear hfz12_0
          try clear hfz12_1
          try clear hfz12_2
          try clear hfz12_3
          try clear hfz12_4
          try clear hfz21_0
          try clear hfz21_1
          try clear hfz21_2
          try clear hfz21_3
          try clear hfz21_4
          try clear hfz23_0
          try clear hfz23_1
          try clear hfz23_2
          try clear hfz23_3
          try clear hfz23_4
          try clear hfz32_0
          try clear hfz32_1
          try clear hfz32_2
          try clear hfz32_3
          try clear hfz32_4
          try clear hfz33_0
          try clear hfz33_1
          try clear hfz33_2
          try clear hfz33_3
          try clear hfz33_4
          try clear hfz35_0
          try clear hfz35_1
          try clear hfz35_2
          try clear hfz35_3
          try clear hfz35_4
          try clear hfz8_0
          try clear hfz8_1
          try clear hfz8_2
          try clear hfz8_3
          try clear hfz8_4
          try clear p2
          obtain ⟨kq, x72_18, rfl, HA, HJ18, BK150, BK158, HB⟩ := hcut
          cases kq with
          | zero => exact absurd HA.out (by simp [fourinhandlaw08_RttDoubles.j1])
          | succ kj18 =>
            have H := HA.out
            clear HA
            simp only [fourinhandlaw08_RttDoubles.j1] at H
            by_cases c36 : x72_18 = true
            · subst c36
              have H1 : (some false) = some r := by rw [if_pos rfl] at H; exact H
              clear H
              have H := H1
              clear H1
              obtain rfl := Option.some.inj H
              go_wp2
              go_ret
              exact ⟨by first | rfl | (simp [errW_none, errW_some] <;> rfl) | (simp [*, errW_none, errW_some] <;> rfl), by repeat (first | (with_reducible first | exact HB.out | apply below_alloc | apply pw_below_drewN | apply below_drew1 | refine below_set ?_ GE150.out | refine below_set ?_ GE158.out) | exact HB.out)⟩
            · replace c36 := Bool.eq_false_iff.mpr c36
              subst c36
              have H1 : (fourinhandlaw08_RttDoubles.l0 kj18 0 a0_0 a0_1 a0_2 a0_3 a0_4 t152 t153 t154 t155 t156) = some r := by rw [if_neg (show ¬ (false = true) by decide)] at H; exact H
              clear H
              have H := H1
              clear H1
              have H' := Aside0.mk H
              clear H
              go_wp2
              go_loopg [10] kj18 (fun kq v10 w' => ∃ (x10_3 : Int) (x159000_3 : Bool) (x159001_3 : Int) (x159002_3 : Int) (x159003_3 : Int) (x159004_3 : Int), v10 = .int .i64 x10_3 ∧ Aside0 (fourinhandlaw08_RttDoubles.l0 kq x10_3 a0_0 a0_1 a0_2 a0_3 a0_4 x159000_3 x159001_3 x159002_3 x159003_3 x159004_3 = some r) ∧ Aside0 (kq ≤ kj18) ∧ Aside0 (w'.heap[gb150]? = some (.cells #[.bool a0_0, .int .i64 a0_1, .int .i64 a0_2, .int .i64 a0_3, .int .i64 a0_4] 23 (0, 0))) ∧ Aside0 (w'.heap[gb158]? = some (.cells #[.bool x159000_3, .int .i64 x159001_3, .int .i64 x159002_3, .int .i64 x159003_3, .int .i64 x159004_3] 23 (0, 0))) ∧ Aside0 (Below w.heap.size w w'))
              case atStart => exact ⟨(0), (t152), (t153), (t154), (t155), (t156), (by first | rfl | (simp; done) | (simp [*]; done)), H', ⟨Nat.le_refl _⟩, ⟨by (with_reducible repeat (first | refine blk_drewN ?_ _ | refine blk_drew ?_ | refine blk_alloc ?_ _)); exact BK150.out⟩, ⟨by (with_reducible repeat (first | refine blk_drewN ?_ _ | refine blk_drew ?_ | refine blk_alloc ?_ _)); exact BK158.out⟩, ⟨by repeat (first | (with_reducible first | exact HB.out | apply below_alloc | apply pw_below_drewN | apply below_drew1 | refine below_set ?_ GE150.out | refine below_set ?_ GE158.out) | exact HB.out)⟩⟩
              case round =>
                clear H'
                try clear c1
                try clear c2
                try clear p2
                try clear c3
                try clear p6
                try clear c8
                try clear c9
                try clear c11
                try clear c13
                try clear c14
                try clear c14b0
                try clear c14b1
                try clear c15
                try clear c15b0
                try clear c16
                try clear c20
                try clear c25
                try clear c25b0
                try clear c26
                try clear c26b0
                try clear c27
                try clear c27b0
                try clear c28
                try clear c28b0
                try clear c29
                try clear c29b0
                try clear c30
                try clear c30b0
                try clear c30b1
                try clear c31
                try clear c34
                try clear c36
                try clear hcz12_0
                try clear hcz12_1
                try clear hcz12_2
                try clear hcz12_3
                try clear hcz12_4
                try clear hcz21_0
                try clear hcz21_1
                try clear hcz21_2
                try clear hcz21_3
                try clear hcz21_4
                try clear hcz23_0
                try clear hcz23_1
                try clear hcz23_2
                try clear hcz23_3
                try clear hcz23_4
                try clear hcz32_0
                try clear hcz32_1
                try clear hcz32_2
                try clear hcz32_3
                try clear hcz32_4
                try clear hcz33_0
                try clear hcz33_1
                try clear hcz33_2
                try clear hcz33_3
                try clear hcz33_4
                try clear hcz35_0
                try clear hcz35_1
                try clear hcz35_2
                try clear hcz35_3
                try clear hcz35_4
                try clear hcz8_0
                try clear hcz8_1
                try clear hcz8_2
                try clear hcz8_3
                try clear hcz8_4
                try clear hfz12_0
                try clear hfz12_1
                try clear hfz12_2
                try clear hfz12_3
                try clear hfz12_4
                try clear hfz21_0
                try clear hfz21_1
                try clear hfz21_2
                try clear hfz21_3
                try clear hfz21_4
                try clear hfz23_0
                try clear hfz23_1
                try clear hfz23_2
                try clear hfz23_3
                try clear hfz23_4
                try clear hfz32_0
                try clear hfz32_1
                try clear hfz32_2
                try clear hfz32_3
                try clear hfz32_4
                try clear hfz33_0
                try clear hfz33_1
                try clear hfz33_2
                try clear hfz33_3
                try clear hfz33_4
                try clear hfz35_0
                try clear hfz35_1
                try clear hfz35_2
                try clear hfz35_3
                try clear hfz35_4
                try clear hfz8_0
                try clear hfz8_1
                try clear hfz8_2
                try clear hfz8_3
                try clear hfz8_4
                try clear p2
                try clear p6
                obtain ⟨x10_3, x159000_3, x159001_3, x159002_3, x159003_3, x159004_3, rfl, HA, HK3, BK150, BK158, HB⟩ := hrel
                cases gk with
                | zero => exact absurd HA.out (by simp [fourinhandlaw08_RttDoubles.l0])
                | succ k3 =>
                  have H := HA.out
                  clear HA
                  simp only [fourinhandlaw08_RttDoubles.l0] at H
                  by_cases c37 : x10_3 < 20
                  · rw [if_pos c37] at H
                    have c37b0 : decide (x10_3 < 20) = true := decide_eq_true c37
                    clear c37
                    replace H := Option.bind_eq_some_iff.mp H
                    obtain ⟨⟨t161, t162, t163, t164, t165, t166⟩, A380, H⟩ := H
                    replace H : (fourinhandlaw08_RttDoubles.l0 k3 (wrap64 (x10_3 + 1)) a0_0 a0_1 a0_2 a0_3 a0_4 t161 t162 t163 t164 t165) = some r := H
                    have A38 := Aside0.mk A380
                    clear A380
                    have H' := Aside0.mk H
                    clear H
                    have hnb39 := NB158_150.out
                    have hnc39 := NB150_158.out
                    have hcz40_0 : wr.cell? ⟨gb158, 0, none⟩ = some (.bool x159000_3) := (blk_cell BK158.out 0).trans rfl
                    have hcz40_1 : wr.cell? ⟨gb158, 1, none⟩ = some (.int .i64 x159001_3) := (blk_cell BK158.out 1).trans rfl
                    have hcz40_2 : wr.cell? ⟨gb158, 2, none⟩ = some (.int .i64 x159002_3) := (blk_cell BK158.out 2).trans rfl
                    have hcz40_3 : wr.cell? ⟨gb158, 3, none⟩ = some (.int .i64 x159003_3) := (blk_cell BK158.out 3).trans rfl
                    have hcz40_4 : wr.cell? ⟨gb158, 4, none⟩ = some (.int .i64 x159004_3) := (blk_cell BK158.out 4).trans rfl
                    have hfz40_0 := blk_frozen BK158.out 0
                    have hfz40_1 := blk_frozen BK158.out 1
                    have hfz40_2 := blk_frozen BK158.out 2
                    have hfz40_3 := blk_frozen BK158.out 3
                    have hfz40_4 := blk_frozen BK158.out 4
                    go_wp2_with (first | ((with_reducible refine gate_callee (f := 14) rfl ?_); refine goesL_ (some 79) rfl rfl Try.func14 (by kernel_rfl) rfl #[.agg #[.bool x159000_3, .int .i64 x159001_3, .int .i64 x159002_3, .int .i64 x159003_3, .int .i64 x159004_3]] rfl (by (try simp only [List.map_toArray, List.map_cons, List.map_nil]); first | done | rfl | (simp only [List.length_drop, List.length_take]; rfl)) ?_; (with_reducible refine (rtt_Double.calls k3 x159000_3 x159001_3 x159002_3 x159003_3 x159004_3 t161 t162 t163 t164 t165 t166 _ A38.out).mono ?_); rintro e w41 ⟨rfl, hb⟩; refine ⟨_, rfl, ?_⟩; have n0_ := Aside0.mk (blk_below (g := gb150) (o := .cells #[.bool a0_0, .int .i64 a0_1, .int .i64 a0_2, .int .i64 a0_3, .int .i64 a0_4] 23 (0, 0)) (by (with_reducible repeat (first | refine blk_drewN ?_ _ | refine blk_drew ?_ | refine blk_alloc ?_ _)); exact BK150.out) hb); have n1_ := Aside0.mk (blk_below (g := gb158) (o := .cells #[.bool x159000_3, .int .i64 x159001_3, .int .i64 x159002_3, .int .i64 x159003_3, .int .i64 x159004_3] 23 (0, 0)) (by (with_reducible repeat (first | refine blk_drewN ?_ _ | refine blk_drew ?_ | refine blk_alloc ?_ _)); exact BK158.out) hb); have n2_ := Aside0.mk (below_step (by repeat (first | (with_reducible first | exact HB.out | apply below_alloc | apply pw_below_drewN | apply below_drew1 | refine below_set ?_ GE150.out | refine below_set ?_ GE158.out) | exact HB.out)) hb); clear BK150; clear BK158; clear HB; have BK150 := n0_; have BK158 := n1_; have HB := n2_; clear n0_ n1_ n2_; (try clear hb); (try clear hb2); (try clear hk); (try clear hi); have hcz42_0 : w41.cell? ⟨gb158, 0, none⟩ = some (.bool x159000_3) := (blk_cell BK158.out 0).trans rfl; have hcz42_1 : w41.cell? ⟨gb158, 1, none⟩ = some (.int .i64 x159001_3) := (blk_cell BK158.out 1).trans rfl; have hcz42_2 : w41.cell? ⟨gb158, 2, none⟩ = some (.int .i64 x159002_3) := (blk_cell BK158.out 2).trans rfl; have hcz42_3 : w41.cell? ⟨gb158, 3, none⟩ = some (.int .i64 x159003_3) := (blk_cell BK158.out 3).trans rfl; have hcz42_4 : w41.cell? ⟨gb158, 4, none⟩ = some (.int .i64 x159004_3) := (blk_cell BK158.out 4).trans rfl; have hfz42_0 := blk_frozen BK158.out 0; have hfz42_1 := blk_frozen BK158.out 1; have hfz42_2 := blk_frozen BK158.out 2; have hfz42_3 := blk_frozen BK158.out 3; have hfz42_4 := blk_frozen BK158.out 4))
                    go_roundg k3
                    case measure => have := HJ4.out; have := HJ18.out; have := HK3.out; omega
                    case rel => exact ⟨(wrap64 (x10_3 + 1)), (t161), (t162), (t163), (t164), (t165), (by first | rfl | (simp; done) | (simp [*]; done)), H', ⟨by have := HJ4.out; have := HJ18.out; have := HK3.out; omega⟩, ⟨by (with_reducible repeat (first | refine blk_drewN ?_ _ | refine blk_drew ?_ | refine blk_alloc ?_ _)); refine blk_far ?_ NB150_158.out _; (with_reducible repeat (first | refine blk_drewN ?_ _ | refine blk_drew ?_ | refine blk_alloc ?_ _)); refine blk_far ?_ NB150_158.out _; (with_reducible repeat (first | refine blk_drewN ?_ _ | refine blk_drew ?_ | refine blk_alloc ?_ _)); refine blk_far ?_ NB150_158.out _; (with_reducible repeat (first | refine blk_drewN ?_ _ | refine blk_drew ?_ | refine blk_alloc ?_ _)); refine blk_far ?_ NB150_158.out _; (with_reducible repeat (first | refine blk_drewN ?_ _ | refine blk_drew ?_ | refine blk_alloc ?_ _)); refine blk_far ?_ NB150_158.out _; (with_reducible repeat (first | refine blk_drewN ?_ _ | refine blk_drew ?_ | refine blk_alloc ?_ _)); exact BK150.out⟩, ⟨by (with_reducible repeat (first | refine blk_drewN ?_ _ | refine blk_drew ?_ | refine blk_alloc ?_ _)); refine blk_put (cs := #[.bool t161, .int .i64 t162, .int .i64 t163, .int .i64 t164, .int .i64 x159004_3]) ?_ 4 _ rfl; (with_reducible repeat (first | refine blk_drewN ?_ _ | refine blk_drew ?_ | refine blk_alloc ?_ _)); refine blk_put (cs := #[.bool t161, .int .i64 t162, .int .i64 t163, .int .i64 x159003_3, .int .i64 x159004_3]) ?_ 3 _ rfl; (with_reducible repeat (first | refine blk_drewN ?_ _ | refine blk_drew ?_ | refine blk_alloc ?_ _)); refine blk_put (cs := #[.bool t161, .int .i64 t162, .int .i64 x159002_3, .int .i64 x159003_3, .int .i64 x159004_3]) ?_ 2 _ rfl; (with_reducible repeat (first | refine blk_drewN ?_ _ | refine blk_drew ?_ | refine blk_alloc ?_ _)); refine blk_put (cs := #[.bool t161, .int .i64 x159001_3, .int .i64 x159002_3, .int .i64 x159003_3, .int .i64 x159004_3]) ?_ 1 _ rfl; (with_reducible repeat (first | refine blk_drewN ?_ _ | refine blk_drew ?_ | refine blk_alloc ?_ _)); refine blk_put (cs := #[.bool x159000_3, .int .i64 x159001_3, .int .i64 x159002_3, .int .i64 x159003_3, .int .i64 x159004_3]) ?_ 0 _ rfl; (with_reducible repeat (first | refine blk_drewN ?_ _ | refine blk_drew ?_ | refine blk_alloc ?_ _)); exact BK158.out⟩, ⟨by repeat (first | (with_reducible first | exact HB.out | apply below_alloc | apply pw_below_drewN | apply below_drew1 | refine below_set ?_ GE150.out | refine below_set ?_ GE158.out) | exact HB.out)⟩⟩
                  · rw [if_neg c37] at H
                    have c37b0 : decide (x10_3 < 20) = false := decide_eq_false c37
                    clear c37
                    replace H := Option.bind_eq_some_iff.mp H
                    obtain ⟨⟨t167, t168, t169, t170, t171, t172⟩, A430, H⟩ := H
                    replace H : (if (x159000_3 == t167 && (x159001_3 == t168 && (x159002_3 == t169 && (x159003_3 == t170 && (x159004_3 == t171))))) = true then (if x159004_3 = 16 then (some (x159003_3 == a0_3)) else (some false)) else (some false)) = some r := H
                    have A43 := Aside0.mk A430
                    clear A430
                    by_cases c44 : (x159000_3 == t167 && (x159001_3 == t168 && (x159002_3 == t169 && (x159003_3 == t170 && (x159004_3 == t171))))) = true
                    · rw [if_pos c44] at H
                      have c44b0 : (x159000_3 == t167 && (x159001_3 == t168 && (x159002_3 == t169 && (x159003_3 == t170 && (x159004_3 == t171))))) = true := c44
                      (try (have c44b1 : decide (x159000_3 = t167 && (x159001_3 == t168 && (x159002_3 == t169 && (x159003_3 == t170 && (x159004_3 == t171))))) = true := by simpa using c44))
                      (try (have c44b2 : (x159000_3 == t167 && (x159001_3 == t168 && (x159002_3 == t169 && (x159003_3 == t170 && (x159004_3 == t171))))) = true := by simpa using c44))
                      clear c44
                      by_cases c45 : x159004_3 = 16
                      · rw [if_pos c45] at H
                        have c45b0 : (x159004_3 == 16) = true := beq_iff_eq.mpr c45
                        have c45b1 : (x159004_3 != 16) = false := bne_eq_false_iff_eq.mpr c45
                        clear c45
                        obtain rfl := Option.some.inj H
                        have hnb46 := NB158_150.out
                        have hnc46 := NB150_158.out
                        have hcz47_0 : wr.cell? ⟨gb158, 0, none⟩ = some (.bool x159000_3) := (blk_cell BK158.out 0).trans rfl
                        have hcz47_1 : wr.cell? ⟨gb158, 1, none⟩ = some (.int .i64 x159001_3) := (blk_cell BK158.out 1).trans rfl
                        have hcz47_2 : wr.cell? ⟨gb158, 2, none⟩ = some (.int .i64 x159002_3) := (blk_cell BK158.out 2).trans rfl
                        have hcz47_3 : wr.cell? ⟨gb158, 3, none⟩ = some (.int .i64 x159003_3) := (blk_cell BK158.out 3).trans rfl
                        have hcz47_4 : wr.cell? ⟨gb158, 4, none⟩ = some (.int .i64 x159004_3) := (blk_cell BK158.out 4).trans rfl
                        have hfz47_0 := blk_frozen BK158.out 0
                        have hfz47_1 := blk_frozen BK158.out 1
                        have hfz47_2 := blk_frozen BK158.out 2
                        have hfz47_3 := blk_frozen BK158.out 3
                        have hfz47_4 := blk_frozen BK158.out 4
                        go_wp2_with (first | ((with_reducible refine gate_callee (f := 14) rfl ?_); refine goesL_ (some 84) rfl rfl Try.func14 (by kernel_rfl) rfl #[.agg #[.bool x159000_3, .int .i64 x159001_3, .int .i64 x159002_3, .int .i64 x159003_3, .int .i64 x159004_3]] rfl (by (try simp only [List.map_toArray, List.map_cons, List.map_nil]); first | done | rfl | (simp only [List.length_drop, List.length_take]; rfl)) ?_; (with_reducible refine (rtt_Double.calls k3 x159000_3 x159001_3 x159002_3 x159003_3 x159004_3 t167 t168 t169 t170 t171 t172 _ A43.out).mono ?_); rintro e w48 ⟨rfl, hb⟩; refine ⟨_, rfl, ?_⟩; have n0_ := Aside0.mk (blk_below (g := gb150) (o := .cells #[.bool a0_0, .int .i64 a0_1, .int .i64 a0_2, .int .i64 a0_3, .int .i64 a0_4] 23 (0, 0)) (by (with_reducible repeat (first | refine blk_drewN ?_ _ | refine blk_drew ?_ | refine blk_alloc ?_ _)); exact BK150.out) hb); have n1_ := Aside0.mk (blk_below (g := gb158) (o := .cells #[.bool x159000_3, .int .i64 x159001_3, .int .i64 x159002_3, .int .i64 x159003_3, .int .i64 x159004_3] 23 (0, 0)) (by (with_reducible repeat (first | refine blk_drewN ?_ _ | refine blk_drew ?_ | refine blk_alloc ?_ _)); exact BK158.out) hb); have n2_ := Aside0.mk (below_step (by repeat (first | (with_reducible first | exact HB.out | apply below_alloc | apply pw_below_drewN | apply below_drew1 | refine below_set ?_ GE150.out | refine below_set ?_ GE158.out) | exact HB.out)) hb); clear BK150; clear BK158; clear HB; have BK150 := n0_; have BK158 := n1_; have HB := n2_; clear n0_ n1_ n2_; (try clear hb); (try clear hb2); (try clear hk); (try clear hi)) | ((with_reducible refine gate_dst (N := 11) rfl ?_); refine box_event ?hg (N := 11) ?hd (cs := #[.bool false, .int .i64 0, .int .i64 0, .int .i64 0, .int .i64 0]) (t := 23) ?hr ?_; (case hd => rfl); (case hg => rfl); (case hr => first | (go_simp; done) | (go_simp; rfl)); intro gb173 hg w49 hbox hb; have n0_ := Aside0.mk (blk_below (g := gb150) (o := .cells #[.bool a0_0, .int .i64 a0_1, .int .i64 a0_2, .int .i64 a0_3, .int .i64 a0_4] 23 (0, 0)) (by (with_reducible repeat (first | refine blk_drewN ?_ _ | refine blk_drew ?_ | refine blk_alloc ?_ _)); exact BK150.out) hb); have n1_ := Aside0.mk (blk_below (g := gb158) (o := .cells #[.bool x159000_3, .int .i64 x159001_3, .int .i64 x159002_3, .int .i64 x159003_3, .int .i64 x159004_3] 23 (0, 0)) (by (with_reducible repeat (first | refine blk_drewN ?_ _ | refine blk_drew ?_ | refine blk_alloc ?_ _)); exact BK158.out) hb); have n2_ := Aside0.mk (below_step (by repeat (first | (with_reducible first | exact HB.out | apply below_alloc | apply pw_below_drewN | apply below_drew1 | refine below_set ?_ GE150.out | refine below_set ?_ GE158.out) | exact HB.out)) hb); have n3_ := Aside0.mk (hbox); have n4_ := Aside0.mk ((by rw [hg]; exact (below_size (by repeat (first | (with_reducible first | exact HB.out | apply below_alloc | apply pw_below_drewN | apply below_drew1 | refine below_set ?_ GE150.out | refine below_set ?_ GE158.out) | exact HB.out))) : w.heap.size ≤ gb173)); have n5_ := Aside0.mk ((by rw [hg]; exact (below_size (by repeat (first | (with_reducible first | exact HB.out | apply below_alloc | apply pw_below_drewN | apply below_drew1 | refine below_set ?_ GE150.out | refine below_set ?_ GE158.out) | exact HB.out))) : w.heap.size ≤ gb173)); have n6_ := Aside0.mk ((by rw [hg]; exact Nat.ne_of_lt (blk_lt (g := gb150) (o := .cells #[.bool a0_0, .int .i64 a0_1, .int .i64 a0_2, .int .i64 a0_3, .int .i64 a0_4] 23 (0, 0)) (by (with_reducible repeat (first | refine blk_drewN ?_ _ | refine blk_drew ?_ | refine blk_alloc ?_ _)); exact BK150.out)) : gb150 ≠ gb173)); have n7_ := Aside0.mk ((by rw [hg]; exact Nat.ne_of_gt (blk_lt (g := gb150) (o := .cells #[.bool a0_0, .int .i64 a0_1, .int .i64 a0_2, .int .i64 a0_3, .int .i64 a0_4] 23 (0, 0)) (by (with_reducible repeat (first | refine blk_drewN ?_ _ | refine blk_drew ?_ | refine blk_alloc ?_ _)); exact BK150.out)) : gb173 ≠ gb150)); have n8_ := Aside0.mk ((by rw [hg]; exact Nat.ne_of_lt (blk_lt (g := gb158) (o := .cells #[.bool x159000_3, .int .i64 x159001_3, .int .i64 x159002_3, .int .i64 x159003_3, .int .i64 x159004_3] 23 (0, 0)) (by (with_reducible repeat (first | refine blk_drewN ?_ _ | refine blk_drew ?_ | refine blk_alloc ?_ _)); exact BK158.out)) : gb158 ≠ gb173)); have n9_ := Aside0.mk ((by rw [hg]; exact Nat.ne_of_gt (blk_lt (g := gb158) (o := .cells #[.bool x159000_3, .int .i64 x159001_3, .int .i64 x159002_3, .int .i64 x159003_3, .int .i64 x159004_3] 23 (0, 0)) (by (with_reducible repeat (first | refine blk_drewN ?_ _ | refine blk_drew ?_ | refine blk_alloc ?_ _)); exact BK158.out)) : gb173 ≠ gb158)); clear BK150; clear BK158; clear HB; have BK150 := n0_; have BK158 := n1_; have HB := n2_; have BK173 := n3_; have GW173 := n4_; have GE173 := n5_; have NB150_173 := n6_; have NB173_150 := n7_; have NB158_173 := n8_; have NB173_158 := n9_; clear n0_ n1_ n2_ n3_ n4_ n5_ n6_ n7_ n8_ n9_; clear hb hbox hg; have hnb50 := NB173_150.out; have hnc50 := NB150_173.out; have hnb51 := NB173_158.out; have hnc51 := NB158_173.out; have hcz52_0 : w49.cell? ⟨gb173, 0, none⟩ = some (.bool false) := (blk_cell BK173.out 0).trans rfl; have hcz52_1 : w49.cell? ⟨gb173, 1, none⟩ = some (.int .i64 0) := (blk_cell BK173.out 1).trans rfl; have hcz52_2 : w49.cell? ⟨gb173, 2, none⟩ = some (.int .i64 0) := (blk_cell BK173.out 2).trans rfl; have hcz52_3 : w49.cell? ⟨gb173, 3, none⟩ = some (.int .i64 0) := (blk_cell BK173.out 3).trans rfl; have hcz52_4 : w49.cell? ⟨gb173, 4, none⟩ = some (.int .i64 0) := (blk_cell BK173.out 4).trans rfl; have hfz52_0 := blk_frozen BK173.out 0; have hfz52_1 := blk_frozen BK173.out 1; have hfz52_2 := blk_frozen BK173.out 2; have hfz52_3 := blk_frozen BK173.out 3; have hfz52_4 := blk_frozen BK173.out 4; have hcz53_0 : w49.cell? ⟨gb158, 0, none⟩ = some (.bool x159000_3) := (blk_cell BK158.out 0).trans rfl; have hcz53_1 : w49.cell? ⟨gb158, 1, none⟩ = some (.int .i64 x159001_3) := (blk_cell BK158.out 1).trans rfl; have hcz53_2 : w49.cell? ⟨gb158, 2, none⟩ = some (.int .i64 x159002_3) := (blk_cell BK158.out 2).trans rfl; have hcz53_3 : w49.cell? ⟨gb158, 3, none⟩ = some (.int .i64 x159003_3) := (blk_cell BK158.out 3).trans rfl; have hcz53_4 : w49.cell? ⟨gb158, 4, none⟩ = some (.int .i64 x159004_3) := (blk_cell BK158.out 4).trans rfl; have hfz53_0 := blk_frozen BK158.out 0; have hfz53_1 := blk_frozen BK158.out 1; have hfz53_2 := blk_frozen BK158.out 2; have hfz53_3 := blk_frozen BK158.out 3; have hfz53_4 := blk_frozen BK158.out 4; have hcz54_0 : w49.cell? ⟨gb150, 0, none⟩ = some (.bool a0_0) := (blk_cell BK150.out 0).trans rfl; have hcz54_1 : w49.cell? ⟨gb150, 1, none⟩ = some (.int .i64 a0_1) := (blk_cell BK150.out 1).trans rfl; have hcz54_2 : w49.cell? ⟨gb150, 2, none⟩ = some (.int .i64 a0_2) := (blk_cell BK150.out 2).trans rfl; have hcz54_3 : w49.cell? ⟨gb150, 3, none⟩ = some (.int .i64 a0_3) := (blk_cell BK150.out 3).trans rfl; have hcz54_4 : w49.cell? ⟨gb150, 4, none⟩ = some (.int .i64 a0_4) := (blk_cell BK150.out 4).trans rfl; have hfz54_0 := blk_frozen BK150.out 0; have hfz54_1 := blk_frozen BK150.out 1; have hfz54_2 := blk_frozen BK150.out 2; have hfz54_3 := blk_frozen BK150.out 3; have hfz54_4 := blk_frozen BK150.out 4))
                        go_ret
                        exact ⟨by first | rfl | (simp [errW_none, errW_some] <;> rfl) | (simp [*, errW_none, errW_some] <;> rfl), by repeat (first | (with_reducible first | exact HB.out | apply below_alloc | apply pw_below_drewN | apply below_drew1 | refine below_set ?_ GE150.out | refine below_set ?_ GE158.out | refine below_set ?_ GE173.out) | exact HB.out)⟩
                      · rw [if_neg c45] at H
                        have c45b0 : (x159004_3 == 16) = false := beq_eq_false_iff_ne.mpr c45
                        have c45b1 : (x159004_3 != 16) = true := bne_iff_ne.mpr c45
                        obtain rfl := Option.some.inj H
                        have hnb55 := NB158_150.out
                        have hnc55 := NB150_158.out
                        have hcz56_0 : wr.cell? ⟨gb158, 0, none⟩ = some (.bool x159000_3) := (blk_cell BK158.out 0).trans rfl
                        have hcz56_1 : wr.cell? ⟨gb158, 1, none⟩ = some (.int .i64 x159001_3) := (blk_cell BK158.out 1).trans rfl
                        have hcz56_2 : wr.cell? ⟨gb158, 2, none⟩ = some (.int .i64 x159002_3) := (blk_cell BK158.out 2).trans rfl
                        have hcz56_3 : wr.cell? ⟨gb158, 3, none⟩ = some (.int .i64 x159003_3) := (blk_cell BK158.out 3).trans rfl
                        have hcz56_4 : wr.cell? ⟨gb158, 4, none⟩ = some (.int .i64 x159004_3) := (blk_cell BK158.out 4).trans rfl
                        have hfz56_0 := blk_frozen BK158.out 0
                        have hfz56_1 := blk_frozen BK158.out 1
                        have hfz56_2 := blk_frozen BK158.out 2
                        have hfz56_3 := blk_frozen BK158.out 3
                        have hfz56_4 := blk_frozen BK158.out 4
                        go_wp2_with (first | ((with_reducible refine gate_callee (f := 14) rfl ?_); refine goesL_ (some 84) rfl rfl Try.func14 (by kernel_rfl) rfl #[.agg #[.bool x159000_3, .int .i64 x159001_3, .int .i64 x159002_3, .int .i64 x159003_3, .int .i64 x159004_3]] rfl (by (try simp only [List.map_toArray, List.map_cons, List.map_nil]); first | done | rfl | (simp only [List.length_drop, List.length_take]; rfl)) ?_; (with_reducible refine (rtt_Double.calls k3 x159000_3 x159001_3 x159002_3 x159003_3 x159004_3 t167 t168 t169 t170 t171 t172 _ A43.out).mono ?_); rintro e w57 ⟨rfl, hb⟩; refine ⟨_, rfl, ?_⟩; have n0_ := Aside0.mk (blk_below (g := gb150) (o := .cells #[.bool a0_0, .int .i64 a0_1, .int .i64 a0_2, .int .i64 a0_3, .int .i64 a0_4] 23 (0, 0)) (by (with_reducible repeat (first | refine blk_drewN ?_ _ | refine blk_drew ?_ | refine blk_alloc ?_ _)); exact BK150.out) hb); have n1_ := Aside0.mk (blk_below (g := gb158) (o := .cells #[.bool x159000_3, .int .i64 x159001_3, .int .i64 x159002_3, .int .i64 x159003_3, .int .i64 x159004_3] 23 (0, 0)) (by (with_reducible repeat (first | refine blk_drewN ?_ _ | refine blk_drew ?_ | refine blk_alloc ?_ _)); exact BK158.out) hb); have n2_ := Aside0.mk (below_step (by repeat (first | (with_reducible first | exact HB.out | apply below_alloc | apply pw_below_drewN | apply below_drew1 | refine below_set ?_ GE150.out | refine below_set ?_ GE158.out) | exact HB.out)) hb); clear BK150; clear BK158; clear HB; have BK150 := n0_; have BK158 := n1_; have HB := n2_; clear n0_ n1_ n2_; (try clear hb); (try clear hb2); (try clear hk); (try clear hi)) | ((with_reducible refine gate_dst (N := 11) rfl ?_); refine box_event ?hg (N := 11) ?hd (cs := #[.bool false, .int .i64 0, .int .i64 0, .int .i64 0, .int .i64 0]) (t := 23) ?hr ?_; (case hd => rfl); (case hg => rfl); (case hr => first | (go_simp; done) | (go_simp; rfl)); intro gb173 hg w58 hbox hb; have n0_ := Aside0.mk (blk_below (g := gb150) (o := .cells #[.bool a0_0, .int .i64 a0_1, .int .i64 a0_2, .int .i64 a0_3, .int .i64 a0_4] 23 (0, 0)) (by (with_reducible repeat (first | refine blk_drewN ?_ _ | refine blk_drew ?_ | refine blk_alloc ?_ _)); exact BK150.out) hb); have n1_ := Aside0.mk (blk_below (g := gb158) (o := .cells #[.bool x159000_3, .int .i64 x159001_3, .int .i64 x159002_3, .int .i64 x159003_3, .int .i64 x159004_3] 23 (0, 0)) (by (with_reducible repeat (first | refine blk_drewN ?_ _ | refine blk_drew ?_ | refine blk_alloc ?_ _)); exact BK158.out) hb); have n2_ := Aside0.mk (below_step (by repeat (first | (with_reducible first | exact HB.out | apply below_alloc | apply pw_below_drewN | apply below_drew1 | refine below_set ?_ GE150.out | refine below_set ?_ GE158.out) | exact HB.out)) hb); have n3_ := Aside0.mk (hbox); have n4_ := Aside0.mk ((by rw [hg]; exact (below_size (by repeat (first | (with_reducible first | exact HB.out | apply below_alloc | apply pw_below_drewN | apply below_drew1 | refine below_set ?_ GE150.out | refine below_set ?_ GE158.out) | exact HB.out))) : w.heap.size ≤ gb173)); have n5_ := Aside0.mk ((by rw [hg]; exact (below_size (by repeat (first | (with_reducible first | exact HB.out | apply below_alloc | apply pw_below_drewN | apply below_drew1 | refine below_set ?_ GE150.out | refine below_set ?_ GE158.out) | exact HB.out))) : w.heap.size ≤ gb173)); have n6_ := Aside0.mk ((by rw [hg]; exact Nat.ne_of_lt (blk_lt (g := gb150) (o := .cells #[.bool a0_0, .int .i64 a0_1, .int .i64 a0_2, .int .i64 a0_3, .int .i64 a0_4] 23 (0, 0)) (by (with_reducible repeat (first | refine blk_drewN ?_ _ | refine blk_drew ?_ | refine blk_alloc ?_ _)); exact BK150.out)) : gb150 ≠ gb173)); have n7_ := Aside0.mk ((by rw [hg]; exact Nat.ne_of_gt (blk_lt (g := gb150) (o := .cells #[.bool a0_0, .int .i64 a0_1, .int .i64 a0_2, .int .i64 a0_3, .int .i64 a0_4] 23 (0, 0)) (by (with_reducible repeat (first | refine blk_drewN ?_ _ | refine blk_drew ?_ | refine blk_alloc ?_ _)); exact BK150.out)) : gb173 ≠ gb150)); have n8_ := Aside0.mk ((by rw [hg]; exact Nat.ne_of_lt (blk_lt (g := gb158) (o := .cells #[.bool x159000_3, .int .i64 x159001_3, .int .i64 x159002_3, .int .i64 x159003_3, .int .i64 x159004_3] 23 (0, 0)) (by (with_reducible repeat (first | refine blk_drewN ?_ _ | refine blk_drew ?_ | refine blk_alloc ?_ _)); exact BK158.out)) : gb158 ≠ gb173)); have n9_ := Aside0.mk ((by rw [hg]; exact Nat.ne_of_gt (blk_lt (g := gb158) (o := .cells #[.bool x159000_3, .int .i64 x159001_3, .int .i64 x159002_3, .int .i64 x159003_3, .int .i64 x159004_3] 23 (0, 0)) (by (with_reducible repeat (first | refine blk_drewN ?_ _ | refine blk_drew ?_ | refine blk_alloc ?_ _)); exact BK158.out)) : gb173 ≠ gb158)); clear BK150; clear BK158; clear HB; have BK150 := n0_; have BK158 := n1_; have HB := n2_; have BK173 := n3_; have GW173 := n4_; have GE173 := n5_; have NB150_173 := n6_; have NB173_150 := n7_; have NB158_173 := n8_; have NB173_158 := n9_; clear n0_ n1_ n2_ n3_ n4_ n5_ n6_ n7_ n8_ n9_; clear hb hbox hg; have hnb59 := NB173_150.out; have hnc59 := NB150_173.out; have hnb60 := NB173_158.out; have hnc60 := NB158_173.out; have hcz61_0 : w58.cell? ⟨gb173, 0, none⟩ = some (.bool false) := (blk_cell BK173.out 0).trans rfl; have hcz61_1 : w58.cell? ⟨gb173, 1, none⟩ = some (.int .i64 0) := (blk_cell BK173.out 1).trans rfl; have hcz61_2 : w58.cell? ⟨gb173, 2, none⟩ = some (.int .i64 0) := (blk_cell BK173.out 2).trans rfl; have hcz61_3 : w58.cell? ⟨gb173, 3, none⟩ = some (.int .i64 0) := (blk_cell BK173.out 3).trans rfl; have hcz61_4 : w58.cell? ⟨gb173, 4, none⟩ = some (.int .i64 0) := (blk_cell BK173.out 4).trans rfl; have hfz61_0 := blk_frozen BK173.out 0; have hfz61_1 := blk_frozen BK173.out 1; have hfz61_2 := blk_frozen BK173.out 2; have hfz61_3 := blk_frozen BK173.out 3; have hfz61_4 := blk_frozen BK173.out 4; have hcz62_0 : w58.cell? ⟨gb158, 0, none⟩ = some (.bool x159000_3) := (blk_cell BK158.out 0).trans rfl; have hcz62_1 : w58.cell? ⟨gb158, 1, none⟩ = some (.int .i64 x159001_3) := (blk_cell BK158.out 1).trans rfl; have hcz62_2 : w58.cell? ⟨gb158, 2, none⟩ = some (.int .i64 x159002_3) := (blk_cell BK158.out 2).trans rfl; have hcz62_3 : w58.cell? ⟨gb158, 3, none⟩ = some (.int .i64 x159003_3) := (blk_cell BK158.out 3).trans rfl; have hcz62_4 : w58.cell? ⟨gb158, 4, none⟩ = some (.int .i64 x159004_3) := (blk_cell BK158.out 4).trans rfl; have hfz62_0 := blk_frozen BK158.out 0; have hfz62_1 := blk_frozen BK158.out 1; have hfz62_2 := blk_frozen BK158.out 2; have hfz62_3 := blk_frozen BK158.out 3; have hfz62_4 := blk_frozen BK158.out 4))
                        go_ret
                        exact ⟨by first | rfl | (simp [errW_none, errW_some] <;> rfl) | (simp [*, errW_none, errW_some] <;> rfl), by repeat (first | (with_reducible first | exact HB.out | apply below_alloc | apply pw_below_drewN | apply below_drew1 | refine below_set ?_ GE150.out | refine below_set ?_ GE158.out | refine below_set ?_ GE173.out) | exact HB.out)⟩
                    · rw [if_neg c44] at H
                      have c44b0 : (x159000_3 == t167 && (x159001_3 == t168 && (x159002_3 == t169 && (x159003_3 == t170 && (x159004_3 == t171))))) = false := by simpa using c44
                      (try (have c44b1 : decide (x159000_3 = t167 && (x159001_3 == t168 && (x159002_3 == t169 && (x159003_3 == t170 && (x159004_3 == t171))))) = false := by simpa using c44))
                      (try (have c44b2 : (x159000_3 == t167 && (x159001_3 == t168 && (x159002_3 == t169 && (x159003_3 == t170 && (x159004_3 == t171))))) = false := by simpa using c44))
                      (try (have c44b3 : ¬ (x159000_3 = t167 && (x159001_3 == t168 && (x159002_3 == t169 && (x159003_3 == t170 && (x159004_3 == t171))))) := by simpa using c44))
                      clear c44
                      obtain rfl := Option.some.inj H
                      have hnb63 := NB158_150.out
                      have hnc63 := NB150_158.out
                      have hcz64_0 : wr.cell? ⟨gb158, 0, none⟩ = some (.bool x159000_3) := (blk_cell BK158.out 0).trans rfl
                      have hcz64_1 : wr.cell? ⟨gb158, 1, none⟩ = some (.int .i64 x159001_3) := (blk_cell BK158.out 1).trans rfl
                      have hcz64_2 : wr.cell? ⟨gb158, 2, none⟩ = some (.int .i64 x159002_3) := (blk_cell BK158.out 2).trans rfl
                      have hcz64_3 : wr.cell? ⟨gb158, 3, none⟩ = some (.int .i64 x159003_3) := (blk_cell BK158.out 3).trans rfl
                      have hcz64_4 : wr.cell? ⟨gb158, 4, none⟩ = some (.int .i64 x159004_3) := (blk_cell BK158.out 4).trans rfl
                      have hfz64_0 := blk_frozen BK158.out 0
                      have hfz64_1 := blk_frozen BK158.out 1
                      have hfz64_2 := blk_frozen BK158.out 2
                      have hfz64_3 := blk_frozen BK158.out 3
                      have hfz64_4 := blk_frozen BK158.out 4
                      go_wp2_with (first | ((with_reducible refine gate_callee (f := 14) rfl ?_); refine goesL_ (some 84) rfl rfl Try.func14 (by kernel_rfl) rfl #[.agg #[.bool x159000_3, .int .i64 x159001_3, .int .i64 x159002_3, .int .i64 x159003_3, .int .i64 x159004_3]] rfl (by (try simp only [List.map_toArray, List.map_cons, List.map_nil]); first | done | rfl | (simp only [List.length_drop, List.length_take]; rfl)) ?_; (with_reducible refine (rtt_Double.calls k3 x159000_3 x159001_3 x159002_3 x159003_3 x159004_3 t167 t168 t169 t170 t171 t172 _ A43.out).mono ?_); rintro e w65 ⟨rfl, hb⟩; refine ⟨_, rfl, ?_⟩; have n0_ := Aside0.mk (blk_below (g := gb150) (o := .cells #[.bool a0_0, .int .i64 a0_1, .int .i64 a0_2, .int .i64 a0_3, .int .i64 a0_4] 23 (0, 0)) (by (with_reducible repeat (first | refine blk_drewN ?_ _ | refine blk_drew ?_ | refine blk_alloc ?_ _)); exact BK150.out) hb); have n1_ := Aside0.mk (blk_below (g := gb158) (o := .cells #[.bool x159000_3, .int .i64 x159001_3, .int .i64 x159002_3, .int .i64 x159003_3, .int .i64 x159004_3] 23 (0, 0)) (by (with_reducible repeat (first | refine blk_drewN ?_ _ | refine blk_drew ?_ | refine blk_alloc ?_ _)); exact BK158.out) hb); have n2_ := Aside0.mk (below_step (by repeat (first | (with_reducible first | exact HB.out | apply below_alloc | apply pw_below_drewN | apply below_drew1 | refine below_set ?_ GE150.out | refine below_set ?_ GE158.out) | exact HB.out)) hb); clear BK150; clear BK158; clear HB; have BK150 := n0_; have BK158 := n1_; have HB := n2_; clear n0_ n1_ n2_; (try clear hb); (try clear hb2); (try clear hk); (try clear hi)) | ((with_reducible refine gate_dst (N := 11) rfl ?_); refine box_event ?hg (N := 11) ?hd (cs := #[.bool false, .int .i64 0, .int .i64 0, .int .i64 0, .int .i64 0]) (t := 23) ?hr ?_; (case hd => rfl); (case hg => rfl); (case hr => first | (go_simp; done) | (go_simp; rfl)); intro gb173 hg w66 hbox hb; have n0_ := Aside0.mk (blk_below (g := gb150) (o := .cells #[.bool a0_0, .int .i64 a0_1, .int .i64 a0_2, .int .i64 a0_3, .int .i64 a0_4] 23 (0, 0)) (by (with_reducible repeat (first | refine blk_drewN ?_ _ | refine blk_drew ?_ | refine blk_alloc ?_ _)); exact BK150.out) hb); have n1_ := Aside0.mk (blk_below (g := gb158) (o := .cells #[.bool x159000_3, .int .i64 x159001_3, .int .i64 x159002_3, .int .i64 x159003_3, .int .i64 x159004_3] 23 (0, 0)) (by (with_reducible repeat (first | refine blk_drewN ?_ _ | refine blk_drew ?_ | refine blk_alloc ?_ _)); exact BK158.out) hb); have n2_ := Aside0.mk (below_step (by repeat (first | (with_reducible first | exact HB.out | apply below_alloc | apply pw_below_drewN | apply below_drew1 | refine below_set ?_ GE150.out | refine below_set ?_ GE158.out) | exact HB.out)) hb); have n3_ := Aside0.mk (hbox); have n4_ := Aside0.mk ((by rw [hg]; exact (below_size (by repeat (first | (with_reducible first | exact HB.out | apply below_alloc | apply pw_below_drewN | apply below_drew1 | refine below_set ?_ GE150.out | refine below_set ?_ GE158.out) | exact HB.out))) : w.heap.size ≤ gb173)); have n5_ := Aside0.mk ((by rw [hg]; exact (below_size (by repeat (first | (with_reducible first | exact HB.out | apply below_alloc | apply pw_below_drewN | apply below_drew1 | refine below_set ?_ GE150.out | refine below_set ?_ GE158.out) | exact HB.out))) : w.heap.size ≤ gb173)); have n6_ := Aside0.mk ((by rw [hg]; exact Nat.ne_of_lt (blk_lt (g := gb150) (o := .cells #[.bool a0_0, .int .i64 a0_1, .int .i64 a0_2, .int .i64 a0_3, .int .i64 a0_4] 23 (0, 0)) (by (with_reducible repeat (first | refine blk_drewN ?_ _ | refine blk_drew ?_ | refine blk_alloc ?_ _)); exact BK150.out)) : gb150 ≠ gb173)); have n7_ := Aside0.mk ((by rw [hg]; exact Nat.ne_of_gt (blk_lt (g := gb150) (o := .cells #[.bool a0_0, .int .i64 a0_1, .int .i64 a0_2, .int .i64 a0_3, .int .i64 a0_4] 23 (0, 0)) (by (with_reducible repeat (first | refine blk_drewN ?_ _ | refine blk_drew ?_ | refine blk_alloc ?_ _)); exact BK150.out)) : gb173 ≠ gb150)); have n8_ := Aside0.mk ((by rw [hg]; exact Nat.ne_of_lt (blk_lt (g := gb158) (o := .cells #[.bool x159000_3, .int .i64 x159001_3, .int .i64 x159002_3, .int .i64 x159003_3, .int .i64 x159004_3] 23 (0, 0)) (by (with_reducible repeat (first | refine blk_drewN ?_ _ | refine blk_drew ?_ | refine blk_alloc ?_ _)); exact BK158.out)) : gb158 ≠ gb173)); have n9_ := Aside0.mk ((by rw [hg]; exact Nat.ne_of_gt (blk_lt (g := gb158) (o := .cells #[.bool x159000_3, .int .i64 x159001_3, .int .i64 x159002_3, .int .i64 x159003_3, .int .i64 x159004_3] 23 (0, 0)) (by (with_reducible repeat (first | refine blk_drewN ?_ _ | refine blk_drew ?_ | refine blk_alloc ?_ _)); exact BK158.out)) : gb173 ≠ gb158)); clear BK150; clear BK158; clear HB; have BK150 := n0_; have BK158 := n1_; have HB := n2_; have BK173 := n3_; have GW173 := n4_; have GE173 := n5_; have NB150_173 := n6_; have NB173_150 := n7_; have NB158_173 := n8_; have NB173_158 := n9_; clear n0_ n1_ n2_ n3_ n4_ n5_ n6_ n7_ n8_ n9_; clear hb hbox hg; have hnb67 := NB173_150.out; have hnc67 := NB150_173.out; have hnb68 := NB173_158.out; have hnc68 := NB158_173.out; have hcz69_0 : w66.cell? ⟨gb173, 0, none⟩ = some (.bool false) := (blk_cell BK173.out 0).trans rfl; have hcz69_1 : w66.cell? ⟨gb173, 1, none⟩ = some (.int .i64 0) := (blk_cell BK173.out 1).trans rfl; have hcz69_2 : w66.cell? ⟨gb173, 2, none⟩ = some (.int .i64 0) := (blk_cell BK173.out 2).trans rfl; have hcz69_3 : w66.cell? ⟨gb173, 3, none⟩ = some (.int .i64 0) := (blk_cell BK173.out 3).trans rfl; have hcz69_4 : w66.cell? ⟨gb173, 4, none⟩ = some (.int .i64 0) := (blk_cell BK173.out 4).trans rfl; have hfz69_0 := blk_frozen BK173.out 0; have hfz69_1 := blk_frozen BK173.out 1; have hfz69_2 := blk_frozen BK173.out 2; have hfz69_3 := blk_frozen BK173.out 3; have hfz69_4 := blk_frozen BK173.out 4; have hcz70_0 : w66.cell? ⟨gb158, 0, none⟩ = some (.bool x159000_3) := (blk_cell BK158.out 0).trans rfl; have hcz70_1 : w66.cell? ⟨gb158, 1, none⟩ = some (.int .i64 x159001_3) := (blk_cell BK158.out 1).trans rfl; have hcz70_2 : w66.cell? ⟨gb158, 2, none⟩ = some (.int .i64 x159002_3) := (blk_cell BK158.out 2).trans rfl; have hcz70_3 : w66.cell? ⟨gb158, 3, none⟩ = some (.int .i64 x159003_3) := (blk_cell BK158.out 3).trans rfl; have hcz70_4 : w66.cell? ⟨gb158, 4, none⟩ = some (.int .i64 x159004_3) := (blk_cell BK158.out 4).trans rfl; have hfz70_0 := blk_frozen BK158.out 0; have hfz70_1 := blk_frozen BK158.out 1; have hfz70_2 := blk_frozen BK158.out 2; have hfz70_3 := blk_frozen BK158.out 3; have hfz70_4 := blk_frozen BK158.out 4))
                      go_ret
                      exact ⟨by first | rfl | (simp [errW_none, errW_some] <;> rfl) | (simp [*, errW_none, errW_some] <;> rfl), by repeat (first | (with_reducible first | exact HB.out | apply below_alloc | apply pw_below_drewN | apply below_drew1 | refine below_set ?_ GE150.out | refine below_set ?_ GE158.out | refine below_set ?_ GE173.out) | exact HB.out)⟩

end Go.Proofs.Ytbkfegmhbiakhaa.PRttDoubles
