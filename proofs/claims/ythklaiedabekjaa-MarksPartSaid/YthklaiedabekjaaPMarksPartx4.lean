-- Written by a program of this session (wip/hprint.py), over the kit's print.py: the walk of one law. Lean checks it.
import Derived.Test.YthklaiedabekjaaPMarksPartx0
import Derived.Test.YthklaiedabekjaaPMarksPartx1
import Derived.Test.YthklaiedabekjaaPMarksPartx3
namespace Go.Proofs.Ythklaiedabekjaa.PMarksPart
open Go.RowKit Go.Proofs.YthklaiedabekjaaW.PrintWords Go.Proofs.YthklaiedabekjaaW.PrintLast Go.Proofs.YthklaiedabekjaaW.PrintMore
attribute [local go_sem] max2_int min2_int max_two min_two max_three min_three max_four min_four   -- for this text's walks alone
set_option linter.unusedVariables false
set_option linter.unusedSimpArgs false

attribute [local go_sem high] eqA23
/-! ### fourinhandlaw10_MarksPart: function 3 -/
mutual
def fourinhandlaw10_MarksPart.j0 : Nat → Bool → Bool → Int → Int → Int → Int → Int → Int → Int → Int → Int → Int → Option (Bool)
  | 0, _, _, _, _, _, _, _, _, _, _, _, _ => none
  | k + 1, x3, x17, x145000, x145001, x145002, x145003, x145004, x153000, x153001, x153002, x153003, x153004 => if x17 = true then (if x3 = true then (some (x153000 == 0 && (x153001 == 0 && (x153002 == 0 && (x153003 == 0 && (x153004 == 0)))))) else (some false)) else (if x145002 = 0 then (fourinhandlaw10_MarksPart.j1 k true x145000 x145001 x145002 x145003 x145004 x153000 x153001 x153002 x153003 x153004) else (if x145003 = 0 then (fourinhandlaw10_MarksPart.j1 k (x145004 == 0) x145000 x145001 x145002 x145003 x145004 x153000 x153001 x153002 x153003 x153004) else (fourinhandlaw10_MarksPart.j1 k false x145000 x145001 x145002 x145003 x145004 x153000 x153001 x153002 x153003 x153004)))
def fourinhandlaw10_MarksPart.j1 : Nat → Bool → Int → Int → Int → Int → Int → Int → Int → Int → Int → Int → Option (Bool)
  | 0, _, _, _, _, _, _, _, _, _, _, _ => none
  | k + 1, x36, x145000, x145001, x145002, x145003, x145004, x153000, x153001, x153002, x153003, x153004 => if x36 = true then (if x153004 = x145004 then (if x153002 = 0 then (some (x153003 == 0)) else (some false)) else (some false)) else (if x145003 = 0 then (if x153004 > x145004 then (some false) else (if x145003 = x145002 then (if x153004 < x145004 then (some false) else (if x153004 ≥ 0 then (if x153004 ≤ 1024 then (if (wrap64 (x153004 - x145004)) ≤ 64 then (if (wrap64 (x145004 - x153004)) ≤ 64 then (if x153000 = x145000 then (some (x153001 == x145001)) else (some false)) else (some false)) else (some false)) else (some false)) else (some false))) else (if x153004 ≥ 0 then (if x153004 ≤ 1024 then (if (wrap64 (x153004 - x145004)) ≤ 64 then (if (wrap64 (x145004 - x153004)) ≤ 64 then (if x153000 = x145000 then (some (x153001 == x145001)) else (some false)) else (some false)) else (some false)) else (some false)) else (some false)))) else (if x145003 = x145002 then (if x153004 < x145004 then (some false) else (if x153004 ≥ 0 then (if x153004 ≤ 1024 then (if (wrap64 (x153004 - x145004)) ≤ 64 then (if (wrap64 (x145004 - x153004)) ≤ 64 then (if x153000 = x145000 then (some (x153001 == x145001)) else (some false)) else (some false)) else (some false)) else (some false)) else (some false))) else (if x153004 ≥ 0 then (if x153004 ≤ 1024 then (if (wrap64 (x153004 - x145004)) ≤ 64 then (if (wrap64 (x145004 - x153004)) ≤ 64 then (if x153000 = x145000 then (some (x153001 == x145001)) else (some false)) else (some false)) else (some false)) else (some false)) else (some false))))
end
def fourinhandlaw10_MarksPart.f (k : Nat) (a0_0 : Int) (a0_1 : Int) (a0_2 : Int) (a0_3 : Int) (a0_4 : Int) : Option (Bool) := (fourinhandlaw10_awake.f k).bind fun t145 => ((marks_Round.f k a0_0 a0_1 a0_2 a0_3 a0_4).bind fun bt146 => (if t145 = true then (fourinhandlaw10_MarksPart.j0 k t145 (bt146.2.2.2.2.2 != 0) a0_0 a0_1 a0_2 a0_3 a0_4 bt146.1 bt146.2.1 bt146.2.2.1 bt146.2.2.2.1 bt146.2.2.2.2.1) else (fourinhandlaw10_MarksPart.j0 k t145 true a0_0 a0_1 a0_2 a0_3 a0_4 bt146.1 bt146.2.1 bt146.2.2.1 bt146.2.2.2.1 bt146.2.2.2.2.1)))
theorem fourinhandlaw10_MarksPart.mono_l : ∀ k, (∀ y0 y1 y2 y3 y4 y5 y6 y7 y8 y9 y10 y11, LeO (fourinhandlaw10_MarksPart.j0 k y0 y1 y2 y3 y4 y5 y6 y7 y8 y9 y10 y11) (fourinhandlaw10_MarksPart.j0 (k + 1) y0 y1 y2 y3 y4 y5 y6 y7 y8 y9 y10 y11)) ∧ (∀ y0 y1 y2 y3 y4 y5 y6 y7 y8 y9 y10, LeO (fourinhandlaw10_MarksPart.j1 k y0 y1 y2 y3 y4 y5 y6 y7 y8 y9 y10) (fourinhandlaw10_MarksPart.j1 (k + 1) y0 y1 y2 y3 y4 y5 y6 y7 y8 y9 y10))
  | 0 => ⟨fun _ _ _ _ _ _ _ _ _ _ _ _ r h => by simp [fourinhandlaw10_MarksPart.j0] at h, fun _ _ _ _ _ _ _ _ _ _ _ r h => by simp [fourinhandlaw10_MarksPart.j1] at h⟩
  | k + 1 => by
    obtain ⟨ih0, ih1⟩ := fourinhandlaw10_MarksPart.mono_l k
    refine ⟨?_, ?_⟩
    · intro y0 y1 y2 y3 y4 y5 y6 y7 y8 y9 y10 y11
      unfold fourinhandlaw10_MarksPart.j0
      repeat' first
      | (with_reducible exact ih0 _ _ _ _ _ _ _ _ _ _ _ _)
      | (with_reducible exact ih1 _ _ _ _ _ _ _ _ _ _ _)
      | (with_reducible exact fourinhandlaw10_awake.mono _)
      | (with_reducible exact marks_Round.mono _ _ _ _ _ _)
      | (with_reducible exact LeO.refl _)
      | (with_reducible exact LeO.none _)
      | (with_reducible refine LeO.ite ?_ ?_)
      | (with_reducible refine LeO.bind ?_ (fun _ => ?_))
      | exact ih0 _ _ _ _ _ _ _ _ _ _ _ _
      | exact ih1 _ _ _ _ _ _ _ _ _ _ _
      | exact fourinhandlaw10_awake.mono _
      | exact marks_Round.mono _ _ _ _ _ _
      | exact LeO.none _
      | refine LeO.ite ?_ ?_
      | refine LeO.bind ?_ (fun _ => ?_)
    · intro y0 y1 y2 y3 y4 y5 y6 y7 y8 y9 y10
      unfold fourinhandlaw10_MarksPart.j1
      repeat' first
      | (with_reducible exact ih0 _ _ _ _ _ _ _ _ _ _ _ _)
      | (with_reducible exact ih1 _ _ _ _ _ _ _ _ _ _ _)
      | (with_reducible exact fourinhandlaw10_awake.mono _)
      | (with_reducible exact marks_Round.mono _ _ _ _ _ _)
      | (with_reducible exact LeO.refl _)
      | (with_reducible exact LeO.none _)
      | (with_reducible refine LeO.ite ?_ ?_)
      | (with_reducible refine LeO.bind ?_ (fun _ => ?_))
      | exact ih0 _ _ _ _ _ _ _ _ _ _ _ _
      | exact ih1 _ _ _ _ _ _ _ _ _ _ _
      | exact fourinhandlaw10_awake.mono _
      | exact marks_Round.mono _ _ _ _ _ _
      | exact LeO.none _
      | refine LeO.ite ?_ ?_
      | refine LeO.bind ?_ (fun _ => ?_)
theorem fourinhandlaw10_MarksPart.mono : ∀ a0 a1 a2 a3 a4 k, LeO (fourinhandlaw10_MarksPart.f k a0 a1 a2 a3 a4) (fourinhandlaw10_MarksPart.f (k + 1) a0 a1 a2 a3 a4) := by
  intro a0 a1 a2 a3 a4 k
  obtain ⟨ih0, ih1⟩ := fourinhandlaw10_MarksPart.mono_l k
  unfold fourinhandlaw10_MarksPart.f
  repeat' first
      | (with_reducible exact ih0 _ _ _ _ _ _ _ _ _ _ _ _)
      | (with_reducible exact ih1 _ _ _ _ _ _ _ _ _ _ _)
      | (with_reducible exact fourinhandlaw10_awake.mono _)
      | (with_reducible exact marks_Round.mono _ _ _ _ _ _)
      | (with_reducible exact LeO.refl _)
      | (with_reducible exact LeO.none _)
      | (with_reducible refine LeO.ite ?_ ?_)
      | (with_reducible refine LeO.bind ?_ (fun _ => ?_))
      | exact ih0 _ _ _ _ _ _ _ _ _ _ _ _
      | exact ih1 _ _ _ _ _ _ _ _ _ _ _
      | exact fourinhandlaw10_awake.mono _
      | exact marks_Round.mono _ _ _ _ _ _
      | exact LeO.none _
      | refine LeO.ite ?_ ?_
      | refine LeO.bind ?_ (fun _ => ?_)
set_option maxHeartbeats 8000000 in
set_option maxRecDepth 100000 in
theorem fourinhandlaw10_MarksPart.calls (k : Nat) (a0_0 : Int) (a0_1 : Int) (a0_2 : Int) (a0_3 : Int) (a0_4 : Int) (r : Bool) (hr_ : Aside0 (r = true)) (w : World) (h : fourinhandlaw10_MarksPart.f k a0_0 a0_1 a0_2 a0_3 a0_4 = some r) :
    Calls Try.prog 3 #[.agg #[.int .i64 a0_0, .int .i64 a0_1, .int .i64 a0_2, .int .i64 a0_3, .int .i64 a0_4]] w fun e w' => e = .returned (.bool r) ∧ Below w.heap.size w w' := by
  have hu23 := Try.underlying23
  have HB := Aside0.mk (Below.refl w.heap.size w)
  have H : ((fourinhandlaw10_awake.f k).bind fun t145 => ((marks_Round.f k a0_0 a0_1 a0_2 a0_3 a0_4).bind fun bt146 => (if t145 = true then (fourinhandlaw10_MarksPart.j0 k t145 (bt146.2.2.2.2.2 != 0) a0_0 a0_1 a0_2 a0_3 a0_4 bt146.1 bt146.2.1 bt146.2.2.1 bt146.2.2.2.1 bt146.2.2.2.2.1) else (fourinhandlaw10_MarksPart.j0 k t145 true a0_0 a0_1 a0_2 a0_3 a0_4 bt146.1 bt146.2.1 bt146.2.2.1 bt146.2.2.2.1 bt146.2.2.2.2.1)))) = some r := h
  clear h
  replace H := Option.bind_eq_some_iff.mp H
  obtain ⟨t145, A20, H⟩ := H
  replace H : ((marks_Round.f k a0_0 a0_1 a0_2 a0_3 a0_4).bind fun bt146 => (if t145 = true then (fourinhandlaw10_MarksPart.j0 k t145 (bt146.2.2.2.2.2 != 0) a0_0 a0_1 a0_2 a0_3 a0_4 bt146.1 bt146.2.1 bt146.2.2.1 bt146.2.2.2.1 bt146.2.2.2.2.1) else (fourinhandlaw10_MarksPart.j0 k t145 true a0_0 a0_1 a0_2 a0_3 a0_4 bt146.1 bt146.2.1 bt146.2.2.1 bt146.2.2.2.1 bt146.2.2.2.2.1))) = some r := H
  have A2 := Aside0.mk A20
  clear A20
  replace H := Option.bind_eq_some_iff.mp H
  obtain ⟨⟨t146, t147, t148, t149, t150, t151⟩, A30, H⟩ := H
  replace H : (if t145 = true then (fourinhandlaw10_MarksPart.j0 k t145 (t151 != 0) a0_0 a0_1 a0_2 a0_3 a0_4 t146 t147 t148 t149 t150) else (fourinhandlaw10_MarksPart.j0 k t145 true a0_0 a0_1 a0_2 a0_3 a0_4 t146 t147 t148 t149 t150)) = some r := H
  have A3 := Aside0.mk A30
  clear A30
  have HC4 := Aside0.mk H
  clear H
  go_enter Try.func3, Try.ntmps3
  go_upto_region 3 with (first | ((with_reducible refine gate_dst (N := 1) rfl ?_); refine box_event ?hg (N := 1) ?hd (cs := #[.int .i64 a0_0, .int .i64 a0_1, .int .i64 a0_2, .int .i64 a0_3, .int .i64 a0_4]) (t := 23) ?hr ?_; (case hd => rfl); (case hg => rfl); (case hr => first | (go_simp; done) | (go_simp; rfl)); intro gb144 hg w5 hbox hb; have n0_ := Aside0.mk (below_step (by repeat (first | (with_reducible first | exact HB.out | apply below_alloc | apply pw_below_drewN | apply below_drew1) | exact HB.out)) hb); have n1_ := Aside0.mk (hbox); have n2_ := Aside0.mk ((by rw [hg]; exact (below_size (by repeat (first | (with_reducible first | exact HB.out | apply below_alloc | apply pw_below_drewN | apply below_drew1) | exact HB.out))) : w.heap.size ≤ gb144)); have n3_ := Aside0.mk ((by rw [hg]; exact (below_size (by repeat (first | (with_reducible first | exact HB.out | apply below_alloc | apply pw_below_drewN | apply below_drew1) | exact HB.out))) : w.heap.size ≤ gb144)); clear HB; have HB := n0_; have BK144 := n1_; have GW144 := n2_; have GE144 := n3_; clear n0_ n1_ n2_ n3_; clear hb hbox hg) | ((with_reducible refine gate_callee (f := 8) rfl ?_); refine goesL_ (some 6) rfl rfl Try.func8 (by kernel_rfl) rfl #[] rfl (by (try simp only [List.map_toArray, List.map_cons, List.map_nil]); first | done | rfl | (simp only [List.length_drop, List.length_take]; rfl)) ?_; (with_reducible refine (fourinhandlaw10_awake.calls k  t145 _ A2.out).mono ?_); rintro e w6 ⟨rfl, hb⟩; refine ⟨_, rfl, ?_⟩; have n0_ := Aside0.mk (blk_below (g := gb144) (o := .cells #[.int .i64 a0_0, .int .i64 a0_1, .int .i64 a0_2, .int .i64 a0_3, .int .i64 a0_4] 23 (0, 0)) (by (with_reducible repeat (first | refine blk_drewN ?_ _ | refine blk_drew ?_ | refine blk_alloc ?_ _)); exact BK144.out) hb); have n1_ := Aside0.mk (below_step (by repeat (first | (with_reducible first | exact HB.out | apply below_alloc | apply pw_below_drewN | apply below_drew1 | refine below_set ?_ GE144.out) | exact HB.out)) hb); clear BK144; clear HB; have BK144 := n0_; have HB := n1_; clear n0_ n1_; (try clear hb); (try clear hb2); (try clear hk); (try clear hi); have hcz7_0 : w6.cell? ⟨gb144, 0, none⟩ = some (.int .i64 a0_0) := (blk_cell BK144.out 0).trans rfl; have hcz7_1 : w6.cell? ⟨gb144, 1, none⟩ = some (.int .i64 a0_1) := (blk_cell BK144.out 1).trans rfl; have hcz7_2 : w6.cell? ⟨gb144, 2, none⟩ = some (.int .i64 a0_2) := (blk_cell BK144.out 2).trans rfl; have hcz7_3 : w6.cell? ⟨gb144, 3, none⟩ = some (.int .i64 a0_3) := (blk_cell BK144.out 3).trans rfl; have hcz7_4 : w6.cell? ⟨gb144, 4, none⟩ = some (.int .i64 a0_4) := (blk_cell BK144.out 4).trans rfl; have hfz7_0 := blk_frozen BK144.out 0; have hfz7_1 := blk_frozen BK144.out 1; have hfz7_2 := blk_frozen BK144.out 2; have hfz7_3 := blk_frozen BK144.out 3; have hfz7_4 := blk_frozen BK144.out 4) | ((with_reducible refine gate_callee (f := 9) rfl ?_); refine goesL_ (some 9) rfl rfl Try.func9 (by kernel_rfl) rfl #[.agg #[.int .i64 a0_0, .int .i64 a0_1, .int .i64 a0_2, .int .i64 a0_3, .int .i64 a0_4]] rfl (by (try simp only [List.map_toArray, List.map_cons, List.map_nil]); first | done | rfl | (simp only [List.length_drop, List.length_take]; rfl)) ?_; (with_reducible refine (marks_Round.calls k a0_0 a0_1 a0_2 a0_3 a0_4 t146 t147 t148 t149 t150 t151 _ A3.out).mono ?_); rintro e w8 ⟨rfl, hb⟩; refine ⟨_, rfl, ?_⟩; have n0_ := Aside0.mk (blk_below (g := gb144) (o := .cells #[.int .i64 a0_0, .int .i64 a0_1, .int .i64 a0_2, .int .i64 a0_3, .int .i64 a0_4] 23 (0, 0)) (by (with_reducible repeat (first | refine blk_drewN ?_ _ | refine blk_drew ?_ | refine blk_alloc ?_ _)); exact BK144.out) hb); have n1_ := Aside0.mk (below_step (by repeat (first | (with_reducible first | exact HB.out | apply below_alloc | apply pw_below_drewN | apply below_drew1 | refine below_set ?_ GE144.out) | exact HB.out)) hb); clear BK144; clear HB; have BK144 := n0_; have HB := n1_; clear n0_ n1_; (try clear hb); (try clear hb2); (try clear hk); (try clear hi)) | ((with_reducible refine gate_dst (N := 4) rfl ?_); refine box_event ?hg (N := 4) ?hd (cs := #[.int .i64 0, .int .i64 0, .int .i64 0, .int .i64 0, .int .i64 0]) (t := 23) ?hr ?_; (case hd => rfl); (case hg => rfl); (case hr => first | (go_simp; done) | (go_simp; rfl)); intro gb152 hg w9 hbox hb; have n0_ := Aside0.mk (blk_below (g := gb144) (o := .cells #[.int .i64 a0_0, .int .i64 a0_1, .int .i64 a0_2, .int .i64 a0_3, .int .i64 a0_4] 23 (0, 0)) (by (with_reducible repeat (first | refine blk_drewN ?_ _ | refine blk_drew ?_ | refine blk_alloc ?_ _)); exact BK144.out) hb); have n1_ := Aside0.mk (below_step (by repeat (first | (with_reducible first | exact HB.out | apply below_alloc | apply pw_below_drewN | apply below_drew1 | refine below_set ?_ GE144.out) | exact HB.out)) hb); have n2_ := Aside0.mk (hbox); have n3_ := Aside0.mk ((by rw [hg]; exact (below_size (by repeat (first | (with_reducible first | exact HB.out | apply below_alloc | apply pw_below_drewN | apply below_drew1 | refine below_set ?_ GE144.out) | exact HB.out))) : w.heap.size ≤ gb152)); have n4_ := Aside0.mk ((by rw [hg]; exact (below_size (by repeat (first | (with_reducible first | exact HB.out | apply below_alloc | apply pw_below_drewN | apply below_drew1 | refine below_set ?_ GE144.out) | exact HB.out))) : w.heap.size ≤ gb152)); have n5_ := Aside0.mk ((by rw [hg]; exact Nat.ne_of_lt (blk_lt (g := gb144) (o := .cells #[.int .i64 a0_0, .int .i64 a0_1, .int .i64 a0_2, .int .i64 a0_3, .int .i64 a0_4] 23 (0, 0)) (by (with_reducible repeat (first | refine blk_drewN ?_ _ | refine blk_drew ?_ | refine blk_alloc ?_ _)); exact BK144.out)) : gb144 ≠ gb152)); have n6_ := Aside0.mk ((by rw [hg]; exact Nat.ne_of_gt (blk_lt (g := gb144) (o := .cells #[.int .i64 a0_0, .int .i64 a0_1, .int .i64 a0_2, .int .i64 a0_3, .int .i64 a0_4] 23 (0, 0)) (by (with_reducible repeat (first | refine blk_drewN ?_ _ | refine blk_drew ?_ | refine blk_alloc ?_ _)); exact BK144.out)) : gb152 ≠ gb144)); clear BK144; clear HB; have BK144 := n0_; have HB := n1_; have BK152 := n2_; have GW152 := n3_; have GE152 := n4_; have NB144_152 := n5_; have NB152_144 := n6_; clear n0_ n1_ n2_ n3_ n4_ n5_ n6_; clear hb hbox hg; have hnb10 := NB152_144.out; have hnc10 := NB144_152.out; have hcz11_0 : w9.cell? ⟨gb152, 0, none⟩ = some (.int .i64 0) := (blk_cell BK152.out 0).trans rfl; have hcz11_1 : w9.cell? ⟨gb152, 1, none⟩ = some (.int .i64 0) := (blk_cell BK152.out 1).trans rfl; have hcz11_2 : w9.cell? ⟨gb152, 2, none⟩ = some (.int .i64 0) := (blk_cell BK152.out 2).trans rfl; have hcz11_3 : w9.cell? ⟨gb152, 3, none⟩ = some (.int .i64 0) := (blk_cell BK152.out 3).trans rfl; have hcz11_4 : w9.cell? ⟨gb152, 4, none⟩ = some (.int .i64 0) := (blk_cell BK152.out 4).trans rfl; have hfz11_0 := blk_frozen BK152.out 0; have hfz11_1 := blk_frozen BK152.out 1; have hfz11_2 := blk_frozen BK152.out 2; have hfz11_3 := blk_frozen BK152.out 3; have hfz11_4 := blk_frozen BK152.out 4))
  (try simp only [Act.put, List.setIfInBounds_toArray, List.set_cons_zero, List.set_cons_succ])
  go_cut [17] (fun v17 wc => ∃ (kq : Nat) (x17_3 : Bool), v17 = .bool x17_3 ∧ Aside0 (fourinhandlaw10_MarksPart.j0 kq t145 x17_3 a0_0 a0_1 a0_2 a0_3 a0_4 t146 t147 t148 t149 t150 = some r) ∧ Aside0 (kq ≤ k) ∧ Aside0 (wc.heap[gb144]? = some (.cells #[.int .i64 a0_0, .int .i64 a0_1, .int .i64 a0_2, .int .i64 a0_3, .int .i64 a0_4] 23 (0, 0))) ∧ Aside0 (wc.heap[gb152]? = some (.cells #[.int .i64 t146, .int .i64 t147, .int .i64 t148, .int .i64 t149, .int .i64 t150] 23 (0, 0))) ∧ Aside0 (Below w.heap.size w wc))
  case first =>
    have H := HC4.out
    clear HC4
    by_cases c12 : t145 = true
    · subst c12
      have H1 : (fourinhandlaw10_MarksPart.j0 k true (t151 != 0) a0_0 a0_1 a0_2 a0_3 a0_4 t146 t147 t148 t149 t150) = some r := by rw [if_pos rfl] at H; exact H
      clear H
      have H := H1
      clear H1
      have H' := Aside0.mk H
      clear H
      go_wp2
      go_meet
      case rel => exact ⟨_, ((t151 != 0)), (by first | rfl | (simp; done) | (simp [*]; done)), H', ⟨by first | omega | exact Nat.le_refl _⟩, ⟨by (with_reducible repeat (first | refine blk_drewN ?_ _ | refine blk_drew ?_ | refine blk_alloc ?_ _)); refine blk_far ?_ NB144_152.out _; (with_reducible repeat (first | refine blk_drewN ?_ _ | refine blk_drew ?_ | refine blk_alloc ?_ _)); refine blk_far ?_ NB144_152.out _; (with_reducible repeat (first | refine blk_drewN ?_ _ | refine blk_drew ?_ | refine blk_alloc ?_ _)); refine blk_far ?_ NB144_152.out _; (with_reducible repeat (first | refine blk_drewN ?_ _ | refine blk_drew ?_ | refine blk_alloc ?_ _)); refine blk_far ?_ NB144_152.out _; (with_reducible repeat (first | refine blk_drewN ?_ _ | refine blk_drew ?_ | refine blk_alloc ?_ _)); refine blk_far ?_ NB144_152.out _; (with_reducible repeat (first | refine blk_drewN ?_ _ | refine blk_drew ?_ | refine blk_alloc ?_ _)); exact BK144.out⟩, ⟨by (with_reducible repeat (first | refine blk_drewN ?_ _ | refine blk_drew ?_ | refine blk_alloc ?_ _)); refine blk_put (cs := #[.int .i64 t146, .int .i64 t147, .int .i64 t148, .int .i64 t149, .int .i64 0]) ?_ 4 _ rfl; (with_reducible repeat (first | refine blk_drewN ?_ _ | refine blk_drew ?_ | refine blk_alloc ?_ _)); refine blk_put (cs := #[.int .i64 t146, .int .i64 t147, .int .i64 t148, .int .i64 0, .int .i64 0]) ?_ 3 _ rfl; (with_reducible repeat (first | refine blk_drewN ?_ _ | refine blk_drew ?_ | refine blk_alloc ?_ _)); refine blk_put (cs := #[.int .i64 t146, .int .i64 t147, .int .i64 0, .int .i64 0, .int .i64 0]) ?_ 2 _ rfl; (with_reducible repeat (first | refine blk_drewN ?_ _ | refine blk_drew ?_ | refine blk_alloc ?_ _)); refine blk_put (cs := #[.int .i64 t146, .int .i64 0, .int .i64 0, .int .i64 0, .int .i64 0]) ?_ 1 _ rfl; (with_reducible repeat (first | refine blk_drewN ?_ _ | refine blk_drew ?_ | refine blk_alloc ?_ _)); refine blk_put (cs := #[.int .i64 0, .int .i64 0, .int .i64 0, .int .i64 0, .int .i64 0]) ?_ 0 _ rfl; (with_reducible repeat (first | refine blk_drewN ?_ _ | refine blk_drew ?_ | refine blk_alloc ?_ _)); exact BK152.out⟩, ⟨by repeat (first | (with_reducible first | exact HB.out | apply below_alloc | apply pw_below_drewN | apply below_drew1 | refine below_set ?_ GE144.out | refine below_set ?_ GE152.out) | exact HB.out)⟩⟩
    · replace c12 := Bool.eq_false_iff.mpr c12
      subst c12
      have H1 : (fourinhandlaw10_MarksPart.j0 k false true a0_0 a0_1 a0_2 a0_3 a0_4 t146 t147 t148 t149 t150) = some r := by rw [if_neg (show ¬ (false = true) by decide)] at H; exact H
      clear H
      have H := H1
      clear H1
      have H' := Aside0.mk H
      clear H
      go_wp2
      go_meet
      case rel => exact ⟨_, (true), (by first | rfl | (simp; done) | (simp [*]; done)), H', ⟨by first | omega | exact Nat.le_refl _⟩, ⟨by (with_reducible repeat (first | refine blk_drewN ?_ _ | refine blk_drew ?_ | refine blk_alloc ?_ _)); refine blk_far ?_ NB144_152.out _; (with_reducible repeat (first | refine blk_drewN ?_ _ | refine blk_drew ?_ | refine blk_alloc ?_ _)); refine blk_far ?_ NB144_152.out _; (with_reducible repeat (first | refine blk_drewN ?_ _ | refine blk_drew ?_ | refine blk_alloc ?_ _)); refine blk_far ?_ NB144_152.out _; (with_reducible repeat (first | refine blk_drewN ?_ _ | refine blk_drew ?_ | refine blk_alloc ?_ _)); refine blk_far ?_ NB144_152.out _; (with_reducible repeat (first | refine blk_drewN ?_ _ | refine blk_drew ?_ | refine blk_alloc ?_ _)); refine blk_far ?_ NB144_152.out _; (with_reducible repeat (first | refine blk_drewN ?_ _ | refine blk_drew ?_ | refine blk_alloc ?_ _)); exact BK144.out⟩, ⟨by (with_reducible repeat (first | refine blk_drewN ?_ _ | refine blk_drew ?_ | refine blk_alloc ?_ _)); refine blk_put (cs := #[.int .i64 t146, .int .i64 t147, .int .i64 t148, .int .i64 t149, .int .i64 0]) ?_ 4 _ rfl; (with_reducible repeat (first | refine blk_drewN ?_ _ | refine blk_drew ?_ | refine blk_alloc ?_ _)); refine blk_put (cs := #[.int .i64 t146, .int .i64 t147, .int .i64 t148, .int .i64 0, .int .i64 0]) ?_ 3 _ rfl; (with_reducible repeat (first | refine blk_drewN ?_ _ | refine blk_drew ?_ | refine blk_alloc ?_ _)); refine blk_put (cs := #[.int .i64 t146, .int .i64 t147, .int .i64 0, .int .i64 0, .int .i64 0]) ?_ 2 _ rfl; (with_reducible repeat (first | refine blk_drewN ?_ _ | refine blk_drew ?_ | refine blk_alloc ?_ _)); refine blk_put (cs := #[.int .i64 t146, .int .i64 0, .int .i64 0, .int .i64 0, .int .i64 0]) ?_ 1 _ rfl; (with_reducible repeat (first | refine blk_drewN ?_ _ | refine blk_drew ?_ | refine blk_alloc ?_ _)); refine blk_put (cs := #[.int .i64 0, .int .i64 0, .int .i64 0, .int .i64 0, .int .i64 0]) ?_ 0 _ rfl; (with_reducible repeat (first | refine blk_drewN ?_ _ | refine blk_drew ?_ | refine blk_alloc ?_ _)); exact BK152.out⟩, ⟨by repeat (first | (with_reducible first | exact HB.out | apply below_alloc | apply pw_below_drewN | apply below_drew1 | refine below_set ?_ GE144.out | refine below_set ?_ GE152.out) | exact HB.out)⟩⟩
  case rest =>
    clear HC4
    try clear c1
    try clear p2
    try clear c3
    try clear c8
    try clear c9
    try clear c10
    try clear c12
    try clear hcz11_0
    try clear hcz11_1
    try clear hcz11_2
    try clear hcz11_3
    try clear hcz11_4
    try clear hcz7_0
    try clear hcz7_1
    try clear hcz7_2
    try clear hcz7_3
    try clear hcz7_4
    try clear hfz11_0
    try clear hfz11_1
    try clear hfz11_2
    try clear hfz11_3
    try clear hfz11_4
    try clear hfz7_0
    try clear hfz7_1
    try clear hfz7_2
    try clear hfz7_3
    try clear hfz7_4
    obtain ⟨kq, x17_3, rfl, HA, HJ3, BK144, BK152, HB⟩ := hcut
    cases kq with
    | zero => exact absurd HA.out (by simp [fourinhandlaw10_MarksPart.j0])
    | succ kj3 =>
      have H := HA.out
      clear HA
      simp only [fourinhandlaw10_MarksPart.j0] at H
      by_cases c13 : x17_3 = true
      · subst c13
        have H1 : (if t145 = true then (some (t146 == 0 && (t147 == 0 && (t148 == 0 && (t149 == 0 && (t150 == 0)))))) else (some false)) = some r := by rw [if_pos rfl] at H; exact H
        clear H
        have H := H1
        clear H1
        by_cases c14 : t145 = true
        · subst c14
          have H1 : (some (t146 == 0 && (t147 == 0 && (t148 == 0 && (t149 == 0 && (t150 == 0)))))) = some r := by rw [if_pos rfl] at H; exact H
          clear H
          have H := H1
          clear H1
          obtain rfl := Option.some.inj H
          have hnb15 := NB152_144.out
          have hnc15 := NB144_152.out
          have hcz16_0 : wc.cell? ⟨gb152, 0, none⟩ = some (.int .i64 t146) := (blk_cell BK152.out 0).trans rfl
          have hcz16_1 : wc.cell? ⟨gb152, 1, none⟩ = some (.int .i64 t147) := (blk_cell BK152.out 1).trans rfl
          have hcz16_2 : wc.cell? ⟨gb152, 2, none⟩ = some (.int .i64 t148) := (blk_cell BK152.out 2).trans rfl
          have hcz16_3 : wc.cell? ⟨gb152, 3, none⟩ = some (.int .i64 t149) := (blk_cell BK152.out 3).trans rfl
          have hcz16_4 : wc.cell? ⟨gb152, 4, none⟩ = some (.int .i64 t150) := (blk_cell BK152.out 4).trans rfl
          have hfz16_0 := blk_frozen BK152.out 0
          have hfz16_1 := blk_frozen BK152.out 1
          have hfz16_2 := blk_frozen BK152.out 2
          have hfz16_3 := blk_frozen BK152.out 3
          have hfz16_4 := blk_frozen BK152.out 4
          go_wp2
          go_ret
          exact ⟨by first | rfl | (simp [errW_none, errW_some] <;> rfl) | (simp [*, errW_none, errW_some] <;> rfl), by repeat (first | (with_reducible first | exact HB.out | apply below_alloc | apply pw_below_drewN | apply below_drew1 | refine below_set ?_ GE144.out | refine below_set ?_ GE152.out) | exact HB.out)⟩
        · replace c14 := Bool.eq_false_iff.mpr c14
          subst c14
          have H1 : (some false) = some r := by rw [if_neg (show ¬ (false = true) by decide)] at H; exact H
          clear H
          have H := H1
          clear H1
          exact Bool.noConfusion ((Option.some.inj H).trans hr_.out)
      · replace c13 := Bool.eq_false_iff.mpr c13
        subst c13
        have H1 : (if a0_2 = 0 then (fourinhandlaw10_MarksPart.j1 kj3 true a0_0 a0_1 a0_2 a0_3 a0_4 t146 t147 t148 t149 t150) else (if a0_3 = 0 then (fourinhandlaw10_MarksPart.j1 kj3 (a0_4 == 0) a0_0 a0_1 a0_2 a0_3 a0_4 t146 t147 t148 t149 t150) else (fourinhandlaw10_MarksPart.j1 kj3 false a0_0 a0_1 a0_2 a0_3 a0_4 t146 t147 t148 t149 t150))) = some r := by rw [if_neg (show ¬ (false = true) by decide)] at H; exact H
        clear H
        have H := H1
        clear H1
        have HC17 := Aside0.mk H
        clear H
        go_upto_region 5 with (fail)
        go_cut [36] (fun v36 wc => ∃ (kq : Nat) (x36_16 : Bool), v36 = .bool x36_16 ∧ Aside0 (fourinhandlaw10_MarksPart.j1 kq x36_16 a0_0 a0_1 a0_2 a0_3 a0_4 t146 t147 t148 t149 t150 = some r) ∧ Aside0 (kq ≤ kj3) ∧ Aside0 (wc.heap[gb144]? = some (.cells #[.int .i64 a0_0, .int .i64 a0_1, .int .i64 a0_2, .int .i64 a0_3, .int .i64 a0_4] 23 (0, 0))) ∧ Aside0 (wc.heap[gb152]? = some (.cells #[.int .i64 t146, .int .i64 t147, .int .i64 t148, .int .i64 t149, .int .i64 t150] 23 (0, 0))) ∧ Aside0 (Below w.heap.size w wc))
        case first =>
          have H := HC17.out
          clear HC17
          by_cases c18 : a0_2 = 0
          · rw [if_pos c18] at H
            have c18b0 : (a0_2 == 0) = true := beq_iff_eq.mpr c18
            have c18b1 : (a0_2 != 0) = false := bne_eq_false_iff_eq.mpr c18
            clear c18
            (first | rw [c18b0] | (simp only [i64_w, i32_w]; rw [c18b0]) | skip)
            have H' := Aside0.mk H
            clear H
            have hnb19 := NB144_152.out
            have hnc19 := NB152_144.out
            have hcz20_0 : wc.cell? ⟨gb144, 0, none⟩ = some (.int .i64 a0_0) := (blk_cell BK144.out 0).trans rfl
            have hcz20_1 : wc.cell? ⟨gb144, 1, none⟩ = some (.int .i64 a0_1) := (blk_cell BK144.out 1).trans rfl
            have hcz20_2 : wc.cell? ⟨gb144, 2, none⟩ = some (.int .i64 a0_2) := (blk_cell BK144.out 2).trans rfl
            have hcz20_3 : wc.cell? ⟨gb144, 3, none⟩ = some (.int .i64 a0_3) := (blk_cell BK144.out 3).trans rfl
            have hcz20_4 : wc.cell? ⟨gb144, 4, none⟩ = some (.int .i64 a0_4) := (blk_cell BK144.out 4).trans rfl
            have hfz20_0 := blk_frozen BK144.out 0
            have hfz20_1 := blk_frozen BK144.out 1
            have hfz20_2 := blk_frozen BK144.out 2
            have hfz20_3 := blk_frozen BK144.out 3
            have hfz20_4 := blk_frozen BK144.out 4
            go_wp2
            go_meet
            case rel => exact ⟨_, (true), (by first | rfl | (simp; done) | (simp [*]; done)), H', ⟨by have := HJ3.out; first | omega | exact Nat.le_refl _⟩, ⟨by (with_reducible repeat (first | refine blk_drewN ?_ _ | refine blk_drew ?_ | refine blk_alloc ?_ _)); exact BK144.out⟩, ⟨by (with_reducible repeat (first | refine blk_drewN ?_ _ | refine blk_drew ?_ | refine blk_alloc ?_ _)); exact BK152.out⟩, ⟨by repeat (first | (with_reducible first | exact HB.out | apply below_alloc | apply pw_below_drewN | apply below_drew1 | refine below_set ?_ GE144.out | refine below_set ?_ GE152.out) | exact HB.out)⟩⟩
          · rw [if_neg c18] at H
            have c18b0 : (a0_2 == 0) = false := beq_eq_false_iff_ne.mpr c18
            have c18b1 : (a0_2 != 0) = true := bne_iff_ne.mpr c18
            (first | rw [c18b0] | (simp only [i64_w, i32_w]; rw [c18b0]) | skip)
            by_cases c21 : a0_3 = 0
            · rw [if_pos c21] at H
              have c21b0 : (a0_3 == 0) = true := beq_iff_eq.mpr c21
              have c21b1 : (a0_3 != 0) = false := bne_eq_false_iff_eq.mpr c21
              clear c21
              have H' := Aside0.mk H
              clear H
              have hnb22 := NB144_152.out
              have hnc22 := NB152_144.out
              have hcz23_0 : wc.cell? ⟨gb144, 0, none⟩ = some (.int .i64 a0_0) := (blk_cell BK144.out 0).trans rfl
              have hcz23_1 : wc.cell? ⟨gb144, 1, none⟩ = some (.int .i64 a0_1) := (blk_cell BK144.out 1).trans rfl
              have hcz23_2 : wc.cell? ⟨gb144, 2, none⟩ = some (.int .i64 a0_2) := (blk_cell BK144.out 2).trans rfl
              have hcz23_3 : wc.cell? ⟨gb144, 3, none⟩ = some (.int .i64 a0_3) := (blk_cell BK144.out 3).trans rfl
              have hcz23_4 : wc.cell? ⟨gb144, 4, none⟩ = some (.int .i64 a0_4) := (blk_cell BK144.out 4).trans rfl
              have hfz23_0 := blk_frozen BK144.out 0
              have hfz23_1 := blk_frozen BK144.out 1
              have hfz23_2 := blk_frozen BK144.out 2
              have hfz23_3 := blk_frozen BK144.out 3
              have hfz23_4 := blk_frozen BK144.out 4
              go_wp2
              go_meet
              case rel => exact ⟨_, ((a0_4 == 0)), (by first | rfl | (simp; done) | (simp [*]; done)), H', ⟨by have := HJ3.out; first | omega | exact Nat.le_refl _⟩, ⟨by (with_reducible repeat (first | refine blk_drewN ?_ _ | refine blk_drew ?_ | refine blk_alloc ?_ _)); exact BK144.out⟩, ⟨by (with_reducible repeat (first | refine blk_drewN ?_ _ | refine blk_drew ?_ | refine blk_alloc ?_ _)); exact BK152.out⟩, ⟨by repeat (first | (with_reducible first | exact HB.out | apply below_alloc | apply pw_below_drewN | apply below_drew1 | refine below_set ?_ GE144.out | refine below_set ?_ GE152.out) | exact HB.out)⟩⟩
            · rw [if_neg c21] at H
              have c21b0 : (a0_3 == 0) = false := beq_eq_false_iff_ne.mpr c21
              have c21b1 : (a0_3 != 0) = true := bne_iff_ne.mpr c21
              have H' := Aside0.mk H
              clear H
              have hnb24 := NB144_152.out
              have hnc24 := NB152_144.out
              have hcz25_0 : wc.cell? ⟨gb144, 0, none⟩ = some (.int .i64 a0_0) := (blk_cell BK144.out 0).trans rfl
              have hcz25_1 : wc.cell? ⟨gb144, 1, none⟩ = some (.int .i64 a0_1) := (blk_cell BK144.out 1).trans rfl
              have hcz25_2 : wc.cell? ⟨gb144, 2, none⟩ = some (.int .i64 a0_2) := (blk_cell BK144.out 2).trans rfl
              have hcz25_3 : wc.cell? ⟨gb144, 3, none⟩ = some (.int .i64 a0_3) := (blk_cell BK144.out 3).trans rfl
              have hcz25_4 : wc.cell? ⟨gb144, 4, none⟩ = some (.int .i64 a0_4) := (blk_cell BK144.out 4).trans rfl
              have hfz25_0 := blk_frozen BK144.out 0
              have hfz25_1 := blk_frozen BK144.out 1
              have hfz25_2 := blk_frozen BK144.out 2
              have hfz25_3 := blk_frozen BK144.out 3
              have hfz25_4 := blk_frozen BK144.out 4
              go_wp2
              go_meet
              case rel => exact ⟨_, (false), (by first | rfl | (simp; done) | (simp [*]; done)), H', ⟨by have := HJ3.out; first | omega | exact Nat.le_refl _⟩, ⟨by (with_reducible repeat (first | refine blk_drewN ?_ _ | refine blk_drew ?_ | refine blk_alloc ?_ _)); exact BK144.out⟩, ⟨by (with_reducible repeat (first | refine blk_drewN ?_ _ | refine blk_drew ?_ | refine blk_alloc ?_ _)); exact BK152.out⟩, ⟨by repeat (first | (with_reducible first | exact HB.out | apply below_alloc | apply pw_below_drewN | apply below_drew1 | refine below_set ?_ GE144.out | refine below_set ?_ GE152.out) | exact HB.out)⟩⟩
        case rest =>
          clear HC17
          try clear c1
          try clear c2
          try clear p2
          try clear c3
          try clear c8
          try clear c9
          try clear c10
          try clear c12
          try clear c13
          try clear c14
          try clear c15
          try clear c18
          try clear c18b0
          try clear c18b1
          try clear c19
          try clear c21
          try clear c21b0
          try clear c21b1
          try clear c22
          try clear c24
          try clear hcz11_0
          try clear hcz11_1
          try clear hcz11_2
          try clear hcz11_3
          try clear hcz11_4
          try clear hcz16_0
          try clear hcz16_1
          try clear hcz16_2
          try clear hcz16_3
          try clear hcz16_4
          try clear hcz20_0
          try clear hcz20_1
          try clear hcz20_2
          try clear hcz20_3
          try clear hcz20_4
          try clear hcz23_0
          try clear hcz23_1
          try clear hcz23_2
          try clear hcz23_3
          try clear hcz23_4
          try clear hcz25_0
          try clear hcz25_1
          try clear hcz25_2
          try clear hcz25_3
          try clear hcz25_4
          try clear hcz7_0
          try clear hcz7_1
          try clear hcz7_2
          try clear hcz7_3
          try clear hcz7_4
          try clear hfz11_0
          try clear hfz11_1
          try clear hfz11_2
          try clear hfz11_3
          try clear hfz11_4
          try clear hfz16_0
          try clear hfz16_1
          try clear hfz16_2
          try clear hfz16_3
          try clear hfz16_4
          try clear hfz20_0
          try clear hfz20_1
          try clear hfz20_2
          try clear hfz20_3
          try clear hfz20_4
          try clear hfz23_0
          try clear hfz23_1
          try clear hfz23_2
          try clear hfz23_3
          try clear hfz23_4
          try clear hfz25_0
          try clear hfz25_1
          try clear hfz25_2
          try clear hfz25_3
          try clear hfz25_4
          try clear hfz7_0
          try clear hfz7_1
          try clear hfz7_2
          try clear hfz7_3
          try clear hfz7_4
          try clear p2
          obtain ⟨kq, x36_16, rfl, HA, HJ16, BK144, BK152, HB⟩ := hcut
          cases kq with
          | zero => exact absurd HA.out (by simp [fourinhandlaw10_MarksPart.j1])
          | succ kj16 =>
            have H := HA.out
            clear HA
            simp only [fourinhandlaw10_MarksPart.j1] at H
            by_cases c26 : x36_16 = true
            · subst c26
              have H1 : (if t150 = a0_4 then (if t148 = 0 then (some (t149 == 0)) else (some false)) else (some false)) = some r := by rw [if_pos rfl] at H; exact H
              clear H
              have H := H1
              clear H1
              by_cases c27 : t150 = a0_4
              · rw [if_pos c27] at H
                have c27b0 : (t150 == a0_4) = true := beq_iff_eq.mpr c27
                have c27b1 : (t150 != a0_4) = false := bne_eq_false_iff_eq.mpr c27
                clear c27
                by_cases c28 : t148 = 0
                · rw [if_pos c28] at H
                  have c28b0 : (t148 == 0) = true := beq_iff_eq.mpr c28
                  have c28b1 : (t148 != 0) = false := bne_eq_false_iff_eq.mpr c28
                  clear c28
                  obtain rfl := Option.some.inj H
                  have hnb29 := NB152_144.out
                  have hnc29 := NB144_152.out
                  have hcz30_0 : wc.cell? ⟨gb152, 0, none⟩ = some (.int .i64 t146) := (blk_cell BK152.out 0).trans rfl
                  have hcz30_1 : wc.cell? ⟨gb152, 1, none⟩ = some (.int .i64 t147) := (blk_cell BK152.out 1).trans rfl
                  have hcz30_2 : wc.cell? ⟨gb152, 2, none⟩ = some (.int .i64 t148) := (blk_cell BK152.out 2).trans rfl
                  have hcz30_3 : wc.cell? ⟨gb152, 3, none⟩ = some (.int .i64 t149) := (blk_cell BK152.out 3).trans rfl
                  have hcz30_4 : wc.cell? ⟨gb152, 4, none⟩ = some (.int .i64 t150) := (blk_cell BK152.out 4).trans rfl
                  have hfz30_0 := blk_frozen BK152.out 0
                  have hfz30_1 := blk_frozen BK152.out 1
                  have hfz30_2 := blk_frozen BK152.out 2
                  have hfz30_3 := blk_frozen BK152.out 3
                  have hfz30_4 := blk_frozen BK152.out 4
                  have hcz31_0 : wc.cell? ⟨gb144, 0, none⟩ = some (.int .i64 a0_0) := (blk_cell BK144.out 0).trans rfl
                  have hcz31_1 : wc.cell? ⟨gb144, 1, none⟩ = some (.int .i64 a0_1) := (blk_cell BK144.out 1).trans rfl
                  have hcz31_2 : wc.cell? ⟨gb144, 2, none⟩ = some (.int .i64 a0_2) := (blk_cell BK144.out 2).trans rfl
                  have hcz31_3 : wc.cell? ⟨gb144, 3, none⟩ = some (.int .i64 a0_3) := (blk_cell BK144.out 3).trans rfl
                  have hcz31_4 : wc.cell? ⟨gb144, 4, none⟩ = some (.int .i64 a0_4) := (blk_cell BK144.out 4).trans rfl
                  have hfz31_0 := blk_frozen BK144.out 0
                  have hfz31_1 := blk_frozen BK144.out 1
                  have hfz31_2 := blk_frozen BK144.out 2
                  have hfz31_3 := blk_frozen BK144.out 3
                  have hfz31_4 := blk_frozen BK144.out 4
                  go_wp2
                  go_ret
                  exact ⟨by first | rfl | (simp [errW_none, errW_some] <;> rfl) | (simp [*, errW_none, errW_some] <;> rfl), by repeat (first | (with_reducible first | exact HB.out | apply below_alloc | apply pw_below_drewN | apply below_drew1 | refine below_set ?_ GE144.out | refine below_set ?_ GE152.out) | exact HB.out)⟩
                · rw [if_neg c28] at H
                  have c28b0 : (t148 == 0) = false := beq_eq_false_iff_ne.mpr c28
                  have c28b1 : (t148 != 0) = true := bne_iff_ne.mpr c28
                  exact Bool.noConfusion ((Option.some.inj H).trans hr_.out)
              · rw [if_neg c27] at H
                have c27b0 : (t150 == a0_4) = false := beq_eq_false_iff_ne.mpr c27
                have c27b1 : (t150 != a0_4) = true := bne_iff_ne.mpr c27
                exact Bool.noConfusion ((Option.some.inj H).trans hr_.out)
            · replace c26 := Bool.eq_false_iff.mpr c26
              subst c26
              have H1 : (if a0_3 = 0 then (if t150 > a0_4 then (some false) else (if a0_3 = a0_2 then (if t150 < a0_4 then (some false) else (if t150 ≥ 0 then (if t150 ≤ 1024 then (if (wrap64 (t150 - a0_4)) ≤ 64 then (if (wrap64 (a0_4 - t150)) ≤ 64 then (if t146 = a0_0 then (some (t147 == a0_1)) else (some false)) else (some false)) else (some false)) else (some false)) else (some false))) else (if t150 ≥ 0 then (if t150 ≤ 1024 then (if (wrap64 (t150 - a0_4)) ≤ 64 then (if (wrap64 (a0_4 - t150)) ≤ 64 then (if t146 = a0_0 then (some (t147 == a0_1)) else (some false)) else (some false)) else (some false)) else (some false)) else (some false)))) else (if a0_3 = a0_2 then (if t150 < a0_4 then (some false) else (if t150 ≥ 0 then (if t150 ≤ 1024 then (if (wrap64 (t150 - a0_4)) ≤ 64 then (if (wrap64 (a0_4 - t150)) ≤ 64 then (if t146 = a0_0 then (some (t147 == a0_1)) else (some false)) else (some false)) else (some false)) else (some false)) else (some false))) else (if t150 ≥ 0 then (if t150 ≤ 1024 then (if (wrap64 (t150 - a0_4)) ≤ 64 then (if (wrap64 (a0_4 - t150)) ≤ 64 then (if t146 = a0_0 then (some (t147 == a0_1)) else (some false)) else (some false)) else (some false)) else (some false)) else (some false)))) = some r := by rw [if_neg (show ¬ (false = true) by decide)] at H; exact H
              clear H
              have H := H1
              clear H1
              by_cases c32 : a0_3 = 0
              · rw [if_pos c32] at H
                have c32b0 : (a0_3 == 0) = true := beq_iff_eq.mpr c32
                have c32b1 : (a0_3 != 0) = false := bne_eq_false_iff_eq.mpr c32
                clear c32
                by_cases c33 : t150 > a0_4
                · rw [if_pos c33] at H
                  have c33b0 : decide (a0_4 < t150) = true := decide_eq_true c33
                  clear c33
                  exact Bool.noConfusion ((Option.some.inj H).trans hr_.out)
                · rw [if_neg c33] at H
                  have c33b0 : decide (a0_4 < t150) = false := decide_eq_false c33
                  clear c33
                  by_cases c34 : a0_3 = a0_2
                  · rw [if_pos c34] at H
                    have c34b0 : (a0_3 == a0_2) = true := beq_iff_eq.mpr c34
                    have c34b1 : (a0_3 != a0_2) = false := bne_eq_false_iff_eq.mpr c34
                    clear c34
                    by_cases c35 : t150 < a0_4
                    · rw [if_pos c35] at H
                      have c35b0 : decide (t150 < a0_4) = true := decide_eq_true c35
                      clear c35
                      exact Bool.noConfusion ((Option.some.inj H).trans hr_.out)
                    · rw [if_neg c35] at H
                      have c35b0 : decide (t150 < a0_4) = false := decide_eq_false c35
                      clear c35
                      by_cases c36 : t150 ≥ 0
                      · rw [if_pos c36] at H
                        have c36b0 : decide (0 ≤ t150) = true := decide_eq_true c36
                        clear c36
                        by_cases c37 : t150 ≤ 1024
                        · rw [if_pos c37] at H
                          have c37b0 : decide (t150 ≤ 1024) = true := decide_eq_true c37
                          clear c37
                          by_cases c38 : (wrap64 (t150 - a0_4)) ≤ 64
                          · rw [if_pos c38] at H
                            have c38b0 : decide ((wrap64 (t150 - a0_4)) ≤ 64) = true := decide_eq_true c38
                            clear c38
                            by_cases c39 : (wrap64 (a0_4 - t150)) ≤ 64
                            · rw [if_pos c39] at H
                              have c39b0 : decide ((wrap64 (a0_4 - t150)) ≤ 64) = true := decide_eq_true c39
                              clear c39
                              by_cases c40 : t146 = a0_0
                              · rw [if_pos c40] at H
                                have c40b0 : (t146 == a0_0) = true := beq_iff_eq.mpr c40
                                have c40b1 : (t146 != a0_0) = false := bne_eq_false_iff_eq.mpr c40
                                clear c40
                                obtain rfl := Option.some.inj H
                                have hnb41 := NB144_152.out
                                have hnc41 := NB152_144.out
                                have hcz42_0 : wc.cell? ⟨gb144, 0, none⟩ = some (.int .i64 a0_0) := (blk_cell BK144.out 0).trans rfl
                                have hcz42_1 : wc.cell? ⟨gb144, 1, none⟩ = some (.int .i64 a0_1) := (blk_cell BK144.out 1).trans rfl
                                have hcz42_2 : wc.cell? ⟨gb144, 2, none⟩ = some (.int .i64 a0_2) := (blk_cell BK144.out 2).trans rfl
                                have hcz42_3 : wc.cell? ⟨gb144, 3, none⟩ = some (.int .i64 a0_3) := (blk_cell BK144.out 3).trans rfl
                                have hcz42_4 : wc.cell? ⟨gb144, 4, none⟩ = some (.int .i64 a0_4) := (blk_cell BK144.out 4).trans rfl
                                have hfz42_0 := blk_frozen BK144.out 0
                                have hfz42_1 := blk_frozen BK144.out 1
                                have hfz42_2 := blk_frozen BK144.out 2
                                have hfz42_3 := blk_frozen BK144.out 3
                                have hfz42_4 := blk_frozen BK144.out 4
                                have hcz43_0 : wc.cell? ⟨gb152, 0, none⟩ = some (.int .i64 t146) := (blk_cell BK152.out 0).trans rfl
                                have hcz43_1 : wc.cell? ⟨gb152, 1, none⟩ = some (.int .i64 t147) := (blk_cell BK152.out 1).trans rfl
                                have hcz43_2 : wc.cell? ⟨gb152, 2, none⟩ = some (.int .i64 t148) := (blk_cell BK152.out 2).trans rfl
                                have hcz43_3 : wc.cell? ⟨gb152, 3, none⟩ = some (.int .i64 t149) := (blk_cell BK152.out 3).trans rfl
                                have hcz43_4 : wc.cell? ⟨gb152, 4, none⟩ = some (.int .i64 t150) := (blk_cell BK152.out 4).trans rfl
                                have hfz43_0 := blk_frozen BK152.out 0
                                have hfz43_1 := blk_frozen BK152.out 1
                                have hfz43_2 := blk_frozen BK152.out 2
                                have hfz43_3 := blk_frozen BK152.out 3
                                have hfz43_4 := blk_frozen BK152.out 4
                                go_wp2
                                go_ret
                                exact ⟨by first | rfl | (simp [errW_none, errW_some] <;> rfl) | (simp [*, errW_none, errW_some] <;> rfl), by repeat (first | (with_reducible first | exact HB.out | apply below_alloc | apply pw_below_drewN | apply below_drew1 | refine below_set ?_ GE144.out | refine below_set ?_ GE152.out) | exact HB.out)⟩
                              · rw [if_neg c40] at H
                                have c40b0 : (t146 == a0_0) = false := beq_eq_false_iff_ne.mpr c40
                                have c40b1 : (t146 != a0_0) = true := bne_iff_ne.mpr c40
                                exact Bool.noConfusion ((Option.some.inj H).trans hr_.out)
                            · rw [if_neg c39] at H
                              have c39b0 : decide ((wrap64 (a0_4 - t150)) ≤ 64) = false := decide_eq_false c39
                              clear c39
                              exact Bool.noConfusion ((Option.some.inj H).trans hr_.out)
                          · rw [if_neg c38] at H
                            have c38b0 : decide ((wrap64 (t150 - a0_4)) ≤ 64) = false := decide_eq_false c38
                            clear c38
                            exact Bool.noConfusion ((Option.some.inj H).trans hr_.out)
                        · rw [if_neg c37] at H
                          have c37b0 : decide (t150 ≤ 1024) = false := decide_eq_false c37
                          clear c37
                          exact Bool.noConfusion ((Option.some.inj H).trans hr_.out)
                      · rw [if_neg c36] at H
                        have c36b0 : decide (0 ≤ t150) = false := decide_eq_false c36
                        clear c36
                        exact Bool.noConfusion ((Option.some.inj H).trans hr_.out)
                  · rw [if_neg c34] at H
                    have c34b0 : (a0_3 == a0_2) = false := beq_eq_false_iff_ne.mpr c34
                    have c34b1 : (a0_3 != a0_2) = true := bne_iff_ne.mpr c34
                    by_cases c44 : t150 ≥ 0
                    · rw [if_pos c44] at H
                      have c44b0 : decide (0 ≤ t150) = true := decide_eq_true c44
                      clear c44
                      by_cases c45 : t150 ≤ 1024
                      · rw [if_pos c45] at H
                        have c45b0 : decide (t150 ≤ 1024) = true := decide_eq_true c45
                        clear c45
                        by_cases c46 : (wrap64 (t150 - a0_4)) ≤ 64
                        · rw [if_pos c46] at H
                          have c46b0 : decide ((wrap64 (t150 - a0_4)) ≤ 64) = true := decide_eq_true c46
                          clear c46
                          by_cases c47 : (wrap64 (a0_4 - t150)) ≤ 64
                          · rw [if_pos c47] at H
                            have c47b0 : decide ((wrap64 (a0_4 - t150)) ≤ 64) = true := decide_eq_true c47
                            clear c47
                            by_cases c48 : t146 = a0_0
                            · rw [if_pos c48] at H
                              have c48b0 : (t146 == a0_0) = true := beq_iff_eq.mpr c48
                              have c48b1 : (t146 != a0_0) = false := bne_eq_false_iff_eq.mpr c48
                              clear c48
                              obtain rfl := Option.some.inj H
                              have hnb49 := NB144_152.out
                              have hnc49 := NB152_144.out
                              have hcz50_0 : wc.cell? ⟨gb144, 0, none⟩ = some (.int .i64 a0_0) := (blk_cell BK144.out 0).trans rfl
                              have hcz50_1 : wc.cell? ⟨gb144, 1, none⟩ = some (.int .i64 a0_1) := (blk_cell BK144.out 1).trans rfl
                              have hcz50_2 : wc.cell? ⟨gb144, 2, none⟩ = some (.int .i64 a0_2) := (blk_cell BK144.out 2).trans rfl
                              have hcz50_3 : wc.cell? ⟨gb144, 3, none⟩ = some (.int .i64 a0_3) := (blk_cell BK144.out 3).trans rfl
                              have hcz50_4 : wc.cell? ⟨gb144, 4, none⟩ = some (.int .i64 a0_4) := (blk_cell BK144.out 4).trans rfl
                              have hfz50_0 := blk_frozen BK144.out 0
                              have hfz50_1 := blk_frozen BK144.out 1
                              have hfz50_2 := blk_frozen BK144.out 2
                              have hfz50_3 := blk_frozen BK144.out 3
                              have hfz50_4 := blk_frozen BK144.out 4
                              have hcz51_0 : wc.cell? ⟨gb152, 0, none⟩ = some (.int .i64 t146) := (blk_cell BK152.out 0).trans rfl
                              have hcz51_1 : wc.cell? ⟨gb152, 1, none⟩ = some (.int .i64 t147) := (blk_cell BK152.out 1).trans rfl
                              have hcz51_2 : wc.cell? ⟨gb152, 2, none⟩ = some (.int .i64 t148) := (blk_cell BK152.out 2).trans rfl
                              have hcz51_3 : wc.cell? ⟨gb152, 3, none⟩ = some (.int .i64 t149) := (blk_cell BK152.out 3).trans rfl
                              have hcz51_4 : wc.cell? ⟨gb152, 4, none⟩ = some (.int .i64 t150) := (blk_cell BK152.out 4).trans rfl
                              have hfz51_0 := blk_frozen BK152.out 0
                              have hfz51_1 := blk_frozen BK152.out 1
                              have hfz51_2 := blk_frozen BK152.out 2
                              have hfz51_3 := blk_frozen BK152.out 3
                              have hfz51_4 := blk_frozen BK152.out 4
                              go_wp2
                              go_ret
                              exact ⟨by first | rfl | (simp [errW_none, errW_some] <;> rfl) | (simp [*, errW_none, errW_some] <;> rfl), by repeat (first | (with_reducible first | exact HB.out | apply below_alloc | apply pw_below_drewN | apply below_drew1 | refine below_set ?_ GE144.out | refine below_set ?_ GE152.out) | exact HB.out)⟩
                            · rw [if_neg c48] at H
                              have c48b0 : (t146 == a0_0) = false := beq_eq_false_iff_ne.mpr c48
                              have c48b1 : (t146 != a0_0) = true := bne_iff_ne.mpr c48
                              exact Bool.noConfusion ((Option.some.inj H).trans hr_.out)
                          · rw [if_neg c47] at H
                            have c47b0 : decide ((wrap64 (a0_4 - t150)) ≤ 64) = false := decide_eq_false c47
                            clear c47
                            exact Bool.noConfusion ((Option.some.inj H).trans hr_.out)
                        · rw [if_neg c46] at H
                          have c46b0 : decide ((wrap64 (t150 - a0_4)) ≤ 64) = false := decide_eq_false c46
                          clear c46
                          exact Bool.noConfusion ((Option.some.inj H).trans hr_.out)
                      · rw [if_neg c45] at H
                        have c45b0 : decide (t150 ≤ 1024) = false := decide_eq_false c45
                        clear c45
                        exact Bool.noConfusion ((Option.some.inj H).trans hr_.out)
                    · rw [if_neg c44] at H
                      have c44b0 : decide (0 ≤ t150) = false := decide_eq_false c44
                      clear c44
                      exact Bool.noConfusion ((Option.some.inj H).trans hr_.out)
              · rw [if_neg c32] at H
                have c32b0 : (a0_3 == 0) = false := beq_eq_false_iff_ne.mpr c32
                have c32b1 : (a0_3 != 0) = true := bne_iff_ne.mpr c32
                by_cases c52 : a0_3 = a0_2
                · rw [if_pos c52] at H
                  have c52b0 : (a0_3 == a0_2) = true := beq_iff_eq.mpr c52
                  have c52b1 : (a0_3 != a0_2) = false := bne_eq_false_iff_eq.mpr c52
                  clear c52
                  by_cases c53 : t150 < a0_4
                  · rw [if_pos c53] at H
                    have c53b0 : decide (t150 < a0_4) = true := decide_eq_true c53
                    clear c53
                    exact Bool.noConfusion ((Option.some.inj H).trans hr_.out)
                  · rw [if_neg c53] at H
                    have c53b0 : decide (t150 < a0_4) = false := decide_eq_false c53
                    clear c53
                    by_cases c54 : t150 ≥ 0
                    · rw [if_pos c54] at H
                      have c54b0 : decide (0 ≤ t150) = true := decide_eq_true c54
                      clear c54
                      by_cases c55 : t150 ≤ 1024
                      · rw [if_pos c55] at H
                        have c55b0 : decide (t150 ≤ 1024) = true := decide_eq_true c55
                        clear c55
                        by_cases c56 : (wrap64 (t150 - a0_4)) ≤ 64
                        · rw [if_pos c56] at H
                          have c56b0 : decide ((wrap64 (t150 - a0_4)) ≤ 64) = true := decide_eq_true c56
                          clear c56
                          by_cases c57 : (wrap64 (a0_4 - t150)) ≤ 64
                          · rw [if_pos c57] at H
                            have c57b0 : decide ((wrap64 (a0_4 - t150)) ≤ 64) = true := decide_eq_true c57
                            clear c57
                            by_cases c58 : t146 = a0_0
                            · rw [if_pos c58] at H
                              have c58b0 : (t146 == a0_0) = true := beq_iff_eq.mpr c58
                              have c58b1 : (t146 != a0_0) = false := bne_eq_false_iff_eq.mpr c58
                              clear c58
                              obtain rfl := Option.some.inj H
                              have hnb59 := NB144_152.out
                              have hnc59 := NB152_144.out
                              have hcz60_0 : wc.cell? ⟨gb144, 0, none⟩ = some (.int .i64 a0_0) := (blk_cell BK144.out 0).trans rfl
                              have hcz60_1 : wc.cell? ⟨gb144, 1, none⟩ = some (.int .i64 a0_1) := (blk_cell BK144.out 1).trans rfl
                              have hcz60_2 : wc.cell? ⟨gb144, 2, none⟩ = some (.int .i64 a0_2) := (blk_cell BK144.out 2).trans rfl
                              have hcz60_3 : wc.cell? ⟨gb144, 3, none⟩ = some (.int .i64 a0_3) := (blk_cell BK144.out 3).trans rfl
                              have hcz60_4 : wc.cell? ⟨gb144, 4, none⟩ = some (.int .i64 a0_4) := (blk_cell BK144.out 4).trans rfl
                              have hfz60_0 := blk_frozen BK144.out 0
                              have hfz60_1 := blk_frozen BK144.out 1
                              have hfz60_2 := blk_frozen BK144.out 2
                              have hfz60_3 := blk_frozen BK144.out 3
                              have hfz60_4 := blk_frozen BK144.out 4
                              have hcz61_0 : wc.cell? ⟨gb152, 0, none⟩ = some (.int .i64 t146) := (blk_cell BK152.out 0).trans rfl
                              have hcz61_1 : wc.cell? ⟨gb152, 1, none⟩ = some (.int .i64 t147) := (blk_cell BK152.out 1).trans rfl
                              have hcz61_2 : wc.cell? ⟨gb152, 2, none⟩ = some (.int .i64 t148) := (blk_cell BK152.out 2).trans rfl
                              have hcz61_3 : wc.cell? ⟨gb152, 3, none⟩ = some (.int .i64 t149) := (blk_cell BK152.out 3).trans rfl
                              have hcz61_4 : wc.cell? ⟨gb152, 4, none⟩ = some (.int .i64 t150) := (blk_cell BK152.out 4).trans rfl
                              have hfz61_0 := blk_frozen BK152.out 0
                              have hfz61_1 := blk_frozen BK152.out 1
                              have hfz61_2 := blk_frozen BK152.out 2
                              have hfz61_3 := blk_frozen BK152.out 3
                              have hfz61_4 := blk_frozen BK152.out 4
                              go_wp2
                              go_ret
                              exact ⟨by first | rfl | (simp [errW_none, errW_some] <;> rfl) | (simp [*, errW_none, errW_some] <;> rfl), by repeat (first | (with_reducible first | exact HB.out | apply below_alloc | apply pw_below_drewN | apply below_drew1 | refine below_set ?_ GE144.out | refine below_set ?_ GE152.out) | exact HB.out)⟩
                            · rw [if_neg c58] at H
                              have c58b0 : (t146 == a0_0) = false := beq_eq_false_iff_ne.mpr c58
                              have c58b1 : (t146 != a0_0) = true := bne_iff_ne.mpr c58
                              exact Bool.noConfusion ((Option.some.inj H).trans hr_.out)
                          · rw [if_neg c57] at H
                            have c57b0 : decide ((wrap64 (a0_4 - t150)) ≤ 64) = false := decide_eq_false c57
                            clear c57
                            exact Bool.noConfusion ((Option.some.inj H).trans hr_.out)
                        · rw [if_neg c56] at H
                          have c56b0 : decide ((wrap64 (t150 - a0_4)) ≤ 64) = false := decide_eq_false c56
                          clear c56
                          exact Bool.noConfusion ((Option.some.inj H).trans hr_.out)
                      · rw [if_neg c55] at H
                        have c55b0 : decide (t150 ≤ 1024) = false := decide_eq_false c55
                        clear c55
                        exact Bool.noConfusion ((Option.some.inj H).trans hr_.out)
                    · rw [if_neg c54] at H
                      have c54b0 : decide (0 ≤ t150) = false := decide_eq_false c54
                      clear c54
                      exact Bool.noConfusion ((Option.some.inj H).trans hr_.out)
                · rw [if_neg c52] at H
                  have c52b0 : (a0_3 == a0_2) = false := beq_eq_false_iff_ne.mpr c52
                  have c52b1 : (a0_3 != a0_2) = true := bne_iff_ne.mpr c52
                  by_cases c62 : t150 ≥ 0
                  · rw [if_pos c62] at H
                    have c62b0 : decide (0 ≤ t150) = true := decide_eq_true c62
                    clear c62
                    by_cases c63 : t150 ≤ 1024
                    · rw [if_pos c63] at H
                      have c63b0 : decide (t150 ≤ 1024) = true := decide_eq_true c63
                      clear c63
                      by_cases c64 : (wrap64 (t150 - a0_4)) ≤ 64
                      · rw [if_pos c64] at H
                        have c64b0 : decide ((wrap64 (t150 - a0_4)) ≤ 64) = true := decide_eq_true c64
                        clear c64
                        by_cases c65 : (wrap64 (a0_4 - t150)) ≤ 64
                        · rw [if_pos c65] at H
                          have c65b0 : decide ((wrap64 (a0_4 - t150)) ≤ 64) = true := decide_eq_true c65
                          clear c65
                          by_cases c66 : t146 = a0_0
                          · rw [if_pos c66] at H
                            have c66b0 : (t146 == a0_0) = true := beq_iff_eq.mpr c66
                            have c66b1 : (t146 != a0_0) = false := bne_eq_false_iff_eq.mpr c66
                            clear c66
                            obtain rfl := Option.some.inj H
                            have hnb67 := NB144_152.out
                            have hnc67 := NB152_144.out
                            have hcz68_0 : wc.cell? ⟨gb144, 0, none⟩ = some (.int .i64 a0_0) := (blk_cell BK144.out 0).trans rfl
                            have hcz68_1 : wc.cell? ⟨gb144, 1, none⟩ = some (.int .i64 a0_1) := (blk_cell BK144.out 1).trans rfl
                            have hcz68_2 : wc.cell? ⟨gb144, 2, none⟩ = some (.int .i64 a0_2) := (blk_cell BK144.out 2).trans rfl
                            have hcz68_3 : wc.cell? ⟨gb144, 3, none⟩ = some (.int .i64 a0_3) := (blk_cell BK144.out 3).trans rfl
                            have hcz68_4 : wc.cell? ⟨gb144, 4, none⟩ = some (.int .i64 a0_4) := (blk_cell BK144.out 4).trans rfl
                            have hfz68_0 := blk_frozen BK144.out 0
                            have hfz68_1 := blk_frozen BK144.out 1
                            have hfz68_2 := blk_frozen BK144.out 2
                            have hfz68_3 := blk_frozen BK144.out 3
                            have hfz68_4 := blk_frozen BK144.out 4
                            have hcz69_0 : wc.cell? ⟨gb152, 0, none⟩ = some (.int .i64 t146) := (blk_cell BK152.out 0).trans rfl
                            have hcz69_1 : wc.cell? ⟨gb152, 1, none⟩ = some (.int .i64 t147) := (blk_cell BK152.out 1).trans rfl
                            have hcz69_2 : wc.cell? ⟨gb152, 2, none⟩ = some (.int .i64 t148) := (blk_cell BK152.out 2).trans rfl
                            have hcz69_3 : wc.cell? ⟨gb152, 3, none⟩ = some (.int .i64 t149) := (blk_cell BK152.out 3).trans rfl
                            have hcz69_4 : wc.cell? ⟨gb152, 4, none⟩ = some (.int .i64 t150) := (blk_cell BK152.out 4).trans rfl
                            have hfz69_0 := blk_frozen BK152.out 0
                            have hfz69_1 := blk_frozen BK152.out 1
                            have hfz69_2 := blk_frozen BK152.out 2
                            have hfz69_3 := blk_frozen BK152.out 3
                            have hfz69_4 := blk_frozen BK152.out 4
                            go_wp2
                            go_ret
                            exact ⟨by first | rfl | (simp [errW_none, errW_some] <;> rfl) | (simp [*, errW_none, errW_some] <;> rfl), by repeat (first | (with_reducible first | exact HB.out | apply below_alloc | apply pw_below_drewN | apply below_drew1 | refine below_set ?_ GE144.out | refine below_set ?_ GE152.out) | exact HB.out)⟩
                          · rw [if_neg c66] at H
                            have c66b0 : (t146 == a0_0) = false := beq_eq_false_iff_ne.mpr c66
                            have c66b1 : (t146 != a0_0) = true := bne_iff_ne.mpr c66
                            exact Bool.noConfusion ((Option.some.inj H).trans hr_.out)
                        · rw [if_neg c65] at H
                          have c65b0 : decide ((wrap64 (a0_4 - t150)) ≤ 64) = false := decide_eq_false c65
                          clear c65
                          exact Bool.noConfusion ((Option.some.inj H).trans hr_.out)
                      · rw [if_neg c64] at H
                        have c64b0 : decide ((wrap64 (t150 - a0_4)) ≤ 64) = false := decide_eq_false c64
                        clear c64
                        exact Bool.noConfusion ((Option.some.inj H).trans hr_.out)
                    · rw [if_neg c63] at H
                      have c63b0 : decide (t150 ≤ 1024) = false := decide_eq_false c63
                      clear c63
                      exact Bool.noConfusion ((Option.some.inj H).trans hr_.out)
                  · rw [if_neg c62] at H
                    have c62b0 : decide (0 ≤ t150) = false := decide_eq_false c62
                    clear c62
                    exact Bool.noConfusion ((Option.some.inj H).trans hr_.out)

end Go.Proofs.Ythklaiedabekjaa.PMarksPart
