-- Written by a program of this session (wip/hprint.py), over the kit's print.py: the walk of one law. Lean checks it.
import Derived.Test.YthklaiedabekjaaPMarksBackx0
import Derived.Test.YthklaiedabekjaaPMarksBackx2
import Derived.Test.YthklaiedabekjaaPMarksBackx3
namespace Go.Proofs.Ythklaiedabekjaa.PMarksBack
open Go.RowKit Go.Proofs.YthklaiedabekjaaW.PrintWords Go.Proofs.YthklaiedabekjaaW.PrintLast Go.Proofs.YthklaiedabekjaaW.PrintMore
attribute [local go_sem] max2_int min2_int max_two min_two max_three min_three max_four min_four   -- for this text's walks alone
set_option linter.unusedVariables false
set_option linter.unusedSimpArgs false

/-- The world under a new name, of which this is known. -/
theorem wp_gen_ {P : Program} {c : Code} {Q : Exit → Act → World → Prop} {a : Act} {w : World} (S : World → Prop) (h0 : S w) (h : ∀ w', S w' → Code.wp P c Q a w') : Code.wp P c Q a w := h w h0
/-! ### fourinhandlaw10_MarksBack: function 6 -/
mutual
def fourinhandlaw10_MarksBack.j0 : Nat → Int → Int → Int → Bool → Bool → Int → Int → Int → Int → Int → Option (Bool)
  | 0, _, _, _, _, _, _, _, _, _, _ => none
  | k + 1, x1, x2, x3, x9, x75, x147000, x147001, x147002, x147003, x147004 => if x75 = true then (some x9) else (if x1 ≥ 8 then (fourinhandlaw10_MarksBack.j1 k x1 x2 x3 (decide ((wrap64 (x1 - x2)) > 7)) x147000 x147001 x147002 x147003 x147004) else (fourinhandlaw10_MarksBack.j1 k x1 x2 x3 false x147000 x147001 x147002 x147003 x147004))
def fourinhandlaw10_MarksBack.j1 : Nat → Int → Int → Int → Bool → Int → Int → Int → Int → Int → Option (Bool)
  | 0, _, _, _, _, _, _, _, _, _ => none
  | k + 1, x1, x2, x3, x84, x147000, x147001, x147002, x147003, x147004 => if x84 = true then (some true) else ((marks_Told.f (wrap64 (x147000 + x2)) (wrap64 (x147001 + (wrap64 (x2 * x3)))) x147002 x147003 x147004).bind fun bt150 => ((marks_Heard.f x147000 x147001 x147002 x147003 x147004 bt150.1 bt150.2 x1 (wrap64 (x1 * x3))).bind fun bt152 => (if bt152.2.2.2.2.2.2 = 0 then (if bt152.2.2.2.2.2.1 = x2 then (if bt152.1 = (wrap64 (x147000 + x2)) then (if bt152.2.1 = (wrap64 (x147001 + (wrap64 (x2 * x3)))) then (some ((wrap64 (bt152.2.2.2.1 - x147003)) == (wrap64 (x2 * x3)))) else (some false)) else (some false)) else (some false)) else (some false))))
end
def fourinhandlaw10_MarksBack.f (k : Nat) (a0_0 : Int) (a0_1 : Int) (a0_2 : Int) (a0_3 : Int) (a0_4 : Int) (a1 : Int) (a2 : Int) (a3 : Int) : Option (Bool) := (fourinhandlaw10_awake.f k).bind fun t147 => (if t147 = true then ((marks_May.f a0_0 a0_1 a0_2 a0_3 a0_4).bind fun t148 => (if t148 = true then (if a0_0 > 1000000000000 then (fourinhandlaw10_MarksBack.j0 k a1 a2 a3 t147 true a0_0 a0_1 a0_2 a0_3 a0_4) else (if a0_1 > 1000000000000 then (fourinhandlaw10_MarksBack.j0 k a1 a2 a3 t147 true a0_0 a0_1 a0_2 a0_3 a0_4) else (if a0_2 > 1000000000000 then (fourinhandlaw10_MarksBack.j0 k a1 a2 a3 t147 true a0_0 a0_1 a0_2 a0_3 a0_4) else (if a1 < 0 then (fourinhandlaw10_MarksBack.j0 k a1 a2 a3 t147 true a0_0 a0_1 a0_2 a0_3 a0_4) else (if a1 > 1000000 then (fourinhandlaw10_MarksBack.j0 k a1 a2 a3 t147 true a0_0 a0_1 a0_2 a0_3 a0_4) else (if a2 < 0 then (fourinhandlaw10_MarksBack.j0 k a1 a2 a3 t147 true a0_0 a0_1 a0_2 a0_3 a0_4) else (if a2 > a1 then (fourinhandlaw10_MarksBack.j0 k a1 a2 a3 t147 true a0_0 a0_1 a0_2 a0_3 a0_4) else (if a3 < 1 then (fourinhandlaw10_MarksBack.j0 k a1 a2 a3 t147 true a0_0 a0_1 a0_2 a0_3 a0_4) else (if a3 > 1000000 then (fourinhandlaw10_MarksBack.j0 k a1 a2 a3 t147 true a0_0 a0_1 a0_2 a0_3 a0_4) else (if (wrap64 (a2 * a3)) ≥ 16777216 then (fourinhandlaw10_MarksBack.j0 k a1 a2 a3 t147 true a0_0 a0_1 a0_2 a0_3 a0_4) else (fourinhandlaw10_MarksBack.j0 k a1 a2 a3 t147 (decide ((wrap64 (a1 * a3)) > 1000000000000)) a0_0 a0_1 a0_2 a0_3 a0_4))))))))))) else (fourinhandlaw10_MarksBack.j0 k a1 a2 a3 t147 true a0_0 a0_1 a0_2 a0_3 a0_4))) else (fourinhandlaw10_MarksBack.j0 k a1 a2 a3 t147 true a0_0 a0_1 a0_2 a0_3 a0_4))
theorem fourinhandlaw10_MarksBack.mono_l : ∀ k, (∀ y0 y1 y2 y3 y4 y5 y6 y7 y8 y9, LeO (fourinhandlaw10_MarksBack.j0 k y0 y1 y2 y3 y4 y5 y6 y7 y8 y9) (fourinhandlaw10_MarksBack.j0 (k + 1) y0 y1 y2 y3 y4 y5 y6 y7 y8 y9)) ∧ (∀ y0 y1 y2 y3 y4 y5 y6 y7 y8, LeO (fourinhandlaw10_MarksBack.j1 k y0 y1 y2 y3 y4 y5 y6 y7 y8) (fourinhandlaw10_MarksBack.j1 (k + 1) y0 y1 y2 y3 y4 y5 y6 y7 y8))
  | 0 => ⟨fun _ _ _ _ _ _ _ _ _ _ r h => by simp [fourinhandlaw10_MarksBack.j0] at h, fun _ _ _ _ _ _ _ _ _ r h => by simp [fourinhandlaw10_MarksBack.j1] at h⟩
  | k + 1 => by
    obtain ⟨ih0, ih1⟩ := fourinhandlaw10_MarksBack.mono_l k
    refine ⟨?_, ?_⟩
    · intro y0 y1 y2 y3 y4 y5 y6 y7 y8 y9
      unfold fourinhandlaw10_MarksBack.j0
      repeat' first
      | (with_reducible exact ih0 _ _ _ _ _ _ _ _ _ _)
      | (with_reducible exact ih1 _ _ _ _ _ _ _ _ _)
      | (with_reducible exact fourinhandlaw10_awake.mono _)
      | (with_reducible exact LeO.refl _)
      | (with_reducible exact LeO.none _)
      | (with_reducible refine LeO.ite ?_ ?_)
      | (with_reducible refine LeO.bind ?_ (fun _ => ?_))
      | exact ih0 _ _ _ _ _ _ _ _ _ _
      | exact ih1 _ _ _ _ _ _ _ _ _
      | exact fourinhandlaw10_awake.mono _
      | exact LeO.none _
      | refine LeO.ite ?_ ?_
      | refine LeO.bind ?_ (fun _ => ?_)
    · intro y0 y1 y2 y3 y4 y5 y6 y7 y8
      unfold fourinhandlaw10_MarksBack.j1
      repeat' first
      | (with_reducible exact ih0 _ _ _ _ _ _ _ _ _ _)
      | (with_reducible exact ih1 _ _ _ _ _ _ _ _ _)
      | (with_reducible exact fourinhandlaw10_awake.mono _)
      | (with_reducible exact LeO.refl _)
      | (with_reducible exact LeO.none _)
      | (with_reducible refine LeO.ite ?_ ?_)
      | (with_reducible refine LeO.bind ?_ (fun _ => ?_))
      | exact ih0 _ _ _ _ _ _ _ _ _ _
      | exact ih1 _ _ _ _ _ _ _ _ _
      | exact fourinhandlaw10_awake.mono _
      | exact LeO.none _
      | refine LeO.ite ?_ ?_
      | refine LeO.bind ?_ (fun _ => ?_)
theorem fourinhandlaw10_MarksBack.mono : ∀ a0 a1 a2 a3 a4 a5 a6 a7 k, LeO (fourinhandlaw10_MarksBack.f k a0 a1 a2 a3 a4 a5 a6 a7) (fourinhandlaw10_MarksBack.f (k + 1) a0 a1 a2 a3 a4 a5 a6 a7) := by
  intro a0 a1 a2 a3 a4 a5 a6 a7 k
  obtain ⟨ih0, ih1⟩ := fourinhandlaw10_MarksBack.mono_l k
  unfold fourinhandlaw10_MarksBack.f
  repeat' first
      | (with_reducible exact ih0 _ _ _ _ _ _ _ _ _ _)
      | (with_reducible exact ih1 _ _ _ _ _ _ _ _ _)
      | (with_reducible exact fourinhandlaw10_awake.mono _)
      | (with_reducible exact LeO.refl _)
      | (with_reducible exact LeO.none _)
      | (with_reducible refine LeO.ite ?_ ?_)
      | (with_reducible refine LeO.bind ?_ (fun _ => ?_))
      | exact ih0 _ _ _ _ _ _ _ _ _ _
      | exact ih1 _ _ _ _ _ _ _ _ _
      | exact fourinhandlaw10_awake.mono _
      | exact LeO.none _
      | refine LeO.ite ?_ ?_
      | refine LeO.bind ?_ (fun _ => ?_)
set_option maxHeartbeats 8000000 in
set_option maxRecDepth 100000 in
theorem fourinhandlaw10_MarksBack.calls (k : Nat) (a0_0 : Int) (a0_1 : Int) (a0_2 : Int) (a0_3 : Int) (a0_4 : Int) (a1 : Int) (a2 : Int) (a3 : Int) (r : Bool) (hr_ : Aside0 (r = true)) (w : World) (h : fourinhandlaw10_MarksBack.f k a0_0 a0_1 a0_2 a0_3 a0_4 a1 a2 a3 = some r) :
    Calls Try.prog 6 #[.agg #[.int .i64 a0_0, .int .i64 a0_1, .int .i64 a0_2, .int .i64 a0_3, .int .i64 a0_4], .int .i64 a1, .int .i64 a2, .int .i64 a3] w fun e w' => e = .returned (.bool r) ∧ Below w.heap.size w w' := by
  have hu23 := Try.underlying23
  have HB := Aside0.mk (Below.refl w.heap.size w)
  have H : ((fourinhandlaw10_awake.f k).bind fun t147 => (if t147 = true then ((marks_May.f a0_0 a0_1 a0_2 a0_3 a0_4).bind fun t148 => (if t148 = true then (if a0_0 > 1000000000000 then (fourinhandlaw10_MarksBack.j0 k a1 a2 a3 t147 true a0_0 a0_1 a0_2 a0_3 a0_4) else (if a0_1 > 1000000000000 then (fourinhandlaw10_MarksBack.j0 k a1 a2 a3 t147 true a0_0 a0_1 a0_2 a0_3 a0_4) else (if a0_2 > 1000000000000 then (fourinhandlaw10_MarksBack.j0 k a1 a2 a3 t147 true a0_0 a0_1 a0_2 a0_3 a0_4) else (if a1 < 0 then (fourinhandlaw10_MarksBack.j0 k a1 a2 a3 t147 true a0_0 a0_1 a0_2 a0_3 a0_4) else (if a1 > 1000000 then (fourinhandlaw10_MarksBack.j0 k a1 a2 a3 t147 true a0_0 a0_1 a0_2 a0_3 a0_4) else (if a2 < 0 then (fourinhandlaw10_MarksBack.j0 k a1 a2 a3 t147 true a0_0 a0_1 a0_2 a0_3 a0_4) else (if a2 > a1 then (fourinhandlaw10_MarksBack.j0 k a1 a2 a3 t147 true a0_0 a0_1 a0_2 a0_3 a0_4) else (if a3 < 1 then (fourinhandlaw10_MarksBack.j0 k a1 a2 a3 t147 true a0_0 a0_1 a0_2 a0_3 a0_4) else (if a3 > 1000000 then (fourinhandlaw10_MarksBack.j0 k a1 a2 a3 t147 true a0_0 a0_1 a0_2 a0_3 a0_4) else (if (wrap64 (a2 * a3)) ≥ 16777216 then (fourinhandlaw10_MarksBack.j0 k a1 a2 a3 t147 true a0_0 a0_1 a0_2 a0_3 a0_4) else (fourinhandlaw10_MarksBack.j0 k a1 a2 a3 t147 (decide ((wrap64 (a1 * a3)) > 1000000000000)) a0_0 a0_1 a0_2 a0_3 a0_4))))))))))) else (fourinhandlaw10_MarksBack.j0 k a1 a2 a3 t147 true a0_0 a0_1 a0_2 a0_3 a0_4))) else (fourinhandlaw10_MarksBack.j0 k a1 a2 a3 t147 true a0_0 a0_1 a0_2 a0_3 a0_4))) = some r := h
  clear h
  replace H := Option.bind_eq_some_iff.mp H
  obtain ⟨t147, A50, H⟩ := H
  replace H : (if t147 = true then ((marks_May.f a0_0 a0_1 a0_2 a0_3 a0_4).bind fun t148 => (if t148 = true then (if a0_0 > 1000000000000 then (fourinhandlaw10_MarksBack.j0 k a1 a2 a3 t147 true a0_0 a0_1 a0_2 a0_3 a0_4) else (if a0_1 > 1000000000000 then (fourinhandlaw10_MarksBack.j0 k a1 a2 a3 t147 true a0_0 a0_1 a0_2 a0_3 a0_4) else (if a0_2 > 1000000000000 then (fourinhandlaw10_MarksBack.j0 k a1 a2 a3 t147 true a0_0 a0_1 a0_2 a0_3 a0_4) else (if a1 < 0 then (fourinhandlaw10_MarksBack.j0 k a1 a2 a3 t147 true a0_0 a0_1 a0_2 a0_3 a0_4) else (if a1 > 1000000 then (fourinhandlaw10_MarksBack.j0 k a1 a2 a3 t147 true a0_0 a0_1 a0_2 a0_3 a0_4) else (if a2 < 0 then (fourinhandlaw10_MarksBack.j0 k a1 a2 a3 t147 true a0_0 a0_1 a0_2 a0_3 a0_4) else (if a2 > a1 then (fourinhandlaw10_MarksBack.j0 k a1 a2 a3 t147 true a0_0 a0_1 a0_2 a0_3 a0_4) else (if a3 < 1 then (fourinhandlaw10_MarksBack.j0 k a1 a2 a3 t147 true a0_0 a0_1 a0_2 a0_3 a0_4) else (if a3 > 1000000 then (fourinhandlaw10_MarksBack.j0 k a1 a2 a3 t147 true a0_0 a0_1 a0_2 a0_3 a0_4) else (if (wrap64 (a2 * a3)) ≥ 16777216 then (fourinhandlaw10_MarksBack.j0 k a1 a2 a3 t147 true a0_0 a0_1 a0_2 a0_3 a0_4) else (fourinhandlaw10_MarksBack.j0 k a1 a2 a3 t147 (decide ((wrap64 (a1 * a3)) > 1000000000000)) a0_0 a0_1 a0_2 a0_3 a0_4))))))))))) else (fourinhandlaw10_MarksBack.j0 k a1 a2 a3 t147 true a0_0 a0_1 a0_2 a0_3 a0_4))) else (fourinhandlaw10_MarksBack.j0 k a1 a2 a3 t147 true a0_0 a0_1 a0_2 a0_3 a0_4)) = some r := H
  have A5 := Aside0.mk A50
  clear A50
  have HC6 := Aside0.mk H
  clear H
  go_enter Try.func6, Try.ntmps6
  go_upto_region 2 with (first | ((with_reducible refine gate_dst (N := 4) rfl ?_); refine box_event ?hg (N := 4) ?hd (cs := #[.int .i64 a0_0, .int .i64 a0_1, .int .i64 a0_2, .int .i64 a0_3, .int .i64 a0_4]) (t := 23) ?hr ?_; (case hd => rfl); (case hg => rfl); (case hr => first | (go_simp; done) | (go_simp; rfl)); intro gb146 hg w7 hbox hb; have n0_ := Aside0.mk (below_step (by repeat (first | (with_reducible first | exact HB.out | apply below_alloc | apply pw_below_drewN | apply below_drew1) | exact HB.out)) hb); have n1_ := Aside0.mk (hbox); have n2_ := Aside0.mk ((by rw [hg]; exact (below_size (by repeat (first | (with_reducible first | exact HB.out | apply below_alloc | apply pw_below_drewN | apply below_drew1) | exact HB.out))) : w.heap.size ≤ gb146)); have n3_ := Aside0.mk ((by rw [hg]; exact (below_size (by repeat (first | (with_reducible first | exact HB.out | apply below_alloc | apply pw_below_drewN | apply below_drew1) | exact HB.out))) : w.heap.size ≤ gb146)); clear HB; have HB := n0_; have BK146 := n1_; have GW146 := n2_; have GE146 := n3_; clear n0_ n1_ n2_ n3_; clear hb hbox hg) | ((with_reducible refine gate_callee (f := 8) rfl ?_); refine goesL_ (some 16) rfl rfl Try.func8 (by kernel_rfl) rfl #[] rfl (by (try simp only [List.map_toArray, List.map_cons, List.map_nil]); first | done | rfl | (simp only [List.length_drop, List.length_take]; rfl)) ?_; (with_reducible refine (fourinhandlaw10_awake.calls k  t147 _ A5.out).mono ?_); rintro e w8 ⟨rfl, hb⟩; refine ⟨_, rfl, ?_⟩; have n0_ := Aside0.mk (blk_below (g := gb146) (o := .cells #[.int .i64 a0_0, .int .i64 a0_1, .int .i64 a0_2, .int .i64 a0_3, .int .i64 a0_4] 23 (0, 0)) (by (with_reducible repeat (first | refine blk_drewN ?_ _ | refine blk_drew ?_ | refine blk_alloc ?_ _)); exact BK146.out) hb); have n1_ := Aside0.mk (below_step (by repeat (first | (with_reducible first | exact HB.out | apply below_alloc | apply pw_below_drewN | apply below_drew1 | refine below_set ?_ GE146.out) | exact HB.out)) hb); clear BK146; clear HB; have BK146 := n0_; have HB := n1_; clear n0_ n1_; (try clear hb); (try clear hb2); (try clear hk); (try clear hi)))
  (try simp only [Act.put, List.setIfInBounds_toArray, List.set_cons_zero, List.set_cons_succ])
  go_cut [75] (fun v75 wc => ∃ (kq : Nat) (x75_5 : Bool), v75 = .bool x75_5 ∧ Aside0 (fourinhandlaw10_MarksBack.j0 kq a1 a2 a3 t147 x75_5 a0_0 a0_1 a0_2 a0_3 a0_4 = some r) ∧ Aside0 (kq ≤ k) ∧ Aside0 (wc.heap[gb146]? = some (.cells #[.int .i64 a0_0, .int .i64 a0_1, .int .i64 a0_2, .int .i64 a0_3, .int .i64 a0_4] 23 (0, 0))) ∧ Aside0 (Below w.heap.size w wc))
  case first =>
    have H := HC6.out
    clear HC6
    by_cases c9 : t147 = true
    · subst c9
      have H1 : ((marks_May.f a0_0 a0_1 a0_2 a0_3 a0_4).bind fun t148 => (if t148 = true then (if a0_0 > 1000000000000 then (fourinhandlaw10_MarksBack.j0 k a1 a2 a3 true true a0_0 a0_1 a0_2 a0_3 a0_4) else (if a0_1 > 1000000000000 then (fourinhandlaw10_MarksBack.j0 k a1 a2 a3 true true a0_0 a0_1 a0_2 a0_3 a0_4) else (if a0_2 > 1000000000000 then (fourinhandlaw10_MarksBack.j0 k a1 a2 a3 true true a0_0 a0_1 a0_2 a0_3 a0_4) else (if a1 < 0 then (fourinhandlaw10_MarksBack.j0 k a1 a2 a3 true true a0_0 a0_1 a0_2 a0_3 a0_4) else (if a1 > 1000000 then (fourinhandlaw10_MarksBack.j0 k a1 a2 a3 true true a0_0 a0_1 a0_2 a0_3 a0_4) else (if a2 < 0 then (fourinhandlaw10_MarksBack.j0 k a1 a2 a3 true true a0_0 a0_1 a0_2 a0_3 a0_4) else (if a2 > a1 then (fourinhandlaw10_MarksBack.j0 k a1 a2 a3 true true a0_0 a0_1 a0_2 a0_3 a0_4) else (if a3 < 1 then (fourinhandlaw10_MarksBack.j0 k a1 a2 a3 true true a0_0 a0_1 a0_2 a0_3 a0_4) else (if a3 > 1000000 then (fourinhandlaw10_MarksBack.j0 k a1 a2 a3 true true a0_0 a0_1 a0_2 a0_3 a0_4) else (if (wrap64 (a2 * a3)) ≥ 16777216 then (fourinhandlaw10_MarksBack.j0 k a1 a2 a3 true true a0_0 a0_1 a0_2 a0_3 a0_4) else (fourinhandlaw10_MarksBack.j0 k a1 a2 a3 true (decide ((wrap64 (a1 * a3)) > 1000000000000)) a0_0 a0_1 a0_2 a0_3 a0_4))))))))))) else (fourinhandlaw10_MarksBack.j0 k a1 a2 a3 true true a0_0 a0_1 a0_2 a0_3 a0_4))) = some r := by rw [if_pos rfl] at H; exact H
      clear H
      have H := H1
      clear H1
      replace H := Option.bind_eq_some_iff.mp H
      obtain ⟨t148, A100, H⟩ := H
      replace H : (if t148 = true then (if a0_0 > 1000000000000 then (fourinhandlaw10_MarksBack.j0 k a1 a2 a3 true true a0_0 a0_1 a0_2 a0_3 a0_4) else (if a0_1 > 1000000000000 then (fourinhandlaw10_MarksBack.j0 k a1 a2 a3 true true a0_0 a0_1 a0_2 a0_3 a0_4) else (if a0_2 > 1000000000000 then (fourinhandlaw10_MarksBack.j0 k a1 a2 a3 true true a0_0 a0_1 a0_2 a0_3 a0_4) else (if a1 < 0 then (fourinhandlaw10_MarksBack.j0 k a1 a2 a3 true true a0_0 a0_1 a0_2 a0_3 a0_4) else (if a1 > 1000000 then (fourinhandlaw10_MarksBack.j0 k a1 a2 a3 true true a0_0 a0_1 a0_2 a0_3 a0_4) else (if a2 < 0 then (fourinhandlaw10_MarksBack.j0 k a1 a2 a3 true true a0_0 a0_1 a0_2 a0_3 a0_4) else (if a2 > a1 then (fourinhandlaw10_MarksBack.j0 k a1 a2 a3 true true a0_0 a0_1 a0_2 a0_3 a0_4) else (if a3 < 1 then (fourinhandlaw10_MarksBack.j0 k a1 a2 a3 true true a0_0 a0_1 a0_2 a0_3 a0_4) else (if a3 > 1000000 then (fourinhandlaw10_MarksBack.j0 k a1 a2 a3 true true a0_0 a0_1 a0_2 a0_3 a0_4) else (if (wrap64 (a2 * a3)) ≥ 16777216 then (fourinhandlaw10_MarksBack.j0 k a1 a2 a3 true true a0_0 a0_1 a0_2 a0_3 a0_4) else (fourinhandlaw10_MarksBack.j0 k a1 a2 a3 true (decide ((wrap64 (a1 * a3)) > 1000000000000)) a0_0 a0_1 a0_2 a0_3 a0_4))))))))))) else (fourinhandlaw10_MarksBack.j0 k a1 a2 a3 true true a0_0 a0_1 a0_2 a0_3 a0_4)) = some r := H
      have A10 := Aside0.mk A100
      clear A100
      by_cases c11 : t148 = true
      · subst c11
        have H1 : (if a0_0 > 1000000000000 then (fourinhandlaw10_MarksBack.j0 k a1 a2 a3 true true a0_0 a0_1 a0_2 a0_3 a0_4) else (if a0_1 > 1000000000000 then (fourinhandlaw10_MarksBack.j0 k a1 a2 a3 true true a0_0 a0_1 a0_2 a0_3 a0_4) else (if a0_2 > 1000000000000 then (fourinhandlaw10_MarksBack.j0 k a1 a2 a3 true true a0_0 a0_1 a0_2 a0_3 a0_4) else (if a1 < 0 then (fourinhandlaw10_MarksBack.j0 k a1 a2 a3 true true a0_0 a0_1 a0_2 a0_3 a0_4) else (if a1 > 1000000 then (fourinhandlaw10_MarksBack.j0 k a1 a2 a3 true true a0_0 a0_1 a0_2 a0_3 a0_4) else (if a2 < 0 then (fourinhandlaw10_MarksBack.j0 k a1 a2 a3 true true a0_0 a0_1 a0_2 a0_3 a0_4) else (if a2 > a1 then (fourinhandlaw10_MarksBack.j0 k a1 a2 a3 true true a0_0 a0_1 a0_2 a0_3 a0_4) else (if a3 < 1 then (fourinhandlaw10_MarksBack.j0 k a1 a2 a3 true true a0_0 a0_1 a0_2 a0_3 a0_4) else (if a3 > 1000000 then (fourinhandlaw10_MarksBack.j0 k a1 a2 a3 true true a0_0 a0_1 a0_2 a0_3 a0_4) else (if (wrap64 (a2 * a3)) ≥ 16777216 then (fourinhandlaw10_MarksBack.j0 k a1 a2 a3 true true a0_0 a0_1 a0_2 a0_3 a0_4) else (fourinhandlaw10_MarksBack.j0 k a1 a2 a3 true (decide ((wrap64 (a1 * a3)) > 1000000000000)) a0_0 a0_1 a0_2 a0_3 a0_4))))))))))) = some r := by rw [if_pos rfl] at H; exact H
        clear H
        have H := H1
        clear H1
        by_cases c12 : a0_0 > 1000000000000
        · rw [if_pos c12] at H
          have c12b0 : decide (1000000000000 < a0_0) = true := decide_eq_true c12
          clear c12
          (first | rw [c12b0] | (simp only [i64_w, i32_w]; rw [c12b0]) | skip)
          have H' := Aside0.mk H
          clear H
          have hcz13_0 : w8.cell? ⟨gb146, 0, none⟩ = some (.int .i64 a0_0) := (blk_cell BK146.out 0).trans rfl
          have hcz13_1 : w8.cell? ⟨gb146, 1, none⟩ = some (.int .i64 a0_1) := (blk_cell BK146.out 1).trans rfl
          have hcz13_2 : w8.cell? ⟨gb146, 2, none⟩ = some (.int .i64 a0_2) := (blk_cell BK146.out 2).trans rfl
          have hcz13_3 : w8.cell? ⟨gb146, 3, none⟩ = some (.int .i64 a0_3) := (blk_cell BK146.out 3).trans rfl
          have hcz13_4 : w8.cell? ⟨gb146, 4, none⟩ = some (.int .i64 a0_4) := (blk_cell BK146.out 4).trans rfl
          have hfz13_0 := blk_frozen BK146.out 0
          have hfz13_1 := blk_frozen BK146.out 1
          have hfz13_2 := blk_frozen BK146.out 2
          have hfz13_3 := blk_frozen BK146.out 3
          have hfz13_4 := blk_frozen BK146.out 4
          go_wp2_with (first | (go_at_call 15; (with_reducible refine (marks_May.calls a0_0 a0_1 a0_2 a0_3 a0_4 true _ A10.out).mono ?_); rintro e w14 ⟨rfl, hb⟩; have n0_ := Aside0.mk (blk_below (g := gb146) (o := .cells #[.int .i64 a0_0, .int .i64 a0_1, .int .i64 a0_2, .int .i64 a0_3, .int .i64 a0_4] 23 (0, 0)) (by (with_reducible repeat (first | refine blk_drewN ?_ _ | refine blk_drew ?_ | refine blk_alloc ?_ _)); exact BK146.out) hb); have n1_ := Aside0.mk (below_step (by repeat (first | (with_reducible first | exact HB.out | apply below_alloc | apply pw_below_drewN | apply below_drew1 | refine below_set ?_ GE146.out) | exact HB.out)) hb); clear BK146; clear HB; have BK146 := n0_; have HB := n1_; clear n0_ n1_; (try clear hb); (try clear hb2); (try clear hk); (try clear hi); have hcz15_0 : w14.cell? ⟨gb146, 0, none⟩ = some (.int .i64 a0_0) := (blk_cell BK146.out 0).trans rfl; have hcz15_1 : w14.cell? ⟨gb146, 1, none⟩ = some (.int .i64 a0_1) := (blk_cell BK146.out 1).trans rfl; have hcz15_2 : w14.cell? ⟨gb146, 2, none⟩ = some (.int .i64 a0_2) := (blk_cell BK146.out 2).trans rfl; have hcz15_3 : w14.cell? ⟨gb146, 3, none⟩ = some (.int .i64 a0_3) := (blk_cell BK146.out 3).trans rfl; have hcz15_4 : w14.cell? ⟨gb146, 4, none⟩ = some (.int .i64 a0_4) := (blk_cell BK146.out 4).trans rfl; have hfz15_0 := blk_frozen BK146.out 0; have hfz15_1 := blk_frozen BK146.out 1; have hfz15_2 := blk_frozen BK146.out 2; have hfz15_3 := blk_frozen BK146.out 3; have hfz15_4 := blk_frozen BK146.out 4))
          go_meet
          case rel => exact ⟨_, (true), (by first | rfl | (simp; done) | (simp [*]; done)), H', ⟨by first | omega | exact Nat.le_refl _⟩, ⟨by (with_reducible repeat (first | refine blk_drewN ?_ _ | refine blk_drew ?_ | refine blk_alloc ?_ _)); exact BK146.out⟩, ⟨by repeat (first | (with_reducible first | exact HB.out | apply below_alloc | apply pw_below_drewN | apply below_drew1 | refine below_set ?_ GE146.out) | exact HB.out)⟩⟩
        · rw [if_neg c12] at H
          have c12b0 : decide (1000000000000 < a0_0) = false := decide_eq_false c12
          clear c12
          (first | rw [c12b0] | (simp only [i64_w, i32_w]; rw [c12b0]) | skip)
          by_cases c16 : a0_1 > 1000000000000
          · rw [if_pos c16] at H
            have c16b0 : decide (1000000000000 < a0_1) = true := decide_eq_true c16
            clear c16
            have H' := Aside0.mk H
            clear H
            have hcz17_0 : w8.cell? ⟨gb146, 0, none⟩ = some (.int .i64 a0_0) := (blk_cell BK146.out 0).trans rfl
            have hcz17_1 : w8.cell? ⟨gb146, 1, none⟩ = some (.int .i64 a0_1) := (blk_cell BK146.out 1).trans rfl
            have hcz17_2 : w8.cell? ⟨gb146, 2, none⟩ = some (.int .i64 a0_2) := (blk_cell BK146.out 2).trans rfl
            have hcz17_3 : w8.cell? ⟨gb146, 3, none⟩ = some (.int .i64 a0_3) := (blk_cell BK146.out 3).trans rfl
            have hcz17_4 : w8.cell? ⟨gb146, 4, none⟩ = some (.int .i64 a0_4) := (blk_cell BK146.out 4).trans rfl
            have hfz17_0 := blk_frozen BK146.out 0
            have hfz17_1 := blk_frozen BK146.out 1
            have hfz17_2 := blk_frozen BK146.out 2
            have hfz17_3 := blk_frozen BK146.out 3
            have hfz17_4 := blk_frozen BK146.out 4
            go_wp2_with (first | (go_at_call 15; (with_reducible refine (marks_May.calls a0_0 a0_1 a0_2 a0_3 a0_4 true _ A10.out).mono ?_); rintro e w18 ⟨rfl, hb⟩; have n0_ := Aside0.mk (blk_below (g := gb146) (o := .cells #[.int .i64 a0_0, .int .i64 a0_1, .int .i64 a0_2, .int .i64 a0_3, .int .i64 a0_4] 23 (0, 0)) (by (with_reducible repeat (first | refine blk_drewN ?_ _ | refine blk_drew ?_ | refine blk_alloc ?_ _)); exact BK146.out) hb); have n1_ := Aside0.mk (below_step (by repeat (first | (with_reducible first | exact HB.out | apply below_alloc | apply pw_below_drewN | apply below_drew1 | refine below_set ?_ GE146.out) | exact HB.out)) hb); clear BK146; clear HB; have BK146 := n0_; have HB := n1_; clear n0_ n1_; (try clear hb); (try clear hb2); (try clear hk); (try clear hi); have hcz19_0 : w18.cell? ⟨gb146, 0, none⟩ = some (.int .i64 a0_0) := (blk_cell BK146.out 0).trans rfl; have hcz19_1 : w18.cell? ⟨gb146, 1, none⟩ = some (.int .i64 a0_1) := (blk_cell BK146.out 1).trans rfl; have hcz19_2 : w18.cell? ⟨gb146, 2, none⟩ = some (.int .i64 a0_2) := (blk_cell BK146.out 2).trans rfl; have hcz19_3 : w18.cell? ⟨gb146, 3, none⟩ = some (.int .i64 a0_3) := (blk_cell BK146.out 3).trans rfl; have hcz19_4 : w18.cell? ⟨gb146, 4, none⟩ = some (.int .i64 a0_4) := (blk_cell BK146.out 4).trans rfl; have hfz19_0 := blk_frozen BK146.out 0; have hfz19_1 := blk_frozen BK146.out 1; have hfz19_2 := blk_frozen BK146.out 2; have hfz19_3 := blk_frozen BK146.out 3; have hfz19_4 := blk_frozen BK146.out 4))
            go_meet
            case rel => exact ⟨_, (true), (by first | rfl | (simp; done) | (simp [*]; done)), H', ⟨by first | omega | exact Nat.le_refl _⟩, ⟨by (with_reducible repeat (first | refine blk_drewN ?_ _ | refine blk_drew ?_ | refine blk_alloc ?_ _)); exact BK146.out⟩, ⟨by repeat (first | (with_reducible first | exact HB.out | apply below_alloc | apply pw_below_drewN | apply below_drew1 | refine below_set ?_ GE146.out) | exact HB.out)⟩⟩
          · rw [if_neg c16] at H
            have c16b0 : decide (1000000000000 < a0_1) = false := decide_eq_false c16
            clear c16
            by_cases c20 : a0_2 > 1000000000000
            · rw [if_pos c20] at H
              have c20b0 : decide (1000000000000 < a0_2) = true := decide_eq_true c20
              clear c20
              have H' := Aside0.mk H
              clear H
              have hcz21_0 : w8.cell? ⟨gb146, 0, none⟩ = some (.int .i64 a0_0) := (blk_cell BK146.out 0).trans rfl
              have hcz21_1 : w8.cell? ⟨gb146, 1, none⟩ = some (.int .i64 a0_1) := (blk_cell BK146.out 1).trans rfl
              have hcz21_2 : w8.cell? ⟨gb146, 2, none⟩ = some (.int .i64 a0_2) := (blk_cell BK146.out 2).trans rfl
              have hcz21_3 : w8.cell? ⟨gb146, 3, none⟩ = some (.int .i64 a0_3) := (blk_cell BK146.out 3).trans rfl
              have hcz21_4 : w8.cell? ⟨gb146, 4, none⟩ = some (.int .i64 a0_4) := (blk_cell BK146.out 4).trans rfl
              have hfz21_0 := blk_frozen BK146.out 0
              have hfz21_1 := blk_frozen BK146.out 1
              have hfz21_2 := blk_frozen BK146.out 2
              have hfz21_3 := blk_frozen BK146.out 3
              have hfz21_4 := blk_frozen BK146.out 4
              go_wp2_with (first | (go_at_call 15; (with_reducible refine (marks_May.calls a0_0 a0_1 a0_2 a0_3 a0_4 true _ A10.out).mono ?_); rintro e w22 ⟨rfl, hb⟩; have n0_ := Aside0.mk (blk_below (g := gb146) (o := .cells #[.int .i64 a0_0, .int .i64 a0_1, .int .i64 a0_2, .int .i64 a0_3, .int .i64 a0_4] 23 (0, 0)) (by (with_reducible repeat (first | refine blk_drewN ?_ _ | refine blk_drew ?_ | refine blk_alloc ?_ _)); exact BK146.out) hb); have n1_ := Aside0.mk (below_step (by repeat (first | (with_reducible first | exact HB.out | apply below_alloc | apply pw_below_drewN | apply below_drew1 | refine below_set ?_ GE146.out) | exact HB.out)) hb); clear BK146; clear HB; have BK146 := n0_; have HB := n1_; clear n0_ n1_; (try clear hb); (try clear hb2); (try clear hk); (try clear hi); have hcz23_0 : w22.cell? ⟨gb146, 0, none⟩ = some (.int .i64 a0_0) := (blk_cell BK146.out 0).trans rfl; have hcz23_1 : w22.cell? ⟨gb146, 1, none⟩ = some (.int .i64 a0_1) := (blk_cell BK146.out 1).trans rfl; have hcz23_2 : w22.cell? ⟨gb146, 2, none⟩ = some (.int .i64 a0_2) := (blk_cell BK146.out 2).trans rfl; have hcz23_3 : w22.cell? ⟨gb146, 3, none⟩ = some (.int .i64 a0_3) := (blk_cell BK146.out 3).trans rfl; have hcz23_4 : w22.cell? ⟨gb146, 4, none⟩ = some (.int .i64 a0_4) := (blk_cell BK146.out 4).trans rfl; have hfz23_0 := blk_frozen BK146.out 0; have hfz23_1 := blk_frozen BK146.out 1; have hfz23_2 := blk_frozen BK146.out 2; have hfz23_3 := blk_frozen BK146.out 3; have hfz23_4 := blk_frozen BK146.out 4))
              go_meet
              case rel => exact ⟨_, (true), (by first | rfl | (simp; done) | (simp [*]; done)), H', ⟨by first | omega | exact Nat.le_refl _⟩, ⟨by (with_reducible repeat (first | refine blk_drewN ?_ _ | refine blk_drew ?_ | refine blk_alloc ?_ _)); exact BK146.out⟩, ⟨by repeat (first | (with_reducible first | exact HB.out | apply below_alloc | apply pw_below_drewN | apply below_drew1 | refine below_set ?_ GE146.out) | exact HB.out)⟩⟩
            · rw [if_neg c20] at H
              have c20b0 : decide (1000000000000 < a0_2) = false := decide_eq_false c20
              clear c20
              by_cases c24 : a1 < 0
              · rw [if_pos c24] at H
                have c24b0 : decide (a1 < 0) = true := decide_eq_true c24
                clear c24
                have H' := Aside0.mk H
                clear H
                have hcz25_0 : w8.cell? ⟨gb146, 0, none⟩ = some (.int .i64 a0_0) := (blk_cell BK146.out 0).trans rfl
                have hcz25_1 : w8.cell? ⟨gb146, 1, none⟩ = some (.int .i64 a0_1) := (blk_cell BK146.out 1).trans rfl
                have hcz25_2 : w8.cell? ⟨gb146, 2, none⟩ = some (.int .i64 a0_2) := (blk_cell BK146.out 2).trans rfl
                have hcz25_3 : w8.cell? ⟨gb146, 3, none⟩ = some (.int .i64 a0_3) := (blk_cell BK146.out 3).trans rfl
                have hcz25_4 : w8.cell? ⟨gb146, 4, none⟩ = some (.int .i64 a0_4) := (blk_cell BK146.out 4).trans rfl
                have hfz25_0 := blk_frozen BK146.out 0
                have hfz25_1 := blk_frozen BK146.out 1
                have hfz25_2 := blk_frozen BK146.out 2
                have hfz25_3 := blk_frozen BK146.out 3
                have hfz25_4 := blk_frozen BK146.out 4
                go_wp2_with (first | (go_at_call 15; (with_reducible refine (marks_May.calls a0_0 a0_1 a0_2 a0_3 a0_4 true _ A10.out).mono ?_); rintro e w26 ⟨rfl, hb⟩; have n0_ := Aside0.mk (blk_below (g := gb146) (o := .cells #[.int .i64 a0_0, .int .i64 a0_1, .int .i64 a0_2, .int .i64 a0_3, .int .i64 a0_4] 23 (0, 0)) (by (with_reducible repeat (first | refine blk_drewN ?_ _ | refine blk_drew ?_ | refine blk_alloc ?_ _)); exact BK146.out) hb); have n1_ := Aside0.mk (below_step (by repeat (first | (with_reducible first | exact HB.out | apply below_alloc | apply pw_below_drewN | apply below_drew1 | refine below_set ?_ GE146.out) | exact HB.out)) hb); clear BK146; clear HB; have BK146 := n0_; have HB := n1_; clear n0_ n1_; (try clear hb); (try clear hb2); (try clear hk); (try clear hi); have hcz27_0 : w26.cell? ⟨gb146, 0, none⟩ = some (.int .i64 a0_0) := (blk_cell BK146.out 0).trans rfl; have hcz27_1 : w26.cell? ⟨gb146, 1, none⟩ = some (.int .i64 a0_1) := (blk_cell BK146.out 1).trans rfl; have hcz27_2 : w26.cell? ⟨gb146, 2, none⟩ = some (.int .i64 a0_2) := (blk_cell BK146.out 2).trans rfl; have hcz27_3 : w26.cell? ⟨gb146, 3, none⟩ = some (.int .i64 a0_3) := (blk_cell BK146.out 3).trans rfl; have hcz27_4 : w26.cell? ⟨gb146, 4, none⟩ = some (.int .i64 a0_4) := (blk_cell BK146.out 4).trans rfl; have hfz27_0 := blk_frozen BK146.out 0; have hfz27_1 := blk_frozen BK146.out 1; have hfz27_2 := blk_frozen BK146.out 2; have hfz27_3 := blk_frozen BK146.out 3; have hfz27_4 := blk_frozen BK146.out 4))
                go_meet
                case rel => exact ⟨_, (true), (by first | rfl | (simp; done) | (simp [*]; done)), H', ⟨by first | omega | exact Nat.le_refl _⟩, ⟨by (with_reducible repeat (first | refine blk_drewN ?_ _ | refine blk_drew ?_ | refine blk_alloc ?_ _)); exact BK146.out⟩, ⟨by repeat (first | (with_reducible first | exact HB.out | apply below_alloc | apply pw_below_drewN | apply below_drew1 | refine below_set ?_ GE146.out) | exact HB.out)⟩⟩
              · rw [if_neg c24] at H
                have c24b0 : decide (a1 < 0) = false := decide_eq_false c24
                clear c24
                by_cases c28 : a1 > 1000000
                · rw [if_pos c28] at H
                  have c28b0 : decide (1000000 < a1) = true := decide_eq_true c28
                  clear c28
                  have H' := Aside0.mk H
                  clear H
                  have hcz29_0 : w8.cell? ⟨gb146, 0, none⟩ = some (.int .i64 a0_0) := (blk_cell BK146.out 0).trans rfl
                  have hcz29_1 : w8.cell? ⟨gb146, 1, none⟩ = some (.int .i64 a0_1) := (blk_cell BK146.out 1).trans rfl
                  have hcz29_2 : w8.cell? ⟨gb146, 2, none⟩ = some (.int .i64 a0_2) := (blk_cell BK146.out 2).trans rfl
                  have hcz29_3 : w8.cell? ⟨gb146, 3, none⟩ = some (.int .i64 a0_3) := (blk_cell BK146.out 3).trans rfl
                  have hcz29_4 : w8.cell? ⟨gb146, 4, none⟩ = some (.int .i64 a0_4) := (blk_cell BK146.out 4).trans rfl
                  have hfz29_0 := blk_frozen BK146.out 0
                  have hfz29_1 := blk_frozen BK146.out 1
                  have hfz29_2 := blk_frozen BK146.out 2
                  have hfz29_3 := blk_frozen BK146.out 3
                  have hfz29_4 := blk_frozen BK146.out 4
                  go_wp2_with (first | (go_at_call 15; (with_reducible refine (marks_May.calls a0_0 a0_1 a0_2 a0_3 a0_4 true _ A10.out).mono ?_); rintro e w30 ⟨rfl, hb⟩; have n0_ := Aside0.mk (blk_below (g := gb146) (o := .cells #[.int .i64 a0_0, .int .i64 a0_1, .int .i64 a0_2, .int .i64 a0_3, .int .i64 a0_4] 23 (0, 0)) (by (with_reducible repeat (first | refine blk_drewN ?_ _ | refine blk_drew ?_ | refine blk_alloc ?_ _)); exact BK146.out) hb); have n1_ := Aside0.mk (below_step (by repeat (first | (with_reducible first | exact HB.out | apply below_alloc | apply pw_below_drewN | apply below_drew1 | refine below_set ?_ GE146.out) | exact HB.out)) hb); clear BK146; clear HB; have BK146 := n0_; have HB := n1_; clear n0_ n1_; (try clear hb); (try clear hb2); (try clear hk); (try clear hi); have hcz31_0 : w30.cell? ⟨gb146, 0, none⟩ = some (.int .i64 a0_0) := (blk_cell BK146.out 0).trans rfl; have hcz31_1 : w30.cell? ⟨gb146, 1, none⟩ = some (.int .i64 a0_1) := (blk_cell BK146.out 1).trans rfl; have hcz31_2 : w30.cell? ⟨gb146, 2, none⟩ = some (.int .i64 a0_2) := (blk_cell BK146.out 2).trans rfl; have hcz31_3 : w30.cell? ⟨gb146, 3, none⟩ = some (.int .i64 a0_3) := (blk_cell BK146.out 3).trans rfl; have hcz31_4 : w30.cell? ⟨gb146, 4, none⟩ = some (.int .i64 a0_4) := (blk_cell BK146.out 4).trans rfl; have hfz31_0 := blk_frozen BK146.out 0; have hfz31_1 := blk_frozen BK146.out 1; have hfz31_2 := blk_frozen BK146.out 2; have hfz31_3 := blk_frozen BK146.out 3; have hfz31_4 := blk_frozen BK146.out 4))
                  go_meet
                  case rel => exact ⟨_, (true), (by first | rfl | (simp; done) | (simp [*]; done)), H', ⟨by first | omega | exact Nat.le_refl _⟩, ⟨by (with_reducible repeat (first | refine blk_drewN ?_ _ | refine blk_drew ?_ | refine blk_alloc ?_ _)); exact BK146.out⟩, ⟨by repeat (first | (with_reducible first | exact HB.out | apply below_alloc | apply pw_below_drewN | apply below_drew1 | refine below_set ?_ GE146.out) | exact HB.out)⟩⟩
                · rw [if_neg c28] at H
                  have c28b0 : decide (1000000 < a1) = false := decide_eq_false c28
                  clear c28
                  by_cases c32 : a2 < 0
                  · rw [if_pos c32] at H
                    have c32b0 : decide (a2 < 0) = true := decide_eq_true c32
                    clear c32
                    have H' := Aside0.mk H
                    clear H
                    have hcz33_0 : w8.cell? ⟨gb146, 0, none⟩ = some (.int .i64 a0_0) := (blk_cell BK146.out 0).trans rfl
                    have hcz33_1 : w8.cell? ⟨gb146, 1, none⟩ = some (.int .i64 a0_1) := (blk_cell BK146.out 1).trans rfl
                    have hcz33_2 : w8.cell? ⟨gb146, 2, none⟩ = some (.int .i64 a0_2) := (blk_cell BK146.out 2).trans rfl
                    have hcz33_3 : w8.cell? ⟨gb146, 3, none⟩ = some (.int .i64 a0_3) := (blk_cell BK146.out 3).trans rfl
                    have hcz33_4 : w8.cell? ⟨gb146, 4, none⟩ = some (.int .i64 a0_4) := (blk_cell BK146.out 4).trans rfl
                    have hfz33_0 := blk_frozen BK146.out 0
                    have hfz33_1 := blk_frozen BK146.out 1
                    have hfz33_2 := blk_frozen BK146.out 2
                    have hfz33_3 := blk_frozen BK146.out 3
                    have hfz33_4 := blk_frozen BK146.out 4
                    go_wp2_with (first | (go_at_call 15; (with_reducible refine (marks_May.calls a0_0 a0_1 a0_2 a0_3 a0_4 true _ A10.out).mono ?_); rintro e w34 ⟨rfl, hb⟩; have n0_ := Aside0.mk (blk_below (g := gb146) (o := .cells #[.int .i64 a0_0, .int .i64 a0_1, .int .i64 a0_2, .int .i64 a0_3, .int .i64 a0_4] 23 (0, 0)) (by (with_reducible repeat (first | refine blk_drewN ?_ _ | refine blk_drew ?_ | refine blk_alloc ?_ _)); exact BK146.out) hb); have n1_ := Aside0.mk (below_step (by repeat (first | (with_reducible first | exact HB.out | apply below_alloc | apply pw_below_drewN | apply below_drew1 | refine below_set ?_ GE146.out) | exact HB.out)) hb); clear BK146; clear HB; have BK146 := n0_; have HB := n1_; clear n0_ n1_; (try clear hb); (try clear hb2); (try clear hk); (try clear hi); have hcz35_0 : w34.cell? ⟨gb146, 0, none⟩ = some (.int .i64 a0_0) := (blk_cell BK146.out 0).trans rfl; have hcz35_1 : w34.cell? ⟨gb146, 1, none⟩ = some (.int .i64 a0_1) := (blk_cell BK146.out 1).trans rfl; have hcz35_2 : w34.cell? ⟨gb146, 2, none⟩ = some (.int .i64 a0_2) := (blk_cell BK146.out 2).trans rfl; have hcz35_3 : w34.cell? ⟨gb146, 3, none⟩ = some (.int .i64 a0_3) := (blk_cell BK146.out 3).trans rfl; have hcz35_4 : w34.cell? ⟨gb146, 4, none⟩ = some (.int .i64 a0_4) := (blk_cell BK146.out 4).trans rfl; have hfz35_0 := blk_frozen BK146.out 0; have hfz35_1 := blk_frozen BK146.out 1; have hfz35_2 := blk_frozen BK146.out 2; have hfz35_3 := blk_frozen BK146.out 3; have hfz35_4 := blk_frozen BK146.out 4))
                    go_meet
                    case rel => exact ⟨_, (true), (by first | rfl | (simp; done) | (simp [*]; done)), H', ⟨by first | omega | exact Nat.le_refl _⟩, ⟨by (with_reducible repeat (first | refine blk_drewN ?_ _ | refine blk_drew ?_ | refine blk_alloc ?_ _)); exact BK146.out⟩, ⟨by repeat (first | (with_reducible first | exact HB.out | apply below_alloc | apply pw_below_drewN | apply below_drew1 | refine below_set ?_ GE146.out) | exact HB.out)⟩⟩
                  · rw [if_neg c32] at H
                    have c32b0 : decide (a2 < 0) = false := decide_eq_false c32
                    clear c32
                    by_cases c36 : a2 > a1
                    · rw [if_pos c36] at H
                      have c36b0 : decide (a1 < a2) = true := decide_eq_true c36
                      clear c36
                      have H' := Aside0.mk H
                      clear H
                      have hcz37_0 : w8.cell? ⟨gb146, 0, none⟩ = some (.int .i64 a0_0) := (blk_cell BK146.out 0).trans rfl
                      have hcz37_1 : w8.cell? ⟨gb146, 1, none⟩ = some (.int .i64 a0_1) := (blk_cell BK146.out 1).trans rfl
                      have hcz37_2 : w8.cell? ⟨gb146, 2, none⟩ = some (.int .i64 a0_2) := (blk_cell BK146.out 2).trans rfl
                      have hcz37_3 : w8.cell? ⟨gb146, 3, none⟩ = some (.int .i64 a0_3) := (blk_cell BK146.out 3).trans rfl
                      have hcz37_4 : w8.cell? ⟨gb146, 4, none⟩ = some (.int .i64 a0_4) := (blk_cell BK146.out 4).trans rfl
                      have hfz37_0 := blk_frozen BK146.out 0
                      have hfz37_1 := blk_frozen BK146.out 1
                      have hfz37_2 := blk_frozen BK146.out 2
                      have hfz37_3 := blk_frozen BK146.out 3
                      have hfz37_4 := blk_frozen BK146.out 4
                      go_wp2_with (first | (go_at_call 15; (with_reducible refine (marks_May.calls a0_0 a0_1 a0_2 a0_3 a0_4 true _ A10.out).mono ?_); rintro e w38 ⟨rfl, hb⟩; have n0_ := Aside0.mk (blk_below (g := gb146) (o := .cells #[.int .i64 a0_0, .int .i64 a0_1, .int .i64 a0_2, .int .i64 a0_3, .int .i64 a0_4] 23 (0, 0)) (by (with_reducible repeat (first | refine blk_drewN ?_ _ | refine blk_drew ?_ | refine blk_alloc ?_ _)); exact BK146.out) hb); have n1_ := Aside0.mk (below_step (by repeat (first | (with_reducible first | exact HB.out | apply below_alloc | apply pw_below_drewN | apply below_drew1 | refine below_set ?_ GE146.out) | exact HB.out)) hb); clear BK146; clear HB; have BK146 := n0_; have HB := n1_; clear n0_ n1_; (try clear hb); (try clear hb2); (try clear hk); (try clear hi); have hcz39_0 : w38.cell? ⟨gb146, 0, none⟩ = some (.int .i64 a0_0) := (blk_cell BK146.out 0).trans rfl; have hcz39_1 : w38.cell? ⟨gb146, 1, none⟩ = some (.int .i64 a0_1) := (blk_cell BK146.out 1).trans rfl; have hcz39_2 : w38.cell? ⟨gb146, 2, none⟩ = some (.int .i64 a0_2) := (blk_cell BK146.out 2).trans rfl; have hcz39_3 : w38.cell? ⟨gb146, 3, none⟩ = some (.int .i64 a0_3) := (blk_cell BK146.out 3).trans rfl; have hcz39_4 : w38.cell? ⟨gb146, 4, none⟩ = some (.int .i64 a0_4) := (blk_cell BK146.out 4).trans rfl; have hfz39_0 := blk_frozen BK146.out 0; have hfz39_1 := blk_frozen BK146.out 1; have hfz39_2 := blk_frozen BK146.out 2; have hfz39_3 := blk_frozen BK146.out 3; have hfz39_4 := blk_frozen BK146.out 4))
                      go_meet
                      case rel => exact ⟨_, (true), (by first | rfl | (simp; done) | (simp [*]; done)), H', ⟨by first | omega | exact Nat.le_refl _⟩, ⟨by (with_reducible repeat (first | refine blk_drewN ?_ _ | refine blk_drew ?_ | refine blk_alloc ?_ _)); exact BK146.out⟩, ⟨by repeat (first | (with_reducible first | exact HB.out | apply below_alloc | apply pw_below_drewN | apply below_drew1 | refine below_set ?_ GE146.out) | exact HB.out)⟩⟩
                    · rw [if_neg c36] at H
                      have c36b0 : decide (a1 < a2) = false := decide_eq_false c36
                      clear c36
                      by_cases c40 : a3 < 1
                      · rw [if_pos c40] at H
                        have c40b0 : decide (a3 < 1) = true := decide_eq_true c40
                        clear c40
                        have H' := Aside0.mk H
                        clear H
                        have hcz41_0 : w8.cell? ⟨gb146, 0, none⟩ = some (.int .i64 a0_0) := (blk_cell BK146.out 0).trans rfl
                        have hcz41_1 : w8.cell? ⟨gb146, 1, none⟩ = some (.int .i64 a0_1) := (blk_cell BK146.out 1).trans rfl
                        have hcz41_2 : w8.cell? ⟨gb146, 2, none⟩ = some (.int .i64 a0_2) := (blk_cell BK146.out 2).trans rfl
                        have hcz41_3 : w8.cell? ⟨gb146, 3, none⟩ = some (.int .i64 a0_3) := (blk_cell BK146.out 3).trans rfl
                        have hcz41_4 : w8.cell? ⟨gb146, 4, none⟩ = some (.int .i64 a0_4) := (blk_cell BK146.out 4).trans rfl
                        have hfz41_0 := blk_frozen BK146.out 0
                        have hfz41_1 := blk_frozen BK146.out 1
                        have hfz41_2 := blk_frozen BK146.out 2
                        have hfz41_3 := blk_frozen BK146.out 3
                        have hfz41_4 := blk_frozen BK146.out 4
                        go_wp2_with (first | (go_at_call 15; (with_reducible refine (marks_May.calls a0_0 a0_1 a0_2 a0_3 a0_4 true _ A10.out).mono ?_); rintro e w42 ⟨rfl, hb⟩; have n0_ := Aside0.mk (blk_below (g := gb146) (o := .cells #[.int .i64 a0_0, .int .i64 a0_1, .int .i64 a0_2, .int .i64 a0_3, .int .i64 a0_4] 23 (0, 0)) (by (with_reducible repeat (first | refine blk_drewN ?_ _ | refine blk_drew ?_ | refine blk_alloc ?_ _)); exact BK146.out) hb); have n1_ := Aside0.mk (below_step (by repeat (first | (with_reducible first | exact HB.out | apply below_alloc | apply pw_below_drewN | apply below_drew1 | refine below_set ?_ GE146.out) | exact HB.out)) hb); clear BK146; clear HB; have BK146 := n0_; have HB := n1_; clear n0_ n1_; (try clear hb); (try clear hb2); (try clear hk); (try clear hi); have hcz43_0 : w42.cell? ⟨gb146, 0, none⟩ = some (.int .i64 a0_0) := (blk_cell BK146.out 0).trans rfl; have hcz43_1 : w42.cell? ⟨gb146, 1, none⟩ = some (.int .i64 a0_1) := (blk_cell BK146.out 1).trans rfl; have hcz43_2 : w42.cell? ⟨gb146, 2, none⟩ = some (.int .i64 a0_2) := (blk_cell BK146.out 2).trans rfl; have hcz43_3 : w42.cell? ⟨gb146, 3, none⟩ = some (.int .i64 a0_3) := (blk_cell BK146.out 3).trans rfl; have hcz43_4 : w42.cell? ⟨gb146, 4, none⟩ = some (.int .i64 a0_4) := (blk_cell BK146.out 4).trans rfl; have hfz43_0 := blk_frozen BK146.out 0; have hfz43_1 := blk_frozen BK146.out 1; have hfz43_2 := blk_frozen BK146.out 2; have hfz43_3 := blk_frozen BK146.out 3; have hfz43_4 := blk_frozen BK146.out 4))
                        go_meet
                        case rel => exact ⟨_, (true), (by first | rfl | (simp; done) | (simp [*]; done)), H', ⟨by first | omega | exact Nat.le_refl _⟩, ⟨by (with_reducible repeat (first | refine blk_drewN ?_ _ | refine blk_drew ?_ | refine blk_alloc ?_ _)); exact BK146.out⟩, ⟨by repeat (first | (with_reducible first | exact HB.out | apply below_alloc | apply pw_below_drewN | apply below_drew1 | refine below_set ?_ GE146.out) | exact HB.out)⟩⟩
                      · rw [if_neg c40] at H
                        have c40b0 : decide (a3 < 1) = false := decide_eq_false c40
                        clear c40
                        by_cases c44 : a3 > 1000000
                        · rw [if_pos c44] at H
                          have c44b0 : decide (1000000 < a3) = true := decide_eq_true c44
                          clear c44
                          have H' := Aside0.mk H
                          clear H
                          have hcz45_0 : w8.cell? ⟨gb146, 0, none⟩ = some (.int .i64 a0_0) := (blk_cell BK146.out 0).trans rfl
                          have hcz45_1 : w8.cell? ⟨gb146, 1, none⟩ = some (.int .i64 a0_1) := (blk_cell BK146.out 1).trans rfl
                          have hcz45_2 : w8.cell? ⟨gb146, 2, none⟩ = some (.int .i64 a0_2) := (blk_cell BK146.out 2).trans rfl
                          have hcz45_3 : w8.cell? ⟨gb146, 3, none⟩ = some (.int .i64 a0_3) := (blk_cell BK146.out 3).trans rfl
                          have hcz45_4 : w8.cell? ⟨gb146, 4, none⟩ = some (.int .i64 a0_4) := (blk_cell BK146.out 4).trans rfl
                          have hfz45_0 := blk_frozen BK146.out 0
                          have hfz45_1 := blk_frozen BK146.out 1
                          have hfz45_2 := blk_frozen BK146.out 2
                          have hfz45_3 := blk_frozen BK146.out 3
                          have hfz45_4 := blk_frozen BK146.out 4
                          go_wp2_with (first | (go_at_call 15; (with_reducible refine (marks_May.calls a0_0 a0_1 a0_2 a0_3 a0_4 true _ A10.out).mono ?_); rintro e w46 ⟨rfl, hb⟩; have n0_ := Aside0.mk (blk_below (g := gb146) (o := .cells #[.int .i64 a0_0, .int .i64 a0_1, .int .i64 a0_2, .int .i64 a0_3, .int .i64 a0_4] 23 (0, 0)) (by (with_reducible repeat (first | refine blk_drewN ?_ _ | refine blk_drew ?_ | refine blk_alloc ?_ _)); exact BK146.out) hb); have n1_ := Aside0.mk (below_step (by repeat (first | (with_reducible first | exact HB.out | apply below_alloc | apply pw_below_drewN | apply below_drew1 | refine below_set ?_ GE146.out) | exact HB.out)) hb); clear BK146; clear HB; have BK146 := n0_; have HB := n1_; clear n0_ n1_; (try clear hb); (try clear hb2); (try clear hk); (try clear hi); have hcz47_0 : w46.cell? ⟨gb146, 0, none⟩ = some (.int .i64 a0_0) := (blk_cell BK146.out 0).trans rfl; have hcz47_1 : w46.cell? ⟨gb146, 1, none⟩ = some (.int .i64 a0_1) := (blk_cell BK146.out 1).trans rfl; have hcz47_2 : w46.cell? ⟨gb146, 2, none⟩ = some (.int .i64 a0_2) := (blk_cell BK146.out 2).trans rfl; have hcz47_3 : w46.cell? ⟨gb146, 3, none⟩ = some (.int .i64 a0_3) := (blk_cell BK146.out 3).trans rfl; have hcz47_4 : w46.cell? ⟨gb146, 4, none⟩ = some (.int .i64 a0_4) := (blk_cell BK146.out 4).trans rfl; have hfz47_0 := blk_frozen BK146.out 0; have hfz47_1 := blk_frozen BK146.out 1; have hfz47_2 := blk_frozen BK146.out 2; have hfz47_3 := blk_frozen BK146.out 3; have hfz47_4 := blk_frozen BK146.out 4))
                          go_meet
                          case rel => exact ⟨_, (true), (by first | rfl | (simp; done) | (simp [*]; done)), H', ⟨by first | omega | exact Nat.le_refl _⟩, ⟨by (with_reducible repeat (first | refine blk_drewN ?_ _ | refine blk_drew ?_ | refine blk_alloc ?_ _)); exact BK146.out⟩, ⟨by repeat (first | (with_reducible first | exact HB.out | apply below_alloc | apply pw_below_drewN | apply below_drew1 | refine below_set ?_ GE146.out) | exact HB.out)⟩⟩
                        · rw [if_neg c44] at H
                          have c44b0 : decide (1000000 < a3) = false := decide_eq_false c44
                          clear c44
                          by_cases c48 : (wrap64 (a2 * a3)) ≥ 16777216
                          · rw [if_pos c48] at H
                            have c48b0 : decide (16777216 ≤ (wrap64 (a2 * a3))) = true := decide_eq_true c48
                            clear c48
                            have H' := Aside0.mk H
                            clear H
                            have hcz49_0 : w8.cell? ⟨gb146, 0, none⟩ = some (.int .i64 a0_0) := (blk_cell BK146.out 0).trans rfl
                            have hcz49_1 : w8.cell? ⟨gb146, 1, none⟩ = some (.int .i64 a0_1) := (blk_cell BK146.out 1).trans rfl
                            have hcz49_2 : w8.cell? ⟨gb146, 2, none⟩ = some (.int .i64 a0_2) := (blk_cell BK146.out 2).trans rfl
                            have hcz49_3 : w8.cell? ⟨gb146, 3, none⟩ = some (.int .i64 a0_3) := (blk_cell BK146.out 3).trans rfl
                            have hcz49_4 : w8.cell? ⟨gb146, 4, none⟩ = some (.int .i64 a0_4) := (blk_cell BK146.out 4).trans rfl
                            have hfz49_0 := blk_frozen BK146.out 0
                            have hfz49_1 := blk_frozen BK146.out 1
                            have hfz49_2 := blk_frozen BK146.out 2
                            have hfz49_3 := blk_frozen BK146.out 3
                            have hfz49_4 := blk_frozen BK146.out 4
                            go_wp2_with (first | (go_at_call 15; (with_reducible refine (marks_May.calls a0_0 a0_1 a0_2 a0_3 a0_4 true _ A10.out).mono ?_); rintro e w50 ⟨rfl, hb⟩; have n0_ := Aside0.mk (blk_below (g := gb146) (o := .cells #[.int .i64 a0_0, .int .i64 a0_1, .int .i64 a0_2, .int .i64 a0_3, .int .i64 a0_4] 23 (0, 0)) (by (with_reducible repeat (first | refine blk_drewN ?_ _ | refine blk_drew ?_ | refine blk_alloc ?_ _)); exact BK146.out) hb); have n1_ := Aside0.mk (below_step (by repeat (first | (with_reducible first | exact HB.out | apply below_alloc | apply pw_below_drewN | apply below_drew1 | refine below_set ?_ GE146.out) | exact HB.out)) hb); clear BK146; clear HB; have BK146 := n0_; have HB := n1_; clear n0_ n1_; (try clear hb); (try clear hb2); (try clear hk); (try clear hi); have hcz51_0 : w50.cell? ⟨gb146, 0, none⟩ = some (.int .i64 a0_0) := (blk_cell BK146.out 0).trans rfl; have hcz51_1 : w50.cell? ⟨gb146, 1, none⟩ = some (.int .i64 a0_1) := (blk_cell BK146.out 1).trans rfl; have hcz51_2 : w50.cell? ⟨gb146, 2, none⟩ = some (.int .i64 a0_2) := (blk_cell BK146.out 2).trans rfl; have hcz51_3 : w50.cell? ⟨gb146, 3, none⟩ = some (.int .i64 a0_3) := (blk_cell BK146.out 3).trans rfl; have hcz51_4 : w50.cell? ⟨gb146, 4, none⟩ = some (.int .i64 a0_4) := (blk_cell BK146.out 4).trans rfl; have hfz51_0 := blk_frozen BK146.out 0; have hfz51_1 := blk_frozen BK146.out 1; have hfz51_2 := blk_frozen BK146.out 2; have hfz51_3 := blk_frozen BK146.out 3; have hfz51_4 := blk_frozen BK146.out 4))
                            go_meet
                            case rel => exact ⟨_, (true), (by first | rfl | (simp; done) | (simp [*]; done)), H', ⟨by first | omega | exact Nat.le_refl _⟩, ⟨by (with_reducible repeat (first | refine blk_drewN ?_ _ | refine blk_drew ?_ | refine blk_alloc ?_ _)); exact BK146.out⟩, ⟨by repeat (first | (with_reducible first | exact HB.out | apply below_alloc | apply pw_below_drewN | apply below_drew1 | refine below_set ?_ GE146.out) | exact HB.out)⟩⟩
                          · rw [if_neg c48] at H
                            have c48b0 : decide (16777216 ≤ (wrap64 (a2 * a3))) = false := decide_eq_false c48
                            clear c48
                            have H' := Aside0.mk H
                            clear H
                            have hcz52_0 : w8.cell? ⟨gb146, 0, none⟩ = some (.int .i64 a0_0) := (blk_cell BK146.out 0).trans rfl
                            have hcz52_1 : w8.cell? ⟨gb146, 1, none⟩ = some (.int .i64 a0_1) := (blk_cell BK146.out 1).trans rfl
                            have hcz52_2 : w8.cell? ⟨gb146, 2, none⟩ = some (.int .i64 a0_2) := (blk_cell BK146.out 2).trans rfl
                            have hcz52_3 : w8.cell? ⟨gb146, 3, none⟩ = some (.int .i64 a0_3) := (blk_cell BK146.out 3).trans rfl
                            have hcz52_4 : w8.cell? ⟨gb146, 4, none⟩ = some (.int .i64 a0_4) := (blk_cell BK146.out 4).trans rfl
                            have hfz52_0 := blk_frozen BK146.out 0
                            have hfz52_1 := blk_frozen BK146.out 1
                            have hfz52_2 := blk_frozen BK146.out 2
                            have hfz52_3 := blk_frozen BK146.out 3
                            have hfz52_4 := blk_frozen BK146.out 4
                            go_wp2_with (first | (go_at_call 15; (with_reducible refine (marks_May.calls a0_0 a0_1 a0_2 a0_3 a0_4 true _ A10.out).mono ?_); rintro e w53 ⟨rfl, hb⟩; have n0_ := Aside0.mk (blk_below (g := gb146) (o := .cells #[.int .i64 a0_0, .int .i64 a0_1, .int .i64 a0_2, .int .i64 a0_3, .int .i64 a0_4] 23 (0, 0)) (by (with_reducible repeat (first | refine blk_drewN ?_ _ | refine blk_drew ?_ | refine blk_alloc ?_ _)); exact BK146.out) hb); have n1_ := Aside0.mk (below_step (by repeat (first | (with_reducible first | exact HB.out | apply below_alloc | apply pw_below_drewN | apply below_drew1 | refine below_set ?_ GE146.out) | exact HB.out)) hb); clear BK146; clear HB; have BK146 := n0_; have HB := n1_; clear n0_ n1_; (try clear hb); (try clear hb2); (try clear hk); (try clear hi); have hcz54_0 : w53.cell? ⟨gb146, 0, none⟩ = some (.int .i64 a0_0) := (blk_cell BK146.out 0).trans rfl; have hcz54_1 : w53.cell? ⟨gb146, 1, none⟩ = some (.int .i64 a0_1) := (blk_cell BK146.out 1).trans rfl; have hcz54_2 : w53.cell? ⟨gb146, 2, none⟩ = some (.int .i64 a0_2) := (blk_cell BK146.out 2).trans rfl; have hcz54_3 : w53.cell? ⟨gb146, 3, none⟩ = some (.int .i64 a0_3) := (blk_cell BK146.out 3).trans rfl; have hcz54_4 : w53.cell? ⟨gb146, 4, none⟩ = some (.int .i64 a0_4) := (blk_cell BK146.out 4).trans rfl; have hfz54_0 := blk_frozen BK146.out 0; have hfz54_1 := blk_frozen BK146.out 1; have hfz54_2 := blk_frozen BK146.out 2; have hfz54_3 := blk_frozen BK146.out 3; have hfz54_4 := blk_frozen BK146.out 4))
                            go_meet
                            case rel => exact ⟨_, (decide ((wrap64 (a1 * a3)) > 1000000000000)), (by first | rfl | (simp; done) | (simp [*]; done)), H', ⟨by first | omega | exact Nat.le_refl _⟩, ⟨by (with_reducible repeat (first | refine blk_drewN ?_ _ | refine blk_drew ?_ | refine blk_alloc ?_ _)); exact BK146.out⟩, ⟨by repeat (first | (with_reducible first | exact HB.out | apply below_alloc | apply pw_below_drewN | apply below_drew1 | refine below_set ?_ GE146.out) | exact HB.out)⟩⟩
      · replace c11 := Bool.eq_false_iff.mpr c11
        subst c11
        have H1 : (fourinhandlaw10_MarksBack.j0 k a1 a2 a3 true true a0_0 a0_1 a0_2 a0_3 a0_4) = some r := by rw [if_neg (show ¬ (false = true) by decide)] at H; exact H
        clear H
        have H := H1
        clear H1
        have H' := Aside0.mk H
        clear H
        have hcz55_0 : w8.cell? ⟨gb146, 0, none⟩ = some (.int .i64 a0_0) := (blk_cell BK146.out 0).trans rfl
        have hcz55_1 : w8.cell? ⟨gb146, 1, none⟩ = some (.int .i64 a0_1) := (blk_cell BK146.out 1).trans rfl
        have hcz55_2 : w8.cell? ⟨gb146, 2, none⟩ = some (.int .i64 a0_2) := (blk_cell BK146.out 2).trans rfl
        have hcz55_3 : w8.cell? ⟨gb146, 3, none⟩ = some (.int .i64 a0_3) := (blk_cell BK146.out 3).trans rfl
        have hcz55_4 : w8.cell? ⟨gb146, 4, none⟩ = some (.int .i64 a0_4) := (blk_cell BK146.out 4).trans rfl
        have hfz55_0 := blk_frozen BK146.out 0
        have hfz55_1 := blk_frozen BK146.out 1
        have hfz55_2 := blk_frozen BK146.out 2
        have hfz55_3 := blk_frozen BK146.out 3
        have hfz55_4 := blk_frozen BK146.out 4
        go_wp2_with (first | (go_at_call 15; (with_reducible refine (marks_May.calls a0_0 a0_1 a0_2 a0_3 a0_4 false _ A10.out).mono ?_); rintro e w56 ⟨rfl, hb⟩; have n0_ := Aside0.mk (blk_below (g := gb146) (o := .cells #[.int .i64 a0_0, .int .i64 a0_1, .int .i64 a0_2, .int .i64 a0_3, .int .i64 a0_4] 23 (0, 0)) (by (with_reducible repeat (first | refine blk_drewN ?_ _ | refine blk_drew ?_ | refine blk_alloc ?_ _)); exact BK146.out) hb); have n1_ := Aside0.mk (below_step (by repeat (first | (with_reducible first | exact HB.out | apply below_alloc | apply pw_below_drewN | apply below_drew1 | refine below_set ?_ GE146.out) | exact HB.out)) hb); clear BK146; clear HB; have BK146 := n0_; have HB := n1_; clear n0_ n1_; (try clear hb); (try clear hb2); (try clear hk); (try clear hi)))
        go_meet
        case rel => exact ⟨_, (true), (by first | rfl | (simp; done) | (simp [*]; done)), H', ⟨by first | omega | exact Nat.le_refl _⟩, ⟨by (with_reducible repeat (first | refine blk_drewN ?_ _ | refine blk_drew ?_ | refine blk_alloc ?_ _)); exact BK146.out⟩, ⟨by repeat (first | (with_reducible first | exact HB.out | apply below_alloc | apply pw_below_drewN | apply below_drew1 | refine below_set ?_ GE146.out) | exact HB.out)⟩⟩
    · replace c9 := Bool.eq_false_iff.mpr c9
      subst c9
      have H1 : (fourinhandlaw10_MarksBack.j0 k a1 a2 a3 false true a0_0 a0_1 a0_2 a0_3 a0_4) = some r := by rw [if_neg (show ¬ (false = true) by decide)] at H; exact H
      clear H
      have H := H1
      clear H1
      have H' := Aside0.mk H
      clear H
      go_wp2
      go_meet
      case rel => exact ⟨_, (true), (by first | rfl | (simp; done) | (simp [*]; done)), H', ⟨by first | omega | exact Nat.le_refl _⟩, ⟨by (with_reducible repeat (first | refine blk_drewN ?_ _ | refine blk_drew ?_ | refine blk_alloc ?_ _)); exact BK146.out⟩, ⟨by repeat (first | (with_reducible first | exact HB.out | apply below_alloc | apply pw_below_drewN | apply below_drew1 | refine below_set ?_ GE146.out) | exact HB.out)⟩⟩
  case rest =>
    clear HC6
    try clear c1
    try clear c2
    try clear p2
    try clear c3
    try clear c4
    try clear c6
    try clear p6
    try clear c8
    try clear c9
    try clear c11
    try clear c12
    try clear c12b0
    try clear c16
    try clear c16b0
    try clear c20
    try clear c20b0
    try clear c24
    try clear c24b0
    try clear c28
    try clear c28b0
    try clear c32
    try clear c32b0
    try clear c36
    try clear c36b0
    try clear c40
    try clear c40b0
    try clear c44
    try clear c44b0
    try clear c48
    try clear c48b0
    try clear hcz13_0
    try clear hcz13_1
    try clear hcz13_2
    try clear hcz13_3
    try clear hcz13_4
    try clear hcz15_0
    try clear hcz15_1
    try clear hcz15_2
    try clear hcz15_3
    try clear hcz15_4
    try clear hcz17_0
    try clear hcz17_1
    try clear hcz17_2
    try clear hcz17_3
    try clear hcz17_4
    try clear hcz19_0
    try clear hcz19_1
    try clear hcz19_2
    try clear hcz19_3
    try clear hcz19_4
    try clear hcz21_0
    try clear hcz21_1
    try clear hcz21_2
    try clear hcz21_3
    try clear hcz21_4
    try clear hcz23_0
    try clear hcz23_1
    try clear hcz23_2
    try clear hcz23_3
    try clear hcz23_4
    try clear hcz25_0
    try clear hcz25_1
    try clear hcz25_2
    try clear hcz25_3
    try clear hcz25_4
    try clear hcz27_0
    try clear hcz27_1
    try clear hcz27_2
    try clear hcz27_3
    try clear hcz27_4
    try clear hcz29_0
    try clear hcz29_1
    try clear hcz29_2
    try clear hcz29_3
    try clear hcz29_4
    try clear hcz31_0
    try clear hcz31_1
    try clear hcz31_2
    try clear hcz31_3
    try clear hcz31_4
    try clear hcz33_0
    try clear hcz33_1
    try clear hcz33_2
    try clear hcz33_3
    try clear hcz33_4
    try clear hcz35_0
    try clear hcz35_1
    try clear hcz35_2
    try clear hcz35_3
    try clear hcz35_4
    try clear hcz37_0
    try clear hcz37_1
    try clear hcz37_2
    try clear hcz37_3
    try clear hcz37_4
    try clear hcz39_0
    try clear hcz39_1
    try clear hcz39_2
    try clear hcz39_3
    try clear hcz39_4
    try clear hcz41_0
    try clear hcz41_1
    try clear hcz41_2
    try clear hcz41_3
    try clear hcz41_4
    try clear hcz43_0
    try clear hcz43_1
    try clear hcz43_2
    try clear hcz43_3
    try clear hcz43_4
    try clear hcz45_0
    try clear hcz45_1
    try clear hcz45_2
    try clear hcz45_3
    try clear hcz45_4
    try clear hcz47_0
    try clear hcz47_1
    try clear hcz47_2
    try clear hcz47_3
    try clear hcz47_4
    try clear hcz49_0
    try clear hcz49_1
    try clear hcz49_2
    try clear hcz49_3
    try clear hcz49_4
    try clear hcz51_0
    try clear hcz51_1
    try clear hcz51_2
    try clear hcz51_3
    try clear hcz51_4
    try clear hcz52_0
    try clear hcz52_1
    try clear hcz52_2
    try clear hcz52_3
    try clear hcz52_4
    try clear hcz54_0
    try clear hcz54_1
    try clear hcz54_2
    try clear hcz54_3
    try clear hcz54_4
    try clear hcz55_0
    try clear hcz55_1
    try clear hcz55_2
    try clear hcz55_3
    try clear hcz55_4
    try clear hfz13_0
    try clear hfz13_1
    try clear hfz13_2
    try clear hfz13_3
    try clear hfz13_4
    try clear hfz15_0
    try clear hfz15_1
    try clear hfz15_2
    try clear hfz15_3
    try clear hfz15_4
    try clear hfz17_0
    try clear hfz17_1
    try clear hfz17_2
    try clear hfz17_3
    try clear hfz17_4
    try clear hfz19_0
    try clear hfz19_1
    try clear hfz19_2
    try clear hfz19_3
    try clear hfz19_4
    try clear hfz21_0
    try clear hfz21_1
    try clear hfz21_2
    try clear hfz21_3
    try clear hfz21_4
    try clear hfz23_0
    try clear hfz23_1
    try clear hfz23_2
    try clear hfz23_3
    try clear hfz23_4
    try clear hfz25_0
    try clear hfz25_1
    try clear hfz25_2
    try clear hfz25_3
    try clear hfz25_4
    try clear hfz27_0
    try clear hfz27_1
    try clear hfz27_2
    try clear hfz27_3
    try clear hfz27_4
    try clear hfz29_0
    try clear hfz29_1
    try clear hfz29_2
    try clear hfz29_3
    try clear hfz29_4
    try clear hfz31_0
    try clear hfz31_1
    try clear hfz31_2
    try clear hfz31_3
    try clear hfz31_4
    try clear hfz33_0
    try clear hfz33_1
    try clear hfz33_2
    try clear hfz33_3
    try clear hfz33_4
    try clear hfz35_0
    try clear hfz35_1
    try clear hfz35_2
    try clear hfz35_3
    try clear hfz35_4
    try clear hfz37_0
    try clear hfz37_1
    try clear hfz37_2
    try clear hfz37_3
    try clear hfz37_4
    try clear hfz39_0
    try clear hfz39_1
    try clear hfz39_2
    try clear hfz39_3
    try clear hfz39_4
    try clear hfz41_0
    try clear hfz41_1
    try clear hfz41_2
    try clear hfz41_3
    try clear hfz41_4
    try clear hfz43_0
    try clear hfz43_1
    try clear hfz43_2
    try clear hfz43_3
    try clear hfz43_4
    try clear hfz45_0
    try clear hfz45_1
    try clear hfz45_2
    try clear hfz45_3
    try clear hfz45_4
    try clear hfz47_0
    try clear hfz47_1
    try clear hfz47_2
    try clear hfz47_3
    try clear hfz47_4
    try clear hfz49_0
    try clear hfz49_1
    try clear hfz49_2
    try clear hfz49_3
    try clear hfz49_4
    try clear hfz51_0
    try clear hfz51_1
    try clear hfz51_2
    try clear hfz51_3
    try clear hfz51_4
    try clear hfz52_0
    try clear hfz52_1
    try clear hfz52_2
    try clear hfz52_3
    try clear hfz52_4
    try clear hfz54_0
    try clear hfz54_1
    try clear hfz54_2
    try clear hfz54_3
    try clear hfz54_4
    try clear hfz55_0
    try clear hfz55_1
    try clear hfz55_2
    try clear hfz55_3
    try clear hfz55_4
    obtain ⟨kq, x75_5, rfl, HA, HJ5, BK146, HB⟩ := hcut
    cases kq with
    | zero => exact absurd HA.out (by simp [fourinhandlaw10_MarksBack.j0])
    | succ kj5 =>
      have H := HA.out
      clear HA
      simp only [fourinhandlaw10_MarksBack.j0] at H
      by_cases c57 : x75_5 = true
      · subst c57
        have H1 : (some t147) = some r := by rw [if_pos rfl] at H; exact H
        clear H
        have H := H1
        clear H1
        obtain rfl := Option.some.inj H
        go_wp2
        go_ret
        exact ⟨by first | rfl | (simp [errW_none, errW_some] <;> rfl) | (simp [*, errW_none, errW_some] <;> rfl), by repeat (first | (with_reducible first | exact HB.out | apply below_alloc | apply pw_below_drewN | apply below_drew1 | refine below_set ?_ GE146.out) | exact HB.out)⟩
      · replace c57 := Bool.eq_false_iff.mpr c57
        subst c57
        have H1 : (if a1 ≥ 8 then (fourinhandlaw10_MarksBack.j1 kj5 a1 a2 a3 (decide ((wrap64 (a1 - a2)) > 7)) a0_0 a0_1 a0_2 a0_3 a0_4) else (fourinhandlaw10_MarksBack.j1 kj5 a1 a2 a3 false a0_0 a0_1 a0_2 a0_3 a0_4)) = some r := by rw [if_neg (show ¬ (false = true) by decide)] at H; exact H
        clear H
        have H := H1
        clear H1
        have HC58 := Aside0.mk H
        clear H
        go_upto_region 4 with (fail)
        go_cut [84] (fun v84 wc => ∃ (kq : Nat) (x84_57 : Bool), v84 = .bool x84_57 ∧ Aside0 (fourinhandlaw10_MarksBack.j1 kq a1 a2 a3 x84_57 a0_0 a0_1 a0_2 a0_3 a0_4 = some r) ∧ Aside0 (kq ≤ kj5) ∧ Aside0 (wc.heap[gb146]? = some (.cells #[.int .i64 a0_0, .int .i64 a0_1, .int .i64 a0_2, .int .i64 a0_3, .int .i64 a0_4] 23 (0, 0))) ∧ Aside0 (Below w.heap.size w wc))
        case first =>
          have H := HC58.out
          clear HC58
          by_cases c59 : a1 ≥ 8
          · rw [if_pos c59] at H
            have c59b0 : decide (8 ≤ a1) = true := decide_eq_true c59
            clear c59
            (first | rw [c59b0] | (simp only [i64_w, i32_w]; rw [c59b0]) | skip)
            have H' := Aside0.mk H
            clear H
            go_wp2
            go_meet
            case rel => exact ⟨_, (decide ((wrap64 (a1 - a2)) > 7)), (by first | rfl | (simp; done) | (simp [*]; done)), H', ⟨by have := HJ5.out; first | omega | exact Nat.le_refl _⟩, ⟨by (with_reducible repeat (first | refine blk_drewN ?_ _ | refine blk_drew ?_ | refine blk_alloc ?_ _)); exact BK146.out⟩, ⟨by repeat (first | (with_reducible first | exact HB.out | apply below_alloc | apply pw_below_drewN | apply below_drew1 | refine below_set ?_ GE146.out) | exact HB.out)⟩⟩
          · rw [if_neg c59] at H
            have c59b0 : decide (8 ≤ a1) = false := decide_eq_false c59
            clear c59
            (first | rw [c59b0] | (simp only [i64_w, i32_w]; rw [c59b0]) | skip)
            have H' := Aside0.mk H
            clear H
            go_wp2
            go_meet
            case rel => exact ⟨_, (false), (by first | rfl | (simp; done) | (simp [*]; done)), H', ⟨by have := HJ5.out; first | omega | exact Nat.le_refl _⟩, ⟨by (with_reducible repeat (first | refine blk_drewN ?_ _ | refine blk_drew ?_ | refine blk_alloc ?_ _)); exact BK146.out⟩, ⟨by repeat (first | (with_reducible first | exact HB.out | apply below_alloc | apply pw_below_drewN | apply below_drew1 | refine below_set ?_ GE146.out) | exact HB.out)⟩⟩
        case rest =>
          clear HC58
          try clear c1
          try clear c2
          try clear p2
          try clear c3
          try clear c4
          try clear c5
          try clear c6
          try clear p6
          try clear c8
          try clear c9
          try clear c11
          try clear c12
          try clear c12b0
          try clear c16
          try clear c16b0
          try clear c20
          try clear c20b0
          try clear c24
          try clear c24b0
          try clear c28
          try clear c28b0
          try clear c32
          try clear c32b0
          try clear c36
          try clear c36b0
          try clear c40
          try clear c40b0
          try clear c44
          try clear c44b0
          try clear c48
          try clear c48b0
          try clear c57
          try clear c59
          try clear c59b0
          try clear hcz13_0
          try clear hcz13_1
          try clear hcz13_2
          try clear hcz13_3
          try clear hcz13_4
          try clear hcz15_0
          try clear hcz15_1
          try clear hcz15_2
          try clear hcz15_3
          try clear hcz15_4
          try clear hcz17_0
          try clear hcz17_1
          try clear hcz17_2
          try clear hcz17_3
          try clear hcz17_4
          try clear hcz19_0
          try clear hcz19_1
          try clear hcz19_2
          try clear hcz19_3
          try clear hcz19_4
          try clear hcz21_0
          try clear hcz21_1
          try clear hcz21_2
          try clear hcz21_3
          try clear hcz21_4
          try clear hcz23_0
          try clear hcz23_1
          try clear hcz23_2
          try clear hcz23_3
          try clear hcz23_4
          try clear hcz25_0
          try clear hcz25_1
          try clear hcz25_2
          try clear hcz25_3
          try clear hcz25_4
          try clear hcz27_0
          try clear hcz27_1
          try clear hcz27_2
          try clear hcz27_3
          try clear hcz27_4
          try clear hcz29_0
          try clear hcz29_1
          try clear hcz29_2
          try clear hcz29_3
          try clear hcz29_4
          try clear hcz31_0
          try clear hcz31_1
          try clear hcz31_2
          try clear hcz31_3
          try clear hcz31_4
          try clear hcz33_0
          try clear hcz33_1
          try clear hcz33_2
          try clear hcz33_3
          try clear hcz33_4
          try clear hcz35_0
          try clear hcz35_1
          try clear hcz35_2
          try clear hcz35_3
          try clear hcz35_4
          try clear hcz37_0
          try clear hcz37_1
          try clear hcz37_2
          try clear hcz37_3
          try clear hcz37_4
          try clear hcz39_0
          try clear hcz39_1
          try clear hcz39_2
          try clear hcz39_3
          try clear hcz39_4
          try clear hcz41_0
          try clear hcz41_1
          try clear hcz41_2
          try clear hcz41_3
          try clear hcz41_4
          try clear hcz43_0
          try clear hcz43_1
          try clear hcz43_2
          try clear hcz43_3
          try clear hcz43_4
          try clear hcz45_0
          try clear hcz45_1
          try clear hcz45_2
          try clear hcz45_3
          try clear hcz45_4
          try clear hcz47_0
          try clear hcz47_1
          try clear hcz47_2
          try clear hcz47_3
          try clear hcz47_4
          try clear hcz49_0
          try clear hcz49_1
          try clear hcz49_2
          try clear hcz49_3
          try clear hcz49_4
          try clear hcz51_0
          try clear hcz51_1
          try clear hcz51_2
          try clear hcz51_3
          try clear hcz51_4
          try clear hcz52_0
          try clear hcz52_1
          try clear hcz52_2
          try clear hcz52_3
          try clear hcz52_4
          try clear hcz54_0
          try clear hcz54_1
          try clear hcz54_2
          try clear hcz54_3
          try clear hcz54_4
          try clear hcz55_0
          try clear hcz55_1
          try clear hcz55_2
          try clear hcz55_3
          try clear hcz55_4
          try clear hfz13_0
          try clear hfz13_1
          try clear hfz13_2
          try clear hfz13_3
          try clear hfz13_4
          try clear hfz15_0
          try clear hfz15_1
          try clear hfz15_2
          try clear hfz15_3
          try clear hfz15_4
          try clear hfz17_0
          try clear hfz17_1
          try clear hfz17_2
          try clear hfz17_3
          try clear hfz17_4
          try clear hfz19_0
          try clear hfz19_1
          try clear hfz19_2
          try clear hfz19_3
          try clear hfz19_4
          try clear hfz21_0
          try clear hfz21_1
          try clear hfz21_2
          try clear hfz21_3
          try clear hfz21_4
          try clear hfz23_0
          try clear hfz23_1
          try clear hfz23_2
          try clear hfz23_3
          try clear hfz23_4
          try clear hfz25_0
          try clear hfz25_1
          try clear hfz25_2
          try clear hfz25_3
          try clear hfz25_4
          try clear hfz27_0
          try clear hfz27_1
          try clear hfz27_2
          try clear hfz27_3
          try clear hfz27_4
          try clear hfz29_0
          try clear hfz29_1
          try clear hfz29_2
          try clear hfz29_3
          try clear hfz29_4
          try clear hfz31_0
          try clear hfz31_1
          try clear hfz31_2
          try clear hfz31_3
          try clear hfz31_4
          try clear hfz33_0
          try clear hfz33_1
          try clear hfz33_2
          try clear hfz33_3
          try clear hfz33_4
          try clear hfz35_0
          try clear hfz35_1
          try clear hfz35_2
          try clear hfz35_3
          try clear hfz35_4
          try clear hfz37_0
          try clear hfz37_1
          try clear hfz37_2
          try clear hfz37_3
          try clear hfz37_4
          try clear hfz39_0
          try clear hfz39_1
          try clear hfz39_2
          try clear hfz39_3
          try clear hfz39_4
          try clear hfz41_0
          try clear hfz41_1
          try clear hfz41_2
          try clear hfz41_3
          try clear hfz41_4
          try clear hfz43_0
          try clear hfz43_1
          try clear hfz43_2
          try clear hfz43_3
          try clear hfz43_4
          try clear hfz45_0
          try clear hfz45_1
          try clear hfz45_2
          try clear hfz45_3
          try clear hfz45_4
          try clear hfz47_0
          try clear hfz47_1
          try clear hfz47_2
          try clear hfz47_3
          try clear hfz47_4
          try clear hfz49_0
          try clear hfz49_1
          try clear hfz49_2
          try clear hfz49_3
          try clear hfz49_4
          try clear hfz51_0
          try clear hfz51_1
          try clear hfz51_2
          try clear hfz51_3
          try clear hfz51_4
          try clear hfz52_0
          try clear hfz52_1
          try clear hfz52_2
          try clear hfz52_3
          try clear hfz52_4
          try clear hfz54_0
          try clear hfz54_1
          try clear hfz54_2
          try clear hfz54_3
          try clear hfz54_4
          try clear hfz55_0
          try clear hfz55_1
          try clear hfz55_2
          try clear hfz55_3
          try clear hfz55_4
          try clear p2
          try clear p6
          obtain ⟨kq, x84_57, rfl, HA, HJ57, BK146, HB⟩ := hcut
          cases kq with
          | zero => exact absurd HA.out (by simp [fourinhandlaw10_MarksBack.j1])
          | succ kj57 =>
            have H := HA.out
            clear HA
            simp only [fourinhandlaw10_MarksBack.j1] at H
            by_cases c60 : x84_57 = true
            · subst c60
              have H1 : (some true) = some r := by rw [if_pos rfl] at H; exact H
              clear H
              have H := H1
              clear H1
              obtain rfl := Option.some.inj H
              go_wp2
              go_ret
              exact ⟨by first | rfl | (simp [errW_none, errW_some] <;> rfl) | (simp [*, errW_none, errW_some] <;> rfl), by repeat (first | (with_reducible first | exact HB.out | apply below_alloc | apply pw_below_drewN | apply below_drew1 | refine below_set ?_ GE146.out) | exact HB.out)⟩
            · replace c60 := Bool.eq_false_iff.mpr c60
              subst c60
              have H1 : ((marks_Told.f (wrap64 (a0_0 + a2)) (wrap64 (a0_1 + (wrap64 (a2 * a3)))) a0_2 a0_3 a0_4).bind fun bt150 => ((marks_Heard.f a0_0 a0_1 a0_2 a0_3 a0_4 bt150.1 bt150.2 a1 (wrap64 (a1 * a3))).bind fun bt152 => (if bt152.2.2.2.2.2.2 = 0 then (if bt152.2.2.2.2.2.1 = a2 then (if bt152.1 = (wrap64 (a0_0 + a2)) then (if bt152.2.1 = (wrap64 (a0_1 + (wrap64 (a2 * a3)))) then (some ((wrap64 (bt152.2.2.2.1 - a0_3)) == (wrap64 (a2 * a3)))) else (some false)) else (some false)) else (some false)) else (some false)))) = some r := by rw [if_neg (show ¬ (false = true) by decide)] at H; exact H
              clear H
              have H := H1
              clear H1
              replace H := Option.bind_eq_some_iff.mp H
              obtain ⟨⟨t150, t151⟩, A610, H⟩ := H
              replace H : ((marks_Heard.f a0_0 a0_1 a0_2 a0_3 a0_4 t150 t151 a1 (wrap64 (a1 * a3))).bind fun bt152 => (if bt152.2.2.2.2.2.2 = 0 then (if bt152.2.2.2.2.2.1 = a2 then (if bt152.1 = (wrap64 (a0_0 + a2)) then (if bt152.2.1 = (wrap64 (a0_1 + (wrap64 (a2 * a3)))) then (some ((wrap64 (bt152.2.2.2.1 - a0_3)) == (wrap64 (a2 * a3)))) else (some false)) else (some false)) else (some false)) else (some false))) = some r := H
              have A61 := Aside0.mk A610
              clear A610
              replace H := Option.bind_eq_some_iff.mp H
              obtain ⟨⟨t152, t153, t154, t155, t156, t157, t158⟩, A620, H⟩ := H
              replace H : (if t158 = 0 then (if t157 = a2 then (if t152 = (wrap64 (a0_0 + a2)) then (if t153 = (wrap64 (a0_1 + (wrap64 (a2 * a3)))) then (some ((wrap64 (t155 - a0_3)) == (wrap64 (a2 * a3)))) else (some false)) else (some false)) else (some false)) else (some false)) = some r := H
              have A62 := Aside0.mk A620
              clear A620
              by_cases c63 : t158 = 0
              · rw [if_pos c63] at H
                have c63b0 : (t158 == 0) = true := beq_iff_eq.mpr c63
                have c63b1 : (t158 != 0) = false := bne_eq_false_iff_eq.mpr c63
                clear c63
                by_cases c64 : t157 = a2
                · rw [if_pos c64] at H
                  have c64b0 : (t157 == a2) = true := beq_iff_eq.mpr c64
                  have c64b1 : (t157 != a2) = false := bne_eq_false_iff_eq.mpr c64
                  clear c64
                  by_cases c65 : t152 = (wrap64 (a0_0 + a2))
                  · rw [if_pos c65] at H
                    have c65b0 : (t152 == (wrap64 (a0_0 + a2))) = true := beq_iff_eq.mpr c65
                    have c65b1 : (t152 != (wrap64 (a0_0 + a2))) = false := bne_eq_false_iff_eq.mpr c65
                    clear c65
                    by_cases c66 : t153 = (wrap64 (a0_1 + (wrap64 (a2 * a3))))
                    · rw [if_pos c66] at H
                      have c66b0 : (t153 == (wrap64 (a0_1 + (wrap64 (a2 * a3))))) = true := beq_iff_eq.mpr c66
                      have c66b1 : (t153 != (wrap64 (a0_1 + (wrap64 (a2 * a3))))) = false := bne_eq_false_iff_eq.mpr c66
                      clear c66
                      obtain rfl := Option.some.inj H
                      have hcz67_0 : wc.cell? ⟨gb146, 0, none⟩ = some (.int .i64 a0_0) := (blk_cell BK146.out 0).trans rfl
                      have hcz67_1 : wc.cell? ⟨gb146, 1, none⟩ = some (.int .i64 a0_1) := (blk_cell BK146.out 1).trans rfl
                      have hcz67_2 : wc.cell? ⟨gb146, 2, none⟩ = some (.int .i64 a0_2) := (blk_cell BK146.out 2).trans rfl
                      have hcz67_3 : wc.cell? ⟨gb146, 3, none⟩ = some (.int .i64 a0_3) := (blk_cell BK146.out 3).trans rfl
                      have hcz67_4 : wc.cell? ⟨gb146, 4, none⟩ = some (.int .i64 a0_4) := (blk_cell BK146.out 4).trans rfl
                      have hfz67_0 := blk_frozen BK146.out 0
                      have hfz67_1 := blk_frozen BK146.out 1
                      have hfz67_2 := blk_frozen BK146.out 2
                      have hfz67_3 := blk_frozen BK146.out 3
                      have hfz67_4 := blk_frozen BK146.out 4
                      go_upto_region 9 with (first | ((with_reducible refine gate_dst (N := 10) rfl ?_); refine box_event ?hg (N := 10) ?hd (cs := #[.int .i64 0, .int .i64 0, .int .i64 0, .int .i64 0, .int .i64 0]) (t := 23) ?hr ?_; (case hd => rfl); (case hg => rfl); (case hr => first | (go_simp; done) | (go_simp; rfl)); intro gb149 hg w68 hbox hb; have n0_ := Aside0.mk (blk_below (g := gb146) (o := .cells #[.int .i64 a0_0, .int .i64 a0_1, .int .i64 a0_2, .int .i64 a0_3, .int .i64 a0_4] 23 (0, 0)) (by (with_reducible repeat (first | refine blk_drewN ?_ _ | refine blk_drew ?_ | refine blk_alloc ?_ _)); exact BK146.out) hb); have n1_ := Aside0.mk (below_step (by repeat (first | (with_reducible first | exact HB.out | apply below_alloc | apply pw_below_drewN | apply below_drew1 | refine below_set ?_ GE146.out) | exact HB.out)) hb); have n2_ := Aside0.mk (hbox); have n3_ := Aside0.mk ((by rw [hg]; exact (below_size (by repeat (first | (with_reducible first | exact HB.out | apply below_alloc | apply pw_below_drewN | apply below_drew1 | refine below_set ?_ GE146.out) | exact HB.out))) : w.heap.size ≤ gb149)); have n4_ := Aside0.mk ((by rw [hg]; exact (below_size (by repeat (first | (with_reducible first | exact HB.out | apply below_alloc | apply pw_below_drewN | apply below_drew1 | refine below_set ?_ GE146.out) | exact HB.out))) : w.heap.size ≤ gb149)); have n5_ := Aside0.mk ((by rw [hg]; exact Nat.ne_of_lt (blk_lt (g := gb146) (o := .cells #[.int .i64 a0_0, .int .i64 a0_1, .int .i64 a0_2, .int .i64 a0_3, .int .i64 a0_4] 23 (0, 0)) (by (with_reducible repeat (first | refine blk_drewN ?_ _ | refine blk_drew ?_ | refine blk_alloc ?_ _)); exact BK146.out)) : gb146 ≠ gb149)); have n6_ := Aside0.mk ((by rw [hg]; exact Nat.ne_of_gt (blk_lt (g := gb146) (o := .cells #[.int .i64 a0_0, .int .i64 a0_1, .int .i64 a0_2, .int .i64 a0_3, .int .i64 a0_4] 23 (0, 0)) (by (with_reducible repeat (first | refine blk_drewN ?_ _ | refine blk_drew ?_ | refine blk_alloc ?_ _)); exact BK146.out)) : gb149 ≠ gb146)); clear BK146; clear HB; have BK146 := n0_; have HB := n1_; have BK149 := n2_; have GW149 := n3_; have GE149 := n4_; have NB146_149 := n5_; have NB149_146 := n6_; clear n0_ n1_ n2_ n3_ n4_ n5_ n6_; clear hb hbox hg; have hnb69 := NB149_146.out; have hnc69 := NB146_149.out; have hcz70_0 : w68.cell? ⟨gb149, 0, none⟩ = some (.int .i64 0) := (blk_cell BK149.out 0).trans rfl; have hcz70_1 : w68.cell? ⟨gb149, 1, none⟩ = some (.int .i64 0) := (blk_cell BK149.out 1).trans rfl; have hcz70_2 : w68.cell? ⟨gb149, 2, none⟩ = some (.int .i64 0) := (blk_cell BK149.out 2).trans rfl; have hcz70_3 : w68.cell? ⟨gb149, 3, none⟩ = some (.int .i64 0) := (blk_cell BK149.out 3).trans rfl; have hcz70_4 : w68.cell? ⟨gb149, 4, none⟩ = some (.int .i64 0) := (blk_cell BK149.out 4).trans rfl; have hfz70_0 := blk_frozen BK149.out 0; have hfz70_1 := blk_frozen BK149.out 1; have hfz70_2 := blk_frozen BK149.out 2; have hfz70_3 := blk_frozen BK149.out 3; have hfz70_4 := blk_frozen BK149.out 4; have hcz71_0 : w68.cell? ⟨gb146, 0, none⟩ = some (.int .i64 a0_0) := (blk_cell BK146.out 0).trans rfl; have hcz71_1 : w68.cell? ⟨gb146, 1, none⟩ = some (.int .i64 a0_1) := (blk_cell BK146.out 1).trans rfl; have hcz71_2 : w68.cell? ⟨gb146, 2, none⟩ = some (.int .i64 a0_2) := (blk_cell BK146.out 2).trans rfl; have hcz71_3 : w68.cell? ⟨gb146, 3, none⟩ = some (.int .i64 a0_3) := (blk_cell BK146.out 3).trans rfl; have hcz71_4 : w68.cell? ⟨gb146, 4, none⟩ = some (.int .i64 a0_4) := (blk_cell BK146.out 4).trans rfl; have hfz71_0 := blk_frozen BK146.out 0; have hfz71_1 := blk_frozen BK146.out 1; have hfz71_2 := blk_frozen BK146.out 2; have hfz71_3 := blk_frozen BK146.out 3; have hfz71_4 := blk_frozen BK146.out 4))
                      (try simp only [Act.put, List.setIfInBounds_toArray, List.set_cons_zero, List.set_cons_succ])
                      refine wp_gen_ (fun w' => w'.heap[gb146]? = some (.cells #[.int .i64 a0_0, .int .i64 a0_1, .int .i64 a0_2, .int .i64 a0_3, .int .i64 a0_4] 23 (0, 0)) ∧ w'.heap[gb149]? = some (.cells #[.int .i64 (wrap64 (a0_0 + a2)), .int .i64 (wrap64 (a0_1 + (wrap64 (a2 * a3)))), .int .i64 a0_2, .int .i64 a0_3, .int .i64 a0_4] 23 (0, 0)) ∧ Below w.heap.size w w') ⟨(by (with_reducible repeat (first | refine blk_drewN ?_ _ | refine blk_drew ?_ | refine blk_alloc ?_ _)); refine blk_far ?_ NB146_149.out _; (with_reducible repeat (first | refine blk_drewN ?_ _ | refine blk_drew ?_ | refine blk_alloc ?_ _)); refine blk_far ?_ NB146_149.out _; (with_reducible repeat (first | refine blk_drewN ?_ _ | refine blk_drew ?_ | refine blk_alloc ?_ _)); refine blk_far ?_ NB146_149.out _; (with_reducible repeat (first | refine blk_drewN ?_ _ | refine blk_drew ?_ | refine blk_alloc ?_ _)); refine blk_far ?_ NB146_149.out _; (with_reducible repeat (first | refine blk_drewN ?_ _ | refine blk_drew ?_ | refine blk_alloc ?_ _)); refine blk_far ?_ NB146_149.out _; (with_reducible repeat (first | refine blk_drewN ?_ _ | refine blk_drew ?_ | refine blk_alloc ?_ _)); refine blk_far ?_ NB146_149.out _; (with_reducible repeat (first | refine blk_drewN ?_ _ | refine blk_drew ?_ | refine blk_alloc ?_ _)); refine blk_far ?_ NB146_149.out _; (with_reducible repeat (first | refine blk_drewN ?_ _ | refine blk_drew ?_ | refine blk_alloc ?_ _)); exact BK146.out), (by (with_reducible repeat (first | refine blk_drewN ?_ _ | refine blk_drew ?_ | refine blk_alloc ?_ _)); refine blk_put (cs := #[.int .i64 (wrap64 (a0_0 + a2)), .int .i64 a0_1, .int .i64 a0_2, .int .i64 a0_3, .int .i64 a0_4]) ?_ 1 _ rfl; (with_reducible repeat (first | refine blk_drewN ?_ _ | refine blk_drew ?_ | refine blk_alloc ?_ _)); refine blk_put (cs := #[.int .i64 a0_0, .int .i64 a0_1, .int .i64 a0_2, .int .i64 a0_3, .int .i64 a0_4]) ?_ 0 _ rfl; (with_reducible repeat (first | refine blk_drewN ?_ _ | refine blk_drew ?_ | refine blk_alloc ?_ _)); refine blk_put (cs := #[.int .i64 a0_0, .int .i64 a0_1, .int .i64 a0_2, .int .i64 a0_3, .int .i64 0]) ?_ 4 _ rfl; (with_reducible repeat (first | refine blk_drewN ?_ _ | refine blk_drew ?_ | refine blk_alloc ?_ _)); refine blk_put (cs := #[.int .i64 a0_0, .int .i64 a0_1, .int .i64 a0_2, .int .i64 0, .int .i64 0]) ?_ 3 _ rfl; (with_reducible repeat (first | refine blk_drewN ?_ _ | refine blk_drew ?_ | refine blk_alloc ?_ _)); refine blk_put (cs := #[.int .i64 a0_0, .int .i64 a0_1, .int .i64 0, .int .i64 0, .int .i64 0]) ?_ 2 _ rfl; (with_reducible repeat (first | refine blk_drewN ?_ _ | refine blk_drew ?_ | refine blk_alloc ?_ _)); refine blk_put (cs := #[.int .i64 a0_0, .int .i64 0, .int .i64 0, .int .i64 0, .int .i64 0]) ?_ 1 _ rfl; (with_reducible repeat (first | refine blk_drewN ?_ _ | refine blk_drew ?_ | refine blk_alloc ?_ _)); refine blk_put (cs := #[.int .i64 0, .int .i64 0, .int .i64 0, .int .i64 0, .int .i64 0]) ?_ 0 _ rfl; (with_reducible repeat (first | refine blk_drewN ?_ _ | refine blk_drew ?_ | refine blk_alloc ?_ _)); exact BK149.out), (by repeat (first | (with_reducible first | exact HB.out | apply below_alloc | apply pw_below_drewN | apply below_drew1 | refine below_set ?_ GE146.out | refine below_set ?_ GE149.out) | exact HB.out))⟩ ?_
                      clear HB BK146 BK149
                      rintro wg1 ⟨BK146, BK149, HB⟩
                      replace HB := Aside0.mk HB
                      replace BK146 := Aside0.mk BK146
                      replace BK149 := Aside0.mk BK149
                      have hczg1_gb146_0 : wg1.cell? ⟨gb146, 0, none⟩ = some (.int .i64 a0_0) := (blk_cell BK146.out 0).trans rfl
                      have hfzg1_gb146_0 := blk_frozen BK146.out 0
                      have hczg1_gb146_1 : wg1.cell? ⟨gb146, 1, none⟩ = some (.int .i64 a0_1) := (blk_cell BK146.out 1).trans rfl
                      have hfzg1_gb146_1 := blk_frozen BK146.out 1
                      have hczg1_gb146_2 : wg1.cell? ⟨gb146, 2, none⟩ = some (.int .i64 a0_2) := (blk_cell BK146.out 2).trans rfl
                      have hfzg1_gb146_2 := blk_frozen BK146.out 2
                      have hczg1_gb146_3 : wg1.cell? ⟨gb146, 3, none⟩ = some (.int .i64 a0_3) := (blk_cell BK146.out 3).trans rfl
                      have hfzg1_gb146_3 := blk_frozen BK146.out 3
                      have hczg1_gb146_4 : wg1.cell? ⟨gb146, 4, none⟩ = some (.int .i64 a0_4) := (blk_cell BK146.out 4).trans rfl
                      have hfzg1_gb146_4 := blk_frozen BK146.out 4
                      have hczg1_gb149_0 : wg1.cell? ⟨gb149, 0, none⟩ = some (.int .i64 (wrap64 (a0_0 + a2))) := (blk_cell BK149.out 0).trans rfl
                      have hfzg1_gb149_0 := blk_frozen BK149.out 0
                      have hczg1_gb149_1 : wg1.cell? ⟨gb149, 1, none⟩ = some (.int .i64 (wrap64 (a0_1 + (wrap64 (a2 * a3))))) := (blk_cell BK149.out 1).trans rfl
                      have hfzg1_gb149_1 := blk_frozen BK149.out 1
                      have hczg1_gb149_2 : wg1.cell? ⟨gb149, 2, none⟩ = some (.int .i64 a0_2) := (blk_cell BK149.out 2).trans rfl
                      have hfzg1_gb149_2 := blk_frozen BK149.out 2
                      have hczg1_gb149_3 : wg1.cell? ⟨gb149, 3, none⟩ = some (.int .i64 a0_3) := (blk_cell BK149.out 3).trans rfl
                      have hfzg1_gb149_3 := blk_frozen BK149.out 3
                      have hczg1_gb149_4 : wg1.cell? ⟨gb149, 4, none⟩ = some (.int .i64 a0_4) := (blk_cell BK149.out 4).trans rfl
                      have hfzg1_gb149_4 := blk_frozen BK149.out 4
                      try clear hcz70_0
                      try clear hcz70_1
                      try clear hcz70_2
                      try clear hcz70_3
                      try clear hcz70_4
                      try clear hcz71_0
                      try clear hcz71_1
                      try clear hcz71_2
                      try clear hcz71_3
                      try clear hcz71_4
                      try clear hfz70_0
                      try clear hfz70_1
                      try clear hfz70_2
                      try clear hfz70_3
                      try clear hfz70_4
                      try clear hfz71_0
                      try clear hfz71_1
                      try clear hfz71_2
                      try clear hfz71_3
                      try clear hfz71_4
                      go_upto_region 10 with (first | ((with_reducible refine gate_callee (f := 13) rfl ?_); refine goesL_ (some 100) rfl rfl Try.func13 (by kernel_rfl) rfl #[.agg #[.int .i64 (wrap64 (a0_0 + a2)), .int .i64 (wrap64 (a0_1 + (wrap64 (a2 * a3)))), .int .i64 a0_2, .int .i64 a0_3, .int .i64 a0_4]] rfl (by (try simp only [List.map_toArray, List.map_cons, List.map_nil]); first | done | rfl | (simp only [List.length_drop, List.length_take]; rfl)) ?_; (with_reducible refine (marks_Told.calls (wrap64 (a0_0 + a2)) (wrap64 (a0_1 + (wrap64 (a2 * a3)))) a0_2 a0_3 a0_4 t150 t151 _ A61.out).mono ?_); rintro e w72 ⟨rfl, hb⟩; refine ⟨_, rfl, ?_⟩; have n0_ := Aside0.mk (blk_below (g := gb146) (o := .cells #[.int .i64 a0_0, .int .i64 a0_1, .int .i64 a0_2, .int .i64 a0_3, .int .i64 a0_4] 23 (0, 0)) BK146.out hb); have n1_ := Aside0.mk (blk_below (g := gb149) (o := .cells #[.int .i64 (wrap64 (a0_0 + a2)), .int .i64 (wrap64 (a0_1 + (wrap64 (a2 * a3)))), .int .i64 a0_2, .int .i64 a0_3, .int .i64 a0_4] 23 (0, 0)) BK149.out hb); have n2_ := Aside0.mk (below_step (by repeat (first | (with_reducible first | exact HB.out | apply below_alloc | apply pw_below_drewN | apply below_drew1 | refine below_set ?_ GE146.out | refine below_set ?_ GE149.out) | exact HB.out)) hb); clear BK146; clear BK149; clear HB; have BK146 := n0_; have BK149 := n1_; have HB := n2_; clear n0_ n1_ n2_; (try clear hb); (try clear hb2); (try clear hk); (try clear hi); have hcz73_0 : w72.cell? ⟨gb146, 0, none⟩ = some (.int .i64 a0_0) := (blk_cell BK146.out 0).trans rfl; have hcz73_1 : w72.cell? ⟨gb146, 1, none⟩ = some (.int .i64 a0_1) := (blk_cell BK146.out 1).trans rfl; have hcz73_2 : w72.cell? ⟨gb146, 2, none⟩ = some (.int .i64 a0_2) := (blk_cell BK146.out 2).trans rfl; have hcz73_3 : w72.cell? ⟨gb146, 3, none⟩ = some (.int .i64 a0_3) := (blk_cell BK146.out 3).trans rfl; have hcz73_4 : w72.cell? ⟨gb146, 4, none⟩ = some (.int .i64 a0_4) := (blk_cell BK146.out 4).trans rfl; have hfz73_0 := blk_frozen BK146.out 0; have hfz73_1 := blk_frozen BK146.out 1; have hfz73_2 := blk_frozen BK146.out 2; have hfz73_3 := blk_frozen BK146.out 3; have hfz73_4 := blk_frozen BK146.out 4))
                      (try simp only [Act.put, List.setIfInBounds_toArray, List.set_cons_zero, List.set_cons_succ])
                      refine wp_gen_ (fun w' => w'.heap[gb146]? = some (.cells #[.int .i64 a0_0, .int .i64 a0_1, .int .i64 a0_2, .int .i64 a0_3, .int .i64 a0_4] 23 (0, 0)) ∧ w'.heap[gb149]? = some (.cells #[.int .i64 (wrap64 (a0_0 + a2)), .int .i64 (wrap64 (a0_1 + (wrap64 (a2 * a3)))), .int .i64 a0_2, .int .i64 a0_3, .int .i64 a0_4] 23 (0, 0)) ∧ Below w.heap.size w w') ⟨(by (with_reducible repeat (first | refine blk_drewN ?_ _ | refine blk_drew ?_ | refine blk_alloc ?_ _)); exact BK146.out), (by (with_reducible repeat (first | refine blk_drewN ?_ _ | refine blk_drew ?_ | refine blk_alloc ?_ _)); exact BK149.out), (by repeat (first | (with_reducible first | exact HB.out | apply below_alloc | apply pw_below_drewN | apply below_drew1 | refine below_set ?_ GE146.out | refine below_set ?_ GE149.out) | exact HB.out))⟩ ?_
                      clear HB BK146 BK149
                      rintro wg2 ⟨BK146, BK149, HB⟩
                      replace HB := Aside0.mk HB
                      replace BK146 := Aside0.mk BK146
                      replace BK149 := Aside0.mk BK149
                      have hczg2_gb146_0 : wg2.cell? ⟨gb146, 0, none⟩ = some (.int .i64 a0_0) := (blk_cell BK146.out 0).trans rfl
                      have hfzg2_gb146_0 := blk_frozen BK146.out 0
                      have hczg2_gb146_1 : wg2.cell? ⟨gb146, 1, none⟩ = some (.int .i64 a0_1) := (blk_cell BK146.out 1).trans rfl
                      have hfzg2_gb146_1 := blk_frozen BK146.out 1
                      have hczg2_gb146_2 : wg2.cell? ⟨gb146, 2, none⟩ = some (.int .i64 a0_2) := (blk_cell BK146.out 2).trans rfl
                      have hfzg2_gb146_2 := blk_frozen BK146.out 2
                      have hczg2_gb146_3 : wg2.cell? ⟨gb146, 3, none⟩ = some (.int .i64 a0_3) := (blk_cell BK146.out 3).trans rfl
                      have hfzg2_gb146_3 := blk_frozen BK146.out 3
                      have hczg2_gb146_4 : wg2.cell? ⟨gb146, 4, none⟩ = some (.int .i64 a0_4) := (blk_cell BK146.out 4).trans rfl
                      have hfzg2_gb146_4 := blk_frozen BK146.out 4
                      have hczg2_gb149_0 : wg2.cell? ⟨gb149, 0, none⟩ = some (.int .i64 (wrap64 (a0_0 + a2))) := (blk_cell BK149.out 0).trans rfl
                      have hfzg2_gb149_0 := blk_frozen BK149.out 0
                      have hczg2_gb149_1 : wg2.cell? ⟨gb149, 1, none⟩ = some (.int .i64 (wrap64 (a0_1 + (wrap64 (a2 * a3))))) := (blk_cell BK149.out 1).trans rfl
                      have hfzg2_gb149_1 := blk_frozen BK149.out 1
                      have hczg2_gb149_2 : wg2.cell? ⟨gb149, 2, none⟩ = some (.int .i64 a0_2) := (blk_cell BK149.out 2).trans rfl
                      have hfzg2_gb149_2 := blk_frozen BK149.out 2
                      have hczg2_gb149_3 : wg2.cell? ⟨gb149, 3, none⟩ = some (.int .i64 a0_3) := (blk_cell BK149.out 3).trans rfl
                      have hfzg2_gb149_3 := blk_frozen BK149.out 3
                      have hczg2_gb149_4 : wg2.cell? ⟨gb149, 4, none⟩ = some (.int .i64 a0_4) := (blk_cell BK149.out 4).trans rfl
                      have hfzg2_gb149_4 := blk_frozen BK149.out 4
                      try clear hcz73_0
                      try clear hcz73_1
                      try clear hcz73_2
                      try clear hcz73_3
                      try clear hcz73_4
                      try clear hczg1_gb146_0
                      try clear hczg1_gb146_1
                      try clear hczg1_gb146_2
                      try clear hczg1_gb146_3
                      try clear hczg1_gb146_4
                      try clear hczg1_gb149_0
                      try clear hczg1_gb149_1
                      try clear hczg1_gb149_2
                      try clear hczg1_gb149_3
                      try clear hczg1_gb149_4
                      try clear hfz73_0
                      try clear hfz73_1
                      try clear hfz73_2
                      try clear hfz73_3
                      try clear hfz73_4
                      try clear hfzg1_gb146_0
                      try clear hfzg1_gb146_1
                      try clear hfzg1_gb146_2
                      try clear hfzg1_gb146_3
                      try clear hfzg1_gb146_4
                      try clear hfzg1_gb149_0
                      try clear hfzg1_gb149_1
                      try clear hfzg1_gb149_2
                      try clear hfzg1_gb149_3
                      try clear hfzg1_gb149_4
                      go_wp2_with (first | ((with_reducible refine gate_callee (f := 10) rfl ?_); refine goesL_ (some 111) rfl rfl Try.func10 (by kernel_rfl) rfl #[.agg #[.int .i64 a0_0, .int .i64 a0_1, .int .i64 a0_2, .int .i64 a0_3, .int .i64 a0_4], .int .i64 t150, .int .u32 t151, .int .i64 a1, .int .i64 (wrap64 (a1 * a3))] rfl (by (try simp only [List.map_toArray, List.map_cons, List.map_nil]); first | done | rfl | (simp only [List.length_drop, List.length_take]; rfl)) ?_; (with_reducible refine (marks_Heard.calls a0_0 a0_1 a0_2 a0_3 a0_4 t150 t151 a1 (wrap64 (a1 * a3)) t152 t153 t154 t155 t156 t157 t158 _ A62.out).mono ?_); rintro e w74 ⟨rfl, hb⟩; refine ⟨_, rfl, ?_⟩; have n0_ := Aside0.mk (blk_below (g := gb146) (o := .cells #[.int .i64 a0_0, .int .i64 a0_1, .int .i64 a0_2, .int .i64 a0_3, .int .i64 a0_4] 23 (0, 0)) BK146.out hb); have n1_ := Aside0.mk (blk_below (g := gb149) (o := .cells #[.int .i64 (wrap64 (a0_0 + a2)), .int .i64 (wrap64 (a0_1 + (wrap64 (a2 * a3)))), .int .i64 a0_2, .int .i64 a0_3, .int .i64 a0_4] 23 (0, 0)) BK149.out hb); have n2_ := Aside0.mk (below_step (by repeat (first | (with_reducible first | exact HB.out | apply below_alloc | apply pw_below_drewN | apply below_drew1 | refine below_set ?_ GE146.out | refine below_set ?_ GE149.out) | exact HB.out)) hb); clear BK146; clear BK149; clear HB; have BK146 := n0_; have BK149 := n1_; have HB := n2_; clear n0_ n1_ n2_; (try clear hb); (try clear hb2); (try clear hk); (try clear hi)) | ((with_reducible refine gate_dst (N := 13) rfl ?_); refine box_event ?hg (N := 13) ?hd (cs := #[.int .i64 0, .int .i64 0, .int .i64 0, .int .i64 0, .int .i64 0]) (t := 23) ?hr ?_; (case hd => rfl); (case hg => rfl); (case hr => first | (go_simp; done) | (go_simp; rfl)); intro gb159 hg w75 hbox hb; have n0_ := Aside0.mk (blk_below (g := gb146) (o := .cells #[.int .i64 a0_0, .int .i64 a0_1, .int .i64 a0_2, .int .i64 a0_3, .int .i64 a0_4] 23 (0, 0)) (by (with_reducible repeat (first | refine blk_drewN ?_ _ | refine blk_drew ?_ | refine blk_alloc ?_ _)); exact BK146.out) hb); have n1_ := Aside0.mk (blk_below (g := gb149) (o := .cells #[.int .i64 (wrap64 (a0_0 + a2)), .int .i64 (wrap64 (a0_1 + (wrap64 (a2 * a3)))), .int .i64 a0_2, .int .i64 a0_3, .int .i64 a0_4] 23 (0, 0)) (by (with_reducible repeat (first | refine blk_drewN ?_ _ | refine blk_drew ?_ | refine blk_alloc ?_ _)); exact BK149.out) hb); have n2_ := Aside0.mk (below_step (by repeat (first | (with_reducible first | exact HB.out | apply below_alloc | apply pw_below_drewN | apply below_drew1 | refine below_set ?_ GE146.out | refine below_set ?_ GE149.out) | exact HB.out)) hb); have n3_ := Aside0.mk (hbox); have n4_ := Aside0.mk ((by rw [hg]; exact (below_size (by repeat (first | (with_reducible first | exact HB.out | apply below_alloc | apply pw_below_drewN | apply below_drew1 | refine below_set ?_ GE146.out | refine below_set ?_ GE149.out) | exact HB.out))) : w.heap.size ≤ gb159)); have n5_ := Aside0.mk ((by rw [hg]; exact (below_size (by repeat (first | (with_reducible first | exact HB.out | apply below_alloc | apply pw_below_drewN | apply below_drew1 | refine below_set ?_ GE146.out | refine below_set ?_ GE149.out) | exact HB.out))) : w.heap.size ≤ gb159)); have n6_ := Aside0.mk ((by rw [hg]; exact Nat.ne_of_lt (blk_lt (g := gb146) (o := .cells #[.int .i64 a0_0, .int .i64 a0_1, .int .i64 a0_2, .int .i64 a0_3, .int .i64 a0_4] 23 (0, 0)) (by (with_reducible repeat (first | refine blk_drewN ?_ _ | refine blk_drew ?_ | refine blk_alloc ?_ _)); exact BK146.out)) : gb146 ≠ gb159)); have n7_ := Aside0.mk ((by rw [hg]; exact Nat.ne_of_gt (blk_lt (g := gb146) (o := .cells #[.int .i64 a0_0, .int .i64 a0_1, .int .i64 a0_2, .int .i64 a0_3, .int .i64 a0_4] 23 (0, 0)) (by (with_reducible repeat (first | refine blk_drewN ?_ _ | refine blk_drew ?_ | refine blk_alloc ?_ _)); exact BK146.out)) : gb159 ≠ gb146)); have n8_ := Aside0.mk ((by rw [hg]; exact Nat.ne_of_lt (blk_lt (g := gb149) (o := .cells #[.int .i64 (wrap64 (a0_0 + a2)), .int .i64 (wrap64 (a0_1 + (wrap64 (a2 * a3)))), .int .i64 a0_2, .int .i64 a0_3, .int .i64 a0_4] 23 (0, 0)) (by (with_reducible repeat (first | refine blk_drewN ?_ _ | refine blk_drew ?_ | refine blk_alloc ?_ _)); exact BK149.out)) : gb149 ≠ gb159)); have n9_ := Aside0.mk ((by rw [hg]; exact Nat.ne_of_gt (blk_lt (g := gb149) (o := .cells #[.int .i64 (wrap64 (a0_0 + a2)), .int .i64 (wrap64 (a0_1 + (wrap64 (a2 * a3)))), .int .i64 a0_2, .int .i64 a0_3, .int .i64 a0_4] 23 (0, 0)) (by (with_reducible repeat (first | refine blk_drewN ?_ _ | refine blk_drew ?_ | refine blk_alloc ?_ _)); exact BK149.out)) : gb159 ≠ gb149)); clear BK146; clear BK149; clear HB; have BK146 := n0_; have BK149 := n1_; have HB := n2_; have BK159 := n3_; have GW159 := n4_; have GE159 := n5_; have NB146_159 := n6_; have NB159_146 := n7_; have NB149_159 := n8_; have NB159_149 := n9_; clear n0_ n1_ n2_ n3_ n4_ n5_ n6_ n7_ n8_ n9_; clear hb hbox hg; have hnb76 := NB159_146.out; have hnc76 := NB146_159.out; have hnb77 := NB159_149.out; have hnc77 := NB149_159.out; have hcz78_0 : w75.cell? ⟨gb159, 0, none⟩ = some (.int .i64 0) := (blk_cell BK159.out 0).trans rfl; have hcz78_1 : w75.cell? ⟨gb159, 1, none⟩ = some (.int .i64 0) := (blk_cell BK159.out 1).trans rfl; have hcz78_2 : w75.cell? ⟨gb159, 2, none⟩ = some (.int .i64 0) := (blk_cell BK159.out 2).trans rfl; have hcz78_3 : w75.cell? ⟨gb159, 3, none⟩ = some (.int .i64 0) := (blk_cell BK159.out 3).trans rfl; have hcz78_4 : w75.cell? ⟨gb159, 4, none⟩ = some (.int .i64 0) := (blk_cell BK159.out 4).trans rfl; have hfz78_0 := blk_frozen BK159.out 0; have hfz78_1 := blk_frozen BK159.out 1; have hfz78_2 := blk_frozen BK159.out 2; have hfz78_3 := blk_frozen BK159.out 3; have hfz78_4 := blk_frozen BK159.out 4; have hcz79_0 : w75.cell? ⟨gb149, 0, none⟩ = some (.int .i64 (wrap64 (a0_0 + a2))) := (blk_cell BK149.out 0).trans rfl; have hcz79_1 : w75.cell? ⟨gb149, 1, none⟩ = some (.int .i64 (wrap64 (a0_1 + (wrap64 (a2 * a3))))) := (blk_cell BK149.out 1).trans rfl; have hcz79_2 : w75.cell? ⟨gb149, 2, none⟩ = some (.int .i64 a0_2) := (blk_cell BK149.out 2).trans rfl; have hcz79_3 : w75.cell? ⟨gb149, 3, none⟩ = some (.int .i64 a0_3) := (blk_cell BK149.out 3).trans rfl; have hcz79_4 : w75.cell? ⟨gb149, 4, none⟩ = some (.int .i64 a0_4) := (blk_cell BK149.out 4).trans rfl; have hfz79_0 := blk_frozen BK149.out 0; have hfz79_1 := blk_frozen BK149.out 1; have hfz79_2 := blk_frozen BK149.out 2; have hfz79_3 := blk_frozen BK149.out 3; have hfz79_4 := blk_frozen BK149.out 4; have hcz80_0 : w75.cell? ⟨gb146, 0, none⟩ = some (.int .i64 a0_0) := (blk_cell BK146.out 0).trans rfl; have hcz80_1 : w75.cell? ⟨gb146, 1, none⟩ = some (.int .i64 a0_1) := (blk_cell BK146.out 1).trans rfl; have hcz80_2 : w75.cell? ⟨gb146, 2, none⟩ = some (.int .i64 a0_2) := (blk_cell BK146.out 2).trans rfl; have hcz80_3 : w75.cell? ⟨gb146, 3, none⟩ = some (.int .i64 a0_3) := (blk_cell BK146.out 3).trans rfl; have hcz80_4 : w75.cell? ⟨gb146, 4, none⟩ = some (.int .i64 a0_4) := (blk_cell BK146.out 4).trans rfl; have hfz80_0 := blk_frozen BK146.out 0; have hfz80_1 := blk_frozen BK146.out 1; have hfz80_2 := blk_frozen BK146.out 2; have hfz80_3 := blk_frozen BK146.out 3; have hfz80_4 := blk_frozen BK146.out 4))
                      go_ret
                      exact ⟨by first | rfl | (simp [errW_none, errW_some] <;> rfl) | (simp [*, errW_none, errW_some] <;> rfl), by repeat (first | (with_reducible first | exact HB.out | apply below_alloc | apply pw_below_drewN | apply below_drew1 | refine below_set ?_ GE146.out | refine below_set ?_ GE149.out | refine below_set ?_ GE159.out) | exact HB.out)⟩
                    · rw [if_neg c66] at H
                      have c66b0 : (t153 == (wrap64 (a0_1 + (wrap64 (a2 * a3))))) = false := beq_eq_false_iff_ne.mpr c66
                      have c66b1 : (t153 != (wrap64 (a0_1 + (wrap64 (a2 * a3))))) = true := bne_iff_ne.mpr c66
                      exact Bool.noConfusion ((Option.some.inj H).trans hr_.out)
                  · rw [if_neg c65] at H
                    have c65b0 : (t152 == (wrap64 (a0_0 + a2))) = false := beq_eq_false_iff_ne.mpr c65
                    have c65b1 : (t152 != (wrap64 (a0_0 + a2))) = true := bne_iff_ne.mpr c65
                    exact Bool.noConfusion ((Option.some.inj H).trans hr_.out)
                · rw [if_neg c64] at H
                  have c64b0 : (t157 == a2) = false := beq_eq_false_iff_ne.mpr c64
                  have c64b1 : (t157 != a2) = true := bne_iff_ne.mpr c64
                  exact Bool.noConfusion ((Option.some.inj H).trans hr_.out)
              · rw [if_neg c63] at H
                have c63b0 : (t158 == 0) = false := beq_eq_false_iff_ne.mpr c63
                have c63b1 : (t158 != 0) = true := bne_iff_ne.mpr c63
                exact Bool.noConfusion ((Option.some.inj H).trans hr_.out)

end Go.Proofs.Ythklaiedabekjaa.PMarksBack
