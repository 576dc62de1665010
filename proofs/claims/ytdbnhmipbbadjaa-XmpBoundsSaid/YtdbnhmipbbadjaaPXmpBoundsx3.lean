-- Written by a program of this session (wip/hprint.py), over the kit's print.py: the walk of one law. Lean checks it.
import Derived.Test.YtdbnhmipbbadjaaPXmpBoundsx0
import Derived.Test.YtdbnhmipbbadjaaPXmpBoundsx2
namespace Go.Proofs.Ytdbnhmipbbadjaa.PXmpBounds
open Go.RowKit Go.Proofs.YtdbnhmipbbadjaaW.PrintWords Go.Proofs.YtdbnhmipbbadjaaW.PrintLast Go.Proofs.YtdbnhmipbbadjaaW.PrintMore
attribute [local go_sem] max2_int min2_int max_two min_two max_three min_three max_four min_four   -- for this text's walks alone
set_option linter.unusedVariables false
set_option linter.unusedSimpArgs false

/-! ### fourinhandlaw15_XmpBounds: function 8 -/
mutual
def fourinhandlaw15_XmpBounds.j0 : Nat → Int → Bool → Int → Int → Bool → Bool → Int → Int → Option (Bool)
  | 0, _, _, _, _, _, _, _, _ => none
  | k + 1, x1, x2, x3, x4, x11, x29, x148000, x148001 => if x29 = true then (some x11) else ((xmp_Slow.f x148000 x148001 x1 x3 x4).bind fun bt150 => ((xmp_Round.f x148000 x148001 x1 x3 x4).bind fun bt154 => ((xmp_Cut.f x148000 x148001 x1 x3 x4).bind fun bt158 => ((xmp_Loss.f x148000 x148001 x2 x3 x4).bind fun bt162 => (if bt150.2.2 = 0 then ((xmp_May.f bt150.1 bt150.2.1 x3 x4).bind fun t166 => (if t166 = true then (if bt150.1 < x148000 then (fourinhandlaw15_XmpBounds.j1 k x1 x2 x3 x4 bt154.2.2 bt158.2.2 bt162.2.2 true x148000 x148001 bt154.1 bt154.2.1 bt158.1 bt158.2.1 bt162.1 bt162.2.1) else (if bt150.1 > x148000 then (if bt150.1 > x148001 then (fourinhandlaw15_XmpBounds.j1 k x1 x2 x3 x4 bt154.2.2 bt158.2.2 bt162.2.2 true x148000 x148001 bt154.1 bt154.2.1 bt158.1 bt158.2.1 bt162.1 bt162.2.1) else (fourinhandlaw15_XmpBounds.j1 k x1 x2 x3 x4 bt154.2.2 bt158.2.2 bt162.2.2 (bt150.2.1 != x148001) x148000 x148001 bt154.1 bt154.2.1 bt158.1 bt158.2.1 bt162.1 bt162.2.1)) else (fourinhandlaw15_XmpBounds.j1 k x1 x2 x3 x4 bt154.2.2 bt158.2.2 bt162.2.2 (bt150.2.1 != x148001) x148000 x148001 bt154.1 bt154.2.1 bt158.1 bt158.2.1 bt162.1 bt162.2.1))) else (fourinhandlaw15_XmpBounds.j1 k x1 x2 x3 x4 bt154.2.2 bt158.2.2 bt162.2.2 true x148000 x148001 bt154.1 bt154.2.1 bt158.1 bt158.2.1 bt162.1 bt162.2.1))) else (fourinhandlaw15_XmpBounds.j1 k x1 x2 x3 x4 bt154.2.2 bt158.2.2 bt162.2.2 false x148000 x148001 bt154.1 bt154.2.1 bt158.1 bt158.2.1 bt162.1 bt162.2.1))))))
def fourinhandlaw15_XmpBounds.j1 : Nat → Int → Bool → Int → Int → Int → Int → Int → Bool → Int → Int → Int → Int → Int → Int → Int → Int → Option (Bool)
  | 0, _, _, _, _, _, _, _, _, _, _, _, _, _, _, _, _ => none
  | k + 1, x1, x2, x3, x4, x15, x17, x19, x99, x148000, x148001, x158000, x158001, x162000, x162001, x166000, x166001 => if x99 = true then (some false) else (if x15 = 0 then ((xmp_May.f x158000 x158001 x3 x4).bind fun t167 => (if t167 = true then (if x158000 < x148000 then (fourinhandlaw15_XmpBounds.j2 k x1 x2 x3 x4 x17 x19 true x148000 x148001 x162000 x162001 x166000 x166001) else (if (wrap64 (x158000 - x148000)) > x3 then (fourinhandlaw15_XmpBounds.j2 k x1 x2 x3 x4 x17 x19 true x148000 x148001 x162000 x162001 x166000 x166001) else (fourinhandlaw15_XmpBounds.j2 k x1 x2 x3 x4 x17 x19 (x158001 != x148001) x148000 x148001 x162000 x162001 x166000 x166001))) else (fourinhandlaw15_XmpBounds.j2 k x1 x2 x3 x4 x17 x19 true x148000 x148001 x162000 x162001 x166000 x166001))) else (fourinhandlaw15_XmpBounds.j2 k x1 x2 x3 x4 x17 x19 false x148000 x148001 x162000 x162001 x166000 x166001))
def fourinhandlaw15_XmpBounds.j2 : Nat → Int → Bool → Int → Int → Int → Int → Bool → Int → Int → Int → Int → Int → Int → Option (Bool)
  | 0, _, _, _, _, _, _, _, _, _, _, _, _, _ => none
  | k + 1, x1, x2, x3, x4, x17, x19, x131, x148000, x148001, x162000, x162001, x166000, x166001 => if x131 = true then (some false) else (if x17 = 0 then ((xmp_May.f x162000 x162001 x3 x4).bind fun t168 => (if t168 = true then (if x162000 > x148000 then (some false) else (if (wrap64 (2 * x162000)) < x148000 then (some false) else (if x1 = 0 then (if x162000 = x148000 then (if x19 = 0 then ((xmp_May.f x166000 x166001 x3 x4).bind fun t169 => (if t169 = true then (if x2 = true then (if x166000 = x3 then (some (decide (x166000 ≤ x166001))) else (some false)) else (some (decide (x166000 ≤ x166001)))) else (some false))) else (some false)) else (some false)) else (if x19 = 0 then ((xmp_May.f x166000 x166001 x3 x4).bind fun t170 => (if t170 = true then (if x2 = true then (if x166000 = x3 then (some (decide (x166000 ≤ x166001))) else (some false)) else (some (decide (x166000 ≤ x166001)))) else (some false))) else (some false))))) else (some false))) else (if x19 = 0 then ((xmp_May.f x166000 x166001 x3 x4).bind fun t171 => (if t171 = true then (if x2 = true then (if x166000 = x3 then (some (decide (x166000 ≤ x166001))) else (some false)) else (some (decide (x166000 ≤ x166001)))) else (some false))) else (some false)))
end
def fourinhandlaw15_XmpBounds.f (k : Nat) (a0_0 : Int) (a0_1 : Int) (a1 : Int) (a2 : Bool) (a3 : Int) (a4 : Int) : Option (Bool) := (fourinhandlaw15_awake.f k).bind fun t148 => (if t148 = true then ((xmp_May.f a0_0 a0_1 a3 a4).bind fun t149 => (fourinhandlaw15_XmpBounds.j0 k a1 a2 a3 a4 t148 (!t149) a0_0 a0_1)) else (fourinhandlaw15_XmpBounds.j0 k a1 a2 a3 a4 t148 true a0_0 a0_1))
theorem fourinhandlaw15_XmpBounds.mono_l : ∀ k, (∀ y0 y1 y2 y3 y4 y5 y6 y7, LeO (fourinhandlaw15_XmpBounds.j0 k y0 y1 y2 y3 y4 y5 y6 y7) (fourinhandlaw15_XmpBounds.j0 (k + 1) y0 y1 y2 y3 y4 y5 y6 y7)) ∧ (∀ y0 y1 y2 y3 y4 y5 y6 y7 y8 y9 y10 y11 y12 y13 y14 y15, LeO (fourinhandlaw15_XmpBounds.j1 k y0 y1 y2 y3 y4 y5 y6 y7 y8 y9 y10 y11 y12 y13 y14 y15) (fourinhandlaw15_XmpBounds.j1 (k + 1) y0 y1 y2 y3 y4 y5 y6 y7 y8 y9 y10 y11 y12 y13 y14 y15)) ∧ (∀ y0 y1 y2 y3 y4 y5 y6 y7 y8 y9 y10 y11 y12, LeO (fourinhandlaw15_XmpBounds.j2 k y0 y1 y2 y3 y4 y5 y6 y7 y8 y9 y10 y11 y12) (fourinhandlaw15_XmpBounds.j2 (k + 1) y0 y1 y2 y3 y4 y5 y6 y7 y8 y9 y10 y11 y12))
  | 0 => ⟨fun _ _ _ _ _ _ _ _ r h => by simp [fourinhandlaw15_XmpBounds.j0] at h, fun _ _ _ _ _ _ _ _ _ _ _ _ _ _ _ _ r h => by simp [fourinhandlaw15_XmpBounds.j1] at h, fun _ _ _ _ _ _ _ _ _ _ _ _ _ r h => by simp [fourinhandlaw15_XmpBounds.j2] at h⟩
  | k + 1 => by
    obtain ⟨ih0, ih1, ih2⟩ := fourinhandlaw15_XmpBounds.mono_l k
    refine ⟨?_, ?_, ?_⟩
    · intro y0 y1 y2 y3 y4 y5 y6 y7
      unfold fourinhandlaw15_XmpBounds.j0
      repeat' first
      | (with_reducible exact ih0 _ _ _ _ _ _ _ _)
      | (with_reducible exact ih1 _ _ _ _ _ _ _ _ _ _ _ _ _ _ _ _)
      | (with_reducible exact ih2 _ _ _ _ _ _ _ _ _ _ _ _ _)
      | (with_reducible exact fourinhandlaw15_awake.mono _)
      | (with_reducible exact LeO.refl _)
      | (with_reducible exact LeO.none _)
      | (with_reducible refine LeO.ite ?_ ?_)
      | (with_reducible refine LeO.bind ?_ (fun _ => ?_))
      | exact ih0 _ _ _ _ _ _ _ _
      | exact ih1 _ _ _ _ _ _ _ _ _ _ _ _ _ _ _ _
      | exact ih2 _ _ _ _ _ _ _ _ _ _ _ _ _
      | exact fourinhandlaw15_awake.mono _
      | exact LeO.none _
      | refine LeO.ite ?_ ?_
      | refine LeO.bind ?_ (fun _ => ?_)
    · intro y0 y1 y2 y3 y4 y5 y6 y7 y8 y9 y10 y11 y12 y13 y14 y15
      unfold fourinhandlaw15_XmpBounds.j1
      repeat' first
      | (with_reducible exact ih0 _ _ _ _ _ _ _ _)
      | (with_reducible exact ih1 _ _ _ _ _ _ _ _ _ _ _ _ _ _ _ _)
      | (with_reducible exact ih2 _ _ _ _ _ _ _ _ _ _ _ _ _)
      | (with_reducible exact fourinhandlaw15_awake.mono _)
      | (with_reducible exact LeO.refl _)
      | (with_reducible exact LeO.none _)
      | (with_reducible refine LeO.ite ?_ ?_)
      | (with_reducible refine LeO.bind ?_ (fun _ => ?_))
      | exact ih0 _ _ _ _ _ _ _ _
      | exact ih1 _ _ _ _ _ _ _ _ _ _ _ _ _ _ _ _
      | exact ih2 _ _ _ _ _ _ _ _ _ _ _ _ _
      | exact fourinhandlaw15_awake.mono _
      | exact LeO.none _
      | refine LeO.ite ?_ ?_
      | refine LeO.bind ?_ (fun _ => ?_)
    · intro y0 y1 y2 y3 y4 y5 y6 y7 y8 y9 y10 y11 y12
      unfold fourinhandlaw15_XmpBounds.j2
      repeat' first
      | (with_reducible exact ih0 _ _ _ _ _ _ _ _)
      | (with_reducible exact ih1 _ _ _ _ _ _ _ _ _ _ _ _ _ _ _ _)
      | (with_reducible exact ih2 _ _ _ _ _ _ _ _ _ _ _ _ _)
      | (with_reducible exact fourinhandlaw15_awake.mono _)
      | (with_reducible exact LeO.refl _)
      | (with_reducible exact LeO.none _)
      | (with_reducible refine LeO.ite ?_ ?_)
      | (with_reducible refine LeO.bind ?_ (fun _ => ?_))
      | exact ih0 _ _ _ _ _ _ _ _
      | exact ih1 _ _ _ _ _ _ _ _ _ _ _ _ _ _ _ _
      | exact ih2 _ _ _ _ _ _ _ _ _ _ _ _ _
      | exact fourinhandlaw15_awake.mono _
      | exact LeO.none _
      | refine LeO.ite ?_ ?_
      | refine LeO.bind ?_ (fun _ => ?_)
theorem fourinhandlaw15_XmpBounds.mono : ∀ a0 a1 a2 a3 a4 a5 k, LeO (fourinhandlaw15_XmpBounds.f k a0 a1 a2 a3 a4 a5) (fourinhandlaw15_XmpBounds.f (k + 1) a0 a1 a2 a3 a4 a5) := by
  intro a0 a1 a2 a3 a4 a5 k
  obtain ⟨ih0, ih1, ih2⟩ := fourinhandlaw15_XmpBounds.mono_l k
  unfold fourinhandlaw15_XmpBounds.f
  repeat' first
      | (with_reducible exact ih0 _ _ _ _ _ _ _ _)
      | (with_reducible exact ih1 _ _ _ _ _ _ _ _ _ _ _ _ _ _ _ _)
      | (with_reducible exact ih2 _ _ _ _ _ _ _ _ _ _ _ _ _)
      | (with_reducible exact fourinhandlaw15_awake.mono _)
      | (with_reducible exact LeO.refl _)
      | (with_reducible exact LeO.none _)
      | (with_reducible refine LeO.ite ?_ ?_)
      | (with_reducible refine LeO.bind ?_ (fun _ => ?_))
      | exact ih0 _ _ _ _ _ _ _ _
      | exact ih1 _ _ _ _ _ _ _ _ _ _ _ _ _ _ _ _
      | exact ih2 _ _ _ _ _ _ _ _ _ _ _ _ _
      | exact fourinhandlaw15_awake.mono _
      | exact LeO.none _
      | refine LeO.ite ?_ ?_
      | refine LeO.bind ?_ (fun _ => ?_)
set_option maxHeartbeats 8000000 in
set_option maxRecDepth 100000 in
theorem fourinhandlaw15_XmpBounds.calls (k : Nat) (a0_0 : Int) (a0_1 : Int) (a1 : Int) (a2 : Bool) (a3 : Int) (a4 : Int) (r : Bool) (hr_ : Aside0 (r = true)) (w : World) (h : fourinhandlaw15_XmpBounds.f k a0_0 a0_1 a1 a2 a3 a4 = some r) :
    Calls Try.prog 8 #[.agg #[.int .i64 a0_0, .int .i64 a0_1], .int .i64 a1, .bool a2, .int .i64 a3, .int .i64 a4] w fun e w' => e = .returned (.bool r) ∧ Below w.heap.size w w' := by
  have hu30 := Try.underlying30
  have HB := Aside0.mk (Below.refl w.heap.size w)
  have H : ((fourinhandlaw15_awake.f k).bind fun t148 => (if t148 = true then ((xmp_May.f a0_0 a0_1 a3 a4).bind fun t149 => (fourinhandlaw15_XmpBounds.j0 k a1 a2 a3 a4 t148 (!t149) a0_0 a0_1)) else (fourinhandlaw15_XmpBounds.j0 k a1 a2 a3 a4 t148 true a0_0 a0_1))) = some r := h
  clear h
  replace H := Option.bind_eq_some_iff.mp H
  obtain ⟨t148, A60, H⟩ := H
  replace H : (if t148 = true then ((xmp_May.f a0_0 a0_1 a3 a4).bind fun t149 => (fourinhandlaw15_XmpBounds.j0 k a1 a2 a3 a4 t148 (!t149) a0_0 a0_1)) else (fourinhandlaw15_XmpBounds.j0 k a1 a2 a3 a4 t148 true a0_0 a0_1)) = some r := H
  have A6 := Aside0.mk A60
  clear A60
  have HC7 := Aside0.mk H
  clear H
  go_enter Try.func8, Try.ntmps8
  go_upto_region 2 with (first | ((with_reducible refine gate_dst (N := 5) rfl ?_); refine box_event ?hg (N := 5) ?hd (cs := #[.int .i64 a0_0, .int .i64 a0_1]) (t := 30) ?hr ?_; (case hd => rfl); (case hg => rfl); (case hr => first | (go_simp; done) | (go_simp; rfl)); intro gb147 hg w8 hbox hb; have n0_ := Aside0.mk (below_step (by repeat (first | (with_reducible first | exact HB.out | apply below_alloc | apply pw_below_drewN | apply below_drew1) | exact HB.out)) hb); have n1_ := Aside0.mk (hbox); have n2_ := Aside0.mk ((by rw [hg]; exact (below_size (by repeat (first | (with_reducible first | exact HB.out | apply below_alloc | apply pw_below_drewN | apply below_drew1) | exact HB.out))) : w.heap.size ≤ gb147)); have n3_ := Aside0.mk ((by rw [hg]; exact (below_size (by repeat (first | (with_reducible first | exact HB.out | apply below_alloc | apply pw_below_drewN | apply below_drew1) | exact HB.out))) : w.heap.size ≤ gb147)); clear HB; have HB := n0_; have BK147 := n1_; have GW147 := n2_; have GE147 := n3_; clear n0_ n1_ n2_ n3_; clear hb hbox hg) | ((with_reducible refine gate_callee (f := 9) rfl ?_); refine goesL_ (some 20) rfl rfl Try.func9 (by kernel_rfl) rfl #[] rfl (by (try simp only [List.map_toArray, List.map_cons, List.map_nil]); first | done | rfl | (simp only [List.length_drop, List.length_take]; rfl)) ?_; (with_reducible refine (fourinhandlaw15_awake.calls k  t148 _ A6.out).mono ?_); rintro e w9 ⟨rfl, hb⟩; refine ⟨_, rfl, ?_⟩; have n0_ := Aside0.mk (blk_below (g := gb147) (o := .cells #[.int .i64 a0_0, .int .i64 a0_1] 30 (0, 0)) (by (with_reducible repeat (first | refine blk_drewN ?_ _ | refine blk_drew ?_ | refine blk_alloc ?_ _)); exact BK147.out) hb); have n1_ := Aside0.mk (below_step (by repeat (first | (with_reducible first | exact HB.out | apply below_alloc | apply pw_below_drewN | apply below_drew1 | refine below_set ?_ GE147.out) | exact HB.out)) hb); clear BK147; clear HB; have BK147 := n0_; have HB := n1_; clear n0_ n1_; (try clear hb); (try clear hb2); (try clear hk); (try clear hi)))
  (try simp only [Act.put, List.setIfInBounds_toArray, List.set_cons_zero, List.set_cons_succ])
  go_cut [29] (fun v29 wc => ∃ (kq : Nat) (x29_6 : Bool), v29 = .bool x29_6 ∧ Aside0 (fourinhandlaw15_XmpBounds.j0 kq a1 a2 a3 a4 t148 x29_6 a0_0 a0_1 = some r) ∧ Aside0 (kq ≤ k) ∧ Aside0 (wc.heap[gb147]? = some (.cells #[.int .i64 a0_0, .int .i64 a0_1] 30 (0, 0))) ∧ Aside0 (Below w.heap.size w wc))
  case first =>
    have H := HC7.out
    clear HC7
    by_cases c10 : t148 = true
    · subst c10
      have H1 : ((xmp_May.f a0_0 a0_1 a3 a4).bind fun t149 => (fourinhandlaw15_XmpBounds.j0 k a1 a2 a3 a4 true (!t149) a0_0 a0_1)) = some r := by rw [if_pos rfl] at H; exact H
      clear H
      have H := H1
      clear H1
      replace H := Option.bind_eq_some_iff.mp H
      obtain ⟨t149, A110, H⟩ := H
      replace H : (fourinhandlaw15_XmpBounds.j0 k a1 a2 a3 a4 true (!t149) a0_0 a0_1) = some r := H
      have A11 := Aside0.mk A110
      clear A110
      have H' := Aside0.mk H
      clear H
      have hcz12_0 : w9.cell? ⟨gb147, 0, none⟩ = some (.int .i64 a0_0) := (blk_cell BK147.out 0).trans rfl
      have hcz12_1 : w9.cell? ⟨gb147, 1, none⟩ = some (.int .i64 a0_1) := (blk_cell BK147.out 1).trans rfl
      have hfz12_0 := blk_frozen BK147.out 0
      have hfz12_1 := blk_frozen BK147.out 1
      go_wp2_with (first | (go_at_call 11; (with_reducible refine (xmp_May.calls a0_0 a0_1 a3 a4 t149 _ A11.out).mono ?_); rintro e w13 ⟨rfl, hb⟩; have n0_ := Aside0.mk (blk_below (g := gb147) (o := .cells #[.int .i64 a0_0, .int .i64 a0_1] 30 (0, 0)) (by (with_reducible repeat (first | refine blk_drewN ?_ _ | refine blk_drew ?_ | refine blk_alloc ?_ _)); exact BK147.out) hb); have n1_ := Aside0.mk (below_step (by repeat (first | (with_reducible first | exact HB.out | apply below_alloc | apply pw_below_drewN | apply below_drew1 | refine below_set ?_ GE147.out) | exact HB.out)) hb); clear BK147; clear HB; have BK147 := n0_; have HB := n1_; clear n0_ n1_; (try clear hb); (try clear hb2); (try clear hk); (try clear hi)))
      go_meet
      case rel => exact ⟨_, (!t149), (by first | rfl | (simp; done) | (simp [*]; done)), H', ⟨by first | omega | exact Nat.le_refl _⟩, ⟨by (with_reducible repeat (first | refine blk_drewN ?_ _ | refine blk_drew ?_ | refine blk_alloc ?_ _)); exact BK147.out⟩, ⟨by repeat (first | (with_reducible first | exact HB.out | apply below_alloc | apply pw_below_drewN | apply below_drew1 | refine below_set ?_ GE147.out) | exact HB.out)⟩⟩
    · replace c10 := Bool.eq_false_iff.mpr c10
      subst c10
      have H1 : (fourinhandlaw15_XmpBounds.j0 k a1 a2 a3 a4 false true a0_0 a0_1) = some r := by rw [if_neg (show ¬ (false = true) by decide)] at H; exact H
      clear H
      have H := H1
      clear H1
      have H' := Aside0.mk H
      clear H
      go_wp2
      go_meet
      case rel => exact ⟨_, (true), (by first | rfl | (simp; done) | (simp [*]; done)), H', ⟨by first | omega | exact Nat.le_refl _⟩, ⟨by (with_reducible repeat (first | refine blk_drewN ?_ _ | refine blk_drew ?_ | refine blk_alloc ?_ _)); exact BK147.out⟩, ⟨by repeat (first | (with_reducible first | exact HB.out | apply below_alloc | apply pw_below_drewN | apply below_drew1 | refine below_set ?_ GE147.out) | exact HB.out)⟩⟩
  case rest =>
    clear HC7
    try clear c1
    try clear p2
    try clear c8
    try clear c9
    try clear c10
    try clear hcz12_0
    try clear hcz12_1
    try clear hfz12_0
    try clear hfz12_1
    as_aux_lemma =>
      obtain ⟨kq, x29_6, rfl, HA, HJ6, BK147, HB⟩ := hcut
      cases kq with
      | zero => exact absurd HA.out (by simp [fourinhandlaw15_XmpBounds.j0])
      | succ kj6 =>
        have H := HA.out
        clear HA
        simp only [fourinhandlaw15_XmpBounds.j0] at H
        by_cases c14 : x29_6 = true
        · subst c14
          have H1 : (some t148) = some r := by rw [if_pos rfl] at H; exact H
          clear H
          have H := H1
          clear H1
          obtain rfl := Option.some.inj H
          go_wp2
          go_ret
          exact ⟨by first | rfl | (simp [errW_none, errW_some] <;> rfl) | (simp [*, errW_none, errW_some] <;> rfl), by repeat (first | (with_reducible first | exact HB.out | apply below_alloc | apply pw_below_drewN | apply below_drew1 | refine below_set ?_ GE147.out) | exact HB.out)⟩
        · replace c14 := Bool.eq_false_iff.mpr c14
          subst c14
          have H1 : ((xmp_Slow.f a0_0 a0_1 a1 a3 a4).bind fun bt150 => ((xmp_Round.f a0_0 a0_1 a1 a3 a4).bind fun bt154 => ((xmp_Cut.f a0_0 a0_1 a1 a3 a4).bind fun bt158 => ((xmp_Loss.f a0_0 a0_1 a2 a3 a4).bind fun bt162 => (if bt150.2.2 = 0 then ((xmp_May.f bt150.1 bt150.2.1 a3 a4).bind fun t166 => (if t166 = true then (if bt150.1 < a0_0 then (fourinhandlaw15_XmpBounds.j1 kj6 a1 a2 a3 a4 bt154.2.2 bt158.2.2 bt162.2.2 true a0_0 a0_1 bt154.1 bt154.2.1 bt158.1 bt158.2.1 bt162.1 bt162.2.1) else (if bt150.1 > a0_0 then (if bt150.1 > a0_1 then (fourinhandlaw15_XmpBounds.j1 kj6 a1 a2 a3 a4 bt154.2.2 bt158.2.2 bt162.2.2 true a0_0 a0_1 bt154.1 bt154.2.1 bt158.1 bt158.2.1 bt162.1 bt162.2.1) else (fourinhandlaw15_XmpBounds.j1 kj6 a1 a2 a3 a4 bt154.2.2 bt158.2.2 bt162.2.2 (bt150.2.1 != a0_1) a0_0 a0_1 bt154.1 bt154.2.1 bt158.1 bt158.2.1 bt162.1 bt162.2.1)) else (fourinhandlaw15_XmpBounds.j1 kj6 a1 a2 a3 a4 bt154.2.2 bt158.2.2 bt162.2.2 (bt150.2.1 != a0_1) a0_0 a0_1 bt154.1 bt154.2.1 bt158.1 bt158.2.1 bt162.1 bt162.2.1))) else (fourinhandlaw15_XmpBounds.j1 kj6 a1 a2 a3 a4 bt154.2.2 bt158.2.2 bt162.2.2 true a0_0 a0_1 bt154.1 bt154.2.1 bt158.1 bt158.2.1 bt162.1 bt162.2.1))) else (fourinhandlaw15_XmpBounds.j1 kj6 a1 a2 a3 a4 bt154.2.2 bt158.2.2 bt162.2.2 false a0_0 a0_1 bt154.1 bt154.2.1 bt158.1 bt158.2.1 bt162.1 bt162.2.1)))))) = some r := by rw [if_neg (show ¬ (false = true) by decide)] at H; exact H
          clear H
          have H := H1
          clear H1
          replace H := Option.bind_eq_some_iff.mp H
          obtain ⟨⟨t150, t151, t152⟩, A150, H⟩ := H
          replace H : ((xmp_Round.f a0_0 a0_1 a1 a3 a4).bind fun bt154 => ((xmp_Cut.f a0_0 a0_1 a1 a3 a4).bind fun bt158 => ((xmp_Loss.f a0_0 a0_1 a2 a3 a4).bind fun bt162 => (if t152 = 0 then ((xmp_May.f t150 t151 a3 a4).bind fun t166 => (if t166 = true then (if t150 < a0_0 then (fourinhandlaw15_XmpBounds.j1 kj6 a1 a2 a3 a4 bt154.2.2 bt158.2.2 bt162.2.2 true a0_0 a0_1 bt154.1 bt154.2.1 bt158.1 bt158.2.1 bt162.1 bt162.2.1) else (if t150 > a0_0 then (if t150 > a0_1 then (fourinhandlaw15_XmpBounds.j1 kj6 a1 a2 a3 a4 bt154.2.2 bt158.2.2 bt162.2.2 true a0_0 a0_1 bt154.1 bt154.2.1 bt158.1 bt158.2.1 bt162.1 bt162.2.1) else (fourinhandlaw15_XmpBounds.j1 kj6 a1 a2 a3 a4 bt154.2.2 bt158.2.2 bt162.2.2 (t151 != a0_1) a0_0 a0_1 bt154.1 bt154.2.1 bt158.1 bt158.2.1 bt162.1 bt162.2.1)) else (fourinhandlaw15_XmpBounds.j1 kj6 a1 a2 a3 a4 bt154.2.2 bt158.2.2 bt162.2.2 (t151 != a0_1) a0_0 a0_1 bt154.1 bt154.2.1 bt158.1 bt158.2.1 bt162.1 bt162.2.1))) else (fourinhandlaw15_XmpBounds.j1 kj6 a1 a2 a3 a4 bt154.2.2 bt158.2.2 bt162.2.2 true a0_0 a0_1 bt154.1 bt154.2.1 bt158.1 bt158.2.1 bt162.1 bt162.2.1))) else (fourinhandlaw15_XmpBounds.j1 kj6 a1 a2 a3 a4 bt154.2.2 bt158.2.2 bt162.2.2 false a0_0 a0_1 bt154.1 bt154.2.1 bt158.1 bt158.2.1 bt162.1 bt162.2.1))))) = some r := H
          have A15 := Aside0.mk A150
          clear A150
          replace H := Option.bind_eq_some_iff.mp H
          obtain ⟨⟨t154, t155, t156⟩, A160, H⟩ := H
          replace H : ((xmp_Cut.f a0_0 a0_1 a1 a3 a4).bind fun bt158 => ((xmp_Loss.f a0_0 a0_1 a2 a3 a4).bind fun bt162 => (if t152 = 0 then ((xmp_May.f t150 t151 a3 a4).bind fun t166 => (if t166 = true then (if t150 < a0_0 then (fourinhandlaw15_XmpBounds.j1 kj6 a1 a2 a3 a4 t156 bt158.2.2 bt162.2.2 true a0_0 a0_1 t154 t155 bt158.1 bt158.2.1 bt162.1 bt162.2.1) else (if t150 > a0_0 then (if t150 > a0_1 then (fourinhandlaw15_XmpBounds.j1 kj6 a1 a2 a3 a4 t156 bt158.2.2 bt162.2.2 true a0_0 a0_1 t154 t155 bt158.1 bt158.2.1 bt162.1 bt162.2.1) else (fourinhandlaw15_XmpBounds.j1 kj6 a1 a2 a3 a4 t156 bt158.2.2 bt162.2.2 (t151 != a0_1) a0_0 a0_1 t154 t155 bt158.1 bt158.2.1 bt162.1 bt162.2.1)) else (fourinhandlaw15_XmpBounds.j1 kj6 a1 a2 a3 a4 t156 bt158.2.2 bt162.2.2 (t151 != a0_1) a0_0 a0_1 t154 t155 bt158.1 bt158.2.1 bt162.1 bt162.2.1))) else (fourinhandlaw15_XmpBounds.j1 kj6 a1 a2 a3 a4 t156 bt158.2.2 bt162.2.2 true a0_0 a0_1 t154 t155 bt158.1 bt158.2.1 bt162.1 bt162.2.1))) else (fourinhandlaw15_XmpBounds.j1 kj6 a1 a2 a3 a4 t156 bt158.2.2 bt162.2.2 false a0_0 a0_1 t154 t155 bt158.1 bt158.2.1 bt162.1 bt162.2.1)))) = some r := H
          have A16 := Aside0.mk A160
          clear A160
          replace H := Option.bind_eq_some_iff.mp H
          obtain ⟨⟨t158, t159, t160⟩, A170, H⟩ := H
          replace H : ((xmp_Loss.f a0_0 a0_1 a2 a3 a4).bind fun bt162 => (if t152 = 0 then ((xmp_May.f t150 t151 a3 a4).bind fun t166 => (if t166 = true then (if t150 < a0_0 then (fourinhandlaw15_XmpBounds.j1 kj6 a1 a2 a3 a4 t156 t160 bt162.2.2 true a0_0 a0_1 t154 t155 t158 t159 bt162.1 bt162.2.1) else (if t150 > a0_0 then (if t150 > a0_1 then (fourinhandlaw15_XmpBounds.j1 kj6 a1 a2 a3 a4 t156 t160 bt162.2.2 true a0_0 a0_1 t154 t155 t158 t159 bt162.1 bt162.2.1) else (fourinhandlaw15_XmpBounds.j1 kj6 a1 a2 a3 a4 t156 t160 bt162.2.2 (t151 != a0_1) a0_0 a0_1 t154 t155 t158 t159 bt162.1 bt162.2.1)) else (fourinhandlaw15_XmpBounds.j1 kj6 a1 a2 a3 a4 t156 t160 bt162.2.2 (t151 != a0_1) a0_0 a0_1 t154 t155 t158 t159 bt162.1 bt162.2.1))) else (fourinhandlaw15_XmpBounds.j1 kj6 a1 a2 a3 a4 t156 t160 bt162.2.2 true a0_0 a0_1 t154 t155 t158 t159 bt162.1 bt162.2.1))) else (fourinhandlaw15_XmpBounds.j1 kj6 a1 a2 a3 a4 t156 t160 bt162.2.2 false a0_0 a0_1 t154 t155 t158 t159 bt162.1 bt162.2.1))) = some r := H
          have A17 := Aside0.mk A170
          clear A170
          replace H := Option.bind_eq_some_iff.mp H
          obtain ⟨⟨t162, t163, t164⟩, A180, H⟩ := H
          replace H : (if t152 = 0 then ((xmp_May.f t150 t151 a3 a4).bind fun t166 => (if t166 = true then (if t150 < a0_0 then (fourinhandlaw15_XmpBounds.j1 kj6 a1 a2 a3 a4 t156 t160 t164 true a0_0 a0_1 t154 t155 t158 t159 t162 t163) else (if t150 > a0_0 then (if t150 > a0_1 then (fourinhandlaw15_XmpBounds.j1 kj6 a1 a2 a3 a4 t156 t160 t164 true a0_0 a0_1 t154 t155 t158 t159 t162 t163) else (fourinhandlaw15_XmpBounds.j1 kj6 a1 a2 a3 a4 t156 t160 t164 (t151 != a0_1) a0_0 a0_1 t154 t155 t158 t159 t162 t163)) else (fourinhandlaw15_XmpBounds.j1 kj6 a1 a2 a3 a4 t156 t160 t164 (t151 != a0_1) a0_0 a0_1 t154 t155 t158 t159 t162 t163))) else (fourinhandlaw15_XmpBounds.j1 kj6 a1 a2 a3 a4 t156 t160 t164 true a0_0 a0_1 t154 t155 t158 t159 t162 t163))) else (fourinhandlaw15_XmpBounds.j1 kj6 a1 a2 a3 a4 t156 t160 t164 false a0_0 a0_1 t154 t155 t158 t159 t162 t163)) = some r := H
          have A18 := Aside0.mk A180
          clear A180
          have HC19 := Aside0.mk H
          clear H
          have hcz20_0 : wc.cell? ⟨gb147, 0, none⟩ = some (.int .i64 a0_0) := (blk_cell BK147.out 0).trans rfl
          have hcz20_1 : wc.cell? ⟨gb147, 1, none⟩ = some (.int .i64 a0_1) := (blk_cell BK147.out 1).trans rfl
          have hfz20_0 := blk_frozen BK147.out 0
          have hfz20_1 := blk_frozen BK147.out 1
          go_upto_region 8 with (first | ((with_reducible refine gate_callee (f := 12) rfl ?_); refine goesL_ (some 36) rfl rfl Try.func12 (by kernel_rfl) rfl #[.agg #[.int .i64 a0_0, .int .i64 a0_1], .int .i64 a1, .int .i64 a3, .int .i64 a4] rfl (by (try simp only [List.map_toArray, List.map_cons, List.map_nil]); first | done | rfl | (simp only [List.length_drop, List.length_take]; rfl)) ?_; (with_reducible refine (xmp_Slow.calls a0_0 a0_1 a1 a3 a4 t150 t151 t152 _ A15.out).mono ?_); rintro e w21 ⟨rfl, hb⟩; refine ⟨_, rfl, ?_⟩; have n0_ := Aside0.mk (blk_below (g := gb147) (o := .cells #[.int .i64 a0_0, .int .i64 a0_1] 30 (0, 0)) (by (with_reducible repeat (first | refine blk_drewN ?_ _ | refine blk_drew ?_ | refine blk_alloc ?_ _)); exact BK147.out) hb); have n1_ := Aside0.mk (below_step (by repeat (first | (with_reducible first | exact HB.out | apply below_alloc | apply pw_below_drewN | apply below_drew1 | refine below_set ?_ GE147.out) | exact HB.out)) hb); clear BK147; clear HB; have BK147 := n0_; have HB := n1_; clear n0_ n1_; (try clear hb); (try clear hb2); (try clear hk); (try clear hi)) | ((with_reducible refine gate_dst (N := 12) rfl ?_); refine box_event ?hg (N := 12) ?hd (cs := #[.int .i64 0, .int .i64 0]) (t := 30) ?hr ?_; (case hd => rfl); (case hg => rfl); (case hr => first | (go_simp; done) | (go_simp; rfl)); intro gb153 hg w22 hbox hb; have n0_ := Aside0.mk (blk_below (g := gb147) (o := .cells #[.int .i64 a0_0, .int .i64 a0_1] 30 (0, 0)) (by (with_reducible repeat (first | refine blk_drewN ?_ _ | refine blk_drew ?_ | refine blk_alloc ?_ _)); exact BK147.out) hb); have n1_ := Aside0.mk (below_step (by repeat (first | (with_reducible first | exact HB.out | apply below_alloc | apply pw_below_drewN | apply below_drew1 | refine below_set ?_ GE147.out) | exact HB.out)) hb); have n2_ := Aside0.mk (hbox); have n3_ := Aside0.mk ((by rw [hg]; exact (below_size (by repeat (first | (with_reducible first | exact HB.out | apply below_alloc | apply pw_below_drewN | apply below_drew1 | refine below_set ?_ GE147.out) | exact HB.out))) : w.heap.size ≤ gb153)); have n4_ := Aside0.mk ((by rw [hg]; exact (below_size (by repeat (first | (with_reducible first | exact HB.out | apply below_alloc | apply pw_below_drewN | apply below_drew1 | refine below_set ?_ GE147.out) | exact HB.out))) : w.heap.size ≤ gb153)); have n5_ := Aside0.mk ((by rw [hg]; exact Nat.ne_of_lt (blk_lt (g := gb147) (o := .cells #[.int .i64 a0_0, .int .i64 a0_1] 30 (0, 0)) (by (with_reducible repeat (first | refine blk_drewN ?_ _ | refine blk_drew ?_ | refine blk_alloc ?_ _)); exact BK147.out)) : gb147 ≠ gb153)); have n6_ := Aside0.mk ((by rw [hg]; exact Nat.ne_of_gt (blk_lt (g := gb147) (o := .cells #[.int .i64 a0_0, .int .i64 a0_1] 30 (0, 0)) (by (with_reducible repeat (first | refine blk_drewN ?_ _ | refine blk_drew ?_ | refine blk_alloc ?_ _)); exact BK147.out)) : gb153 ≠ gb147)); clear BK147; clear HB; have BK147 := n0_; have HB := n1_; have BK153 := n2_; have GW153 := n3_; have GE153 := n4_; have NB147_153 := n5_; have NB153_147 := n6_; clear n0_ n1_ n2_ n3_ n4_ n5_ n6_; clear hb hbox hg; have hnb23 := NB153_147.out; have hnc23 := NB147_153.out; have hcz24_0 : w22.cell? ⟨gb153, 0, none⟩ = some (.int .i64 0) := (blk_cell BK153.out 0).trans rfl; have hcz24_1 : w22.cell? ⟨gb153, 1, none⟩ = some (.int .i64 0) := (blk_cell BK153.out 1).trans rfl; have hfz24_0 := blk_frozen BK153.out 0; have hfz24_1 := blk_frozen BK153.out 1; have hcz25_0 : w22.cell? ⟨gb147, 0, none⟩ = some (.int .i64 a0_0) := (blk_cell BK147.out 0).trans rfl; have hcz25_1 : w22.cell? ⟨gb147, 1, none⟩ = some (.int .i64 a0_1) := (blk_cell BK147.out 1).trans rfl; have hfz25_0 := blk_frozen BK147.out 0; have hfz25_1 := blk_frozen BK147.out 1) | ((with_reducible refine gate_callee (f := 13) rfl ?_); refine goesL_ (some 44) rfl rfl Try.func13 (by kernel_rfl) rfl #[.agg #[.int .i64 a0_0, .int .i64 a0_1], .int .i64 a1, .int .i64 a3, .int .i64 a4] rfl (by (try simp only [List.map_toArray, List.map_cons, List.map_nil]); first | done | rfl | (simp only [List.length_drop, List.length_take]; rfl)) ?_; (with_reducible refine (xmp_Round.calls a0_0 a0_1 a1 a3 a4 t154 t155 t156 _ A16.out).mono ?_); rintro e w26 ⟨rfl, hb⟩; refine ⟨_, rfl, ?_⟩; have n0_ := Aside0.mk (blk_below (g := gb147) (o := .cells #[.int .i64 a0_0, .int .i64 a0_1] 30 (0, 0)) (by (with_reducible repeat (first | refine blk_drewN ?_ _ | refine blk_drew ?_ | refine blk_alloc ?_ _)); refine blk_far ?_ NB147_153.out _; (with_reducible repeat (first | refine blk_drewN ?_ _ | refine blk_drew ?_ | refine blk_alloc ?_ _)); refine blk_far ?_ NB147_153.out _; (with_reducible repeat (first | refine blk_drewN ?_ _ | refine blk_drew ?_ | refine blk_alloc ?_ _)); exact BK147.out) hb); have n1_ := Aside0.mk (blk_below (g := gb153) (o := .cells #[.int .i64 t150, .int .i64 t151] 30 (0, 0)) (by (with_reducible repeat (first | refine blk_drewN ?_ _ | refine blk_drew ?_ | refine blk_alloc ?_ _)); refine blk_put (cs := #[.int .i64 t150, .int .i64 0]) ?_ 1 _ rfl; (with_reducible repeat (first | refine blk_drewN ?_ _ | refine blk_drew ?_ | refine blk_alloc ?_ _)); refine blk_put (cs := #[.int .i64 0, .int .i64 0]) ?_ 0 _ rfl; (with_reducible repeat (first | refine blk_drewN ?_ _ | refine blk_drew ?_ | refine blk_alloc ?_ _)); exact BK153.out) hb); have n2_ := Aside0.mk (below_step (by repeat (first | (with_reducible first | exact HB.out | apply below_alloc | apply pw_below_drewN | apply below_drew1 | refine below_set ?_ GE147.out | refine below_set ?_ GE153.out) | exact HB.out)) hb); clear BK147; clear BK153; clear HB; have BK147 := n0_; have BK153 := n1_; have HB := n2_; clear n0_ n1_ n2_; (try clear hb); (try clear hb2); (try clear hk); (try clear hi)) | ((with_reducible refine gate_dst (N := 14) rfl ?_); refine box_event ?hg (N := 14) ?hd (cs := #[.int .i64 0, .int .i64 0]) (t := 30) ?hr ?_; (case hd => rfl); (case hg => rfl); (case hr => first | (go_simp; done) | (go_simp; rfl)); intro gb157 hg w27 hbox hb; have n0_ := Aside0.mk (blk_below (g := gb147) (o := .cells #[.int .i64 a0_0, .int .i64 a0_1] 30 (0, 0)) (by (with_reducible repeat (first | refine blk_drewN ?_ _ | refine blk_drew ?_ | refine blk_alloc ?_ _)); exact BK147.out) hb); have n1_ := Aside0.mk (blk_below (g := gb153) (o := .cells #[.int .i64 t150, .int .i64 t151] 30 (0, 0)) (by (with_reducible repeat (first | refine blk_drewN ?_ _ | refine blk_drew ?_ | refine blk_alloc ?_ _)); exact BK153.out) hb); have n2_ := Aside0.mk (below_step (by repeat (first | (with_reducible first | exact HB.out | apply below_alloc | apply pw_below_drewN | apply below_drew1 | refine below_set ?_ GE147.out | refine below_set ?_ GE153.out) | exact HB.out)) hb); have n3_ := Aside0.mk (hbox); have n4_ := Aside0.mk ((by rw [hg]; exact (below_size (by repeat (first | (with_reducible first | exact HB.out | apply below_alloc | apply pw_below_drewN | apply below_drew1 | refine below_set ?_ GE147.out | refine below_set ?_ GE153.out) | exact HB.out))) : w.heap.size ≤ gb157)); have n5_ := Aside0.mk ((by rw [hg]; exact (below_size (by repeat (first | (with_reducible first | exact HB.out | apply below_alloc | apply pw_below_drewN | apply below_drew1 | refine below_set ?_ GE147.out | refine below_set ?_ GE153.out) | exact HB.out))) : w.heap.size ≤ gb157)); have n6_ := Aside0.mk ((by rw [hg]; exact Nat.ne_of_lt (blk_lt (g := gb147) (o := .cells #[.int .i64 a0_0, .int .i64 a0_1] 30 (0, 0)) (by (with_reducible repeat (first | refine blk_drewN ?_ _ | refine blk_drew ?_ | refine blk_alloc ?_ _)); exact BK147.out)) : gb147 ≠ gb157)); have n7_ := Aside0.mk ((by rw [hg]; exact Nat.ne_of_gt (blk_lt (g := gb147) (o := .cells #[.int .i64 a0_0, .int .i64 a0_1] 30 (0, 0)) (by (with_reducible repeat (first | refine blk_drewN ?_ _ | refine blk_drew ?_ | refine blk_alloc ?_ _)); exact BK147.out)) : gb157 ≠ gb147)); have n8_ := Aside0.mk ((by rw [hg]; exact Nat.ne_of_lt (blk_lt (g := gb153) (o := .cells #[.int .i64 t150, .int .i64 t151] 30 (0, 0)) (by (with_reducible repeat (first | refine blk_drewN ?_ _ | refine blk_drew ?_ | refine blk_alloc ?_ _)); exact BK153.out)) : gb153 ≠ gb157)); have n9_ := Aside0.mk ((by rw [hg]; exact Nat.ne_of_gt (blk_lt (g := gb153) (o := .cells #[.int .i64 t150, .int .i64 t151] 30 (0, 0)) (by (with_reducible repeat (first | refine blk_drewN ?_ _ | refine blk_drew ?_ | refine blk_alloc ?_ _)); exact BK153.out)) : gb157 ≠ gb153)); clear BK147; clear BK153; clear HB; have BK147 := n0_; have BK153 := n1_; have HB := n2_; have BK157 := n3_; have GW157 := n4_; have GE157 := n5_; have NB147_157 := n6_; have NB157_147 := n7_; have NB153_157 := n8_; have NB157_153 := n9_; clear n0_ n1_ n2_ n3_ n4_ n5_ n6_ n7_ n8_ n9_; clear hb hbox hg; have hnb28 := NB157_147.out; have hnc28 := NB147_157.out; have hnb29 := NB157_153.out; have hnc29 := NB153_157.out; have hcz30_0 : w27.cell? ⟨gb157, 0, none⟩ = some (.int .i64 0) := (blk_cell BK157.out 0).trans rfl; have hcz30_1 : w27.cell? ⟨gb157, 1, none⟩ = some (.int .i64 0) := (blk_cell BK157.out 1).trans rfl; have hfz30_0 := blk_frozen BK157.out 0; have hfz30_1 := blk_frozen BK157.out 1; have hcz31_0 : w27.cell? ⟨gb147, 0, none⟩ = some (.int .i64 a0_0) := (blk_cell BK147.out 0).trans rfl; have hcz31_1 : w27.cell? ⟨gb147, 1, none⟩ = some (.int .i64 a0_1) := (blk_cell BK147.out 1).trans rfl; have hfz31_0 := blk_frozen BK147.out 0; have hfz31_1 := blk_frozen BK147.out 1) | ((with_reducible refine gate_callee (f := 14) rfl ?_); refine goesL_ (some 52) rfl rfl Try.func14 (by kernel_rfl) rfl #[.agg #[.int .i64 a0_0, .int .i64 a0_1], .int .i64 a1, .int .i64 a3, .int .i64 a4] rfl (by (try simp only [List.map_toArray, List.map_cons, List.map_nil]); first | done | rfl | (simp only [List.length_drop, List.length_take]; rfl)) ?_; (with_reducible refine (xmp_Cut.calls a0_0 a0_1 a1 a3 a4 t158 t159 t160 _ A17.out).mono ?_); rintro e w32 ⟨rfl, hb⟩; refine ⟨_, rfl, ?_⟩; have n0_ := Aside0.mk (blk_below (g := gb147) (o := .cells #[.int .i64 a0_0, .int .i64 a0_1] 30 (0, 0)) (by (with_reducible repeat (first | refine blk_drewN ?_ _ | refine blk_drew ?_ | refine blk_alloc ?_ _)); refine blk_far ?_ NB147_157.out _; (with_reducible repeat (first | refine blk_drewN ?_ _ | refine blk_drew ?_ | refine blk_alloc ?_ _)); refine blk_far ?_ NB147_157.out _; (with_reducible repeat (first | refine blk_drewN ?_ _ | refine blk_drew ?_ | refine blk_alloc ?_ _)); exact BK147.out) hb); have n1_ := Aside0.mk (blk_below (g := gb153) (o := .cells #[.int .i64 t150, .int .i64 t151] 30 (0, 0)) (by (with_reducible repeat (first | refine blk_drewN ?_ _ | refine blk_drew ?_ | refine blk_alloc ?_ _)); refine blk_far ?_ NB153_157.out _; (with_reducible repeat (first | refine blk_drewN ?_ _ | refine blk_drew ?_ | refine blk_alloc ?_ _)); refine blk_far ?_ NB153_157.out _; (with_reducible repeat (first | refine blk_drewN ?_ _ | refine blk_drew ?_ | refine blk_alloc ?_ _)); exact BK153.out) hb); have n2_ := Aside0.mk (blk_below (g := gb157) (o := .cells #[.int .i64 t154, .int .i64 t155] 30 (0, 0)) (by (with_reducible repeat (first | refine blk_drewN ?_ _ | refine blk_drew ?_ | refine blk_alloc ?_ _)); refine blk_put (cs := #[.int .i64 t154, .int .i64 0]) ?_ 1 _ rfl; (with_reducible repeat (first | refine blk_drewN ?_ _ | refine blk_drew ?_ | refine blk_alloc ?_ _)); refine blk_put (cs := #[.int .i64 0, .int .i64 0]) ?_ 0 _ rfl; (with_reducible repeat (first | refine blk_drewN ?_ _ | refine blk_drew ?_ | refine blk_alloc ?_ _)); exact BK157.out) hb); have n3_ := Aside0.mk (below_step (by repeat (first | (with_reducible first | exact HB.out | apply below_alloc | apply pw_below_drewN | apply below_drew1 | refine below_set ?_ GE147.out | refine below_set ?_ GE153.out | refine below_set ?_ GE157.out) | exact HB.out)) hb); clear BK147; clear BK153; clear BK157; clear HB; have BK147 := n0_; have BK153 := n1_; have BK157 := n2_; have HB := n3_; clear n0_ n1_ n2_ n3_; (try clear hb); (try clear hb2); (try clear hk); (try clear hi)) | ((with_reducible refine gate_dst (N := 16) rfl ?_); refine box_event ?hg (N := 16) ?hd (cs := #[.int .i64 0, .int .i64 0]) (t := 30) ?hr ?_; (case hd => rfl); (case hg => rfl); (case hr => first | (go_simp; done) | (go_simp; rfl)); intro gb161 hg w33 hbox hb; have n0_ := Aside0.mk (blk_below (g := gb147) (o := .cells #[.int .i64 a0_0, .int .i64 a0_1] 30 (0, 0)) (by (with_reducible repeat (first | refine blk_drewN ?_ _ | refine blk_drew ?_ | refine blk_alloc ?_ _)); exact BK147.out) hb); have n1_ := Aside0.mk (blk_below (g := gb153) (o := .cells #[.int .i64 t150, .int .i64 t151] 30 (0, 0)) (by (with_reducible repeat (first | refine blk_drewN ?_ _ | refine blk_drew ?_ | refine blk_alloc ?_ _)); exact BK153.out) hb); have n2_ := Aside0.mk (blk_below (g := gb157) (o := .cells #[.int .i64 t154, .int .i64 t155] 30 (0, 0)) (by (with_reducible repeat (first | refine blk_drewN ?_ _ | refine blk_drew ?_ | refine blk_alloc ?_ _)); exact BK157.out) hb); have n3_ := Aside0.mk (below_step (by repeat (first | (with_reducible first | exact HB.out | apply below_alloc | apply pw_below_drewN | apply below_drew1 | refine below_set ?_ GE147.out | refine below_set ?_ GE153.out | refine below_set ?_ GE157.out) | exact HB.out)) hb); have n4_ := Aside0.mk (hbox); have n5_ := Aside0.mk ((by rw [hg]; exact (below_size (by repeat (first | (with_reducible first | exact HB.out | apply below_alloc | apply pw_below_drewN | apply below_drew1 | refine below_set ?_ GE147.out | refine below_set ?_ GE153.out | refine below_set ?_ GE157.out) | exact HB.out))) : w.heap.size ≤ gb161)); have n6_ := Aside0.mk ((by rw [hg]; exact (below_size (by repeat (first | (with_reducible first | exact HB.out | apply below_alloc | apply pw_below_drewN | apply below_drew1 | refine below_set ?_ GE147.out | refine below_set ?_ GE153.out | refine below_set ?_ GE157.out) | exact HB.out))) : w.heap.size ≤ gb161)); have n7_ := Aside0.mk ((by rw [hg]; exact Nat.ne_of_lt (blk_lt (g := gb147) (o := .cells #[.int .i64 a0_0, .int .i64 a0_1] 30 (0, 0)) (by (with_reducible repeat (first | refine blk_drewN ?_ _ | refine blk_drew ?_ | refine blk_alloc ?_ _)); exact BK147.out)) : gb147 ≠ gb161)); have n8_ := Aside0.mk ((by rw [hg]; exact Nat.ne_of_gt (blk_lt (g := gb147) (o := .cells #[.int .i64 a0_0, .int .i64 a0_1] 30 (0, 0)) (by (with_reducible repeat (first | refine blk_drewN ?_ _ | refine blk_drew ?_ | refine blk_alloc ?_ _)); exact BK147.out)) : gb161 ≠ gb147)); have n9_ := Aside0.mk ((by rw [hg]; exact Nat.ne_of_lt (blk_lt (g := gb153) (o := .cells #[.int .i64 t150, .int .i64 t151] 30 (0, 0)) (by (with_reducible repeat (first | refine blk_drewN ?_ _ | refine blk_drew ?_ | refine blk_alloc ?_ _)); exact BK153.out)) : gb153 ≠ gb161)); have n10_ := Aside0.mk ((by rw [hg]; exact Nat.ne_of_gt (blk_lt (g := gb153) (o := .cells #[.int .i64 t150, .int .i64 t151] 30 (0, 0)) (by (with_reducible repeat (first | refine blk_drewN ?_ _ | refine blk_drew ?_ | refine blk_alloc ?_ _)); exact BK153.out)) : gb161 ≠ gb153)); have n11_ := Aside0.mk ((by rw [hg]; exact Nat.ne_of_lt (blk_lt (g := gb157) (o := .cells #[.int .i64 t154, .int .i64 t155] 30 (0, 0)) (by (with_reducible repeat (first | refine blk_drewN ?_ _ | refine blk_drew ?_ | refine blk_alloc ?_ _)); exact BK157.out)) : gb157 ≠ gb161)); have n12_ := Aside0.mk ((by rw [hg]; exact Nat.ne_of_gt (blk_lt (g := gb157) (o := .cells #[.int .i64 t154, .int .i64 t155] 30 (0, 0)) (by (with_reducible repeat (first | refine blk_drewN ?_ _ | refine blk_drew ?_ | refine blk_alloc ?_ _)); exact BK157.out)) : gb161 ≠ gb157)); clear BK147; clear BK153; clear BK157; clear HB; have BK147 := n0_; have BK153 := n1_; have BK157 := n2_; have HB := n3_; have BK161 := n4_; have GW161 := n5_; have GE161 := n6_; have NB147_161 := n7_; have NB161_147 := n8_; have NB153_161 := n9_; have NB161_153 := n10_; have NB157_161 := n11_; have NB161_157 := n12_; clear n0_ n1_ n2_ n3_ n4_ n5_ n6_ n7_ n8_ n9_ n10_ n11_ n12_; clear hb hbox hg; have hnb34 := NB161_147.out; have hnc34 := NB147_161.out; have hnb35 := NB161_153.out; have hnc35 := NB153_161.out; have hnb36 := NB161_157.out; have hnc36 := NB157_161.out; have hcz37_0 : w33.cell? ⟨gb161, 0, none⟩ = some (.int .i64 0) := (blk_cell BK161.out 0).trans rfl; have hcz37_1 : w33.cell? ⟨gb161, 1, none⟩ = some (.int .i64 0) := (blk_cell BK161.out 1).trans rfl; have hfz37_0 := blk_frozen BK161.out 0; have hfz37_1 := blk_frozen BK161.out 1; have hcz38_0 : w33.cell? ⟨gb147, 0, none⟩ = some (.int .i64 a0_0) := (blk_cell BK147.out 0).trans rfl; have hcz38_1 : w33.cell? ⟨gb147, 1, none⟩ = some (.int .i64 a0_1) := (blk_cell BK147.out 1).trans rfl; have hfz38_0 := blk_frozen BK147.out 0; have hfz38_1 := blk_frozen BK147.out 1) | ((with_reducible refine gate_callee (f := 15) rfl ?_); refine goesL_ (some 60) rfl rfl Try.func15 (by kernel_rfl) rfl #[.agg #[.int .i64 a0_0, .int .i64 a0_1], .bool a2, .int .i64 a3, .int .i64 a4] rfl (by (try simp only [List.map_toArray, List.map_cons, List.map_nil]); first | done | rfl | (simp only [List.length_drop, List.length_take]; rfl)) ?_; (with_reducible refine (xmp_Loss.calls a0_0 a0_1 a2 a3 a4 t162 t163 t164 _ A18.out).mono ?_); rintro e w39 ⟨rfl, hb⟩; refine ⟨_, rfl, ?_⟩; have n0_ := Aside0.mk (blk_below (g := gb147) (o := .cells #[.int .i64 a0_0, .int .i64 a0_1] 30 (0, 0)) (by (with_reducible repeat (first | refine blk_drewN ?_ _ | refine blk_drew ?_ | refine blk_alloc ?_ _)); refine blk_far ?_ NB147_161.out _; (with_reducible repeat (first | refine blk_drewN ?_ _ | refine blk_drew ?_ | refine blk_alloc ?_ _)); refine blk_far ?_ NB147_161.out _; (with_reducible repeat (first | refine blk_drewN ?_ _ | refine blk_drew ?_ | refine blk_alloc ?_ _)); exact BK147.out) hb); have n1_ := Aside0.mk (blk_below (g := gb153) (o := .cells #[.int .i64 t150, .int .i64 t151] 30 (0, 0)) (by (with_reducible repeat (first | refine blk_drewN ?_ _ | refine blk_drew ?_ | refine blk_alloc ?_ _)); refine blk_far ?_ NB153_161.out _; (with_reducible repeat (first | refine blk_drewN ?_ _ | refine blk_drew ?_ | refine blk_alloc ?_ _)); refine blk_far ?_ NB153_161.out _; (with_reducible repeat (first | refine blk_drewN ?_ _ | refine blk_drew ?_ | refine blk_alloc ?_ _)); exact BK153.out) hb); have n2_ := Aside0.mk (blk_below (g := gb157) (o := .cells #[.int .i64 t154, .int .i64 t155] 30 (0, 0)) (by (with_reducible repeat (first | refine blk_drewN ?_ _ | refine blk_drew ?_ | refine blk_alloc ?_ _)); refine blk_far ?_ NB157_161.out _; (with_reducible repeat (first | refine blk_drewN ?_ _ | refine blk_drew ?_ | refine blk_alloc ?_ _)); refine blk_far ?_ NB157_161.out _; (with_reducible repeat (first | refine blk_drewN ?_ _ | refine blk_drew ?_ | refine blk_alloc ?_ _)); exact BK157.out) hb); have n3_ := Aside0.mk (blk_below (g := gb161) (o := .cells #[.int .i64 t158, .int .i64 t159] 30 (0, 0)) (by (with_reducible repeat (first | refine blk_drewN ?_ _ | refine blk_drew ?_ | refine blk_alloc ?_ _)); refine blk_put (cs := #[.int .i64 t158, .int .i64 0]) ?_ 1 _ rfl; (with_reducible repeat (first | refine blk_drewN ?_ _ | refine blk_drew ?_ | refine blk_alloc ?_ _)); refine blk_put (cs := #[.int .i64 0, .int .i64 0]) ?_ 0 _ rfl; (with_reducible repeat (first | refine blk_drewN ?_ _ | refine blk_drew ?_ | refine blk_alloc ?_ _)); exact BK161.out) hb); have n4_ := Aside0.mk (below_step (by repeat (first | (with_reducible first | exact HB.out | apply below_alloc | apply pw_below_drewN | apply below_drew1 | refine below_set ?_ GE147.out | refine below_set ?_ GE153.out | refine below_set ?_ GE157.out | refine below_set ?_ GE161.out) | exact HB.out)) hb); clear BK147; clear BK153; clear BK157; clear BK161; clear HB; have BK147 := n0_; have BK153 := n1_; have BK157 := n2_; have BK161 := n3_; have HB := n4_; clear n0_ n1_ n2_ n3_ n4_; (try clear hb); (try clear hb2); (try clear hk); (try clear hi)) | ((with_reducible refine gate_dst (N := 18) rfl ?_); refine box_event ?hg (N := 18) ?hd (cs := #[.int .i64 0, .int .i64 0]) (t := 30) ?hr ?_; (case hd => rfl); (case hg => rfl); (case hr => first | (go_simp; done) | (go_simp; rfl)); intro gb165 hg w40 hbox hb; have n0_ := Aside0.mk (blk_below (g := gb147) (o := .cells #[.int .i64 a0_0, .int .i64 a0_1] 30 (0, 0)) (by (with_reducible repeat (first | refine blk_drewN ?_ _ | refine blk_drew ?_ | refine blk_alloc ?_ _)); exact BK147.out) hb); have n1_ := Aside0.mk (blk_below (g := gb153) (o := .cells #[.int .i64 t150, .int .i64 t151] 30 (0, 0)) (by (with_reducible repeat (first | refine blk_drewN ?_ _ | refine blk_drew ?_ | refine blk_alloc ?_ _)); exact BK153.out) hb); have n2_ := Aside0.mk (blk_below (g := gb157) (o := .cells #[.int .i64 t154, .int .i64 t155] 30 (0, 0)) (by (with_reducible repeat (first | refine blk_drewN ?_ _ | refine blk_drew ?_ | refine blk_alloc ?_ _)); exact BK157.out) hb); have n3_ := Aside0.mk (blk_below (g := gb161) (o := .cells #[.int .i64 t158, .int .i64 t159] 30 (0, 0)) (by (with_reducible repeat (first | refine blk_drewN ?_ _ | refine blk_drew ?_ | refine blk_alloc ?_ _)); exact BK161.out) hb); have n4_ := Aside0.mk (below_step (by repeat (first | (with_reducible first | exact HB.out | apply below_alloc | apply pw_below_drewN | apply below_drew1 | refine below_set ?_ GE147.out | refine below_set ?_ GE153.out | refine below_set ?_ GE157.out | refine below_set ?_ GE161.out) | exact HB.out)) hb); have n5_ := Aside0.mk (hbox); have n6_ := Aside0.mk ((by rw [hg]; exact (below_size (by repeat (first | (with_reducible first | exact HB.out | apply below_alloc | apply pw_below_drewN | apply below_drew1 | refine below_set ?_ GE147.out | refine below_set ?_ GE153.out | refine below_set ?_ GE157.out | refine below_set ?_ GE161.out) | exact HB.out))) : w.heap.size ≤ gb165)); have n7_ := Aside0.mk ((by rw [hg]; exact (below_size (by repeat (first | (with_reducible first | exact HB.out | apply below_alloc | apply pw_below_drewN | apply below_drew1 | refine below_set ?_ GE147.out | refine below_set ?_ GE153.out | refine below_set ?_ GE157.out | refine below_set ?_ GE161.out) | exact HB.out))) : w.heap.size ≤ gb165)); have n8_ := Aside0.mk ((by rw [hg]; exact Nat.ne_of_lt (blk_lt (g := gb147) (o := .cells #[.int .i64 a0_0, .int .i64 a0_1] 30 (0, 0)) (by (with_reducible repeat (first | refine blk_drewN ?_ _ | refine blk_drew ?_ | refine blk_alloc ?_ _)); exact BK147.out)) : gb147 ≠ gb165)); have n9_ := Aside0.mk ((by rw [hg]; exact Nat.ne_of_gt (blk_lt (g := gb147) (o := .cells #[.int .i64 a0_0, .int .i64 a0_1] 30 (0, 0)) (by (with_reducible repeat (first | refine blk_drewN ?_ _ | refine blk_drew ?_ | refine blk_alloc ?_ _)); exact BK147.out)) : gb165 ≠ gb147)); have n10_ := Aside0.mk ((by rw [hg]; exact Nat.ne_of_lt (blk_lt (g := gb153) (o := .cells #[.int .i64 t150, .int .i64 t151] 30 (0, 0)) (by (with_reducible repeat (first | refine blk_drewN ?_ _ | refine blk_drew ?_ | refine blk_alloc ?_ _)); exact BK153.out)) : gb153 ≠ gb165)); have n11_ := Aside0.mk ((by rw [hg]; exact Nat.ne_of_gt (blk_lt (g := gb153) (o := .cells #[.int .i64 t150, .int .i64 t151] 30 (0, 0)) (by (with_reducible repeat (first | refine blk_drewN ?_ _ | refine blk_drew ?_ | refine blk_alloc ?_ _)); exact BK153.out)) : gb165 ≠ gb153)); have n12_ := Aside0.mk ((by rw [hg]; exact Nat.ne_of_lt (blk_lt (g := gb157) (o := .cells #[.int .i64 t154, .int .i64 t155] 30 (0, 0)) (by (with_reducible repeat (first | refine blk_drewN ?_ _ | refine blk_drew ?_ | refine blk_alloc ?_ _)); exact BK157.out)) : gb157 ≠ gb165)); have n13_ := Aside0.mk ((by rw [hg]; exact Nat.ne_of_gt (blk_lt (g := gb157) (o := .cells #[.int .i64 t154, .int .i64 t155] 30 (0, 0)) (by (with_reducible repeat (first | refine blk_drewN ?_ _ | refine blk_drew ?_ | refine blk_alloc ?_ _)); exact BK157.out)) : gb165 ≠ gb157)); have n14_ := Aside0.mk ((by rw [hg]; exact Nat.ne_of_lt (blk_lt (g := gb161) (o := .cells #[.int .i64 t158, .int .i64 t159] 30 (0, 0)) (by (with_reducible repeat (first | refine blk_drewN ?_ _ | refine blk_drew ?_ | refine blk_alloc ?_ _)); exact BK161.out)) : gb161 ≠ gb165)); have n15_ := Aside0.mk ((by rw [hg]; exact Nat.ne_of_gt (blk_lt (g := gb161) (o := .cells #[.int .i64 t158, .int .i64 t159] 30 (0, 0)) (by (with_reducible repeat (first | refine blk_drewN ?_ _ | refine blk_drew ?_ | refine blk_alloc ?_ _)); exact BK161.out)) : gb165 ≠ gb161)); clear BK147; clear BK153; clear BK157; clear BK161; clear HB; have BK147 := n0_; have BK153 := n1_; have BK157 := n2_; have BK161 := n3_; have HB := n4_; have BK165 := n5_; have GW165 := n6_; have GE165 := n7_; have NB147_165 := n8_; have NB165_147 := n9_; have NB153_165 := n10_; have NB165_153 := n11_; have NB157_165 := n12_; have NB165_157 := n13_; have NB161_165 := n14_; have NB165_161 := n15_; clear n0_ n1_ n2_ n3_ n4_ n5_ n6_ n7_ n8_ n9_ n10_ n11_ n12_ n13_ n14_ n15_; clear hb hbox hg; have hnb41 := NB165_147.out; have hnc41 := NB147_165.out; have hnb42 := NB165_153.out; have hnc42 := NB153_165.out; have hnb43 := NB165_157.out; have hnc43 := NB157_165.out; have hnb44 := NB165_161.out; have hnc44 := NB161_165.out; have hcz45_0 : w40.cell? ⟨gb165, 0, none⟩ = some (.int .i64 0) := (blk_cell BK165.out 0).trans rfl; have hcz45_1 : w40.cell? ⟨gb165, 1, none⟩ = some (.int .i64 0) := (blk_cell BK165.out 1).trans rfl; have hfz45_0 := blk_frozen BK165.out 0; have hfz45_1 := blk_frozen BK165.out 1))
          (try simp only [Act.put, List.setIfInBounds_toArray, List.set_cons_zero, List.set_cons_succ])
          go_cut [99] (fun v99 wc => ∃ (kq : Nat) (x99_18 : Bool), v99 = .bool x99_18 ∧ Aside0 (fourinhandlaw15_XmpBounds.j1 kq a1 a2 a3 a4 t156 t160 t164 x99_18 a0_0 a0_1 t154 t155 t158 t159 t162 t163 = some r) ∧ Aside0 (kq ≤ kj6) ∧ Aside0 (wc.heap[gb147]? = some (.cells #[.int .i64 a0_0, .int .i64 a0_1] 30 (0, 0))) ∧ Aside0 (wc.heap[gb153]? = some (.cells #[.int .i64 t150, .int .i64 t151] 30 (0, 0))) ∧ Aside0 (wc.heap[gb157]? = some (.cells #[.int .i64 t154, .int .i64 t155] 30 (0, 0))) ∧ Aside0 (wc.heap[gb161]? = some (.cells #[.int .i64 t158, .int .i64 t159] 30 (0, 0))) ∧ Aside0 (wc.heap[gb165]? = some (.cells #[.int .i64 t162, .int .i64 t163] 30 (0, 0))) ∧ Aside0 (Below w.heap.size w wc))
          case first =>
            have H := HC19.out
            clear HC19
            by_cases c46 : t152 = 0
            · rw [if_pos c46] at H
              have c46b0 : (t152 == 0) = true := beq_iff_eq.mpr c46
              have c46b1 : (t152 != 0) = false := bne_eq_false_iff_eq.mpr c46
              clear c46
              (first | rw [c46b0] | (simp only [i64_w, i32_w]; rw [c46b0]) | skip)
              replace H := Option.bind_eq_some_iff.mp H
              obtain ⟨t166, A470, H⟩ := H
              replace H : (if t166 = true then (if t150 < a0_0 then (fourinhandlaw15_XmpBounds.j1 kj6 a1 a2 a3 a4 t156 t160 t164 true a0_0 a0_1 t154 t155 t158 t159 t162 t163) else (if t150 > a0_0 then (if t150 > a0_1 then (fourinhandlaw15_XmpBounds.j1 kj6 a1 a2 a3 a4 t156 t160 t164 true a0_0 a0_1 t154 t155 t158 t159 t162 t163) else (fourinhandlaw15_XmpBounds.j1 kj6 a1 a2 a3 a4 t156 t160 t164 (t151 != a0_1) a0_0 a0_1 t154 t155 t158 t159 t162 t163)) else (fourinhandlaw15_XmpBounds.j1 kj6 a1 a2 a3 a4 t156 t160 t164 (t151 != a0_1) a0_0 a0_1 t154 t155 t158 t159 t162 t163))) else (fourinhandlaw15_XmpBounds.j1 kj6 a1 a2 a3 a4 t156 t160 t164 true a0_0 a0_1 t154 t155 t158 t159 t162 t163)) = some r := H
              have A47 := Aside0.mk A470
              clear A470
              by_cases c48 : t166 = true
              · subst c48
                have H1 : (if t150 < a0_0 then (fourinhandlaw15_XmpBounds.j1 kj6 a1 a2 a3 a4 t156 t160 t164 true a0_0 a0_1 t154 t155 t158 t159 t162 t163) else (if t150 > a0_0 then (if t150 > a0_1 then (fourinhandlaw15_XmpBounds.j1 kj6 a1 a2 a3 a4 t156 t160 t164 true a0_0 a0_1 t154 t155 t158 t159 t162 t163) else (fourinhandlaw15_XmpBounds.j1 kj6 a1 a2 a3 a4 t156 t160 t164 (t151 != a0_1) a0_0 a0_1 t154 t155 t158 t159 t162 t163)) else (fourinhandlaw15_XmpBounds.j1 kj6 a1 a2 a3 a4 t156 t160 t164 (t151 != a0_1) a0_0 a0_1 t154 t155 t158 t159 t162 t163))) = some r := by rw [if_pos rfl] at H; exact H
                clear H
                have H := H1
                clear H1
                by_cases c49 : t150 < a0_0
                · rw [if_pos c49] at H
                  have c49b0 : decide (t150 < a0_0) = true := decide_eq_true c49
                  clear c49
                  have H' := Aside0.mk H
                  clear H
                  have hnb50 := NB153_147.out
                  have hnc50 := NB147_153.out
                  have hnb51 := NB153_157.out
                  have hnc51 := NB157_153.out
                  have hnb52 := NB153_161.out
                  have hnc52 := NB161_153.out
                  have hnb53 := NB153_165.out
                  have hnc53 := NB165_153.out
                  have hcz54_0 : w40.cell? ⟨gb153, 0, none⟩ = some (.int .i64 t150) := (blk_cell BK153.out 0).trans rfl
                  have hcz54_1 : w40.cell? ⟨gb153, 1, none⟩ = some (.int .i64 t151) := (blk_cell BK153.out 1).trans rfl
                  have hfz54_0 := blk_frozen BK153.out 0
                  have hfz54_1 := blk_frozen BK153.out 1
                  go_wp2_with (first | (go_at_call 11; (with_reducible refine (xmp_May.calls t150 t151 a3 a4 true _ A47.out).mono ?_); rintro e w55 ⟨rfl, hb⟩; have n0_ := Aside0.mk (blk_below (g := gb147) (o := .cells #[.int .i64 a0_0, .int .i64 a0_1] 30 (0, 0)) (by (with_reducible repeat (first | refine blk_drewN ?_ _ | refine blk_drew ?_ | refine blk_alloc ?_ _)); refine blk_far ?_ NB147_165.out _; (with_reducible repeat (first | refine blk_drewN ?_ _ | refine blk_drew ?_ | refine blk_alloc ?_ _)); refine blk_far ?_ NB147_165.out _; (with_reducible repeat (first | refine blk_drewN ?_ _ | refine blk_drew ?_ | refine blk_alloc ?_ _)); exact BK147.out) hb); have n1_ := Aside0.mk (blk_below (g := gb153) (o := .cells #[.int .i64 t150, .int .i64 t151] 30 (0, 0)) (by (with_reducible repeat (first | refine blk_drewN ?_ _ | refine blk_drew ?_ | refine blk_alloc ?_ _)); refine blk_far ?_ NB153_165.out _; (with_reducible repeat (first | refine blk_drewN ?_ _ | refine blk_drew ?_ | refine blk_alloc ?_ _)); refine blk_far ?_ NB153_165.out _; (with_reducible repeat (first | refine blk_drewN ?_ _ | refine blk_drew ?_ | refine blk_alloc ?_ _)); exact BK153.out) hb); have n2_ := Aside0.mk (blk_below (g := gb157) (o := .cells #[.int .i64 t154, .int .i64 t155] 30 (0, 0)) (by (with_reducible repeat (first | refine blk_drewN ?_ _ | refine blk_drew ?_ | refine blk_alloc ?_ _)); refine blk_far ?_ NB157_165.out _; (with_reducible repeat (first | refine blk_drewN ?_ _ | refine blk_drew ?_ | refine blk_alloc ?_ _)); refine blk_far ?_ NB157_165.out _; (with_reducible repeat (first | refine blk_drewN ?_ _ | refine blk_drew ?_ | refine blk_alloc ?_ _)); exact BK157.out) hb); have n3_ := Aside0.mk (blk_below (g := gb161) (o := .cells #[.int .i64 t158, .int .i64 t159] 30 (0, 0)) (by (with_reducible repeat (first | refine blk_drewN ?_ _ | refine blk_drew ?_ | refine blk_alloc ?_ _)); refine blk_far ?_ NB161_165.out _; (with_reducible repeat (first | refine blk_drewN ?_ _ | refine blk_drew ?_ | refine blk_alloc ?_ _)); refine blk_far ?_ NB161_165.out _; (with_reducible repeat (first | refine blk_drewN ?_ _ | refine blk_drew ?_ | refine blk_alloc ?_ _)); exact BK161.out) hb); have n4_ := Aside0.mk (blk_below (g := gb165) (o := .cells #[.int .i64 t162, .int .i64 t163] 30 (0, 0)) (by (with_reducible repeat (first | refine blk_drewN ?_ _ | refine blk_drew ?_ | refine blk_alloc ?_ _)); refine blk_put (cs := #[.int .i64 t162, .int .i64 0]) ?_ 1 _ rfl; (with_reducible repeat (first | refine blk_drewN ?_ _ | refine blk_drew ?_ | refine blk_alloc ?_ _)); refine blk_put (cs := #[.int .i64 0, .int .i64 0]) ?_ 0 _ rfl; (with_reducible repeat (first | refine blk_drewN ?_ _ | refine blk_drew ?_ | refine blk_alloc ?_ _)); exact BK165.out) hb); have n5_ := Aside0.mk (below_step (by repeat (first | (with_reducible first | exact HB.out | apply below_alloc | apply pw_below_drewN | apply below_drew1 | refine below_set ?_ GE147.out | refine below_set ?_ GE153.out | refine below_set ?_ GE157.out | refine below_set ?_ GE161.out | refine below_set ?_ GE165.out) | exact HB.out)) hb); clear BK147; clear BK153; clear BK157; clear BK161; clear BK165; clear HB; have BK147 := n0_; have BK153 := n1_; have BK157 := n2_; have BK161 := n3_; have BK165 := n4_; have HB := n5_; clear n0_ n1_ n2_ n3_ n4_ n5_; (try clear hb); (try clear hb2); (try clear hk); (try clear hi); have hcz56_0 : w55.cell? ⟨gb153, 0, none⟩ = some (.int .i64 t150) := (blk_cell BK153.out 0).trans rfl; have hcz56_1 : w55.cell? ⟨gb153, 1, none⟩ = some (.int .i64 t151) := (blk_cell BK153.out 1).trans rfl; have hfz56_0 := blk_frozen BK153.out 0; have hfz56_1 := blk_frozen BK153.out 1; have hnb57 := NB147_157.out; have hnc57 := NB157_147.out; have hnb58 := NB147_161.out; have hnc58 := NB161_147.out; have hnb59 := NB147_165.out; have hnc59 := NB165_147.out; have hcz60_0 : w55.cell? ⟨gb147, 0, none⟩ = some (.int .i64 a0_0) := (blk_cell BK147.out 0).trans rfl; have hcz60_1 : w55.cell? ⟨gb147, 1, none⟩ = some (.int .i64 a0_1) := (blk_cell BK147.out 1).trans rfl; have hfz60_0 := blk_frozen BK147.out 0; have hfz60_1 := blk_frozen BK147.out 1))
                  go_meet
                  case rel => exact ⟨_, (true), (by first | rfl | (simp; done) | (simp [*]; done)), H', ⟨by have := HJ6.out; first | omega | exact Nat.le_refl _⟩, ⟨by (with_reducible repeat (first | refine blk_drewN ?_ _ | refine blk_drew ?_ | refine blk_alloc ?_ _)); exact BK147.out⟩, ⟨by (with_reducible repeat (first | refine blk_drewN ?_ _ | refine blk_drew ?_ | refine blk_alloc ?_ _)); exact BK153.out⟩, ⟨by (with_reducible repeat (first | refine blk_drewN ?_ _ | refine blk_drew ?_ | refine blk_alloc ?_ _)); exact BK157.out⟩, ⟨by (with_reducible repeat (first | refine blk_drewN ?_ _ | refine blk_drew ?_ | refine blk_alloc ?_ _)); exact BK161.out⟩, ⟨by (with_reducible repeat (first | refine blk_drewN ?_ _ | refine blk_drew ?_ | refine blk_alloc ?_ _)); exact BK165.out⟩, ⟨by repeat (first | (with_reducible first | exact HB.out | apply below_alloc | apply pw_below_drewN | apply below_drew1 | refine below_set ?_ GE147.out | refine below_set ?_ GE153.out | refine below_set ?_ GE157.out | refine below_set ?_ GE161.out | refine below_set ?_ GE165.out) | exact HB.out)⟩⟩
                · rw [if_neg c49] at H
                  have c49b0 : decide (t150 < a0_0) = false := decide_eq_false c49
                  clear c49
                  by_cases c61 : t150 > a0_0
                  · rw [if_pos c61] at H
                    have c61b0 : decide (a0_0 < t150) = true := decide_eq_true c61
                    clear c61
                    by_cases c62 : t150 > a0_1
                    · rw [if_pos c62] at H
                      have c62b0 : decide (a0_1 < t150) = true := decide_eq_true c62
                      clear c62
                      have H' := Aside0.mk H
                      clear H
                      have hnb63 := NB153_147.out
                      have hnc63 := NB147_153.out
                      have hnb64 := NB153_157.out
                      have hnc64 := NB157_153.out
                      have hnb65 := NB153_161.out
                      have hnc65 := NB161_153.out
                      have hnb66 := NB153_165.out
                      have hnc66 := NB165_153.out
                      have hcz67_0 : w40.cell? ⟨gb153, 0, none⟩ = some (.int .i64 t150) := (blk_cell BK153.out 0).trans rfl
                      have hcz67_1 : w40.cell? ⟨gb153, 1, none⟩ = some (.int .i64 t151) := (blk_cell BK153.out 1).trans rfl
                      have hfz67_0 := blk_frozen BK153.out 0
                      have hfz67_1 := blk_frozen BK153.out 1
                      go_wp2_with (first | (go_at_call 11; (with_reducible refine (xmp_May.calls t150 t151 a3 a4 true _ A47.out).mono ?_); rintro e w68 ⟨rfl, hb⟩; have n0_ := Aside0.mk (blk_below (g := gb147) (o := .cells #[.int .i64 a0_0, .int .i64 a0_1] 30 (0, 0)) (by (with_reducible repeat (first | refine blk_drewN ?_ _ | refine blk_drew ?_ | refine blk_alloc ?_ _)); refine blk_far ?_ NB147_165.out _; (with_reducible repeat (first | refine blk_drewN ?_ _ | refine blk_drew ?_ | refine blk_alloc ?_ _)); refine blk_far ?_ NB147_165.out _; (with_reducible repeat (first | refine blk_drewN ?_ _ | refine blk_drew ?_ | refine blk_alloc ?_ _)); exact BK147.out) hb); have n1_ := Aside0.mk (blk_below (g := gb153) (o := .cells #[.int .i64 t150, .int .i64 t151] 30 (0, 0)) (by (with_reducible repeat (first | refine blk_drewN ?_ _ | refine blk_drew ?_ | refine blk_alloc ?_ _)); refine blk_far ?_ NB153_165.out _; (with_reducible repeat (first | refine blk_drewN ?_ _ | refine blk_drew ?_ | refine blk_alloc ?_ _)); refine blk_far ?_ NB153_165.out _; (with_reducible repeat (first | refine blk_drewN ?_ _ | refine blk_drew ?_ | refine blk_alloc ?_ _)); exact BK153.out) hb); have n2_ := Aside0.mk (blk_below (g := gb157) (o := .cells #[.int .i64 t154, .int .i64 t155] 30 (0, 0)) (by (with_reducible repeat (first | refine blk_drewN ?_ _ | refine blk_drew ?_ | refine blk_alloc ?_ _)); refine blk_far ?_ NB157_165.out _; (with_reducible repeat (first | refine blk_drewN ?_ _ | refine blk_drew ?_ | refine blk_alloc ?_ _)); refine blk_far ?_ NB157_165.out _; (with_reducible repeat (first | refine blk_drewN ?_ _ | refine blk_drew ?_ | refine blk_alloc ?_ _)); exact BK157.out) hb); have n3_ := Aside0.mk (blk_below (g := gb161) (o := .cells #[.int .i64 t158, .int .i64 t159] 30 (0, 0)) (by (with_reducible repeat (first | refine blk_drewN ?_ _ | refine blk_drew ?_ | refine blk_alloc ?_ _)); refine blk_far ?_ NB161_165.out _; (with_reducible repeat (first | refine blk_drewN ?_ _ | refine blk_drew ?_ | refine blk_alloc ?_ _)); refine blk_far ?_ NB161_165.out _; (with_reducible repeat (first | refine blk_drewN ?_ _ | refine blk_drew ?_ | refine blk_alloc ?_ _)); exact BK161.out) hb); have n4_ := Aside0.mk (blk_below (g := gb165) (o := .cells #[.int .i64 t162, .int .i64 t163] 30 (0, 0)) (by (with_reducible repeat (first | refine blk_drewN ?_ _ | refine blk_drew ?_ | refine blk_alloc ?_ _)); refine blk_put (cs := #[.int .i64 t162, .int .i64 0]) ?_ 1 _ rfl; (with_reducible repeat (first | refine blk_drewN ?_ _ | refine blk_drew ?_ | refine blk_alloc ?_ _)); refine blk_put (cs := #[.int .i64 0, .int .i64 0]) ?_ 0 _ rfl; (with_reducible repeat (first | refine blk_drewN ?_ _ | refine blk_drew ?_ | refine blk_alloc ?_ _)); exact BK165.out) hb); have n5_ := Aside0.mk (below_step (by repeat (first | (with_reducible first | exact HB.out | apply below_alloc | apply pw_below_drewN | apply below_drew1 | refine below_set ?_ GE147.out | refine below_set ?_ GE153.out | refine below_set ?_ GE157.out | refine below_set ?_ GE161.out | refine below_set ?_ GE165.out) | exact HB.out)) hb); clear BK147; clear BK153; clear BK157; clear BK161; clear BK165; clear HB; have BK147 := n0_; have BK153 := n1_; have BK157 := n2_; have BK161 := n3_; have BK165 := n4_; have HB := n5_; clear n0_ n1_ n2_ n3_ n4_ n5_; (try clear hb); (try clear hb2); (try clear hk); (try clear hi); have hcz69_0 : w68.cell? ⟨gb153, 0, none⟩ = some (.int .i64 t150) := (blk_cell BK153.out 0).trans rfl; have hcz69_1 : w68.cell? ⟨gb153, 1, none⟩ = some (.int .i64 t151) := (blk_cell BK153.out 1).trans rfl; have hfz69_0 := blk_frozen BK153.out 0; have hfz69_1 := blk_frozen BK153.out 1; have hnb70 := NB147_157.out; have hnc70 := NB157_147.out; have hnb71 := NB147_161.out; have hnc71 := NB161_147.out; have hnb72 := NB147_165.out; have hnc72 := NB165_147.out; have hcz73_0 : w68.cell? ⟨gb147, 0, none⟩ = some (.int .i64 a0_0) := (blk_cell BK147.out 0).trans rfl; have hcz73_1 : w68.cell? ⟨gb147, 1, none⟩ = some (.int .i64 a0_1) := (blk_cell BK147.out 1).trans rfl; have hfz73_0 := blk_frozen BK147.out 0; have hfz73_1 := blk_frozen BK147.out 1))
                      go_meet
                      case rel => exact ⟨_, (true), (by first | rfl | (simp; done) | (simp [*]; done)), H', ⟨by have := HJ6.out; first | omega | exact Nat.le_refl _⟩, ⟨by (with_reducible repeat (first | refine blk_drewN ?_ _ | refine blk_drew ?_ | refine blk_alloc ?_ _)); exact BK147.out⟩, ⟨by (with_reducible repeat (first | refine blk_drewN ?_ _ | refine blk_drew ?_ | refine blk_alloc ?_ _)); exact BK153.out⟩, ⟨by (with_reducible repeat (first | refine blk_drewN ?_ _ | refine blk_drew ?_ | refine blk_alloc ?_ _)); exact BK157.out⟩, ⟨by (with_reducible repeat (first | refine blk_drewN ?_ _ | refine blk_drew ?_ | refine blk_alloc ?_ _)); exact BK161.out⟩, ⟨by (with_reducible repeat (first | refine blk_drewN ?_ _ | refine blk_drew ?_ | refine blk_alloc ?_ _)); exact BK165.out⟩, ⟨by repeat (first | (with_reducible first | exact HB.out | apply below_alloc | apply pw_below_drewN | apply below_drew1 | refine below_set ?_ GE147.out | refine below_set ?_ GE153.out | refine below_set ?_ GE157.out | refine below_set ?_ GE161.out | refine below_set ?_ GE165.out) | exact HB.out)⟩⟩
                    · rw [if_neg c62] at H
                      have c62b0 : decide (a0_1 < t150) = false := decide_eq_false c62
                      clear c62
                      have H' := Aside0.mk H
                      clear H
                      have hnb74 := NB153_147.out
                      have hnc74 := NB147_153.out
                      have hnb75 := NB153_157.out
                      have hnc75 := NB157_153.out
                      have hnb76 := NB153_161.out
                      have hnc76 := NB161_153.out
                      have hnb77 := NB153_165.out
                      have hnc77 := NB165_153.out
                      have hcz78_0 : w40.cell? ⟨gb153, 0, none⟩ = some (.int .i64 t150) := (blk_cell BK153.out 0).trans rfl
                      have hcz78_1 : w40.cell? ⟨gb153, 1, none⟩ = some (.int .i64 t151) := (blk_cell BK153.out 1).trans rfl
                      have hfz78_0 := blk_frozen BK153.out 0
                      have hfz78_1 := blk_frozen BK153.out 1
                      go_wp2_with (first | (go_at_call 11; (with_reducible refine (xmp_May.calls t150 t151 a3 a4 true _ A47.out).mono ?_); rintro e w79 ⟨rfl, hb⟩; have n0_ := Aside0.mk (blk_below (g := gb147) (o := .cells #[.int .i64 a0_0, .int .i64 a0_1] 30 (0, 0)) (by (with_reducible repeat (first | refine blk_drewN ?_ _ | refine blk_drew ?_ | refine blk_alloc ?_ _)); refine blk_far ?_ NB147_165.out _; (with_reducible repeat (first | refine blk_drewN ?_ _ | refine blk_drew ?_ | refine blk_alloc ?_ _)); refine blk_far ?_ NB147_165.out _; (with_reducible repeat (first | refine blk_drewN ?_ _ | refine blk_drew ?_ | refine blk_alloc ?_ _)); exact BK147.out) hb); have n1_ := Aside0.mk (blk_below (g := gb153) (o := .cells #[.int .i64 t150, .int .i64 t151] 30 (0, 0)) (by (with_reducible repeat (first | refine blk_drewN ?_ _ | refine blk_drew ?_ | refine blk_alloc ?_ _)); refine blk_far ?_ NB153_165.out _; (with_reducible repeat (first | refine blk_drewN ?_ _ | refine blk_drew ?_ | refine blk_alloc ?_ _)); refine blk_far ?_ NB153_165.out _; (with_reducible repeat (first | refine blk_drewN ?_ _ | refine blk_drew ?_ | refine blk_alloc ?_ _)); exact BK153.out) hb); have n2_ := Aside0.mk (blk_below (g := gb157) (o := .cells #[.int .i64 t154, .int .i64 t155] 30 (0, 0)) (by (with_reducible repeat (first | refine blk_drewN ?_ _ | refine blk_drew ?_ | refine blk_alloc ?_ _)); refine blk_far ?_ NB157_165.out _; (with_reducible repeat (first | refine blk_drewN ?_ _ | refine blk_drew ?_ | refine blk_alloc ?_ _)); refine blk_far ?_ NB157_165.out _; (with_reducible repeat (first | refine blk_drewN ?_ _ | refine blk_drew ?_ | refine blk_alloc ?_ _)); exact BK157.out) hb); have n3_ := Aside0.mk (blk_below (g := gb161) (o := .cells #[.int .i64 t158, .int .i64 t159] 30 (0, 0)) (by (with_reducible repeat (first | refine blk_drewN ?_ _ | refine blk_drew ?_ | refine blk_alloc ?_ _)); refine blk_far ?_ NB161_165.out _; (with_reducible repeat (first | refine blk_drewN ?_ _ | refine blk_drew ?_ | refine blk_alloc ?_ _)); refine blk_far ?_ NB161_165.out _; (with_reducible repeat (first | refine blk_drewN ?_ _ | refine blk_drew ?_ | refine blk_alloc ?_ _)); exact BK161.out) hb); have n4_ := Aside0.mk (blk_below (g := gb165) (o := .cells #[.int .i64 t162, .int .i64 t163] 30 (0, 0)) (by (with_reducible repeat (first | refine blk_drewN ?_ _ | refine blk_drew ?_ | refine blk_alloc ?_ _)); refine blk_put (cs := #[.int .i64 t162, .int .i64 0]) ?_ 1 _ rfl; (with_reducible repeat (first | refine blk_drewN ?_ _ | refine blk_drew ?_ | refine blk_alloc ?_ _)); refine blk_put (cs := #[.int .i64 0, .int .i64 0]) ?_ 0 _ rfl; (with_reducible repeat (first | refine blk_drewN ?_ _ | refine blk_drew ?_ | refine blk_alloc ?_ _)); exact BK165.out) hb); have n5_ := Aside0.mk (below_step (by repeat (first | (with_reducible first | exact HB.out | apply below_alloc | apply pw_below_drewN | apply below_drew1 | refine below_set ?_ GE147.out | refine below_set ?_ GE153.out | refine below_set ?_ GE157.out | refine below_set ?_ GE161.out | refine below_set ?_ GE165.out) | exact HB.out)) hb); clear BK147; clear BK153; clear BK157; clear BK161; clear BK165; clear HB; have BK147 := n0_; have BK153 := n1_; have BK157 := n2_; have BK161 := n3_; have BK165 := n4_; have HB := n5_; clear n0_ n1_ n2_ n3_ n4_ n5_; (try clear hb); (try clear hb2); (try clear hk); (try clear hi); have hcz80_0 : w79.cell? ⟨gb153, 0, none⟩ = some (.int .i64 t150) := (blk_cell BK153.out 0).trans rfl; have hcz80_1 : w79.cell? ⟨gb153, 1, none⟩ = some (.int .i64 t151) := (blk_cell BK153.out 1).trans rfl; have hfz80_0 := blk_frozen BK153.out 0; have hfz80_1 := blk_frozen BK153.out 1; have hnb81 := NB147_157.out; have hnc81 := NB157_147.out; have hnb82 := NB147_161.out; have hnc82 := NB161_147.out; have hnb83 := NB147_165.out; have hnc83 := NB165_147.out; have hcz84_0 : w79.cell? ⟨gb147, 0, none⟩ = some (.int .i64 a0_0) := (blk_cell BK147.out 0).trans rfl; have hcz84_1 : w79.cell? ⟨gb147, 1, none⟩ = some (.int .i64 a0_1) := (blk_cell BK147.out 1).trans rfl; have hfz84_0 := blk_frozen BK147.out 0; have hfz84_1 := blk_frozen BK147.out 1))
                      go_meet
                      case rel => exact ⟨_, ((t151 != a0_1)), (by first | rfl | (simp; done) | (simp [*]; done)), H', ⟨by have := HJ6.out; first | omega | exact Nat.le_refl _⟩, ⟨by (with_reducible repeat (first | refine blk_drewN ?_ _ | refine blk_drew ?_ | refine blk_alloc ?_ _)); exact BK147.out⟩, ⟨by (with_reducible repeat (first | refine blk_drewN ?_ _ | refine blk_drew ?_ | refine blk_alloc ?_ _)); exact BK153.out⟩, ⟨by (with_reducible repeat (first | refine blk_drewN ?_ _ | refine blk_drew ?_ | refine blk_alloc ?_ _)); exact BK157.out⟩, ⟨by (with_reducible repeat (first | refine blk_drewN ?_ _ | refine blk_drew ?_ | refine blk_alloc ?_ _)); exact BK161.out⟩, ⟨by (with_reducible repeat (first | refine blk_drewN ?_ _ | refine blk_drew ?_ | refine blk_alloc ?_ _)); exact BK165.out⟩, ⟨by repeat (first | (with_reducible first | exact HB.out | apply below_alloc | apply pw_below_drewN | apply below_drew1 | refine below_set ?_ GE147.out | refine below_set ?_ GE153.out | refine below_set ?_ GE157.out | refine below_set ?_ GE161.out | refine below_set ?_ GE165.out) | exact HB.out)⟩⟩
                  · rw [if_neg c61] at H
                    have c61b0 : decide (a0_0 < t150) = false := decide_eq_false c61
                    clear c61
                    have H' := Aside0.mk H
                    clear H
                    have hnb85 := NB153_147.out
                    have hnc85 := NB147_153.out
                    have hnb86 := NB153_157.out
                    have hnc86 := NB157_153.out
                    have hnb87 := NB153_161.out
                    have hnc87 := NB161_153.out
                    have hnb88 := NB153_165.out
                    have hnc88 := NB165_153.out
                    have hcz89_0 : w40.cell? ⟨gb153, 0, none⟩ = some (.int .i64 t150) := (blk_cell BK153.out 0).trans rfl
                    have hcz89_1 : w40.cell? ⟨gb153, 1, none⟩ = some (.int .i64 t151) := (blk_cell BK153.out 1).trans rfl
                    have hfz89_0 := blk_frozen BK153.out 0
                    have hfz89_1 := blk_frozen BK153.out 1
                    go_wp2_with (first | (go_at_call 11; (with_reducible refine (xmp_May.calls t150 t151 a3 a4 true _ A47.out).mono ?_); rintro e w90 ⟨rfl, hb⟩; have n0_ := Aside0.mk (blk_below (g := gb147) (o := .cells #[.int .i64 a0_0, .int .i64 a0_1] 30 (0, 0)) (by (with_reducible repeat (first | refine blk_drewN ?_ _ | refine blk_drew ?_ | refine blk_alloc ?_ _)); refine blk_far ?_ NB147_165.out _; (with_reducible repeat (first | refine blk_drewN ?_ _ | refine blk_drew ?_ | refine blk_alloc ?_ _)); refine blk_far ?_ NB147_165.out _; (with_reducible repeat (first | refine blk_drewN ?_ _ | refine blk_drew ?_ | refine blk_alloc ?_ _)); exact BK147.out) hb); have n1_ := Aside0.mk (blk_below (g := gb153) (o := .cells #[.int .i64 t150, .int .i64 t151] 30 (0, 0)) (by (with_reducible repeat (first | refine blk_drewN ?_ _ | refine blk_drew ?_ | refine blk_alloc ?_ _)); refine blk_far ?_ NB153_165.out _; (with_reducible repeat (first | refine blk_drewN ?_ _ | refine blk_drew ?_ | refine blk_alloc ?_ _)); refine blk_far ?_ NB153_165.out _; (with_reducible repeat (first | refine blk_drewN ?_ _ | refine blk_drew ?_ | refine blk_alloc ?_ _)); exact BK153.out) hb); have n2_ := Aside0.mk (blk_below (g := gb157) (o := .cells #[.int .i64 t154, .int .i64 t155] 30 (0, 0)) (by (with_reducible repeat (first | refine blk_drewN ?_ _ | refine blk_drew ?_ | refine blk_alloc ?_ _)); refine blk_far ?_ NB157_165.out _; (with_reducible repeat (first | refine blk_drewN ?_ _ | refine blk_drew ?_ | refine blk_alloc ?_ _)); refine blk_far ?_ NB157_165.out _; (with_reducible repeat (first | refine blk_drewN ?_ _ | refine blk_drew ?_ | refine blk_alloc ?_ _)); exact BK157.out) hb); have n3_ := Aside0.mk (blk_below (g := gb161) (o := .cells #[.int .i64 t158, .int .i64 t159] 30 (0, 0)) (by (with_reducible repeat (first | refine blk_drewN ?_ _ | refine blk_drew ?_ | refine blk_alloc ?_ _)); refine blk_far ?_ NB161_165.out _; (with_reducible repeat (first | refine blk_drewN ?_ _ | refine blk_drew ?_ | refine blk_alloc ?_ _)); refine blk_far ?_ NB161_165.out _; (with_reducible repeat (first | refine blk_drewN ?_ _ | refine blk_drew ?_ | refine blk_alloc ?_ _)); exact BK161.out) hb); have n4_ := Aside0.mk (blk_below (g := gb165) (o := .cells #[.int .i64 t162, .int .i64 t163] 30 (0, 0)) (by (with_reducible repeat (first | refine blk_drewN ?_ _ | refine blk_drew ?_ | refine blk_alloc ?_ _)); refine blk_put (cs := #[.int .i64 t162, .int .i64 0]) ?_ 1 _ rfl; (with_reducible repeat (first | refine blk_drewN ?_ _ | refine blk_drew ?_ | refine blk_alloc ?_ _)); refine blk_put (cs := #[.int .i64 0, .int .i64 0]) ?_ 0 _ rfl; (with_reducible repeat (first | refine blk_drewN ?_ _ | refine blk_drew ?_ | refine blk_alloc ?_ _)); exact BK165.out) hb); have n5_ := Aside0.mk (below_step (by repeat (first | (with_reducible first | exact HB.out | apply below_alloc | apply pw_below_drewN | apply below_drew1 | refine below_set ?_ GE147.out | refine below_set ?_ GE153.out | refine below_set ?_ GE157.out | refine below_set ?_ GE161.out | refine below_set ?_ GE165.out) | exact HB.out)) hb); clear BK147; clear BK153; clear BK157; clear BK161; clear BK165; clear HB; have BK147 := n0_; have BK153 := n1_; have BK157 := n2_; have BK161 := n3_; have BK165 := n4_; have HB := n5_; clear n0_ n1_ n2_ n3_ n4_ n5_; (try clear hb); (try clear hb2); (try clear hk); (try clear hi); have hcz91_0 : w90.cell? ⟨gb153, 0, none⟩ = some (.int .i64 t150) := (blk_cell BK153.out 0).trans rfl; have hcz91_1 : w90.cell? ⟨gb153, 1, none⟩ = some (.int .i64 t151) := (blk_cell BK153.out 1).trans rfl; have hfz91_0 := blk_frozen BK153.out 0; have hfz91_1 := blk_frozen BK153.out 1; have hnb92 := NB147_157.out; have hnc92 := NB157_147.out; have hnb93 := NB147_161.out; have hnc93 := NB161_147.out; have hnb94 := NB147_165.out; have hnc94 := NB165_147.out; have hcz95_0 : w90.cell? ⟨gb147, 0, none⟩ = some (.int .i64 a0_0) := (blk_cell BK147.out 0).trans rfl; have hcz95_1 : w90.cell? ⟨gb147, 1, none⟩ = some (.int .i64 a0_1) := (blk_cell BK147.out 1).trans rfl; have hfz95_0 := blk_frozen BK147.out 0; have hfz95_1 := blk_frozen BK147.out 1))
                    go_meet
                    case rel => exact ⟨_, ((t151 != a0_1)), (by first | rfl | (simp; done) | (simp [*]; done)), H', ⟨by have := HJ6.out; first | omega | exact Nat.le_refl _⟩, ⟨by (with_reducible repeat (first | refine blk_drewN ?_ _ | refine blk_drew ?_ | refine blk_alloc ?_ _)); exact BK147.out⟩, ⟨by (with_reducible repeat (first | refine blk_drewN ?_ _ | refine blk_drew ?_ | refine blk_alloc ?_ _)); exact BK153.out⟩, ⟨by (with_reducible repeat (first | refine blk_drewN ?_ _ | refine blk_drew ?_ | refine blk_alloc ?_ _)); exact BK157.out⟩, ⟨by (with_reducible repeat (first | refine blk_drewN ?_ _ | refine blk_drew ?_ | refine blk_alloc ?_ _)); exact BK161.out⟩, ⟨by (with_reducible repeat (first | refine blk_drewN ?_ _ | refine blk_drew ?_ | refine blk_alloc ?_ _)); exact BK165.out⟩, ⟨by repeat (first | (with_reducible first | exact HB.out | apply below_alloc | apply pw_below_drewN | apply below_drew1 | refine below_set ?_ GE147.out | refine below_set ?_ GE153.out | refine below_set ?_ GE157.out | refine below_set ?_ GE161.out | refine below_set ?_ GE165.out) | exact HB.out)⟩⟩
              · replace c48 := Bool.eq_false_iff.mpr c48
                subst c48
                have H1 : (fourinhandlaw15_XmpBounds.j1 kj6 a1 a2 a3 a4 t156 t160 t164 true a0_0 a0_1 t154 t155 t158 t159 t162 t163) = some r := by rw [if_neg (show ¬ (false = true) by decide)] at H; exact H
                clear H
                have H := H1
                clear H1
                have H' := Aside0.mk H
                clear H
                have hnb96 := NB153_147.out
                have hnc96 := NB147_153.out
                have hnb97 := NB153_157.out
                have hnc97 := NB157_153.out
                have hnb98 := NB153_161.out
                have hnc98 := NB161_153.out
                have hnb99 := NB153_165.out
                have hnc99 := NB165_153.out
                have hcz100_0 : w40.cell? ⟨gb153, 0, none⟩ = some (.int .i64 t150) := (blk_cell BK153.out 0).trans rfl
                have hcz100_1 : w40.cell? ⟨gb153, 1, none⟩ = some (.int .i64 t151) := (blk_cell BK153.out 1).trans rfl
                have hfz100_0 := blk_frozen BK153.out 0
                have hfz100_1 := blk_frozen BK153.out 1
                go_wp2_with (first | (go_at_call 11; (with_reducible refine (xmp_May.calls t150 t151 a3 a4 false _ A47.out).mono ?_); rintro e w101 ⟨rfl, hb⟩; have n0_ := Aside0.mk (blk_below (g := gb147) (o := .cells #[.int .i64 a0_0, .int .i64 a0_1] 30 (0, 0)) (by (with_reducible repeat (first | refine blk_drewN ?_ _ | refine blk_drew ?_ | refine blk_alloc ?_ _)); refine blk_far ?_ NB147_165.out _; (with_reducible repeat (first | refine blk_drewN ?_ _ | refine blk_drew ?_ | refine blk_alloc ?_ _)); refine blk_far ?_ NB147_165.out _; (with_reducible repeat (first | refine blk_drewN ?_ _ | refine blk_drew ?_ | refine blk_alloc ?_ _)); exact BK147.out) hb); have n1_ := Aside0.mk (blk_below (g := gb153) (o := .cells #[.int .i64 t150, .int .i64 t151] 30 (0, 0)) (by (with_reducible repeat (first | refine blk_drewN ?_ _ | refine blk_drew ?_ | refine blk_alloc ?_ _)); refine blk_far ?_ NB153_165.out _; (with_reducible repeat (first | refine blk_drewN ?_ _ | refine blk_drew ?_ | refine blk_alloc ?_ _)); refine blk_far ?_ NB153_165.out _; (with_reducible repeat (first | refine blk_drewN ?_ _ | refine blk_drew ?_ | refine blk_alloc ?_ _)); exact BK153.out) hb); have n2_ := Aside0.mk (blk_below (g := gb157) (o := .cells #[.int .i64 t154, .int .i64 t155] 30 (0, 0)) (by (with_reducible repeat (first | refine blk_drewN ?_ _ | refine blk_drew ?_ | refine blk_alloc ?_ _)); refine blk_far ?_ NB157_165.out _; (with_reducible repeat (first | refine blk_drewN ?_ _ | refine blk_drew ?_ | refine blk_alloc ?_ _)); refine blk_far ?_ NB157_165.out _; (with_reducible repeat (first | refine blk_drewN ?_ _ | refine blk_drew ?_ | refine blk_alloc ?_ _)); exact BK157.out) hb); have n3_ := Aside0.mk (blk_below (g := gb161) (o := .cells #[.int .i64 t158, .int .i64 t159] 30 (0, 0)) (by (with_reducible repeat (first | refine blk_drewN ?_ _ | refine blk_drew ?_ | refine blk_alloc ?_ _)); refine blk_far ?_ NB161_165.out _; (with_reducible repeat (first | refine blk_drewN ?_ _ | refine blk_drew ?_ | refine blk_alloc ?_ _)); refine blk_far ?_ NB161_165.out _; (with_reducible repeat (first | refine blk_drewN ?_ _ | refine blk_drew ?_ | refine blk_alloc ?_ _)); exact BK161.out) hb); have n4_ := Aside0.mk (blk_below (g := gb165) (o := .cells #[.int .i64 t162, .int .i64 t163] 30 (0, 0)) (by (with_reducible repeat (first | refine blk_drewN ?_ _ | refine blk_drew ?_ | refine blk_alloc ?_ _)); refine blk_put (cs := #[.int .i64 t162, .int .i64 0]) ?_ 1 _ rfl; (with_reducible repeat (first | refine blk_drewN ?_ _ | refine blk_drew ?_ | refine blk_alloc ?_ _)); refine blk_put (cs := #[.int .i64 0, .int .i64 0]) ?_ 0 _ rfl; (with_reducible repeat (first | refine blk_drewN ?_ _ | refine blk_drew ?_ | refine blk_alloc ?_ _)); exact BK165.out) hb); have n5_ := Aside0.mk (below_step (by repeat (first | (with_reducible first | exact HB.out | apply below_alloc | apply pw_below_drewN | apply below_drew1 | refine below_set ?_ GE147.out | refine below_set ?_ GE153.out | refine below_set ?_ GE157.out | refine below_set ?_ GE161.out | refine below_set ?_ GE165.out) | exact HB.out)) hb); clear BK147; clear BK153; clear BK157; clear BK161; clear BK165; clear HB; have BK147 := n0_; have BK153 := n1_; have BK157 := n2_; have BK161 := n3_; have BK165 := n4_; have HB := n5_; clear n0_ n1_ n2_ n3_ n4_ n5_; (try clear hb); (try clear hb2); (try clear hk); (try clear hi)))
                go_meet
                case rel => exact ⟨_, (true), (by first | rfl | (simp; done) | (simp [*]; done)), H', ⟨by have := HJ6.out; first | omega | exact Nat.le_refl _⟩, ⟨by (with_reducible repeat (first | refine blk_drewN ?_ _ | refine blk_drew ?_ | refine blk_alloc ?_ _)); exact BK147.out⟩, ⟨by (with_reducible repeat (first | refine blk_drewN ?_ _ | refine blk_drew ?_ | refine blk_alloc ?_ _)); exact BK153.out⟩, ⟨by (with_reducible repeat (first | refine blk_drewN ?_ _ | refine blk_drew ?_ | refine blk_alloc ?_ _)); exact BK157.out⟩, ⟨by (with_reducible repeat (first | refine blk_drewN ?_ _ | refine blk_drew ?_ | refine blk_alloc ?_ _)); exact BK161.out⟩, ⟨by (with_reducible repeat (first | refine blk_drewN ?_ _ | refine blk_drew ?_ | refine blk_alloc ?_ _)); exact BK165.out⟩, ⟨by repeat (first | (with_reducible first | exact HB.out | apply below_alloc | apply pw_below_drewN | apply below_drew1 | refine below_set ?_ GE147.out | refine below_set ?_ GE153.out | refine below_set ?_ GE157.out | refine below_set ?_ GE161.out | refine below_set ?_ GE165.out) | exact HB.out)⟩⟩
            · rw [if_neg c46] at H
              have c46b0 : (t152 == 0) = false := beq_eq_false_iff_ne.mpr c46
              have c46b1 : (t152 != 0) = true := bne_iff_ne.mpr c46
              (first | rw [c46b0] | (simp only [i64_w, i32_w]; rw [c46b0]) | skip)
              have H' := Aside0.mk H
              clear H
              go_wp2
              go_meet
              case rel => exact ⟨_, (false), (by first | rfl | (simp; done) | (simp [*]; done)), H', ⟨by have := HJ6.out; first | omega | exact Nat.le_refl _⟩, ⟨by (with_reducible repeat (first | refine blk_drewN ?_ _ | refine blk_drew ?_ | refine blk_alloc ?_ _)); refine blk_far ?_ NB147_165.out _; (with_reducible repeat (first | refine blk_drewN ?_ _ | refine blk_drew ?_ | refine blk_alloc ?_ _)); refine blk_far ?_ NB147_165.out _; (with_reducible repeat (first | refine blk_drewN ?_ _ | refine blk_drew ?_ | refine blk_alloc ?_ _)); exact BK147.out⟩, ⟨by (with_reducible repeat (first | refine blk_drewN ?_ _ | refine blk_drew ?_ | refine blk_alloc ?_ _)); refine blk_far ?_ NB153_165.out _; (with_reducible repeat (first | refine blk_drewN ?_ _ | refine blk_drew ?_ | refine blk_alloc ?_ _)); refine blk_far ?_ NB153_165.out _; (with_reducible repeat (first | refine blk_drewN ?_ _ | refine blk_drew ?_ | refine blk_alloc ?_ _)); exact BK153.out⟩, ⟨by (with_reducible repeat (first | refine blk_drewN ?_ _ | refine blk_drew ?_ | refine blk_alloc ?_ _)); refine blk_far ?_ NB157_165.out _; (with_reducible repeat (first | refine blk_drewN ?_ _ | refine blk_drew ?_ | refine blk_alloc ?_ _)); refine blk_far ?_ NB157_165.out _; (with_reducible repeat (first | refine blk_drewN ?_ _ | refine blk_drew ?_ | refine blk_alloc ?_ _)); exact BK157.out⟩, ⟨by (with_reducible repeat (first | refine blk_drewN ?_ _ | refine blk_drew ?_ | refine blk_alloc ?_ _)); refine blk_far ?_ NB161_165.out _; (with_reducible repeat (first | refine blk_drewN ?_ _ | refine blk_drew ?_ | refine blk_alloc ?_ _)); refine blk_far ?_ NB161_165.out _; (with_reducible repeat (first | refine blk_drewN ?_ _ | refine blk_drew ?_ | refine blk_alloc ?_ _)); exact BK161.out⟩, ⟨by (with_reducible repeat (first | refine blk_drewN ?_ _ | refine blk_drew ?_ | refine blk_alloc ?_ _)); refine blk_put (cs := #[.int .i64 t162, .int .i64 0]) ?_ 1 _ rfl; (with_reducible repeat (first | refine blk_drewN ?_ _ | refine blk_drew ?_ | refine blk_alloc ?_ _)); refine blk_put (cs := #[.int .i64 0, .int .i64 0]) ?_ 0 _ rfl; (with_reducible repeat (first | refine blk_drewN ?_ _ | refine blk_drew ?_ | refine blk_alloc ?_ _)); exact BK165.out⟩, ⟨by repeat (first | (with_reducible first | exact HB.out | apply below_alloc | apply pw_below_drewN | apply below_drew1 | refine below_set ?_ GE147.out | refine below_set ?_ GE153.out | refine below_set ?_ GE157.out | refine below_set ?_ GE161.out | refine below_set ?_ GE165.out) | exact HB.out)⟩⟩
          case rest =>
            clear HC19
            try clear c1
            try clear c2
            try clear p2
            try clear c3
            try clear c4
            try clear c5
            try clear c6
            try clear c7
            try clear c8
            try clear c9
            try clear c10
            try clear c12
            try clear c13
            try clear c14
            try clear c15
            try clear c23
            try clear c28
            try clear c29
            try clear c34
            try clear c35
            try clear c36
            try clear c41
            try clear c42
            try clear c43
            try clear c44
            try clear c46
            try clear c46b0
            try clear c46b1
            try clear c48
            try clear c49
            try clear c49b0
            try clear c50
            try clear c51
            try clear c52
            try clear c53
            try clear c57
            try clear c58
            try clear c59
            try clear c61
            try clear c61b0
            try clear c62
            try clear c62b0
            try clear c63
            try clear c64
            try clear c65
            try clear c66
            try clear c70
            try clear c71
            try clear c72
            try clear c74
            try clear c75
            try clear c76
            try clear c77
            try clear c81
            try clear c82
            try clear c83
            try clear c85
            try clear c86
            try clear c87
            try clear c88
            try clear c92
            try clear c93
            try clear c94
            try clear c96
            try clear c97
            try clear c98
            try clear c99
            try clear hcz100_0
            try clear hcz100_1
            try clear hcz12_0
            try clear hcz12_1
            try clear hcz20_0
            try clear hcz20_1
            try clear hcz24_0
            try clear hcz24_1
            try clear hcz25_0
            try clear hcz25_1
            try clear hcz30_0
            try clear hcz30_1
            try clear hcz31_0
            try clear hcz31_1
            try clear hcz37_0
            try clear hcz37_1
            try clear hcz38_0
            try clear hcz38_1
            try clear hcz45_0
            try clear hcz45_1
            try clear hcz54_0
            try clear hcz54_1
            try clear hcz56_0
            try clear hcz56_1
            try clear hcz60_0
            try clear hcz60_1
            try clear hcz67_0
            try clear hcz67_1
            try clear hcz69_0
            try clear hcz69_1
            try clear hcz73_0
            try clear hcz73_1
            try clear hcz78_0
            try clear hcz78_1
            try clear hcz80_0
            try clear hcz80_1
            try clear hcz84_0
            try clear hcz84_1
            try clear hcz89_0
            try clear hcz89_1
            try clear hcz91_0
            try clear hcz91_1
            try clear hcz95_0
            try clear hcz95_1
            try clear hfz100_0
            try clear hfz100_1
            try clear hfz12_0
            try clear hfz12_1
            try clear hfz20_0
            try clear hfz20_1
            try clear hfz24_0
            try clear hfz24_1
            try clear hfz25_0
            try clear hfz25_1
            try clear hfz30_0
            try clear hfz30_1
            try clear hfz31_0
            try clear hfz31_1
            try clear hfz37_0
            try clear hfz37_1
            try clear hfz38_0
            try clear hfz38_1
            try clear hfz45_0
            try clear hfz45_1
            try clear hfz54_0
            try clear hfz54_1
            try clear hfz56_0
            try clear hfz56_1
            try clear hfz60_0
            try clear hfz60_1
            try clear hfz67_0
            try clear hfz67_1
            try clear hfz69_0
            try clear hfz69_1
            try clear hfz73_0
            try clear hfz73_1
            try clear hfz78_0
            try clear hfz78_1
            try clear hfz80_0
            try clear hfz80_1
            try clear hfz84_0
            try clear hfz84_1
            try clear hfz89_0
            try clear hfz89_1
            try clear hfz91_0
            try clear hfz91_1
            try clear hfz95_0
            try clear hfz95_1
            try clear p2
            as_aux_lemma =>
              obtain ⟨kq, x99_18, rfl, HA, HJ18, BK147, BK153, BK157, BK161, BK165, HB⟩ := hcut
              cases kq with
              | zero => exact absurd HA.out (by simp [fourinhandlaw15_XmpBounds.j1])
              | succ kj18 =>
                have H := HA.out
                clear HA
                simp only [fourinhandlaw15_XmpBounds.j1] at H
                by_cases c102 : x99_18 = true
                · subst c102
                  have H1 : (some false) = some r := by rw [if_pos rfl] at H; exact H
                  clear H
                  have H := H1
                  clear H1
                  exact Bool.noConfusion ((Option.some.inj H).trans hr_.out)
                · replace c102 := Bool.eq_false_iff.mpr c102
                  subst c102
                  have H1 : (if t156 = 0 then ((xmp_May.f t154 t155 a3 a4).bind fun t167 => (if t167 = true then (if t154 < a0_0 then (fourinhandlaw15_XmpBounds.j2 kj18 a1 a2 a3 a4 t160 t164 true a0_0 a0_1 t158 t159 t162 t163) else (if (wrap64 (t154 - a0_0)) > a3 then (fourinhandlaw15_XmpBounds.j2 kj18 a1 a2 a3 a4 t160 t164 true a0_0 a0_1 t158 t159 t162 t163) else (fourinhandlaw15_XmpBounds.j2 kj18 a1 a2 a3 a4 t160 t164 (t155 != a0_1) a0_0 a0_1 t158 t159 t162 t163))) else (fourinhandlaw15_XmpBounds.j2 kj18 a1 a2 a3 a4 t160 t164 true a0_0 a0_1 t158 t159 t162 t163))) else (fourinhandlaw15_XmpBounds.j2 kj18 a1 a2 a3 a4 t160 t164 false a0_0 a0_1 t158 t159 t162 t163)) = some r := by rw [if_neg (show ¬ (false = true) by decide)] at H; exact H
                  clear H
                  have H := H1
                  clear H1
                  have HC103 := Aside0.mk H
                  clear H
                  go_upto_region 10 with (fail)
                  go_cut [131] (fun v131 wc => ∃ (kq : Nat) (x131_102 : Bool), v131 = .bool x131_102 ∧ Aside0 (fourinhandlaw15_XmpBounds.j2 kq a1 a2 a3 a4 t160 t164 x131_102 a0_0 a0_1 t158 t159 t162 t163 = some r) ∧ Aside0 (kq ≤ kj18) ∧ Aside0 (wc.heap[gb147]? = some (.cells #[.int .i64 a0_0, .int .i64 a0_1] 30 (0, 0))) ∧ Aside0 (wc.heap[gb153]? = some (.cells #[.int .i64 t150, .int .i64 t151] 30 (0, 0))) ∧ Aside0 (wc.heap[gb157]? = some (.cells #[.int .i64 t154, .int .i64 t155] 30 (0, 0))) ∧ Aside0 (wc.heap[gb161]? = some (.cells #[.int .i64 t158, .int .i64 t159] 30 (0, 0))) ∧ Aside0 (wc.heap[gb165]? = some (.cells #[.int .i64 t162, .int .i64 t163] 30 (0, 0))) ∧ Aside0 (Below w.heap.size w wc))
                  case first =>
                    have H := HC103.out
                    clear HC103
                    by_cases c104 : t156 = 0
                    · rw [if_pos c104] at H
                      have c104b0 : (t156 == 0) = true := beq_iff_eq.mpr c104
                      have c104b1 : (t156 != 0) = false := bne_eq_false_iff_eq.mpr c104
                      clear c104
                      (first | rw [c104b0] | (simp only [i64_w, i32_w]; rw [c104b0]) | skip)
                      replace H := Option.bind_eq_some_iff.mp H
                      obtain ⟨t167, A1050, H⟩ := H
                      replace H : (if t167 = true then (if t154 < a0_0 then (fourinhandlaw15_XmpBounds.j2 kj18 a1 a2 a3 a4 t160 t164 true a0_0 a0_1 t158 t159 t162 t163) else (if (wrap64 (t154 - a0_0)) > a3 then (fourinhandlaw15_XmpBounds.j2 kj18 a1 a2 a3 a4 t160 t164 true a0_0 a0_1 t158 t159 t162 t163) else (fourinhandlaw15_XmpBounds.j2 kj18 a1 a2 a3 a4 t160 t164 (t155 != a0_1) a0_0 a0_1 t158 t159 t162 t163))) else (fourinhandlaw15_XmpBounds.j2 kj18 a1 a2 a3 a4 t160 t164 true a0_0 a0_1 t158 t159 t162 t163)) = some r := H
                      have A105 := Aside0.mk A1050
                      clear A1050
                      by_cases c106 : t167 = true
                      · subst c106
                        have H1 : (if t154 < a0_0 then (fourinhandlaw15_XmpBounds.j2 kj18 a1 a2 a3 a4 t160 t164 true a0_0 a0_1 t158 t159 t162 t163) else (if (wrap64 (t154 - a0_0)) > a3 then (fourinhandlaw15_XmpBounds.j2 kj18 a1 a2 a3 a4 t160 t164 true a0_0 a0_1 t158 t159 t162 t163) else (fourinhandlaw15_XmpBounds.j2 kj18 a1 a2 a3 a4 t160 t164 (t155 != a0_1) a0_0 a0_1 t158 t159 t162 t163))) = some r := by rw [if_pos rfl] at H; exact H
                        clear H
                        have H := H1
                        clear H1
                        by_cases c107 : t154 < a0_0
                        · rw [if_pos c107] at H
                          have c107b0 : decide (t154 < a0_0) = true := decide_eq_true c107
                          clear c107
                          have H' := Aside0.mk H
                          clear H
                          have hnb108 := NB157_147.out
                          have hnc108 := NB147_157.out
                          have hnb109 := NB157_153.out
                          have hnc109 := NB153_157.out
                          have hnb110 := NB157_161.out
                          have hnc110 := NB161_157.out
                          have hnb111 := NB157_165.out
                          have hnc111 := NB165_157.out
                          have hcz112_0 : wc.cell? ⟨gb157, 0, none⟩ = some (.int .i64 t154) := (blk_cell BK157.out 0).trans rfl
                          have hcz112_1 : wc.cell? ⟨gb157, 1, none⟩ = some (.int .i64 t155) := (blk_cell BK157.out 1).trans rfl
                          have hfz112_0 := blk_frozen BK157.out 0
                          have hfz112_1 := blk_frozen BK157.out 1
                          go_wp2_with (first | (go_at_call 11; (with_reducible refine (xmp_May.calls t154 t155 a3 a4 true _ A105.out).mono ?_); rintro e w113 ⟨rfl, hb⟩; have n0_ := Aside0.mk (blk_below (g := gb147) (o := .cells #[.int .i64 a0_0, .int .i64 a0_1] 30 (0, 0)) (by (with_reducible repeat (first | refine blk_drewN ?_ _ | refine blk_drew ?_ | refine blk_alloc ?_ _)); exact BK147.out) hb); have n1_ := Aside0.mk (blk_below (g := gb153) (o := .cells #[.int .i64 t150, .int .i64 t151] 30 (0, 0)) (by (with_reducible repeat (first | refine blk_drewN ?_ _ | refine blk_drew ?_ | refine blk_alloc ?_ _)); exact BK153.out) hb); have n2_ := Aside0.mk (blk_below (g := gb157) (o := .cells #[.int .i64 t154, .int .i64 t155] 30 (0, 0)) (by (with_reducible repeat (first | refine blk_drewN ?_ _ | refine blk_drew ?_ | refine blk_alloc ?_ _)); exact BK157.out) hb); have n3_ := Aside0.mk (blk_below (g := gb161) (o := .cells #[.int .i64 t158, .int .i64 t159] 30 (0, 0)) (by (with_reducible repeat (first | refine blk_drewN ?_ _ | refine blk_drew ?_ | refine blk_alloc ?_ _)); exact BK161.out) hb); have n4_ := Aside0.mk (blk_below (g := gb165) (o := .cells #[.int .i64 t162, .int .i64 t163] 30 (0, 0)) (by (with_reducible repeat (first | refine blk_drewN ?_ _ | refine blk_drew ?_ | refine blk_alloc ?_ _)); exact BK165.out) hb); have n5_ := Aside0.mk (below_step (by repeat (first | (with_reducible first | exact HB.out | apply below_alloc | apply pw_below_drewN | apply below_drew1 | refine below_set ?_ GE147.out | refine below_set ?_ GE153.out | refine below_set ?_ GE157.out | refine below_set ?_ GE161.out | refine below_set ?_ GE165.out) | exact HB.out)) hb); clear BK147; clear BK153; clear BK157; clear BK161; clear BK165; clear HB; have BK147 := n0_; have BK153 := n1_; have BK157 := n2_; have BK161 := n3_; have BK165 := n4_; have HB := n5_; clear n0_ n1_ n2_ n3_ n4_ n5_; (try clear hb); (try clear hb2); (try clear hk); (try clear hi); have hcz114_0 : w113.cell? ⟨gb157, 0, none⟩ = some (.int .i64 t154) := (blk_cell BK157.out 0).trans rfl; have hcz114_1 : w113.cell? ⟨gb157, 1, none⟩ = some (.int .i64 t155) := (blk_cell BK157.out 1).trans rfl; have hfz114_0 := blk_frozen BK157.out 0; have hfz114_1 := blk_frozen BK157.out 1; have hnb115 := NB147_153.out; have hnc115 := NB153_147.out; have hnb116 := NB147_161.out; have hnc116 := NB161_147.out; have hnb117 := NB147_165.out; have hnc117 := NB165_147.out; have hcz118_0 : w113.cell? ⟨gb147, 0, none⟩ = some (.int .i64 a0_0) := (blk_cell BK147.out 0).trans rfl; have hcz118_1 : w113.cell? ⟨gb147, 1, none⟩ = some (.int .i64 a0_1) := (blk_cell BK147.out 1).trans rfl; have hfz118_0 := blk_frozen BK147.out 0; have hfz118_1 := blk_frozen BK147.out 1))
                          go_meet
                          case rel => exact ⟨_, (true), (by first | rfl | (simp; done) | (simp [*]; done)), H', ⟨by have := HJ6.out; have := HJ18.out; first | omega | exact Nat.le_refl _⟩, ⟨by (with_reducible repeat (first | refine blk_drewN ?_ _ | refine blk_drew ?_ | refine blk_alloc ?_ _)); exact BK147.out⟩, ⟨by (with_reducible repeat (first | refine blk_drewN ?_ _ | refine blk_drew ?_ | refine blk_alloc ?_ _)); exact BK153.out⟩, ⟨by (with_reducible repeat (first | refine blk_drewN ?_ _ | refine blk_drew ?_ | refine blk_alloc ?_ _)); exact BK157.out⟩, ⟨by (with_reducible repeat (first | refine blk_drewN ?_ _ | refine blk_drew ?_ | refine blk_alloc ?_ _)); exact BK161.out⟩, ⟨by (with_reducible repeat (first | refine blk_drewN ?_ _ | refine blk_drew ?_ | refine blk_alloc ?_ _)); exact BK165.out⟩, ⟨by repeat (first | (with_reducible first | exact HB.out | apply below_alloc | apply pw_below_drewN | apply below_drew1 | refine below_set ?_ GE147.out | refine below_set ?_ GE153.out | refine below_set ?_ GE157.out | refine below_set ?_ GE161.out | refine below_set ?_ GE165.out) | exact HB.out)⟩⟩
                        · rw [if_neg c107] at H
                          have c107b0 : decide (t154 < a0_0) = false := decide_eq_false c107
                          clear c107
                          by_cases c119 : (wrap64 (t154 - a0_0)) > a3
                          · rw [if_pos c119] at H
                            have c119b0 : decide (a3 < (wrap64 (t154 - a0_0))) = true := decide_eq_true c119
                            clear c119
                            have H' := Aside0.mk H
                            clear H
                            have hnb120 := NB157_147.out
                            have hnc120 := NB147_157.out
                            have hnb121 := NB157_153.out
                            have hnc121 := NB153_157.out
                            have hnb122 := NB157_161.out
                            have hnc122 := NB161_157.out
                            have hnb123 := NB157_165.out
                            have hnc123 := NB165_157.out
                            have hcz124_0 : wc.cell? ⟨gb157, 0, none⟩ = some (.int .i64 t154) := (blk_cell BK157.out 0).trans rfl
                            have hcz124_1 : wc.cell? ⟨gb157, 1, none⟩ = some (.int .i64 t155) := (blk_cell BK157.out 1).trans rfl
                            have hfz124_0 := blk_frozen BK157.out 0
                            have hfz124_1 := blk_frozen BK157.out 1
                            go_wp2_with (first | (go_at_call 11; (with_reducible refine (xmp_May.calls t154 t155 a3 a4 true _ A105.out).mono ?_); rintro e w125 ⟨rfl, hb⟩; have n0_ := Aside0.mk (blk_below (g := gb147) (o := .cells #[.int .i64 a0_0, .int .i64 a0_1] 30 (0, 0)) (by (with_reducible repeat (first | refine blk_drewN ?_ _ | refine blk_drew ?_ | refine blk_alloc ?_ _)); exact BK147.out) hb); have n1_ := Aside0.mk (blk_below (g := gb153) (o := .cells #[.int .i64 t150, .int .i64 t151] 30 (0, 0)) (by (with_reducible repeat (first | refine blk_drewN ?_ _ | refine blk_drew ?_ | refine blk_alloc ?_ _)); exact BK153.out) hb); have n2_ := Aside0.mk (blk_below (g := gb157) (o := .cells #[.int .i64 t154, .int .i64 t155] 30 (0, 0)) (by (with_reducible repeat (first | refine blk_drewN ?_ _ | refine blk_drew ?_ | refine blk_alloc ?_ _)); exact BK157.out) hb); have n3_ := Aside0.mk (blk_below (g := gb161) (o := .cells #[.int .i64 t158, .int .i64 t159] 30 (0, 0)) (by (with_reducible repeat (first | refine blk_drewN ?_ _ | refine blk_drew ?_ | refine blk_alloc ?_ _)); exact BK161.out) hb); have n4_ := Aside0.mk (blk_below (g := gb165) (o := .cells #[.int .i64 t162, .int .i64 t163] 30 (0, 0)) (by (with_reducible repeat (first | refine blk_drewN ?_ _ | refine blk_drew ?_ | refine blk_alloc ?_ _)); exact BK165.out) hb); have n5_ := Aside0.mk (below_step (by repeat (first | (with_reducible first | exact HB.out | apply below_alloc | apply pw_below_drewN | apply below_drew1 | refine below_set ?_ GE147.out | refine below_set ?_ GE153.out | refine below_set ?_ GE157.out | refine below_set ?_ GE161.out | refine below_set ?_ GE165.out) | exact HB.out)) hb); clear BK147; clear BK153; clear BK157; clear BK161; clear BK165; clear HB; have BK147 := n0_; have BK153 := n1_; have BK157 := n2_; have BK161 := n3_; have BK165 := n4_; have HB := n5_; clear n0_ n1_ n2_ n3_ n4_ n5_; (try clear hb); (try clear hb2); (try clear hk); (try clear hi); have hcz126_0 : w125.cell? ⟨gb157, 0, none⟩ = some (.int .i64 t154) := (blk_cell BK157.out 0).trans rfl; have hcz126_1 : w125.cell? ⟨gb157, 1, none⟩ = some (.int .i64 t155) := (blk_cell BK157.out 1).trans rfl; have hfz126_0 := blk_frozen BK157.out 0; have hfz126_1 := blk_frozen BK157.out 1; have hnb127 := NB147_153.out; have hnc127 := NB153_147.out; have hnb128 := NB147_161.out; have hnc128 := NB161_147.out; have hnb129 := NB147_165.out; have hnc129 := NB165_147.out; have hcz130_0 : w125.cell? ⟨gb147, 0, none⟩ = some (.int .i64 a0_0) := (blk_cell BK147.out 0).trans rfl; have hcz130_1 : w125.cell? ⟨gb147, 1, none⟩ = some (.int .i64 a0_1) := (blk_cell BK147.out 1).trans rfl; have hfz130_0 := blk_frozen BK147.out 0; have hfz130_1 := blk_frozen BK147.out 1))
                            go_meet
                            case rel => exact ⟨_, (true), (by first | rfl | (simp; done) | (simp [*]; done)), H', ⟨by have := HJ6.out; have := HJ18.out; first | omega | exact Nat.le_refl _⟩, ⟨by (with_reducible repeat (first | refine blk_drewN ?_ _ | refine blk_drew ?_ | refine blk_alloc ?_ _)); exact BK147.out⟩, ⟨by (with_reducible repeat (first | refine blk_drewN ?_ _ | refine blk_drew ?_ | refine blk_alloc ?_ _)); exact BK153.out⟩, ⟨by (with_reducible repeat (first | refine blk_drewN ?_ _ | refine blk_drew ?_ | refine blk_alloc ?_ _)); exact BK157.out⟩, ⟨by (with_reducible repeat (first | refine blk_drewN ?_ _ | refine blk_drew ?_ | refine blk_alloc ?_ _)); exact BK161.out⟩, ⟨by (with_reducible repeat (first | refine blk_drewN ?_ _ | refine blk_drew ?_ | refine blk_alloc ?_ _)); exact BK165.out⟩, ⟨by repeat (first | (with_reducible first | exact HB.out | apply below_alloc | apply pw_below_drewN | apply below_drew1 | refine below_set ?_ GE147.out | refine below_set ?_ GE153.out | refine below_set ?_ GE157.out | refine below_set ?_ GE161.out | refine below_set ?_ GE165.out) | exact HB.out)⟩⟩
                          · rw [if_neg c119] at H
                            have c119b0 : decide (a3 < (wrap64 (t154 - a0_0))) = false := decide_eq_false c119
                            clear c119
                            have H' := Aside0.mk H
                            clear H
                            have hnb131 := NB157_147.out
                            have hnc131 := NB147_157.out
                            have hnb132 := NB157_153.out
                            have hnc132 := NB153_157.out
                            have hnb133 := NB157_161.out
                            have hnc133 := NB161_157.out
                            have hnb134 := NB157_165.out
                            have hnc134 := NB165_157.out
                            have hcz135_0 : wc.cell? ⟨gb157, 0, none⟩ = some (.int .i64 t154) := (blk_cell BK157.out 0).trans rfl
                            have hcz135_1 : wc.cell? ⟨gb157, 1, none⟩ = some (.int .i64 t155) := (blk_cell BK157.out 1).trans rfl
                            have hfz135_0 := blk_frozen BK157.out 0
                            have hfz135_1 := blk_frozen BK157.out 1
                            go_wp2_with (first | (go_at_call 11; (with_reducible refine (xmp_May.calls t154 t155 a3 a4 true _ A105.out).mono ?_); rintro e w136 ⟨rfl, hb⟩; have n0_ := Aside0.mk (blk_below (g := gb147) (o := .cells #[.int .i64 a0_0, .int .i64 a0_1] 30 (0, 0)) (by (with_reducible repeat (first | refine blk_drewN ?_ _ | refine blk_drew ?_ | refine blk_alloc ?_ _)); exact BK147.out) hb); have n1_ := Aside0.mk (blk_below (g := gb153) (o := .cells #[.int .i64 t150, .int .i64 t151] 30 (0, 0)) (by (with_reducible repeat (first | refine blk_drewN ?_ _ | refine blk_drew ?_ | refine blk_alloc ?_ _)); exact BK153.out) hb); have n2_ := Aside0.mk (blk_below (g := gb157) (o := .cells #[.int .i64 t154, .int .i64 t155] 30 (0, 0)) (by (with_reducible repeat (first | refine blk_drewN ?_ _ | refine blk_drew ?_ | refine blk_alloc ?_ _)); exact BK157.out) hb); have n3_ := Aside0.mk (blk_below (g := gb161) (o := .cells #[.int .i64 t158, .int .i64 t159] 30 (0, 0)) (by (with_reducible repeat (first | refine blk_drewN ?_ _ | refine blk_drew ?_ | refine blk_alloc ?_ _)); exact BK161.out) hb); have n4_ := Aside0.mk (blk_below (g := gb165) (o := .cells #[.int .i64 t162, .int .i64 t163] 30 (0, 0)) (by (with_reducible repeat (first | refine blk_drewN ?_ _ | refine blk_drew ?_ | refine blk_alloc ?_ _)); exact BK165.out) hb); have n5_ := Aside0.mk (below_step (by repeat (first | (with_reducible first | exact HB.out | apply below_alloc | apply pw_below_drewN | apply below_drew1 | refine below_set ?_ GE147.out | refine below_set ?_ GE153.out | refine below_set ?_ GE157.out | refine below_set ?_ GE161.out | refine below_set ?_ GE165.out) | exact HB.out)) hb); clear BK147; clear BK153; clear BK157; clear BK161; clear BK165; clear HB; have BK147 := n0_; have BK153 := n1_; have BK157 := n2_; have BK161 := n3_; have BK165 := n4_; have HB := n5_; clear n0_ n1_ n2_ n3_ n4_ n5_; (try clear hb); (try clear hb2); (try clear hk); (try clear hi); have hcz137_0 : w136.cell? ⟨gb157, 0, none⟩ = some (.int .i64 t154) := (blk_cell BK157.out 0).trans rfl; have hcz137_1 : w136.cell? ⟨gb157, 1, none⟩ = some (.int .i64 t155) := (blk_cell BK157.out 1).trans rfl; have hfz137_0 := blk_frozen BK157.out 0; have hfz137_1 := blk_frozen BK157.out 1; have hnb138 := NB147_153.out; have hnc138 := NB153_147.out; have hnb139 := NB147_161.out; have hnc139 := NB161_147.out; have hnb140 := NB147_165.out; have hnc140 := NB165_147.out; have hcz141_0 : w136.cell? ⟨gb147, 0, none⟩ = some (.int .i64 a0_0) := (blk_cell BK147.out 0).trans rfl; have hcz141_1 : w136.cell? ⟨gb147, 1, none⟩ = some (.int .i64 a0_1) := (blk_cell BK147.out 1).trans rfl; have hfz141_0 := blk_frozen BK147.out 0; have hfz141_1 := blk_frozen BK147.out 1))
                            go_meet
                            case rel => exact ⟨_, ((t155 != a0_1)), (by first | rfl | (simp; done) | (simp [*]; done)), H', ⟨by have := HJ6.out; have := HJ18.out; first | omega | exact Nat.le_refl _⟩, ⟨by (with_reducible repeat (first | refine blk_drewN ?_ _ | refine blk_drew ?_ | refine blk_alloc ?_ _)); exact BK147.out⟩, ⟨by (with_reducible repeat (first | refine blk_drewN ?_ _ | refine blk_drew ?_ | refine blk_alloc ?_ _)); exact BK153.out⟩, ⟨by (with_reducible repeat (first | refine blk_drewN ?_ _ | refine blk_drew ?_ | refine blk_alloc ?_ _)); exact BK157.out⟩, ⟨by (with_reducible repeat (first | refine blk_drewN ?_ _ | refine blk_drew ?_ | refine blk_alloc ?_ _)); exact BK161.out⟩, ⟨by (with_reducible repeat (first | refine blk_drewN ?_ _ | refine blk_drew ?_ | refine blk_alloc ?_ _)); exact BK165.out⟩, ⟨by repeat (first | (with_reducible first | exact HB.out | apply below_alloc | apply pw_below_drewN | apply below_drew1 | refine below_set ?_ GE147.out | refine below_set ?_ GE153.out | refine below_set ?_ GE157.out | refine below_set ?_ GE161.out | refine below_set ?_ GE165.out) | exact HB.out)⟩⟩
                      · replace c106 := Bool.eq_false_iff.mpr c106
                        subst c106
                        have H1 : (fourinhandlaw15_XmpBounds.j2 kj18 a1 a2 a3 a4 t160 t164 true a0_0 a0_1 t158 t159 t162 t163) = some r := by rw [if_neg (show ¬ (false = true) by decide)] at H; exact H
                        clear H
                        have H := H1
                        clear H1
                        have H' := Aside0.mk H
                        clear H
                        have hnb142 := NB157_147.out
                        have hnc142 := NB147_157.out
                        have hnb143 := NB157_153.out
                        have hnc143 := NB153_157.out
                        have hnb144 := NB157_161.out
                        have hnc144 := NB161_157.out
                        have hnb145 := NB157_165.out
                        have hnc145 := NB165_157.out
                        have hcz146_0 : wc.cell? ⟨gb157, 0, none⟩ = some (.int .i64 t154) := (blk_cell BK157.out 0).trans rfl
                        have hcz146_1 : wc.cell? ⟨gb157, 1, none⟩ = some (.int .i64 t155) := (blk_cell BK157.out 1).trans rfl
                        have hfz146_0 := blk_frozen BK157.out 0
                        have hfz146_1 := blk_frozen BK157.out 1
                        go_wp2_with (first | (go_at_call 11; (with_reducible refine (xmp_May.calls t154 t155 a3 a4 false _ A105.out).mono ?_); rintro e w147 ⟨rfl, hb⟩; have n0_ := Aside0.mk (blk_below (g := gb147) (o := .cells #[.int .i64 a0_0, .int .i64 a0_1] 30 (0, 0)) (by (with_reducible repeat (first | refine blk_drewN ?_ _ | refine blk_drew ?_ | refine blk_alloc ?_ _)); exact BK147.out) hb); have n1_ := Aside0.mk (blk_below (g := gb153) (o := .cells #[.int .i64 t150, .int .i64 t151] 30 (0, 0)) (by (with_reducible repeat (first | refine blk_drewN ?_ _ | refine blk_drew ?_ | refine blk_alloc ?_ _)); exact BK153.out) hb); have n2_ := Aside0.mk (blk_below (g := gb157) (o := .cells #[.int .i64 t154, .int .i64 t155] 30 (0, 0)) (by (with_reducible repeat (first | refine blk_drewN ?_ _ | refine blk_drew ?_ | refine blk_alloc ?_ _)); exact BK157.out) hb); have n3_ := Aside0.mk (blk_below (g := gb161) (o := .cells #[.int .i64 t158, .int .i64 t159] 30 (0, 0)) (by (with_reducible repeat (first | refine blk_drewN ?_ _ | refine blk_drew ?_ | refine blk_alloc ?_ _)); exact BK161.out) hb); have n4_ := Aside0.mk (blk_below (g := gb165) (o := .cells #[.int .i64 t162, .int .i64 t163] 30 (0, 0)) (by (with_reducible repeat (first | refine blk_drewN ?_ _ | refine blk_drew ?_ | refine blk_alloc ?_ _)); exact BK165.out) hb); have n5_ := Aside0.mk (below_step (by repeat (first | (with_reducible first | exact HB.out | apply below_alloc | apply pw_below_drewN | apply below_drew1 | refine below_set ?_ GE147.out | refine below_set ?_ GE153.out | refine below_set ?_ GE157.out | refine below_set ?_ GE161.out | refine below_set ?_ GE165.out) | exact HB.out)) hb); clear BK147; clear BK153; clear BK157; clear BK161; clear BK165; clear HB; have BK147 := n0_; have BK153 := n1_; have BK157 := n2_; have BK161 := n3_; have BK165 := n4_; have HB := n5_; clear n0_ n1_ n2_ n3_ n4_ n5_; (try clear hb); (try clear hb2); (try clear hk); (try clear hi)))
                        go_meet
                        case rel => exact ⟨_, (true), (by first | rfl | (simp; done) | (simp [*]; done)), H', ⟨by have := HJ6.out; have := HJ18.out; first | omega | exact Nat.le_refl _⟩, ⟨by (with_reducible repeat (first | refine blk_drewN ?_ _ | refine blk_drew ?_ | refine blk_alloc ?_ _)); exact BK147.out⟩, ⟨by (with_reducible repeat (first | refine blk_drewN ?_ _ | refine blk_drew ?_ | refine blk_alloc ?_ _)); exact BK153.out⟩, ⟨by (with_reducible repeat (first | refine blk_drewN ?_ _ | refine blk_drew ?_ | refine blk_alloc ?_ _)); exact BK157.out⟩, ⟨by (with_reducible repeat (first | refine blk_drewN ?_ _ | refine blk_drew ?_ | refine blk_alloc ?_ _)); exact BK161.out⟩, ⟨by (with_reducible repeat (first | refine blk_drewN ?_ _ | refine blk_drew ?_ | refine blk_alloc ?_ _)); exact BK165.out⟩, ⟨by repeat (first | (with_reducible first | exact HB.out | apply below_alloc | apply pw_below_drewN | apply below_drew1 | refine below_set ?_ GE147.out | refine below_set ?_ GE153.out | refine below_set ?_ GE157.out | refine below_set ?_ GE161.out | refine below_set ?_ GE165.out) | exact HB.out)⟩⟩
                    · rw [if_neg c104] at H
                      have c104b0 : (t156 == 0) = false := beq_eq_false_iff_ne.mpr c104
                      have c104b1 : (t156 != 0) = true := bne_iff_ne.mpr c104
                      (first | rw [c104b0] | (simp only [i64_w, i32_w]; rw [c104b0]) | skip)
                      have H' := Aside0.mk H
                      clear H
                      go_wp2
                      go_meet
                      case rel => exact ⟨_, (false), (by first | rfl | (simp; done) | (simp [*]; done)), H', ⟨by have := HJ6.out; have := HJ18.out; first | omega | exact Nat.le_refl _⟩, ⟨by (with_reducible repeat (first | refine blk_drewN ?_ _ | refine blk_drew ?_ | refine blk_alloc ?_ _)); exact BK147.out⟩, ⟨by (with_reducible repeat (first | refine blk_drewN ?_ _ | refine blk_drew ?_ | refine blk_alloc ?_ _)); exact BK153.out⟩, ⟨by (with_reducible repeat (first | refine blk_drewN ?_ _ | refine blk_drew ?_ | refine blk_alloc ?_ _)); exact BK157.out⟩, ⟨by (with_reducible repeat (first | refine blk_drewN ?_ _ | refine blk_drew ?_ | refine blk_alloc ?_ _)); exact BK161.out⟩, ⟨by (with_reducible repeat (first | refine blk_drewN ?_ _ | refine blk_drew ?_ | refine blk_alloc ?_ _)); exact BK165.out⟩, ⟨by repeat (first | (with_reducible first | exact HB.out | apply below_alloc | apply pw_below_drewN | apply below_drew1 | refine below_set ?_ GE147.out | refine below_set ?_ GE153.out | refine below_set ?_ GE157.out | refine below_set ?_ GE161.out | refine below_set ?_ GE165.out) | exact HB.out)⟩⟩
                  case rest =>
                    clear HC103
                    try clear c1
                    try clear c2
                    try clear p2
                    try clear c3
                    try clear c4
                    try clear c5
                    try clear c6
                    try clear p6
                    try clear c7
                    try clear c8
                    try clear c9
                    try clear c10
                    try clear c11
                    try clear c12
                    try clear c13
                    try clear c14
                    try clear c15
                    try clear c23
                    try clear c28
                    try clear c29
                    try clear c34
                    try clear c35
                    try clear c36
                    try clear c41
                    try clear c42
                    try clear c43
                    try clear c44
                    try clear c46
                    try clear c46b0
                    try clear c46b1
                    try clear c48
                    try clear c49
                    try clear c49b0
                    try clear c50
                    try clear c51
                    try clear c52
                    try clear c53
                    try clear c57
                    try clear c58
                    try clear c59
                    try clear c61
                    try clear c61b0
                    try clear c62
                    try clear c62b0
                    try clear c63
                    try clear c64
                    try clear p64
                    try clear c65
                    try clear c66
                    try clear c70
                    try clear c71
                    try clear c72
                    try clear c74
                    try clear c75
                    try clear c76
                    try clear c77
                    try clear c81
                    try clear c82
                    try clear c83
                    try clear c85
                    try clear c86
                    try clear c87
                    try clear c88
                    try clear c92
                    try clear c93
                    try clear c94
                    try clear c96
                    try clear c97
                    try clear c98
                    try clear c99
                    try clear c102
                    try clear c104
                    try clear c104b0
                    try clear c104b1
                    try clear c106
                    try clear c107
                    try clear c107b0
                    try clear c108
                    try clear c109
                    try clear c110
                    try clear c111
                    try clear c115
                    try clear c116
                    try clear c117
                    try clear c119
                    try clear c119b0
                    try clear c120
                    try clear c121
                    try clear c122
                    try clear c123
                    try clear c127
                    try clear c128
                    try clear c129
                    try clear c131
                    try clear c132
                    try clear c133
                    try clear c134
                    try clear c138
                    try clear c139
                    try clear c140
                    try clear c142
                    try clear c143
                    try clear c144
                    try clear c145
                    try clear hcz100_0
                    try clear hcz100_1
                    try clear hcz112_0
                    try clear hcz112_1
                    try clear hcz114_0
                    try clear hcz114_1
                    try clear hcz118_0
                    try clear hcz118_1
                    try clear hcz124_0
                    try clear hcz124_1
                    try clear hcz126_0
                    try clear hcz126_1
                    try clear hcz12_0
                    try clear hcz12_1
                    try clear hcz130_0
                    try clear hcz130_1
                    try clear hcz135_0
                    try clear hcz135_1
                    try clear hcz137_0
                    try clear hcz137_1
                    try clear hcz141_0
                    try clear hcz141_1
                    try clear hcz146_0
                    try clear hcz146_1
                    try clear hcz20_0
                    try clear hcz20_1
                    try clear hcz24_0
                    try clear hcz24_1
                    try clear hcz25_0
                    try clear hcz25_1
                    try clear hcz30_0
                    try clear hcz30_1
                    try clear hcz31_0
                    try clear hcz31_1
                    try clear hcz37_0
                    try clear hcz37_1
                    try clear hcz38_0
                    try clear hcz38_1
                    try clear hcz45_0
                    try clear hcz45_1
                    try clear hcz54_0
                    try clear hcz54_1
                    try clear hcz56_0
                    try clear hcz56_1
                    try clear hcz60_0
                    try clear hcz60_1
                    try clear hcz67_0
                    try clear hcz67_1
                    try clear hcz69_0
                    try clear hcz69_1
                    try clear hcz73_0
                    try clear hcz73_1
                    try clear hcz78_0
                    try clear hcz78_1
                    try clear hcz80_0
                    try clear hcz80_1
                    try clear hcz84_0
                    try clear hcz84_1
                    try clear hcz89_0
                    try clear hcz89_1
                    try clear hcz91_0
                    try clear hcz91_1
                    try clear hcz95_0
                    try clear hcz95_1
                    try clear hfz100_0
                    try clear hfz100_1
                    try clear hfz112_0
                    try clear hfz112_1
                    try clear hfz114_0
                    try clear hfz114_1
                    try clear hfz118_0
                    try clear hfz118_1
                    try clear hfz124_0
                    try clear hfz124_1
                    try clear hfz126_0
                    try clear hfz126_1
                    try clear hfz12_0
                    try clear hfz12_1
                    try clear hfz130_0
                    try clear hfz130_1
                    try clear hfz135_0
                    try clear hfz135_1
                    try clear hfz137_0
                    try clear hfz137_1
                    try clear hfz141_0
                    try clear hfz141_1
                    try clear hfz146_0
                    try clear hfz146_1
                    try clear hfz20_0
                    try clear hfz20_1
                    try clear hfz24_0
                    try clear hfz24_1
                    try clear hfz25_0
                    try clear hfz25_1
                    try clear hfz30_0
                    try clear hfz30_1
                    try clear hfz31_0
                    try clear hfz31_1
                    try clear hfz37_0
                    try clear hfz37_1
                    try clear hfz38_0
                    try clear hfz38_1
                    try clear hfz45_0
                    try clear hfz45_1
                    try clear hfz54_0
                    try clear hfz54_1
                    try clear hfz56_0
                    try clear hfz56_1
                    try clear hfz60_0
                    try clear hfz60_1
                    try clear hfz67_0
                    try clear hfz67_1
                    try clear hfz69_0
                    try clear hfz69_1
                    try clear hfz73_0
                    try clear hfz73_1
                    try clear hfz78_0
                    try clear hfz78_1
                    try clear hfz80_0
                    try clear hfz80_1
                    try clear hfz84_0
                    try clear hfz84_1
                    try clear hfz89_0
                    try clear hfz89_1
                    try clear hfz91_0
                    try clear hfz91_1
                    try clear hfz95_0
                    try clear hfz95_1
                    try clear p2
                    as_aux_lemma =>
                      obtain ⟨kq, x131_102, rfl, HA, HJ102, BK147, BK153, BK157, BK161, BK165, HB⟩ := hcut
                      cases kq with
                      | zero => exact absurd HA.out (by simp [fourinhandlaw15_XmpBounds.j2])
                      | succ kj102 =>
                        have H := HA.out
                        clear HA
                        simp only [fourinhandlaw15_XmpBounds.j2] at H
                        by_cases c148 : x131_102 = true
                        · subst c148
                          have H1 : (some false) = some r := by rw [if_pos rfl] at H; exact H
                          clear H
                          have H := H1
                          clear H1
                          exact Bool.noConfusion ((Option.some.inj H).trans hr_.out)
                        · replace c148 := Bool.eq_false_iff.mpr c148
                          subst c148
                          have H1 : (if t160 = 0 then ((xmp_May.f t158 t159 a3 a4).bind fun t168 => (if t168 = true then (if t158 > a0_0 then (some false) else (if (wrap64 (2 * t158)) < a0_0 then (some false) else (if a1 = 0 then (if t158 = a0_0 then (if t164 = 0 then ((xmp_May.f t162 t163 a3 a4).bind fun t169 => (if t169 = true then (if a2 = true then (if t162 = a3 then (some (decide (t162 ≤ t163))) else (some false)) else (some (decide (t162 ≤ t163)))) else (some false))) else (some false)) else (some false)) else (if t164 = 0 then ((xmp_May.f t162 t163 a3 a4).bind fun t170 => (if t170 = true then (if a2 = true then (if t162 = a3 then (some (decide (t162 ≤ t163))) else (some false)) else (some (decide (t162 ≤ t163)))) else (some false))) else (some false))))) else (some false))) else (if t164 = 0 then ((xmp_May.f t162 t163 a3 a4).bind fun t171 => (if t171 = true then (if a2 = true then (if t162 = a3 then (some (decide (t162 ≤ t163))) else (some false)) else (some (decide (t162 ≤ t163)))) else (some false))) else (some false))) = some r := by rw [if_neg (show ¬ (false = true) by decide)] at H; exact H
                          clear H
                          have H := H1
                          clear H1
                          by_cases c149 : t160 = 0
                          · rw [if_pos c149] at H
                            have c149b0 : (t160 == 0) = true := beq_iff_eq.mpr c149
                            have c149b1 : (t160 != 0) = false := bne_eq_false_iff_eq.mpr c149
                            clear c149
                            replace H := Option.bind_eq_some_iff.mp H
                            obtain ⟨t168, A1500, H⟩ := H
                            replace H : (if t168 = true then (if t158 > a0_0 then (some false) else (if (wrap64 (2 * t158)) < a0_0 then (some false) else (if a1 = 0 then (if t158 = a0_0 then (if t164 = 0 then ((xmp_May.f t162 t163 a3 a4).bind fun t169 => (if t169 = true then (if a2 = true then (if t162 = a3 then (some (decide (t162 ≤ t163))) else (some false)) else (some (decide (t162 ≤ t163)))) else (some false))) else (some false)) else (some false)) else (if t164 = 0 then ((xmp_May.f t162 t163 a3 a4).bind fun t170 => (if t170 = true then (if a2 = true then (if t162 = a3 then (some (decide (t162 ≤ t163))) else (some false)) else (some (decide (t162 ≤ t163)))) else (some false))) else (some false))))) else (some false)) = some r := H
                            have A150 := Aside0.mk A1500
                            clear A1500
                            by_cases c151 : t168 = true
                            · subst c151
                              have H1 : (if t158 > a0_0 then (some false) else (if (wrap64 (2 * t158)) < a0_0 then (some false) else (if a1 = 0 then (if t158 = a0_0 then (if t164 = 0 then ((xmp_May.f t162 t163 a3 a4).bind fun t169 => (if t169 = true then (if a2 = true then (if t162 = a3 then (some (decide (t162 ≤ t163))) else (some false)) else (some (decide (t162 ≤ t163)))) else (some false))) else (some false)) else (some false)) else (if t164 = 0 then ((xmp_May.f t162 t163 a3 a4).bind fun t170 => (if t170 = true then (if a2 = true then (if t162 = a3 then (some (decide (t162 ≤ t163))) else (some false)) else (some (decide (t162 ≤ t163)))) else (some false))) else (some false))))) = some r := by rw [if_pos rfl] at H; exact H
                              clear H
                              have H := H1
                              clear H1
                              by_cases c152 : t158 > a0_0
                              · rw [if_pos c152] at H
                                have c152b0 : decide (a0_0 < t158) = true := decide_eq_true c152
                                clear c152
                                exact Bool.noConfusion ((Option.some.inj H).trans hr_.out)
                              · rw [if_neg c152] at H
                                have c152b0 : decide (a0_0 < t158) = false := decide_eq_false c152
                                clear c152
                                by_cases c153 : (wrap64 (2 * t158)) < a0_0
                                · rw [if_pos c153] at H
                                  have c153b0 : decide ((wrap64 (2 * t158)) < a0_0) = true := decide_eq_true c153
                                  clear c153
                                  exact Bool.noConfusion ((Option.some.inj H).trans hr_.out)
                                · rw [if_neg c153] at H
                                  have c153b0 : decide ((wrap64 (2 * t158)) < a0_0) = false := decide_eq_false c153
                                  clear c153
                                  by_cases c154 : a1 = 0
                                  · rw [if_pos c154] at H
                                    have c154b0 : (a1 == 0) = true := beq_iff_eq.mpr c154
                                    have c154b1 : (a1 != 0) = false := bne_eq_false_iff_eq.mpr c154
                                    clear c154
                                    by_cases c155 : t158 = a0_0
                                    · rw [if_pos c155] at H
                                      have c155b0 : (t158 == a0_0) = true := beq_iff_eq.mpr c155
                                      have c155b1 : (t158 != a0_0) = false := bne_eq_false_iff_eq.mpr c155
                                      clear c155
                                      by_cases c156 : t164 = 0
                                      · rw [if_pos c156] at H
                                        have c156b0 : (t164 == 0) = true := beq_iff_eq.mpr c156
                                        have c156b1 : (t164 != 0) = false := bne_eq_false_iff_eq.mpr c156
                                        clear c156
                                        replace H := Option.bind_eq_some_iff.mp H
                                        obtain ⟨t169, A1570, H⟩ := H
                                        replace H : (if t169 = true then (if a2 = true then (if t162 = a3 then (some (decide (t162 ≤ t163))) else (some false)) else (some (decide (t162 ≤ t163)))) else (some false)) = some r := H
                                        have A157 := Aside0.mk A1570
                                        clear A1570
                                        by_cases c158 : t169 = true
                                        · subst c158
                                          have H1 : (if a2 = true then (if t162 = a3 then (some (decide (t162 ≤ t163))) else (some false)) else (some (decide (t162 ≤ t163)))) = some r := by rw [if_pos rfl] at H; exact H
                                          clear H
                                          have H := H1
                                          clear H1
                                          by_cases c159 : a2 = true
                                          · subst c159
                                            have H1 : (if t162 = a3 then (some (decide (t162 ≤ t163))) else (some false)) = some r := by rw [if_pos rfl] at H; exact H
                                            clear H
                                            have H := H1
                                            clear H1
                                            by_cases c160 : t162 = a3
                                            · rw [if_pos c160] at H
                                              have c160b0 : (t162 == a3) = true := beq_iff_eq.mpr c160
                                              have c160b1 : (t162 != a3) = false := bne_eq_false_iff_eq.mpr c160
                                              clear c160
                                              obtain rfl := Option.some.inj H
                                              have hnb161 := NB161_147.out
                                              have hnc161 := NB147_161.out
                                              have hnb162 := NB161_153.out
                                              have hnc162 := NB153_161.out
                                              have hnb163 := NB161_157.out
                                              have hnc163 := NB157_161.out
                                              have hnb164 := NB161_165.out
                                              have hnc164 := NB165_161.out
                                              have hcz165_0 : wc.cell? ⟨gb161, 0, none⟩ = some (.int .i64 t158) := (blk_cell BK161.out 0).trans rfl
                                              have hcz165_1 : wc.cell? ⟨gb161, 1, none⟩ = some (.int .i64 t159) := (blk_cell BK161.out 1).trans rfl
                                              have hfz165_0 := blk_frozen BK161.out 0
                                              have hfz165_1 := blk_frozen BK161.out 1
                                              go_wp2_with (first | (go_at_call 11; (with_reducible refine (xmp_May.calls t158 t159 a3 a4 true _ A150.out).mono ?_); rintro e w166 ⟨rfl, hb⟩; have n0_ := Aside0.mk (blk_below (g := gb147) (o := .cells #[.int .i64 a0_0, .int .i64 a0_1] 30 (0, 0)) (by (with_reducible repeat (first | refine blk_drewN ?_ _ | refine blk_drew ?_ | refine blk_alloc ?_ _)); exact BK147.out) hb); have n1_ := Aside0.mk (blk_below (g := gb153) (o := .cells #[.int .i64 t150, .int .i64 t151] 30 (0, 0)) (by (with_reducible repeat (first | refine blk_drewN ?_ _ | refine blk_drew ?_ | refine blk_alloc ?_ _)); exact BK153.out) hb); have n2_ := Aside0.mk (blk_below (g := gb157) (o := .cells #[.int .i64 t154, .int .i64 t155] 30 (0, 0)) (by (with_reducible repeat (first | refine blk_drewN ?_ _ | refine blk_drew ?_ | refine blk_alloc ?_ _)); exact BK157.out) hb); have n3_ := Aside0.mk (blk_below (g := gb161) (o := .cells #[.int .i64 t158, .int .i64 t159] 30 (0, 0)) (by (with_reducible repeat (first | refine blk_drewN ?_ _ | refine blk_drew ?_ | refine blk_alloc ?_ _)); exact BK161.out) hb); have n4_ := Aside0.mk (blk_below (g := gb165) (o := .cells #[.int .i64 t162, .int .i64 t163] 30 (0, 0)) (by (with_reducible repeat (first | refine blk_drewN ?_ _ | refine blk_drew ?_ | refine blk_alloc ?_ _)); exact BK165.out) hb); have n5_ := Aside0.mk (below_step (by repeat (first | (with_reducible first | exact HB.out | apply below_alloc | apply pw_below_drewN | apply below_drew1 | refine below_set ?_ GE147.out | refine below_set ?_ GE153.out | refine below_set ?_ GE157.out | refine below_set ?_ GE161.out | refine below_set ?_ GE165.out) | exact HB.out)) hb); clear BK147; clear BK153; clear BK157; clear BK161; clear BK165; clear HB; have BK147 := n0_; have BK153 := n1_; have BK157 := n2_; have BK161 := n3_; have BK165 := n4_; have HB := n5_; clear n0_ n1_ n2_ n3_ n4_ n5_; (try clear hb); (try clear hb2); (try clear hk); (try clear hi); have hcz167_0 : w166.cell? ⟨gb161, 0, none⟩ = some (.int .i64 t158) := (blk_cell BK161.out 0).trans rfl; have hcz167_1 : w166.cell? ⟨gb161, 1, none⟩ = some (.int .i64 t159) := (blk_cell BK161.out 1).trans rfl; have hfz167_0 := blk_frozen BK161.out 0; have hfz167_1 := blk_frozen BK161.out 1; have hnb168 := NB147_153.out; have hnc168 := NB153_147.out; have hnb169 := NB147_157.out; have hnc169 := NB157_147.out; have hnb170 := NB147_165.out; have hnc170 := NB165_147.out; have hcz171_0 : w166.cell? ⟨gb147, 0, none⟩ = some (.int .i64 a0_0) := (blk_cell BK147.out 0).trans rfl; have hcz171_1 : w166.cell? ⟨gb147, 1, none⟩ = some (.int .i64 a0_1) := (blk_cell BK147.out 1).trans rfl; have hfz171_0 := blk_frozen BK147.out 0; have hfz171_1 := blk_frozen BK147.out 1; have hnb172 := NB165_153.out; have hnc172 := NB153_165.out; have hnb173 := NB165_157.out; have hnc173 := NB157_165.out; have hcz174_0 : w166.cell? ⟨gb165, 0, none⟩ = some (.int .i64 t162) := (blk_cell BK165.out 0).trans rfl; have hcz174_1 : w166.cell? ⟨gb165, 1, none⟩ = some (.int .i64 t163) := (blk_cell BK165.out 1).trans rfl; have hfz174_0 := blk_frozen BK165.out 0; have hfz174_1 := blk_frozen BK165.out 1) | (go_at_call 11; (with_reducible refine (xmp_May.calls t162 t163 a3 a4 true _ A157.out).mono ?_); rintro e w175 ⟨rfl, hb⟩; have n0_ := Aside0.mk (blk_below (g := gb147) (o := .cells #[.int .i64 a0_0, .int .i64 a0_1] 30 (0, 0)) (by (with_reducible repeat (first | refine blk_drewN ?_ _ | refine blk_drew ?_ | refine blk_alloc ?_ _)); exact BK147.out) hb); have n1_ := Aside0.mk (blk_below (g := gb153) (o := .cells #[.int .i64 t150, .int .i64 t151] 30 (0, 0)) (by (with_reducible repeat (first | refine blk_drewN ?_ _ | refine blk_drew ?_ | refine blk_alloc ?_ _)); exact BK153.out) hb); have n2_ := Aside0.mk (blk_below (g := gb157) (o := .cells #[.int .i64 t154, .int .i64 t155] 30 (0, 0)) (by (with_reducible repeat (first | refine blk_drewN ?_ _ | refine blk_drew ?_ | refine blk_alloc ?_ _)); exact BK157.out) hb); have n3_ := Aside0.mk (blk_below (g := gb161) (o := .cells #[.int .i64 t158, .int .i64 t159] 30 (0, 0)) (by (with_reducible repeat (first | refine blk_drewN ?_ _ | refine blk_drew ?_ | refine blk_alloc ?_ _)); exact BK161.out) hb); have n4_ := Aside0.mk (blk_below (g := gb165) (o := .cells #[.int .i64 t162, .int .i64 t163] 30 (0, 0)) (by (with_reducible repeat (first | refine blk_drewN ?_ _ | refine blk_drew ?_ | refine blk_alloc ?_ _)); exact BK165.out) hb); have n5_ := Aside0.mk (below_step (by repeat (first | (with_reducible first | exact HB.out | apply below_alloc | apply pw_below_drewN | apply below_drew1 | refine below_set ?_ GE147.out | refine below_set ?_ GE153.out | refine below_set ?_ GE157.out | refine below_set ?_ GE161.out | refine below_set ?_ GE165.out) | exact HB.out)) hb); clear BK147; clear BK153; clear BK157; clear BK161; clear BK165; clear HB; have BK147 := n0_; have BK153 := n1_; have BK157 := n2_; have BK161 := n3_; have BK165 := n4_; have HB := n5_; clear n0_ n1_ n2_ n3_ n4_ n5_; (try clear hb); (try clear hb2); (try clear hk); (try clear hi); have hcz176_0 : w175.cell? ⟨gb165, 0, none⟩ = some (.int .i64 t162) := (blk_cell BK165.out 0).trans rfl; have hcz176_1 : w175.cell? ⟨gb165, 1, none⟩ = some (.int .i64 t163) := (blk_cell BK165.out 1).trans rfl; have hfz176_0 := blk_frozen BK165.out 0; have hfz176_1 := blk_frozen BK165.out 1))
                                              go_ret
                                              exact ⟨by first | rfl | (simp [errW_none, errW_some] <;> rfl) | (simp [*, errW_none, errW_some] <;> rfl), by repeat (first | (with_reducible first | exact HB.out | apply below_alloc | apply pw_below_drewN | apply below_drew1 | refine below_set ?_ GE147.out | refine below_set ?_ GE153.out | refine below_set ?_ GE157.out | refine below_set ?_ GE161.out | refine below_set ?_ GE165.out) | exact HB.out)⟩
                                            · rw [if_neg c160] at H
                                              have c160b0 : (t162 == a3) = false := beq_eq_false_iff_ne.mpr c160
                                              have c160b1 : (t162 != a3) = true := bne_iff_ne.mpr c160
                                              exact Bool.noConfusion ((Option.some.inj H).trans hr_.out)
                                          · replace c159 := Bool.eq_false_iff.mpr c159
                                            subst c159
                                            have H1 : (some (decide (t162 ≤ t163))) = some r := by rw [if_neg (show ¬ (false = true) by decide)] at H; exact H
                                            clear H
                                            have H := H1
                                            clear H1
                                            obtain rfl := Option.some.inj H
                                            have hnb177 := NB161_147.out
                                            have hnc177 := NB147_161.out
                                            have hnb178 := NB161_153.out
                                            have hnc178 := NB153_161.out
                                            have hnb179 := NB161_157.out
                                            have hnc179 := NB157_161.out
                                            have hnb180 := NB161_165.out
                                            have hnc180 := NB165_161.out
                                            have hcz181_0 : wc.cell? ⟨gb161, 0, none⟩ = some (.int .i64 t158) := (blk_cell BK161.out 0).trans rfl
                                            have hcz181_1 : wc.cell? ⟨gb161, 1, none⟩ = some (.int .i64 t159) := (blk_cell BK161.out 1).trans rfl
                                            have hfz181_0 := blk_frozen BK161.out 0
                                            have hfz181_1 := blk_frozen BK161.out 1
                                            go_wp2_with (first | (go_at_call 11; (with_reducible refine (xmp_May.calls t158 t159 a3 a4 true _ A150.out).mono ?_); rintro e w182 ⟨rfl, hb⟩; have n0_ := Aside0.mk (blk_below (g := gb147) (o := .cells #[.int .i64 a0_0, .int .i64 a0_1] 30 (0, 0)) (by (with_reducible repeat (first | refine blk_drewN ?_ _ | refine blk_drew ?_ | refine blk_alloc ?_ _)); exact BK147.out) hb); have n1_ := Aside0.mk (blk_below (g := gb153) (o := .cells #[.int .i64 t150, .int .i64 t151] 30 (0, 0)) (by (with_reducible repeat (first | refine blk_drewN ?_ _ | refine blk_drew ?_ | refine blk_alloc ?_ _)); exact BK153.out) hb); have n2_ := Aside0.mk (blk_below (g := gb157) (o := .cells #[.int .i64 t154, .int .i64 t155] 30 (0, 0)) (by (with_reducible repeat (first | refine blk_drewN ?_ _ | refine blk_drew ?_ | refine blk_alloc ?_ _)); exact BK157.out) hb); have n3_ := Aside0.mk (blk_below (g := gb161) (o := .cells #[.int .i64 t158, .int .i64 t159] 30 (0, 0)) (by (with_reducible repeat (first | refine blk_drewN ?_ _ | refine blk_drew ?_ | refine blk_alloc ?_ _)); exact BK161.out) hb); have n4_ := Aside0.mk (blk_below (g := gb165) (o := .cells #[.int .i64 t162, .int .i64 t163] 30 (0, 0)) (by (with_reducible repeat (first | refine blk_drewN ?_ _ | refine blk_drew ?_ | refine blk_alloc ?_ _)); exact BK165.out) hb); have n5_ := Aside0.mk (below_step (by repeat (first | (with_reducible first | exact HB.out | apply below_alloc | apply pw_below_drewN | apply below_drew1 | refine below_set ?_ GE147.out | refine below_set ?_ GE153.out | refine below_set ?_ GE157.out | refine below_set ?_ GE161.out | refine below_set ?_ GE165.out) | exact HB.out)) hb); clear BK147; clear BK153; clear BK157; clear BK161; clear BK165; clear HB; have BK147 := n0_; have BK153 := n1_; have BK157 := n2_; have BK161 := n3_; have BK165 := n4_; have HB := n5_; clear n0_ n1_ n2_ n3_ n4_ n5_; (try clear hb); (try clear hb2); (try clear hk); (try clear hi); have hcz183_0 : w182.cell? ⟨gb161, 0, none⟩ = some (.int .i64 t158) := (blk_cell BK161.out 0).trans rfl; have hcz183_1 : w182.cell? ⟨gb161, 1, none⟩ = some (.int .i64 t159) := (blk_cell BK161.out 1).trans rfl; have hfz183_0 := blk_frozen BK161.out 0; have hfz183_1 := blk_frozen BK161.out 1; have hnb184 := NB147_153.out; have hnc184 := NB153_147.out; have hnb185 := NB147_157.out; have hnc185 := NB157_147.out; have hnb186 := NB147_165.out; have hnc186 := NB165_147.out; have hcz187_0 : w182.cell? ⟨gb147, 0, none⟩ = some (.int .i64 a0_0) := (blk_cell BK147.out 0).trans rfl; have hcz187_1 : w182.cell? ⟨gb147, 1, none⟩ = some (.int .i64 a0_1) := (blk_cell BK147.out 1).trans rfl; have hfz187_0 := blk_frozen BK147.out 0; have hfz187_1 := blk_frozen BK147.out 1; have hnb188 := NB165_153.out; have hnc188 := NB153_165.out; have hnb189 := NB165_157.out; have hnc189 := NB157_165.out; have hcz190_0 : w182.cell? ⟨gb165, 0, none⟩ = some (.int .i64 t162) := (blk_cell BK165.out 0).trans rfl; have hcz190_1 : w182.cell? ⟨gb165, 1, none⟩ = some (.int .i64 t163) := (blk_cell BK165.out 1).trans rfl; have hfz190_0 := blk_frozen BK165.out 0; have hfz190_1 := blk_frozen BK165.out 1) | (go_at_call 11; (with_reducible refine (xmp_May.calls t162 t163 a3 a4 true _ A157.out).mono ?_); rintro e w191 ⟨rfl, hb⟩; have n0_ := Aside0.mk (blk_below (g := gb147) (o := .cells #[.int .i64 a0_0, .int .i64 a0_1] 30 (0, 0)) (by (with_reducible repeat (first | refine blk_drewN ?_ _ | refine blk_drew ?_ | refine blk_alloc ?_ _)); exact BK147.out) hb); have n1_ := Aside0.mk (blk_below (g := gb153) (o := .cells #[.int .i64 t150, .int .i64 t151] 30 (0, 0)) (by (with_reducible repeat (first | refine blk_drewN ?_ _ | refine blk_drew ?_ | refine blk_alloc ?_ _)); exact BK153.out) hb); have n2_ := Aside0.mk (blk_below (g := gb157) (o := .cells #[.int .i64 t154, .int .i64 t155] 30 (0, 0)) (by (with_reducible repeat (first | refine blk_drewN ?_ _ | refine blk_drew ?_ | refine blk_alloc ?_ _)); exact BK157.out) hb); have n3_ := Aside0.mk (blk_below (g := gb161) (o := .cells #[.int .i64 t158, .int .i64 t159] 30 (0, 0)) (by (with_reducible repeat (first | refine blk_drewN ?_ _ | refine blk_drew ?_ | refine blk_alloc ?_ _)); exact BK161.out) hb); have n4_ := Aside0.mk (blk_below (g := gb165) (o := .cells #[.int .i64 t162, .int .i64 t163] 30 (0, 0)) (by (with_reducible repeat (first | refine blk_drewN ?_ _ | refine blk_drew ?_ | refine blk_alloc ?_ _)); exact BK165.out) hb); have n5_ := Aside0.mk (below_step (by repeat (first | (with_reducible first | exact HB.out | apply below_alloc | apply pw_below_drewN | apply below_drew1 | refine below_set ?_ GE147.out | refine below_set ?_ GE153.out | refine below_set ?_ GE157.out | refine below_set ?_ GE161.out | refine below_set ?_ GE165.out) | exact HB.out)) hb); clear BK147; clear BK153; clear BK157; clear BK161; clear BK165; clear HB; have BK147 := n0_; have BK153 := n1_; have BK157 := n2_; have BK161 := n3_; have BK165 := n4_; have HB := n5_; clear n0_ n1_ n2_ n3_ n4_ n5_; (try clear hb); (try clear hb2); (try clear hk); (try clear hi); have hcz192_0 : w191.cell? ⟨gb165, 0, none⟩ = some (.int .i64 t162) := (blk_cell BK165.out 0).trans rfl; have hcz192_1 : w191.cell? ⟨gb165, 1, none⟩ = some (.int .i64 t163) := (blk_cell BK165.out 1).trans rfl; have hfz192_0 := blk_frozen BK165.out 0; have hfz192_1 := blk_frozen BK165.out 1))
                                            go_ret
                                            exact ⟨by first | rfl | (simp [errW_none, errW_some] <;> rfl) | (simp [*, errW_none, errW_some] <;> rfl), by repeat (first | (with_reducible first | exact HB.out | apply below_alloc | apply pw_below_drewN | apply below_drew1 | refine below_set ?_ GE147.out | refine below_set ?_ GE153.out | refine below_set ?_ GE157.out | refine below_set ?_ GE161.out | refine below_set ?_ GE165.out) | exact HB.out)⟩
                                        · replace c158 := Bool.eq_false_iff.mpr c158
                                          subst c158
                                          have H1 : (some false) = some r := by rw [if_neg (show ¬ (false = true) by decide)] at H; exact H
                                          clear H
                                          have H := H1
                                          clear H1
                                          exact Bool.noConfusion ((Option.some.inj H).trans hr_.out)
                                      · rw [if_neg c156] at H
                                        have c156b0 : (t164 == 0) = false := beq_eq_false_iff_ne.mpr c156
                                        have c156b1 : (t164 != 0) = true := bne_iff_ne.mpr c156
                                        exact Bool.noConfusion ((Option.some.inj H).trans hr_.out)
                                    · rw [if_neg c155] at H
                                      have c155b0 : (t158 == a0_0) = false := beq_eq_false_iff_ne.mpr c155
                                      have c155b1 : (t158 != a0_0) = true := bne_iff_ne.mpr c155
                                      exact Bool.noConfusion ((Option.some.inj H).trans hr_.out)
                                  · rw [if_neg c154] at H
                                    have c154b0 : (a1 == 0) = false := beq_eq_false_iff_ne.mpr c154
                                    have c154b1 : (a1 != 0) = true := bne_iff_ne.mpr c154
                                    by_cases c193 : t164 = 0
                                    · rw [if_pos c193] at H
                                      have c193b0 : (t164 == 0) = true := beq_iff_eq.mpr c193
                                      have c193b1 : (t164 != 0) = false := bne_eq_false_iff_eq.mpr c193
                                      clear c193
                                      replace H := Option.bind_eq_some_iff.mp H
                                      obtain ⟨t170, A1940, H⟩ := H
                                      replace H : (if t170 = true then (if a2 = true then (if t162 = a3 then (some (decide (t162 ≤ t163))) else (some false)) else (some (decide (t162 ≤ t163)))) else (some false)) = some r := H
                                      have A194 := Aside0.mk A1940
                                      clear A1940
                                      by_cases c195 : t170 = true
                                      · subst c195
                                        have H1 : (if a2 = true then (if t162 = a3 then (some (decide (t162 ≤ t163))) else (some false)) else (some (decide (t162 ≤ t163)))) = some r := by rw [if_pos rfl] at H; exact H
                                        clear H
                                        have H := H1
                                        clear H1
                                        by_cases c196 : a2 = true
                                        · subst c196
                                          have H1 : (if t162 = a3 then (some (decide (t162 ≤ t163))) else (some false)) = some r := by rw [if_pos rfl] at H; exact H
                                          clear H
                                          have H := H1
                                          clear H1
                                          by_cases c197 : t162 = a3
                                          · rw [if_pos c197] at H
                                            have c197b0 : (t162 == a3) = true := beq_iff_eq.mpr c197
                                            have c197b1 : (t162 != a3) = false := bne_eq_false_iff_eq.mpr c197
                                            clear c197
                                            obtain rfl := Option.some.inj H
                                            have hnb198 := NB161_147.out
                                            have hnc198 := NB147_161.out
                                            have hnb199 := NB161_153.out
                                            have hnc199 := NB153_161.out
                                            have hnb200 := NB161_157.out
                                            have hnc200 := NB157_161.out
                                            have hnb201 := NB161_165.out
                                            have hnc201 := NB165_161.out
                                            have hcz202_0 : wc.cell? ⟨gb161, 0, none⟩ = some (.int .i64 t158) := (blk_cell BK161.out 0).trans rfl
                                            have hcz202_1 : wc.cell? ⟨gb161, 1, none⟩ = some (.int .i64 t159) := (blk_cell BK161.out 1).trans rfl
                                            have hfz202_0 := blk_frozen BK161.out 0
                                            have hfz202_1 := blk_frozen BK161.out 1
                                            go_wp2_with (first | (go_at_call 11; (with_reducible refine (xmp_May.calls t158 t159 a3 a4 true _ A150.out).mono ?_); rintro e w203 ⟨rfl, hb⟩; have n0_ := Aside0.mk (blk_below (g := gb147) (o := .cells #[.int .i64 a0_0, .int .i64 a0_1] 30 (0, 0)) (by (with_reducible repeat (first | refine blk_drewN ?_ _ | refine blk_drew ?_ | refine blk_alloc ?_ _)); exact BK147.out) hb); have n1_ := Aside0.mk (blk_below (g := gb153) (o := .cells #[.int .i64 t150, .int .i64 t151] 30 (0, 0)) (by (with_reducible repeat (first | refine blk_drewN ?_ _ | refine blk_drew ?_ | refine blk_alloc ?_ _)); exact BK153.out) hb); have n2_ := Aside0.mk (blk_below (g := gb157) (o := .cells #[.int .i64 t154, .int .i64 t155] 30 (0, 0)) (by (with_reducible repeat (first | refine blk_drewN ?_ _ | refine blk_drew ?_ | refine blk_alloc ?_ _)); exact BK157.out) hb); have n3_ := Aside0.mk (blk_below (g := gb161) (o := .cells #[.int .i64 t158, .int .i64 t159] 30 (0, 0)) (by (with_reducible repeat (first | refine blk_drewN ?_ _ | refine blk_drew ?_ | refine blk_alloc ?_ _)); exact BK161.out) hb); have n4_ := Aside0.mk (blk_below (g := gb165) (o := .cells #[.int .i64 t162, .int .i64 t163] 30 (0, 0)) (by (with_reducible repeat (first | refine blk_drewN ?_ _ | refine blk_drew ?_ | refine blk_alloc ?_ _)); exact BK165.out) hb); have n5_ := Aside0.mk (below_step (by repeat (first | (with_reducible first | exact HB.out | apply below_alloc | apply pw_below_drewN | apply below_drew1 | refine below_set ?_ GE147.out | refine below_set ?_ GE153.out | refine below_set ?_ GE157.out | refine below_set ?_ GE161.out | refine below_set ?_ GE165.out) | exact HB.out)) hb); clear BK147; clear BK153; clear BK157; clear BK161; clear BK165; clear HB; have BK147 := n0_; have BK153 := n1_; have BK157 := n2_; have BK161 := n3_; have BK165 := n4_; have HB := n5_; clear n0_ n1_ n2_ n3_ n4_ n5_; (try clear hb); (try clear hb2); (try clear hk); (try clear hi); have hcz204_0 : w203.cell? ⟨gb161, 0, none⟩ = some (.int .i64 t158) := (blk_cell BK161.out 0).trans rfl; have hcz204_1 : w203.cell? ⟨gb161, 1, none⟩ = some (.int .i64 t159) := (blk_cell BK161.out 1).trans rfl; have hfz204_0 := blk_frozen BK161.out 0; have hfz204_1 := blk_frozen BK161.out 1; have hnb205 := NB147_153.out; have hnc205 := NB153_147.out; have hnb206 := NB147_157.out; have hnc206 := NB157_147.out; have hnb207 := NB147_165.out; have hnc207 := NB165_147.out; have hcz208_0 : w203.cell? ⟨gb147, 0, none⟩ = some (.int .i64 a0_0) := (blk_cell BK147.out 0).trans rfl; have hcz208_1 : w203.cell? ⟨gb147, 1, none⟩ = some (.int .i64 a0_1) := (blk_cell BK147.out 1).trans rfl; have hfz208_0 := blk_frozen BK147.out 0; have hfz208_1 := blk_frozen BK147.out 1; have hnb209 := NB165_153.out; have hnc209 := NB153_165.out; have hnb210 := NB165_157.out; have hnc210 := NB157_165.out; have hcz211_0 : w203.cell? ⟨gb165, 0, none⟩ = some (.int .i64 t162) := (blk_cell BK165.out 0).trans rfl; have hcz211_1 : w203.cell? ⟨gb165, 1, none⟩ = some (.int .i64 t163) := (blk_cell BK165.out 1).trans rfl; have hfz211_0 := blk_frozen BK165.out 0; have hfz211_1 := blk_frozen BK165.out 1) | (go_at_call 11; (with_reducible refine (xmp_May.calls t162 t163 a3 a4 true _ A194.out).mono ?_); rintro e w212 ⟨rfl, hb⟩; have n0_ := Aside0.mk (blk_below (g := gb147) (o := .cells #[.int .i64 a0_0, .int .i64 a0_1] 30 (0, 0)) (by (with_reducible repeat (first | refine blk_drewN ?_ _ | refine blk_drew ?_ | refine blk_alloc ?_ _)); exact BK147.out) hb); have n1_ := Aside0.mk (blk_below (g := gb153) (o := .cells #[.int .i64 t150, .int .i64 t151] 30 (0, 0)) (by (with_reducible repeat (first | refine blk_drewN ?_ _ | refine blk_drew ?_ | refine blk_alloc ?_ _)); exact BK153.out) hb); have n2_ := Aside0.mk (blk_below (g := gb157) (o := .cells #[.int .i64 t154, .int .i64 t155] 30 (0, 0)) (by (with_reducible repeat (first | refine blk_drewN ?_ _ | refine blk_drew ?_ | refine blk_alloc ?_ _)); exact BK157.out) hb); have n3_ := Aside0.mk (blk_below (g := gb161) (o := .cells #[.int .i64 t158, .int .i64 t159] 30 (0, 0)) (by (with_reducible repeat (first | refine blk_drewN ?_ _ | refine blk_drew ?_ | refine blk_alloc ?_ _)); exact BK161.out) hb); have n4_ := Aside0.mk (blk_below (g := gb165) (o := .cells #[.int .i64 t162, .int .i64 t163] 30 (0, 0)) (by (with_reducible repeat (first | refine blk_drewN ?_ _ | refine blk_drew ?_ | refine blk_alloc ?_ _)); exact BK165.out) hb); have n5_ := Aside0.mk (below_step (by repeat (first | (with_reducible first | exact HB.out | apply below_alloc | apply pw_below_drewN | apply below_drew1 | refine below_set ?_ GE147.out | refine below_set ?_ GE153.out | refine below_set ?_ GE157.out | refine below_set ?_ GE161.out | refine below_set ?_ GE165.out) | exact HB.out)) hb); clear BK147; clear BK153; clear BK157; clear BK161; clear BK165; clear HB; have BK147 := n0_; have BK153 := n1_; have BK157 := n2_; have BK161 := n3_; have BK165 := n4_; have HB := n5_; clear n0_ n1_ n2_ n3_ n4_ n5_; (try clear hb); (try clear hb2); (try clear hk); (try clear hi); have hcz213_0 : w212.cell? ⟨gb165, 0, none⟩ = some (.int .i64 t162) := (blk_cell BK165.out 0).trans rfl; have hcz213_1 : w212.cell? ⟨gb165, 1, none⟩ = some (.int .i64 t163) := (blk_cell BK165.out 1).trans rfl; have hfz213_0 := blk_frozen BK165.out 0; have hfz213_1 := blk_frozen BK165.out 1))
                                            go_ret
                                            exact ⟨by first | rfl | (simp [errW_none, errW_some] <;> rfl) | (simp [*, errW_none, errW_some] <;> rfl), by repeat (first | (with_reducible first | exact HB.out | apply below_alloc | apply pw_below_drewN | apply below_drew1 | refine below_set ?_ GE147.out | refine below_set ?_ GE153.out | refine below_set ?_ GE157.out | refine below_set ?_ GE161.out | refine below_set ?_ GE165.out) | exact HB.out)⟩
                                          · rw [if_neg c197] at H
                                            have c197b0 : (t162 == a3) = false := beq_eq_false_iff_ne.mpr c197
                                            have c197b1 : (t162 != a3) = true := bne_iff_ne.mpr c197
                                            exact Bool.noConfusion ((Option.some.inj H).trans hr_.out)
                                        · replace c196 := Bool.eq_false_iff.mpr c196
                                          subst c196
                                          have H1 : (some (decide (t162 ≤ t163))) = some r := by rw [if_neg (show ¬ (false = true) by decide)] at H; exact H
                                          clear H
                                          have H := H1
                                          clear H1
                                          obtain rfl := Option.some.inj H
                                          have hnb214 := NB161_147.out
                                          have hnc214 := NB147_161.out
                                          have hnb215 := NB161_153.out
                                          have hnc215 := NB153_161.out
                                          have hnb216 := NB161_157.out
                                          have hnc216 := NB157_161.out
                                          have hnb217 := NB161_165.out
                                          have hnc217 := NB165_161.out
                                          have hcz218_0 : wc.cell? ⟨gb161, 0, none⟩ = some (.int .i64 t158) := (blk_cell BK161.out 0).trans rfl
                                          have hcz218_1 : wc.cell? ⟨gb161, 1, none⟩ = some (.int .i64 t159) := (blk_cell BK161.out 1).trans rfl
                                          have hfz218_0 := blk_frozen BK161.out 0
                                          have hfz218_1 := blk_frozen BK161.out 1
                                          go_wp2_with (first | (go_at_call 11; (with_reducible refine (xmp_May.calls t158 t159 a3 a4 true _ A150.out).mono ?_); rintro e w219 ⟨rfl, hb⟩; have n0_ := Aside0.mk (blk_below (g := gb147) (o := .cells #[.int .i64 a0_0, .int .i64 a0_1] 30 (0, 0)) (by (with_reducible repeat (first | refine blk_drewN ?_ _ | refine blk_drew ?_ | refine blk_alloc ?_ _)); exact BK147.out) hb); have n1_ := Aside0.mk (blk_below (g := gb153) (o := .cells #[.int .i64 t150, .int .i64 t151] 30 (0, 0)) (by (with_reducible repeat (first | refine blk_drewN ?_ _ | refine blk_drew ?_ | refine blk_alloc ?_ _)); exact BK153.out) hb); have n2_ := Aside0.mk (blk_below (g := gb157) (o := .cells #[.int .i64 t154, .int .i64 t155] 30 (0, 0)) (by (with_reducible repeat (first | refine blk_drewN ?_ _ | refine blk_drew ?_ | refine blk_alloc ?_ _)); exact BK157.out) hb); have n3_ := Aside0.mk (blk_below (g := gb161) (o := .cells #[.int .i64 t158, .int .i64 t159] 30 (0, 0)) (by (with_reducible repeat (first | refine blk_drewN ?_ _ | refine blk_drew ?_ | refine blk_alloc ?_ _)); exact BK161.out) hb); have n4_ := Aside0.mk (blk_below (g := gb165) (o := .cells #[.int .i64 t162, .int .i64 t163] 30 (0, 0)) (by (with_reducible repeat (first | refine blk_drewN ?_ _ | refine blk_drew ?_ | refine blk_alloc ?_ _)); exact BK165.out) hb); have n5_ := Aside0.mk (below_step (by repeat (first | (with_reducible first | exact HB.out | apply below_alloc | apply pw_below_drewN | apply below_drew1 | refine below_set ?_ GE147.out | refine below_set ?_ GE153.out | refine below_set ?_ GE157.out | refine below_set ?_ GE161.out | refine below_set ?_ GE165.out) | exact HB.out)) hb); clear BK147; clear BK153; clear BK157; clear BK161; clear BK165; clear HB; have BK147 := n0_; have BK153 := n1_; have BK157 := n2_; have BK161 := n3_; have BK165 := n4_; have HB := n5_; clear n0_ n1_ n2_ n3_ n4_ n5_; (try clear hb); (try clear hb2); (try clear hk); (try clear hi); have hcz220_0 : w219.cell? ⟨gb161, 0, none⟩ = some (.int .i64 t158) := (blk_cell BK161.out 0).trans rfl; have hcz220_1 : w219.cell? ⟨gb161, 1, none⟩ = some (.int .i64 t159) := (blk_cell BK161.out 1).trans rfl; have hfz220_0 := blk_frozen BK161.out 0; have hfz220_1 := blk_frozen BK161.out 1; have hnb221 := NB147_153.out; have hnc221 := NB153_147.out; have hnb222 := NB147_157.out; have hnc222 := NB157_147.out; have hnb223 := NB147_165.out; have hnc223 := NB165_147.out; have hcz224_0 : w219.cell? ⟨gb147, 0, none⟩ = some (.int .i64 a0_0) := (blk_cell BK147.out 0).trans rfl; have hcz224_1 : w219.cell? ⟨gb147, 1, none⟩ = some (.int .i64 a0_1) := (blk_cell BK147.out 1).trans rfl; have hfz224_0 := blk_frozen BK147.out 0; have hfz224_1 := blk_frozen BK147.out 1; have hnb225 := NB165_153.out; have hnc225 := NB153_165.out; have hnb226 := NB165_157.out; have hnc226 := NB157_165.out; have hcz227_0 : w219.cell? ⟨gb165, 0, none⟩ = some (.int .i64 t162) := (blk_cell BK165.out 0).trans rfl; have hcz227_1 : w219.cell? ⟨gb165, 1, none⟩ = some (.int .i64 t163) := (blk_cell BK165.out 1).trans rfl; have hfz227_0 := blk_frozen BK165.out 0; have hfz227_1 := blk_frozen BK165.out 1) | (go_at_call 11; (with_reducible refine (xmp_May.calls t162 t163 a3 a4 true _ A194.out).mono ?_); rintro e w228 ⟨rfl, hb⟩; have n0_ := Aside0.mk (blk_below (g := gb147) (o := .cells #[.int .i64 a0_0, .int .i64 a0_1] 30 (0, 0)) (by (with_reducible repeat (first | refine blk_drewN ?_ _ | refine blk_drew ?_ | refine blk_alloc ?_ _)); exact BK147.out) hb); have n1_ := Aside0.mk (blk_below (g := gb153) (o := .cells #[.int .i64 t150, .int .i64 t151] 30 (0, 0)) (by (with_reducible repeat (first | refine blk_drewN ?_ _ | refine blk_drew ?_ | refine blk_alloc ?_ _)); exact BK153.out) hb); have n2_ := Aside0.mk (blk_below (g := gb157) (o := .cells #[.int .i64 t154, .int .i64 t155] 30 (0, 0)) (by (with_reducible repeat (first | refine blk_drewN ?_ _ | refine blk_drew ?_ | refine blk_alloc ?_ _)); exact BK157.out) hb); have n3_ := Aside0.mk (blk_below (g := gb161) (o := .cells #[.int .i64 t158, .int .i64 t159] 30 (0, 0)) (by (with_reducible repeat (first | refine blk_drewN ?_ _ | refine blk_drew ?_ | refine blk_alloc ?_ _)); exact BK161.out) hb); have n4_ := Aside0.mk (blk_below (g := gb165) (o := .cells #[.int .i64 t162, .int .i64 t163] 30 (0, 0)) (by (with_reducible repeat (first | refine blk_drewN ?_ _ | refine blk_drew ?_ | refine blk_alloc ?_ _)); exact BK165.out) hb); have n5_ := Aside0.mk (below_step (by repeat (first | (with_reducible first | exact HB.out | apply below_alloc | apply pw_below_drewN | apply below_drew1 | refine below_set ?_ GE147.out | refine below_set ?_ GE153.out | refine below_set ?_ GE157.out | refine below_set ?_ GE161.out | refine below_set ?_ GE165.out) | exact HB.out)) hb); clear BK147; clear BK153; clear BK157; clear BK161; clear BK165; clear HB; have BK147 := n0_; have BK153 := n1_; have BK157 := n2_; have BK161 := n3_; have BK165 := n4_; have HB := n5_; clear n0_ n1_ n2_ n3_ n4_ n5_; (try clear hb); (try clear hb2); (try clear hk); (try clear hi); have hcz229_0 : w228.cell? ⟨gb165, 0, none⟩ = some (.int .i64 t162) := (blk_cell BK165.out 0).trans rfl; have hcz229_1 : w228.cell? ⟨gb165, 1, none⟩ = some (.int .i64 t163) := (blk_cell BK165.out 1).trans rfl; have hfz229_0 := blk_frozen BK165.out 0; have hfz229_1 := blk_frozen BK165.out 1))
                                          go_ret
                                          exact ⟨by first | rfl | (simp [errW_none, errW_some] <;> rfl) | (simp [*, errW_none, errW_some] <;> rfl), by repeat (first | (with_reducible first | exact HB.out | apply below_alloc | apply pw_below_drewN | apply below_drew1 | refine below_set ?_ GE147.out | refine below_set ?_ GE153.out | refine below_set ?_ GE157.out | refine below_set ?_ GE161.out | refine below_set ?_ GE165.out) | exact HB.out)⟩
                                      · replace c195 := Bool.eq_false_iff.mpr c195
                                        subst c195
                                        have H1 : (some false) = some r := by rw [if_neg (show ¬ (false = true) by decide)] at H; exact H
                                        clear H
                                        have H := H1
                                        clear H1
                                        exact Bool.noConfusion ((Option.some.inj H).trans hr_.out)
                                    · rw [if_neg c193] at H
                                      have c193b0 : (t164 == 0) = false := beq_eq_false_iff_ne.mpr c193
                                      have c193b1 : (t164 != 0) = true := bne_iff_ne.mpr c193
                                      exact Bool.noConfusion ((Option.some.inj H).trans hr_.out)
                            · replace c151 := Bool.eq_false_iff.mpr c151
                              subst c151
                              have H1 : (some false) = some r := by rw [if_neg (show ¬ (false = true) by decide)] at H; exact H
                              clear H
                              have H := H1
                              clear H1
                              exact Bool.noConfusion ((Option.some.inj H).trans hr_.out)
                          · rw [if_neg c149] at H
                            have c149b0 : (t160 == 0) = false := beq_eq_false_iff_ne.mpr c149
                            have c149b1 : (t160 != 0) = true := bne_iff_ne.mpr c149
                            by_cases c230 : t164 = 0
                            · rw [if_pos c230] at H
                              have c230b0 : (t164 == 0) = true := beq_iff_eq.mpr c230
                              have c230b1 : (t164 != 0) = false := bne_eq_false_iff_eq.mpr c230
                              clear c230
                              replace H := Option.bind_eq_some_iff.mp H
                              obtain ⟨t171, A2310, H⟩ := H
                              replace H : (if t171 = true then (if a2 = true then (if t162 = a3 then (some (decide (t162 ≤ t163))) else (some false)) else (some (decide (t162 ≤ t163)))) else (some false)) = some r := H
                              have A231 := Aside0.mk A2310
                              clear A2310
                              by_cases c232 : t171 = true
                              · subst c232
                                have H1 : (if a2 = true then (if t162 = a3 then (some (decide (t162 ≤ t163))) else (some false)) else (some (decide (t162 ≤ t163)))) = some r := by rw [if_pos rfl] at H; exact H
                                clear H
                                have H := H1
                                clear H1
                                by_cases c233 : a2 = true
                                · subst c233
                                  have H1 : (if t162 = a3 then (some (decide (t162 ≤ t163))) else (some false)) = some r := by rw [if_pos rfl] at H; exact H
                                  clear H
                                  have H := H1
                                  clear H1
                                  by_cases c234 : t162 = a3
                                  · rw [if_pos c234] at H
                                    have c234b0 : (t162 == a3) = true := beq_iff_eq.mpr c234
                                    have c234b1 : (t162 != a3) = false := bne_eq_false_iff_eq.mpr c234
                                    clear c234
                                    obtain rfl := Option.some.inj H
                                    have hnb235 := NB165_147.out
                                    have hnc235 := NB147_165.out
                                    have hnb236 := NB165_153.out
                                    have hnc236 := NB153_165.out
                                    have hnb237 := NB165_157.out
                                    have hnc237 := NB157_165.out
                                    have hnb238 := NB165_161.out
                                    have hnc238 := NB161_165.out
                                    have hcz239_0 : wc.cell? ⟨gb165, 0, none⟩ = some (.int .i64 t162) := (blk_cell BK165.out 0).trans rfl
                                    have hcz239_1 : wc.cell? ⟨gb165, 1, none⟩ = some (.int .i64 t163) := (blk_cell BK165.out 1).trans rfl
                                    have hfz239_0 := blk_frozen BK165.out 0
                                    have hfz239_1 := blk_frozen BK165.out 1
                                    go_wp2_with (first | (go_at_call 11; (with_reducible refine (xmp_May.calls t162 t163 a3 a4 true _ A231.out).mono ?_); rintro e w240 ⟨rfl, hb⟩; have n0_ := Aside0.mk (blk_below (g := gb147) (o := .cells #[.int .i64 a0_0, .int .i64 a0_1] 30 (0, 0)) (by (with_reducible repeat (first | refine blk_drewN ?_ _ | refine blk_drew ?_ | refine blk_alloc ?_ _)); exact BK147.out) hb); have n1_ := Aside0.mk (blk_below (g := gb153) (o := .cells #[.int .i64 t150, .int .i64 t151] 30 (0, 0)) (by (with_reducible repeat (first | refine blk_drewN ?_ _ | refine blk_drew ?_ | refine blk_alloc ?_ _)); exact BK153.out) hb); have n2_ := Aside0.mk (blk_below (g := gb157) (o := .cells #[.int .i64 t154, .int .i64 t155] 30 (0, 0)) (by (with_reducible repeat (first | refine blk_drewN ?_ _ | refine blk_drew ?_ | refine blk_alloc ?_ _)); exact BK157.out) hb); have n3_ := Aside0.mk (blk_below (g := gb161) (o := .cells #[.int .i64 t158, .int .i64 t159] 30 (0, 0)) (by (with_reducible repeat (first | refine blk_drewN ?_ _ | refine blk_drew ?_ | refine blk_alloc ?_ _)); exact BK161.out) hb); have n4_ := Aside0.mk (blk_below (g := gb165) (o := .cells #[.int .i64 t162, .int .i64 t163] 30 (0, 0)) (by (with_reducible repeat (first | refine blk_drewN ?_ _ | refine blk_drew ?_ | refine blk_alloc ?_ _)); exact BK165.out) hb); have n5_ := Aside0.mk (below_step (by repeat (first | (with_reducible first | exact HB.out | apply below_alloc | apply pw_below_drewN | apply below_drew1 | refine below_set ?_ GE147.out | refine below_set ?_ GE153.out | refine below_set ?_ GE157.out | refine below_set ?_ GE161.out | refine below_set ?_ GE165.out) | exact HB.out)) hb); clear BK147; clear BK153; clear BK157; clear BK161; clear BK165; clear HB; have BK147 := n0_; have BK153 := n1_; have BK157 := n2_; have BK161 := n3_; have BK165 := n4_; have HB := n5_; clear n0_ n1_ n2_ n3_ n4_ n5_; (try clear hb); (try clear hb2); (try clear hk); (try clear hi); have hcz241_0 : w240.cell? ⟨gb165, 0, none⟩ = some (.int .i64 t162) := (blk_cell BK165.out 0).trans rfl; have hcz241_1 : w240.cell? ⟨gb165, 1, none⟩ = some (.int .i64 t163) := (blk_cell BK165.out 1).trans rfl; have hfz241_0 := blk_frozen BK165.out 0; have hfz241_1 := blk_frozen BK165.out 1))
                                    go_ret
                                    exact ⟨by first | rfl | (simp [errW_none, errW_some] <;> rfl) | (simp [*, errW_none, errW_some] <;> rfl), by repeat (first | (with_reducible first | exact HB.out | apply below_alloc | apply pw_below_drewN | apply below_drew1 | refine below_set ?_ GE147.out | refine below_set ?_ GE153.out | refine below_set ?_ GE157.out | refine below_set ?_ GE161.out | refine below_set ?_ GE165.out) | exact HB.out)⟩
                                  · rw [if_neg c234] at H
                                    have c234b0 : (t162 == a3) = false := beq_eq_false_iff_ne.mpr c234
                                    have c234b1 : (t162 != a3) = true := bne_iff_ne.mpr c234
                                    exact Bool.noConfusion ((Option.some.inj H).trans hr_.out)
                                · replace c233 := Bool.eq_false_iff.mpr c233
                                  subst c233
                                  have H1 : (some (decide (t162 ≤ t163))) = some r := by rw [if_neg (show ¬ (false = true) by decide)] at H; exact H
                                  clear H
                                  have H := H1
                                  clear H1
                                  obtain rfl := Option.some.inj H
                                  have hnb242 := NB165_147.out
                                  have hnc242 := NB147_165.out
                                  have hnb243 := NB165_153.out
                                  have hnc243 := NB153_165.out
                                  have hnb244 := NB165_157.out
                                  have hnc244 := NB157_165.out
                                  have hnb245 := NB165_161.out
                                  have hnc245 := NB161_165.out
                                  have hcz246_0 : wc.cell? ⟨gb165, 0, none⟩ = some (.int .i64 t162) := (blk_cell BK165.out 0).trans rfl
                                  have hcz246_1 : wc.cell? ⟨gb165, 1, none⟩ = some (.int .i64 t163) := (blk_cell BK165.out 1).trans rfl
                                  have hfz246_0 := blk_frozen BK165.out 0
                                  have hfz246_1 := blk_frozen BK165.out 1
                                  go_wp2_with (first | (go_at_call 11; (with_reducible refine (xmp_May.calls t162 t163 a3 a4 true _ A231.out).mono ?_); rintro e w247 ⟨rfl, hb⟩; have n0_ := Aside0.mk (blk_below (g := gb147) (o := .cells #[.int .i64 a0_0, .int .i64 a0_1] 30 (0, 0)) (by (with_reducible repeat (first | refine blk_drewN ?_ _ | refine blk_drew ?_ | refine blk_alloc ?_ _)); exact BK147.out) hb); have n1_ := Aside0.mk (blk_below (g := gb153) (o := .cells #[.int .i64 t150, .int .i64 t151] 30 (0, 0)) (by (with_reducible repeat (first | refine blk_drewN ?_ _ | refine blk_drew ?_ | refine blk_alloc ?_ _)); exact BK153.out) hb); have n2_ := Aside0.mk (blk_below (g := gb157) (o := .cells #[.int .i64 t154, .int .i64 t155] 30 (0, 0)) (by (with_reducible repeat (first | refine blk_drewN ?_ _ | refine blk_drew ?_ | refine blk_alloc ?_ _)); exact BK157.out) hb); have n3_ := Aside0.mk (blk_below (g := gb161) (o := .cells #[.int .i64 t158, .int .i64 t159] 30 (0, 0)) (by (with_reducible repeat (first | refine blk_drewN ?_ _ | refine blk_drew ?_ | refine blk_alloc ?_ _)); exact BK161.out) hb); have n4_ := Aside0.mk (blk_below (g := gb165) (o := .cells #[.int .i64 t162, .int .i64 t163] 30 (0, 0)) (by (with_reducible repeat (first | refine blk_drewN ?_ _ | refine blk_drew ?_ | refine blk_alloc ?_ _)); exact BK165.out) hb); have n5_ := Aside0.mk (below_step (by repeat (first | (with_reducible first | exact HB.out | apply below_alloc | apply pw_below_drewN | apply below_drew1 | refine below_set ?_ GE147.out | refine below_set ?_ GE153.out | refine below_set ?_ GE157.out | refine below_set ?_ GE161.out | refine below_set ?_ GE165.out) | exact HB.out)) hb); clear BK147; clear BK153; clear BK157; clear BK161; clear BK165; clear HB; have BK147 := n0_; have BK153 := n1_; have BK157 := n2_; have BK161 := n3_; have BK165 := n4_; have HB := n5_; clear n0_ n1_ n2_ n3_ n4_ n5_; (try clear hb); (try clear hb2); (try clear hk); (try clear hi); have hcz248_0 : w247.cell? ⟨gb165, 0, none⟩ = some (.int .i64 t162) := (blk_cell BK165.out 0).trans rfl; have hcz248_1 : w247.cell? ⟨gb165, 1, none⟩ = some (.int .i64 t163) := (blk_cell BK165.out 1).trans rfl; have hfz248_0 := blk_frozen BK165.out 0; have hfz248_1 := blk_frozen BK165.out 1))
                                  go_ret
                                  exact ⟨by first | rfl | (simp [errW_none, errW_some] <;> rfl) | (simp [*, errW_none, errW_some] <;> rfl), by repeat (first | (with_reducible first | exact HB.out | apply below_alloc | apply pw_below_drewN | apply below_drew1 | refine below_set ?_ GE147.out | refine below_set ?_ GE153.out | refine below_set ?_ GE157.out | refine below_set ?_ GE161.out | refine below_set ?_ GE165.out) | exact HB.out)⟩
                              · replace c232 := Bool.eq_false_iff.mpr c232
                                subst c232
                                have H1 : (some false) = some r := by rw [if_neg (show ¬ (false = true) by decide)] at H; exact H
                                clear H
                                have H := H1
                                clear H1
                                exact Bool.noConfusion ((Option.some.inj H).trans hr_.out)
                            · rw [if_neg c230] at H
                              have c230b0 : (t164 == 0) = false := beq_eq_false_iff_ne.mpr c230
                              have c230b1 : (t164 != 0) = true := bne_iff_ne.mpr c230
                              exact Bool.noConfusion ((Option.some.inj H).trans hr_.out)

end Go.Proofs.Ytdbnhmipbbadjaa.PXmpBounds
