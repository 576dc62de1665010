-- Written by a program of this session (wip/hprint.py), over the kit's print.py: the walk of one law. Lean checks it.
import Derived.Test.YtiilmjmgomcipaaPTimerLaterx0
import Derived.Test.YtiilmjmgomcipaaPTimerLaterx2
import Derived.Test.YtiilmjmgomcipaaPTimerLaterx5
import Derived.Test.YtiilmjmgomcipaaPTimerLaterx6
namespace Go.Proofs.Ytiilmjmgomcipaa.PTimerLater
open Go.RowKit Go.Proofs.YtiilmjmgomcipaaW.PrintWords Go.Proofs.YtiilmjmgomcipaaW.PrintLast Go.Proofs.YtiilmjmgomcipaaW.PrintMore
attribute [local go_sem] max2_int min2_int max_two min_two max_three min_three max_four min_four   -- for this text's walks alone
set_option linter.unusedVariables false
set_option linter.unusedSimpArgs false

attribute [local go_sem high] eqA27
/-! ### fourinhandlaw14_TimerLater: function 4 -/
mutual
def fourinhandlaw14_TimerLater.j0 : Nat → List (S32) → Int → Int → Bool → Bool → Bool → Int → Int → Int → Int → Option (Bool)
  | 0, _, _, _, _, _, _, _, _, _, _ => none
  | k + 1, x1, x2, x3, x9, x28, x148000, x148001, x148002, x148003, x148004 => if x28 = true then (some x9) else ((timer_Set.f k x148000 x148001 x148002 x148003 x148004 x1 true x2 x3).bind fun bt149 => (if bt149.2.2 = 0 then (if x148004 < 16 then (fourinhandlaw14_TimerLater.j1 k x1 x2 x3 x148000 x148001 x148002 x148003 x148004 bt149.1 bt149.2.1 x148000 x148001 x148002 x148003 (wrap64 (x148004 + 1))) else (fourinhandlaw14_TimerLater.j1 k x1 x2 x3 x148000 x148001 x148002 x148003 x148004 bt149.1 bt149.2.1 x148000 x148001 x148002 x148003 x148004)) else (some (bt149.1 == 0 && (bt149.2.1 == 0)))))
def fourinhandlaw14_TimerLater.j1 : Nat → List (S32) → Int → Int → Bool → Int → Int → Int → Int → Int → Int → Bool → Int → Int → Int → Int → Option (Bool)
  | 0, _, _, _, _, _, _, _, _, _, _, _, _, _, _, _ => none
  | k + 1, x1, x2, x3, x148000, x148001, x148002, x148003, x148004, x153000, x153001, x154000, x154001, x154002, x154003, x154004 => (timer_Set.f k x154000 x154001 x154002 x154003 x154004 x1 true x2 x3).bind fun bt154 => (fourinhandlaw14_TimerLater.l0 k x1 x2 x3 bt154.2.2 ([] : List (S32)) 0 0 x148000 x148001 x148002 x148003 x148004 x153000 x153001 bt154.1 bt154.2.1)
def fourinhandlaw14_TimerLater.l0 : Nat → List (S32) → Int → Int → Int → List (S32) → Int → Int → Bool → Int → Int → Int → Int → Int → Int → Int → Int → Option (Bool)
  | 0, _, _, _, _, _, _, _, _, _, _, _, _, _, _, _, _ => none
  | k + 1, x1, x2, x3, x14, x15, x16, x17, x148000, x148001, x148002, x148003, x148004, x153000, x153001, x158000, x158001 => if x17 < (x1.length : Int) then (if 0 ≤ x17 then (if ((rd_T32 x1 x17).f5 = true) then (fourinhandlaw14_TimerLater.l0 k x1 x2 x3 x14 x15 x16 (wrap64 (x17 + 1)) x148000 x148001 x148002 x148003 x148004 x153000 x153001 x158000 x158001) else (if ((rd_T32 x1 x17).f6 = true) then (fourinhandlaw14_TimerLater.l0 k x1 x2 x3 x14 x15 x16 (wrap64 (x17 + 1)) x148000 x148001 x148002 x148003 x148004 x153000 x153001 x158000 x158001) else (if x15.length < 2199023255552 then (fourinhandlaw14_TimerLater.l0 k x1 x2 x3 x14 (x15 ++ [(⟨x16, (rd_T32 x1 x17).f1, (rd_T32 x1 x17).f2, (rd_T32 x1 x17).f3, (rd_T32 x1 x17).f4, (rd_T32 x1 x17).f5, (rd_T32 x1 x17).f6, (rd_T32 x1 x17).f7, (rd_T32 x1 x17).f8⟩ : S32)]) (wrap64 (x16 + ((rd_T32 x1 x17).f1))) (wrap64 (x17 + 1)) x148000 x148001 x148002 x148003 x148004 x153000 x153001 x158000 x158001) else (none)))) else (none)) else ((timer_Set.f k x148000 x148001 x148002 x148003 x148004 x15 true x2 x3).bind fun bt165 => (if x14 = 0 then (if bt165.2.2 = 0 then (if x158001 ≥ x153001 then (if x158000 = x153000 then (some (bt165.1 == x153000 && (bt165.2.1 == x153001))) else (some false)) else (some false)) else (some false)) else (some false)))
end
def fourinhandlaw14_TimerLater.f (k : Nat) (a0_0 : Bool) (a0_1 : Int) (a0_2 : Int) (a0_3 : Int) (a0_4 : Int) (l1 : List (S32)) (a2 : Int) (a3 : Int) : Option (Bool) := (fourinhandlaw14_awake.f k).bind fun t148 => (if t148 = true then (fourinhandlaw14_TimerLater.j0 k l1 a2 a3 t148 (decide ((l1.length : Int) > 500)) a0_0 a0_1 a0_2 a0_3 a0_4) else (fourinhandlaw14_TimerLater.j0 k l1 a2 a3 t148 true a0_0 a0_1 a0_2 a0_3 a0_4))
theorem fourinhandlaw14_TimerLater.mono_l : ∀ k, (∀ y0 y1 y2 y3 y4 y5 y6 y7 y8 y9, LeO (fourinhandlaw14_TimerLater.j0 k y0 y1 y2 y3 y4 y5 y6 y7 y8 y9) (fourinhandlaw14_TimerLater.j0 (k + 1) y0 y1 y2 y3 y4 y5 y6 y7 y8 y9)) ∧ (∀ y0 y1 y2 y3 y4 y5 y6 y7 y8 y9 y10 y11 y12 y13 y14, LeO (fourinhandlaw14_TimerLater.j1 k y0 y1 y2 y3 y4 y5 y6 y7 y8 y9 y10 y11 y12 y13 y14) (fourinhandlaw14_TimerLater.j1 (k + 1) y0 y1 y2 y3 y4 y5 y6 y7 y8 y9 y10 y11 y12 y13 y14)) ∧ (∀ y0 y1 y2 y3 y4 y5 y6 y7 y8 y9 y10 y11 y12 y13 y14 y15, LeO (fourinhandlaw14_TimerLater.l0 k y0 y1 y2 y3 y4 y5 y6 y7 y8 y9 y10 y11 y12 y13 y14 y15) (fourinhandlaw14_TimerLater.l0 (k + 1) y0 y1 y2 y3 y4 y5 y6 y7 y8 y9 y10 y11 y12 y13 y14 y15))
  | 0 => ⟨fun _ _ _ _ _ _ _ _ _ _ r h => by simp [fourinhandlaw14_TimerLater.j0] at h, fun _ _ _ _ _ _ _ _ _ _ _ _ _ _ _ r h => by simp [fourinhandlaw14_TimerLater.j1] at h, fun _ _ _ _ _ _ _ _ _ _ _ _ _ _ _ _ r h => by simp [fourinhandlaw14_TimerLater.l0] at h⟩
  | k + 1 => by
    obtain ⟨ih0, ih1, ih2⟩ := fourinhandlaw14_TimerLater.mono_l k
    refine ⟨?_, ?_, ?_⟩
    · intro y0 y1 y2 y3 y4 y5 y6 y7 y8 y9
      unfold fourinhandlaw14_TimerLater.j0
      repeat' first
      | (with_reducible exact ih0 _ _ _ _ _ _ _ _ _ _)
      | (with_reducible exact ih1 _ _ _ _ _ _ _ _ _ _ _ _ _ _ _)
      | (with_reducible exact ih2 _ _ _ _ _ _ _ _ _ _ _ _ _ _ _ _)
      | (with_reducible exact fourinhandlaw14_awake.mono _)
      | (with_reducible exact timer_Set.mono _ _ _ _ _ _ _ _ _ _)
      | (with_reducible exact LeO.refl _)
      | (with_reducible exact LeO.none _)
      | (with_reducible refine LeO.ite ?_ ?_)
      | (with_reducible refine LeO.bind ?_ (fun _ => ?_))
      | exact ih0 _ _ _ _ _ _ _ _ _ _
      | exact ih1 _ _ _ _ _ _ _ _ _ _ _ _ _ _ _
      | exact ih2 _ _ _ _ _ _ _ _ _ _ _ _ _ _ _ _
      | exact fourinhandlaw14_awake.mono _
      | exact timer_Set.mono _ _ _ _ _ _ _ _ _ _
      | exact LeO.none _
      | refine LeO.ite ?_ ?_
      | refine LeO.bind ?_ (fun _ => ?_)
    · intro y0 y1 y2 y3 y4 y5 y6 y7 y8 y9 y10 y11 y12 y13 y14
      unfold fourinhandlaw14_TimerLater.j1
      repeat' first
      | (with_reducible exact ih0 _ _ _ _ _ _ _ _ _ _)
      | (with_reducible exact ih1 _ _ _ _ _ _ _ _ _ _ _ _ _ _ _)
      | (with_reducible exact ih2 _ _ _ _ _ _ _ _ _ _ _ _ _ _ _ _)
      | (with_reducible exact fourinhandlaw14_awake.mono _)
      | (with_reducible exact timer_Set.mono _ _ _ _ _ _ _ _ _ _)
      | (with_reducible exact LeO.refl _)
      | (with_reducible exact LeO.none _)
      | (with_reducible refine LeO.ite ?_ ?_)
      | (with_reducible refine LeO.bind ?_ (fun _ => ?_))
      | exact ih0 _ _ _ _ _ _ _ _ _ _
      | exact ih1 _ _ _ _ _ _ _ _ _ _ _ _ _ _ _
      | exact ih2 _ _ _ _ _ _ _ _ _ _ _ _ _ _ _ _
      | exact fourinhandlaw14_awake.mono _
      | exact timer_Set.mono _ _ _ _ _ _ _ _ _ _
      | exact LeO.none _
      | refine LeO.ite ?_ ?_
      | refine LeO.bind ?_ (fun _ => ?_)
    · intro y0 y1 y2 y3 y4 y5 y6 y7 y8 y9 y10 y11 y12 y13 y14 y15
      unfold fourinhandlaw14_TimerLater.l0
      repeat' first
      | (with_reducible exact ih0 _ _ _ _ _ _ _ _ _ _)
      | (with_reducible exact ih1 _ _ _ _ _ _ _ _ _ _ _ _ _ _ _)
      | (with_reducible exact ih2 _ _ _ _ _ _ _ _ _ _ _ _ _ _ _ _)
      | (with_reducible exact fourinhandlaw14_awake.mono _)
      | (with_reducible exact timer_Set.mono _ _ _ _ _ _ _ _ _ _)
      | (with_reducible exact LeO.refl _)
      | (with_reducible exact LeO.none _)
      | (with_reducible refine LeO.ite ?_ ?_)
      | (with_reducible refine LeO.bind ?_ (fun _ => ?_))
      | exact ih0 _ _ _ _ _ _ _ _ _ _
      | exact ih1 _ _ _ _ _ _ _ _ _ _ _ _ _ _ _
      | exact ih2 _ _ _ _ _ _ _ _ _ _ _ _ _ _ _ _
      | exact fourinhandlaw14_awake.mono _
      | exact timer_Set.mono _ _ _ _ _ _ _ _ _ _
      | exact LeO.none _
      | refine LeO.ite ?_ ?_
      | refine LeO.bind ?_ (fun _ => ?_)
theorem fourinhandlaw14_TimerLater.mono : ∀ a0 a1 a2 a3 a4 a5 a6 a7 k, LeO (fourinhandlaw14_TimerLater.f k a0 a1 a2 a3 a4 a5 a6 a7) (fourinhandlaw14_TimerLater.f (k + 1) a0 a1 a2 a3 a4 a5 a6 a7) := by
  intro a0 a1 a2 a3 a4 a5 a6 a7 k
  obtain ⟨ih0, ih1, ih2⟩ := fourinhandlaw14_TimerLater.mono_l k
  unfold fourinhandlaw14_TimerLater.f
  repeat' first
      | (with_reducible exact ih0 _ _ _ _ _ _ _ _ _ _)
      | (with_reducible exact ih1 _ _ _ _ _ _ _ _ _ _ _ _ _ _ _)
      | (with_reducible exact ih2 _ _ _ _ _ _ _ _ _ _ _ _ _ _ _ _)
      | (with_reducible exact fourinhandlaw14_awake.mono _)
      | (with_reducible exact timer_Set.mono _ _ _ _ _ _ _ _ _ _)
      | (with_reducible exact LeO.refl _)
      | (with_reducible exact LeO.none _)
      | (with_reducible refine LeO.ite ?_ ?_)
      | (with_reducible refine LeO.bind ?_ (fun _ => ?_))
      | exact ih0 _ _ _ _ _ _ _ _ _ _
      | exact ih1 _ _ _ _ _ _ _ _ _ _ _ _ _ _ _
      | exact ih2 _ _ _ _ _ _ _ _ _ _ _ _ _ _ _ _
      | exact fourinhandlaw14_awake.mono _
      | exact timer_Set.mono _ _ _ _ _ _ _ _ _ _
      | exact LeO.none _
      | refine LeO.ite ?_ ?_
      | refine LeO.bind ?_ (fun _ => ?_)
set_option maxHeartbeats 8000000 in
set_option maxRecDepth 100000 in
theorem fourinhandlaw14_TimerLater.calls (k : Nat) (a0_0 : Bool) (a0_1 : Int) (a0_2 : Int) (a0_3 : Int) (a0_4 : Int) (A1 : Option Addr) (c1 : Nat) (l1 : List (S32)) (a2 : Int) (a3 : Int) (r : Bool) (hr_ : Aside0 (r = true)) (w : World) (hr1 : Kd.C k32 w A1 l1.length l1) (hc1 : l1.length ≤ c1) (h : fourinhandlaw14_TimerLater.f k a0_0 a0_1 a0_2 a0_3 a0_4 l1 a2 a3 = some r) :
    Calls Try.prog 4 #[.agg #[.bool a0_0, .int .i64 a0_1, .int .i64 a0_2, .int .i64 a0_3, .int .i64 a0_4], .slice A1 l1.length c1, .int .i64 a2, .int .i64 a3] w fun e w' => e = .returned (.bool r) ∧ Below w.heap.size w w' := by
  have hu23 := Try.underlying23
  have hu27 := Try.underlying27
  have hu32 := Try.underlying32
  have HR1 := Aside0.mk hr1
  have HC1 := Aside0.mk hc1
  clear hr1 hc1
  have HB := Aside0.mk (Below.refl w.heap.size w)
  have H : ((fourinhandlaw14_awake.f k).bind fun t148 => (if t148 = true then (fourinhandlaw14_TimerLater.j0 k l1 a2 a3 t148 (decide ((l1.length : Int) > 500)) a0_0 a0_1 a0_2 a0_3 a0_4) else (fourinhandlaw14_TimerLater.j0 k l1 a2 a3 t148 true a0_0 a0_1 a0_2 a0_3 a0_4))) = some r := h
  clear h
  replace H := Option.bind_eq_some_iff.mp H
  obtain ⟨t148, A50, H⟩ := H
  replace H : (if t148 = true then (fourinhandlaw14_TimerLater.j0 k l1 a2 a3 t148 (decide ((l1.length : Int) > 500)) a0_0 a0_1 a0_2 a0_3 a0_4) else (fourinhandlaw14_TimerLater.j0 k l1 a2 a3 t148 true a0_0 a0_1 a0_2 a0_3 a0_4)) = some r := H
  have A5 := Aside0.mk A50
  clear A50
  have HC6 := Aside0.mk H
  clear H
  go_enter Try.func4, Try.ntmps4
  go_upto_region 2 with (first | ((with_reducible refine gate_dst (N := 4) rfl ?_); (try (refine gate_guard (by rfl) ?_; dsimp only)); refine box_event ?hg (N := 4) ?hd (cs := #[.bool a0_0, .int .i64 a0_1, .int .i64 a0_2, .int .i64 a0_3, .int .i64 a0_4]) (t := 23) ?hr ?_; (case hd => rfl); (case hg => rfl); (case hr => first | (go_simp; done) | (go_simp; rfl)); intro gb147 hg w7 hbox hb; have n0_ := Aside0.mk (below_step (by repeat (first | (with_reducible first | exact HB.out | apply below_alloc | apply pw_below_drewN | apply below_drew1) | exact HB.out)) hb); have n1_ := Aside0.mk (hbox); have n2_ := Aside0.mk ((by rw [hg]; exact (below_size (by repeat (first | (with_reducible first | exact HB.out | apply below_alloc | apply pw_below_drewN | apply below_drew1) | exact HB.out))) : w.heap.size ≤ gb147)); have n3_ := Aside0.mk ((by rw [hg]; exact (below_size (by repeat (first | (with_reducible first | exact HB.out | apply below_alloc | apply pw_below_drewN | apply below_drew1) | exact HB.out))) : w.heap.size ≤ gb147)); clear HB; have HB := n0_; have BK147 := n1_; have GW147 := n2_; have GE147 := n3_; clear n0_ n1_ n2_ n3_; clear hb hbox hg) | ((with_reducible refine gate_callee (f := 8) rfl ?_); refine goesL_ (some 21) rfl rfl Try.func8 (by kernel_rfl) rfl #[] rfl (by (try simp only [List.map_toArray, List.map_cons, List.map_nil]); first | done | rfl | (simp only [List.length_drop, List.length_take]; rfl)) ?_; (with_reducible refine (fourinhandlaw14_awake.calls k  t148 _ A5.out).mono ?_); rintro e w8 ⟨rfl, hb⟩; refine ⟨_, rfl, ?_⟩; have n0_ := Aside0.mk (blk_below (g := gb147) (o := .cells #[.bool a0_0, .int .i64 a0_1, .int .i64 a0_2, .int .i64 a0_3, .int .i64 a0_4] 23 (0, 0)) (by (with_reducible repeat (first | refine blk_drewN ?_ _ | refine blk_drew ?_ | refine blk_alloc ?_ _)); exact BK147.out) hb); have n1_ := Aside0.mk (below_step (by repeat (first | (with_reducible first | exact HB.out | apply below_alloc | apply pw_below_drewN | apply below_drew1 | refine below_set ?_ GE147.out) | exact HB.out)) hb); clear BK147; clear HB; have BK147 := n0_; have HB := n1_; clear n0_ n1_; (try clear hb); (try clear hb2); (try clear hk); (try clear hi)))
  (try simp only [Act.put, List.setIfInBounds_toArray, List.set_cons_zero, List.set_cons_succ])
  go_cut [28] (fun v28 wc => ∃ (kq : Nat) (x28_5 : Bool), v28 = .bool x28_5 ∧ Aside0 (fourinhandlaw14_TimerLater.j0 kq l1 a2 a3 t148 x28_5 a0_0 a0_1 a0_2 a0_3 a0_4 = some r) ∧ Aside0 (kq ≤ k) ∧ Aside0 (wc.heap[gb147]? = some (.cells #[.bool a0_0, .int .i64 a0_1, .int .i64 a0_2, .int .i64 a0_3, .int .i64 a0_4] 23 (0, 0))) ∧ Aside0 (Below w.heap.size w wc))
  case first =>
    have H := HC6.out
    clear HC6
    by_cases c9 : t148 = true
    · subst c9
      have H1 : (fourinhandlaw14_TimerLater.j0 k l1 a2 a3 true (decide ((l1.length : Int) > 500)) a0_0 a0_1 a0_2 a0_3 a0_4) = some r := by rw [if_pos rfl] at H; exact H
      clear H
      have H := H1
      clear H1
      have H' := Aside0.mk H
      clear H
      go_wp2
      go_meet
      case rel => exact ⟨_, (decide ((l1.length : Int) > 500)), (by first | rfl | (simp; done) | (simp [*]; done)), H', ⟨by first | omega | exact Nat.le_refl _⟩, ⟨by (with_reducible repeat (first | refine blk_drewN ?_ _ | refine blk_drew ?_ | refine blk_alloc ?_ _)); exact BK147.out⟩, ⟨by repeat (first | (with_reducible first | exact HB.out | apply below_alloc | apply pw_below_drewN | apply below_drew1 | refine below_set ?_ GE147.out) | exact HB.out)⟩⟩
    · replace c9 := Bool.eq_false_iff.mpr c9
      subst c9
      have H1 : (fourinhandlaw14_TimerLater.j0 k l1 a2 a3 false true a0_0 a0_1 a0_2 a0_3 a0_4) = some r := by rw [if_neg (show ¬ (false = true) by decide)] at H; exact H
      clear H
      have H := H1
      clear H1
      have H' := Aside0.mk H
      clear H
      go_wp2
      go_meet
      case rel => exact ⟨_, (true), (by first | rfl | (simp; done) | (simp [*]; done)), H', ⟨by first | omega | exact Nat.le_refl _⟩, ⟨by (with_reducible repeat (first | refine blk_drewN ?_ _ | refine blk_drew ?_ | refine blk_alloc ?_ _)); exact BK147.out⟩, ⟨by repeat (first | (with_reducible first | exact HB.out | apply below_alloc | apply pw_below_drewN | apply below_drew1 | refine below_set ?_ GE147.out) | exact HB.out)⟩⟩
  case rest =>
    clear HC6
    try clear c1
    try clear p2
    try clear c4
    try clear c8
    try clear c9
    obtain ⟨kq, x28_5, rfl, HA, HJ5, BK147, HB⟩ := hcut
    cases kq with
    | zero => exact absurd HA.out (by simp [fourinhandlaw14_TimerLater.j0])
    | succ kj5 =>
      have H := HA.out
      clear HA
      simp only [fourinhandlaw14_TimerLater.j0] at H
      by_cases c10 : x28_5 = true
      · subst c10
        have H1 : (some t148) = some r := by rw [if_pos rfl] at H; exact H
        clear H
        have H := H1
        clear H1
        obtain rfl := Option.some.inj H
        go_wp2
        go_ret
        exact ⟨by first | rfl | (simp [errW_none, errW_some] <;> rfl) | (simp [*, errW_none, errW_some] <;> rfl), by repeat (first | (with_reducible first | exact HB.out | apply below_alloc | apply pw_below_drewN | apply below_drew1 | refine below_set ?_ GE147.out) | exact HB.out)⟩
      · replace c10 := Bool.eq_false_iff.mpr c10
        subst c10
        have H1 : ((timer_Set.f kj5 a0_0 a0_1 a0_2 a0_3 a0_4 l1 true a2 a3).bind fun bt149 => (if bt149.2.2 = 0 then (if a0_4 < 16 then (fourinhandlaw14_TimerLater.j1 kj5 l1 a2 a3 a0_0 a0_1 a0_2 a0_3 a0_4 bt149.1 bt149.2.1 a0_0 a0_1 a0_2 a0_3 (wrap64 (a0_4 + 1))) else (fourinhandlaw14_TimerLater.j1 kj5 l1 a2 a3 a0_0 a0_1 a0_2 a0_3 a0_4 bt149.1 bt149.2.1 a0_0 a0_1 a0_2 a0_3 a0_4)) else (some (bt149.1 == 0 && (bt149.2.1 == 0))))) = some r := by rw [if_neg (show ¬ (false = true) by decide)] at H; exact H
        clear H
        have H := H1
        clear H1
        replace H := Option.bind_eq_some_iff.mp H
        obtain ⟨⟨t149, t150, t151⟩, A110, H⟩ := H
        replace H : (if t151 = 0 then (if a0_4 < 16 then (fourinhandlaw14_TimerLater.j1 kj5 l1 a2 a3 a0_0 a0_1 a0_2 a0_3 a0_4 t149 t150 a0_0 a0_1 a0_2 a0_3 (wrap64 (a0_4 + 1))) else (fourinhandlaw14_TimerLater.j1 kj5 l1 a2 a3 a0_0 a0_1 a0_2 a0_3 a0_4 t149 t150 a0_0 a0_1 a0_2 a0_3 a0_4)) else (some (t149 == 0 && (t150 == 0)))) = some r := H
        have A11 := Aside0.mk A110
        clear A110
        by_cases c12 : t151 = 0
        · rw [if_pos c12] at H
          have c12b0 : (t151 == 0) = true := beq_iff_eq.mpr c12
          have c12b1 : (t151 != 0) = false := bne_eq_false_iff_eq.mpr c12
          clear c12
          have HC13 := Aside0.mk H
          clear H
          have hcz14_0 : wc.cell? ⟨gb147, 0, none⟩ = some (.bool a0_0) := (blk_cell BK147.out 0).trans rfl
          have hcz14_1 : wc.cell? ⟨gb147, 1, none⟩ = some (.int .i64 a0_1) := (blk_cell BK147.out 1).trans rfl
          have hcz14_2 : wc.cell? ⟨gb147, 2, none⟩ = some (.int .i64 a0_2) := (blk_cell BK147.out 2).trans rfl
          have hcz14_3 : wc.cell? ⟨gb147, 3, none⟩ = some (.int .i64 a0_3) := (blk_cell BK147.out 3).trans rfl
          have hcz14_4 : wc.cell? ⟨gb147, 4, none⟩ = some (.int .i64 a0_4) := (blk_cell BK147.out 4).trans rfl
          have hfz14_0 := blk_frozen BK147.out 0
          have hfz14_1 := blk_frozen BK147.out 1
          have hfz14_2 := blk_frozen BK147.out 2
          have hfz14_3 := blk_frozen BK147.out 3
          have hfz14_4 := blk_frozen BK147.out 4
          go_upto_if 46 with (first | ((with_reducible refine gate_callee (f := 9) rfl ?_); refine goesL_ (some 35) rfl rfl Try.func9 (by kernel_rfl) rfl #[.agg #[.bool a0_0, .int .i64 a0_1, .int .i64 a0_2, .int .i64 a0_3, .int .i64 a0_4], .slice A1 l1.length c1, .bool true, .int .i64 a2, .int .i64 a3] rfl (by (try simp only [List.map_toArray, List.map_cons, List.map_nil]); first | done | rfl | (simp only [List.length_drop, List.length_take]; rfl)) ?_; (with_reducible refine (timer_Set.calls kj5 a0_0 a0_1 a0_2 a0_3 a0_4 _ _ l1 true a2 a3 t149 t150 t151 _ ?side1 ?side2 A11.out).mono ?_); (case side1 => repeat (first | exact (Kd.C_below HR1.out HB.out) | (with_reducible refine Kd.C_alloc ?_ _) | (with_reducible refine Kd.C_drewN ?_ _) | (with_reducible refine Kd.C_drew ?_))); (case side2 => exact HC1.out); rintro e w15 ⟨rfl, hb⟩; refine ⟨_, rfl, ?_⟩; have n0_ := Aside0.mk (blk_below (g := gb147) (o := .cells #[.bool a0_0, .int .i64 a0_1, .int .i64 a0_2, .int .i64 a0_3, .int .i64 a0_4] 23 (0, 0)) (by (with_reducible repeat (first | refine blk_drewN ?_ _ | refine blk_drew ?_ | refine blk_alloc ?_ _)); exact BK147.out) hb); have n1_ := Aside0.mk (below_step (by repeat (first | (with_reducible first | exact HB.out | apply below_alloc | apply pw_below_drewN | apply below_drew1 | refine below_set ?_ GE147.out) | exact HB.out)) hb); clear BK147; clear HB; have BK147 := n0_; have HB := n1_; clear n0_ n1_; (try clear hb); (try clear hb2); (try clear hk); (try clear hi)) | ((with_reducible refine gate_dst (N := 10) rfl ?_); (try (refine gate_guard (by rfl) ?_; dsimp only)); refine box_event ?hg (N := 10) ?hd (cs := #[.int .i64 0, .int .i64 0]) (t := 27) ?hr ?_; (case hd => rfl); (case hg => rfl); (case hr => first | (go_simp; done) | (go_simp; rfl)); intro gb152 hg w16 hbox hb; have n0_ := Aside0.mk (blk_below (g := gb147) (o := .cells #[.bool a0_0, .int .i64 a0_1, .int .i64 a0_2, .int .i64 a0_3, .int .i64 a0_4] 23 (0, 0)) (by (with_reducible repeat (first | refine blk_drewN ?_ _ | refine blk_drew ?_ | refine blk_alloc ?_ _)); exact BK147.out) hb); have n1_ := Aside0.mk (below_step (by repeat (first | (with_reducible first | exact HB.out | apply below_alloc | apply pw_below_drewN | apply below_drew1 | refine below_set ?_ GE147.out) | exact HB.out)) hb); have n2_ := Aside0.mk (hbox); have n3_ := Aside0.mk ((by rw [hg]; exact (below_size (by repeat (first | (with_reducible first | exact HB.out | apply below_alloc | apply pw_below_drewN | apply below_drew1 | refine below_set ?_ GE147.out) | exact HB.out))) : w.heap.size ≤ gb152)); have n4_ := Aside0.mk ((by rw [hg]; exact (below_size (by repeat (first | (with_reducible first | exact HB.out | apply below_alloc | apply pw_below_drewN | apply below_drew1 | refine below_set ?_ GE147.out) | exact HB.out))) : w.heap.size ≤ gb152)); have n5_ := Aside0.mk ((by rw [hg]; exact Nat.ne_of_lt (blk_lt (g := gb147) (o := .cells #[.bool a0_0, .int .i64 a0_1, .int .i64 a0_2, .int .i64 a0_3, .int .i64 a0_4] 23 (0, 0)) (by (with_reducible repeat (first | refine blk_drewN ?_ _ | refine blk_drew ?_ | refine blk_alloc ?_ _)); exact BK147.out)) : gb147 ≠ gb152)); have n6_ := Aside0.mk ((by rw [hg]; exact Nat.ne_of_gt (blk_lt (g := gb147) (o := .cells #[.bool a0_0, .int .i64 a0_1, .int .i64 a0_2, .int .i64 a0_3, .int .i64 a0_4] 23 (0, 0)) (by (with_reducible repeat (first | refine blk_drewN ?_ _ | refine blk_drew ?_ | refine blk_alloc ?_ _)); exact BK147.out)) : gb152 ≠ gb147)); clear BK147; clear HB; have BK147 := n0_; have HB := n1_; have BK152 := n2_; have GW152 := n3_; have GE152 := n4_; have NB147_152 := n5_; have NB152_147 := n6_; clear n0_ n1_ n2_ n3_ n4_ n5_ n6_; clear hb hbox hg; have hnb17 := NB152_147.out; have hnc17 := NB147_152.out; have hcz18_0 : w16.cell? ⟨gb152, 0, none⟩ = some (.int .i64 0) := (blk_cell BK152.out 0).trans rfl; have hcz18_1 : w16.cell? ⟨gb152, 1, none⟩ = some (.int .i64 0) := (blk_cell BK152.out 1).trans rfl; have hss1 : ∀ v, (w16.setCell ⟨gb152, 0, none⟩ v).cell? ⟨gb152, 1, none⟩ = some (.int .i64 0) := fun v => (World.cell?_setCell_other _ _ _ v (by simp)).trans hcz18_1; have hfz18_0 := blk_frozen BK152.out 0; have hfz18_1 := blk_frozen BK152.out 1; have hcz19_0 : w16.cell? ⟨gb147, 0, none⟩ = some (.bool a0_0) := (blk_cell BK147.out 0).trans rfl; have hcz19_1 : w16.cell? ⟨gb147, 1, none⟩ = some (.int .i64 a0_1) := (blk_cell BK147.out 1).trans rfl; have hcz19_2 : w16.cell? ⟨gb147, 2, none⟩ = some (.int .i64 a0_2) := (blk_cell BK147.out 2).trans rfl; have hcz19_3 : w16.cell? ⟨gb147, 3, none⟩ = some (.int .i64 a0_3) := (blk_cell BK147.out 3).trans rfl; have hcz19_4 : w16.cell? ⟨gb147, 4, none⟩ = some (.int .i64 a0_4) := (blk_cell BK147.out 4).trans rfl; have hfz19_0 := blk_frozen BK147.out 0; have hfz19_1 := blk_frozen BK147.out 1; have hfz19_2 := blk_frozen BK147.out 2; have hfz19_3 := blk_frozen BK147.out 3; have hfz19_4 := blk_frozen BK147.out 4) | ((with_reducible refine gate_dst (N := 12) rfl ?_); (try (refine gate_guard (by rfl) ?_; dsimp only)); refine box_event ?hg (N := 12) ?hd (cs := #[.bool false, .int .i64 0, .int .i64 0, .int .i64 0, .int .i64 0]) (t := 23) ?hr ?_; (case hd => rfl); (case hg => rfl); (case hr => first | (go_simp; done) | (go_simp; rfl)); intro gb153 hg w20 hbox hb; have n0_ := Aside0.mk (blk_below (g := gb147) (o := .cells #[.bool a0_0, .int .i64 a0_1, .int .i64 a0_2, .int .i64 a0_3, .int .i64 a0_4] 23 (0, 0)) (by (with_reducible repeat (first | refine blk_drewN ?_ _ | refine blk_drew ?_ | refine blk_alloc ?_ _)); refine blk_far ?_ NB147_152.out _; (with_reducible repeat (first | refine blk_drewN ?_ _ | refine blk_drew ?_ | refine blk_alloc ?_ _)); refine blk_far ?_ NB147_152.out _; (with_reducible repeat (first | refine blk_drewN ?_ _ | refine blk_drew ?_ | refine blk_alloc ?_ _)); exact BK147.out) hb); have n1_ := Aside0.mk (blk_below (g := gb152) (o := .cells #[.int .i64 t149, .int .i64 t150] 27 (0, 0)) (by (with_reducible repeat (first | refine blk_drewN ?_ _ | refine blk_drew ?_ | refine blk_alloc ?_ _)); refine blk_put (cs := #[.int .i64 t149, .int .i64 0]) ?_ 1 _ rfl; (with_reducible repeat (first | refine blk_drewN ?_ _ | refine blk_drew ?_ | refine blk_alloc ?_ _)); refine blk_put (cs := #[.int .i64 0, .int .i64 0]) ?_ 0 _ rfl; (with_reducible repeat (first | refine blk_drewN ?_ _ | refine blk_drew ?_ | refine blk_alloc ?_ _)); exact BK152.out) hb); have n2_ := Aside0.mk (below_step (by repeat (first | (with_reducible first | exact HB.out | apply below_alloc | apply pw_below_drewN | apply below_drew1 | refine below_set ?_ GE147.out | refine below_set ?_ GE152.out) | exact HB.out)) hb); have n3_ := Aside0.mk (hbox); have n4_ := Aside0.mk ((by rw [hg]; exact (below_size (by repeat (first | (with_reducible first | exact HB.out | apply below_alloc | apply pw_below_drewN | apply below_drew1 | refine below_set ?_ GE147.out | refine below_set ?_ GE152.out) | exact HB.out))) : w.heap.size ≤ gb153)); have n5_ := Aside0.mk ((by rw [hg]; exact (below_size (by repeat (first | (with_reducible first | exact HB.out | apply below_alloc | apply pw_below_drewN | apply below_drew1 | refine below_set ?_ GE147.out | refine below_set ?_ GE152.out) | exact HB.out))) : w.heap.size ≤ gb153)); have n6_ := Aside0.mk ((by rw [hg]; exact Nat.ne_of_lt (blk_lt (g := gb147) (o := .cells #[.bool a0_0, .int .i64 a0_1, .int .i64 a0_2, .int .i64 a0_3, .int .i64 a0_4] 23 (0, 0)) (by (with_reducible repeat (first | refine blk_drewN ?_ _ | refine blk_drew ?_ | refine blk_alloc ?_ _)); refine blk_far ?_ NB147_152.out _; (with_reducible repeat (first | refine blk_drewN ?_ _ | refine blk_drew ?_ | refine blk_alloc ?_ _)); refine blk_far ?_ NB147_152.out _; (with_reducible repeat (first | refine blk_drewN ?_ _ | refine blk_drew ?_ | refine blk_alloc ?_ _)); exact BK147.out)) : gb147 ≠ gb153)); have n7_ := Aside0.mk ((by rw [hg]; exact Nat.ne_of_gt (blk_lt (g := gb147) (o := .cells #[.bool a0_0, .int .i64 a0_1, .int .i64 a0_2, .int .i64 a0_3, .int .i64 a0_4] 23 (0, 0)) (by (with_reducible repeat (first | refine blk_drewN ?_ _ | refine blk_drew ?_ | refine blk_alloc ?_ _)); refine blk_far ?_ NB147_152.out _; (with_reducible repeat (first | refine blk_drewN ?_ _ | refine blk_drew ?_ | refine blk_alloc ?_ _)); refine blk_far ?_ NB147_152.out _; (with_reducible repeat (first | refine blk_drewN ?_ _ | refine blk_drew ?_ | refine blk_alloc ?_ _)); exact BK147.out)) : gb153 ≠ gb147)); have n8_ := Aside0.mk ((by rw [hg]; exact Nat.ne_of_lt (blk_lt (g := gb152) (o := .cells #[.int .i64 t149, .int .i64 t150] 27 (0, 0)) (by (with_reducible repeat (first | refine blk_drewN ?_ _ | refine blk_drew ?_ | refine blk_alloc ?_ _)); refine blk_put (cs := #[.int .i64 t149, .int .i64 0]) ?_ 1 _ rfl; (with_reducible repeat (first | refine blk_drewN ?_ _ | refine blk_drew ?_ | refine blk_alloc ?_ _)); refine blk_put (cs := #[.int .i64 0, .int .i64 0]) ?_ 0 _ rfl; (with_reducible repeat (first | refine blk_drewN ?_ _ | refine blk_drew ?_ | refine blk_alloc ?_ _)); exact BK152.out)) : gb152 ≠ gb153)); have n9_ := Aside0.mk ((by rw [hg]; exact Nat.ne_of_gt (blk_lt (g := gb152) (o := .cells #[.int .i64 t149, .int .i64 t150] 27 (0, 0)) (by (with_reducible repeat (first | refine blk_drewN ?_ _ | refine blk_drew ?_ | refine blk_alloc ?_ _)); refine blk_put (cs := #[.int .i64 t149, .int .i64 0]) ?_ 1 _ rfl; (with_reducible repeat (first | refine blk_drewN ?_ _ | refine blk_drew ?_ | refine blk_alloc ?_ _)); refine blk_put (cs := #[.int .i64 0, .int .i64 0]) ?_ 0 _ rfl; (with_reducible repeat (first | refine blk_drewN ?_ _ | refine blk_drew ?_ | refine blk_alloc ?_ _)); exact BK152.out)) : gb153 ≠ gb152)); clear BK147; clear BK152; clear HB; have BK147 := n0_; have BK152 := n1_; have HB := n2_; have BK153 := n3_; have GW153 := n4_; have GE153 := n5_; have NB147_153 := n6_; have NB153_147 := n7_; have NB152_153 := n8_; have NB153_152 := n9_; clear n0_ n1_ n2_ n3_ n4_ n5_ n6_ n7_ n8_ n9_; clear hb hbox hg; have hnb21 := NB153_147.out; have hnc21 := NB147_153.out; have hnb22 := NB153_152.out; have hnc22 := NB152_153.out; have hcz23_0 : w20.cell? ⟨gb153, 0, none⟩ = some (.bool false) := (blk_cell BK153.out 0).trans rfl; have hcz23_1 : w20.cell? ⟨gb153, 1, none⟩ = some (.int .i64 0) := (blk_cell BK153.out 1).trans rfl; have hcz23_2 : w20.cell? ⟨gb153, 2, none⟩ = some (.int .i64 0) := (blk_cell BK153.out 2).trans rfl; have hcz23_3 : w20.cell? ⟨gb153, 3, none⟩ = some (.int .i64 0) := (blk_cell BK153.out 3).trans rfl; have hcz23_4 : w20.cell? ⟨gb153, 4, none⟩ = some (.int .i64 0) := (blk_cell BK153.out 4).trans rfl; have hfz23_0 := blk_frozen BK153.out 0; have hfz23_1 := blk_frozen BK153.out 1; have hfz23_2 := blk_frozen BK153.out 2; have hfz23_3 := blk_frozen BK153.out 3; have hfz23_4 := blk_frozen BK153.out 4))
          (try simp only [Act.put, List.setIfInBounds_toArray, List.set_cons_zero, List.set_cons_succ])
          go_cut [] (fun wc => ∃ (kq : Nat) (x154004_12 : Int), Aside0 (fourinhandlaw14_TimerLater.j1 kq l1 a2 a3 a0_0 a0_1 a0_2 a0_3 a0_4 t149 t150 a0_0 a0_1 a0_2 a0_3 x154004_12 = some r) ∧ Aside0 (kq ≤ kj5) ∧ Aside0 (wc.heap[gb147]? = some (.cells #[.bool a0_0, .int .i64 a0_1, .int .i64 a0_2, .int .i64 a0_3, .int .i64 a0_4] 23 (0, 0))) ∧ Aside0 (wc.heap[gb152]? = some (.cells #[.int .i64 t149, .int .i64 t150] 27 (0, 0))) ∧ Aside0 (wc.heap[gb153]? = some (.cells #[.bool a0_0, .int .i64 a0_1, .int .i64 a0_2, .int .i64 a0_3, .int .i64 x154004_12] 23 (0, 0))) ∧ Aside0 (Below w.heap.size w wc))
          case first =>
            have H := HC13.out
            clear HC13
            by_cases c24 : a0_4 < 16
            · rw [if_pos c24] at H
              have c24b0 : decide (a0_4 < 16) = true := decide_eq_true c24
              clear c24
              (first | rw [c24b0] | (simp only [i64_w, i32_w]; rw [c24b0]) | skip)
              have H' := Aside0.mk H
              clear H
              have hnb25 := NB147_152.out
              have hnc25 := NB152_147.out
              have hnb26 := NB147_153.out
              have hnc26 := NB153_147.out
              have hcz27_0 : w20.cell? ⟨gb147, 0, none⟩ = some (.bool a0_0) := (blk_cell BK147.out 0).trans rfl
              have hcz27_1 : w20.cell? ⟨gb147, 1, none⟩ = some (.int .i64 a0_1) := (blk_cell BK147.out 1).trans rfl
              have hcz27_2 : w20.cell? ⟨gb147, 2, none⟩ = some (.int .i64 a0_2) := (blk_cell BK147.out 2).trans rfl
              have hcz27_3 : w20.cell? ⟨gb147, 3, none⟩ = some (.int .i64 a0_3) := (blk_cell BK147.out 3).trans rfl
              have hcz27_4 : w20.cell? ⟨gb147, 4, none⟩ = some (.int .i64 a0_4) := (blk_cell BK147.out 4).trans rfl
              have hfz27_0 := blk_frozen BK147.out 0
              have hfz27_1 := blk_frozen BK147.out 1
              have hfz27_2 := blk_frozen BK147.out 2
              have hfz27_3 := blk_frozen BK147.out 3
              have hfz27_4 := blk_frozen BK147.out 4
              have hnb28 := NB153_152.out
              have hnc28 := NB152_153.out
              have hcz29_0 : w20.cell? ⟨gb153, 0, none⟩ = some (.bool false) := (blk_cell BK153.out 0).trans rfl
              have hcz29_1 : w20.cell? ⟨gb153, 1, none⟩ = some (.int .i64 0) := (blk_cell BK153.out 1).trans rfl
              have hcz29_2 : w20.cell? ⟨gb153, 2, none⟩ = some (.int .i64 0) := (blk_cell BK153.out 2).trans rfl
              have hcz29_3 : w20.cell? ⟨gb153, 3, none⟩ = some (.int .i64 0) := (blk_cell BK153.out 3).trans rfl
              have hcz29_4 : w20.cell? ⟨gb153, 4, none⟩ = some (.int .i64 0) := (blk_cell BK153.out 4).trans rfl
              have hfz29_0 := blk_frozen BK153.out 0
              have hfz29_1 := blk_frozen BK153.out 1
              have hfz29_2 := blk_frozen BK153.out 2
              have hfz29_3 := blk_frozen BK153.out 3
              have hfz29_4 := blk_frozen BK153.out 4
              go_wp2
              go_meet
              case rel => exact ⟨_, (wrap64 (a0_4 + 1)), H', ⟨by have := HJ5.out; first | omega | exact Nat.le_refl _⟩, ⟨by (with_reducible repeat (first | refine blk_drewN ?_ _ | refine blk_drew ?_ | refine blk_alloc ?_ _)); refine blk_far ?_ NB147_153.out _; (with_reducible repeat (first | refine blk_drewN ?_ _ | refine blk_drew ?_ | refine blk_alloc ?_ _)); refine blk_far ?_ NB147_153.out _; (with_reducible repeat (first | refine blk_drewN ?_ _ | refine blk_drew ?_ | refine blk_alloc ?_ _)); refine blk_far ?_ NB147_153.out _; (with_reducible repeat (first | refine blk_drewN ?_ _ | refine blk_drew ?_ | refine blk_alloc ?_ _)); refine blk_far ?_ NB147_153.out _; (with_reducible repeat (first | refine blk_drewN ?_ _ | refine blk_drew ?_ | refine blk_alloc ?_ _)); refine blk_far ?_ NB147_153.out _; (with_reducible repeat (first | refine blk_drewN ?_ _ | refine blk_drew ?_ | refine blk_alloc ?_ _)); refine blk_far ?_ NB147_153.out _; (with_reducible repeat (first | refine blk_drewN ?_ _ | refine blk_drew ?_ | refine blk_alloc ?_ _)); exact BK147.out⟩, ⟨by (with_reducible repeat (first | refine blk_drewN ?_ _ | refine blk_drew ?_ | refine blk_alloc ?_ _)); refine blk_far ?_ NB152_153.out _; (with_reducible repeat (first | refine blk_drewN ?_ _ | refine blk_drew ?_ | refine blk_alloc ?_ _)); refine blk_far ?_ NB152_153.out _; (with_reducible repeat (first | refine blk_drewN ?_ _ | refine blk_drew ?_ | refine blk_alloc ?_ _)); refine blk_far ?_ NB152_153.out _; (with_reducible repeat (first | refine blk_drewN ?_ _ | refine blk_drew ?_ | refine blk_alloc ?_ _)); refine blk_far ?_ NB152_153.out _; (with_reducible repeat (first | refine blk_drewN ?_ _ | refine blk_drew ?_ | refine blk_alloc ?_ _)); refine blk_far ?_ NB152_153.out _; (with_reducible repeat (first | refine blk_drewN ?_ _ | refine blk_drew ?_ | refine blk_alloc ?_ _)); refine blk_far ?_ NB152_153.out _; (with_reducible repeat (first | refine blk_drewN ?_ _ | refine blk_drew ?_ | refine blk_alloc ?_ _)); exact BK152.out⟩, ⟨by (with_reducible repeat (first | refine blk_drewN ?_ _ | refine blk_drew ?_ | refine blk_alloc ?_ _)); refine blk_put (cs := #[.bool a0_0, .int .i64 a0_1, .int .i64 a0_2, .int .i64 a0_3, .int .i64 a0_4]) ?_ 4 _ rfl; (with_reducible repeat (first | refine blk_drewN ?_ _ | refine blk_drew ?_ | refine blk_alloc ?_ _)); refine blk_put (cs := #[.bool a0_0, .int .i64 a0_1, .int .i64 a0_2, .int .i64 a0_3, .int .i64 0]) ?_ 4 _ rfl; (with_reducible repeat (first | refine blk_drewN ?_ _ | refine blk_drew ?_ | refine blk_alloc ?_ _)); refine blk_put (cs := #[.bool a0_0, .int .i64 a0_1, .int .i64 a0_2, .int .i64 0, .int .i64 0]) ?_ 3 _ rfl; (with_reducible repeat (first | refine blk_drewN ?_ _ | refine blk_drew ?_ | refine blk_alloc ?_ _)); refine blk_put (cs := #[.bool a0_0, .int .i64 a0_1, .int .i64 0, .int .i64 0, .int .i64 0]) ?_ 2 _ rfl; (with_reducible repeat (first | refine blk_drewN ?_ _ | refine blk_drew ?_ | refine blk_alloc ?_ _)); refine blk_put (cs := #[.bool a0_0, .int .i64 0, .int .i64 0, .int .i64 0, .int .i64 0]) ?_ 1 _ rfl; (with_reducible repeat (first | refine blk_drewN ?_ _ | refine blk_drew ?_ | refine blk_alloc ?_ _)); refine blk_put (cs := #[.bool false, .int .i64 0, .int .i64 0, .int .i64 0, .int .i64 0]) ?_ 0 _ rfl; (with_reducible repeat (first | refine blk_drewN ?_ _ | refine blk_drew ?_ | refine blk_alloc ?_ _)); exact BK153.out⟩, ⟨by repeat (first | (with_reducible first | exact HB.out | apply below_alloc | apply pw_below_drewN | apply below_drew1 | refine below_set ?_ GE147.out | refine below_set ?_ GE152.out | refine below_set ?_ GE153.out) | exact HB.out)⟩⟩
            · rw [if_neg c24] at H
              have c24b0 : decide (a0_4 < 16) = false := decide_eq_false c24
              clear c24
              (first | rw [c24b0] | (simp only [i64_w, i32_w]; rw [c24b0]) | skip)
              have H' := Aside0.mk H
              clear H
              go_wp2
              go_meet
              case rel => exact ⟨_, (a0_4), H', ⟨by have := HJ5.out; first | omega | exact Nat.le_refl _⟩, ⟨by (with_reducible repeat (first | refine blk_drewN ?_ _ | refine blk_drew ?_ | refine blk_alloc ?_ _)); refine blk_far ?_ NB147_153.out _; (with_reducible repeat (first | refine blk_drewN ?_ _ | refine blk_drew ?_ | refine blk_alloc ?_ _)); refine blk_far ?_ NB147_153.out _; (with_reducible repeat (first | refine blk_drewN ?_ _ | refine blk_drew ?_ | refine blk_alloc ?_ _)); refine blk_far ?_ NB147_153.out _; (with_reducible repeat (first | refine blk_drewN ?_ _ | refine blk_drew ?_ | refine blk_alloc ?_ _)); refine blk_far ?_ NB147_153.out _; (with_reducible repeat (first | refine blk_drewN ?_ _ | refine blk_drew ?_ | refine blk_alloc ?_ _)); refine blk_far ?_ NB147_153.out _; (with_reducible repeat (first | refine blk_drewN ?_ _ | refine blk_drew ?_ | refine blk_alloc ?_ _)); exact BK147.out⟩, ⟨by (with_reducible repeat (first | refine blk_drewN ?_ _ | refine blk_drew ?_ | refine blk_alloc ?_ _)); refine blk_far ?_ NB152_153.out _; (with_reducible repeat (first | refine blk_drewN ?_ _ | refine blk_drew ?_ | refine blk_alloc ?_ _)); refine blk_far ?_ NB152_153.out _; (with_reducible repeat (first | refine blk_drewN ?_ _ | refine blk_drew ?_ | refine blk_alloc ?_ _)); refine blk_far ?_ NB152_153.out _; (with_reducible repeat (first | refine blk_drewN ?_ _ | refine blk_drew ?_ | refine blk_alloc ?_ _)); refine blk_far ?_ NB152_153.out _; (with_reducible repeat (first | refine blk_drewN ?_ _ | refine blk_drew ?_ | refine blk_alloc ?_ _)); refine blk_far ?_ NB152_153.out _; (with_reducible repeat (first | refine blk_drewN ?_ _ | refine blk_drew ?_ | refine blk_alloc ?_ _)); exact BK152.out⟩, ⟨by (with_reducible repeat (first | refine blk_drewN ?_ _ | refine blk_drew ?_ | refine blk_alloc ?_ _)); refine blk_put (cs := #[.bool a0_0, .int .i64 a0_1, .int .i64 a0_2, .int .i64 a0_3, .int .i64 0]) ?_ 4 _ rfl; (with_reducible repeat (first | refine blk_drewN ?_ _ | refine blk_drew ?_ | refine blk_alloc ?_ _)); refine blk_put (cs := #[.bool a0_0, .int .i64 a0_1, .int .i64 a0_2, .int .i64 0, .int .i64 0]) ?_ 3 _ rfl; (with_reducible repeat (first | refine blk_drewN ?_ _ | refine blk_drew ?_ | refine blk_alloc ?_ _)); refine blk_put (cs := #[.bool a0_0, .int .i64 a0_1, .int .i64 0, .int .i64 0, .int .i64 0]) ?_ 2 _ rfl; (with_reducible repeat (first | refine blk_drewN ?_ _ | refine blk_drew ?_ | refine blk_alloc ?_ _)); refine blk_put (cs := #[.bool a0_0, .int .i64 0, .int .i64 0, .int .i64 0, .int .i64 0]) ?_ 1 _ rfl; (with_reducible repeat (first | refine blk_drewN ?_ _ | refine blk_drew ?_ | refine blk_alloc ?_ _)); refine blk_put (cs := #[.bool false, .int .i64 0, .int .i64 0, .int .i64 0, .int .i64 0]) ?_ 0 _ rfl; (with_reducible repeat (first | refine blk_drewN ?_ _ | refine blk_drew ?_ | refine blk_alloc ?_ _)); exact BK153.out⟩, ⟨by repeat (first | (with_reducible first | exact HB.out | apply below_alloc | apply pw_below_drewN | apply below_drew1 | refine below_set ?_ GE147.out | refine below_set ?_ GE152.out | refine below_set ?_ GE153.out) | exact HB.out)⟩⟩
          case rest =>
            clear HC13
            try clear c1
            try clear c2
            try clear p2
            try clear c4
            try clear p6
            try clear c8
            try clear c9
            try clear c10
            try clear c12
            try clear c12b0
            try clear c12b1
            try clear c17
            try clear c21
            try clear c22
            try clear c24
            try clear c24b0
            try clear c25
            try clear c26
            try clear c28
            try clear hcz14_0
            try clear hcz14_1
            try clear hcz14_2
            try clear hcz14_3
            try clear hcz14_4
            try clear hcz18_0
            try clear hcz18_1
            try clear hcz19_0
            try clear hcz19_1
            try clear hcz19_2
            try clear hcz19_3
            try clear hcz19_4
            try clear hcz23_0
            try clear hcz23_1
            try clear hcz23_2
            try clear hcz23_3
            try clear hcz23_4
            try clear hcz27_0
            try clear hcz27_1
            try clear hcz27_2
            try clear hcz27_3
            try clear hcz27_4
            try clear hcz29_0
            try clear hcz29_1
            try clear hcz29_2
            try clear hcz29_3
            try clear hcz29_4
            try clear hfz14_0
            try clear hfz14_1
            try clear hfz14_2
            try clear hfz14_3
            try clear hfz14_4
            try clear hfz18_0
            try clear hfz18_1
            try clear hfz19_0
            try clear hfz19_1
            try clear hfz19_2
            try clear hfz19_3
            try clear hfz19_4
            try clear hfz23_0
            try clear hfz23_1
            try clear hfz23_2
            try clear hfz23_3
            try clear hfz23_4
            try clear hfz27_0
            try clear hfz27_1
            try clear hfz27_2
            try clear hfz27_3
            try clear hfz27_4
            try clear hfz29_0
            try clear hfz29_1
            try clear hfz29_2
            try clear hfz29_3
            try clear hfz29_4
            try clear p2
            obtain ⟨kq, x154004_12, HA, HJ12, BK147, BK152, BK153, HB⟩ := hcut
            cases kq with
            | zero => exact absurd HA.out (by simp [fourinhandlaw14_TimerLater.j1])
            | succ kj12 =>
              have H := HA.out
              clear HA
              simp only [fourinhandlaw14_TimerLater.j1] at H
              replace H := Option.bind_eq_some_iff.mp H
              obtain ⟨⟨t154, t155, t156⟩, A300, H⟩ := H
              replace H : (fourinhandlaw14_TimerLater.l0 kj12 l1 a2 a3 t156 ([] : List (S32)) 0 0 a0_0 a0_1 a0_2 a0_3 a0_4 t149 t150 t154 t155) = some r := H
              have A30 := Aside0.mk A300
              clear A300
              have H' := Aside0.mk H
              clear H
              have hnb31 := NB153_147.out
              have hnc31 := NB147_153.out
              have hnb32 := NB153_152.out
              have hnc32 := NB152_153.out
              have hcz33_0 : wc.cell? ⟨gb153, 0, none⟩ = some (.bool a0_0) := (blk_cell BK153.out 0).trans rfl
              have hcz33_1 : wc.cell? ⟨gb153, 1, none⟩ = some (.int .i64 a0_1) := (blk_cell BK153.out 1).trans rfl
              have hcz33_2 : wc.cell? ⟨gb153, 2, none⟩ = some (.int .i64 a0_2) := (blk_cell BK153.out 2).trans rfl
              have hcz33_3 : wc.cell? ⟨gb153, 3, none⟩ = some (.int .i64 a0_3) := (blk_cell BK153.out 3).trans rfl
              have hcz33_4 : wc.cell? ⟨gb153, 4, none⟩ = some (.int .i64 x154004_12) := (blk_cell BK153.out 4).trans rfl
              have hfz33_0 := blk_frozen BK153.out 0
              have hfz33_1 := blk_frozen BK153.out 1
              have hfz33_2 := blk_frozen BK153.out 2
              have hfz33_3 := blk_frozen BK153.out 3
              have hfz33_4 := blk_frozen BK153.out 4
              go_wp2_with (first | ((with_reducible refine gate_callee (f := 9) rfl ?_); refine goesL_ (some 56) rfl rfl Try.func9 (by kernel_rfl) rfl #[.agg #[.bool a0_0, .int .i64 a0_1, .int .i64 a0_2, .int .i64 a0_3, .int .i64 x154004_12], .slice A1 l1.length c1, .bool true, .int .i64 a2, .int .i64 a3] rfl (by (try simp only [List.map_toArray, List.map_cons, List.map_nil]); first | done | rfl | (simp only [List.length_drop, List.length_take]; rfl)) ?_; (with_reducible refine (timer_Set.calls kj12 a0_0 a0_1 a0_2 a0_3 x154004_12 _ _ l1 true a2 a3 t154 t155 t156 _ ?side1 ?side2 A30.out).mono ?_); (case side1 => repeat (first | exact (Kd.C_below HR1.out HB.out) | (with_reducible refine Kd.C_alloc ?_ _) | (with_reducible refine Kd.C_drewN ?_ _) | (with_reducible refine Kd.C_drew ?_))); (case side2 => exact HC1.out); rintro e w34 ⟨rfl, hb⟩; refine ⟨_, rfl, ?_⟩; have n0_ := Aside0.mk (blk_below (g := gb147) (o := .cells #[.bool a0_0, .int .i64 a0_1, .int .i64 a0_2, .int .i64 a0_3, .int .i64 a0_4] 23 (0, 0)) (by (with_reducible repeat (first | refine blk_drewN ?_ _ | refine blk_drew ?_ | refine blk_alloc ?_ _)); exact BK147.out) hb); have n1_ := Aside0.mk (blk_below (g := gb152) (o := .cells #[.int .i64 t149, .int .i64 t150] 27 (0, 0)) (by (with_reducible repeat (first | refine blk_drewN ?_ _ | refine blk_drew ?_ | refine blk_alloc ?_ _)); exact BK152.out) hb); have n2_ := Aside0.mk (blk_below (g := gb153) (o := .cells #[.bool a0_0, .int .i64 a0_1, .int .i64 a0_2, .int .i64 a0_3, .int .i64 x154004_12] 23 (0, 0)) (by (with_reducible repeat (first | refine blk_drewN ?_ _ | refine blk_drew ?_ | refine blk_alloc ?_ _)); exact BK153.out) hb); have n3_ := Aside0.mk (below_step (by repeat (first | (with_reducible first | exact HB.out | apply below_alloc | apply pw_below_drewN | apply below_drew1 | refine below_set ?_ GE147.out | refine below_set ?_ GE152.out | refine below_set ?_ GE153.out) | exact HB.out)) hb); clear BK147; clear BK152; clear BK153; clear HB; have BK147 := n0_; have BK152 := n1_; have BK153 := n2_; have HB := n3_; clear n0_ n1_ n2_ n3_; (try clear hb); (try clear hb2); (try clear hk); (try clear hi)) | ((with_reducible refine gate_dst (N := 13) rfl ?_); (try (refine gate_guard (by rfl) ?_; dsimp only)); refine box_event ?hg (N := 13) ?hd (cs := #[.int .i64 0, .int .i64 0]) (t := 27) ?hr ?_; (case hd => rfl); (case hg => rfl); (case hr => first | (go_simp; done) | (go_simp; rfl)); intro gb157 hg w35 hbox hb; have n0_ := Aside0.mk (blk_below (g := gb147) (o := .cells #[.bool a0_0, .int .i64 a0_1, .int .i64 a0_2, .int .i64 a0_3, .int .i64 a0_4] 23 (0, 0)) (by (with_reducible repeat (first | refine blk_drewN ?_ _ | refine blk_drew ?_ | refine blk_alloc ?_ _)); exact BK147.out) hb); have n1_ := Aside0.mk (blk_below (g := gb152) (o := .cells #[.int .i64 t149, .int .i64 t150] 27 (0, 0)) (by (with_reducible repeat (first | refine blk_drewN ?_ _ | refine blk_drew ?_ | refine blk_alloc ?_ _)); exact BK152.out) hb); have n2_ := Aside0.mk (blk_below (g := gb153) (o := .cells #[.bool a0_0, .int .i64 a0_1, .int .i64 a0_2, .int .i64 a0_3, .int .i64 x154004_12] 23 (0, 0)) (by (with_reducible repeat (first | refine blk_drewN ?_ _ | refine blk_drew ?_ | refine blk_alloc ?_ _)); exact BK153.out) hb); have n3_ := Aside0.mk (below_step (by repeat (first | (with_reducible first | exact HB.out | apply below_alloc | apply pw_below_drewN | apply below_drew1 | refine below_set ?_ GE147.out | refine below_set ?_ GE152.out | refine below_set ?_ GE153.out) | exact HB.out)) hb); have n4_ := Aside0.mk (hbox); have n5_ := Aside0.mk ((by rw [hg]; exact (below_size (by repeat (first | (with_reducible first | exact HB.out | apply below_alloc | apply pw_below_drewN | apply below_drew1 | refine below_set ?_ GE147.out | refine below_set ?_ GE152.out | refine below_set ?_ GE153.out) | exact HB.out))) : w.heap.size ≤ gb157)); have n6_ := Aside0.mk ((by rw [hg]; exact (below_size (by repeat (first | (with_reducible first | exact HB.out | apply below_alloc | apply pw_below_drewN | apply below_drew1 | refine below_set ?_ GE147.out | refine below_set ?_ GE152.out | refine below_set ?_ GE153.out) | exact HB.out))) : w.heap.size ≤ gb157)); have n7_ := Aside0.mk ((by rw [hg]; exact Nat.ne_of_lt (blk_lt (g := gb147) (o := .cells #[.bool a0_0, .int .i64 a0_1, .int .i64 a0_2, .int .i64 a0_3, .int .i64 a0_4] 23 (0, 0)) (by (with_reducible repeat (first | refine blk_drewN ?_ _ | refine blk_drew ?_ | refine blk_alloc ?_ _)); exact BK147.out)) : gb147 ≠ gb157)); have n8_ := Aside0.mk ((by rw [hg]; exact Nat.ne_of_gt (blk_lt (g := gb147) (o := .cells #[.bool a0_0, .int .i64 a0_1, .int .i64 a0_2, .int .i64 a0_3, .int .i64 a0_4] 23 (0, 0)) (by (with_reducible repeat (first | refine blk_drewN ?_ _ | refine blk_drew ?_ | refine blk_alloc ?_ _)); exact BK147.out)) : gb157 ≠ gb147)); have n9_ := Aside0.mk ((by rw [hg]; exact Nat.ne_of_lt (blk_lt (g := gb152) (o := .cells #[.int .i64 t149, .int .i64 t150] 27 (0, 0)) (by (with_reducible repeat (first | refine blk_drewN ?_ _ | refine blk_drew ?_ | refine blk_alloc ?_ _)); exact BK152.out)) : gb152 ≠ gb157)); have n10_ := Aside0.mk ((by rw [hg]; exact Nat.ne_of_gt (blk_lt (g := gb152) (o := .cells #[.int .i64 t149, .int .i64 t150] 27 (0, 0)) (by (with_reducible repeat (first | refine blk_drewN ?_ _ | refine blk_drew ?_ | refine blk_alloc ?_ _)); exact BK152.out)) : gb157 ≠ gb152)); have n11_ := Aside0.mk ((by rw [hg]; exact Nat.ne_of_lt (blk_lt (g := gb153) (o := .cells #[.bool a0_0, .int .i64 a0_1, .int .i64 a0_2, .int .i64 a0_3, .int .i64 x154004_12] 23 (0, 0)) (by (with_reducible repeat (first | refine blk_drewN ?_ _ | refine blk_drew ?_ | refine blk_alloc ?_ _)); exact BK153.out)) : gb153 ≠ gb157)); have n12_ := Aside0.mk ((by rw [hg]; exact Nat.ne_of_gt (blk_lt (g := gb153) (o := .cells #[.bool a0_0, .int .i64 a0_1, .int .i64 a0_2, .int .i64 a0_3, .int .i64 x154004_12] 23 (0, 0)) (by (with_reducible repeat (first | refine blk_drewN ?_ _ | refine blk_drew ?_ | refine blk_alloc ?_ _)); exact BK153.out)) : gb157 ≠ gb153)); clear BK147; clear BK152; clear BK153; clear HB; have BK147 := n0_; have BK152 := n1_; have BK153 := n2_; have HB := n3_; have BK157 := n4_; have GW157 := n5_; have GE157 := n6_; have NB147_157 := n7_; have NB157_147 := n8_; have NB152_157 := n9_; have NB157_152 := n10_; have NB153_157 := n11_; have NB157_153 := n12_; clear n0_ n1_ n2_ n3_ n4_ n5_ n6_ n7_ n8_ n9_ n10_ n11_ n12_; clear hb hbox hg; have hnb36 := NB157_147.out; have hnc36 := NB147_157.out; have hnb37 := NB157_152.out; have hnc37 := NB152_157.out; have hnb38 := NB157_153.out; have hnc38 := NB153_157.out; have hcz39_0 : w35.cell? ⟨gb157, 0, none⟩ = some (.int .i64 0) := (blk_cell BK157.out 0).trans rfl; have hcz39_1 : w35.cell? ⟨gb157, 1, none⟩ = some (.int .i64 0) := (blk_cell BK157.out 1).trans rfl; have hss2 : ∀ v, (w35.setCell ⟨gb157, 0, none⟩ v).cell? ⟨gb157, 1, none⟩ = some (.int .i64 0) := fun v => (World.cell?_setCell_other _ _ _ v (by simp)).trans hcz39_1; have hfz39_0 := blk_frozen BK157.out 0; have hfz39_1 := blk_frozen BK157.out 1))
              go_loopg [15, 16, 17] kj12 (fun kq v15 v16 v17 w' => ∃ (x15_3 : List (S32)) (x16_3 : Int) (x17_3 : Int), v16 = .int .i64 x16_3 ∧ v17 = .int .i64 x17_3 ∧ Aside0 (fourinhandlaw14_TimerLater.l0 kq l1 a2 a3 t156 x15_3 x16_3 x17_3 a0_0 a0_1 a0_2 a0_3 a0_4 t149 t150 t154 t155 = some r) ∧ Aside0 (kq ≤ kj12) ∧ Aside0 (Kd.R k32 32 w' w.heap.size (fun _ => True) v15 x15_3) ∧ Aside0 (w'.heap[gb147]? = some (.cells #[.bool a0_0, .int .i64 a0_1, .int .i64 a0_2, .int .i64 a0_3, .int .i64 a0_4] 23 (0, 0))) ∧ Aside0 (w'.heap[gb152]? = some (.cells #[.int .i64 t149, .int .i64 t150] 27 (0, 0))) ∧ Aside0 (w'.heap[gb153]? = some (.cells #[.bool a0_0, .int .i64 a0_1, .int .i64 a0_2, .int .i64 a0_3, .int .i64 x154004_12] 23 (0, 0))) ∧ Aside0 (w'.heap[gb157]? = some (.cells #[.int .i64 t154, .int .i64 t155] 27 (0, 0))) ∧ Aside0 (Below w.heap.size w w'))
              case atStart => exact ⟨(([] : List (S32))), (0), (0), (by first | rfl | (simp; done) | (simp [*]; done)), (by first | rfl | (simp; done) | (simp [*]; done)), H', ⟨Nat.le_refl _⟩, ⟨by first | exact Kd.R_nil _ _ _ _ _ | exact Kd.N_nil _ _ _ _ _ | exact Kd.V_nil _ _ _ _ _ | exact Kd.Q_nil _ _ _ _ _ | exact Kd.S_nil _ _ _ _ _⟩, ⟨by (with_reducible repeat (first | refine blk_drewN ?_ _ | refine blk_drew ?_ | refine blk_alloc ?_ _)); refine blk_far ?_ NB147_157.out _; (with_reducible repeat (first | refine blk_drewN ?_ _ | refine blk_drew ?_ | refine blk_alloc ?_ _)); refine blk_far ?_ NB147_157.out _; (with_reducible repeat (first | refine blk_drewN ?_ _ | refine blk_drew ?_ | refine blk_alloc ?_ _)); exact BK147.out⟩, ⟨by (with_reducible repeat (first | refine blk_drewN ?_ _ | refine blk_drew ?_ | refine blk_alloc ?_ _)); refine blk_far ?_ NB152_157.out _; (with_reducible repeat (first | refine blk_drewN ?_ _ | refine blk_drew ?_ | refine blk_alloc ?_ _)); refine blk_far ?_ NB152_157.out _; (with_reducible repeat (first | refine blk_drewN ?_ _ | refine blk_drew ?_ | refine blk_alloc ?_ _)); exact BK152.out⟩, ⟨by (with_reducible repeat (first | refine blk_drewN ?_ _ | refine blk_drew ?_ | refine blk_alloc ?_ _)); refine blk_far ?_ NB153_157.out _; (with_reducible repeat (first | refine blk_drewN ?_ _ | refine blk_drew ?_ | refine blk_alloc ?_ _)); refine blk_far ?_ NB153_157.out _; (with_reducible repeat (first | refine blk_drewN ?_ _ | refine blk_drew ?_ | refine blk_alloc ?_ _)); exact BK153.out⟩, ⟨by (with_reducible repeat (first | refine blk_drewN ?_ _ | refine blk_drew ?_ | refine blk_alloc ?_ _)); refine blk_put (cs := #[.int .i64 t154, .int .i64 0]) ?_ 1 _ rfl; (with_reducible repeat (first | refine blk_drewN ?_ _ | refine blk_drew ?_ | refine blk_alloc ?_ _)); refine blk_put (cs := #[.int .i64 0, .int .i64 0]) ?_ 0 _ rfl; (with_reducible repeat (first | refine blk_drewN ?_ _ | refine blk_drew ?_ | refine blk_alloc ?_ _)); exact BK157.out⟩, ⟨by repeat (first | (with_reducible first | exact HB.out | apply below_alloc | apply pw_below_drewN | apply below_drew1 | refine below_set ?_ GE147.out | refine below_set ?_ GE152.out | refine below_set ?_ GE153.out | refine below_set ?_ GE157.out) | exact HB.out)⟩⟩
              case round =>
                clear H'
                try clear c1
                try clear c2
                try clear p2
                try clear c3
                try clear c4
                try clear p6
                try clear c8
                try clear c9
                try clear c10
                try clear c12
                try clear c12b0
                try clear c12b1
                try clear c17
                try clear c21
                try clear c22
                try clear c24
                try clear c24b0
                try clear c25
                try clear c26
                try clear c28
                try clear c31
                try clear c32
                try clear c36
                try clear c37
                try clear c38
                try clear hcz14_0
                try clear hcz14_1
                try clear hcz14_2
                try clear hcz14_3
                try clear hcz14_4
                try clear hcz18_0
                try clear hcz18_1
                try clear hcz19_0
                try clear hcz19_1
                try clear hcz19_2
                try clear hcz19_3
                try clear hcz19_4
                try clear hcz23_0
                try clear hcz23_1
                try clear hcz23_2
                try clear hcz23_3
                try clear hcz23_4
                try clear hcz27_0
                try clear hcz27_1
                try clear hcz27_2
                try clear hcz27_3
                try clear hcz27_4
                try clear hcz29_0
                try clear hcz29_1
                try clear hcz29_2
                try clear hcz29_3
                try clear hcz29_4
                try clear hcz33_0
                try clear hcz33_1
                try clear hcz33_2
                try clear hcz33_3
                try clear hcz33_4
                try clear hcz39_0
                try clear hcz39_1
                try clear hfz14_0
                try clear hfz14_1
                try clear hfz14_2
                try clear hfz14_3
                try clear hfz14_4
                try clear hfz18_0
                try clear hfz18_1
                try clear hfz19_0
                try clear hfz19_1
                try clear hfz19_2
                try clear hfz19_3
                try clear hfz19_4
                try clear hfz23_0
                try clear hfz23_1
                try clear hfz23_2
                try clear hfz23_3
                try clear hfz23_4
                try clear hfz27_0
                try clear hfz27_1
                try clear hfz27_2
                try clear hfz27_3
                try clear hfz27_4
                try clear hfz29_0
                try clear hfz29_1
                try clear hfz29_2
                try clear hfz29_3
                try clear hfz29_4
                try clear hfz33_0
                try clear hfz33_1
                try clear hfz33_2
                try clear hfz33_3
                try clear hfz33_4
                try clear hfz39_0
                try clear hfz39_1
                try clear p2
                try clear p6
                obtain ⟨x15_3, x16_3, x17_3, rfl, rfl, HA, HK3, HO_15, BK147, BK152, BK153, BK157, HB⟩ := hrel
                cases gk with
                | zero => exact absurd HA.out (by simp [fourinhandlaw14_TimerLater.l0])
                | succ k3 =>
                  have H := HA.out
                  clear HA
                  simp only [fourinhandlaw14_TimerLater.l0] at H
                  by_cases c40 : x17_3 < (l1.length : Int)
                  · rw [if_pos c40] at H
                    have c40b0 : decide (x17_3 < (l1.length : Int)) = true := decide_eq_true c40
                    clear c40
                    by_cases c41 : 0 ≤ x17_3
                    · rw [if_pos c41] at H
                      have c41b0 : decide (0 ≤ x17_3) = true := decide_eq_true c41
                      clear c41
                      obtain ⟨bq42, hbq42⟩ : ∃ b_ : Bool, b_ = ((rd_T32 l1 x17_3).f5) := ⟨_, rfl⟩
                      replace H : (if (bq42 = true) then (fourinhandlaw14_TimerLater.l0 k3 l1 a2 a3 t156 x15_3 x16_3 (wrap64 (x17_3 + 1)) a0_0 a0_1 a0_2 a0_3 a0_4 t149 t150 t154 t155) else (if ((rd_T32 l1 x17_3).f6 = true) then (fourinhandlaw14_TimerLater.l0 k3 l1 a2 a3 t156 x15_3 x16_3 (wrap64 (x17_3 + 1)) a0_0 a0_1 a0_2 a0_3 a0_4 t149 t150 t154 t155) else (if x15_3.length < 2199023255552 then (fourinhandlaw14_TimerLater.l0 k3 l1 a2 a3 t156 (x15_3 ++ [(⟨x16_3, (rd_T32 l1 x17_3).f1, (rd_T32 l1 x17_3).f2, (rd_T32 l1 x17_3).f3, (rd_T32 l1 x17_3).f4, bq42, (rd_T32 l1 x17_3).f6, (rd_T32 l1 x17_3).f7, (rd_T32 l1 x17_3).f8⟩ : S32)]) (wrap64 (x16_3 + ((rd_T32 l1 x17_3).f1))) (wrap64 (x17_3 + 1)) a0_0 a0_1 a0_2 a0_3 a0_4 t149 t150 t154 t155) else (none)))) = some r := by rw [← hbq42] at H; exact H
                      have Nbq42 := Aside0.mk hbq42
                      clear hbq42
                      by_cases c43 : (bq42 = true)
                      · subst c43
                        have H1 : (fourinhandlaw14_TimerLater.l0 k3 l1 a2 a3 t156 x15_3 x16_3 (wrap64 (x17_3 + 1)) a0_0 a0_1 a0_2 a0_3 a0_4 t149 t150 t154 t155) = some r := by rw [if_pos rfl] at H; exact H
                        clear H
                        have H := H1
                        clear H1
                        have H' := Aside0.mk H
                        clear H
                        have p158 : 0 ≤ (x17_3 : Int) := of_decide_eq_true (by first | (with_reducible assumption) | assumption)
                        have q158 : x17_3 < (l1.length : Int) := of_decide_eq_true (by first | (with_reducible assumption) | assumption)
                        obtain ⟨ad158, e158, hx158_0, hx158_1, hx158_2, hx158_3, hx158_4, hx158_5, hx158_6, hx158_7, hx158_8⟩ := at_T32 HR1.out x17_3 p158 q158
                        (try rw [← Nbq42.out] at hx158_5)
                        (try rw [← Nbq42.out] at hx158_6)
                        cases e158
                        replace hx158_0 := (HB.out.cell (World.block_lt_of_cell? w _ hx158_0)).trans hx158_0
                        replace hx158_1 := (HB.out.cell (World.block_lt_of_cell? w _ hx158_1)).trans hx158_1
                        replace hx158_2 := (HB.out.cell (World.block_lt_of_cell? w _ hx158_2)).trans hx158_2
                        replace hx158_3 := (HB.out.cell (World.block_lt_of_cell? w _ hx158_3)).trans hx158_3
                        replace hx158_4 := (HB.out.cell (World.block_lt_of_cell? w _ hx158_4)).trans hx158_4
                        replace hx158_5 := (HB.out.cell (World.block_lt_of_cell? w _ hx158_5)).trans hx158_5
                        replace hx158_6 := (HB.out.cell (World.block_lt_of_cell? w _ hx158_6)).trans hx158_6
                        replace hx158_7 := (HB.out.cell (World.block_lt_of_cell? w _ hx158_7)).trans hx158_7
                        replace hx158_8 := (HB.out.cell (World.block_lt_of_cell? w _ hx158_8)).trans hx158_8
                        replace p158 := eq_true p158
                        replace q158 := eq_true q158
                        go_wp2
                        go_roundg k3
                        case measure => have := HJ5.out; have := HJ12.out; have := HK3.out; omega
                        case rel => exact ⟨(x15_3), (x16_3), (wrap64 (x17_3 + 1)), (by first | rfl | (simp; done) | (simp [*]; done)), (by first | rfl | (simp; done) | (simp [*]; done)), H', ⟨by have := HJ5.out; have := HJ12.out; have := HK3.out; omega⟩, ⟨by (with_reducible repeat (first | apply Kd.R_alloc | apply Kd.R_drewN | apply Kd.R_drew)); exact HO_15.out⟩, ⟨by (with_reducible repeat (first | refine blk_drewN ?_ _ | refine blk_drew ?_ | refine blk_alloc ?_ _)); exact BK147.out⟩, ⟨by (with_reducible repeat (first | refine blk_drewN ?_ _ | refine blk_drew ?_ | refine blk_alloc ?_ _)); exact BK152.out⟩, ⟨by (with_reducible repeat (first | refine blk_drewN ?_ _ | refine blk_drew ?_ | refine blk_alloc ?_ _)); exact BK153.out⟩, ⟨by (with_reducible repeat (first | refine blk_drewN ?_ _ | refine blk_drew ?_ | refine blk_alloc ?_ _)); exact BK157.out⟩, ⟨by repeat (first | (with_reducible first | exact HB.out | apply below_alloc | apply pw_below_drewN | apply below_drew1 | refine below_set ?_ GE147.out | refine below_set ?_ GE152.out | refine below_set ?_ GE153.out | refine below_set ?_ GE157.out) | exact HB.out)⟩⟩
                      · replace c43 := Bool.eq_false_iff.mpr c43
                        subst c43
                        have H1 : (if ((rd_T32 l1 x17_3).f6 = true) then (fourinhandlaw14_TimerLater.l0 k3 l1 a2 a3 t156 x15_3 x16_3 (wrap64 (x17_3 + 1)) a0_0 a0_1 a0_2 a0_3 a0_4 t149 t150 t154 t155) else (if x15_3.length < 2199023255552 then (fourinhandlaw14_TimerLater.l0 k3 l1 a2 a3 t156 (x15_3 ++ [(⟨x16_3, (rd_T32 l1 x17_3).f1, (rd_T32 l1 x17_3).f2, (rd_T32 l1 x17_3).f3, (rd_T32 l1 x17_3).f4, false, (rd_T32 l1 x17_3).f6, (rd_T32 l1 x17_3).f7, (rd_T32 l1 x17_3).f8⟩ : S32)]) (wrap64 (x16_3 + ((rd_T32 l1 x17_3).f1))) (wrap64 (x17_3 + 1)) a0_0 a0_1 a0_2 a0_3 a0_4 t149 t150 t154 t155) else (none))) = some r := by rw [if_neg (show ¬ (false = true) by decide)] at H; exact H
                        clear H
                        have H := H1
                        clear H1
                        obtain ⟨bq44, hbq44⟩ : ∃ b_ : Bool, b_ = ((rd_T32 l1 x17_3).f6) := ⟨_, rfl⟩
                        replace H : (if (bq44 = true) then (fourinhandlaw14_TimerLater.l0 k3 l1 a2 a3 t156 x15_3 x16_3 (wrap64 (x17_3 + 1)) a0_0 a0_1 a0_2 a0_3 a0_4 t149 t150 t154 t155) else (if x15_3.length < 2199023255552 then (fourinhandlaw14_TimerLater.l0 k3 l1 a2 a3 t156 (x15_3 ++ [(⟨x16_3, (rd_T32 l1 x17_3).f1, (rd_T32 l1 x17_3).f2, (rd_T32 l1 x17_3).f3, (rd_T32 l1 x17_3).f4, false, bq44, (rd_T32 l1 x17_3).f7, (rd_T32 l1 x17_3).f8⟩ : S32)]) (wrap64 (x16_3 + ((rd_T32 l1 x17_3).f1))) (wrap64 (x17_3 + 1)) a0_0 a0_1 a0_2 a0_3 a0_4 t149 t150 t154 t155) else (none))) = some r := by rw [← hbq44] at H; exact H
                        have Nbq44 := Aside0.mk hbq44
                        clear hbq44
                        by_cases c45 : (bq44 = true)
                        · subst c45
                          have H1 : (fourinhandlaw14_TimerLater.l0 k3 l1 a2 a3 t156 x15_3 x16_3 (wrap64 (x17_3 + 1)) a0_0 a0_1 a0_2 a0_3 a0_4 t149 t150 t154 t155) = some r := by rw [if_pos rfl] at H; exact H
                          clear H
                          have H := H1
                          clear H1
                          have H' := Aside0.mk H
                          clear H
                          have p158 : 0 ≤ (x17_3 : Int) := of_decide_eq_true (by first | (with_reducible assumption) | assumption)
                          have q158 : x17_3 < (l1.length : Int) := of_decide_eq_true (by first | (with_reducible assumption) | assumption)
                          obtain ⟨ad158, e158, hx158_0, hx158_1, hx158_2, hx158_3, hx158_4, hx158_5, hx158_6, hx158_7, hx158_8⟩ := at_T32 HR1.out x17_3 p158 q158
                          (try rw [← Nbq42.out] at hx158_5)
                          (try rw [← Nbq44.out] at hx158_5)
                          (try rw [← Nbq42.out] at hx158_6)
                          (try rw [← Nbq44.out] at hx158_6)
                          cases e158
                          replace hx158_0 := (HB.out.cell (World.block_lt_of_cell? w _ hx158_0)).trans hx158_0
                          replace hx158_1 := (HB.out.cell (World.block_lt_of_cell? w _ hx158_1)).trans hx158_1
                          replace hx158_2 := (HB.out.cell (World.block_lt_of_cell? w _ hx158_2)).trans hx158_2
                          replace hx158_3 := (HB.out.cell (World.block_lt_of_cell? w _ hx158_3)).trans hx158_3
                          replace hx158_4 := (HB.out.cell (World.block_lt_of_cell? w _ hx158_4)).trans hx158_4
                          replace hx158_5 := (HB.out.cell (World.block_lt_of_cell? w _ hx158_5)).trans hx158_5
                          replace hx158_6 := (HB.out.cell (World.block_lt_of_cell? w _ hx158_6)).trans hx158_6
                          replace hx158_7 := (HB.out.cell (World.block_lt_of_cell? w _ hx158_7)).trans hx158_7
                          replace hx158_8 := (HB.out.cell (World.block_lt_of_cell? w _ hx158_8)).trans hx158_8
                          replace p158 := eq_true p158
                          replace q158 := eq_true q158
                          have p159 : 0 ≤ (x17_3 : Int) := of_decide_eq_true (by first | (with_reducible assumption) | assumption)
                          have q159 : x17_3 < (l1.length : Int) := of_decide_eq_true (by first | (with_reducible assumption) | assumption)
                          obtain ⟨ad159, e159, hx159_0, hx159_1, hx159_2, hx159_3, hx159_4, hx159_5, hx159_6, hx159_7, hx159_8⟩ := at_T32 HR1.out x17_3 p159 q159
                          (try rw [← Nbq42.out] at hx159_5)
                          (try rw [← Nbq44.out] at hx159_5)
                          (try rw [← Nbq42.out] at hx159_6)
                          (try rw [← Nbq44.out] at hx159_6)
                          obtain rfl : ad158 = ad159 := (by injection e159)
                          replace hx159_0 := (HB.out.cell (World.block_lt_of_cell? w _ hx159_0)).trans hx159_0
                          replace hx159_1 := (HB.out.cell (World.block_lt_of_cell? w _ hx159_1)).trans hx159_1
                          replace hx159_2 := (HB.out.cell (World.block_lt_of_cell? w _ hx159_2)).trans hx159_2
                          replace hx159_3 := (HB.out.cell (World.block_lt_of_cell? w _ hx159_3)).trans hx159_3
                          replace hx159_4 := (HB.out.cell (World.block_lt_of_cell? w _ hx159_4)).trans hx159_4
                          replace hx159_5 := (HB.out.cell (World.block_lt_of_cell? w _ hx159_5)).trans hx159_5
                          replace hx159_6 := (HB.out.cell (World.block_lt_of_cell? w _ hx159_6)).trans hx159_6
                          replace hx159_7 := (HB.out.cell (World.block_lt_of_cell? w _ hx159_7)).trans hx159_7
                          replace hx159_8 := (HB.out.cell (World.block_lt_of_cell? w _ hx159_8)).trans hx159_8
                          replace p159 := eq_true p159
                          replace q159 := eq_true q159
                          go_wp2
                          go_roundg k3
                          case measure => have := HJ5.out; have := HJ12.out; have := HK3.out; omega
                          case rel => exact ⟨(x15_3), (x16_3), (wrap64 (x17_3 + 1)), (by first | rfl | (simp; done) | (simp [*]; done)), (by first | rfl | (simp; done) | (simp [*]; done)), H', ⟨by have := HJ5.out; have := HJ12.out; have := HK3.out; omega⟩, ⟨by (with_reducible repeat (first | apply Kd.R_alloc | apply Kd.R_drewN | apply Kd.R_drew)); exact HO_15.out⟩, ⟨by (with_reducible repeat (first | refine blk_drewN ?_ _ | refine blk_drew ?_ | refine blk_alloc ?_ _)); exact BK147.out⟩, ⟨by (with_reducible repeat (first | refine blk_drewN ?_ _ | refine blk_drew ?_ | refine blk_alloc ?_ _)); exact BK152.out⟩, ⟨by (with_reducible repeat (first | refine blk_drewN ?_ _ | refine blk_drew ?_ | refine blk_alloc ?_ _)); exact BK153.out⟩, ⟨by (with_reducible repeat (first | refine blk_drewN ?_ _ | refine blk_drew ?_ | refine blk_alloc ?_ _)); exact BK157.out⟩, ⟨by repeat (first | (with_reducible first | exact HB.out | apply below_alloc | apply pw_below_drewN | apply below_drew1 | refine below_set ?_ GE147.out | refine below_set ?_ GE152.out | refine below_set ?_ GE153.out | refine below_set ?_ GE157.out) | exact HB.out)⟩⟩
                        · replace c45 := Bool.eq_false_iff.mpr c45
                          subst c45
                          have H1 : (if x15_3.length < 2199023255552 then (fourinhandlaw14_TimerLater.l0 k3 l1 a2 a3 t156 (x15_3 ++ [(⟨x16_3, (rd_T32 l1 x17_3).f1, (rd_T32 l1 x17_3).f2, (rd_T32 l1 x17_3).f3, (rd_T32 l1 x17_3).f4, false, false, (rd_T32 l1 x17_3).f7, (rd_T32 l1 x17_3).f8⟩ : S32)]) (wrap64 (x16_3 + ((rd_T32 l1 x17_3).f1))) (wrap64 (x17_3 + 1)) a0_0 a0_1 a0_2 a0_3 a0_4 t149 t150 t154 t155) else (none)) = some r := by rw [if_neg (show ¬ (false = true) by decide)] at H; exact H
                          clear H
                          have H := H1
                          clear H1
                          by_cases c46 : x15_3.length < 2199023255552
                          · rw [if_pos c46] at H
                            have LMc46 := Aside0.mk c46
                            clear c46
                            obtain ⟨y162, hy162⟩ : ∃ y_ : List (S32), y_ = (x15_3 ++ [(⟨x16_3, (rd_T32 l1 x17_3).f1, (rd_T32 l1 x17_3).f2, (rd_T32 l1 x17_3).f3, (rd_T32 l1 x17_3).f4, false, false, (rd_T32 l1 x17_3).f7, (rd_T32 l1 x17_3).f8⟩ : S32)]) := ⟨_, rfl⟩
                            replace H : (fourinhandlaw14_TimerLater.l0 k3 l1 a2 a3 t156 y162 (wrap64 (x16_3 + ((rd_T32 l1 x17_3).f1))) (wrap64 (x17_3 + 1)) a0_0 a0_1 a0_2 a0_3 a0_4 t149 t150 t154 t155) = some r := by first | (rw [hy162]; with_reducible exact H) | (have H2_ := (Option.bind_some _ _).symm.trans H; rw [hy162]; with_reducible exact H2_) | (have H2_ := (Option.bind_some _ _).symm.trans H; with_reducible exact H2_) | with_reducible exact H | (rw [hy162]; exact H) | exact H
                            have Ny162 := Aside0.mk hy162
                            clear hy162
                            have H' := Aside0.mk H
                            clear H
                            have p158 : 0 ≤ (x17_3 : Int) := of_decide_eq_true (by first | (with_reducible assumption) | assumption)
                            have q158 : x17_3 < (l1.length : Int) := of_decide_eq_true (by first | (with_reducible assumption) | assumption)
                            obtain ⟨ad158, e158, hx158_0, hx158_1, hx158_2, hx158_3, hx158_4, hx158_5, hx158_6, hx158_7, hx158_8⟩ := at_T32 HR1.out x17_3 p158 q158
                            (try rw [← Nbq42.out] at hx158_5)
                            (try rw [← Nbq44.out] at hx158_5)
                            (try rw [← Nbq42.out] at hx158_6)
                            (try rw [← Nbq44.out] at hx158_6)
                            cases e158
                            replace hx158_0 := (HB.out.cell (World.block_lt_of_cell? w _ hx158_0)).trans hx158_0
                            replace hx158_1 := (HB.out.cell (World.block_lt_of_cell? w _ hx158_1)).trans hx158_1
                            replace hx158_2 := (HB.out.cell (World.block_lt_of_cell? w _ hx158_2)).trans hx158_2
                            replace hx158_3 := (HB.out.cell (World.block_lt_of_cell? w _ hx158_3)).trans hx158_3
                            replace hx158_4 := (HB.out.cell (World.block_lt_of_cell? w _ hx158_4)).trans hx158_4
                            replace hx158_5 := (HB.out.cell (World.block_lt_of_cell? w _ hx158_5)).trans hx158_5
                            replace hx158_6 := (HB.out.cell (World.block_lt_of_cell? w _ hx158_6)).trans hx158_6
                            replace hx158_7 := (HB.out.cell (World.block_lt_of_cell? w _ hx158_7)).trans hx158_7
                            replace hx158_8 := (HB.out.cell (World.block_lt_of_cell? w _ hx158_8)).trans hx158_8
                            replace p158 := eq_true p158
                            replace q158 := eq_true q158
                            have p159 : 0 ≤ (x17_3 : Int) := of_decide_eq_true (by first | (with_reducible assumption) | assumption)
                            have q159 : x17_3 < (l1.length : Int) := of_decide_eq_true (by first | (with_reducible assumption) | assumption)
                            obtain ⟨ad159, e159, hx159_0, hx159_1, hx159_2, hx159_3, hx159_4, hx159_5, hx159_6, hx159_7, hx159_8⟩ := at_T32 HR1.out x17_3 p159 q159
                            (try rw [← Nbq42.out] at hx159_5)
                            (try rw [← Nbq44.out] at hx159_5)
                            (try rw [← Nbq42.out] at hx159_6)
                            (try rw [← Nbq44.out] at hx159_6)
                            obtain rfl : ad158 = ad159 := (by injection e159)
                            replace hx159_0 := (HB.out.cell (World.block_lt_of_cell? w _ hx159_0)).trans hx159_0
                            replace hx159_1 := (HB.out.cell (World.block_lt_of_cell? w _ hx159_1)).trans hx159_1
                            replace hx159_2 := (HB.out.cell (World.block_lt_of_cell? w _ hx159_2)).trans hx159_2
                            replace hx159_3 := (HB.out.cell (World.block_lt_of_cell? w _ hx159_3)).trans hx159_3
                            replace hx159_4 := (HB.out.cell (World.block_lt_of_cell? w _ hx159_4)).trans hx159_4
                            replace hx159_5 := (HB.out.cell (World.block_lt_of_cell? w _ hx159_5)).trans hx159_5
                            replace hx159_6 := (HB.out.cell (World.block_lt_of_cell? w _ hx159_6)).trans hx159_6
                            replace hx159_7 := (HB.out.cell (World.block_lt_of_cell? w _ hx159_7)).trans hx159_7
                            replace hx159_8 := (HB.out.cell (World.block_lt_of_cell? w _ hx159_8)).trans hx159_8
                            replace p159 := eq_true p159
                            replace q159 := eq_true q159
                            have p160 : 0 ≤ (x17_3 : Int) := of_decide_eq_true (by first | (with_reducible assumption) | assumption)
                            have q160 : x17_3 < (l1.length : Int) := of_decide_eq_true (by first | (with_reducible assumption) | assumption)
                            obtain ⟨ad160, e160, hx160_0, hx160_1, hx160_2, hx160_3, hx160_4, hx160_5, hx160_6, hx160_7, hx160_8⟩ := at_T32 HR1.out x17_3 p160 q160
                            (try rw [← Nbq42.out] at hx160_5)
                            (try rw [← Nbq44.out] at hx160_5)
                            (try rw [← Nbq42.out] at hx160_6)
                            (try rw [← Nbq44.out] at hx160_6)
                            obtain rfl : ad158 = ad160 := (by injection e160)
                            replace hx160_0 := (HB.out.cell (World.block_lt_of_cell? w _ hx160_0)).trans hx160_0
                            replace hx160_1 := (HB.out.cell (World.block_lt_of_cell? w _ hx160_1)).trans hx160_1
                            replace hx160_2 := (HB.out.cell (World.block_lt_of_cell? w _ hx160_2)).trans hx160_2
                            replace hx160_3 := (HB.out.cell (World.block_lt_of_cell? w _ hx160_3)).trans hx160_3
                            replace hx160_4 := (HB.out.cell (World.block_lt_of_cell? w _ hx160_4)).trans hx160_4
                            replace hx160_5 := (HB.out.cell (World.block_lt_of_cell? w _ hx160_5)).trans hx160_5
                            replace hx160_6 := (HB.out.cell (World.block_lt_of_cell? w _ hx160_6)).trans hx160_6
                            replace hx160_7 := (HB.out.cell (World.block_lt_of_cell? w _ hx160_7)).trans hx160_7
                            replace hx160_8 := (HB.out.cell (World.block_lt_of_cell? w _ hx160_8)).trans hx160_8
                            replace p160 := eq_true p160
                            replace q160 := eq_true q160
                            go_wp2_with (first | ((with_reducible refine gate_dst (N := 18) rfl ?_); (try (refine gate_guard (by rfl) ?_; dsimp only)); refine box_event ?hg (N := 18) ?hd (cs := #[.int .i64 0, .int .i64 0, .int .i64 0, .int .i64 0, .int .i64 0, .bool false, .bool false, .int .i64 0, .int .i64 0]) (t := 32) ?hr ?_; (case hd => rfl); (case hg => rfl); (case hr => first | (go_simp; done) | (go_simp; rfl)); intro gb161 hg w47 hbox hb; have n0_ := Aside0.mk (Kd.R_below (Kd.R_elderB (by (with_reducible repeat (first | apply Kd.R_alloc | apply Kd.R_drewN | apply Kd.R_drew)); exact HO_15.out) gb161 (Nat.le_of_eq hg.symm)) hb); have n1_ := Aside0.mk (blk_below (g := gb147) (o := .cells #[.bool a0_0, .int .i64 a0_1, .int .i64 a0_2, .int .i64 a0_3, .int .i64 a0_4] 23 (0, 0)) (by (with_reducible repeat (first | refine blk_drewN ?_ _ | refine blk_drew ?_ | refine blk_alloc ?_ _)); exact BK147.out) hb); have n2_ := Aside0.mk (blk_below (g := gb152) (o := .cells #[.int .i64 t149, .int .i64 t150] 27 (0, 0)) (by (with_reducible repeat (first | refine blk_drewN ?_ _ | refine blk_drew ?_ | refine blk_alloc ?_ _)); exact BK152.out) hb); have n3_ := Aside0.mk (blk_below (g := gb153) (o := .cells #[.bool a0_0, .int .i64 a0_1, .int .i64 a0_2, .int .i64 a0_3, .int .i64 x154004_12] 23 (0, 0)) (by (with_reducible repeat (first | refine blk_drewN ?_ _ | refine blk_drew ?_ | refine blk_alloc ?_ _)); exact BK153.out) hb); have n4_ := Aside0.mk (blk_below (g := gb157) (o := .cells #[.int .i64 t154, .int .i64 t155] 27 (0, 0)) (by (with_reducible repeat (first | refine blk_drewN ?_ _ | refine blk_drew ?_ | refine blk_alloc ?_ _)); exact BK157.out) hb); have n5_ := Aside0.mk (below_step (by repeat (first | (with_reducible first | exact HB.out | apply below_alloc | apply pw_below_drewN | apply below_drew1 | refine below_set ?_ GE147.out | refine below_set ?_ GE152.out | refine below_set ?_ GE153.out | refine below_set ?_ GE157.out) | exact HB.out)) hb); have n6_ := Aside0.mk (hbox); have n7_ := Aside0.mk ((by rw [hg]; exact (below_size (by repeat (first | (with_reducible first | exact HB.out | apply below_alloc | apply pw_below_drewN | apply below_drew1 | refine below_set ?_ GE147.out | refine below_set ?_ GE152.out | refine below_set ?_ GE153.out | refine below_set ?_ GE157.out) | exact HB.out))) : w.heap.size ≤ gb161)); have n8_ := Aside0.mk ((by rw [hg]; exact (below_size (by repeat (first | (with_reducible first | exact HB.out | apply below_alloc | apply pw_below_drewN | apply below_drew1 | refine below_set ?_ GE147.out | refine below_set ?_ GE152.out | refine below_set ?_ GE153.out | refine below_set ?_ GE157.out) | exact HB.out))) : w.heap.size ≤ gb161)); have n9_ := Aside0.mk ((by rw [hg]; exact Nat.ne_of_lt (blk_lt (g := gb147) (o := .cells #[.bool a0_0, .int .i64 a0_1, .int .i64 a0_2, .int .i64 a0_3, .int .i64 a0_4] 23 (0, 0)) (by (with_reducible repeat (first | refine blk_drewN ?_ _ | refine blk_drew ?_ | refine blk_alloc ?_ _)); exact BK147.out)) : gb147 ≠ gb161)); have n10_ := Aside0.mk ((by rw [hg]; exact Nat.ne_of_gt (blk_lt (g := gb147) (o := .cells #[.bool a0_0, .int .i64 a0_1, .int .i64 a0_2, .int .i64 a0_3, .int .i64 a0_4] 23 (0, 0)) (by (with_reducible repeat (first | refine blk_drewN ?_ _ | refine blk_drew ?_ | refine blk_alloc ?_ _)); exact BK147.out)) : gb161 ≠ gb147)); have n11_ := Aside0.mk ((by rw [hg]; exact Nat.ne_of_lt (blk_lt (g := gb152) (o := .cells #[.int .i64 t149, .int .i64 t150] 27 (0, 0)) (by (with_reducible repeat (first | refine blk_drewN ?_ _ | refine blk_drew ?_ | refine blk_alloc ?_ _)); exact BK152.out)) : gb152 ≠ gb161)); have n12_ := Aside0.mk ((by rw [hg]; exact Nat.ne_of_gt (blk_lt (g := gb152) (o := .cells #[.int .i64 t149, .int .i64 t150] 27 (0, 0)) (by (with_reducible repeat (first | refine blk_drewN ?_ _ | refine blk_drew ?_ | refine blk_alloc ?_ _)); exact BK152.out)) : gb161 ≠ gb152)); have n13_ := Aside0.mk ((by rw [hg]; exact Nat.ne_of_lt (blk_lt (g := gb153) (o := .cells #[.bool a0_0, .int .i64 a0_1, .int .i64 a0_2, .int .i64 a0_3, .int .i64 x154004_12] 23 (0, 0)) (by (with_reducible repeat (first | refine blk_drewN ?_ _ | refine blk_drew ?_ | refine blk_alloc ?_ _)); exact BK153.out)) : gb153 ≠ gb161)); have n14_ := Aside0.mk ((by rw [hg]; exact Nat.ne_of_gt (blk_lt (g := gb153) (o := .cells #[.bool a0_0, .int .i64 a0_1, .int .i64 a0_2, .int .i64 a0_3, .int .i64 x154004_12] 23 (0, 0)) (by (with_reducible repeat (first | refine blk_drewN ?_ _ | refine blk_drew ?_ | refine blk_alloc ?_ _)); exact BK153.out)) : gb161 ≠ gb153)); have n15_ := Aside0.mk ((by rw [hg]; exact Nat.ne_of_lt (blk_lt (g := gb157) (o := .cells #[.int .i64 t154, .int .i64 t155] 27 (0, 0)) (by (with_reducible repeat (first | refine blk_drewN ?_ _ | refine blk_drew ?_ | refine blk_alloc ?_ _)); exact BK157.out)) : gb157 ≠ gb161)); have n16_ := Aside0.mk ((by rw [hg]; exact Nat.ne_of_gt (blk_lt (g := gb157) (o := .cells #[.int .i64 t154, .int .i64 t155] 27 (0, 0)) (by (with_reducible repeat (first | refine blk_drewN ?_ _ | refine blk_drew ?_ | refine blk_alloc ?_ _)); exact BK157.out)) : gb161 ≠ gb157)); clear HO_15; clear BK147; clear BK152; clear BK153; clear BK157; clear HB; have HO_15 := n0_; have BK147 := n1_; have BK152 := n2_; have BK153 := n3_; have BK157 := n4_; have HB := n5_; have BK161 := n6_; have GW161 := n7_; have GE161 := n8_; have NB147_161 := n9_; have NB161_147 := n10_; have NB152_161 := n11_; have NB161_152 := n12_; have NB153_161 := n13_; have NB161_153 := n14_; have NB157_161 := n15_; have NB161_157 := n16_; clear n0_ n1_ n2_ n3_ n4_ n5_ n6_ n7_ n8_ n9_ n10_ n11_ n12_ n13_ n14_ n15_ n16_; clear hb hbox hg; have hnb48 := NB161_147.out; have hnc48 := NB147_161.out; have hnb49 := NB161_152.out; have hnc49 := NB152_161.out; have hnb50 := NB161_153.out; have hnc50 := NB153_161.out; have hnb51 := NB161_157.out; have hnc51 := NB157_161.out; have hcz52_0 : w47.cell? ⟨gb161, 0, none⟩ = some (.int .i64 0) := (blk_cell BK161.out 0).trans rfl; have hcz52_1 : w47.cell? ⟨gb161, 1, none⟩ = some (.int .i64 0) := (blk_cell BK161.out 1).trans rfl; have hcz52_2 : w47.cell? ⟨gb161, 2, none⟩ = some (.int .i64 0) := (blk_cell BK161.out 2).trans rfl; have hcz52_3 : w47.cell? ⟨gb161, 3, none⟩ = some (.int .i64 0) := (blk_cell BK161.out 3).trans rfl; have hcz52_4 : w47.cell? ⟨gb161, 4, none⟩ = some (.int .i64 0) := (blk_cell BK161.out 4).trans rfl; have hcz52_5 : w47.cell? ⟨gb161, 5, none⟩ = some (.bool false) := (blk_cell BK161.out 5).trans rfl; have hcz52_6 : w47.cell? ⟨gb161, 6, none⟩ = some (.bool false) := (blk_cell BK161.out 6).trans rfl; have hcz52_7 : w47.cell? ⟨gb161, 7, none⟩ = some (.int .i64 0) := (blk_cell BK161.out 7).trans rfl; have hcz52_8 : w47.cell? ⟨gb161, 8, none⟩ = some (.int .i64 0) := (blk_cell BK161.out 8).trans rfl; have hfz52_0 := blk_frozen BK161.out 0; have hfz52_1 := blk_frozen BK161.out 1; have hfz52_2 := blk_frozen BK161.out 2; have hfz52_3 := blk_frozen BK161.out 3; have hfz52_4 := blk_frozen BK161.out 4; have hfz52_5 := blk_frozen BK161.out 5; have hfz52_6 := blk_frozen BK161.out 6; have hfz52_7 := blk_frozen BK161.out 7; have hfz52_8 := blk_frozen BK161.out 8) | ((with_reducible refine gate_builtin (b := .append) (xs := #[.tmp 89, .tmp 91]) rfl ?_); (try (refine gate_guard (by rfl) ?_; dsimp only)); at_builtin; refine Kd.R_append k32 (w0 := w) w.heap.size rfl (.tmp 89) (.tmp 91) 24 32 (.agg #[(.int .i64 0), (.int .i64 0), (.int .i64 0), (.int .i64 0), (.int .i64 0), (.bool false), (.bool false), (.int .i64 0), (.int .i64 0)]) 64 rfl Try.underlying24 info32 rfl (by decide) (by omega) u15 x15_3 (⟨x16_3, (rd_T32 l1 x17_3).f1, (rd_T32 l1 x17_3).f2, (rd_T32 l1 x17_3).f3, (rd_T32 l1 x17_3).f4, false, false, (rd_T32 l1 x17_3).f7, (rd_T32 l1 x17_3).f8⟩ : S32) [.int .i64 x16_3, .int .i64 ((rd_T32 l1 x17_3).f1), .int .i64 ((rd_T32 l1 x17_3).f2), .int .i64 ((rd_T32 l1 x17_3).f3), .int .i64 ((rd_T32 l1 x17_3).f4), .bool false, .bool false, .int .i64 ((rd_T32 l1 x17_3).f7), .int .i64 ((rd_T32 l1 x17_3).f8)] (fun k_ => k_ ≠ gb161) (fun _ => False) rfl (by first | (go_simp; done) | (go_simp; rfl)) ?aP (fun _ hk => hk.elim) ?aF ?aO ?aB ?aS ?aL ?_; (case aP => exact k32_mkM _ _ _ (⟨x16_3, (rd_T32 l1 x17_3).f1, (rd_T32 l1 x17_3).f2, (rd_T32 l1 x17_3).f3, (rd_T32 l1 x17_3).f4, false, false, (rd_T32 l1 x17_3).f7, (rd_T32 l1 x17_3).f8⟩ : S32)); (case aB => exact (by repeat (first | (with_reducible first | exact HB.out | apply below_alloc | apply pw_below_drewN | apply below_drew1 | refine below_set ?_ GE147.out | refine below_set ?_ GE152.out | refine below_set ?_ GE153.out | refine below_set ?_ GE157.out | refine below_set ?_ GE161.out) | exact HB.out))); (case aF => exact (fun k_ hk => Kd.freshB (g := gb161) (o := .cells #[.int .i64 x16_3, .int .i64 ((rd_T32 l1 x17_3).f1), .int .i64 ((rd_T32 l1 x17_3).f2), .int .i64 ((rd_T32 l1 x17_3).f3), .int .i64 ((rd_T32 l1 x17_3).f4), .bool false, .bool false, .int .i64 ((rd_T32 l1 x17_3).f7), .int .i64 ((rd_T32 l1 x17_3).f8)] 32 (0, 0)) (by (with_reducible repeat (first | refine blk_drewN ?_ _ | refine blk_drew ?_ | refine blk_alloc ?_ _)); refine blk_put (cs := #[.int .i64 ((rd_T32 l1 x17_3).f0), .int .i64 ((rd_T32 l1 x17_3).f1), .int .i64 ((rd_T32 l1 x17_3).f2), .int .i64 ((rd_T32 l1 x17_3).f3), .int .i64 ((rd_T32 l1 x17_3).f4), .bool false, .bool false, .int .i64 ((rd_T32 l1 x17_3).f7), .int .i64 ((rd_T32 l1 x17_3).f8)]) ?_ 0 _ rfl; (with_reducible repeat (first | refine blk_drewN ?_ _ | refine blk_drew ?_ | refine blk_alloc ?_ _)); refine blk_put (cs := #[.int .i64 ((rd_T32 l1 x17_3).f0), .int .i64 ((rd_T32 l1 x17_3).f1), .int .i64 ((rd_T32 l1 x17_3).f2), .int .i64 ((rd_T32 l1 x17_3).f3), .int .i64 ((rd_T32 l1 x17_3).f4), .bool false, .bool false, .int .i64 ((rd_T32 l1 x17_3).f7), .int .i64 0]) ?_ 8 _ rfl; (with_reducible repeat (first | refine blk_drewN ?_ _ | refine blk_drew ?_ | refine blk_alloc ?_ _)); refine blk_put (cs := #[.int .i64 ((rd_T32 l1 x17_3).f0), .int .i64 ((rd_T32 l1 x17_3).f1), .int .i64 ((rd_T32 l1 x17_3).f2), .int .i64 ((rd_T32 l1 x17_3).f3), .int .i64 ((rd_T32 l1 x17_3).f4), .bool false, .bool false, .int .i64 0, .int .i64 0]) ?_ 7 _ rfl; (with_reducible repeat (first | refine blk_drewN ?_ _ | refine blk_drew ?_ | refine blk_alloc ?_ _)); refine blk_put (cs := #[.int .i64 ((rd_T32 l1 x17_3).f0), .int .i64 ((rd_T32 l1 x17_3).f1), .int .i64 ((rd_T32 l1 x17_3).f2), .int .i64 ((rd_T32 l1 x17_3).f3), .int .i64 ((rd_T32 l1 x17_3).f4), .bool false, .bool false, .int .i64 0, .int .i64 0]) ?_ 6 _ rfl; (with_reducible repeat (first | refine blk_drewN ?_ _ | refine blk_drew ?_ | refine blk_alloc ?_ _)); refine blk_put (cs := #[.int .i64 ((rd_T32 l1 x17_3).f0), .int .i64 ((rd_T32 l1 x17_3).f1), .int .i64 ((rd_T32 l1 x17_3).f2), .int .i64 ((rd_T32 l1 x17_3).f3), .int .i64 ((rd_T32 l1 x17_3).f4), .bool false, .bool false, .int .i64 0, .int .i64 0]) ?_ 5 _ rfl; (with_reducible repeat (first | refine blk_drewN ?_ _ | refine blk_drew ?_ | refine blk_alloc ?_ _)); refine blk_put (cs := #[.int .i64 ((rd_T32 l1 x17_3).f0), .int .i64 ((rd_T32 l1 x17_3).f1), .int .i64 ((rd_T32 l1 x17_3).f2), .int .i64 ((rd_T32 l1 x17_3).f3), .int .i64 0, .bool false, .bool false, .int .i64 0, .int .i64 0]) ?_ 4 _ rfl; (with_reducible repeat (first | refine blk_drewN ?_ _ | refine blk_drew ?_ | refine blk_alloc ?_ _)); refine blk_put (cs := #[.int .i64 ((rd_T32 l1 x17_3).f0), .int .i64 ((rd_T32 l1 x17_3).f1), .int .i64 ((rd_T32 l1 x17_3).f2), .int .i64 0, .int .i64 0, .bool false, .bool false, .int .i64 0, .int .i64 0]) ?_ 3 _ rfl; (with_reducible repeat (first | refine blk_drewN ?_ _ | refine blk_drew ?_ | refine blk_alloc ?_ _)); refine blk_put (cs := #[.int .i64 ((rd_T32 l1 x17_3).f0), .int .i64 ((rd_T32 l1 x17_3).f1), .int .i64 0, .int .i64 0, .int .i64 0, .bool false, .bool false, .int .i64 0, .int .i64 0]) ?_ 2 _ rfl; (with_reducible repeat (first | refine blk_drewN ?_ _ | refine blk_drew ?_ | refine blk_alloc ?_ _)); refine blk_put (cs := #[.int .i64 ((rd_T32 l1 x17_3).f0), .int .i64 0, .int .i64 0, .int .i64 0, .int .i64 0, .bool false, .bool false, .int .i64 0, .int .i64 0]) ?_ 1 _ rfl; (with_reducible repeat (first | refine blk_drewN ?_ _ | refine blk_drew ?_ | refine blk_alloc ?_ _)); refine blk_put (cs := #[.int .i64 0, .int .i64 0, .int .i64 0, .int .i64 0, .int .i64 0, .bool false, .bool false, .int .i64 0, .int .i64 0]) ?_ 0 _ rfl; (with_reducible repeat (first | refine blk_drewN ?_ _ | refine blk_drew ?_ | refine blk_alloc ?_ _)); exact BK161.out) k_ hk)); (case aO => exact (by (with_reducible repeat (first | apply Kd.R_alloc | apply Kd.R_drewN | apply Kd.R_drew)); exact Kd.R_mono (Kd.R_far (p := ⟨gb161, 0, none⟩) (Kd.R_far (p := ⟨gb161, 8, none⟩) (Kd.R_far (p := ⟨gb161, 7, none⟩) (Kd.R_far (p := ⟨gb161, 6, none⟩) (Kd.R_far (p := ⟨gb161, 5, none⟩) (Kd.R_far (p := ⟨gb161, 4, none⟩) (Kd.R_far (p := ⟨gb161, 3, none⟩) (Kd.R_far (p := ⟨gb161, 2, none⟩) (Kd.R_far (p := ⟨gb161, 1, none⟩) (Kd.R_far (p := ⟨gb161, 0, none⟩) (Kd.R_mono HO_15.out (fun k_ hk => (⟨hk, hk.2⟩ : _ ∧ k_ ≠ gb161))) (fun _ hk => hk.2) (.int .i64 ((rd_T32 l1 x17_3).f0))) (fun _ hk => hk.2) (.int .i64 ((rd_T32 l1 x17_3).f1))) (fun _ hk => hk.2) (.int .i64 ((rd_T32 l1 x17_3).f2))) (fun _ hk => hk.2) (.int .i64 ((rd_T32 l1 x17_3).f3))) (fun _ hk => hk.2) (.int .i64 ((rd_T32 l1 x17_3).f4))) (fun _ hk => hk.2) (.bool false)) (fun _ hk => hk.2) (.bool false)) (fun _ hk => hk.2) (.int .i64 ((rd_T32 l1 x17_3).f7))) (fun _ hk => hk.2) (.int .i64 ((rd_T32 l1 x17_3).f8))) (fun _ hk => hk.2) (.int .i64 x16_3)) (fun _ hk => hk.1.2))); (case aS => exact (below_size (by repeat (first | (with_reducible first | exact HB.out | apply below_alloc | apply pw_below_drewN | apply below_drew1 | refine below_set ?_ GE147.out | refine below_set ?_ GE152.out | refine below_set ?_ GE153.out | refine below_set ?_ GE157.out | refine below_set ?_ GE161.out) | exact HB.out)))); (case aL => have := LMc46.out; omega); intro v163 w53 ho hb hg hat; rw [← Ny162.out] at ho; have n0_ := Aside0.mk (blk_grown (g := gb147) (o := .cells #[.bool a0_0, .int .i64 a0_1, .int .i64 a0_2, .int .i64 a0_3, .int .i64 a0_4] 23 (0, 0)) (by (with_reducible repeat (first | refine blk_drewN ?_ _ | refine blk_drew ?_ | refine blk_alloc ?_ _)); refine blk_far ?_ NB147_161.out _; (with_reducible repeat (first | refine blk_drewN ?_ _ | refine blk_drew ?_ | refine blk_alloc ?_ _)); refine blk_far ?_ NB147_161.out _; (with_reducible repeat (first | refine blk_drewN ?_ _ | refine blk_drew ?_ | refine blk_alloc ?_ _)); refine blk_far ?_ NB147_161.out _; (with_reducible repeat (first | refine blk_drewN ?_ _ | refine blk_drew ?_ | refine blk_alloc ?_ _)); refine blk_far ?_ NB147_161.out _; (with_reducible repeat (first | refine blk_drewN ?_ _ | refine blk_drew ?_ | refine blk_alloc ?_ _)); refine blk_far ?_ NB147_161.out _; (with_reducible repeat (first | refine blk_drewN ?_ _ | refine blk_drew ?_ | refine blk_alloc ?_ _)); refine blk_far ?_ NB147_161.out _; (with_reducible repeat (first | refine blk_drewN ?_ _ | refine blk_drew ?_ | refine blk_alloc ?_ _)); refine blk_far ?_ NB147_161.out _; (with_reducible repeat (first | refine blk_drewN ?_ _ | refine blk_drew ?_ | refine blk_alloc ?_ _)); refine blk_far ?_ NB147_161.out _; (with_reducible repeat (first | refine blk_drewN ?_ _ | refine blk_drew ?_ | refine blk_alloc ?_ _)); refine blk_far ?_ NB147_161.out _; (with_reducible repeat (first | refine blk_drewN ?_ _ | refine blk_drew ?_ | refine blk_alloc ?_ _)); refine blk_far ?_ NB147_161.out _; (with_reducible repeat (first | refine blk_drewN ?_ _ | refine blk_drew ?_ | refine blk_alloc ?_ _)); exact BK147.out) hg (Kd.R_ne HO_15.out BK147.out (by decide))); have n1_ := Aside0.mk (blk_grown (g := gb152) (o := .cells #[.int .i64 t149, .int .i64 t150] 27 (0, 0)) (by (with_reducible repeat (first | refine blk_drewN ?_ _ | refine blk_drew ?_ | refine blk_alloc ?_ _)); refine blk_far ?_ NB152_161.out _; (with_reducible repeat (first | refine blk_drewN ?_ _ | refine blk_drew ?_ | refine blk_alloc ?_ _)); refine blk_far ?_ NB152_161.out _; (with_reducible repeat (first | refine blk_drewN ?_ _ | refine blk_drew ?_ | refine blk_alloc ?_ _)); refine blk_far ?_ NB152_161.out _; (with_reducible repeat (first | refine blk_drewN ?_ _ | refine blk_drew ?_ | refine blk_alloc ?_ _)); refine blk_far ?_ NB152_161.out _; (with_reducible repeat (first | refine blk_drewN ?_ _ | refine blk_drew ?_ | refine blk_alloc ?_ _)); refine blk_far ?_ NB152_161.out _; (with_reducible repeat (first | refine blk_drewN ?_ _ | refine blk_drew ?_ | refine blk_alloc ?_ _)); refine blk_far ?_ NB152_161.out _; (with_reducible repeat (first | refine blk_drewN ?_ _ | refine blk_drew ?_ | refine blk_alloc ?_ _)); refine blk_far ?_ NB152_161.out _; (with_reducible repeat (first | refine blk_drewN ?_ _ | refine blk_drew ?_ | refine blk_alloc ?_ _)); refine blk_far ?_ NB152_161.out _; (with_reducible repeat (first | refine blk_drewN ?_ _ | refine blk_drew ?_ | refine blk_alloc ?_ _)); refine blk_far ?_ NB152_161.out _; (with_reducible repeat (first | refine blk_drewN ?_ _ | refine blk_drew ?_ | refine blk_alloc ?_ _)); refine blk_far ?_ NB152_161.out _; (with_reducible repeat (first | refine blk_drewN ?_ _ | refine blk_drew ?_ | refine blk_alloc ?_ _)); exact BK152.out) hg (Kd.R_ne HO_15.out BK152.out (by decide))); have n2_ := Aside0.mk (blk_grown (g := gb153) (o := .cells #[.bool a0_0, .int .i64 a0_1, .int .i64 a0_2, .int .i64 a0_3, .int .i64 x154004_12] 23 (0, 0)) (by (with_reducible repeat (first | refine blk_drewN ?_ _ | refine blk_drew ?_ | refine blk_alloc ?_ _)); refine blk_far ?_ NB153_161.out _; (with_reducible repeat (first | refine blk_drewN ?_ _ | refine blk_drew ?_ | refine blk_alloc ?_ _)); refine blk_far ?_ NB153_161.out _; (with_reducible repeat (first | refine blk_drewN ?_ _ | refine blk_drew ?_ | refine blk_alloc ?_ _)); refine blk_far ?_ NB153_161.out _; (with_reducible repeat (first | refine blk_drewN ?_ _ | refine blk_drew ?_ | refine blk_alloc ?_ _)); refine blk_far ?_ NB153_161.out _; (with_reducible repeat (first | refine blk_drewN ?_ _ | refine blk_drew ?_ | refine blk_alloc ?_ _)); refine blk_far ?_ NB153_161.out _; (with_reducible repeat (first | refine blk_drewN ?_ _ | refine blk_drew ?_ | refine blk_alloc ?_ _)); refine blk_far ?_ NB153_161.out _; (with_reducible repeat (first | refine blk_drewN ?_ _ | refine blk_drew ?_ | refine blk_alloc ?_ _)); refine blk_far ?_ NB153_161.out _; (with_reducible repeat (first | refine blk_drewN ?_ _ | refine blk_drew ?_ | refine blk_alloc ?_ _)); refine blk_far ?_ NB153_161.out _; (with_reducible repeat (first | refine blk_drewN ?_ _ | refine blk_drew ?_ | refine blk_alloc ?_ _)); refine blk_far ?_ NB153_161.out _; (with_reducible repeat (first | refine blk_drewN ?_ _ | refine blk_drew ?_ | refine blk_alloc ?_ _)); refine blk_far ?_ NB153_161.out _; (with_reducible repeat (first | refine blk_drewN ?_ _ | refine blk_drew ?_ | refine blk_alloc ?_ _)); exact BK153.out) hg (Kd.R_ne HO_15.out BK153.out (by decide))); have n3_ := Aside0.mk (blk_grown (g := gb157) (o := .cells #[.int .i64 t154, .int .i64 t155] 27 (0, 0)) (by (with_reducible repeat (first | refine blk_drewN ?_ _ | refine blk_drew ?_ | refine blk_alloc ?_ _)); refine blk_far ?_ NB157_161.out _; (with_reducible repeat (first | refine blk_drewN ?_ _ | refine blk_drew ?_ | refine blk_alloc ?_ _)); refine blk_far ?_ NB157_161.out _; (with_reducible repeat (first | refine blk_drewN ?_ _ | refine blk_drew ?_ | refine blk_alloc ?_ _)); refine blk_far ?_ NB157_161.out _; (with_reducible repeat (first | refine blk_drewN ?_ _ | refine blk_drew ?_ | refine blk_alloc ?_ _)); refine blk_far ?_ NB157_161.out _; (with_reducible repeat (first | refine blk_drewN ?_ _ | refine blk_drew ?_ | refine blk_alloc ?_ _)); refine blk_far ?_ NB157_161.out _; (with_reducible repeat (first | refine blk_drewN ?_ _ | refine blk_drew ?_ | refine blk_alloc ?_ _)); refine blk_far ?_ NB157_161.out _; (with_reducible repeat (first | refine blk_drewN ?_ _ | refine blk_drew ?_ | refine blk_alloc ?_ _)); refine blk_far ?_ NB157_161.out _; (with_reducible repeat (first | refine blk_drewN ?_ _ | refine blk_drew ?_ | refine blk_alloc ?_ _)); refine blk_far ?_ NB157_161.out _; (with_reducible repeat (first | refine blk_drewN ?_ _ | refine blk_drew ?_ | refine blk_alloc ?_ _)); refine blk_far ?_ NB157_161.out _; (with_reducible repeat (first | refine blk_drewN ?_ _ | refine blk_drew ?_ | refine blk_alloc ?_ _)); refine blk_far ?_ NB157_161.out _; (with_reducible repeat (first | refine blk_drewN ?_ _ | refine blk_drew ?_ | refine blk_alloc ?_ _)); exact BK157.out) hg (Kd.R_ne HO_15.out BK157.out (by decide))); have n4_ := Aside0.mk (blk_grown (g := gb161) (o := .cells #[.int .i64 x16_3, .int .i64 ((rd_T32 l1 x17_3).f1), .int .i64 ((rd_T32 l1 x17_3).f2), .int .i64 ((rd_T32 l1 x17_3).f3), .int .i64 ((rd_T32 l1 x17_3).f4), .bool false, .bool false, .int .i64 ((rd_T32 l1 x17_3).f7), .int .i64 ((rd_T32 l1 x17_3).f8)] 32 (0, 0)) (by (with_reducible repeat (first | refine blk_drewN ?_ _ | refine blk_drew ?_ | refine blk_alloc ?_ _)); refine blk_put (cs := #[.int .i64 ((rd_T32 l1 x17_3).f0), .int .i64 ((rd_T32 l1 x17_3).f1), .int .i64 ((rd_T32 l1 x17_3).f2), .int .i64 ((rd_T32 l1 x17_3).f3), .int .i64 ((rd_T32 l1 x17_3).f4), .bool false, .bool false, .int .i64 ((rd_T32 l1 x17_3).f7), .int .i64 ((rd_T32 l1 x17_3).f8)]) ?_ 0 _ rfl; (with_reducible repeat (first | refine blk_drewN ?_ _ | refine blk_drew ?_ | refine blk_alloc ?_ _)); refine blk_put (cs := #[.int .i64 ((rd_T32 l1 x17_3).f0), .int .i64 ((rd_T32 l1 x17_3).f1), .int .i64 ((rd_T32 l1 x17_3).f2), .int .i64 ((rd_T32 l1 x17_3).f3), .int .i64 ((rd_T32 l1 x17_3).f4), .bool false, .bool false, .int .i64 ((rd_T32 l1 x17_3).f7), .int .i64 0]) ?_ 8 _ rfl; (with_reducible repeat (first | refine blk_drewN ?_ _ | refine blk_drew ?_ | refine blk_alloc ?_ _)); refine blk_put (cs := #[.int .i64 ((rd_T32 l1 x17_3).f0), .int .i64 ((rd_T32 l1 x17_3).f1), .int .i64 ((rd_T32 l1 x17_3).f2), .int .i64 ((rd_T32 l1 x17_3).f3), .int .i64 ((rd_T32 l1 x17_3).f4), .bool false, .bool false, .int .i64 0, .int .i64 0]) ?_ 7 _ rfl; (with_reducible repeat (first | refine blk_drewN ?_ _ | refine blk_drew ?_ | refine blk_alloc ?_ _)); refine blk_put (cs := #[.int .i64 ((rd_T32 l1 x17_3).f0), .int .i64 ((rd_T32 l1 x17_3).f1), .int .i64 ((rd_T32 l1 x17_3).f2), .int .i64 ((rd_T32 l1 x17_3).f3), .int .i64 ((rd_T32 l1 x17_3).f4), .bool false, .bool false, .int .i64 0, .int .i64 0]) ?_ 6 _ rfl; (with_reducible repeat (first | refine blk_drewN ?_ _ | refine blk_drew ?_ | refine blk_alloc ?_ _)); refine blk_put (cs := #[.int .i64 ((rd_T32 l1 x17_3).f0), .int .i64 ((rd_T32 l1 x17_3).f1), .int .i64 ((rd_T32 l1 x17_3).f2), .int .i64 ((rd_T32 l1 x17_3).f3), .int .i64 ((rd_T32 l1 x17_3).f4), .bool false, .bool false, .int .i64 0, .int .i64 0]) ?_ 5 _ rfl; (with_reducible repeat (first | refine blk_drewN ?_ _ | refine blk_drew ?_ | refine blk_alloc ?_ _)); refine blk_put (cs := #[.int .i64 ((rd_T32 l1 x17_3).f0), .int .i64 ((rd_T32 l1 x17_3).f1), .int .i64 ((rd_T32 l1 x17_3).f2), .int .i64 ((rd_T32 l1 x17_3).f3), .int .i64 0, .bool false, .bool false, .int .i64 0, .int .i64 0]) ?_ 4 _ rfl; (with_reducible repeat (first | refine blk_drewN ?_ _ | refine blk_drew ?_ | refine blk_alloc ?_ _)); refine blk_put (cs := #[.int .i64 ((rd_T32 l1 x17_3).f0), .int .i64 ((rd_T32 l1 x17_3).f1), .int .i64 ((rd_T32 l1 x17_3).f2), .int .i64 0, .int .i64 0, .bool false, .bool false, .int .i64 0, .int .i64 0]) ?_ 3 _ rfl; (with_reducible repeat (first | refine blk_drewN ?_ _ | refine blk_drew ?_ | refine blk_alloc ?_ _)); refine blk_put (cs := #[.int .i64 ((rd_T32 l1 x17_3).f0), .int .i64 ((rd_T32 l1 x17_3).f1), .int .i64 0, .int .i64 0, .int .i64 0, .bool false, .bool false, .int .i64 0, .int .i64 0]) ?_ 2 _ rfl; (with_reducible repeat (first | refine blk_drewN ?_ _ | refine blk_drew ?_ | refine blk_alloc ?_ _)); refine blk_put (cs := #[.int .i64 ((rd_T32 l1 x17_3).f0), .int .i64 0, .int .i64 0, .int .i64 0, .int .i64 0, .bool false, .bool false, .int .i64 0, .int .i64 0]) ?_ 1 _ rfl; (with_reducible repeat (first | refine blk_drewN ?_ _ | refine blk_drew ?_ | refine blk_alloc ?_ _)); refine blk_put (cs := #[.int .i64 0, .int .i64 0, .int .i64 0, .int .i64 0, .int .i64 0, .bool false, .bool false, .int .i64 0, .int .i64 0]) ?_ 0 _ rfl; (with_reducible repeat (first | refine blk_drewN ?_ _ | refine blk_drew ?_ | refine blk_alloc ?_ _)); exact BK161.out) hg (Kd.R_away HO_15.out (fun _ hk => hk.2))); have n5_ := Aside0.mk (hb); have n6_ := Aside0.mk (ho); clear BK147; clear BK152; clear BK153; clear BK157; clear BK161; clear HB; clear HO_15; have BK147 := n0_; have BK152 := n1_; have BK153 := n2_; have BK157 := n3_; have BK161 := n4_; have HB := n5_; have HO164 := n6_; clear n0_ n1_ n2_ n3_ n4_ n5_ n6_; clear ho hb hg hat))
                            go_roundg k3
                            case measure => have := HJ5.out; have := HJ12.out; have := HK3.out; omega
                            case rel => exact ⟨(y162), (wrap64 (x16_3 + ((rd_T32 l1 x17_3).f1))), (wrap64 (x17_3 + 1)), (by first | rfl | (simp; done) | (simp [*]; done)), (by first | rfl | (simp; done) | (simp [*]; done)), H', ⟨by have := HJ5.out; have := HJ12.out; have := HK3.out; omega⟩, ⟨by (with_reducible repeat (first | apply Kd.R_alloc | apply Kd.R_drewN | apply Kd.R_drew)); exact Kd.R_mono HO164.out (fun _ hk => trivial)⟩, ⟨by (with_reducible repeat (first | refine blk_drewN ?_ _ | refine blk_drew ?_ | refine blk_alloc ?_ _)); exact BK147.out⟩, ⟨by (with_reducible repeat (first | refine blk_drewN ?_ _ | refine blk_drew ?_ | refine blk_alloc ?_ _)); exact BK152.out⟩, ⟨by (with_reducible repeat (first | refine blk_drewN ?_ _ | refine blk_drew ?_ | refine blk_alloc ?_ _)); exact BK153.out⟩, ⟨by (with_reducible repeat (first | refine blk_drewN ?_ _ | refine blk_drew ?_ | refine blk_alloc ?_ _)); exact BK157.out⟩, ⟨by repeat (first | (with_reducible first | exact HB.out | apply below_alloc | apply pw_below_drewN | apply below_drew1 | refine below_set ?_ GE147.out | refine below_set ?_ GE152.out | refine below_set ?_ GE153.out | refine below_set ?_ GE157.out | refine below_set ?_ GE161.out) | exact HB.out)⟩⟩
                          · rw [if_neg c46] at H
                            exact absurd H (by simp)
                    · rw [if_neg c41] at H
                      exact absurd H (by simp)
                  · rw [if_neg c40] at H
                    have c40b0 : decide (x17_3 < (l1.length : Int)) = false := decide_eq_false c40
                    clear c40
                    replace H := Option.bind_eq_some_iff.mp H
                    obtain ⟨⟨t165, t166, t167⟩, A540, H⟩ := H
                    replace H : (if t156 = 0 then (if t167 = 0 then (if t155 ≥ t150 then (if t154 = t149 then (some (t165 == t149 && (t166 == t150))) else (some false)) else (some false)) else (some false)) else (some false)) = some r := H
                    have A54 := Aside0.mk A540
                    clear A540
                    by_cases c55 : t156 = 0
                    · rw [if_pos c55] at H
                      have c55b0 : (t156 == 0) = true := beq_iff_eq.mpr c55
                      have c55b1 : (t156 != 0) = false := bne_eq_false_iff_eq.mpr c55
                      clear c55
                      by_cases c56 : t167 = 0
                      · rw [if_pos c56] at H
                        have c56b0 : (t167 == 0) = true := beq_iff_eq.mpr c56
                        have c56b1 : (t167 != 0) = false := bne_eq_false_iff_eq.mpr c56
                        clear c56
                        by_cases c57 : t155 ≥ t150
                        · rw [if_pos c57] at H
                          have c57b0 : decide (t150 ≤ t155) = true := decide_eq_true c57
                          clear c57
                          by_cases c58 : t154 = t149
                          · rw [if_pos c58] at H
                            have c58b0 : (t154 == t149) = true := beq_iff_eq.mpr c58
                            have c58b1 : (t154 != t149) = false := bne_eq_false_iff_eq.mpr c58
                            clear c58
                            obtain rfl := Option.some.inj H
                            have hnb59 := NB147_152.out
                            have hnc59 := NB152_147.out
                            have hnb60 := NB147_153.out
                            have hnc60 := NB153_147.out
                            have hnb61 := NB147_157.out
                            have hnc61 := NB157_147.out
                            have hcz62_0 : wr.cell? ⟨gb147, 0, none⟩ = some (.bool a0_0) := (blk_cell BK147.out 0).trans rfl
                            have hcz62_1 : wr.cell? ⟨gb147, 1, none⟩ = some (.int .i64 a0_1) := (blk_cell BK147.out 1).trans rfl
                            have hcz62_2 : wr.cell? ⟨gb147, 2, none⟩ = some (.int .i64 a0_2) := (blk_cell BK147.out 2).trans rfl
                            have hcz62_3 : wr.cell? ⟨gb147, 3, none⟩ = some (.int .i64 a0_3) := (blk_cell BK147.out 3).trans rfl
                            have hcz62_4 : wr.cell? ⟨gb147, 4, none⟩ = some (.int .i64 a0_4) := (blk_cell BK147.out 4).trans rfl
                            have hfz62_0 := blk_frozen BK147.out 0
                            have hfz62_1 := blk_frozen BK147.out 1
                            have hfz62_2 := blk_frozen BK147.out 2
                            have hfz62_3 := blk_frozen BK147.out 3
                            have hfz62_4 := blk_frozen BK147.out 4
                            obtain ⟨Ao63, co63, eo63⟩ := Kd.R_slice HO_15.out
                            subst eo63
                            go_wp2_with (first | ((with_reducible refine gate_callee (f := 9) rfl ?_); refine goesL_ (some 98) rfl rfl Try.func9 (by kernel_rfl) rfl #[.agg #[.bool a0_0, .int .i64 a0_1, .int .i64 a0_2, .int .i64 a0_3, .int .i64 a0_4], .slice Ao63 x15_3.length co63, .bool true, .int .i64 a2, .int .i64 a3] rfl (by (try simp only [List.map_toArray, List.map_cons, List.map_nil]); first | done | rfl | (simp only [List.length_drop, List.length_take]; rfl)) ?_; (with_reducible refine (timer_Set.calls k3 a0_0 a0_1 a0_2 a0_3 a0_4 _ _ x15_3 true a2 a3 t165 t166 t167 _ ?side1 ?side2 A54.out).mono ?_); (case side1 => repeat (first | exact (Kd.R_reads' HO_15.out).2.2 | (with_reducible refine Kd.C_alloc ?_ _) | (with_reducible refine Kd.C_drewN ?_ _) | (with_reducible refine Kd.C_drew ?_))); (case side2 => exact (Kd.R_reads' HO_15.out).2.1); rintro e w64 ⟨rfl, hb⟩; refine ⟨_, rfl, ?_⟩; have n0_ := Aside0.mk (Kd.R_below (by (with_reducible repeat (first | apply Kd.R_alloc | apply Kd.R_drewN | apply Kd.R_drew)); exact HO_15.out) hb); have n1_ := Aside0.mk (blk_below (g := gb147) (o := .cells #[.bool a0_0, .int .i64 a0_1, .int .i64 a0_2, .int .i64 a0_3, .int .i64 a0_4] 23 (0, 0)) (by (with_reducible repeat (first | refine blk_drewN ?_ _ | refine blk_drew ?_ | refine blk_alloc ?_ _)); exact BK147.out) hb); have n2_ := Aside0.mk (blk_below (g := gb152) (o := .cells #[.int .i64 t149, .int .i64 t150] 27 (0, 0)) (by (with_reducible repeat (first | refine blk_drewN ?_ _ | refine blk_drew ?_ | refine blk_alloc ?_ _)); exact BK152.out) hb); have n3_ := Aside0.mk (blk_below (g := gb153) (o := .cells #[.bool a0_0, .int .i64 a0_1, .int .i64 a0_2, .int .i64 a0_3, .int .i64 x154004_12] 23 (0, 0)) (by (with_reducible repeat (first | refine blk_drewN ?_ _ | refine blk_drew ?_ | refine blk_alloc ?_ _)); exact BK153.out) hb); have n4_ := Aside0.mk (blk_below (g := gb157) (o := .cells #[.int .i64 t154, .int .i64 t155] 27 (0, 0)) (by (with_reducible repeat (first | refine blk_drewN ?_ _ | refine blk_drew ?_ | refine blk_alloc ?_ _)); exact BK157.out) hb); have n5_ := Aside0.mk (below_step (by repeat (first | (with_reducible first | exact HB.out | apply below_alloc | apply pw_below_drewN | apply below_drew1 | refine below_set ?_ GE147.out | refine below_set ?_ GE152.out | refine below_set ?_ GE153.out | refine below_set ?_ GE157.out) | exact HB.out)) hb); clear HO_15; clear BK147; clear BK152; clear BK153; clear BK157; clear HB; have HO_15 := n0_; have BK147 := n1_; have BK152 := n2_; have BK153 := n3_; have BK157 := n4_; have HB := n5_; clear n0_ n1_ n2_ n3_ n4_ n5_; (try clear hb); (try clear hb2); (try clear hk); (try clear hi)) | ((with_reducible refine gate_dst (N := 19) rfl ?_); (try (refine gate_guard (by rfl) ?_; dsimp only)); refine box_event ?hg (N := 19) ?hd (cs := #[.int .i64 0, .int .i64 0]) (t := 27) ?hr ?_; (case hd => rfl); (case hg => rfl); (case hr => first | (go_simp; done) | (go_simp; rfl)); intro gb168 hg w65 hbox hb; have n0_ := Aside0.mk (Kd.R_below (by (with_reducible repeat (first | apply Kd.R_alloc | apply Kd.R_drewN | apply Kd.R_drew)); exact HO_15.out) hb); have n1_ := Aside0.mk (blk_below (g := gb147) (o := .cells #[.bool a0_0, .int .i64 a0_1, .int .i64 a0_2, .int .i64 a0_3, .int .i64 a0_4] 23 (0, 0)) (by (with_reducible repeat (first | refine blk_drewN ?_ _ | refine blk_drew ?_ | refine blk_alloc ?_ _)); exact BK147.out) hb); have n2_ := Aside0.mk (blk_below (g := gb152) (o := .cells #[.int .i64 t149, .int .i64 t150] 27 (0, 0)) (by (with_reducible repeat (first | refine blk_drewN ?_ _ | refine blk_drew ?_ | refine blk_alloc ?_ _)); exact BK152.out) hb); have n3_ := Aside0.mk (blk_below (g := gb153) (o := .cells #[.bool a0_0, .int .i64 a0_1, .int .i64 a0_2, .int .i64 a0_3, .int .i64 x154004_12] 23 (0, 0)) (by (with_reducible repeat (first | refine blk_drewN ?_ _ | refine blk_drew ?_ | refine blk_alloc ?_ _)); exact BK153.out) hb); have n4_ := Aside0.mk (blk_below (g := gb157) (o := .cells #[.int .i64 t154, .int .i64 t155] 27 (0, 0)) (by (with_reducible repeat (first | refine blk_drewN ?_ _ | refine blk_drew ?_ | refine blk_alloc ?_ _)); exact BK157.out) hb); have n5_ := Aside0.mk (below_step (by repeat (first | (with_reducible first | exact HB.out | apply below_alloc | apply pw_below_drewN | apply below_drew1 | refine below_set ?_ GE147.out | refine below_set ?_ GE152.out | refine below_set ?_ GE153.out | refine below_set ?_ GE157.out) | exact HB.out)) hb); have n6_ := Aside0.mk (hbox); have n7_ := Aside0.mk ((by rw [hg]; exact (below_size (by repeat (first | (with_reducible first | exact HB.out | apply below_alloc | apply pw_below_drewN | apply below_drew1 | refine below_set ?_ GE147.out | refine below_set ?_ GE152.out | refine below_set ?_ GE153.out | refine below_set ?_ GE157.out) | exact HB.out))) : w.heap.size ≤ gb168)); have n8_ := Aside0.mk ((by rw [hg]; exact (below_size (by repeat (first | (with_reducible first | exact HB.out | apply below_alloc | apply pw_below_drewN | apply below_drew1 | refine below_set ?_ GE147.out | refine below_set ?_ GE152.out | refine below_set ?_ GE153.out | refine below_set ?_ GE157.out) | exact HB.out))) : w.heap.size ≤ gb168)); have n9_ := Aside0.mk ((by rw [hg]; exact Nat.ne_of_lt (blk_lt (g := gb147) (o := .cells #[.bool a0_0, .int .i64 a0_1, .int .i64 a0_2, .int .i64 a0_3, .int .i64 a0_4] 23 (0, 0)) (by (with_reducible repeat (first | refine blk_drewN ?_ _ | refine blk_drew ?_ | refine blk_alloc ?_ _)); exact BK147.out)) : gb147 ≠ gb168)); have n10_ := Aside0.mk ((by rw [hg]; exact Nat.ne_of_gt (blk_lt (g := gb147) (o := .cells #[.bool a0_0, .int .i64 a0_1, .int .i64 a0_2, .int .i64 a0_3, .int .i64 a0_4] 23 (0, 0)) (by (with_reducible repeat (first | refine blk_drewN ?_ _ | refine blk_drew ?_ | refine blk_alloc ?_ _)); exact BK147.out)) : gb168 ≠ gb147)); have n11_ := Aside0.mk ((by rw [hg]; exact Nat.ne_of_lt (blk_lt (g := gb152) (o := .cells #[.int .i64 t149, .int .i64 t150] 27 (0, 0)) (by (with_reducible repeat (first | refine blk_drewN ?_ _ | refine blk_drew ?_ | refine blk_alloc ?_ _)); exact BK152.out)) : gb152 ≠ gb168)); have n12_ := Aside0.mk ((by rw [hg]; exact Nat.ne_of_gt (blk_lt (g := gb152) (o := .cells #[.int .i64 t149, .int .i64 t150] 27 (0, 0)) (by (with_reducible repeat (first | refine blk_drewN ?_ _ | refine blk_drew ?_ | refine blk_alloc ?_ _)); exact BK152.out)) : gb168 ≠ gb152)); have n13_ := Aside0.mk ((by rw [hg]; exact Nat.ne_of_lt (blk_lt (g := gb153) (o := .cells #[.bool a0_0, .int .i64 a0_1, .int .i64 a0_2, .int .i64 a0_3, .int .i64 x154004_12] 23 (0, 0)) (by (with_reducible repeat (first | refine blk_drewN ?_ _ | refine blk_drew ?_ | refine blk_alloc ?_ _)); exact BK153.out)) : gb153 ≠ gb168)); have n14_ := Aside0.mk ((by rw [hg]; exact Nat.ne_of_gt (blk_lt (g := gb153) (o := .cells #[.bool a0_0, .int .i64 a0_1, .int .i64 a0_2, .int .i64 a0_3, .int .i64 x154004_12] 23 (0, 0)) (by (with_reducible repeat (first | refine blk_drewN ?_ _ | refine blk_drew ?_ | refine blk_alloc ?_ _)); exact BK153.out)) : gb168 ≠ gb153)); have n15_ := Aside0.mk ((by rw [hg]; exact Nat.ne_of_lt (blk_lt (g := gb157) (o := .cells #[.int .i64 t154, .int .i64 t155] 27 (0, 0)) (by (with_reducible repeat (first | refine blk_drewN ?_ _ | refine blk_drew ?_ | refine blk_alloc ?_ _)); exact BK157.out)) : gb157 ≠ gb168)); have n16_ := Aside0.mk ((by rw [hg]; exact Nat.ne_of_gt (blk_lt (g := gb157) (o := .cells #[.int .i64 t154, .int .i64 t155] 27 (0, 0)) (by (with_reducible repeat (first | refine blk_drewN ?_ _ | refine blk_drew ?_ | refine blk_alloc ?_ _)); exact BK157.out)) : gb168 ≠ gb157)); clear HO_15; clear BK147; clear BK152; clear BK153; clear BK157; clear HB; have HO_15 := n0_; have BK147 := n1_; have BK152 := n2_; have BK153 := n3_; have BK157 := n4_; have HB := n5_; have BK168 := n6_; have GW168 := n7_; have GE168 := n8_; have NB147_168 := n9_; have NB168_147 := n10_; have NB152_168 := n11_; have NB168_152 := n12_; have NB153_168 := n13_; have NB168_153 := n14_; have NB157_168 := n15_; have NB168_157 := n16_; clear n0_ n1_ n2_ n3_ n4_ n5_ n6_ n7_ n8_ n9_ n10_ n11_ n12_ n13_ n14_ n15_ n16_; clear hb hbox hg; have hnb66 := NB168_147.out; have hnc66 := NB147_168.out; have hnb67 := NB168_152.out; have hnc67 := NB152_168.out; have hnb68 := NB168_153.out; have hnc68 := NB153_168.out; have hnb69 := NB168_157.out; have hnc69 := NB157_168.out; have hcz70_0 : w65.cell? ⟨gb168, 0, none⟩ = some (.int .i64 0) := (blk_cell BK168.out 0).trans rfl; have hcz70_1 : w65.cell? ⟨gb168, 1, none⟩ = some (.int .i64 0) := (blk_cell BK168.out 1).trans rfl; have hss3 : ∀ v, (w65.setCell ⟨gb168, 0, none⟩ v).cell? ⟨gb168, 1, none⟩ = some (.int .i64 0) := fun v => (World.cell?_setCell_other _ _ _ v (by simp)).trans hcz70_1; have hfz70_0 := blk_frozen BK168.out 0; have hfz70_1 := blk_frozen BK168.out 1; have hnb71 := NB157_152.out; have hnc71 := NB152_157.out; have hnb72 := NB157_153.out; have hnc72 := NB153_157.out; have hcz73_0 : w65.cell? ⟨gb157, 0, none⟩ = some (.int .i64 t154) := (blk_cell BK157.out 0).trans rfl; have hcz73_1 : w65.cell? ⟨gb157, 1, none⟩ = some (.int .i64 t155) := (blk_cell BK157.out 1).trans rfl; have hfz73_0 := blk_frozen BK157.out 0; have hfz73_1 := blk_frozen BK157.out 1; have hnb74 := NB152_153.out; have hnc74 := NB153_152.out; have hcz75_0 : w65.cell? ⟨gb152, 0, none⟩ = some (.int .i64 t149) := (blk_cell BK152.out 0).trans rfl; have hcz75_1 : w65.cell? ⟨gb152, 1, none⟩ = some (.int .i64 t150) := (blk_cell BK152.out 1).trans rfl; have hfz75_0 := blk_frozen BK152.out 0; have hfz75_1 := blk_frozen BK152.out 1))
                            go_ret
                            exact ⟨by first | rfl | (simp [errW_none, errW_some] <;> rfl) | (simp [*, errW_none, errW_some] <;> rfl), by repeat (first | (with_reducible first | exact HB.out | apply below_alloc | apply pw_below_drewN | apply below_drew1 | refine below_set ?_ GE147.out | refine below_set ?_ GE152.out | refine below_set ?_ GE153.out | refine below_set ?_ GE157.out | refine below_set ?_ GE168.out) | exact HB.out)⟩
                          · rw [if_neg c58] at H
                            have c58b0 : (t154 == t149) = false := beq_eq_false_iff_ne.mpr c58
                            have c58b1 : (t154 != t149) = true := bne_iff_ne.mpr c58
                            exact Bool.noConfusion ((Option.some.inj H).trans hr_.out)
                        · rw [if_neg c57] at H
                          have c57b0 : decide (t150 ≤ t155) = false := decide_eq_false c57
                          clear c57
                          exact Bool.noConfusion ((Option.some.inj H).trans hr_.out)
                      · rw [if_neg c56] at H
                        have c56b0 : (t167 == 0) = false := beq_eq_false_iff_ne.mpr c56
                        have c56b1 : (t167 != 0) = true := bne_iff_ne.mpr c56
                        exact Bool.noConfusion ((Option.some.inj H).trans hr_.out)
                    · rw [if_neg c55] at H
                      have c55b0 : (t156 == 0) = false := beq_eq_false_iff_ne.mpr c55
                      have c55b1 : (t156 != 0) = true := bne_iff_ne.mpr c55
                      exact Bool.noConfusion ((Option.some.inj H).trans hr_.out)
        · rw [if_neg c12] at H
          have c12b0 : (t151 == 0) = false := beq_eq_false_iff_ne.mpr c12
          have c12b1 : (t151 != 0) = true := bne_iff_ne.mpr c12
          obtain rfl := Option.some.inj H
          have hcz76_0 : wc.cell? ⟨gb147, 0, none⟩ = some (.bool a0_0) := (blk_cell BK147.out 0).trans rfl
          have hcz76_1 : wc.cell? ⟨gb147, 1, none⟩ = some (.int .i64 a0_1) := (blk_cell BK147.out 1).trans rfl
          have hcz76_2 : wc.cell? ⟨gb147, 2, none⟩ = some (.int .i64 a0_2) := (blk_cell BK147.out 2).trans rfl
          have hcz76_3 : wc.cell? ⟨gb147, 3, none⟩ = some (.int .i64 a0_3) := (blk_cell BK147.out 3).trans rfl
          have hcz76_4 : wc.cell? ⟨gb147, 4, none⟩ = some (.int .i64 a0_4) := (blk_cell BK147.out 4).trans rfl
          have hfz76_0 := blk_frozen BK147.out 0
          have hfz76_1 := blk_frozen BK147.out 1
          have hfz76_2 := blk_frozen BK147.out 2
          have hfz76_3 := blk_frozen BK147.out 3
          have hfz76_4 := blk_frozen BK147.out 4
          go_wp2_with (first | ((with_reducible refine gate_callee (f := 9) rfl ?_); refine goesL_ (some 35) rfl rfl Try.func9 (by kernel_rfl) rfl #[.agg #[.bool a0_0, .int .i64 a0_1, .int .i64 a0_2, .int .i64 a0_3, .int .i64 a0_4], .slice A1 l1.length c1, .bool true, .int .i64 a2, .int .i64 a3] rfl (by (try simp only [List.map_toArray, List.map_cons, List.map_nil]); first | done | rfl | (simp only [List.length_drop, List.length_take]; rfl)) ?_; (with_reducible refine (timer_Set.calls kj5 a0_0 a0_1 a0_2 a0_3 a0_4 _ _ l1 true a2 a3 t149 t150 t151 _ ?side1 ?side2 A11.out).mono ?_); (case side1 => repeat (first | exact (Kd.C_below HR1.out HB.out) | (with_reducible refine Kd.C_alloc ?_ _) | (with_reducible refine Kd.C_drewN ?_ _) | (with_reducible refine Kd.C_drew ?_))); (case side2 => exact HC1.out); rintro e w77 ⟨rfl, hb⟩; refine ⟨_, rfl, ?_⟩; have n0_ := Aside0.mk (blk_below (g := gb147) (o := .cells #[.bool a0_0, .int .i64 a0_1, .int .i64 a0_2, .int .i64 a0_3, .int .i64 a0_4] 23 (0, 0)) (by (with_reducible repeat (first | refine blk_drewN ?_ _ | refine blk_drew ?_ | refine blk_alloc ?_ _)); exact BK147.out) hb); have n1_ := Aside0.mk (below_step (by repeat (first | (with_reducible first | exact HB.out | apply below_alloc | apply pw_below_drewN | apply below_drew1 | refine below_set ?_ GE147.out) | exact HB.out)) hb); clear BK147; clear HB; have BK147 := n0_; have HB := n1_; clear n0_ n1_; (try clear hb); (try clear hb2); (try clear hk); (try clear hi)) | ((with_reducible refine gate_dst (N := 10) rfl ?_); (try (refine gate_guard (by rfl) ?_; dsimp only)); refine box_event ?hg (N := 10) ?hd (cs := #[.int .i64 0, .int .i64 0]) (t := 27) ?hr ?_; (case hd => rfl); (case hg => rfl); (case hr => first | (go_simp; done) | (go_simp; rfl)); intro gb152 hg w78 hbox hb; have n0_ := Aside0.mk (blk_below (g := gb147) (o := .cells #[.bool a0_0, .int .i64 a0_1, .int .i64 a0_2, .int .i64 a0_3, .int .i64 a0_4] 23 (0, 0)) (by (with_reducible repeat (first | refine blk_drewN ?_ _ | refine blk_drew ?_ | refine blk_alloc ?_ _)); exact BK147.out) hb); have n1_ := Aside0.mk (below_step (by repeat (first | (with_reducible first | exact HB.out | apply below_alloc | apply pw_below_drewN | apply below_drew1 | refine below_set ?_ GE147.out) | exact HB.out)) hb); have n2_ := Aside0.mk (hbox); have n3_ := Aside0.mk ((by rw [hg]; exact (below_size (by repeat (first | (with_reducible first | exact HB.out | apply below_alloc | apply pw_below_drewN | apply below_drew1 | refine below_set ?_ GE147.out) | exact HB.out))) : w.heap.size ≤ gb152)); have n4_ := Aside0.mk ((by rw [hg]; exact (below_size (by repeat (first | (with_reducible first | exact HB.out | apply below_alloc | apply pw_below_drewN | apply below_drew1 | refine below_set ?_ GE147.out) | exact HB.out))) : w.heap.size ≤ gb152)); have n5_ := Aside0.mk ((by rw [hg]; exact Nat.ne_of_lt (blk_lt (g := gb147) (o := .cells #[.bool a0_0, .int .i64 a0_1, .int .i64 a0_2, .int .i64 a0_3, .int .i64 a0_4] 23 (0, 0)) (by (with_reducible repeat (first | refine blk_drewN ?_ _ | refine blk_drew ?_ | refine blk_alloc ?_ _)); exact BK147.out)) : gb147 ≠ gb152)); have n6_ := Aside0.mk ((by rw [hg]; exact Nat.ne_of_gt (blk_lt (g := gb147) (o := .cells #[.bool a0_0, .int .i64 a0_1, .int .i64 a0_2, .int .i64 a0_3, .int .i64 a0_4] 23 (0, 0)) (by (with_reducible repeat (first | refine blk_drewN ?_ _ | refine blk_drew ?_ | refine blk_alloc ?_ _)); exact BK147.out)) : gb152 ≠ gb147)); clear BK147; clear HB; have BK147 := n0_; have HB := n1_; have BK152 := n2_; have GW152 := n3_; have GE152 := n4_; have NB147_152 := n5_; have NB152_147 := n6_; clear n0_ n1_ n2_ n3_ n4_ n5_ n6_; clear hb hbox hg; have hnb79 := NB152_147.out; have hnc79 := NB147_152.out; have hcz80_0 : w78.cell? ⟨gb152, 0, none⟩ = some (.int .i64 0) := (blk_cell BK152.out 0).trans rfl; have hcz80_1 : w78.cell? ⟨gb152, 1, none⟩ = some (.int .i64 0) := (blk_cell BK152.out 1).trans rfl; have hss4 : ∀ v, (w78.setCell ⟨gb152, 0, none⟩ v).cell? ⟨gb152, 1, none⟩ = some (.int .i64 0) := fun v => (World.cell?_setCell_other _ _ _ v (by simp)).trans hcz80_1; have hfz80_0 := blk_frozen BK152.out 0; have hfz80_1 := blk_frozen BK152.out 1))
          go_ret
          exact ⟨by first | rfl | (simp [errW_none, errW_some] <;> rfl) | (simp [*, errW_none, errW_some] <;> rfl), by repeat (first | (with_reducible first | exact HB.out | apply below_alloc | apply pw_below_drewN | apply below_drew1 | refine below_set ?_ GE147.out | refine below_set ?_ GE152.out) | exact HB.out)⟩

end Go.Proofs.Ytiilmjmgomcipaa.PTimerLater
