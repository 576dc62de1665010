-- Written by a program of this session (wip/hprint.py), over the kit's print.py: the walk of one law. Lean checks it.
import Derived.Test.YtfdaaodpbaikdaaPRateWrongx0
import Derived.Test.YtfdaaodpbaikdaaPRateWrongx1
import Derived.Test.YtfdaaodpbaikdaaPRateWrongx3
namespace Go.Proofs.Ytfdaaodpbaikdaa.PRateWrong
open Go.RowKit Go.Proofs.YtfdaaodpbaikdaaW.PrintWords Go.Proofs.YtfdaaodpbaikdaaW.PrintLast Go.Proofs.YtfdaaodpbaikdaaW.PrintMore
attribute [local go_sem] max2_int min2_int max_two min_two max_three min_three max_four min_four   -- for this text's walks alone
set_option linter.unusedVariables false
set_option linter.unusedSimpArgs false

/-! ### fourinhandlaw11_RateWrong: function 6 -/
mutual
def fourinhandlaw11_RateWrong.j0 : Nat → Int → Int → Int → Int → Bool → Bool → Int → Int → List Int → Option (Bool)
  | 0, _, _, _, _, _, _, _, _, _ => none
  | k + 1, x1, x2, x3, x4, x11, x26, x172000, x172001, x172002 => if x26 = true then (some x11) else ((rate_Came.f k x172000 x172001 x172002 x1 x2).bind fun bt173 => ((rate_Sample.f k x172000 x172001 x172002 x3 x4).bind fun bt180 => ((rate_May.f k x172000 x172001 x172002).bind fun t188 => (if t188 = true then (if x3 ≥ 0 then (if x3 ≤ x172000 then (if x4 ≥ 0 then (fourinhandlaw11_RateWrong.j1 k x4 bt173.2.2.2 bt180.2.2.2.1 bt180.2.2.2.2 (decide (x4 ≤ x172001)) x172000 x172001 x172002 bt173.1 bt173.2.1 bt173.2.2.1 bt180.1 bt180.2.1 bt180.2.2.1) else (fourinhandlaw11_RateWrong.j1 k x4 bt173.2.2.2 bt180.2.2.2.1 bt180.2.2.2.2 false x172000 x172001 x172002 bt173.1 bt173.2.1 bt173.2.2.1 bt180.1 bt180.2.1 bt180.2.2.1)) else (fourinhandlaw11_RateWrong.j1 k x4 bt173.2.2.2 bt180.2.2.2.1 bt180.2.2.2.2 false x172000 x172001 x172002 bt173.1 bt173.2.1 bt173.2.2.1 bt180.1 bt180.2.1 bt180.2.2.1)) else (fourinhandlaw11_RateWrong.j1 k x4 bt173.2.2.2 bt180.2.2.2.1 bt180.2.2.2.2 false x172000 x172001 x172002 bt173.1 bt173.2.1 bt173.2.2.1 bt180.1 bt180.2.1 bt180.2.2.1)) else (fourinhandlaw11_RateWrong.j1 k x4 bt173.2.2.2 bt180.2.2.2.1 bt180.2.2.2.2 false x172000 x172001 x172002 bt173.1 bt173.2.1 bt173.2.2.1 bt180.1 bt180.2.1 bt180.2.2.1)))))
def fourinhandlaw11_RateWrong.j1 : Nat → Int → Int → Int → Int → Bool → Int → Int → List Int → Int → Int → List Int → Int → Int → List Int → Option (Bool)
  | 0, _, _, _, _, _, _, _, _, _, _, _, _, _, _ => none
  | k + 1, x4, x13, x15, x16, x17, x172000, x172001, x172002, x180000, x180001, x180002, x188000, x188001, x188002 => if ((x16 == 0) != x17) = true then (some false) else (if x13 = 0 then ((rate_May.f k x172000 x172001 x172002).bind fun t189 => (if t189 = true then (if x16 = 0 then (if x4 = x172001 then (if x15 = 0 then (some ((x188002.length : Int) == (x172002.length : Int))) else (some false)) else (some true)) else (if x15 = 0 then (some true) else (some false))) else (some false))) else (if (x180002.length : Int) > 0 then (some false) else (if x16 = 0 then (if x4 = x172001 then (if x15 = 0 then (some ((x188002.length : Int) == (x172002.length : Int))) else (some false)) else (some true)) else (if x15 = 0 then (some true) else (some false)))))
end
def fourinhandlaw11_RateWrong.f (k : Nat) (a0_0 : Int) (a0_1 : Int) (l0_2 : List Int) (a1 : Int) (a2 : Int) (a3 : Int) (a4 : Int) : Option (Bool) := (fourinhandlaw11_awake.f k).bind fun t172 => (if t172 = true then (fourinhandlaw11_RateWrong.j0 k a1 a2 a3 a4 t172 (decide ((l0_2.length : Int) > 40)) a0_0 a0_1 l0_2) else (fourinhandlaw11_RateWrong.j0 k a1 a2 a3 a4 t172 true a0_0 a0_1 l0_2))
theorem fourinhandlaw11_RateWrong.mono_l : ∀ k, (∀ y0 y1 y2 y3 y4 y5 y6 y7 y8, LeO (fourinhandlaw11_RateWrong.j0 k y0 y1 y2 y3 y4 y5 y6 y7 y8) (fourinhandlaw11_RateWrong.j0 (k + 1) y0 y1 y2 y3 y4 y5 y6 y7 y8)) ∧ (∀ y0 y1 y2 y3 y4 y5 y6 y7 y8 y9 y10 y11 y12 y13, LeO (fourinhandlaw11_RateWrong.j1 k y0 y1 y2 y3 y4 y5 y6 y7 y8 y9 y10 y11 y12 y13) (fourinhandlaw11_RateWrong.j1 (k + 1) y0 y1 y2 y3 y4 y5 y6 y7 y8 y9 y10 y11 y12 y13))
  | 0 => ⟨fun _ _ _ _ _ _ _ _ _ r h => by simp [fourinhandlaw11_RateWrong.j0] at h, fun _ _ _ _ _ _ _ _ _ _ _ _ _ _ r h => by simp [fourinhandlaw11_RateWrong.j1] at h⟩
  | k + 1 => by
    obtain ⟨ih0, ih1⟩ := fourinhandlaw11_RateWrong.mono_l k
    refine ⟨?_, ?_⟩
    · intro y0 y1 y2 y3 y4 y5 y6 y7 y8
      unfold fourinhandlaw11_RateWrong.j0
      repeat' first
      | (with_reducible exact ih0 _ _ _ _ _ _ _ _ _)
      | (with_reducible exact ih1 _ _ _ _ _ _ _ _ _ _ _ _ _ _)
      | (with_reducible exact fourinhandlaw11_awake.mono _)
      | (with_reducible exact rate_Came.mono _ _ _ _ _ _)
      | (with_reducible exact rate_May.mono _ _ _ _)
      | (with_reducible exact rate_Sample.mono _ _ _ _ _ _)
      | (with_reducible exact LeO.refl _)
      | (with_reducible exact LeO.none _)
      | (with_reducible refine LeO.ite ?_ ?_)
      | (with_reducible refine LeO.bind ?_ (fun _ => ?_))
      | exact ih0 _ _ _ _ _ _ _ _ _
      | exact ih1 _ _ _ _ _ _ _ _ _ _ _ _ _ _
      | exact fourinhandlaw11_awake.mono _
      | exact rate_Came.mono _ _ _ _ _ _
      | exact rate_May.mono _ _ _ _
      | exact rate_Sample.mono _ _ _ _ _ _
      | exact LeO.none _
      | refine LeO.ite ?_ ?_
      | refine LeO.bind ?_ (fun _ => ?_)
    · intro y0 y1 y2 y3 y4 y5 y6 y7 y8 y9 y10 y11 y12 y13
      unfold fourinhandlaw11_RateWrong.j1
      repeat' first
      | (with_reducible exact ih0 _ _ _ _ _ _ _ _ _)
      | (with_reducible exact ih1 _ _ _ _ _ _ _ _ _ _ _ _ _ _)
      | (with_reducible exact fourinhandlaw11_awake.mono _)
      | (with_reducible exact rate_Came.mono _ _ _ _ _ _)
      | (with_reducible exact rate_May.mono _ _ _ _)
      | (with_reducible exact rate_Sample.mono _ _ _ _ _ _)
      | (with_reducible exact LeO.refl _)
      | (with_reducible exact LeO.none _)
      | (with_reducible refine LeO.ite ?_ ?_)
      | (with_reducible refine LeO.bind ?_ (fun _ => ?_))
      | exact ih0 _ _ _ _ _ _ _ _ _
      | exact ih1 _ _ _ _ _ _ _ _ _ _ _ _ _ _
      | exact fourinhandlaw11_awake.mono _
      | exact rate_Came.mono _ _ _ _ _ _
      | exact rate_May.mono _ _ _ _
      | exact rate_Sample.mono _ _ _ _ _ _
      | exact LeO.none _
      | refine LeO.ite ?_ ?_
      | refine LeO.bind ?_ (fun _ => ?_)
theorem fourinhandlaw11_RateWrong.mono : ∀ a0 a1 a2 a3 a4 a5 a6 k, LeO (fourinhandlaw11_RateWrong.f k a0 a1 a2 a3 a4 a5 a6) (fourinhandlaw11_RateWrong.f (k + 1) a0 a1 a2 a3 a4 a5 a6) := by
  intro a0 a1 a2 a3 a4 a5 a6 k
  obtain ⟨ih0, ih1⟩ := fourinhandlaw11_RateWrong.mono_l k
  unfold fourinhandlaw11_RateWrong.f
  repeat' first
      | (with_reducible exact ih0 _ _ _ _ _ _ _ _ _)
      | (with_reducible exact ih1 _ _ _ _ _ _ _ _ _ _ _ _ _ _)
      | (with_reducible exact fourinhandlaw11_awake.mono _)
      | (with_reducible exact rate_Came.mono _ _ _ _ _ _)
      | (with_reducible exact rate_May.mono _ _ _ _)
      | (with_reducible exact rate_Sample.mono _ _ _ _ _ _)
      | (with_reducible exact LeO.refl _)
      | (with_reducible exact LeO.none _)
      | (with_reducible refine LeO.ite ?_ ?_)
      | (with_reducible refine LeO.bind ?_ (fun _ => ?_))
      | exact ih0 _ _ _ _ _ _ _ _ _
      | exact ih1 _ _ _ _ _ _ _ _ _ _ _ _ _ _
      | exact fourinhandlaw11_awake.mono _
      | exact rate_Came.mono _ _ _ _ _ _
      | exact rate_May.mono _ _ _ _
      | exact rate_Sample.mono _ _ _ _ _ _
      | exact LeO.none _
      | refine LeO.ite ?_ ?_
      | refine LeO.bind ?_ (fun _ => ?_)
set_option maxHeartbeats 8000000 in
set_option maxRecDepth 100000 in
theorem fourinhandlaw11_RateWrong.calls (k : Nat) (a0_0 : Int) (a0_1 : Int) (A0_2 : Option Addr) (c0_2 : Nat) (l0_2 : List Int) (a1 : Int) (a2 : Int) (a3 : Int) (a4 : Int) (r : Bool) (hr_ : Aside0 (r = true)) (w : World) (hr0_2 : Kd.C (Kd.int .i64) w A0_2 l0_2.length l0_2) (hc0_2 : l0_2.length ≤ c0_2) (h : fourinhandlaw11_RateWrong.f k a0_0 a0_1 l0_2 a1 a2 a3 a4 = some r) :
    Calls Try.prog 6 #[.agg #[.int .i64 a0_0, .int .i64 a0_1, .slice A0_2 l0_2.length c0_2], .int .i64 a1, .int .i64 a2, .int .i64 a3, .int .i64 a4] w fun e w' => e = .returned (.bool r) ∧ Below w.heap.size w w' := by
  have hu24 := Try.underlying24
  have HR0_2 := Aside0.mk hr0_2
  have HC0_2 := Aside0.mk hc0_2
  clear hr0_2 hc0_2
  have HB := Aside0.mk (Below.refl w.heap.size w)
  have H : ((fourinhandlaw11_awake.f k).bind fun t172 => (if t172 = true then (fourinhandlaw11_RateWrong.j0 k a1 a2 a3 a4 t172 (decide ((l0_2.length : Int) > 40)) a0_0 a0_1 l0_2) else (fourinhandlaw11_RateWrong.j0 k a1 a2 a3 a4 t172 true a0_0 a0_1 l0_2))) = some r := h
  clear h
  replace H := Option.bind_eq_some_iff.mp H
  obtain ⟨t172, A60, H⟩ := H
  replace H : (if t172 = true then (fourinhandlaw11_RateWrong.j0 k a1 a2 a3 a4 t172 (decide ((l0_2.length : Int) > 40)) a0_0 a0_1 l0_2) else (fourinhandlaw11_RateWrong.j0 k a1 a2 a3 a4 t172 true a0_0 a0_1 l0_2)) = some r := H
  have A6 := Aside0.mk A60
  clear A60
  have HC7 := Aside0.mk H
  clear H
  go_enter Try.func6, Try.ntmps6
  go_upto_region 2 with (first | ((with_reducible refine gate_dst (N := 5) rfl ?_); (try (refine gate_guard (by rfl) ?_; dsimp only)); refine box_event ?hg (N := 5) ?hd (cs := #[.int .i64 a0_0, .int .i64 a0_1, .slice A0_2 l0_2.length c0_2]) (t := 24) ?hr ?_; (case hd => rfl); (case hg => rfl); (case hr => first | (go_simp; done) | (go_simp; rfl)); intro gb171 hg w8 hbox hb; have n0_ := Aside0.mk (below_step (by repeat (first | (with_reducible first | exact HB.out | apply below_alloc | apply pw_below_drewN | apply below_drew1) | exact HB.out)) hb); have n1_ := Aside0.mk (hbox); have n2_ := Aside0.mk ((by rw [hg]; exact (below_size (by repeat (first | (with_reducible first | exact HB.out | apply below_alloc | apply pw_below_drewN | apply below_drew1) | exact HB.out))) : w.heap.size ≤ gb171)); have n3_ := Aside0.mk ((by rw [hg]; exact (below_size (by repeat (first | (with_reducible first | exact HB.out | apply below_alloc | apply pw_below_drewN | apply below_drew1) | exact HB.out))) : w.heap.size ≤ gb171)); clear HB; have HB := n0_; have BK171 := n1_; have GW171 := n2_; have GE171 := n3_; clear n0_ n1_ n2_ n3_; clear hb hbox hg) | ((with_reducible refine gate_callee (f := 8) rfl ?_); refine goesL_ (some 18) rfl rfl Try.func8 (by kernel_rfl) rfl #[] rfl (by (try simp only [List.map_toArray, List.map_cons, List.map_nil]); first | done | rfl | (simp only [List.length_drop, List.length_take]; rfl)) ?_; (with_reducible refine (fourinhandlaw11_awake.calls k  t172 _ A6.out).mono ?_); rintro e w9 ⟨rfl, hb⟩; refine ⟨_, rfl, ?_⟩; have n0_ := Aside0.mk (blk_below (g := gb171) (o := .cells #[.int .i64 a0_0, .int .i64 a0_1, .slice A0_2 l0_2.length c0_2] 24 (0, 0)) (by (with_reducible repeat (first | refine blk_drewN ?_ _ | refine blk_drew ?_ | refine blk_alloc ?_ _)); exact BK171.out) hb); have n1_ := Aside0.mk (below_step (by repeat (first | (with_reducible first | exact HB.out | apply below_alloc | apply pw_below_drewN | apply below_drew1 | refine below_set ?_ GE171.out) | exact HB.out)) hb); clear BK171; clear HB; have BK171 := n0_; have HB := n1_; clear n0_ n1_; (try clear hb); (try clear hb2); (try clear hk); (try clear hi)))
  (try simp only [Act.put, List.setIfInBounds_toArray, List.set_cons_zero, List.set_cons_succ])
  go_cut [26] (fun v26 wc => ∃ (kq : Nat) (x26_6 : Bool), v26 = .bool x26_6 ∧ Aside0 (fourinhandlaw11_RateWrong.j0 kq a1 a2 a3 a4 t172 x26_6 a0_0 a0_1 l0_2 = some r) ∧ Aside0 (kq ≤ k) ∧ Aside0 (wc.heap[gb171]? = some (.cells #[.int .i64 a0_0, .int .i64 a0_1, (.slice A0_2 l0_2.length c0_2)] 24 (0, 0))) ∧ Aside0 (Below w.heap.size w wc))
  case first =>
    have H := HC7.out
    clear HC7
    by_cases c10 : t172 = true
    · subst c10
      have H1 : (fourinhandlaw11_RateWrong.j0 k a1 a2 a3 a4 true (decide ((l0_2.length : Int) > 40)) a0_0 a0_1 l0_2) = some r := by rw [if_pos rfl] at H; exact H
      clear H
      have H := H1
      clear H1
      have H' := Aside0.mk H
      clear H
      have hcz11_0 : w9.cell? ⟨gb171, 0, none⟩ = some (.int .i64 a0_0) := (blk_cell BK171.out 0).trans rfl
      have hcz11_1 : w9.cell? ⟨gb171, 1, none⟩ = some (.int .i64 a0_1) := (blk_cell BK171.out 1).trans rfl
      have hcz11_2 : w9.cell? ⟨gb171, 2, none⟩ = some (.slice A0_2 l0_2.length c0_2) := (blk_cell BK171.out 2).trans rfl
      have hfz11_0 := blk_frozen BK171.out 0
      have hfz11_1 := blk_frozen BK171.out 1
      have hfz11_2 := blk_frozen BK171.out 2
      go_wp2
      go_meet
      case rel => exact ⟨_, (decide ((l0_2.length : Int) > 40)), (by first | rfl | (simp; done) | (simp [*]; done)), H', ⟨by first | omega | exact Nat.le_refl _⟩, ⟨by (with_reducible repeat (first | refine blk_drewN ?_ _ | refine blk_drew ?_ | refine blk_alloc ?_ _)); exact BK171.out⟩, ⟨by repeat (first | (with_reducible first | exact HB.out | apply below_alloc | apply pw_below_drewN | apply below_drew1 | refine below_set ?_ GE171.out) | exact HB.out)⟩⟩
    · replace c10 := Bool.eq_false_iff.mpr c10
      subst c10
      have H1 : (fourinhandlaw11_RateWrong.j0 k a1 a2 a3 a4 false true a0_0 a0_1 l0_2) = some r := by rw [if_neg (show ¬ (false = true) by decide)] at H; exact H
      clear H
      have H := H1
      clear H1
      have H' := Aside0.mk H
      clear H
      go_wp2
      go_meet
      case rel => exact ⟨_, (true), (by first | rfl | (simp; done) | (simp [*]; done)), H', ⟨by first | omega | exact Nat.le_refl _⟩, ⟨by (with_reducible repeat (first | refine blk_drewN ?_ _ | refine blk_drew ?_ | refine blk_alloc ?_ _)); exact BK171.out⟩, ⟨by repeat (first | (with_reducible first | exact HB.out | apply below_alloc | apply pw_below_drewN | apply below_drew1 | refine below_set ?_ GE171.out) | exact HB.out)⟩⟩
  case rest =>
    clear HC7
    try clear c1
    try clear p2
    try clear c6
    try clear c8
    try clear c10
    try clear hcz11_0
    try clear hcz11_1
    try clear hcz11_2
    try clear hfz11_0
    try clear hfz11_1
    try clear hfz11_2
    obtain ⟨kq, x26_6, rfl, HA, HJ6, BK171, HB⟩ := hcut
    cases kq with
    | zero => exact absurd HA.out (by simp [fourinhandlaw11_RateWrong.j0])
    | succ kj6 =>
      have H := HA.out
      clear HA
      simp only [fourinhandlaw11_RateWrong.j0] at H
      by_cases c12 : x26_6 = true
      · subst c12
        have H1 : (some t172) = some r := by rw [if_pos rfl] at H; exact H
        clear H
        have H := H1
        clear H1
        obtain rfl := Option.some.inj H
        go_wp2
        go_ret
        exact ⟨by first | rfl | (simp [errW_none, errW_some] <;> rfl) | (simp [*, errW_none, errW_some] <;> rfl), by repeat (first | (with_reducible first | exact HB.out | apply below_alloc | apply pw_below_drewN | apply below_drew1 | refine below_set ?_ GE171.out) | exact HB.out)⟩
      · replace c12 := Bool.eq_false_iff.mpr c12
        subst c12
        have H1 : ((rate_Came.f kj6 a0_0 a0_1 l0_2 a1 a2).bind fun bt173 => ((rate_Sample.f kj6 a0_0 a0_1 l0_2 a3 a4).bind fun bt180 => ((rate_May.f kj6 a0_0 a0_1 l0_2).bind fun t188 => (if t188 = true then (if a3 ≥ 0 then (if a3 ≤ a0_0 then (if a4 ≥ 0 then (fourinhandlaw11_RateWrong.j1 kj6 a4 bt173.2.2.2 bt180.2.2.2.1 bt180.2.2.2.2 (decide (a4 ≤ a0_1)) a0_0 a0_1 l0_2 bt173.1 bt173.2.1 bt173.2.2.1 bt180.1 bt180.2.1 bt180.2.2.1) else (fourinhandlaw11_RateWrong.j1 kj6 a4 bt173.2.2.2 bt180.2.2.2.1 bt180.2.2.2.2 false a0_0 a0_1 l0_2 bt173.1 bt173.2.1 bt173.2.2.1 bt180.1 bt180.2.1 bt180.2.2.1)) else (fourinhandlaw11_RateWrong.j1 kj6 a4 bt173.2.2.2 bt180.2.2.2.1 bt180.2.2.2.2 false a0_0 a0_1 l0_2 bt173.1 bt173.2.1 bt173.2.2.1 bt180.1 bt180.2.1 bt180.2.2.1)) else (fourinhandlaw11_RateWrong.j1 kj6 a4 bt173.2.2.2 bt180.2.2.2.1 bt180.2.2.2.2 false a0_0 a0_1 l0_2 bt173.1 bt173.2.1 bt173.2.2.1 bt180.1 bt180.2.1 bt180.2.2.1)) else (fourinhandlaw11_RateWrong.j1 kj6 a4 bt173.2.2.2 bt180.2.2.2.1 bt180.2.2.2.2 false a0_0 a0_1 l0_2 bt173.1 bt173.2.1 bt173.2.2.1 bt180.1 bt180.2.1 bt180.2.2.1))))) = some r := by rw [if_neg (show ¬ (false = true) by decide)] at H; exact H
        clear H
        have H := H1
        clear H1
        replace H := Option.bind_eq_some_iff.mp H
        obtain ⟨⟨t173, t174, t175, t178⟩, A130, H⟩ := H
        replace H : ((rate_Sample.f kj6 a0_0 a0_1 l0_2 a3 a4).bind fun bt180 => ((rate_May.f kj6 a0_0 a0_1 l0_2).bind fun t188 => (if t188 = true then (if a3 ≥ 0 then (if a3 ≤ a0_0 then (if a4 ≥ 0 then (fourinhandlaw11_RateWrong.j1 kj6 a4 t178 bt180.2.2.2.1 bt180.2.2.2.2 (decide (a4 ≤ a0_1)) a0_0 a0_1 l0_2 t173 t174 t175 bt180.1 bt180.2.1 bt180.2.2.1) else (fourinhandlaw11_RateWrong.j1 kj6 a4 t178 bt180.2.2.2.1 bt180.2.2.2.2 false a0_0 a0_1 l0_2 t173 t174 t175 bt180.1 bt180.2.1 bt180.2.2.1)) else (fourinhandlaw11_RateWrong.j1 kj6 a4 t178 bt180.2.2.2.1 bt180.2.2.2.2 false a0_0 a0_1 l0_2 t173 t174 t175 bt180.1 bt180.2.1 bt180.2.2.1)) else (fourinhandlaw11_RateWrong.j1 kj6 a4 t178 bt180.2.2.2.1 bt180.2.2.2.2 false a0_0 a0_1 l0_2 t173 t174 t175 bt180.1 bt180.2.1 bt180.2.2.1)) else (fourinhandlaw11_RateWrong.j1 kj6 a4 t178 bt180.2.2.2.1 bt180.2.2.2.2 false a0_0 a0_1 l0_2 t173 t174 t175 bt180.1 bt180.2.1 bt180.2.2.1)))) = some r := H
        have A13 := Aside0.mk A130
        clear A130
        replace H := Option.bind_eq_some_iff.mp H
        obtain ⟨⟨t180, t181, t182, t185, t186⟩, A140, H⟩ := H
        replace H : ((rate_May.f kj6 a0_0 a0_1 l0_2).bind fun t188 => (if t188 = true then (if a3 ≥ 0 then (if a3 ≤ a0_0 then (if a4 ≥ 0 then (fourinhandlaw11_RateWrong.j1 kj6 a4 t178 t185 t186 (decide (a4 ≤ a0_1)) a0_0 a0_1 l0_2 t173 t174 t175 t180 t181 t182) else (fourinhandlaw11_RateWrong.j1 kj6 a4 t178 t185 t186 false a0_0 a0_1 l0_2 t173 t174 t175 t180 t181 t182)) else (fourinhandlaw11_RateWrong.j1 kj6 a4 t178 t185 t186 false a0_0 a0_1 l0_2 t173 t174 t175 t180 t181 t182)) else (fourinhandlaw11_RateWrong.j1 kj6 a4 t178 t185 t186 false a0_0 a0_1 l0_2 t173 t174 t175 t180 t181 t182)) else (fourinhandlaw11_RateWrong.j1 kj6 a4 t178 t185 t186 false a0_0 a0_1 l0_2 t173 t174 t175 t180 t181 t182))) = some r := H
        have A14 := Aside0.mk A140
        clear A140
        have HC15 := Aside0.mk H
        clear H
        have hcz16_0 : wc.cell? ⟨gb171, 0, none⟩ = some (.int .i64 a0_0) := (blk_cell BK171.out 0).trans rfl
        have hcz16_1 : wc.cell? ⟨gb171, 1, none⟩ = some (.int .i64 a0_1) := (blk_cell BK171.out 1).trans rfl
        have hcz16_2 : wc.cell? ⟨gb171, 2, none⟩ = some (.slice A0_2 l0_2.length c0_2) := (blk_cell BK171.out 2).trans rfl
        have hfz16_0 := blk_frozen BK171.out 0
        have hfz16_1 := blk_frozen BK171.out 1
        have hfz16_2 := blk_frozen BK171.out 2
        go_upto_region 6 with (first | ((with_reducible refine gate_callee (f := 10) rfl ?_); refine goesL_ (some 32) rfl rfl Try.func10 (by kernel_rfl) rfl #[.agg #[.int .i64 a0_0, .int .i64 a0_1, .slice A0_2 l0_2.length c0_2], .int .i64 a1, .int .i64 a2] rfl (by (try simp only [List.map_toArray, List.map_cons, List.map_nil]); first | done | rfl | (simp only [List.length_drop, List.length_take]; rfl)) ?_; (with_reducible refine (rate_Came.calls kj6 a0_0 a0_1 _ _ l0_2 a1 a2 t173 t174 t175 t178 _ ?side1 ?side2 A13.out).mono ?_); (case side1 => repeat (first | exact (Kd.C_below HR0_2.out HB.out) | (with_reducible refine Kd.C_alloc ?_ _) | (with_reducible refine Kd.C_drewN ?_ _) | (with_reducible refine Kd.C_drew ?_))); (case side2 => exact HC0_2.out); rintro e w17 ⟨v176, rfl, ho0, hb⟩; refine ⟨_, rfl, ?_⟩; have n0_ := Aside0.mk (Kd.R_lower ho0 (below_size (by repeat (first | (with_reducible first | exact HB.out | apply below_alloc | apply pw_below_drewN | apply below_drew1 | refine below_set ?_ GE171.out) | exact HB.out)))); have n1_ := Aside0.mk (blk_below (g := gb171) (o := .cells #[.int .i64 a0_0, .int .i64 a0_1, .slice A0_2 l0_2.length c0_2] 24 (0, 0)) (by (with_reducible repeat (first | refine blk_drewN ?_ _ | refine blk_drew ?_ | refine blk_alloc ?_ _)); exact BK171.out) hb); have n2_ := Aside0.mk (below_step (by repeat (first | (with_reducible first | exact HB.out | apply below_alloc | apply pw_below_drewN | apply below_drew1 | refine below_set ?_ GE171.out) | exact HB.out)) hb); clear BK171; clear HB; have HO177 := n0_; have BK171 := n1_; have HB := n2_; clear n0_ n1_ n2_; (try clear hb); (try clear hb2); (try clear hk); (try clear hi); (try clear ho0)) | ((with_reducible refine gate_dst (N := 12) rfl ?_); (try (refine gate_guard (by rfl) ?_; dsimp only)); refine box_event ?hg (N := 12) ?hd (cs := #[.int .i64 0, .int .i64 0, .slice none 0 0]) (t := 24) ?hr ?_; (case hd => rfl); (case hg => rfl); (case hr => first | (go_simp; done) | (go_simp; rfl)); intro gb179 hg w18 hbox hb; have n0_ := Aside0.mk (Kd.R_below (by (with_reducible repeat (first | apply Kd.R_alloc | apply Kd.R_drewN | apply Kd.R_drew)); exact HO177.out) hb); have n1_ := Aside0.mk (blk_below (g := gb171) (o := .cells #[.int .i64 a0_0, .int .i64 a0_1, .slice A0_2 l0_2.length c0_2] 24 (0, 0)) (by (with_reducible repeat (first | refine blk_drewN ?_ _ | refine blk_drew ?_ | refine blk_alloc ?_ _)); exact BK171.out) hb); have n2_ := Aside0.mk (below_step (by repeat (first | (with_reducible first | exact HB.out | apply below_alloc | apply pw_below_drewN | apply below_drew1 | refine below_set ?_ GE171.out) | exact HB.out)) hb); have n3_ := Aside0.mk (hbox); have n4_ := Aside0.mk ((by rw [hg]; exact (below_size (by repeat (first | (with_reducible first | exact HB.out | apply below_alloc | apply pw_below_drewN | apply below_drew1 | refine below_set ?_ GE171.out) | exact HB.out))) : w.heap.size ≤ gb179)); have n5_ := Aside0.mk ((by rw [hg]; exact (below_size (by repeat (first | (with_reducible first | exact HB.out | apply below_alloc | apply pw_below_drewN | apply below_drew1 | refine below_set ?_ GE171.out) | exact HB.out))) : w.heap.size ≤ gb179)); have n6_ := Aside0.mk ((by rw [hg]; exact Nat.ne_of_lt (blk_lt (g := gb171) (o := .cells #[.int .i64 a0_0, .int .i64 a0_1, .slice A0_2 l0_2.length c0_2] 24 (0, 0)) (by (with_reducible repeat (first | refine blk_drewN ?_ _ | refine blk_drew ?_ | refine blk_alloc ?_ _)); exact BK171.out)) : gb171 ≠ gb179)); have n7_ := Aside0.mk ((by rw [hg]; exact Nat.ne_of_gt (blk_lt (g := gb171) (o := .cells #[.int .i64 a0_0, .int .i64 a0_1, .slice A0_2 l0_2.length c0_2] 24 (0, 0)) (by (with_reducible repeat (first | refine blk_drewN ?_ _ | refine blk_drew ?_ | refine blk_alloc ?_ _)); exact BK171.out)) : gb179 ≠ gb171)); clear HO177; clear BK171; clear HB; have HO177 := n0_; have BK171 := n1_; have HB := n2_; have BK179 := n3_; have GW179 := n4_; have GE179 := n5_; have NB171_179 := n6_; have NB179_171 := n7_; clear n0_ n1_ n2_ n3_ n4_ n5_ n6_ n7_; clear hb hbox hg; have hnb19 := NB179_171.out; have hnc19 := NB171_179.out; have hcz20_0 : w18.cell? ⟨gb179, 0, none⟩ = some (.int .i64 0) := (blk_cell BK179.out 0).trans rfl; have hcz20_1 : w18.cell? ⟨gb179, 1, none⟩ = some (.int .i64 0) := (blk_cell BK179.out 1).trans rfl; have hcz20_2 : w18.cell? ⟨gb179, 2, none⟩ = some (.slice none 0 0) := (blk_cell BK179.out 2).trans rfl; have hfz20_0 := blk_frozen BK179.out 0; have hfz20_1 := blk_frozen BK179.out 1; have hfz20_2 := blk_frozen BK179.out 2; obtain ⟨Ao21, co21, eo21⟩ := Kd.R_slice HO177.out; subst eo21; have hcz22_0 : w18.cell? ⟨gb171, 0, none⟩ = some (.int .i64 a0_0) := (blk_cell BK171.out 0).trans rfl; have hcz22_1 : w18.cell? ⟨gb171, 1, none⟩ = some (.int .i64 a0_1) := (blk_cell BK171.out 1).trans rfl; have hcz22_2 : w18.cell? ⟨gb171, 2, none⟩ = some (.slice A0_2 l0_2.length c0_2) := (blk_cell BK171.out 2).trans rfl; have hfz22_0 := blk_frozen BK171.out 0; have hfz22_1 := blk_frozen BK171.out 1; have hfz22_2 := blk_frozen BK171.out 2) | ((with_reducible refine gate_callee (f := 13) rfl ?_); refine goesL_ (some 39) rfl rfl Try.func13 (by kernel_rfl) rfl #[.agg #[.int .i64 a0_0, .int .i64 a0_1, .slice A0_2 l0_2.length c0_2], .int .i64 a3, .int .i64 a4] rfl (by (try simp only [List.map_toArray, List.map_cons, List.map_nil]); first | done | rfl | (simp only [List.length_drop, List.length_take]; rfl)) ?_; (with_reducible refine (rate_Sample.calls kj6 a0_0 a0_1 _ _ l0_2 a3 a4 t180 t181 t182 t185 t186 _ ?side1 ?side2 A14.out).mono ?_); (case side1 => exact Kd.C_below HR0_2.out (by repeat (first | (with_reducible first | exact HB.out | apply below_alloc | apply pw_below_drewN | apply below_drew1 | refine below_set ?_ GE171.out | refine below_set ?_ GE179.out) | exact HB.out))); (case side2 => exact HC0_2.out); rintro e w23 ⟨v183, rfl, ho0, hb⟩; refine ⟨_, rfl, ?_⟩; have n0_ := Aside0.mk (Kd.R_elder' (by (with_reducible repeat (first | apply Kd.R_alloc | apply Kd.R_drewN | apply Kd.R_drew)); exact (Kd.R_mono (Kd.R_far (p := ⟨gb179, 2, none⟩) (Kd.R_far (p := ⟨gb179, 1, none⟩) (Kd.R_far (p := ⟨gb179, 0, none⟩) (Kd.R_types HO177.out BK179.out (by decide)) (fun _ hk => hk.2) (.int .i64 t173)) (fun _ hk => hk.2) (.int .i64 t174)) (fun _ hk => hk.2) (.slice Ao21 t175.length co21)) (fun _ h_ => h_.1))) (Kd.Q_base ho0) hb); have n1_ := Aside0.mk (Kd.Q_lower (Kd.Q_new' ho0 (Kd.R_lt (by (with_reducible repeat (first | apply Kd.R_alloc | apply Kd.R_drewN | apply Kd.R_drew)); exact (Kd.R_mono (Kd.R_far (p := ⟨gb179, 2, none⟩) (Kd.R_far (p := ⟨gb179, 1, none⟩) (Kd.R_far (p := ⟨gb179, 0, none⟩) (Kd.R_types HO177.out BK179.out (by decide)) (fun _ hk => hk.2) (.int .i64 t173)) (fun _ hk => hk.2) (.int .i64 t174)) (fun _ hk => hk.2) (.slice Ao21 t175.length co21)) (fun _ h_ => h_.1))))) (below_size (by repeat (first | (with_reducible first | exact HB.out | apply below_alloc | apply pw_below_drewN | apply below_drew1 | refine below_set ?_ GE171.out | refine below_set ?_ GE179.out) | exact HB.out)))); have n2_ := Aside0.mk (blk_below (g := gb171) (o := .cells #[.int .i64 a0_0, .int .i64 a0_1, .slice A0_2 l0_2.length c0_2] 24 (0, 0)) (by (with_reducible repeat (first | refine blk_drewN ?_ _ | refine blk_drew ?_ | refine blk_alloc ?_ _)); refine blk_far ?_ NB171_179.out _; (with_reducible repeat (first | refine blk_drewN ?_ _ | refine blk_drew ?_ | refine blk_alloc ?_ _)); refine blk_far ?_ NB171_179.out _; (with_reducible repeat (first | refine blk_drewN ?_ _ | refine blk_drew ?_ | refine blk_alloc ?_ _)); refine blk_far ?_ NB171_179.out _; (with_reducible repeat (first | refine blk_drewN ?_ _ | refine blk_drew ?_ | refine blk_alloc ?_ _)); exact BK171.out) hb); have n3_ := Aside0.mk (blk_below (g := gb179) (o := .cells #[.int .i64 t173, .int .i64 t174, .slice Ao21 t175.length co21] 24 (0, 0)) (by (with_reducible repeat (first | refine blk_drewN ?_ _ | refine blk_drew ?_ | refine blk_alloc ?_ _)); refine blk_put (cs := #[.int .i64 t173, .int .i64 t174, .slice none 0 0]) ?_ 2 _ rfl; (with_reducible repeat (first | refine blk_drewN ?_ _ | refine blk_drew ?_ | refine blk_alloc ?_ _)); refine blk_put (cs := #[.int .i64 t173, .int .i64 0, .slice none 0 0]) ?_ 1 _ rfl; (with_reducible repeat (first | refine blk_drewN ?_ _ | refine blk_drew ?_ | refine blk_alloc ?_ _)); refine blk_put (cs := #[.int .i64 0, .int .i64 0, .slice none 0 0]) ?_ 0 _ rfl; (with_reducible repeat (first | refine blk_drewN ?_ _ | refine blk_drew ?_ | refine blk_alloc ?_ _)); exact BK179.out) hb); have n4_ := Aside0.mk (below_step (by repeat (first | (with_reducible first | exact HB.out | apply below_alloc | apply pw_below_drewN | apply below_drew1 | refine below_set ?_ GE171.out | refine below_set ?_ GE179.out) | exact HB.out)) hb); clear HO177; clear BK171; clear BK179; clear HB; have HO177 := n0_; have HO184 := n1_; have BK171 := n2_; have BK179 := n3_; have HB := n4_; clear n0_ n1_ n2_ n3_ n4_; (try clear hb); (try clear hb2); (try clear hk); (try clear hi); (try clear ho0)) | ((with_reducible refine gate_dst (N := 14) rfl ?_); (try (refine gate_guard (by rfl) ?_; dsimp only)); refine box_event ?hg (N := 14) ?hd (cs := #[.int .i64 0, .int .i64 0, .slice none 0 0]) (t := 24) ?hr ?_; (case hd => rfl); (case hg => rfl); (case hr => first | (go_simp; done) | (go_simp; rfl)); intro gb187 hg w24 hbox hb; have n0_ := Aside0.mk (Kd.R_below (by (with_reducible repeat (first | apply Kd.R_alloc | apply Kd.R_drewN | apply Kd.R_drew)); exact HO177.out) hb); have n1_ := Aside0.mk (Kd.Q_below (by (with_reducible repeat (first | apply Kd.Q_alloc | apply Kd.Q_drewN | apply Kd.Q_drew)); exact HO184.out) hb); have n2_ := Aside0.mk (blk_below (g := gb171) (o := .cells #[.int .i64 a0_0, .int .i64 a0_1, .slice A0_2 l0_2.length c0_2] 24 (0, 0)) (by (with_reducible repeat (first | refine blk_drewN ?_ _ | refine blk_drew ?_ | refine blk_alloc ?_ _)); exact BK171.out) hb); have n3_ := Aside0.mk (blk_below (g := gb179) (o := .cells #[.int .i64 t173, .int .i64 t174, .slice Ao21 t175.length co21] 24 (0, 0)) (by (with_reducible repeat (first | refine blk_drewN ?_ _ | refine blk_drew ?_ | refine blk_alloc ?_ _)); exact BK179.out) hb); have n4_ := Aside0.mk (below_step (by repeat (first | (with_reducible first | exact HB.out | apply below_alloc | apply pw_below_drewN | apply below_drew1 | refine below_set ?_ GE171.out | refine below_set ?_ GE179.out) | exact HB.out)) hb); have n5_ := Aside0.mk (hbox); have n6_ := Aside0.mk ((by rw [hg]; exact (below_size (by repeat (first | (with_reducible first | exact HB.out | apply below_alloc | apply pw_below_drewN | apply below_drew1 | refine below_set ?_ GE171.out | refine below_set ?_ GE179.out) | exact HB.out))) : w.heap.size ≤ gb187)); have n7_ := Aside0.mk ((by rw [hg]; exact (below_size (by repeat (first | (with_reducible first | exact HB.out | apply below_alloc | apply pw_below_drewN | apply below_drew1 | refine below_set ?_ GE171.out | refine below_set ?_ GE179.out) | exact HB.out))) : w.heap.size ≤ gb187)); have n8_ := Aside0.mk ((by rw [hg]; exact Nat.ne_of_lt (blk_lt (g := gb171) (o := .cells #[.int .i64 a0_0, .int .i64 a0_1, .slice A0_2 l0_2.length c0_2] 24 (0, 0)) (by (with_reducible repeat (first | refine blk_drewN ?_ _ | refine blk_drew ?_ | refine blk_alloc ?_ _)); exact BK171.out)) : gb171 ≠ gb187)); have n9_ := Aside0.mk ((by rw [hg]; exact Nat.ne_of_gt (blk_lt (g := gb171) (o := .cells #[.int .i64 a0_0, .int .i64 a0_1, .slice A0_2 l0_2.length c0_2] 24 (0, 0)) (by (with_reducible repeat (first | refine blk_drewN ?_ _ | refine blk_drew ?_ | refine blk_alloc ?_ _)); exact BK171.out)) : gb187 ≠ gb171)); have n10_ := Aside0.mk ((by rw [hg]; exact Nat.ne_of_lt (blk_lt (g := gb179) (o := .cells #[.int .i64 t173, .int .i64 t174, .slice Ao21 t175.length co21] 24 (0, 0)) (by (with_reducible repeat (first | refine blk_drewN ?_ _ | refine blk_drew ?_ | refine blk_alloc ?_ _)); exact BK179.out)) : gb179 ≠ gb187)); have n11_ := Aside0.mk ((by rw [hg]; exact Nat.ne_of_gt (blk_lt (g := gb179) (o := .cells #[.int .i64 t173, .int .i64 t174, .slice Ao21 t175.length co21] 24 (0, 0)) (by (with_reducible repeat (first | refine blk_drewN ?_ _ | refine blk_drew ?_ | refine blk_alloc ?_ _)); exact BK179.out)) : gb187 ≠ gb179)); clear HO177; clear HO184; clear BK171; clear BK179; clear HB; have HO177 := n0_; have HO184 := n1_; have BK171 := n2_; have BK179 := n3_; have HB := n4_; have BK187 := n5_; have GW187 := n6_; have GE187 := n7_; have NB171_187 := n8_; have NB187_171 := n9_; have NB179_187 := n10_; have NB187_179 := n11_; clear n0_ n1_ n2_ n3_ n4_ n5_ n6_ n7_ n8_ n9_ n10_ n11_; clear hb hbox hg; have hnb25 := NB187_171.out; have hnc25 := NB171_187.out; have hnb26 := NB187_179.out; have hnc26 := NB179_187.out; have hcz27_0 : w24.cell? ⟨gb187, 0, none⟩ = some (.int .i64 0) := (blk_cell BK187.out 0).trans rfl; have hcz27_1 : w24.cell? ⟨gb187, 1, none⟩ = some (.int .i64 0) := (blk_cell BK187.out 1).trans rfl; have hcz27_2 : w24.cell? ⟨gb187, 2, none⟩ = some (.slice none 0 0) := (blk_cell BK187.out 2).trans rfl; have hfz27_0 := blk_frozen BK187.out 0; have hfz27_1 := blk_frozen BK187.out 1; have hfz27_2 := blk_frozen BK187.out 2; obtain ⟨Ao28, co28, eo28, _⟩ := Kd.Q_slice HO184.out; subst eo28))
        (try simp only [Act.put, List.setIfInBounds_toArray, List.set_cons_zero, List.set_cons_succ])
        go_cut [17] (fun v17 wc => ∃ (kq : Nat) (x17_14 : Bool), v17 = .bool x17_14 ∧ Aside0 (fourinhandlaw11_RateWrong.j1 kq a4 t178 t185 t186 x17_14 a0_0 a0_1 l0_2 t173 t174 t175 t180 t181 t182 = some r) ∧ Aside0 (kq ≤ kj6) ∧ Aside0 (Kd.Q (Kd.int .i64) 3 wc w.heap.size (fun k_ => some k_ ≠ ((.slice Ao28 t182.length co28) : Value).ownBlock) (.slice Ao21 t175.length co21) t175) ∧ Aside0 (Kd.Q (Kd.int .i64) 3 wc w.heap.size (fun k_ => some k_ ≠ ((.slice Ao21 t175.length co21) : Value).ownBlock) (.slice Ao28 t182.length co28) t182) ∧ Aside0 (wc.heap[gb171]? = some (.cells #[.int .i64 a0_0, .int .i64 a0_1, (.slice A0_2 l0_2.length c0_2)] 24 (0, 0))) ∧ Aside0 (wc.heap[gb179]? = some (.cells #[.int .i64 t173, .int .i64 t174, (.slice Ao21 t175.length co21)] 24 (0, 0))) ∧ Aside0 (wc.heap[gb187]? = some (.cells #[.int .i64 t180, .int .i64 t181, (.slice Ao28 t182.length co28)] 24 (0, 0))) ∧ Aside0 (Below w.heap.size w wc))
        case first =>
          have H := HC15.out
          clear HC15
          replace H := Option.bind_eq_some_iff.mp H
          obtain ⟨t188, A290, H⟩ := H
          replace H : (if t188 = true then (if a3 ≥ 0 then (if a3 ≤ a0_0 then (if a4 ≥ 0 then (fourinhandlaw11_RateWrong.j1 kj6 a4 t178 t185 t186 (decide (a4 ≤ a0_1)) a0_0 a0_1 l0_2 t173 t174 t175 t180 t181 t182) else (fourinhandlaw11_RateWrong.j1 kj6 a4 t178 t185 t186 false a0_0 a0_1 l0_2 t173 t174 t175 t180 t181 t182)) else (fourinhandlaw11_RateWrong.j1 kj6 a4 t178 t185 t186 false a0_0 a0_1 l0_2 t173 t174 t175 t180 t181 t182)) else (fourinhandlaw11_RateWrong.j1 kj6 a4 t178 t185 t186 false a0_0 a0_1 l0_2 t173 t174 t175 t180 t181 t182)) else (fourinhandlaw11_RateWrong.j1 kj6 a4 t178 t185 t186 false a0_0 a0_1 l0_2 t173 t174 t175 t180 t181 t182)) = some r := H
          have A29 := Aside0.mk A290
          clear A290
          by_cases c30 : t188 = true
          · subst c30
            have H1 : (if a3 ≥ 0 then (if a3 ≤ a0_0 then (if a4 ≥ 0 then (fourinhandlaw11_RateWrong.j1 kj6 a4 t178 t185 t186 (decide (a4 ≤ a0_1)) a0_0 a0_1 l0_2 t173 t174 t175 t180 t181 t182) else (fourinhandlaw11_RateWrong.j1 kj6 a4 t178 t185 t186 false a0_0 a0_1 l0_2 t173 t174 t175 t180 t181 t182)) else (fourinhandlaw11_RateWrong.j1 kj6 a4 t178 t185 t186 false a0_0 a0_1 l0_2 t173 t174 t175 t180 t181 t182)) else (fourinhandlaw11_RateWrong.j1 kj6 a4 t178 t185 t186 false a0_0 a0_1 l0_2 t173 t174 t175 t180 t181 t182)) = some r := by rw [if_pos rfl] at H; exact H
            clear H
            have H := H1
            clear H1
            by_cases c31 : a3 ≥ 0
            · rw [if_pos c31] at H
              have c31b0 : decide (0 ≤ a3) = true := decide_eq_true c31
              clear c31
              (first | rw [c31b0] | (simp only [i64_w, i32_w]; rw [c31b0]) | skip)
              by_cases c32 : a3 ≤ a0_0
              · rw [if_pos c32] at H
                have c32b0 : decide (a3 ≤ a0_0) = true := decide_eq_true c32
                clear c32
                by_cases c33 : a4 ≥ 0
                · rw [if_pos c33] at H
                  have c33b0 : decide (0 ≤ a4) = true := decide_eq_true c33
                  clear c33
                  have H' := Aside0.mk H
                  clear H
                  have hnb34 := NB171_179.out
                  have hnc34 := NB179_171.out
                  have hnb35 := NB171_187.out
                  have hnc35 := NB187_171.out
                  have hcz36_0 : w24.cell? ⟨gb171, 0, none⟩ = some (.int .i64 a0_0) := (blk_cell BK171.out 0).trans rfl
                  have hcz36_1 : w24.cell? ⟨gb171, 1, none⟩ = some (.int .i64 a0_1) := (blk_cell BK171.out 1).trans rfl
                  have hcz36_2 : w24.cell? ⟨gb171, 2, none⟩ = some (.slice A0_2 l0_2.length c0_2) := (blk_cell BK171.out 2).trans rfl
                  have hfz36_0 := blk_frozen BK171.out 0
                  have hfz36_1 := blk_frozen BK171.out 1
                  have hfz36_2 := blk_frozen BK171.out 2
                  go_wp2_with (first | ((with_reducible refine gate_callee (f := 17) rfl ?_); refine goesL_ (some 44) rfl rfl Try.func17 (by kernel_rfl) rfl #[.agg #[.int .i64 a0_0, .int .i64 a0_1, .slice A0_2 l0_2.length c0_2]] rfl (by (try simp only [List.map_toArray, List.map_cons, List.map_nil]); first | done | rfl | (simp only [List.length_drop, List.length_take]; rfl)) ?_; (with_reducible refine (rate_May.calls kj6 a0_0 a0_1 _ _ l0_2 true _ ?side1 ?side2 A29.out).mono ?_); (case side1 => exact Kd.C_below HR0_2.out (by repeat (first | (with_reducible first | exact HB.out | apply below_alloc | apply pw_below_drewN | apply below_drew1 | refine below_set ?_ GE171.out | refine below_set ?_ GE179.out | refine below_set ?_ GE187.out) | exact HB.out))); (case side2 => exact HC0_2.out); rintro e w37 ⟨rfl, hb⟩; refine ⟨_, rfl, ?_⟩; have n0_ := Aside0.mk (Kd.R_below (by (with_reducible repeat (first | apply Kd.R_alloc | apply Kd.R_drewN | apply Kd.R_drew)); exact (Kd.R_mono (Kd.R_far (p := ⟨gb187, 2, none⟩) (Kd.R_far (p := ⟨gb187, 1, none⟩) (Kd.R_far (p := ⟨gb187, 0, none⟩) (Kd.R_types HO177.out BK187.out (by decide)) (fun _ hk => hk.2) (.int .i64 t180)) (fun _ hk => hk.2) (.int .i64 t181)) (fun _ hk => hk.2) (.slice Ao28 t182.length co28)) (fun _ h_ => h_.1))) hb); have n1_ := Aside0.mk (Kd.Q_below (by (with_reducible repeat (first | apply Kd.Q_alloc | apply Kd.Q_drewN | apply Kd.Q_drew)); exact (Kd.Q_mono (Kd.Q_far (p := ⟨gb187, 2, none⟩) (Kd.Q_far (p := ⟨gb187, 1, none⟩) (Kd.Q_far (p := ⟨gb187, 0, none⟩) (Kd.Q_types HO184.out BK187.out (by decide)) (fun _ hk => hk.2) (.int .i64 t180)) (fun _ hk => hk.2) (.int .i64 t181)) (fun _ hk => hk.2) (.slice Ao28 t182.length co28)) (fun _ h_ => h_.1))) hb); have n2_ := Aside0.mk (blk_below (g := gb171) (o := .cells #[.int .i64 a0_0, .int .i64 a0_1, .slice A0_2 l0_2.length c0_2] 24 (0, 0)) (by (with_reducible repeat (first | refine blk_drewN ?_ _ | refine blk_drew ?_ | refine blk_alloc ?_ _)); refine blk_far ?_ NB171_187.out _; (with_reducible repeat (first | refine blk_drewN ?_ _ | refine blk_drew ?_ | refine blk_alloc ?_ _)); refine blk_far ?_ NB171_187.out _; (with_reducible repeat (first | refine blk_drewN ?_ _ | refine blk_drew ?_ | refine blk_alloc ?_ _)); refine blk_far ?_ NB171_187.out _; (with_reducible repeat (first | refine blk_drewN ?_ _ | refine blk_drew ?_ | refine blk_alloc ?_ _)); exact BK171.out) hb); have n3_ := Aside0.mk (blk_below (g := gb179) (o := .cells #[.int .i64 t173, .int .i64 t174, .slice Ao21 t175.length co21] 24 (0, 0)) (by (with_reducible repeat (first | refine blk_drewN ?_ _ | refine blk_drew ?_ | refine blk_alloc ?_ _)); refine blk_far ?_ NB179_187.out _; (with_reducible repeat (first | refine blk_drewN ?_ _ | refine blk_drew ?_ | refine blk_alloc ?_ _)); refine blk_far ?_ NB179_187.out _; (with_reducible repeat (first | refine blk_drewN ?_ _ | refine blk_drew ?_ | refine blk_alloc ?_ _)); refine blk_far ?_ NB179_187.out _; (with_reducible repeat (first | refine blk_drewN ?_ _ | refine blk_drew ?_ | refine blk_alloc ?_ _)); exact BK179.out) hb); have n4_ := Aside0.mk (blk_below (g := gb187) (o := .cells #[.int .i64 t180, .int .i64 t181, .slice Ao28 t182.length co28] 24 (0, 0)) (by (with_reducible repeat (first | refine blk_drewN ?_ _ | refine blk_drew ?_ | refine blk_alloc ?_ _)); refine blk_put (cs := #[.int .i64 t180, .int .i64 t181, .slice none 0 0]) ?_ 2 _ rfl; (with_reducible repeat (first | refine blk_drewN ?_ _ | refine blk_drew ?_ | refine blk_alloc ?_ _)); refine blk_put (cs := #[.int .i64 t180, .int .i64 0, .slice none 0 0]) ?_ 1 _ rfl; (with_reducible repeat (first | refine blk_drewN ?_ _ | refine blk_drew ?_ | refine blk_alloc ?_ _)); refine blk_put (cs := #[.int .i64 0, .int .i64 0, .slice none 0 0]) ?_ 0 _ rfl; (with_reducible repeat (first | refine blk_drewN ?_ _ | refine blk_drew ?_ | refine blk_alloc ?_ _)); exact BK187.out) hb); have n5_ := Aside0.mk (below_step (by repeat (first | (with_reducible first | exact HB.out | apply below_alloc | apply pw_below_drewN | apply below_drew1 | refine below_set ?_ GE171.out | refine below_set ?_ GE179.out | refine below_set ?_ GE187.out) | exact HB.out)) hb); clear HO177; clear HO184; clear BK171; clear BK179; clear BK187; clear HB; have HO177 := n0_; have HO184 := n1_; have BK171 := n2_; have BK179 := n3_; have BK187 := n4_; have HB := n5_; clear n0_ n1_ n2_ n3_ n4_ n5_; (try clear hb); (try clear hb2); (try clear hk); (try clear hi); have hcz38_0 : w37.cell? ⟨gb171, 0, none⟩ = some (.int .i64 a0_0) := (blk_cell BK171.out 0).trans rfl; have hcz38_1 : w37.cell? ⟨gb171, 1, none⟩ = some (.int .i64 a0_1) := (blk_cell BK171.out 1).trans rfl; have hcz38_2 : w37.cell? ⟨gb171, 2, none⟩ = some (.slice A0_2 l0_2.length c0_2) := (blk_cell BK171.out 2).trans rfl; have hfz38_0 := blk_frozen BK171.out 0; have hfz38_1 := blk_frozen BK171.out 1; have hfz38_2 := blk_frozen BK171.out 2))
                  go_meet
                  case rel => exact ⟨_, (decide (a4 ≤ a0_1)), (by first | rfl | (simp; done) | (simp [*]; done)), H', ⟨by have := HJ6.out; first | omega | exact Nat.le_refl _⟩, ⟨Kd.Q_of_R (by (with_reducible repeat (first | apply Kd.R_alloc | apply Kd.R_drewN | apply Kd.R_drew)); exact Kd.R_mono HO177.out (fun _ hk => hk.2))⟩, ⟨by (with_reducible repeat (first | apply Kd.Q_alloc | apply Kd.Q_drewN | apply Kd.Q_drew)); exact Kd.Q_mono HO184.out (fun _ hk => hk.2)⟩, ⟨by (with_reducible repeat (first | refine blk_drewN ?_ _ | refine blk_drew ?_ | refine blk_alloc ?_ _)); exact BK171.out⟩, ⟨by (with_reducible repeat (first | refine blk_drewN ?_ _ | refine blk_drew ?_ | refine blk_alloc ?_ _)); exact BK179.out⟩, ⟨by (with_reducible repeat (first | refine blk_drewN ?_ _ | refine blk_drew ?_ | refine blk_alloc ?_ _)); exact BK187.out⟩, ⟨by repeat (first | (with_reducible first | exact HB.out | apply below_alloc | apply pw_below_drewN | apply below_drew1 | refine below_set ?_ GE171.out | refine below_set ?_ GE179.out | refine below_set ?_ GE187.out) | exact HB.out)⟩⟩
                · rw [if_neg c33] at H
                  have c33b0 : decide (0 ≤ a4) = false := decide_eq_false c33
                  clear c33
                  have H' := Aside0.mk H
                  clear H
                  have hnb39 := NB171_179.out
                  have hnc39 := NB179_171.out
                  have hnb40 := NB171_187.out
                  have hnc40 := NB187_171.out
                  have hcz41_0 : w24.cell? ⟨gb171, 0, none⟩ = some (.int .i64 a0_0) := (blk_cell BK171.out 0).trans rfl
                  have hcz41_1 : w24.cell? ⟨gb171, 1, none⟩ = some (.int .i64 a0_1) := (blk_cell BK171.out 1).trans rfl
                  have hcz41_2 : w24.cell? ⟨gb171, 2, none⟩ = some (.slice A0_2 l0_2.length c0_2) := (blk_cell BK171.out 2).trans rfl
                  have hfz41_0 := blk_frozen BK171.out 0
                  have hfz41_1 := blk_frozen BK171.out 1
                  have hfz41_2 := blk_frozen BK171.out 2
                  go_wp2_with (first | ((with_reducible refine gate_callee (f := 17) rfl ?_); refine goesL_ (some 44) rfl rfl Try.func17 (by kernel_rfl) rfl #[.agg #[.int .i64 a0_0, .int .i64 a0_1, .slice A0_2 l0_2.length c0_2]] rfl (by (try simp only [List.map_toArray, List.map_cons, List.map_nil]); first | done | rfl | (simp only [List.length_drop, List.length_take]; rfl)) ?_; (with_reducible refine (rate_May.calls kj6 a0_0 a0_1 _ _ l0_2 true _ ?side1 ?side2 A29.out).mono ?_); (case side1 => exact Kd.C_below HR0_2.out (by repeat (first | (with_reducible first | exact HB.out | apply below_alloc | apply pw_below_drewN | apply below_drew1 | refine below_set ?_ GE171.out | refine below_set ?_ GE179.out | refine below_set ?_ GE187.out) | exact HB.out))); (case side2 => exact HC0_2.out); rintro e w42 ⟨rfl, hb⟩; refine ⟨_, rfl, ?_⟩; have n0_ := Aside0.mk (Kd.R_below (by (with_reducible repeat (first | apply Kd.R_alloc | apply Kd.R_drewN | apply Kd.R_drew)); exact (Kd.R_mono (Kd.R_far (p := ⟨gb187, 2, none⟩) (Kd.R_far (p := ⟨gb187, 1, none⟩) (Kd.R_far (p := ⟨gb187, 0, none⟩) (Kd.R_types HO177.out BK187.out (by decide)) (fun _ hk => hk.2) (.int .i64 t180)) (fun _ hk => hk.2) (.int .i64 t181)) (fun _ hk => hk.2) (.slice Ao28 t182.length co28)) (fun _ h_ => h_.1))) hb); have n1_ := Aside0.mk (Kd.Q_below (by (with_reducible repeat (first | apply Kd.Q_alloc | apply Kd.Q_drewN | apply Kd.Q_drew)); exact (Kd.Q_mono (Kd.Q_far (p := ⟨gb187, 2, none⟩) (Kd.Q_far (p := ⟨gb187, 1, none⟩) (Kd.Q_far (p := ⟨gb187, 0, none⟩) (Kd.Q_types HO184.out BK187.out (by decide)) (fun _ hk => hk.2) (.int .i64 t180)) (fun _ hk => hk.2) (.int .i64 t181)) (fun _ hk => hk.2) (.slice Ao28 t182.length co28)) (fun _ h_ => h_.1))) hb); have n2_ := Aside0.mk (blk_below (g := gb171) (o := .cells #[.int .i64 a0_0, .int .i64 a0_1, .slice A0_2 l0_2.length c0_2] 24 (0, 0)) (by (with_reducible repeat (first | refine blk_drewN ?_ _ | refine blk_drew ?_ | refine blk_alloc ?_ _)); refine blk_far ?_ NB171_187.out _; (with_reducible repeat (first | refine blk_drewN ?_ _ | refine blk_drew ?_ | refine blk_alloc ?_ _)); refine blk_far ?_ NB171_187.out _; (with_reducible repeat (first | refine blk_drewN ?_ _ | refine blk_drew ?_ | refine blk_alloc ?_ _)); refine blk_far ?_ NB171_187.out _; (with_reducible repeat (first | refine blk_drewN ?_ _ | refine blk_drew ?_ | refine blk_alloc ?_ _)); exact BK171.out) hb); have n3_ := Aside0.mk (blk_below (g := gb179) (o := .cells #[.int .i64 t173, .int .i64 t174, .slice Ao21 t175.length co21] 24 (0, 0)) (by (with_reducible repeat (first | refine blk_drewN ?_ _ | refine blk_drew ?_ | refine blk_alloc ?_ _)); refine blk_far ?_ NB179_187.out _; (with_reducible repeat (first | refine blk_drewN ?_ _ | refine blk_drew ?_ | refine blk_alloc ?_ _)); refine blk_far ?_ NB179_187.out _; (with_reducible repeat (first | refine blk_drewN ?_ _ | refine blk_drew ?_ | refine blk_alloc ?_ _)); refine blk_far ?_ NB179_187.out _; (with_reducible repeat (first | refine blk_drewN ?_ _ | refine blk_drew ?_ | refine blk_alloc ?_ _)); exact BK179.out) hb); have n4_ := Aside0.mk (blk_below (g := gb187) (o := .cells #[.int .i64 t180, .int .i64 t181, .slice Ao28 t182.length co28] 24 (0, 0)) (by (with_reducible repeat (first | refine blk_drewN ?_ _ | refine blk_drew ?_ | refine blk_alloc ?_ _)); refine blk_put (cs := #[.int .i64 t180, .int .i64 t181, .slice none 0 0]) ?_ 2 _ rfl; (with_reducible repeat (first | refine blk_drewN ?_ _ | refine blk_drew ?_ | refine blk_alloc ?_ _)); refine blk_put (cs := #[.int .i64 t180, .int .i64 0, .slice none 0 0]) ?_ 1 _ rfl; (with_reducible repeat (first | refine blk_drewN ?_ _ | refine blk_drew ?_ | refine blk_alloc ?_ _)); refine blk_put (cs := #[.int .i64 0, .int .i64 0, .slice none 0 0]) ?_ 0 _ rfl; (with_reducible repeat (first | refine blk_drewN ?_ _ | refine blk_drew ?_ | refine blk_alloc ?_ _)); exact BK187.out) hb); have n5_ := Aside0.mk (below_step (by repeat (first | (with_reducible first | exact HB.out | apply below_alloc | apply pw_below_drewN | apply below_drew1 | refine below_set ?_ GE171.out | refine below_set ?_ GE179.out | refine below_set ?_ GE187.out) | exact HB.out)) hb); clear HO177; clear HO184; clear BK171; clear BK179; clear BK187; clear HB; have HO177 := n0_; have HO184 := n1_; have BK171 := n2_; have BK179 := n3_; have BK187 := n4_; have HB := n5_; clear n0_ n1_ n2_ n3_ n4_ n5_; (try clear hb); (try clear hb2); (try clear hk); (try clear hi); have hcz43_0 : w42.cell? ⟨gb171, 0, none⟩ = some (.int .i64 a0_0) := (blk_cell BK171.out 0).trans rfl; have hcz43_1 : w42.cell? ⟨gb171, 1, none⟩ = some (.int .i64 a0_1) := (blk_cell BK171.out 1).trans rfl; have hcz43_2 : w42.cell? ⟨gb171, 2, none⟩ = some (.slice A0_2 l0_2.length c0_2) := (blk_cell BK171.out 2).trans rfl; have hfz43_0 := blk_frozen BK171.out 0; have hfz43_1 := blk_frozen BK171.out 1; have hfz43_2 := blk_frozen BK171.out 2))
                  go_meet
                  case rel => exact ⟨_, (false), (by first | rfl | (simp; done) | (simp [*]; done)), H', ⟨by have := HJ6.out; first | omega | exact Nat.le_refl _⟩, ⟨Kd.Q_of_R (by (with_reducible repeat (first | apply Kd.R_alloc | apply Kd.R_drewN | apply Kd.R_drew)); exact Kd.R_mono HO177.out (fun _ hk => hk.2))⟩, ⟨by (with_reducible repeat (first | apply Kd.Q_alloc | apply Kd.Q_drewN | apply Kd.Q_drew)); exact Kd.Q_mono HO184.out (fun _ hk => hk.2)⟩, ⟨by (with_reducible repeat (first | refine blk_drewN ?_ _ | refine blk_drew ?_ | refine blk_alloc ?_ _)); exact BK171.out⟩, ⟨by (with_reducible repeat (first | refine blk_drewN ?_ _ | refine blk_drew ?_ | refine blk_alloc ?_ _)); exact BK179.out⟩, ⟨by (with_reducible repeat (first | refine blk_drewN ?_ _ | refine blk_drew ?_ | refine blk_alloc ?_ _)); exact BK187.out⟩, ⟨by repeat (first | (with_reducible first | exact HB.out | apply below_alloc | apply pw_below_drewN | apply below_drew1 | refine below_set ?_ GE171.out | refine below_set ?_ GE179.out | refine below_set ?_ GE187.out) | exact HB.out)⟩⟩
              · rw [if_neg c32] at H
                have c32b0 : decide (a3 ≤ a0_0) = false := decide_eq_false c32
                clear c32
                have H' := Aside0.mk H
                clear H
                have hnb44 := NB171_179.out
                have hnc44 := NB179_171.out
                have hnb45 := NB171_187.out
                have hnc45 := NB187_171.out
                have hcz46_0 : w24.cell? ⟨gb171, 0, none⟩ = some (.int .i64 a0_0) := (blk_cell BK171.out 0).trans rfl
                have hcz46_1 : w24.cell? ⟨gb171, 1, none⟩ = some (.int .i64 a0_1) := (blk_cell BK171.out 1).trans rfl
                have hcz46_2 : w24.cell? ⟨gb171, 2, none⟩ = some (.slice A0_2 l0_2.length c0_2) := (blk_cell BK171.out 2).trans rfl
                have hfz46_0 := blk_frozen BK171.out 0
                have hfz46_1 := blk_frozen BK171.out 1
                have hfz46_2 := blk_frozen BK171.out 2
                go_wp2_with (first | ((with_reducible refine gate_callee (f := 17) rfl ?_); refine goesL_ (some 44) rfl rfl Try.func17 (by kernel_rfl) rfl #[.agg #[.int .i64 a0_0, .int .i64 a0_1, .slice A0_2 l0_2.length c0_2]] rfl (by (try simp only [List.map_toArray, List.map_cons, List.map_nil]); first | done | rfl | (simp only [List.length_drop, List.length_take]; rfl)) ?_; (with_reducible refine (rate_May.calls kj6 a0_0 a0_1 _ _ l0_2 true _ ?side1 ?side2 A29.out).mono ?_); (case side1 => exact Kd.C_below HR0_2.out (by repeat (first | (with_reducible first | exact HB.out | apply below_alloc | apply pw_below_drewN | apply below_drew1 | refine below_set ?_ GE171.out | refine below_set ?_ GE179.out | refine below_set ?_ GE187.out) | exact HB.out))); (case side2 => exact HC0_2.out); rintro e w47 ⟨rfl, hb⟩; refine ⟨_, rfl, ?_⟩; have n0_ := Aside0.mk (Kd.R_below (by (with_reducible repeat (first | apply Kd.R_alloc | apply Kd.R_drewN | apply Kd.R_drew)); exact (Kd.R_mono (Kd.R_far (p := ⟨gb187, 2, none⟩) (Kd.R_far (p := ⟨gb187, 1, none⟩) (Kd.R_far (p := ⟨gb187, 0, none⟩) (Kd.R_types HO177.out BK187.out (by decide)) (fun _ hk => hk.2) (.int .i64 t180)) (fun _ hk => hk.2) (.int .i64 t181)) (fun _ hk => hk.2) (.slice Ao28 t182.length co28)) (fun _ h_ => h_.1))) hb); have n1_ := Aside0.mk (Kd.Q_below (by (with_reducible repeat (first | apply Kd.Q_alloc | apply Kd.Q_drewN | apply Kd.Q_drew)); exact (Kd.Q_mono (Kd.Q_far (p := ⟨gb187, 2, none⟩) (Kd.Q_far (p := ⟨gb187, 1, none⟩) (Kd.Q_far (p := ⟨gb187, 0, none⟩) (Kd.Q_types HO184.out BK187.out (by decide)) (fun _ hk => hk.2) (.int .i64 t180)) (fun _ hk => hk.2) (.int .i64 t181)) (fun _ hk => hk.2) (.slice Ao28 t182.length co28)) (fun _ h_ => h_.1))) hb); have n2_ := Aside0.mk (blk_below (g := gb171) (o := .cells #[.int .i64 a0_0, .int .i64 a0_1, .slice A0_2 l0_2.length c0_2] 24 (0, 0)) (by (with_reducible repeat (first | refine blk_drewN ?_ _ | refine blk_drew ?_ | refine blk_alloc ?_ _)); refine blk_far ?_ NB171_187.out _; (with_reducible repeat (first | refine blk_drewN ?_ _ | refine blk_drew ?_ | refine blk_alloc ?_ _)); refine blk_far ?_ NB171_187.out _; (with_reducible repeat (first | refine blk_drewN ?_ _ | refine blk_drew ?_ | refine blk_alloc ?_ _)); refine blk_far ?_ NB171_187.out _; (with_reducible repeat (first | refine blk_drewN ?_ _ | refine blk_drew ?_ | refine blk_alloc ?_ _)); exact BK171.out) hb); have n3_ := Aside0.mk (blk_below (g := gb179) (o := .cells #[.int .i64 t173, .int .i64 t174, .slice Ao21 t175.length co21] 24 (0, 0)) (by (with_reducible repeat (first | refine blk_drewN ?_ _ | refine blk_drew ?_ | refine blk_alloc ?_ _)); refine blk_far ?_ NB179_187.out _; (with_reducible repeat (first | refine blk_drewN ?_ _ | refine blk_drew ?_ | refine blk_alloc ?_ _)); refine blk_far ?_ NB179_187.out _; (with_reducible repeat (first | refine blk_drewN ?_ _ | refine blk_drew ?_ | refine blk_alloc ?_ _)); refine blk_far ?_ NB179_187.out _; (with_reducible repeat (first | refine blk_drewN ?_ _ | refine blk_drew ?_ | refine blk_alloc ?_ _)); exact BK179.out) hb); have n4_ := Aside0.mk (blk_below (g := gb187) (o := .cells #[.int .i64 t180, .int .i64 t181, .slice Ao28 t182.length co28] 24 (0, 0)) (by (with_reducible repeat (first | refine blk_drewN ?_ _ | refine blk_drew ?_ | refine blk_alloc ?_ _)); refine blk_put (cs := #[.int .i64 t180, .int .i64 t181, .slice none 0 0]) ?_ 2 _ rfl; (with_reducible repeat (first | refine blk_drewN ?_ _ | refine blk_drew ?_ | refine blk_alloc ?_ _)); refine blk_put (cs := #[.int .i64 t180, .int .i64 0, .slice none 0 0]) ?_ 1 _ rfl; (with_reducible repeat (first | refine blk_drewN ?_ _ | refine blk_drew ?_ | refine blk_alloc ?_ _)); refine blk_put (cs := #[.int .i64 0, .int .i64 0, .slice none 0 0]) ?_ 0 _ rfl; (with_reducible repeat (first | refine blk_drewN ?_ _ | refine blk_drew ?_ | refine blk_alloc ?_ _)); exact BK187.out) hb); have n5_ := Aside0.mk (below_step (by repeat (first | (with_reducible first | exact HB.out | apply below_alloc | apply pw_below_drewN | apply below_drew1 | refine below_set ?_ GE171.out | refine below_set ?_ GE179.out | refine below_set ?_ GE187.out) | exact HB.out)) hb); clear HO177; clear HO184; clear BK171; clear BK179; clear BK187; clear HB; have HO177 := n0_; have HO184 := n1_; have BK171 := n2_; have BK179 := n3_; have BK187 := n4_; have HB := n5_; clear n0_ n1_ n2_ n3_ n4_ n5_; (try clear hb); (try clear hb2); (try clear hk); (try clear hi); have hcz48_0 : w47.cell? ⟨gb171, 0, none⟩ = some (.int .i64 a0_0) := (blk_cell BK171.out 0).trans rfl; have hcz48_1 : w47.cell? ⟨gb171, 1, none⟩ = some (.int .i64 a0_1) := (blk_cell BK171.out 1).trans rfl; have hcz48_2 : w47.cell? ⟨gb171, 2, none⟩ = some (.slice A0_2 l0_2.length c0_2) := (blk_cell BK171.out 2).trans rfl; have hfz48_0 := blk_frozen BK171.out 0; have hfz48_1 := blk_frozen BK171.out 1; have hfz48_2 := blk_frozen BK171.out 2))
                go_meet
                case rel => exact ⟨_, (false), (by first | rfl | (simp; done) | (simp [*]; done)), H', ⟨by have := HJ6.out; first | omega | exact Nat.le_refl _⟩, ⟨Kd.Q_of_R (by (with_reducible repeat (first | apply Kd.R_alloc | apply Kd.R_drewN | apply Kd.R_drew)); exact Kd.R_mono HO177.out (fun _ hk => hk.2))⟩, ⟨by (with_reducible repeat (first | apply Kd.Q_alloc | apply Kd.Q_drewN | apply Kd.Q_drew)); exact Kd.Q_mono HO184.out (fun _ hk => hk.2)⟩, ⟨by (with_reducible repeat (first | refine blk_drewN ?_ _ | refine blk_drew ?_ | refine blk_alloc ?_ _)); exact BK171.out⟩, ⟨by (with_reducible repeat (first | refine blk_drewN ?_ _ | refine blk_drew ?_ | refine blk_alloc ?_ _)); exact BK179.out⟩, ⟨by (with_reducible repeat (first | refine blk_drewN ?_ _ | refine blk_drew ?_ | refine blk_alloc ?_ _)); exact BK187.out⟩, ⟨by repeat (first | (with_reducible first | exact HB.out | apply below_alloc | apply pw_below_drewN | apply below_drew1 | refine below_set ?_ GE171.out | refine below_set ?_ GE179.out | refine below_set ?_ GE187.out) | exact HB.out)⟩⟩
            · rw [if_neg c31] at H
              have c31b0 : decide (0 ≤ a3) = false := decide_eq_false c31
              clear c31
              (first | rw [c31b0] | (simp only [i64_w, i32_w]; rw [c31b0]) | skip)
              have H' := Aside0.mk H
              clear H
              have hnb49 := NB171_179.out
              have hnc49 := NB179_171.out
              have hnb50 := NB171_187.out
              have hnc50 := NB187_171.out
              have hcz51_0 : w24.cell? ⟨gb171, 0, none⟩ = some (.int .i64 a0_0) := (blk_cell BK171.out 0).trans rfl
              have hcz51_1 : w24.cell? ⟨gb171, 1, none⟩ = some (.int .i64 a0_1) := (blk_cell BK171.out 1).trans rfl
              have hcz51_2 : w24.cell? ⟨gb171, 2, none⟩ = some (.slice A0_2 l0_2.length c0_2) := (blk_cell BK171.out 2).trans rfl
              have hfz51_0 := blk_frozen BK171.out 0
              have hfz51_1 := blk_frozen BK171.out 1
              have hfz51_2 := blk_frozen BK171.out 2
              go_wp2_with (first | ((with_reducible refine gate_callee (f := 17) rfl ?_); refine goesL_ (some 44) rfl rfl Try.func17 (by kernel_rfl) rfl #[.agg #[.int .i64 a0_0, .int .i64 a0_1, .slice A0_2 l0_2.length c0_2]] rfl (by (try simp only [List.map_toArray, List.map_cons, List.map_nil]); first | done | rfl | (simp only [List.length_drop, List.length_take]; rfl)) ?_; (with_reducible refine (rate_May.calls kj6 a0_0 a0_1 _ _ l0_2 true _ ?side1 ?side2 A29.out).mono ?_); (case side1 => exact Kd.C_below HR0_2.out (by repeat (first | (with_reducible first | exact HB.out | apply below_alloc | apply pw_below_drewN | apply below_drew1 | refine below_set ?_ GE171.out | refine below_set ?_ GE179.out | refine below_set ?_ GE187.out) | exact HB.out))); (case side2 => exact HC0_2.out); rintro e w52 ⟨rfl, hb⟩; refine ⟨_, rfl, ?_⟩; have n0_ := Aside0.mk (Kd.R_below (by (with_reducible repeat (first | apply Kd.R_alloc | apply Kd.R_drewN | apply Kd.R_drew)); exact (Kd.R_mono (Kd.R_far (p := ⟨gb187, 2, none⟩) (Kd.R_far (p := ⟨gb187, 1, none⟩) (Kd.R_far (p := ⟨gb187, 0, none⟩) (Kd.R_types HO177.out BK187.out (by decide)) (fun _ hk => hk.2) (.int .i64 t180)) (fun _ hk => hk.2) (.int .i64 t181)) (fun _ hk => hk.2) (.slice Ao28 t182.length co28)) (fun _ h_ => h_.1))) hb); have n1_ := Aside0.mk (Kd.Q_below (by (with_reducible repeat (first | apply Kd.Q_alloc | apply Kd.Q_drewN | apply Kd.Q_drew)); exact (Kd.Q_mono (Kd.Q_far (p := ⟨gb187, 2, none⟩) (Kd.Q_far (p := ⟨gb187, 1, none⟩) (Kd.Q_far (p := ⟨gb187, 0, none⟩) (Kd.Q_types HO184.out BK187.out (by decide)) (fun _ hk => hk.2) (.int .i64 t180)) (fun _ hk => hk.2) (.int .i64 t181)) (fun _ hk => hk.2) (.slice Ao28 t182.length co28)) (fun _ h_ => h_.1))) hb); have n2_ := Aside0.mk (blk_below (g := gb171) (o := .cells #[.int .i64 a0_0, .int .i64 a0_1, .slice A0_2 l0_2.length c0_2] 24 (0, 0)) (by (with_reducible repeat (first | refine blk_drewN ?_ _ | refine blk_drew ?_ | refine blk_alloc ?_ _)); refine blk_far ?_ NB171_187.out _; (with_reducible repeat (first | refine blk_drewN ?_ _ | refine blk_drew ?_ | refine blk_alloc ?_ _)); refine blk_far ?_ NB171_187.out _; (with_reducible repeat (first | refine blk_drewN ?_ _ | refine blk_drew ?_ | refine blk_alloc ?_ _)); refine blk_far ?_ NB171_187.out _; (with_reducible repeat (first | refine blk_drewN ?_ _ | refine blk_drew ?_ | refine blk_alloc ?_ _)); exact BK171.out) hb); have n3_ := Aside0.mk (blk_below (g := gb179) (o := .cells #[.int .i64 t173, .int .i64 t174, .slice Ao21 t175.length co21] 24 (0, 0)) (by (with_reducible repeat (first | refine blk_drewN ?_ _ | refine blk_drew ?_ | refine blk_alloc ?_ _)); refine blk_far ?_ NB179_187.out _; (with_reducible repeat (first | refine blk_drewN ?_ _ | refine blk_drew ?_ | refine blk_alloc ?_ _)); refine blk_far ?_ NB179_187.out _; (with_reducible repeat (first | refine blk_drewN ?_ _ | refine blk_drew ?_ | refine blk_alloc ?_ _)); refine blk_far ?_ NB179_187.out _; (with_reducible repeat (first | refine blk_drewN ?_ _ | refine blk_drew ?_ | refine blk_alloc ?_ _)); exact BK179.out) hb); have n4_ := Aside0.mk (blk_below (g := gb187) (o := .cells #[.int .i64 t180, .int .i64 t181, .slice Ao28 t182.length co28] 24 (0, 0)) (by (with_reducible repeat (first | refine blk_drewN ?_ _ | refine blk_drew ?_ | refine blk_alloc ?_ _)); refine blk_put (cs := #[.int .i64 t180, .int .i64 t181, .slice none 0 0]) ?_ 2 _ rfl; (with_reducible repeat (first | refine blk_drewN ?_ _ | refine blk_drew ?_ | refine blk_alloc ?_ _)); refine blk_put (cs := #[.int .i64 t180, .int .i64 0, .slice none 0 0]) ?_ 1 _ rfl; (with_reducible repeat (first | refine blk_drewN ?_ _ | refine blk_drew ?_ | refine blk_alloc ?_ _)); refine blk_put (cs := #[.int .i64 0, .int .i64 0, .slice none 0 0]) ?_ 0 _ rfl; (with_reducible repeat (first | refine blk_drewN ?_ _ | refine blk_drew ?_ | refine blk_alloc ?_ _)); exact BK187.out) hb); have n5_ := Aside0.mk (below_step (by repeat (first | (with_reducible first | exact HB.out | apply below_alloc | apply pw_below_drewN | apply below_drew1 | refine below_set ?_ GE171.out | refine below_set ?_ GE179.out | refine below_set ?_ GE187.out) | exact HB.out)) hb); clear HO177; clear HO184; clear BK171; clear BK179; clear BK187; clear HB; have HO177 := n0_; have HO184 := n1_; have BK171 := n2_; have BK179 := n3_; have BK187 := n4_; have HB := n5_; clear n0_ n1_ n2_ n3_ n4_ n5_; (try clear hb); (try clear hb2); (try clear hk); (try clear hi)))
              go_meet
              case rel => exact ⟨_, (false), (by first | rfl | (simp; done) | (simp [*]; done)), H', ⟨by have := HJ6.out; first | omega | exact Nat.le_refl _⟩, ⟨Kd.Q_of_R (by (with_reducible repeat (first | apply Kd.R_alloc | apply Kd.R_drewN | apply Kd.R_drew)); exact Kd.R_mono HO177.out (fun _ hk => hk.2))⟩, ⟨by (with_reducible repeat (first | apply Kd.Q_alloc | apply Kd.Q_drewN | apply Kd.Q_drew)); exact Kd.Q_mono HO184.out (fun _ hk => hk.2)⟩, ⟨by (with_reducible repeat (first | refine blk_drewN ?_ _ | refine blk_drew ?_ | refine blk_alloc ?_ _)); exact BK171.out⟩, ⟨by (with_reducible repeat (first | refine blk_drewN ?_ _ | refine blk_drew ?_ | refine blk_alloc ?_ _)); exact BK179.out⟩, ⟨by (with_reducible repeat (first | refine blk_drewN ?_ _ | refine blk_drew ?_ | refine blk_alloc ?_ _)); exact BK187.out⟩, ⟨by repeat (first | (with_reducible first | exact HB.out | apply below_alloc | apply pw_below_drewN | apply below_drew1 | refine below_set ?_ GE171.out | refine below_set ?_ GE179.out | refine below_set ?_ GE187.out) | exact HB.out)⟩⟩
          · replace c30 := Bool.eq_false_iff.mpr c30
            subst c30
            have H1 : (fourinhandlaw11_RateWrong.j1 kj6 a4 t178 t185 t186 false a0_0 a0_1 l0_2 t173 t174 t175 t180 t181 t182) = some r := by rw [if_neg (show ¬ (false = true) by decide)] at H; exact H
            clear H
            have H := H1
            clear H1
            have H' := Aside0.mk H
            clear H
            have hnb53 := NB171_179.out
            have hnc53 := NB179_171.out
            have hnb54 := NB171_187.out
            have hnc54 := NB187_171.out
            have hcz55_0 : w24.cell? ⟨gb171, 0, none⟩ = some (.int .i64 a0_0) := (blk_cell BK171.out 0).trans rfl
            have hcz55_1 : w24.cell? ⟨gb171, 1, none⟩ = some (.int .i64 a0_1) := (blk_cell BK171.out 1).trans rfl
            have hcz55_2 : w24.cell? ⟨gb171, 2, none⟩ = some (.slice A0_2 l0_2.length c0_2) := (blk_cell BK171.out 2).trans rfl
            have hfz55_0 := blk_frozen BK171.out 0
            have hfz55_1 := blk_frozen BK171.out 1
            have hfz55_2 := blk_frozen BK171.out 2
            go_wp2_with (first | ((with_reducible refine gate_callee (f := 17) rfl ?_); refine goesL_ (some 44) rfl rfl Try.func17 (by kernel_rfl) rfl #[.agg #[.int .i64 a0_0, .int .i64 a0_1, .slice A0_2 l0_2.length c0_2]] rfl (by (try simp only [List.map_toArray, List.map_cons, List.map_nil]); first | done | rfl | (simp only [List.length_drop, List.length_take]; rfl)) ?_; (with_reducible refine (rate_May.calls kj6 a0_0 a0_1 _ _ l0_2 false _ ?side1 ?side2 A29.out).mono ?_); (case side1 => exact Kd.C_below HR0_2.out (by repeat (first | (with_reducible first | exact HB.out | apply below_alloc | apply pw_below_drewN | apply below_drew1 | refine below_set ?_ GE171.out | refine below_set ?_ GE179.out | refine below_set ?_ GE187.out) | exact HB.out))); (case side2 => exact HC0_2.out); rintro e w56 ⟨rfl, hb⟩; refine ⟨_, rfl, ?_⟩; have n0_ := Aside0.mk (Kd.R_below (by (with_reducible repeat (first | apply Kd.R_alloc | apply Kd.R_drewN | apply Kd.R_drew)); exact (Kd.R_mono (Kd.R_far (p := ⟨gb187, 2, none⟩) (Kd.R_far (p := ⟨gb187, 1, none⟩) (Kd.R_far (p := ⟨gb187, 0, none⟩) (Kd.R_types HO177.out BK187.out (by decide)) (fun _ hk => hk.2) (.int .i64 t180)) (fun _ hk => hk.2) (.int .i64 t181)) (fun _ hk => hk.2) (.slice Ao28 t182.length co28)) (fun _ h_ => h_.1))) hb); have n1_ := Aside0.mk (Kd.Q_below (by (with_reducible repeat (first | apply Kd.Q_alloc | apply Kd.Q_drewN | apply Kd.Q_drew)); exact (Kd.Q_mono (Kd.Q_far (p := ⟨gb187, 2, none⟩) (Kd.Q_far (p := ⟨gb187, 1, none⟩) (Kd.Q_far (p := ⟨gb187, 0, none⟩) (Kd.Q_types HO184.out BK187.out (by decide)) (fun _ hk => hk.2) (.int .i64 t180)) (fun _ hk => hk.2) (.int .i64 t181)) (fun _ hk => hk.2) (.slice Ao28 t182.length co28)) (fun _ h_ => h_.1))) hb); have n2_ := Aside0.mk (blk_below (g := gb171) (o := .cells #[.int .i64 a0_0, .int .i64 a0_1, .slice A0_2 l0_2.length c0_2] 24 (0, 0)) (by (with_reducible repeat (first | refine blk_drewN ?_ _ | refine blk_drew ?_ | refine blk_alloc ?_ _)); refine blk_far ?_ NB171_187.out _; (with_reducible repeat (first | refine blk_drewN ?_ _ | refine blk_drew ?_ | refine blk_alloc ?_ _)); refine blk_far ?_ NB171_187.out _; (with_reducible repeat (first | refine blk_drewN ?_ _ | refine blk_drew ?_ | refine blk_alloc ?_ _)); refine blk_far ?_ NB171_187.out _; (with_reducible repeat (first | refine blk_drewN ?_ _ | refine blk_drew ?_ | refine blk_alloc ?_ _)); exact BK171.out) hb); have n3_ := Aside0.mk (blk_below (g := gb179) (o := .cells #[.int .i64 t173, .int .i64 t174, .slice Ao21 t175.length co21] 24 (0, 0)) (by (with_reducible repeat (first | refine blk_drewN ?_ _ | refine blk_drew ?_ | refine blk_alloc ?_ _)); refine blk_far ?_ NB179_187.out _; (with_reducible repeat (first | refine blk_drewN ?_ _ | refine blk_drew ?_ | refine blk_alloc ?_ _)); refine blk_far ?_ NB179_187.out _; (with_reducible repeat (first | refine blk_drewN ?_ _ | refine blk_drew ?_ | refine blk_alloc ?_ _)); refine blk_far ?_ NB179_187.out _; (with_reducible repeat (first | refine blk_drewN ?_ _ | refine blk_drew ?_ | refine blk_alloc ?_ _)); exact BK179.out) hb); have n4_ := Aside0.mk (blk_below (g := gb187) (o := .cells #[.int .i64 t180, .int .i64 t181, .slice Ao28 t182.length co28] 24 (0, 0)) (by (with_reducible repeat (first | refine blk_drewN ?_ _ | refine blk_drew ?_ | refine blk_alloc ?_ _)); refine blk_put (cs := #[.int .i64 t180, .int .i64 t181, .slice none 0 0]) ?_ 2 _ rfl; (with_reducible repeat (first | refine blk_drewN ?_ _ | refine blk_drew ?_ | refine blk_alloc ?_ _)); refine blk_put (cs := #[.int .i64 t180, .int .i64 0, .slice none 0 0]) ?_ 1 _ rfl; (with_reducible repeat (first | refine blk_drewN ?_ _ | refine blk_drew ?_ | refine blk_alloc ?_ _)); refine blk_put (cs := #[.int .i64 0, .int .i64 0, .slice none 0 0]) ?_ 0 _ rfl; (with_reducible repeat (first | refine blk_drewN ?_ _ | refine blk_drew ?_ | refine blk_alloc ?_ _)); exact BK187.out) hb); have n5_ := Aside0.mk (below_step (by repeat (first | (with_reducible first | exact HB.out | apply below_alloc | apply pw_below_drewN | apply below_drew1 | refine below_set ?_ GE171.out | refine below_set ?_ GE179.out | refine below_set ?_ GE187.out) | exact HB.out)) hb); clear HO177; clear HO184; clear BK171; clear BK179; clear BK187; clear HB; have HO177 := n0_; have HO184 := n1_; have BK171 := n2_; have BK179 := n3_; have BK187 := n4_; have HB := n5_; clear n0_ n1_ n2_ n3_ n4_ n5_; (try clear hb); (try clear hb2); (try clear hk); (try clear hi)))
            go_meet
            case rel => exact ⟨_, (false), (by first | rfl | (simp; done) | (simp [*]; done)), H', ⟨by have := HJ6.out; first | omega | exact Nat.le_refl _⟩, ⟨Kd.Q_of_R (by (with_reducible repeat (first | apply Kd.R_alloc | apply Kd.R_drewN | apply Kd.R_drew)); exact Kd.R_mono HO177.out (fun _ hk => hk.2))⟩, ⟨by (with_reducible repeat (first | apply Kd.Q_alloc | apply Kd.Q_drewN | apply Kd.Q_drew)); exact Kd.Q_mono HO184.out (fun _ hk => hk.2)⟩, ⟨by (with_reducible repeat (first | refine blk_drewN ?_ _ | refine blk_drew ?_ | refine blk_alloc ?_ _)); exact BK171.out⟩, ⟨by (with_reducible repeat (first | refine blk_drewN ?_ _ | refine blk_drew ?_ | refine blk_alloc ?_ _)); exact BK179.out⟩, ⟨by (with_reducible repeat (first | refine blk_drewN ?_ _ | refine blk_drew ?_ | refine blk_alloc ?_ _)); exact BK187.out⟩, ⟨by repeat (first | (with_reducible first | exact HB.out | apply below_alloc | apply pw_below_drewN | apply below_drew1 | refine below_set ?_ GE171.out | refine below_set ?_ GE179.out | refine below_set ?_ GE187.out) | exact HB.out)⟩⟩
        case rest =>
          clear HC15
          try clear c1
          try clear c2
          try clear p2
          try clear c3
          try clear c4
          try clear c5
          try clear c6
          try clear c8
          try clear c10
          try clear c12
          try clear c13
          try clear c17
          try clear c19
          try clear c25
          try clear c26
          try clear c30
          try clear c31
          try clear c31b0
          try clear c32
          try clear c32b0
          try clear c33
          try clear c33b0
          try clear c34
          try clear c35
          try clear c39
          try clear c40
          try clear c44
          try clear c45
          try clear c49
          try clear c50
          try clear c53
          try clear c54
          try clear hcz11_0
          try clear hcz11_1
          try clear hcz11_2
          try clear hcz16_0
          try clear hcz16_1
          try clear hcz16_2
          try clear hcz20_0
          try clear hcz20_1
          try clear hcz20_2
          try clear hcz22_0
          try clear hcz22_1
          try clear hcz22_2
          try clear hcz27_0
          try clear hcz27_1
          try clear hcz27_2
          try clear hcz36_0
          try clear hcz36_1
          try clear hcz36_2
          try clear hcz38_0
          try clear hcz38_1
          try clear hcz38_2
          try clear hcz41_0
          try clear hcz41_1
          try clear hcz41_2
          try clear hcz43_0
          try clear hcz43_1
          try clear hcz43_2
          try clear hcz46_0
          try clear hcz46_1
          try clear hcz46_2
          try clear hcz48_0
          try clear hcz48_1
          try clear hcz48_2
          try clear hcz51_0
          try clear hcz51_1
          try clear hcz51_2
          try clear hcz55_0
          try clear hcz55_1
          try clear hcz55_2
          try clear hfz11_0
          try clear hfz11_1
          try clear hfz11_2
          try clear hfz16_0
          try clear hfz16_1
          try clear hfz16_2
          try clear hfz20_0
          try clear hfz20_1
          try clear hfz20_2
          try clear hfz22_0
          try clear hfz22_1
          try clear hfz22_2
          try clear hfz27_0
          try clear hfz27_1
          try clear hfz27_2
          try clear hfz36_0
          try clear hfz36_1
          try clear hfz36_2
          try clear hfz38_0
          try clear hfz38_1
          try clear hfz38_2
          try clear hfz41_0
          try clear hfz41_1
          try clear hfz41_2
          try clear hfz43_0
          try clear hfz43_1
          try clear hfz43_2
          try clear hfz46_0
          try clear hfz46_1
          try clear hfz46_2
          try clear hfz48_0
          try clear hfz48_1
          try clear hfz48_2
          try clear hfz51_0
          try clear hfz51_1
          try clear hfz51_2
          try clear hfz55_0
          try clear hfz55_1
          try clear hfz55_2
          try clear p2
          obtain ⟨kq, x17_14, rfl, HA, HJ14, HO_180002, HO_188002, BK171, BK179, BK187, HB⟩ := hcut
          cases kq with
          | zero => exact absurd HA.out (by simp [fourinhandlaw11_RateWrong.j1])
          | succ kj14 =>
            have H := HA.out
            clear HA
            simp only [fourinhandlaw11_RateWrong.j1] at H
            by_cases c57 : ((t186 == 0) != x17_14) = true
            · rw [if_pos c57] at H
              have c57b0 : ((t186 == 0) != x17_14) = true := c57
              (try (have c57b1 : decide ((t186 == 0) = x17_14) = false := by simpa using c57))
              (try (have c57b2 : ((t186 == 0) == x17_14) = false := by simpa using c57))
              (try (have c57b3 : ¬ ((t186 == 0) = x17_14) := by simpa using c57))
              clear c57
              exact Bool.noConfusion ((Option.some.inj H).trans hr_.out)
            · rw [if_neg c57] at H
              have c57b0 : ((t186 == 0) != x17_14) = false := by simpa using c57
              (try (have c57b1 : decide ((t186 == 0) = x17_14) = true := by simpa using c57))
              (try (have c57b2 : ((t186 == 0) == x17_14) = true := by simpa using c57))
              clear c57
              try clear c57b1
              try clear c57b2
              have hx17 : x17_14 = (t186 == 0) := by revert c57b0; cases x17_14 <;> cases (t186 == 0) <;> simp
              subst hx17
              clear c57b0
              by_cases c58 : t178 = 0
              · rw [if_pos c58] at H
                have c58b0 : (t178 == 0) = true := beq_iff_eq.mpr c58
                have c58b1 : (t178 != 0) = false := bne_eq_false_iff_eq.mpr c58
                clear c58
                replace H := Option.bind_eq_some_iff.mp H
                obtain ⟨t189, A590, H⟩ := H
                replace H : (if t189 = true then (if t186 = 0 then (if a4 = a0_1 then (if t185 = 0 then (some ((t182.length : Int) == (l0_2.length : Int))) else (some false)) else (some true)) else (if t185 = 0 then (some true) else (some false))) else (some false)) = some r := H
                have A59 := Aside0.mk A590
                clear A590
                by_cases c60 : t189 = true
                · subst c60
                  have H1 : (if t186 = 0 then (if a4 = a0_1 then (if t185 = 0 then (some ((t182.length : Int) == (l0_2.length : Int))) else (some false)) else (some true)) else (if t185 = 0 then (some true) else (some false))) = some r := by rw [if_pos rfl] at H; exact H
                  clear H
                  have H := H1
                  clear H1
                  by_cases c61 : t186 = 0
                  · rw [if_pos c61] at H
                    have c61b0 : (t186 == 0) = true := beq_iff_eq.mpr c61
                    have c61b1 : (t186 != 0) = false := bne_eq_false_iff_eq.mpr c61
                    clear c61
                    by_cases c62 : a4 = a0_1
                    · rw [if_pos c62] at H
                      have c62b0 : (a4 == a0_1) = true := beq_iff_eq.mpr c62
                      have c62b1 : (a4 != a0_1) = false := bne_eq_false_iff_eq.mpr c62
                      clear c62
                      by_cases c63 : t185 = 0
                      · rw [if_pos c63] at H
                        have c63b0 : (t185 == 0) = true := beq_iff_eq.mpr c63
                        have c63b1 : (t185 != 0) = false := bne_eq_false_iff_eq.mpr c63
                        clear c63
                        obtain rfl := Option.some.inj H
                        have hnb64 := NB171_179.out
                        have hnc64 := NB179_171.out
                        have hnb65 := NB171_187.out
                        have hnc65 := NB187_171.out
                        have hcz66_0 : wc.cell? ⟨gb171, 0, none⟩ = some (.int .i64 a0_0) := (blk_cell BK171.out 0).trans rfl
                        have hcz66_1 : wc.cell? ⟨gb171, 1, none⟩ = some (.int .i64 a0_1) := (blk_cell BK171.out 1).trans rfl
                        have hcz66_2 : wc.cell? ⟨gb171, 2, none⟩ = some (.slice A0_2 l0_2.length c0_2) := (blk_cell BK171.out 2).trans rfl
                        have hfz66_0 := blk_frozen BK171.out 0
                        have hfz66_1 := blk_frozen BK171.out 1
                        have hfz66_2 := blk_frozen BK171.out 2
                        go_wp2_with (first | (go_at_call 17; (with_reducible refine (rate_May.calls kj14 a0_0 a0_1 _ _ l0_2 true _ ?side1 ?side2 A59.out).mono ?_); (case side1 => repeat (first | exact (Kd.C_below HR0_2.out HB.out) | (with_reducible refine Kd.C_alloc ?_ _) | (with_reducible refine Kd.C_drewN ?_ _) | (with_reducible refine Kd.C_drew ?_))); (case side2 => exact HC0_2.out); rintro e w67 ⟨rfl, hb⟩; have n0_ := Aside0.mk (Kd.Q_below (by (with_reducible repeat (first | apply Kd.Q_alloc | apply Kd.Q_drewN | apply Kd.Q_drew)); exact HO_180002.out) hb); have n1_ := Aside0.mk (Kd.Q_below (by (with_reducible repeat (first | apply Kd.Q_alloc | apply Kd.Q_drewN | apply Kd.Q_drew)); exact HO_188002.out) hb); have n2_ := Aside0.mk (blk_below (g := gb171) (o := .cells #[.int .i64 a0_0, .int .i64 a0_1, .slice A0_2 l0_2.length c0_2] 24 (0, 0)) (by (with_reducible repeat (first | refine blk_drewN ?_ _ | refine blk_drew ?_ | refine blk_alloc ?_ _)); exact BK171.out) hb); have n3_ := Aside0.mk (blk_below (g := gb179) (o := .cells #[.int .i64 t173, .int .i64 t174, .slice Ao21 t175.length co21] 24 (0, 0)) (by (with_reducible repeat (first | refine blk_drewN ?_ _ | refine blk_drew ?_ | refine blk_alloc ?_ _)); exact BK179.out) hb); have n4_ := Aside0.mk (blk_below (g := gb187) (o := .cells #[.int .i64 t180, .int .i64 t181, .slice Ao28 t182.length co28] 24 (0, 0)) (by (with_reducible repeat (first | refine blk_drewN ?_ _ | refine blk_drew ?_ | refine blk_alloc ?_ _)); exact BK187.out) hb); have n5_ := Aside0.mk (below_step (by repeat (first | (with_reducible first | exact HB.out | apply below_alloc | apply pw_below_drewN | apply below_drew1 | refine below_set ?_ GE171.out | refine below_set ?_ GE179.out | refine below_set ?_ GE187.out) | exact HB.out)) hb); clear HO_180002; clear HO_188002; clear BK171; clear BK179; clear BK187; clear HB; have HO_180002 := n0_; have HO_188002 := n1_; have BK171 := n2_; have BK179 := n3_; have BK187 := n4_; have HB := n5_; clear n0_ n1_ n2_ n3_ n4_ n5_; (try clear hb); (try clear hb2); (try clear hk); (try clear hi); have hcz68_0 : w67.cell? ⟨gb171, 0, none⟩ = some (.int .i64 a0_0) := (blk_cell BK171.out 0).trans rfl; have hcz68_1 : w67.cell? ⟨gb171, 1, none⟩ = some (.int .i64 a0_1) := (blk_cell BK171.out 1).trans rfl; have hcz68_2 : w67.cell? ⟨gb171, 2, none⟩ = some (.slice A0_2 l0_2.length c0_2) := (blk_cell BK171.out 2).trans rfl; have hfz68_0 := blk_frozen BK171.out 0; have hfz68_1 := blk_frozen BK171.out 1; have hfz68_2 := blk_frozen BK171.out 2; have hnb69 := NB187_179.out; have hnc69 := NB179_187.out; have hcz70_0 : w67.cell? ⟨gb187, 0, none⟩ = some (.int .i64 t180) := (blk_cell BK187.out 0).trans rfl; have hcz70_1 : w67.cell? ⟨gb187, 1, none⟩ = some (.int .i64 t181) := (blk_cell BK187.out 1).trans rfl; have hcz70_2 : w67.cell? ⟨gb187, 2, none⟩ = some (.slice Ao28 t182.length co28) := (blk_cell BK187.out 2).trans rfl; have hfz70_0 := blk_frozen BK187.out 0; have hfz70_1 := blk_frozen BK187.out 1; have hfz70_2 := blk_frozen BK187.out 2))
                        go_ret
                        exact ⟨by first | rfl | (simp [errW_none, errW_some] <;> rfl) | (simp [*, errW_none, errW_some] <;> rfl), by repeat (first | (with_reducible first | exact HB.out | apply below_alloc | apply pw_below_drewN | apply below_drew1 | refine below_set ?_ GE171.out | refine below_set ?_ GE179.out | refine below_set ?_ GE187.out) | exact HB.out)⟩
                      · rw [if_neg c63] at H
                        have c63b0 : (t185 == 0) = false := beq_eq_false_iff_ne.mpr c63
                        have c63b1 : (t185 != 0) = true := bne_iff_ne.mpr c63
                        exact Bool.noConfusion ((Option.some.inj H).trans hr_.out)
                    · rw [if_neg c62] at H
                      have c62b0 : (a4 == a0_1) = false := beq_eq_false_iff_ne.mpr c62
                      have c62b1 : (a4 != a0_1) = true := bne_iff_ne.mpr c62
                      obtain rfl := Option.some.inj H
                      have hnb71 := NB171_179.out
                      have hnc71 := NB179_171.out
                      have hnb72 := NB171_187.out
                      have hnc72 := NB187_171.out
                      have hcz73_0 : wc.cell? ⟨gb171, 0, none⟩ = some (.int .i64 a0_0) := (blk_cell BK171.out 0).trans rfl
                      have hcz73_1 : wc.cell? ⟨gb171, 1, none⟩ = some (.int .i64 a0_1) := (blk_cell BK171.out 1).trans rfl
                      have hcz73_2 : wc.cell? ⟨gb171, 2, none⟩ = some (.slice A0_2 l0_2.length c0_2) := (blk_cell BK171.out 2).trans rfl
                      have hfz73_0 := blk_frozen BK171.out 0
                      have hfz73_1 := blk_frozen BK171.out 1
                      have hfz73_2 := blk_frozen BK171.out 2
                      go_wp2_with (first | (go_at_call 17; (with_reducible refine (rate_May.calls kj14 a0_0 a0_1 _ _ l0_2 true _ ?side1 ?side2 A59.out).mono ?_); (case side1 => repeat (first | exact (Kd.C_below HR0_2.out HB.out) | (with_reducible refine Kd.C_alloc ?_ _) | (with_reducible refine Kd.C_drewN ?_ _) | (with_reducible refine Kd.C_drew ?_))); (case side2 => exact HC0_2.out); rintro e w74 ⟨rfl, hb⟩; have n0_ := Aside0.mk (Kd.Q_below (by (with_reducible repeat (first | apply Kd.Q_alloc | apply Kd.Q_drewN | apply Kd.Q_drew)); exact HO_180002.out) hb); have n1_ := Aside0.mk (Kd.Q_below (by (with_reducible repeat (first | apply Kd.Q_alloc | apply Kd.Q_drewN | apply Kd.Q_drew)); exact HO_188002.out) hb); have n2_ := Aside0.mk (blk_below (g := gb171) (o := .cells #[.int .i64 a0_0, .int .i64 a0_1, .slice A0_2 l0_2.length c0_2] 24 (0, 0)) (by (with_reducible repeat (first | refine blk_drewN ?_ _ | refine blk_drew ?_ | refine blk_alloc ?_ _)); exact BK171.out) hb); have n3_ := Aside0.mk (blk_below (g := gb179) (o := .cells #[.int .i64 t173, .int .i64 t174, .slice Ao21 t175.length co21] 24 (0, 0)) (by (with_reducible repeat (first | refine blk_drewN ?_ _ | refine blk_drew ?_ | refine blk_alloc ?_ _)); exact BK179.out) hb); have n4_ := Aside0.mk (blk_below (g := gb187) (o := .cells #[.int .i64 t180, .int .i64 t181, .slice Ao28 t182.length co28] 24 (0, 0)) (by (with_reducible repeat (first | refine blk_drewN ?_ _ | refine blk_drew ?_ | refine blk_alloc ?_ _)); exact BK187.out) hb); have n5_ := Aside0.mk (below_step (by repeat (first | (with_reducible first | exact HB.out | apply below_alloc | apply pw_below_drewN | apply below_drew1 | refine below_set ?_ GE171.out | refine below_set ?_ GE179.out | refine below_set ?_ GE187.out) | exact HB.out)) hb); clear HO_180002; clear HO_188002; clear BK171; clear BK179; clear BK187; clear HB; have HO_180002 := n0_; have HO_188002 := n1_; have BK171 := n2_; have BK179 := n3_; have BK187 := n4_; have HB := n5_; clear n0_ n1_ n2_ n3_ n4_ n5_; (try clear hb); (try clear hb2); (try clear hk); (try clear hi); have hcz75_0 : w74.cell? ⟨gb171, 0, none⟩ = some (.int .i64 a0_0) := (blk_cell BK171.out 0).trans rfl; have hcz75_1 : w74.cell? ⟨gb171, 1, none⟩ = some (.int .i64 a0_1) := (blk_cell BK171.out 1).trans rfl; have hcz75_2 : w74.cell? ⟨gb171, 2, none⟩ = some (.slice A0_2 l0_2.length c0_2) := (blk_cell BK171.out 2).trans rfl; have hfz75_0 := blk_frozen BK171.out 0; have hfz75_1 := blk_frozen BK171.out 1; have hfz75_2 := blk_frozen BK171.out 2))
                      go_ret
                      exact ⟨by first | rfl | (simp [errW_none, errW_some] <;> rfl) | (simp [*, errW_none, errW_some] <;> rfl), by repeat (first | (with_reducible first | exact HB.out | apply below_alloc | apply pw_below_drewN | apply below_drew1 | refine below_set ?_ GE171.out | refine below_set ?_ GE179.out | refine below_set ?_ GE187.out) | exact HB.out)⟩
                  · rw [if_neg c61] at H
                    have c61b0 : (t186 == 0) = false := beq_eq_false_iff_ne.mpr c61
                    have c61b1 : (t186 != 0) = true := bne_iff_ne.mpr c61
                    by_cases c76 : t185 = 0
                    · rw [if_pos c76] at H
                      have c76b0 : (t185 == 0) = true := beq_iff_eq.mpr c76
                      have c76b1 : (t185 != 0) = false := bne_eq_false_iff_eq.mpr c76
                      clear c76
                      obtain rfl := Option.some.inj H
                      have hnb77 := NB171_179.out
                      have hnc77 := NB179_171.out
                      have hnb78 := NB171_187.out
                      have hnc78 := NB187_171.out
                      have hcz79_0 : wc.cell? ⟨gb171, 0, none⟩ = some (.int .i64 a0_0) := (blk_cell BK171.out 0).trans rfl
                      have hcz79_1 : wc.cell? ⟨gb171, 1, none⟩ = some (.int .i64 a0_1) := (blk_cell BK171.out 1).trans rfl
                      have hcz79_2 : wc.cell? ⟨gb171, 2, none⟩ = some (.slice A0_2 l0_2.length c0_2) := (blk_cell BK171.out 2).trans rfl
                      have hfz79_0 := blk_frozen BK171.out 0
                      have hfz79_1 := blk_frozen BK171.out 1
                      have hfz79_2 := blk_frozen BK171.out 2
                      go_wp2_with (first | (go_at_call 17; (with_reducible refine (rate_May.calls kj14 a0_0 a0_1 _ _ l0_2 true _ ?side1 ?side2 A59.out).mono ?_); (case side1 => repeat (first | exact (Kd.C_below HR0_2.out HB.out) | (with_reducible refine Kd.C_alloc ?_ _) | (with_reducible refine Kd.C_drewN ?_ _) | (with_reducible refine Kd.C_drew ?_))); (case side2 => exact HC0_2.out); rintro e w80 ⟨rfl, hb⟩; have n0_ := Aside0.mk (Kd.Q_below (by (with_reducible repeat (first | apply Kd.Q_alloc | apply Kd.Q_drewN | apply Kd.Q_drew)); exact HO_180002.out) hb); have n1_ := Aside0.mk (Kd.Q_below (by (with_reducible repeat (first | apply Kd.Q_alloc | apply Kd.Q_drewN | apply Kd.Q_drew)); exact HO_188002.out) hb); have n2_ := Aside0.mk (blk_below (g := gb171) (o := .cells #[.int .i64 a0_0, .int .i64 a0_1, .slice A0_2 l0_2.length c0_2] 24 (0, 0)) (by (with_reducible repeat (first | refine blk_drewN ?_ _ | refine blk_drew ?_ | refine blk_alloc ?_ _)); exact BK171.out) hb); have n3_ := Aside0.mk (blk_below (g := gb179) (o := .cells #[.int .i64 t173, .int .i64 t174, .slice Ao21 t175.length co21] 24 (0, 0)) (by (with_reducible repeat (first | refine blk_drewN ?_ _ | refine blk_drew ?_ | refine blk_alloc ?_ _)); exact BK179.out) hb); have n4_ := Aside0.mk (blk_below (g := gb187) (o := .cells #[.int .i64 t180, .int .i64 t181, .slice Ao28 t182.length co28] 24 (0, 0)) (by (with_reducible repeat (first | refine blk_drewN ?_ _ | refine blk_drew ?_ | refine blk_alloc ?_ _)); exact BK187.out) hb); have n5_ := Aside0.mk (below_step (by repeat (first | (with_reducible first | exact HB.out | apply below_alloc | apply pw_below_drewN | apply below_drew1 | refine below_set ?_ GE171.out | refine below_set ?_ GE179.out | refine below_set ?_ GE187.out) | exact HB.out)) hb); clear HO_180002; clear HO_188002; clear BK171; clear BK179; clear BK187; clear HB; have HO_180002 := n0_; have HO_188002 := n1_; have BK171 := n2_; have BK179 := n3_; have BK187 := n4_; have HB := n5_; clear n0_ n1_ n2_ n3_ n4_ n5_; (try clear hb); (try clear hb2); (try clear hk); (try clear hi)))
                      go_ret
                      exact ⟨by first | rfl | (simp [errW_none, errW_some] <;> rfl) | (simp [*, errW_none, errW_some] <;> rfl), by repeat (first | (with_reducible first | exact HB.out | apply below_alloc | apply pw_below_drewN | apply below_drew1 | refine below_set ?_ GE171.out | refine below_set ?_ GE179.out | refine below_set ?_ GE187.out) | exact HB.out)⟩
                    · rw [if_neg c76] at H
                      have c76b0 : (t185 == 0) = false := beq_eq_false_iff_ne.mpr c76
                      have c76b1 : (t185 != 0) = true := bne_iff_ne.mpr c76
                      exact Bool.noConfusion ((Option.some.inj H).trans hr_.out)
                · replace c60 := Bool.eq_false_iff.mpr c60
                  subst c60
                  have H1 : (some false) = some r := by rw [if_neg (show ¬ (false = true) by decide)] at H; exact H
                  clear H
                  have H := H1
                  clear H1
                  exact Bool.noConfusion ((Option.some.inj H).trans hr_.out)
              · rw [if_neg c58] at H
                have c58b0 : (t178 == 0) = false := beq_eq_false_iff_ne.mpr c58
                have c58b1 : (t178 != 0) = true := bne_iff_ne.mpr c58
                by_cases c81 : (t175.length : Int) > 0
                · rw [if_pos c81] at H
                  have c81b0 : decide (0 < (t175.length : Int)) = true := decide_eq_true c81
                  have c81b1 : decide (0 < t175.length) = true := decide_eq_true (by omega)
                  clear c81
                  exact Bool.noConfusion ((Option.some.inj H).trans hr_.out)
                · rw [if_neg c81] at H
                  have c81b0 : decide (0 < (t175.length : Int)) = false := decide_eq_false c81
                  have c81b1 : decide (0 < t175.length) = false := decide_eq_false (by omega)
                  clear c81
                  by_cases c82 : t186 = 0
                  · rw [if_pos c82] at H
                    have c82b0 : (t186 == 0) = true := beq_iff_eq.mpr c82
                    have c82b1 : (t186 != 0) = false := bne_eq_false_iff_eq.mpr c82
                    clear c82
                    by_cases c83 : a4 = a0_1
                    · rw [if_pos c83] at H
                      have c83b0 : (a4 == a0_1) = true := beq_iff_eq.mpr c83
                      have c83b1 : (a4 != a0_1) = false := bne_eq_false_iff_eq.mpr c83
                      clear c83
                      by_cases c84 : t185 = 0
                      · rw [if_pos c84] at H
                        have c84b0 : (t185 == 0) = true := beq_iff_eq.mpr c84
                        have c84b1 : (t185 != 0) = false := bne_eq_false_iff_eq.mpr c84
                        clear c84
                        obtain rfl := Option.some.inj H
                        have hnb85 := NB179_171.out
                        have hnc85 := NB171_179.out
                        have hnb86 := NB179_187.out
                        have hnc86 := NB187_179.out
                        have hcz87_0 : wc.cell? ⟨gb179, 0, none⟩ = some (.int .i64 t173) := (blk_cell BK179.out 0).trans rfl
                        have hcz87_1 : wc.cell? ⟨gb179, 1, none⟩ = some (.int .i64 t174) := (blk_cell BK179.out 1).trans rfl
                        have hcz87_2 : wc.cell? ⟨gb179, 2, none⟩ = some (.slice Ao21 t175.length co21) := (blk_cell BK179.out 2).trans rfl
                        have hfz87_0 := blk_frozen BK179.out 0
                        have hfz87_1 := blk_frozen BK179.out 1
                        have hfz87_2 := blk_frozen BK179.out 2
                        have hnb88 := NB171_187.out
                        have hnc88 := NB187_171.out
                        have hcz89_0 : wc.cell? ⟨gb171, 0, none⟩ = some (.int .i64 a0_0) := (blk_cell BK171.out 0).trans rfl
                        have hcz89_1 : wc.cell? ⟨gb171, 1, none⟩ = some (.int .i64 a0_1) := (blk_cell BK171.out 1).trans rfl
                        have hcz89_2 : wc.cell? ⟨gb171, 2, none⟩ = some (.slice A0_2 l0_2.length c0_2) := (blk_cell BK171.out 2).trans rfl
                        have hfz89_0 := blk_frozen BK171.out 0
                        have hfz89_1 := blk_frozen BK171.out 1
                        have hfz89_2 := blk_frozen BK171.out 2
                        have hcz90_0 : wc.cell? ⟨gb187, 0, none⟩ = some (.int .i64 t180) := (blk_cell BK187.out 0).trans rfl
                        have hcz90_1 : wc.cell? ⟨gb187, 1, none⟩ = some (.int .i64 t181) := (blk_cell BK187.out 1).trans rfl
                        have hcz90_2 : wc.cell? ⟨gb187, 2, none⟩ = some (.slice Ao28 t182.length co28) := (blk_cell BK187.out 2).trans rfl
                        have hfz90_0 := blk_frozen BK187.out 0
                        have hfz90_1 := blk_frozen BK187.out 1
                        have hfz90_2 := blk_frozen BK187.out 2
                        go_wp2
                        go_ret
                        exact ⟨by first | rfl | (simp [errW_none, errW_some] <;> rfl) | (simp [*, errW_none, errW_some] <;> rfl), by repeat (first | (with_reducible first | exact HB.out | apply below_alloc | apply pw_below_drewN | apply below_drew1 | refine below_set ?_ GE171.out | refine below_set ?_ GE179.out | refine below_set ?_ GE187.out) | exact HB.out)⟩
                      · rw [if_neg c84] at H
                        have c84b0 : (t185 == 0) = false := beq_eq_false_iff_ne.mpr c84
                        have c84b1 : (t185 != 0) = true := bne_iff_ne.mpr c84
                        exact Bool.noConfusion ((Option.some.inj H).trans hr_.out)
                    · rw [if_neg c83] at H
                      have c83b0 : (a4 == a0_1) = false := beq_eq_false_iff_ne.mpr c83
                      have c83b1 : (a4 != a0_1) = true := bne_iff_ne.mpr c83
                      obtain rfl := Option.some.inj H
                      have hnb91 := NB179_171.out
                      have hnc91 := NB171_179.out
                      have hnb92 := NB179_187.out
                      have hnc92 := NB187_179.out
                      have hcz93_0 : wc.cell? ⟨gb179, 0, none⟩ = some (.int .i64 t173) := (blk_cell BK179.out 0).trans rfl
                      have hcz93_1 : wc.cell? ⟨gb179, 1, none⟩ = some (.int .i64 t174) := (blk_cell BK179.out 1).trans rfl
                      have hcz93_2 : wc.cell? ⟨gb179, 2, none⟩ = some (.slice Ao21 t175.length co21) := (blk_cell BK179.out 2).trans rfl
                      have hfz93_0 := blk_frozen BK179.out 0
                      have hfz93_1 := blk_frozen BK179.out 1
                      have hfz93_2 := blk_frozen BK179.out 2
                      have hnb94 := NB171_187.out
                      have hnc94 := NB187_171.out
                      have hcz95_0 : wc.cell? ⟨gb171, 0, none⟩ = some (.int .i64 a0_0) := (blk_cell BK171.out 0).trans rfl
                      have hcz95_1 : wc.cell? ⟨gb171, 1, none⟩ = some (.int .i64 a0_1) := (blk_cell BK171.out 1).trans rfl
                      have hcz95_2 : wc.cell? ⟨gb171, 2, none⟩ = some (.slice A0_2 l0_2.length c0_2) := (blk_cell BK171.out 2).trans rfl
                      have hfz95_0 := blk_frozen BK171.out 0
                      have hfz95_1 := blk_frozen BK171.out 1
                      have hfz95_2 := blk_frozen BK171.out 2
                      go_wp2
                      go_ret
                      exact ⟨by first | rfl | (simp [errW_none, errW_some] <;> rfl) | (simp [*, errW_none, errW_some] <;> rfl), by repeat (first | (with_reducible first | exact HB.out | apply below_alloc | apply pw_below_drewN | apply below_drew1 | refine below_set ?_ GE171.out | refine below_set ?_ GE179.out | refine below_set ?_ GE187.out) | exact HB.out)⟩
                  · rw [if_neg c82] at H
                    have c82b0 : (t186 == 0) = false := beq_eq_false_iff_ne.mpr c82
                    have c82b1 : (t186 != 0) = true := bne_iff_ne.mpr c82
                    by_cases c96 : t185 = 0
                    · rw [if_pos c96] at H
                      have c96b0 : (t185 == 0) = true := beq_iff_eq.mpr c96
                      have c96b1 : (t185 != 0) = false := bne_eq_false_iff_eq.mpr c96
                      clear c96
                      obtain rfl := Option.some.inj H
                      have hnb97 := NB179_171.out
                      have hnc97 := NB171_179.out
                      have hnb98 := NB179_187.out
                      have hnc98 := NB187_179.out
                      have hcz99_0 : wc.cell? ⟨gb179, 0, none⟩ = some (.int .i64 t173) := (blk_cell BK179.out 0).trans rfl
                      have hcz99_1 : wc.cell? ⟨gb179, 1, none⟩ = some (.int .i64 t174) := (blk_cell BK179.out 1).trans rfl
                      have hcz99_2 : wc.cell? ⟨gb179, 2, none⟩ = some (.slice Ao21 t175.length co21) := (blk_cell BK179.out 2).trans rfl
                      have hfz99_0 := blk_frozen BK179.out 0
                      have hfz99_1 := blk_frozen BK179.out 1
                      have hfz99_2 := blk_frozen BK179.out 2
                      go_wp2
                      go_ret
                      exact ⟨by first | rfl | (simp [errW_none, errW_some] <;> rfl) | (simp [*, errW_none, errW_some] <;> rfl), by repeat (first | (with_reducible first | exact HB.out | apply below_alloc | apply pw_below_drewN | apply below_drew1 | refine below_set ?_ GE171.out | refine below_set ?_ GE179.out | refine below_set ?_ GE187.out) | exact HB.out)⟩
                    · rw [if_neg c96] at H
                      have c96b0 : (t185 == 0) = false := beq_eq_false_iff_ne.mpr c96
                      have c96b1 : (t185 != 0) = true := bne_iff_ne.mpr c96
                      exact Bool.noConfusion ((Option.some.inj H).trans hr_.out)

end Go.Proofs.Ytfdaaodpbaikdaa.PRateWrong
