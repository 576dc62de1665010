-- Written by a program of this session (wip/hprint.py), over the kit's print.py: the walk of one law. Lean checks it.
import Derived.Test.YtfdaaodpbaikdaaPRateTellsx0
import Derived.Test.YtfdaaodpbaikdaaPRateTellsx1
import Derived.Test.YtfdaaodpbaikdaaPRateTellsx3
import Derived.Test.YtfdaaodpbaikdaaPRateTellsx4
import Derived.Test.YtfdaaodpbaikdaaPRateTellsx6
namespace Go.Proofs.Ytfdaaodpbaikdaa.PRateTells
open Go.RowKit Go.Proofs.YtfdaaodpbaikdaaW.PrintWords Go.Proofs.YtfdaaodpbaikdaaW.PrintLast Go.Proofs.YtfdaaodpbaikdaaW.PrintMore
attribute [local go_sem] max2_int min2_int max_two min_two max_three min_three max_four min_four   -- for this text's walks alone
set_option linter.unusedVariables false
set_option linter.unusedSimpArgs false

/-! ### fourinhandlaw11_RateTells: function 3 -/
mutual
def fourinhandlaw11_RateTells.j0 : Nat → Int → Int → Int → Int → Bool → Bool → Int → Int → List Int → Option (Bool)
  | 0, _, _, _, _, _, _, _, _, _ => none
  | k + 1, x1, x2, x3, x4, x11, x34, x236000, x236001, x236002 => if x34 = true then (some x11) else ((fourinhandref11_Own.f x236000 x236001 x236002).bind fun bt237 => ((rate_Came.f k x236000 x236001 x236002 x1 x2).bind fun bt243 => ((fourinhandref11_Came.f k x236000 x236001 x236002 x1 x2).bind fun bt250 => ((fourinhandref11_Same.f k bt243.1 bt243.2.1 bt243.2.2.1 bt250.1 bt250.2.1 bt250.2.2.1).bind fun t257 => ((rate_Sample.f k x236000 x236001 x236002 x3 x4).bind fun bt258 => ((fourinhandref11_Sample.f k x236000 x236001 x236002 x3 x4).bind fun bt266 => ((fourinhandref11_Same.f k bt258.1 bt258.2.1 bt258.2.2.1 bt266.1 bt266.2.1 bt266.2.2.1).bind fun t274 => (if t257 = true then (if bt243.2.2.2 = bt250.2.2.2 then (if t274 = true then (if bt258.2.2.2.1 = bt266.2.2.2.1 then (fourinhandlaw11_RateTells.j1 k (bt258.2.2.2.2 == bt266.2.2.2.2) x236000 x236001 x236002 bt237.1 bt237.2.1 bt237.2.2) else (fourinhandlaw11_RateTells.j1 k false x236000 x236001 x236002 bt237.1 bt237.2.1 bt237.2.2)) else (fourinhandlaw11_RateTells.j1 k false x236000 x236001 x236002 bt237.1 bt237.2.1 bt237.2.2)) else (fourinhandlaw11_RateTells.j1 k false x236000 x236001 x236002 bt237.1 bt237.2.1 bt237.2.2)) else (fourinhandlaw11_RateTells.j1 k false x236000 x236001 x236002 bt237.1 bt237.2.1 bt237.2.2)))))))))
def fourinhandlaw11_RateTells.j1 : Nat → Bool → Int → Int → List Int → Int → Int → List Int → Option (Bool)
  | 0, _, _, _, _, _, _, _ => none
  | k + 1, x25, x236000, x236001, x236002, x243000, x243001, x243002 => if x25 = true then ((fourinhandref11_Same.f k x236000 x236001 x236002 x243000 x243001 x243002).bind fun t275 => (if t275 = true then ((rate_Best.f k x236000 x236001 x236002).bind fun t276 => ((fourinhandref11_Best.f k x236000 x236001 x236002).bind fun t277 => (if t276 = t277 then ((rate_May.f k x236000 x236001 x236002).bind fun t278 => ((fourinhandref11_May.f k x236000 x236001 x236002).bind fun t279 => (some (t278 == t279)))) else (some false)))) else (some false))) else (some false)
end
def fourinhandlaw11_RateTells.f (k : Nat) (a0_0 : Int) (a0_1 : Int) (l0_2 : List Int) (a1 : Int) (a2 : Int) (a3 : Int) (a4 : Int) : Option (Bool) := (fourinhandlaw11_awake.f k).bind fun t236 => (if t236 = true then (fourinhandlaw11_RateTells.j0 k a1 a2 a3 a4 t236 (decide ((l0_2.length : Int) > 40)) a0_0 a0_1 l0_2) else (fourinhandlaw11_RateTells.j0 k a1 a2 a3 a4 t236 true a0_0 a0_1 l0_2))
theorem fourinhandlaw11_RateTells.mono_l : ∀ k, (∀ y0 y1 y2 y3 y4 y5 y6 y7 y8, LeO (fourinhandlaw11_RateTells.j0 k y0 y1 y2 y3 y4 y5 y6 y7 y8) (fourinhandlaw11_RateTells.j0 (k + 1) y0 y1 y2 y3 y4 y5 y6 y7 y8)) ∧ (∀ y0 y1 y2 y3 y4 y5 y6, LeO (fourinhandlaw11_RateTells.j1 k y0 y1 y2 y3 y4 y5 y6) (fourinhandlaw11_RateTells.j1 (k + 1) y0 y1 y2 y3 y4 y5 y6))
  | 0 => ⟨fun _ _ _ _ _ _ _ _ _ r h => by simp [fourinhandlaw11_RateTells.j0] at h, fun _ _ _ _ _ _ _ r h => by simp [fourinhandlaw11_RateTells.j1] at h⟩
  | k + 1 => by
    obtain ⟨ih0, ih1⟩ := fourinhandlaw11_RateTells.mono_l k
    refine ⟨?_, ?_⟩
    · intro y0 y1 y2 y3 y4 y5 y6 y7 y8
      unfold fourinhandlaw11_RateTells.j0
      repeat' first
      | (with_reducible exact ih0 _ _ _ _ _ _ _ _ _)
      | (with_reducible exact ih1 _ _ _ _ _ _ _)
      | (with_reducible exact fourinhandlaw11_awake.mono _)
      | (with_reducible exact fourinhandref11_Best.mono _ _ _ _)
      | (with_reducible exact fourinhandref11_Came.mono _ _ _ _ _ _)
      | (with_reducible exact fourinhandref11_May.mono _ _ _ _)
      | (with_reducible exact fourinhandref11_Same.mono _ _ _ _ _ _ _)
      | (with_reducible exact fourinhandref11_Sample.mono _ _ _ _ _ _)
      | (with_reducible exact rate_Best.mono _ _ _ _)
      | (with_reducible exact rate_Came.mono _ _ _ _ _ _)
      | (with_reducible exact rate_May.mono _ _ _ _)
      | (with_reducible exact rate_Sample.mono _ _ _ _ _ _)
      | (with_reducible exact LeO.refl _)
      | (with_reducible exact LeO.none _)
      | (with_reducible refine LeO.ite ?_ ?_)
      | (with_reducible refine LeO.bind ?_ (fun _ => ?_))
      | exact ih0 _ _ _ _ _ _ _ _ _
      | exact ih1 _ _ _ _ _ _ _
      | exact fourinhandlaw11_awake.mono _
      | exact fourinhandref11_Best.mono _ _ _ _
      | exact fourinhandref11_Came.mono _ _ _ _ _ _
      | exact fourinhandref11_May.mono _ _ _ _
      | exact fourinhandref11_Same.mono _ _ _ _ _ _ _
      | exact fourinhandref11_Sample.mono _ _ _ _ _ _
      | exact rate_Best.mono _ _ _ _
      | exact rate_Came.mono _ _ _ _ _ _
      | exact rate_May.mono _ _ _ _
      | exact rate_Sample.mono _ _ _ _ _ _
      | exact LeO.none _
      | refine LeO.ite ?_ ?_
      | refine LeO.bind ?_ (fun _ => ?_)
    · intro y0 y1 y2 y3 y4 y5 y6
      unfold fourinhandlaw11_RateTells.j1
      repeat' first
      | (with_reducible exact ih0 _ _ _ _ _ _ _ _ _)
      | (with_reducible exact ih1 _ _ _ _ _ _ _)
      | (with_reducible exact fourinhandlaw11_awake.mono _)
      | (with_reducible exact fourinhandref11_Best.mono _ _ _ _)
      | (with_reducible exact fourinhandref11_Came.mono _ _ _ _ _ _)
      | (with_reducible exact fourinhandref11_May.mono _ _ _ _)
      | (with_reducible exact fourinhandref11_Same.mono _ _ _ _ _ _ _)
      | (with_reducible exact fourinhandref11_Sample.mono _ _ _ _ _ _)
      | (with_reducible exact rate_Best.mono _ _ _ _)
      | (with_reducible exact rate_Came.mono _ _ _ _ _ _)
      | (with_reducible exact rate_May.mono _ _ _ _)
      | (with_reducible exact rate_Sample.mono _ _ _ _ _ _)
      | (with_reducible exact LeO.refl _)
      | (with_reducible exact LeO.none _)
      | (with_reducible refine LeO.ite ?_ ?_)
      | (with_reducible refine LeO.bind ?_ (fun _ => ?_))
      | exact ih0 _ _ _ _ _ _ _ _ _
      | exact ih1 _ _ _ _ _ _ _
      | exact fourinhandlaw11_awake.mono _
      | exact fourinhandref11_Best.mono _ _ _ _
      | exact fourinhandref11_Came.mono _ _ _ _ _ _
      | exact fourinhandref11_May.mono _ _ _ _
      | exact fourinhandref11_Same.mono _ _ _ _ _ _ _
      | exact fourinhandref11_Sample.mono _ _ _ _ _ _
      | exact rate_Best.mono _ _ _ _
      | exact rate_Came.mono _ _ _ _ _ _
      | exact rate_May.mono _ _ _ _
      | exact rate_Sample.mono _ _ _ _ _ _
      | exact LeO.none _
      | refine LeO.ite ?_ ?_
      | refine LeO.bind ?_ (fun _ => ?_)
theorem fourinhandlaw11_RateTells.mono : ∀ a0 a1 a2 a3 a4 a5 a6 k, LeO (fourinhandlaw11_RateTells.f k a0 a1 a2 a3 a4 a5 a6) (fourinhandlaw11_RateTells.f (k + 1) a0 a1 a2 a3 a4 a5 a6) := by
  intro a0 a1 a2 a3 a4 a5 a6 k
  obtain ⟨ih0, ih1⟩ := fourinhandlaw11_RateTells.mono_l k
  unfold fourinhandlaw11_RateTells.f
  repeat' first
      | (with_reducible exact ih0 _ _ _ _ _ _ _ _ _)
      | (with_reducible exact ih1 _ _ _ _ _ _ _)
      | (with_reducible exact fourinhandlaw11_awake.mono _)
      | (with_reducible exact fourinhandref11_Best.mono _ _ _ _)
      | (with_reducible exact fourinhandref11_Came.mono _ _ _ _ _ _)
      | (with_reducible exact fourinhandref11_May.mono _ _ _ _)
      | (with_reducible exact fourinhandref11_Same.mono _ _ _ _ _ _ _)
      | (with_reducible exact fourinhandref11_Sample.mono _ _ _ _ _ _)
      | (with_reducible exact rate_Best.mono _ _ _ _)
      | (with_reducible exact rate_Came.mono _ _ _ _ _ _)
      | (with_reducible exact rate_May.mono _ _ _ _)
      | (with_reducible exact rate_Sample.mono _ _ _ _ _ _)
      | (with_reducible exact LeO.refl _)
      | (with_reducible exact LeO.none _)
      | (with_reducible refine LeO.ite ?_ ?_)
      | (with_reducible refine LeO.bind ?_ (fun _ => ?_))
      | exact ih0 _ _ _ _ _ _ _ _ _
      | exact ih1 _ _ _ _ _ _ _
      | exact fourinhandlaw11_awake.mono _
      | exact fourinhandref11_Best.mono _ _ _ _
      | exact fourinhandref11_Came.mono _ _ _ _ _ _
      | exact fourinhandref11_May.mono _ _ _ _
      | exact fourinhandref11_Same.mono _ _ _ _ _ _ _
      | exact fourinhandref11_Sample.mono _ _ _ _ _ _
      | exact rate_Best.mono _ _ _ _
      | exact rate_Came.mono _ _ _ _ _ _
      | exact rate_May.mono _ _ _ _
      | exact rate_Sample.mono _ _ _ _ _ _
      | exact LeO.none _
      | refine LeO.ite ?_ ?_
      | refine LeO.bind ?_ (fun _ => ?_)
def fourinhandlaw11_RateTells.T12 : Bool × List (List Nat × List Nat) := (true, [([], []), ([0], [0]), ([1], [1]), ([1], [1]), ([2, 3, 1, 1], [1, 2, 3]), ([1, 4], [1, 4]), ([5, 4], [5]), ([6], [6]), ([7, 6, 6], [6, 7]), ([6], [6]), ([9, 8, 6], [6, 9]), ([8, 10, 6], [6, 8, 10]), ([6, 11], [6, 11]), ([12, 10], [12]), ([13], [13]), ([14, 13, 13], [13, 14]), ([13], [13]), ([16, 15, 13], [13, 16]), ([15, 17, 13], [13, 15, 17]), ([13, 18], [13, 18]), ([19, 17, 0, 1, 2, 3, 4, 5, 6, 7, 8, 9, 10, 11, 12, 13, 14, 15, 16, 17, 18, 19], [19])])
def fourinhandlaw11_RateTells.B12 : List Nat := [0, 1, 3, 3, 15, 31, 63, 127, 255, 127, 1023, 2047, 4095, 8191, 16383, 32767, 16383, 131071, 262143, 524287, 1048575]
theorem fourinhandlaw11_RateTells.tab12 : rtab .any (opsOf Try.f3 12) = fourinhandlaw11_RateTells.T12 := by kernel_rfl
theorem fourinhandlaw11_RateTells.bits12 : waitsOk fourinhandlaw11_RateTells.T12.2 fourinhandlaw11_RateTells.B12 = true := by kernel_rfl
set_option maxHeartbeats 8000000 in
set_option maxRecDepth 100000 in
theorem fourinhandlaw11_RateTells.calls (k : Nat) (a0_0 : Int) (a0_1 : Int) (A0_2 : Option Addr) (c0_2 : Nat) (l0_2 : List Int) (a1 : Int) (a2 : Int) (a3 : Int) (a4 : Int) (r : Bool) (hr_ : Aside0 (r = true)) (w : World) (hr0_2 : Kd.C (Kd.int .i64) w A0_2 l0_2.length l0_2) (hc0_2 : l0_2.length ≤ c0_2) (h : fourinhandlaw11_RateTells.f k a0_0 a0_1 l0_2 a1 a2 a3 a4 = some r) :
    Calls Try.prog 3 #[.agg #[.int .i64 a0_0, .int .i64 a0_1, .slice A0_2 l0_2.length c0_2], .int .i64 a1, .int .i64 a2, .int .i64 a3, .int .i64 a4] w fun e w' => e = .returned (.bool r) ∧ Below w.heap.size w w' := by
  have hu24 := Try.underlying24
  have HR0_2 := Aside0.mk hr0_2
  have HC0_2 := Aside0.mk hc0_2
  clear hr0_2 hc0_2
  have HB := Aside0.mk (Below.refl w.heap.size w)
  have H : ((fourinhandlaw11_awake.f k).bind fun t236 => (if t236 = true then (fourinhandlaw11_RateTells.j0 k a1 a2 a3 a4 t236 (decide ((l0_2.length : Int) > 40)) a0_0 a0_1 l0_2) else (fourinhandlaw11_RateTells.j0 k a1 a2 a3 a4 t236 true a0_0 a0_1 l0_2))) = some r := h
  clear h
  replace H := Option.bind_eq_some_iff.mp H
  obtain ⟨t236, A60, H⟩ := H
  replace H : (if t236 = true then (fourinhandlaw11_RateTells.j0 k a1 a2 a3 a4 t236 (decide ((l0_2.length : Int) > 40)) a0_0 a0_1 l0_2) else (fourinhandlaw11_RateTells.j0 k a1 a2 a3 a4 t236 true a0_0 a0_1 l0_2)) = some r := H
  have A6 := Aside0.mk A60
  clear A60
  have HC7 := Aside0.mk H
  clear H
  go_enter Try.func3, Try.ntmps3
  go_upto_region 2 with (first | ((with_reducible refine gate_dst (N := 5) rfl ?_); (try (refine gate_guard (by rfl) ?_; dsimp only)); refine box_event ?hg (N := 5) ?hd (cs := #[.int .i64 a0_0, .int .i64 a0_1, .slice A0_2 l0_2.length c0_2]) (t := 24) ?hr ?_; (case hd => rfl); (case hg => rfl); (case hr => first | (go_simp; done) | (go_simp; rfl)); intro gb235 hg w8 hbox hb; have n0_ := Aside0.mk (below_step (by repeat (first | (with_reducible first | exact HB.out | apply below_alloc | apply pw_below_drewN | apply below_drew1) | exact HB.out)) hb); have n1_ := Aside0.mk (hbox); have n2_ := Aside0.mk ((by rw [hg]; exact (below_size (by repeat (first | (with_reducible first | exact HB.out | apply below_alloc | apply pw_below_drewN | apply below_drew1) | exact HB.out))) : w.heap.size ≤ gb235)); have n3_ := Aside0.mk ((by rw [hg]; exact (below_size (by repeat (first | (with_reducible first | exact HB.out | apply below_alloc | apply pw_below_drewN | apply below_drew1) | exact HB.out))) : w.heap.size ≤ gb235)); clear HB; have HB := n0_; have BK235 := n1_; have GW235 := n2_; have GE235 := n3_; clear n0_ n1_ n2_ n3_; clear hb hbox hg) | ((with_reducible refine gate_callee (f := 8) rfl ?_); refine goesL_ (some 26) rfl rfl Try.func8 (by kernel_rfl) rfl #[] rfl (by (try simp only [List.map_toArray, List.map_cons, List.map_nil]); first | done | rfl | (simp only [List.length_drop, List.length_take]; rfl)) ?_; (with_reducible refine (fourinhandlaw11_awake.calls k  t236 _ A6.out).mono ?_); rintro e w9 ⟨rfl, hb⟩; refine ⟨_, rfl, ?_⟩; have n0_ := Aside0.mk (blk_below (g := gb235) (o := .cells #[.int .i64 a0_0, .int .i64 a0_1, .slice A0_2 l0_2.length c0_2] 24 (0, 0)) (by (with_reducible repeat (first | refine blk_drewN ?_ _ | refine blk_drew ?_ | refine blk_alloc ?_ _)); exact BK235.out) hb); have n1_ := Aside0.mk (below_step (by repeat (first | (with_reducible first | exact HB.out | apply below_alloc | apply pw_below_drewN | apply below_drew1 | refine below_set ?_ GE235.out) | exact HB.out)) hb); clear BK235; clear HB; have BK235 := n0_; have HB := n1_; clear n0_ n1_; (try clear hb); (try clear hb2); (try clear hk); (try clear hi)))
  (try simp only [Act.put, List.setIfInBounds_toArray, List.set_cons_zero, List.set_cons_succ])
  go_cut [34] (fun v34 wc => ∃ (kq : Nat) (x34_6 : Bool), v34 = .bool x34_6 ∧ Aside0 (fourinhandlaw11_RateTells.j0 kq a1 a2 a3 a4 t236 x34_6 a0_0 a0_1 l0_2 = some r) ∧ Aside0 (kq ≤ k) ∧ Aside0 (wc.heap[gb235]? = some (.cells #[.int .i64 a0_0, .int .i64 a0_1, (.slice A0_2 l0_2.length c0_2)] 24 (0, 0))) ∧ Aside0 (Below w.heap.size w wc))
  case first =>
    have H := HC7.out
    clear HC7
    by_cases c10 : t236 = true
    · subst c10
      have H1 : (fourinhandlaw11_RateTells.j0 k a1 a2 a3 a4 true (decide ((l0_2.length : Int) > 40)) a0_0 a0_1 l0_2) = some r := by rw [if_pos rfl] at H; exact H
      clear H
      have H := H1
      clear H1
      have H' := Aside0.mk H
      clear H
      have hcz11_0 : w9.cell? ⟨gb235, 0, none⟩ = some (.int .i64 a0_0) := (blk_cell BK235.out 0).trans rfl
      have hcz11_1 : w9.cell? ⟨gb235, 1, none⟩ = some (.int .i64 a0_1) := (blk_cell BK235.out 1).trans rfl
      have hcz11_2 : w9.cell? ⟨gb235, 2, none⟩ = some (.slice A0_2 l0_2.length c0_2) := (blk_cell BK235.out 2).trans rfl
      have hfz11_0 := blk_frozen BK235.out 0
      have hfz11_1 := blk_frozen BK235.out 1
      have hfz11_2 := blk_frozen BK235.out 2
      go_wp2
      go_meet
      case rel => exact ⟨_, (decide ((l0_2.length : Int) > 40)), (by first | rfl | (simp; done) | (simp [*]; done)), H', ⟨by first | omega | exact Nat.le_refl _⟩, ⟨by (with_reducible repeat (first | refine blk_drewN ?_ _ | refine blk_drew ?_ | refine blk_alloc ?_ _)); exact BK235.out⟩, ⟨by repeat (first | (with_reducible first | exact HB.out | apply below_alloc | apply pw_below_drewN | apply below_drew1 | refine below_set ?_ GE235.out) | exact HB.out)⟩⟩
    · replace c10 := Bool.eq_false_iff.mpr c10
      subst c10
      have H1 : (fourinhandlaw11_RateTells.j0 k a1 a2 a3 a4 false true a0_0 a0_1 l0_2) = some r := by rw [if_neg (show ¬ (false = true) by decide)] at H; exact H
      clear H
      have H := H1
      clear H1
      have H' := Aside0.mk H
      clear H
      go_wp2
      go_meet
      case rel => exact ⟨_, (true), (by first | rfl | (simp; done) | (simp [*]; done)), H', ⟨by first | omega | exact Nat.le_refl _⟩, ⟨by (with_reducible repeat (first | refine blk_drewN ?_ _ | refine blk_drew ?_ | refine blk_alloc ?_ _)); exact BK235.out⟩, ⟨by repeat (first | (with_reducible first | exact HB.out | apply below_alloc | apply pw_below_drewN | apply below_drew1 | refine below_set ?_ GE235.out) | exact HB.out)⟩⟩
  case rest =>
    clear HC7
    try clear c1
    try clear p2
    try clear c3
    try clear c8
    try clear c10
    try clear hcz11_0
    try clear hcz11_1
    try clear hcz11_2
    try clear hfz11_0
    try clear hfz11_1
    try clear hfz11_2
    obtain ⟨kq, x34_6, rfl, HA, HJ6, BK235, HB⟩ := hcut
    cases kq with
    | zero => exact absurd HA.out (by simp [fourinhandlaw11_RateTells.j0])
    | succ kj6 =>
      have H := HA.out
      clear HA
      simp only [fourinhandlaw11_RateTells.j0] at H
      by_cases c12 : x34_6 = true
      · subst c12
        have H1 : (some t236) = some r := by rw [if_pos rfl] at H; exact H
        clear H
        have H := H1
        clear H1
        obtain rfl := Option.some.inj H
        go_wp2
        go_ret
        exact ⟨by first | rfl | (simp [errW_none, errW_some] <;> rfl) | (simp [*, errW_none, errW_some] <;> rfl), by repeat (first | (with_reducible first | exact HB.out | apply below_alloc | apply pw_below_drewN | apply below_drew1 | refine below_set ?_ GE235.out) | exact HB.out)⟩
      · replace c12 := Bool.eq_false_iff.mpr c12
        subst c12
        have H1 : ((fourinhandref11_Own.f a0_0 a0_1 l0_2).bind fun bt237 => ((rate_Came.f kj6 a0_0 a0_1 l0_2 a1 a2).bind fun bt243 => ((fourinhandref11_Came.f kj6 a0_0 a0_1 l0_2 a1 a2).bind fun bt250 => ((fourinhandref11_Same.f kj6 bt243.1 bt243.2.1 bt243.2.2.1 bt250.1 bt250.2.1 bt250.2.2.1).bind fun t257 => ((rate_Sample.f kj6 a0_0 a0_1 l0_2 a3 a4).bind fun bt258 => ((fourinhandref11_Sample.f kj6 a0_0 a0_1 l0_2 a3 a4).bind fun bt266 => ((fourinhandref11_Same.f kj6 bt258.1 bt258.2.1 bt258.2.2.1 bt266.1 bt266.2.1 bt266.2.2.1).bind fun t274 => (if t257 = true then (if bt243.2.2.2 = bt250.2.2.2 then (if t274 = true then (if bt258.2.2.2.1 = bt266.2.2.2.1 then (fourinhandlaw11_RateTells.j1 kj6 (bt258.2.2.2.2 == bt266.2.2.2.2) a0_0 a0_1 l0_2 bt237.1 bt237.2.1 bt237.2.2) else (fourinhandlaw11_RateTells.j1 kj6 false a0_0 a0_1 l0_2 bt237.1 bt237.2.1 bt237.2.2)) else (fourinhandlaw11_RateTells.j1 kj6 false a0_0 a0_1 l0_2 bt237.1 bt237.2.1 bt237.2.2)) else (fourinhandlaw11_RateTells.j1 kj6 false a0_0 a0_1 l0_2 bt237.1 bt237.2.1 bt237.2.2)) else (fourinhandlaw11_RateTells.j1 kj6 false a0_0 a0_1 l0_2 bt237.1 bt237.2.1 bt237.2.2))))))))) = some r := by rw [if_neg (show ¬ (false = true) by decide)] at H; exact H
        clear H
        have H := H1
        clear H1
        replace H := Option.bind_eq_some_iff.mp H
        obtain ⟨⟨t237, t238, t239⟩, A130, H⟩ := H
        replace H : ((rate_Came.f kj6 a0_0 a0_1 l0_2 a1 a2).bind fun bt243 => ((fourinhandref11_Came.f kj6 a0_0 a0_1 l0_2 a1 a2).bind fun bt250 => ((fourinhandref11_Same.f kj6 bt243.1 bt243.2.1 bt243.2.2.1 bt250.1 bt250.2.1 bt250.2.2.1).bind fun t257 => ((rate_Sample.f kj6 a0_0 a0_1 l0_2 a3 a4).bind fun bt258 => ((fourinhandref11_Sample.f kj6 a0_0 a0_1 l0_2 a3 a4).bind fun bt266 => ((fourinhandref11_Same.f kj6 bt258.1 bt258.2.1 bt258.2.2.1 bt266.1 bt266.2.1 bt266.2.2.1).bind fun t274 => (if t257 = true then (if bt243.2.2.2 = bt250.2.2.2 then (if t274 = true then (if bt258.2.2.2.1 = bt266.2.2.2.1 then (fourinhandlaw11_RateTells.j1 kj6 (bt258.2.2.2.2 == bt266.2.2.2.2) a0_0 a0_1 l0_2 t237 t238 t239) else (fourinhandlaw11_RateTells.j1 kj6 false a0_0 a0_1 l0_2 t237 t238 t239)) else (fourinhandlaw11_RateTells.j1 kj6 false a0_0 a0_1 l0_2 t237 t238 t239)) else (fourinhandlaw11_RateTells.j1 kj6 false a0_0 a0_1 l0_2 t237 t238 t239)) else (fourinhandlaw11_RateTells.j1 kj6 false a0_0 a0_1 l0_2 t237 t238 t239)))))))) = some r := H
        have A13 := Aside0.mk A130
        clear A130
        replace H := Option.bind_eq_some_iff.mp H
        obtain ⟨⟨t243, t244, t245, t248⟩, A140, H⟩ := H
        replace H : ((fourinhandref11_Came.f kj6 a0_0 a0_1 l0_2 a1 a2).bind fun bt250 => ((fourinhandref11_Same.f kj6 t243 t244 t245 bt250.1 bt250.2.1 bt250.2.2.1).bind fun t257 => ((rate_Sample.f kj6 a0_0 a0_1 l0_2 a3 a4).bind fun bt258 => ((fourinhandref11_Sample.f kj6 a0_0 a0_1 l0_2 a3 a4).bind fun bt266 => ((fourinhandref11_Same.f kj6 bt258.1 bt258.2.1 bt258.2.2.1 bt266.1 bt266.2.1 bt266.2.2.1).bind fun t274 => (if t257 = true then (if t248 = bt250.2.2.2 then (if t274 = true then (if bt258.2.2.2.1 = bt266.2.2.2.1 then (fourinhandlaw11_RateTells.j1 kj6 (bt258.2.2.2.2 == bt266.2.2.2.2) a0_0 a0_1 l0_2 t237 t238 t239) else (fourinhandlaw11_RateTells.j1 kj6 false a0_0 a0_1 l0_2 t237 t238 t239)) else (fourinhandlaw11_RateTells.j1 kj6 false a0_0 a0_1 l0_2 t237 t238 t239)) else (fourinhandlaw11_RateTells.j1 kj6 false a0_0 a0_1 l0_2 t237 t238 t239)) else (fourinhandlaw11_RateTells.j1 kj6 false a0_0 a0_1 l0_2 t237 t238 t239))))))) = some r := H
        have A14 := Aside0.mk A140
        clear A140
        replace H := Option.bind_eq_some_iff.mp H
        obtain ⟨⟨t250, t251, t252, t255⟩, A150, H⟩ := H
        replace H : ((fourinhandref11_Same.f kj6 t243 t244 t245 t250 t251 t252).bind fun t257 => ((rate_Sample.f kj6 a0_0 a0_1 l0_2 a3 a4).bind fun bt258 => ((fourinhandref11_Sample.f kj6 a0_0 a0_1 l0_2 a3 a4).bind fun bt266 => ((fourinhandref11_Same.f kj6 bt258.1 bt258.2.1 bt258.2.2.1 bt266.1 bt266.2.1 bt266.2.2.1).bind fun t274 => (if t257 = true then (if t248 = t255 then (if t274 = true then (if bt258.2.2.2.1 = bt266.2.2.2.1 then (fourinhandlaw11_RateTells.j1 kj6 (bt258.2.2.2.2 == bt266.2.2.2.2) a0_0 a0_1 l0_2 t237 t238 t239) else (fourinhandlaw11_RateTells.j1 kj6 false a0_0 a0_1 l0_2 t237 t238 t239)) else (fourinhandlaw11_RateTells.j1 kj6 false a0_0 a0_1 l0_2 t237 t238 t239)) else (fourinhandlaw11_RateTells.j1 kj6 false a0_0 a0_1 l0_2 t237 t238 t239)) else (fourinhandlaw11_RateTells.j1 kj6 false a0_0 a0_1 l0_2 t237 t238 t239)))))) = some r := H
        have A15 := Aside0.mk A150
        clear A150
        replace H := Option.bind_eq_some_iff.mp H
        obtain ⟨t257, A160, H⟩ := H
        replace H : ((rate_Sample.f kj6 a0_0 a0_1 l0_2 a3 a4).bind fun bt258 => ((fourinhandref11_Sample.f kj6 a0_0 a0_1 l0_2 a3 a4).bind fun bt266 => ((fourinhandref11_Same.f kj6 bt258.1 bt258.2.1 bt258.2.2.1 bt266.1 bt266.2.1 bt266.2.2.1).bind fun t274 => (if t257 = true then (if t248 = t255 then (if t274 = true then (if bt258.2.2.2.1 = bt266.2.2.2.1 then (fourinhandlaw11_RateTells.j1 kj6 (bt258.2.2.2.2 == bt266.2.2.2.2) a0_0 a0_1 l0_2 t237 t238 t239) else (fourinhandlaw11_RateTells.j1 kj6 false a0_0 a0_1 l0_2 t237 t238 t239)) else (fourinhandlaw11_RateTells.j1 kj6 false a0_0 a0_1 l0_2 t237 t238 t239)) else (fourinhandlaw11_RateTells.j1 kj6 false a0_0 a0_1 l0_2 t237 t238 t239)) else (fourinhandlaw11_RateTells.j1 kj6 false a0_0 a0_1 l0_2 t237 t238 t239))))) = some r := H
        have A16 := Aside0.mk A160
        clear A160
        replace H := Option.bind_eq_some_iff.mp H
        obtain ⟨⟨t258, t259, t260, t263, t264⟩, A170, H⟩ := H
        replace H : ((fourinhandref11_Sample.f kj6 a0_0 a0_1 l0_2 a3 a4).bind fun bt266 => ((fourinhandref11_Same.f kj6 t258 t259 t260 bt266.1 bt266.2.1 bt266.2.2.1).bind fun t274 => (if t257 = true then (if t248 = t255 then (if t274 = true then (if t263 = bt266.2.2.2.1 then (fourinhandlaw11_RateTells.j1 kj6 (t264 == bt266.2.2.2.2) a0_0 a0_1 l0_2 t237 t238 t239) else (fourinhandlaw11_RateTells.j1 kj6 false a0_0 a0_1 l0_2 t237 t238 t239)) else (fourinhandlaw11_RateTells.j1 kj6 false a0_0 a0_1 l0_2 t237 t238 t239)) else (fourinhandlaw11_RateTells.j1 kj6 false a0_0 a0_1 l0_2 t237 t238 t239)) else (fourinhandlaw11_RateTells.j1 kj6 false a0_0 a0_1 l0_2 t237 t238 t239)))) = some r := H
        have A17 := Aside0.mk A170
        clear A170
        replace H := Option.bind_eq_some_iff.mp H
        obtain ⟨⟨t266, t267, t268, t271, t272⟩, A180, H⟩ := H
        replace H : ((fourinhandref11_Same.f kj6 t258 t259 t260 t266 t267 t268).bind fun t274 => (if t257 = true then (if t248 = t255 then (if t274 = true then (if t263 = t271 then (fourinhandlaw11_RateTells.j1 kj6 (t264 == t272) a0_0 a0_1 l0_2 t237 t238 t239) else (fourinhandlaw11_RateTells.j1 kj6 false a0_0 a0_1 l0_2 t237 t238 t239)) else (fourinhandlaw11_RateTells.j1 kj6 false a0_0 a0_1 l0_2 t237 t238 t239)) else (fourinhandlaw11_RateTells.j1 kj6 false a0_0 a0_1 l0_2 t237 t238 t239)) else (fourinhandlaw11_RateTells.j1 kj6 false a0_0 a0_1 l0_2 t237 t238 t239))) = some r := H
        have A18 := Aside0.mk A180
        clear A180
        replace H := Option.bind_eq_some_iff.mp H
        obtain ⟨t274, A190, H⟩ := H
        replace H : (if t257 = true then (if t248 = t255 then (if t274 = true then (if t263 = t271 then (fourinhandlaw11_RateTells.j1 kj6 (t264 == t272) a0_0 a0_1 l0_2 t237 t238 t239) else (fourinhandlaw11_RateTells.j1 kj6 false a0_0 a0_1 l0_2 t237 t238 t239)) else (fourinhandlaw11_RateTells.j1 kj6 false a0_0 a0_1 l0_2 t237 t238 t239)) else (fourinhandlaw11_RateTells.j1 kj6 false a0_0 a0_1 l0_2 t237 t238 t239)) else (fourinhandlaw11_RateTells.j1 kj6 false a0_0 a0_1 l0_2 t237 t238 t239)) = some r := H
        have A19 := Aside0.mk A190
        clear A190
        have HC20 := Aside0.mk H
        clear H
        have hcz21_0 : wc.cell? ⟨gb235, 0, none⟩ = some (.int .i64 a0_0) := (blk_cell BK235.out 0).trans rfl
        have hcz21_1 : wc.cell? ⟨gb235, 1, none⟩ = some (.int .i64 a0_1) := (blk_cell BK235.out 1).trans rfl
        have hcz21_2 : wc.cell? ⟨gb235, 2, none⟩ = some (.slice A0_2 l0_2.length c0_2) := (blk_cell BK235.out 2).trans rfl
        have hfz21_0 := blk_frozen BK235.out 0
        have hfz21_1 := blk_frozen BK235.out 1
        have hfz21_2 := blk_frozen BK235.out 2
        go_upto_region 11 with (first | ((with_reducible refine gate_callee (f := 9) rfl ?_); refine goesL_ (some 37) rfl rfl Try.func9 (by kernel_rfl) rfl #[.agg #[.int .i64 a0_0, .int .i64 a0_1, .slice A0_2 l0_2.length c0_2]] rfl (by (try simp only [List.map_toArray, List.map_cons, List.map_nil]); first | done | rfl | (simp only [List.length_drop, List.length_take]; rfl)) ?_; (with_reducible refine (fourinhandref11_Own.calls a0_0 a0_1 _ _ l0_2 t237 t238 t239 _ ?side1 ?side2 A13.out).mono ?_); (case side1 => repeat (first | exact (Kd.C_below HR0_2.out HB.out) | (with_reducible refine Kd.C_alloc ?_ _) | (with_reducible refine Kd.C_drewN ?_ _) | (with_reducible refine Kd.C_drew ?_))); (case side2 => exact HC0_2.out); rintro e w22 ⟨v240, rfl, ho0, hb⟩; refine ⟨_, rfl, ?_⟩; have n0_ := Aside0.mk (Kd.R_lower ho0 (below_size (by repeat (first | (with_reducible first | exact HB.out | apply below_alloc | apply pw_below_drewN | apply below_drew1 | refine below_set ?_ GE235.out) | exact HB.out)))); have n1_ := Aside0.mk (blk_below (g := gb235) (o := .cells #[.int .i64 a0_0, .int .i64 a0_1, .slice A0_2 l0_2.length c0_2] 24 (0, 0)) (by (with_reducible repeat (first | refine blk_drewN ?_ _ | refine blk_drew ?_ | refine blk_alloc ?_ _)); exact BK235.out) hb); have n2_ := Aside0.mk (below_step (by repeat (first | (with_reducible first | exact HB.out | apply below_alloc | apply pw_below_drewN | apply below_drew1 | refine below_set ?_ GE235.out) | exact HB.out)) hb); clear BK235; clear HB; have HO241 := n0_; have BK235 := n1_; have HB := n2_; clear n0_ n1_ n2_; (try clear hb); (try clear hb2); (try clear hk); (try clear hi); (try clear ho0)) | ((with_reducible refine gate_dst (N := 12) rfl ?_); (try (refine gate_guard (by rfl) ?_; dsimp only)); refine box_event ?hg (N := 12) ?hd (cs := #[.int .i64 0, .int .i64 0, .slice none 0 0]) (t := 24) ?hr ?_; (case hd => rfl); (case hg => rfl); (case hr => first | (go_simp; done) | (go_simp; rfl)); intro gb242 hg w23 hbox hb; have n0_ := Aside0.mk (Kd.R_below (by (with_reducible repeat (first | apply Kd.R_alloc | apply Kd.R_drewN | apply Kd.R_drew)); exact HO241.out) hb); have n1_ := Aside0.mk (blk_below (g := gb235) (o := .cells #[.int .i64 a0_0, .int .i64 a0_1, .slice A0_2 l0_2.length c0_2] 24 (0, 0)) (by (with_reducible repeat (first | refine blk_drewN ?_ _ | refine blk_drew ?_ | refine blk_alloc ?_ _)); exact BK235.out) hb); have n2_ := Aside0.mk (below_step (by repeat (first | (with_reducible first | exact HB.out | apply below_alloc | apply pw_below_drewN | apply below_drew1 | refine below_set ?_ GE235.out) | exact HB.out)) hb); have n3_ := Aside0.mk (hbox); have n4_ := Aside0.mk ((by rw [hg]; exact (below_size (by repeat (first | (with_reducible first | exact HB.out | apply below_alloc | apply pw_below_drewN | apply below_drew1 | refine below_set ?_ GE235.out) | exact HB.out))) : w.heap.size ≤ gb242)); have n5_ := Aside0.mk ((by rw [hg]; exact (below_size (by repeat (first | (with_reducible first | exact HB.out | apply below_alloc | apply pw_below_drewN | apply below_drew1 | refine below_set ?_ GE235.out) | exact HB.out))) : w.heap.size ≤ gb242)); have n6_ := Aside0.mk ((by rw [hg]; exact Nat.ne_of_lt (blk_lt (g := gb235) (o := .cells #[.int .i64 a0_0, .int .i64 a0_1, .slice A0_2 l0_2.length c0_2] 24 (0, 0)) (by (with_reducible repeat (first | refine blk_drewN ?_ _ | refine blk_drew ?_ | refine blk_alloc ?_ _)); exact BK235.out)) : gb235 ≠ gb242)); have n7_ := Aside0.mk ((by rw [hg]; exact Nat.ne_of_gt (blk_lt (g := gb235) (o := .cells #[.int .i64 a0_0, .int .i64 a0_1, .slice A0_2 l0_2.length c0_2] 24 (0, 0)) (by (with_reducible repeat (first | refine blk_drewN ?_ _ | refine blk_drew ?_ | refine blk_alloc ?_ _)); exact BK235.out)) : gb242 ≠ gb235)); clear HO241; clear BK235; clear HB; have HO241 := n0_; have BK235 := n1_; have HB := n2_; have BK242 := n3_; have GW242 := n4_; have GE242 := n5_; have NB235_242 := n6_; have NB242_235 := n7_; clear n0_ n1_ n2_ n3_ n4_ n5_ n6_ n7_; clear hb hbox hg; have hnb24 := NB242_235.out; have hnc24 := NB235_242.out; have hcz25_0 : w23.cell? ⟨gb242, 0, none⟩ = some (.int .i64 0) := (blk_cell BK242.out 0).trans rfl; have hcz25_1 : w23.cell? ⟨gb242, 1, none⟩ = some (.int .i64 0) := (blk_cell BK242.out 1).trans rfl; have hcz25_2 : w23.cell? ⟨gb242, 2, none⟩ = some (.slice none 0 0) := (blk_cell BK242.out 2).trans rfl; have hfz25_0 := blk_frozen BK242.out 0; have hfz25_1 := blk_frozen BK242.out 1; have hfz25_2 := blk_frozen BK242.out 2; obtain ⟨Ao26, co26, eo26⟩ := Kd.R_slice HO241.out; subst eo26; have hcz27_0 : w23.cell? ⟨gb235, 0, none⟩ = some (.int .i64 a0_0) := (blk_cell BK235.out 0).trans rfl; have hcz27_1 : w23.cell? ⟨gb235, 1, none⟩ = some (.int .i64 a0_1) := (blk_cell BK235.out 1).trans rfl; have hcz27_2 : w23.cell? ⟨gb235, 2, none⟩ = some (.slice A0_2 l0_2.length c0_2) := (blk_cell BK235.out 2).trans rfl; have hfz27_0 := blk_frozen BK235.out 0; have hfz27_1 := blk_frozen BK235.out 1; have hfz27_2 := blk_frozen BK235.out 2) | ((with_reducible refine gate_callee (f := 10) rfl ?_); refine goesL_ (some 42) rfl rfl Try.func10 (by kernel_rfl) rfl #[.agg #[.int .i64 a0_0, .int .i64 a0_1, .slice A0_2 l0_2.length c0_2], .int .i64 a1, .int .i64 a2] rfl (by (try simp only [List.map_toArray, List.map_cons, List.map_nil]); first | done | rfl | (simp only [List.length_drop, List.length_take]; rfl)) ?_; (with_reducible refine (rate_Came.calls kj6 a0_0 a0_1 _ _ l0_2 a1 a2 t243 t244 t245 t248 _ ?side1 ?side2 A14.out).mono ?_); (case side1 => exact Kd.C_below HR0_2.out (by repeat (first | (with_reducible first | exact HB.out | apply below_alloc | apply pw_below_drewN | apply below_drew1 | refine below_set ?_ GE235.out | refine below_set ?_ GE242.out) | exact HB.out))); (case side2 => exact HC0_2.out); rintro e w28 ⟨v246, rfl, ho0, hb⟩; refine ⟨_, rfl, ?_⟩; have n0_ := Aside0.mk (Kd.R_elder' (by (with_reducible repeat (first | apply Kd.R_alloc | apply Kd.R_drewN | apply Kd.R_drew)); exact (Kd.R_mono (Kd.R_far (p := ⟨gb242, 2, none⟩) (Kd.R_far (p := ⟨gb242, 1, none⟩) (Kd.R_far (p := ⟨gb242, 0, none⟩) (Kd.R_types HO241.out BK242.out (by decide)) (fun _ hk => hk.2) (.int .i64 t237)) (fun _ hk => hk.2) (.int .i64 t238)) (fun _ hk => hk.2) (.slice Ao26 t239.length co26)) (fun _ h_ => h_.1))) (Kd.R_base ho0) hb); have n1_ := Aside0.mk (Kd.R_lower (Kd.R_new' ho0 (Kd.R_lt (by (with_reducible repeat (first | apply Kd.R_alloc | apply Kd.R_drewN | apply Kd.R_drew)); exact (Kd.R_mono (Kd.R_far (p := ⟨gb242, 2, none⟩) (Kd.R_far (p := ⟨gb242, 1, none⟩) (Kd.R_far (p := ⟨gb242, 0, none⟩) (Kd.R_types HO241.out BK242.out (by decide)) (fun _ hk => hk.2) (.int .i64 t237)) (fun _ hk => hk.2) (.int .i64 t238)) (fun _ hk => hk.2) (.slice Ao26 t239.length co26)) (fun _ h_ => h_.1))))) (below_size (by repeat (first | (with_reducible first | exact HB.out | apply below_alloc | apply pw_below_drewN | apply below_drew1 | refine below_set ?_ GE235.out | refine below_set ?_ GE242.out) | exact HB.out)))); have n2_ := Aside0.mk (blk_below (g := gb235) (o := .cells #[.int .i64 a0_0, .int .i64 a0_1, .slice A0_2 l0_2.length c0_2] 24 (0, 0)) (by (with_reducible repeat (first | refine blk_drewN ?_ _ | refine blk_drew ?_ | refine blk_alloc ?_ _)); refine blk_far ?_ NB235_242.out _; (with_reducible repeat (first | refine blk_drewN ?_ _ | refine blk_drew ?_ | refine blk_alloc ?_ _)); refine blk_far ?_ NB235_242.out _; (with_reducible repeat (first | refine blk_drewN ?_ _ | refine blk_drew ?_ | refine blk_alloc ?_ _)); refine blk_far ?_ NB235_242.out _; (with_reducible repeat (first | refine blk_drewN ?_ _ | refine blk_drew ?_ | refine blk_alloc ?_ _)); exact BK235.out) hb); have n3_ := Aside0.mk (blk_below (g := gb242) (o := .cells #[.int .i64 t237, .int .i64 t238, .slice Ao26 t239.length co26] 24 (0, 0)) (by (with_reducible repeat (first | refine blk_drewN ?_ _ | refine blk_drew ?_ | refine blk_alloc ?_ _)); refine blk_put (cs := #[.int .i64 t237, .int .i64 t238, .slice none 0 0]) ?_ 2 _ rfl; (with_reducible repeat (first | refine blk_drewN ?_ _ | refine blk_drew ?_ | refine blk_alloc ?_ _)); refine blk_put (cs := #[.int .i64 t237, .int .i64 0, .slice none 0 0]) ?_ 1 _ rfl; (with_reducible repeat (first | refine blk_drewN ?_ _ | refine blk_drew ?_ | refine blk_alloc ?_ _)); refine blk_put (cs := #[.int .i64 0, .int .i64 0, .slice none 0 0]) ?_ 0 _ rfl; (with_reducible repeat (first | refine blk_drewN ?_ _ | refine blk_drew ?_ | refine blk_alloc ?_ _)); exact BK242.out) hb); have n4_ := Aside0.mk (below_step (by repeat (first | (with_reducible first | exact HB.out | apply below_alloc | apply pw_below_drewN | apply below_drew1 | refine below_set ?_ GE235.out | refine below_set ?_ GE242.out) | exact HB.out)) hb); clear HO241; clear BK235; clear BK242; clear HB; have HO241 := n0_; have HO247 := n1_; have BK235 := n2_; have BK242 := n3_; have HB := n4_; clear n0_ n1_ n2_ n3_ n4_; (try clear hb); (try clear hb2); (try clear hk); (try clear hi); (try clear ho0)) | ((with_reducible refine gate_dst (N := 13) rfl ?_); (try (refine gate_guard (by rfl) ?_; dsimp only)); refine box_event ?hg (N := 13) ?hd (cs := #[.int .i64 0, .int .i64 0, .slice none 0 0]) (t := 24) ?hr ?_; (case hd => rfl); (case hg => rfl); (case hr => first | (go_simp; done) | (go_simp; rfl)); intro gb249 hg w29 hbox hb; have n0_ := Aside0.mk (Kd.R_below (by (with_reducible repeat (first | apply Kd.R_alloc | apply Kd.R_drewN | apply Kd.R_drew)); exact HO241.out) hb); have n1_ := Aside0.mk (Kd.R_below (by (with_reducible repeat (first | apply Kd.R_alloc | apply Kd.R_drewN | apply Kd.R_drew)); exact HO247.out) hb); have n2_ := Aside0.mk (blk_below (g := gb235) (o := .cells #[.int .i64 a0_0, .int .i64 a0_1, .slice A0_2 l0_2.length c0_2] 24 (0, 0)) (by (with_reducible repeat (first | refine blk_drewN ?_ _ | refine blk_drew ?_ | refine blk_alloc ?_ _)); exact BK235.out) hb); have n3_ := Aside0.mk (blk_below (g := gb242) (o := .cells #[.int .i64 t237, .int .i64 t238, .slice Ao26 t239.length co26] 24 (0, 0)) (by (with_reducible repeat (first | refine blk_drewN ?_ _ | refine blk_drew ?_ | refine blk_alloc ?_ _)); exact BK242.out) hb); have n4_ := Aside0.mk (below_step (by repeat (first | (with_reducible first | exact HB.out | apply below_alloc | apply pw_below_drewN | apply below_drew1 | refine below_set ?_ GE235.out | refine below_set ?_ GE242.out) | exact HB.out)) hb); have n5_ := Aside0.mk (hbox); have n6_ := Aside0.mk ((by rw [hg]; exact (below_size (by repeat (first | (with_reducible first | exact HB.out | apply below_alloc | apply pw_below_drewN | apply below_drew1 | refine below_set ?_ GE235.out | refine below_set ?_ GE242.out) | exact HB.out))) : w.heap.size ≤ gb249)); have n7_ := Aside0.mk ((by rw [hg]; exact (below_size (by repeat (first | (with_reducible first | exact HB.out | apply below_alloc | apply pw_below_drewN | apply below_drew1 | refine below_set ?_ GE235.out | refine below_set ?_ GE242.out) | exact HB.out))) : w.heap.size ≤ gb249)); have n8_ := Aside0.mk ((by rw [hg]; exact Nat.ne_of_lt (blk_lt (g := gb235) (o := .cells #[.int .i64 a0_0, .int .i64 a0_1, .slice A0_2 l0_2.length c0_2] 24 (0, 0)) (by (with_reducible repeat (first | refine blk_drewN ?_ _ | refine blk_drew ?_ | refine blk_alloc ?_ _)); exact BK235.out)) : gb235 ≠ gb249)); have n9_ := Aside0.mk ((by rw [hg]; exact Nat.ne_of_gt (blk_lt (g := gb235) (o := .cells #[.int .i64 a0_0, .int .i64 a0_1, .slice A0_2 l0_2.length c0_2] 24 (0, 0)) (by (with_reducible repeat (first | refine blk_drewN ?_ _ | refine blk_drew ?_ | refine blk_alloc ?_ _)); exact BK235.out)) : gb249 ≠ gb235)); have n10_ := Aside0.mk ((by rw [hg]; exact Nat.ne_of_lt (blk_lt (g := gb242) (o := .cells #[.int .i64 t237, .int .i64 t238, .slice Ao26 t239.length co26] 24 (0, 0)) (by (with_reducible repeat (first | refine blk_drewN ?_ _ | refine blk_drew ?_ | refine blk_alloc ?_ _)); exact BK242.out)) : gb242 ≠ gb249)); have n11_ := Aside0.mk ((by rw [hg]; exact Nat.ne_of_gt (blk_lt (g := gb242) (o := .cells #[.int .i64 t237, .int .i64 t238, .slice Ao26 t239.length co26] 24 (0, 0)) (by (with_reducible repeat (first | refine blk_drewN ?_ _ | refine blk_drew ?_ | refine blk_alloc ?_ _)); exact BK242.out)) : gb249 ≠ gb242)); clear HO241; clear HO247; clear BK235; clear BK242; clear HB; have HO241 := n0_; have HO247 := n1_; have BK235 := n2_; have BK242 := n3_; have HB := n4_; have BK249 := n5_; have GW249 := n6_; have GE249 := n7_; have NB235_249 := n8_; have NB249_235 := n9_; have NB242_249 := n10_; have NB249_242 := n11_; clear n0_ n1_ n2_ n3_ n4_ n5_ n6_ n7_ n8_ n9_ n10_ n11_; clear hb hbox hg; have hnb30 := NB249_235.out; have hnc30 := NB235_249.out; have hnb31 := NB249_242.out; have hnc31 := NB242_249.out; have hcz32_0 : w29.cell? ⟨gb249, 0, none⟩ = some (.int .i64 0) := (blk_cell BK249.out 0).trans rfl; have hcz32_1 : w29.cell? ⟨gb249, 1, none⟩ = some (.int .i64 0) := (blk_cell BK249.out 1).trans rfl; have hcz32_2 : w29.cell? ⟨gb249, 2, none⟩ = some (.slice none 0 0) := (blk_cell BK249.out 2).trans rfl; have hfz32_0 := blk_frozen BK249.out 0; have hfz32_1 := blk_frozen BK249.out 1; have hfz32_2 := blk_frozen BK249.out 2; obtain ⟨Ao33, co33, eo33⟩ := Kd.R_slice HO247.out; subst eo33; have hcz34_0 : w29.cell? ⟨gb235, 0, none⟩ = some (.int .i64 a0_0) := (blk_cell BK235.out 0).trans rfl; have hcz34_1 : w29.cell? ⟨gb235, 1, none⟩ = some (.int .i64 a0_1) := (blk_cell BK235.out 1).trans rfl; have hcz34_2 : w29.cell? ⟨gb235, 2, none⟩ = some (.slice A0_2 l0_2.length c0_2) := (blk_cell BK235.out 2).trans rfl; have hfz34_0 := blk_frozen BK235.out 0; have hfz34_1 := blk_frozen BK235.out 1; have hfz34_2 := blk_frozen BK235.out 2) | ((with_reducible refine gate_callee (f := 11) rfl ?_); refine goesL_ (some 49) rfl rfl Try.func11 (by kernel_rfl) rfl #[.agg #[.int .i64 a0_0, .int .i64 a0_1, .slice A0_2 l0_2.length c0_2], .int .i64 a1, .int .i64 a2] rfl (by (try simp only [List.map_toArray, List.map_cons, List.map_nil]); first | done | rfl | (simp only [List.length_drop, List.length_take]; rfl)) ?_; (with_reducible refine (fourinhandref11_Came.calls kj6 a0_0 a0_1 _ _ l0_2 a1 a2 t250 t251 t252 t255 _ ?side1 ?side2 A15.out).mono ?_); (case side1 => exact Kd.C_below HR0_2.out (by repeat (first | (with_reducible first | exact HB.out | apply below_alloc | apply pw_below_drewN | apply below_drew1 | refine below_set ?_ GE235.out | refine below_set ?_ GE242.out | refine below_set ?_ GE249.out) | exact HB.out))); (case side2 => exact HC0_2.out); rintro e w35 ⟨v253, rfl, ho0, hb⟩; refine ⟨_, rfl, ?_⟩; have n0_ := Aside0.mk (Kd.R_elder' (by (with_reducible repeat (first | apply Kd.R_alloc | apply Kd.R_drewN | apply Kd.R_drew)); exact (Kd.R_mono (Kd.R_far (p := ⟨gb249, 2, none⟩) (Kd.R_far (p := ⟨gb249, 1, none⟩) (Kd.R_far (p := ⟨gb249, 0, none⟩) (Kd.R_types HO241.out BK249.out (by decide)) (fun _ hk => hk.2) (.int .i64 t243)) (fun _ hk => hk.2) (.int .i64 t244)) (fun _ hk => hk.2) (.slice Ao33 t245.length co33)) (fun _ h_ => h_.1))) (Kd.R_base ho0) hb); have n1_ := Aside0.mk (Kd.R_elder' (by (with_reducible repeat (first | apply Kd.R_alloc | apply Kd.R_drewN | apply Kd.R_drew)); exact (Kd.R_mono (Kd.R_far (p := ⟨gb249, 2, none⟩) (Kd.R_far (p := ⟨gb249, 1, none⟩) (Kd.R_far (p := ⟨gb249, 0, none⟩) (Kd.R_types HO247.out BK249.out (by decide)) (fun _ hk => hk.2) (.int .i64 t243)) (fun _ hk => hk.2) (.int .i64 t244)) (fun _ hk => hk.2) (.slice Ao33 t245.length co33)) (fun _ h_ => h_.1))) (Kd.R_base ho0) hb); have n2_ := Aside0.mk (Kd.R_lower (Kd.R_new' (Kd.R_new' ho0 (Kd.R_lt (by (with_reducible repeat (first | apply Kd.R_alloc | apply Kd.R_drewN | apply Kd.R_drew)); exact (Kd.R_mono (Kd.R_far (p := ⟨gb249, 2, none⟩) (Kd.R_far (p := ⟨gb249, 1, none⟩) (Kd.R_far (p := ⟨gb249, 0, none⟩) (Kd.R_types HO241.out BK249.out (by decide)) (fun _ hk => hk.2) (.int .i64 t243)) (fun _ hk => hk.2) (.int .i64 t244)) (fun _ hk => hk.2) (.slice Ao33 t245.length co33)) (fun _ h_ => h_.1))))) (Kd.R_lt (by (with_reducible repeat (first | apply Kd.R_alloc | apply Kd.R_drewN | apply Kd.R_drew)); exact (Kd.R_mono (Kd.R_far (p := ⟨gb249, 2, none⟩) (Kd.R_far (p := ⟨gb249, 1, none⟩) (Kd.R_far (p := ⟨gb249, 0, none⟩) (Kd.R_types HO247.out BK249.out (by decide)) (fun _ hk => hk.2) (.int .i64 t243)) (fun _ hk => hk.2) (.int .i64 t244)) (fun _ hk => hk.2) (.slice Ao33 t245.length co33)) (fun _ h_ => h_.1))))) (below_size (by repeat (first | (with_reducible first | exact HB.out | apply below_alloc | apply pw_below_drewN | apply below_drew1 | refine below_set ?_ GE235.out | refine below_set ?_ GE242.out | refine below_set ?_ GE249.out) | exact HB.out)))); have n3_ := Aside0.mk (blk_below (g := gb235) (o := .cells #[.int .i64 a0_0, .int .i64 a0_1, .slice A0_2 l0_2.length c0_2] 24 (0, 0)) (by (with_reducible repeat (first | refine blk_drewN ?_ _ | refine blk_drew ?_ | refine blk_alloc ?_ _)); refine blk_far ?_ NB235_249.out _; (with_reducible repeat (first | refine blk_drewN ?_ _ | refine blk_drew ?_ | refine blk_alloc ?_ _)); refine blk_far ?_ NB235_249.out _; (with_reducible repeat (first | refine blk_drewN ?_ _ | refine blk_drew ?_ | refine blk_alloc ?_ _)); refine blk_far ?_ NB235_249.out _; (with_reducible repeat (first | refine blk_drewN ?_ _ | refine blk_drew ?_ | refine blk_alloc ?_ _)); exact BK235.out) hb); have n4_ := Aside0.mk (blk_below (g := gb242) (o := .cells #[.int .i64 t237, .int .i64 t238, .slice Ao26 t239.length co26] 24 (0, 0)) (by (with_reducible repeat (first | refine blk_drewN ?_ _ | refine blk_drew ?_ | refine blk_alloc ?_ _)); refine blk_far ?_ NB242_249.out _; (with_reducible repeat (first | refine blk_drewN ?_ _ | refine blk_drew ?_ | refine blk_alloc ?_ _)); refine blk_far ?_ NB242_249.out _; (with_reducible repeat (first | refine blk_drewN ?_ _ | refine blk_drew ?_ | refine blk_alloc ?_ _)); refine blk_far ?_ NB242_249.out _; (with_reducible repeat (first | refine blk_drewN ?_ _ | refine blk_drew ?_ | refine blk_alloc ?_ _)); exact BK242.out) hb); have n5_ := Aside0.mk (blk_below (g := gb249) (o := .cells #[.int .i64 t243, .int .i64 t244, .slice Ao33 t245.length co33] 24 (0, 0)) (by (with_reducible repeat (first | refine blk_drewN ?_ _ | refine blk_drew ?_ | refine blk_alloc ?_ _)); refine blk_put (cs := #[.int .i64 t243, .int .i64 t244, .slice none 0 0]) ?_ 2 _ rfl; (with_reducible repeat (first | refine blk_drewN ?_ _ | refine blk_drew ?_ | refine blk_alloc ?_ _)); refine blk_put (cs := #[.int .i64 t243, .int .i64 0, .slice none 0 0]) ?_ 1 _ rfl; (with_reducible repeat (first | refine blk_drewN ?_ _ | refine blk_drew ?_ | refine blk_alloc ?_ _)); refine blk_put (cs := #[.int .i64 0, .int .i64 0, .slice none 0 0]) ?_ 0 _ rfl; (with_reducible repeat (first | refine blk_drewN ?_ _ | refine blk_drew ?_ | refine blk_alloc ?_ _)); exact BK249.out) hb); have n6_ := Aside0.mk (below_step (by repeat (first | (with_reducible first | exact HB.out | apply below_alloc | apply pw_below_drewN | apply below_drew1 | refine below_set ?_ GE235.out | refine below_set ?_ GE242.out | refine below_set ?_ GE249.out) | exact HB.out)) hb); clear HO241; clear HO247; clear BK235; clear BK242; clear BK249; clear HB; have HO241 := n0_; have HO247 := n1_; have HO254 := n2_; have BK235 := n3_; have BK242 := n4_; have BK249 := n5_; have HB := n6_; clear n0_ n1_ n2_ n3_ n4_ n5_ n6_; (try clear hb); (try clear hb2); (try clear hk); (try clear hi); (try clear ho0)) | ((with_reducible refine gate_dst (N := 15) rfl ?_); (try (refine gate_guard (by rfl) ?_; dsimp only)); refine box_event ?hg (N := 15) ?hd (cs := #[.int .i64 0, .int .i64 0, .slice none 0 0]) (t := 24) ?hr ?_; (case hd => rfl); (case hg => rfl); (case hr => first | (go_simp; done) | (go_simp; rfl)); intro gb256 hg w36 hbox hb; have n0_ := Aside0.mk (Kd.R_below (by (with_reducible repeat (first | apply Kd.R_alloc | apply Kd.R_drewN | apply Kd.R_drew)); exact HO241.out) hb); have n1_ := Aside0.mk (Kd.R_below (by (with_reducible repeat (first | apply Kd.R_alloc | apply Kd.R_drewN | apply Kd.R_drew)); exact HO247.out) hb); have n2_ := Aside0.mk (Kd.R_below (by (with_reducible repeat (first | apply Kd.R_alloc | apply Kd.R_drewN | apply Kd.R_drew)); exact HO254.out) hb); have n3_ := Aside0.mk (blk_below (g := gb235) (o := .cells #[.int .i64 a0_0, .int .i64 a0_1, .slice A0_2 l0_2.length c0_2] 24 (0, 0)) (by (with_reducible repeat (first | refine blk_drewN ?_ _ | refine blk_drew ?_ | refine blk_alloc ?_ _)); exact BK235.out) hb); have n4_ := Aside0.mk (blk_below (g := gb242) (o := .cells #[.int .i64 t237, .int .i64 t238, .slice Ao26 t239.length co26] 24 (0, 0)) (by (with_reducible repeat (first | refine blk_drewN ?_ _ | refine blk_drew ?_ | refine blk_alloc ?_ _)); exact BK242.out) hb); have n5_ := Aside0.mk (blk_below (g := gb249) (o := .cells #[.int .i64 t243, .int .i64 t244, .slice Ao33 t245.length co33] 24 (0, 0)) (by (with_reducible repeat (first | refine blk_drewN ?_ _ | refine blk_drew ?_ | refine blk_alloc ?_ _)); exact BK249.out) hb); have n6_ := Aside0.mk (below_step (by repeat (first | (with_reducible first | exact HB.out | apply below_alloc | apply pw_below_drewN | apply below_drew1 | refine below_set ?_ GE235.out | refine below_set ?_ GE242.out | refine below_set ?_ GE249.out) | exact HB.out)) hb); have n7_ := Aside0.mk (hbox); have n8_ := Aside0.mk ((by rw [hg]; exact (below_size (by repeat (first | (with_reducible first | exact HB.out | apply below_alloc | apply pw_below_drewN | apply below_drew1 | refine below_set ?_ GE235.out | refine below_set ?_ GE242.out | refine below_set ?_ GE249.out) | exact HB.out))) : w.heap.size ≤ gb256)); have n9_ := Aside0.mk ((by rw [hg]; exact (below_size (by repeat (first | (with_reducible first | exact HB.out | apply below_alloc | apply pw_below_drewN | apply below_drew1 | refine below_set ?_ GE235.out | refine below_set ?_ GE242.out | refine below_set ?_ GE249.out) | exact HB.out))) : w.heap.size ≤ gb256)); have n10_ := Aside0.mk ((by rw [hg]; exact Nat.ne_of_lt (blk_lt (g := gb235) (o := .cells #[.int .i64 a0_0, .int .i64 a0_1, .slice A0_2 l0_2.length c0_2] 24 (0, 0)) (by (with_reducible repeat (first | refine blk_drewN ?_ _ | refine blk_drew ?_ | refine blk_alloc ?_ _)); exact BK235.out)) : gb235 ≠ gb256)); have n11_ := Aside0.mk ((by rw [hg]; exact Nat.ne_of_gt (blk_lt (g := gb235) (o := .cells #[.int .i64 a0_0, .int .i64 a0_1, .slice A0_2 l0_2.length c0_2] 24 (0, 0)) (by (with_reducible repeat (first | refine blk_drewN ?_ _ | refine blk_drew ?_ | refine blk_alloc ?_ _)); exact BK235.out)) : gb256 ≠ gb235)); have n12_ := Aside0.mk ((by rw [hg]; exact Nat.ne_of_lt (blk_lt (g := gb242) (o := .cells #[.int .i64 t237, .int .i64 t238, .slice Ao26 t239.length co26] 24 (0, 0)) (by (with_reducible repeat (first | refine blk_drewN ?_ _ | refine blk_drew ?_ | refine blk_alloc ?_ _)); exact BK242.out)) : gb242 ≠ gb256)); have n13_ := Aside0.mk ((by rw [hg]; exact Nat.ne_of_gt (blk_lt (g := gb242) (o := .cells #[.int .i64 t237, .int .i64 t238, .slice Ao26 t239.length co26] 24 (0, 0)) (by (with_reducible repeat (first | refine blk_drewN ?_ _ | refine blk_drew ?_ | refine blk_alloc ?_ _)); exact BK242.out)) : gb256 ≠ gb242)); have n14_ := Aside0.mk ((by rw [hg]; exact Nat.ne_of_lt (blk_lt (g := gb249) (o := .cells #[.int .i64 t243, .int .i64 t244, .slice Ao33 t245.length co33] 24 (0, 0)) (by (with_reducible repeat (first | refine blk_drewN ?_ _ | refine blk_drew ?_ | refine blk_alloc ?_ _)); exact BK249.out)) : gb249 ≠ gb256)); have n15_ := Aside0.mk ((by rw [hg]; exact Nat.ne_of_gt (blk_lt (g := gb249) (o := .cells #[.int .i64 t243, .int .i64 t244, .slice Ao33 t245.length co33] 24 (0, 0)) (by (with_reducible repeat (first | refine blk_drewN ?_ _ | refine blk_drew ?_ | refine blk_alloc ?_ _)); exact BK249.out)) : gb256 ≠ gb249)); clear HO241; clear HO247; clear HO254; clear BK235; clear BK242; clear BK249; clear HB; have HO241 := n0_; have HO247 := n1_; have HO254 := n2_; have BK235 := n3_; have BK242 := n4_; have BK249 := n5_; have HB := n6_; have BK256 := n7_; have GW256 := n8_; have GE256 := n9_; have NB235_256 := n10_; have NB256_235 := n11_; have NB242_256 := n12_; have NB256_242 := n13_; have NB249_256 := n14_; have NB256_249 := n15_; clear n0_ n1_ n2_ n3_ n4_ n5_ n6_ n7_ n8_ n9_ n10_ n11_ n12_ n13_ n14_ n15_; clear hb hbox hg; have hnb37 := NB256_235.out; have hnc37 := NB235_256.out; have hnb38 := NB256_242.out; have hnc38 := NB242_256.out; have hnb39 := NB256_249.out; have hnc39 := NB249_256.out; have hcz40_0 : w36.cell? ⟨gb256, 0, none⟩ = some (.int .i64 0) := (blk_cell BK256.out 0).trans rfl; have hcz40_1 : w36.cell? ⟨gb256, 1, none⟩ = some (.int .i64 0) := (blk_cell BK256.out 1).trans rfl; have hcz40_2 : w36.cell? ⟨gb256, 2, none⟩ = some (.slice none 0 0) := (blk_cell BK256.out 2).trans rfl; have hfz40_0 := blk_frozen BK256.out 0; have hfz40_1 := blk_frozen BK256.out 1; have hfz40_2 := blk_frozen BK256.out 2; obtain ⟨Ao41, co41, eo41⟩ := Kd.R_slice HO254.out; subst eo41; have hcz42_0 : w36.cell? ⟨gb249, 0, none⟩ = some (.int .i64 t243) := (blk_cell BK249.out 0).trans rfl; have hcz42_1 : w36.cell? ⟨gb249, 1, none⟩ = some (.int .i64 t244) := (blk_cell BK249.out 1).trans rfl; have hcz42_2 : w36.cell? ⟨gb249, 2, none⟩ = some (.slice Ao33 t245.length co33) := (blk_cell BK249.out 2).trans rfl; have hfz42_0 := blk_frozen BK249.out 0; have hfz42_1 := blk_frozen BK249.out 1; have hfz42_2 := blk_frozen BK249.out 2) | ((with_reducible refine gate_callee (f := 12) rfl ?_); refine goesL_ (some 54) rfl rfl Try.func12 (by kernel_rfl) rfl #[.agg #[.int .i64 t243, .int .i64 t244, .slice Ao33 t245.length co33], .agg #[.int .i64 t250, .int .i64 t251, .slice Ao41 t252.length co41]] rfl (by (try simp only [List.map_toArray, List.map_cons, List.map_nil]); first | done | rfl | (simp only [List.length_drop, List.length_take]; rfl)) ?_; (with_reducible refine (fourinhandref11_Same.calls kj6 t243 t244 _ _ t245 t250 t251 _ _ t252 t257 _ ?side1 ?side2 ?side3 ?side4 A16.out).mono ?_); (case side1 => refine (Kd.R_reads' (e := 3) (base := w.heap.size) (ok := fun k_ => ((True ∧ some k_ ≠ (.slice Ao26 t239.length co26 : Value).ownBlock) ∧ some k_ ≠ (.slice Ao41 t252.length co41 : Value).ownBlock)) (n := t245.length) (c := co33) ?_).2.2; exact (by (with_reducible repeat (first | apply Kd.R_alloc | apply Kd.R_drewN | apply Kd.R_drew)); exact (Kd.R_mono (Kd.R_far (p := ⟨gb256, 2, none⟩) (Kd.R_far (p := ⟨gb256, 1, none⟩) (Kd.R_far (p := ⟨gb256, 0, none⟩) (Kd.R_types HO247.out BK256.out (by decide)) (fun _ hk => hk.2) (.int .i64 t250)) (fun _ hk => hk.2) (.int .i64 t251)) (fun _ hk => hk.2) (.slice Ao41 t252.length co41)) (fun _ h_ => h_.1)))); (case side2 => exact (Kd.R_reads' HO247.out).2.1); (case side3 => refine (Kd.R_reads' (e := 3) (base := w.heap.size) (ok := fun k_ => ((True ∧ some k_ ≠ (.slice Ao26 t239.length co26 : Value).ownBlock) ∧ some k_ ≠ (.slice Ao33 t245.length co33 : Value).ownBlock)) (n := t252.length) (c := co41) ?_).2.2; exact (by (with_reducible repeat (first | apply Kd.R_alloc | apply Kd.R_drewN | apply Kd.R_drew)); exact (Kd.R_mono (Kd.R_far (p := ⟨gb256, 2, none⟩) (Kd.R_far (p := ⟨gb256, 1, none⟩) (Kd.R_far (p := ⟨gb256, 0, none⟩) (Kd.R_types HO254.out BK256.out (by decide)) (fun _ hk => hk.2) (.int .i64 t250)) (fun _ hk => hk.2) (.int .i64 t251)) (fun _ hk => hk.2) (.slice Ao41 t252.length co41)) (fun _ h_ => h_.1)))); (case side4 => exact (Kd.R_reads' HO254.out).2.1); rintro e w43 ⟨rfl, hb⟩; refine ⟨_, rfl, ?_⟩; have n0_ := Aside0.mk (Kd.R_below (by (with_reducible repeat (first | apply Kd.R_alloc | apply Kd.R_drewN | apply Kd.R_drew)); exact (Kd.R_mono (Kd.R_far (p := ⟨gb256, 2, none⟩) (Kd.R_far (p := ⟨gb256, 1, none⟩) (Kd.R_far (p := ⟨gb256, 0, none⟩) (Kd.R_types HO241.out BK256.out (by decide)) (fun _ hk => hk.2) (.int .i64 t250)) (fun _ hk => hk.2) (.int .i64 t251)) (fun _ hk => hk.2) (.slice Ao41 t252.length co41)) (fun _ h_ => h_.1))) hb); have n1_ := Aside0.mk (Kd.R_below (by (with_reducible repeat (first | apply Kd.R_alloc | apply Kd.R_drewN | apply Kd.R_drew)); exact (Kd.R_mono (Kd.R_far (p := ⟨gb256, 2, none⟩) (Kd.R_far (p := ⟨gb256, 1, none⟩) (Kd.R_far (p := ⟨gb256, 0, none⟩) (Kd.R_types HO247.out BK256.out (by decide)) (fun _ hk => hk.2) (.int .i64 t250)) (fun _ hk => hk.2) (.int .i64 t251)) (fun _ hk => hk.2) (.slice Ao41 t252.length co41)) (fun _ h_ => h_.1))) hb); have n2_ := Aside0.mk (Kd.R_below (by (with_reducible repeat (first | apply Kd.R_alloc | apply Kd.R_drewN | apply Kd.R_drew)); exact (Kd.R_mono (Kd.R_far (p := ⟨gb256, 2, none⟩) (Kd.R_far (p := ⟨gb256, 1, none⟩) (Kd.R_far (p := ⟨gb256, 0, none⟩) (Kd.R_types HO254.out BK256.out (by decide)) (fun _ hk => hk.2) (.int .i64 t250)) (fun _ hk => hk.2) (.int .i64 t251)) (fun _ hk => hk.2) (.slice Ao41 t252.length co41)) (fun _ h_ => h_.1))) hb); have n3_ := Aside0.mk (blk_below (g := gb235) (o := .cells #[.int .i64 a0_0, .int .i64 a0_1, .slice A0_2 l0_2.length c0_2] 24 (0, 0)) (by (with_reducible repeat (first | refine blk_drewN ?_ _ | refine blk_drew ?_ | refine blk_alloc ?_ _)); refine blk_far ?_ NB235_256.out _; (with_reducible repeat (first | refine blk_drewN ?_ _ | refine blk_drew ?_ | refine blk_alloc ?_ _)); refine blk_far ?_ NB235_256.out _; (with_reducible repeat (first | refine blk_drewN ?_ _ | refine blk_drew ?_ | refine blk_alloc ?_ _)); refine blk_far ?_ NB235_256.out _; (with_reducible repeat (first | refine blk_drewN ?_ _ | refine blk_drew ?_ | refine blk_alloc ?_ _)); exact BK235.out) hb); have n4_ := Aside0.mk (blk_below (g := gb242) (o := .cells #[.int .i64 t237, .int .i64 t238, .slice Ao26 t239.length co26] 24 (0, 0)) (by (with_reducible repeat (first | refine blk_drewN ?_ _ | refine blk_drew ?_ | refine blk_alloc ?_ _)); refine blk_far ?_ NB242_256.out _; (with_reducible repeat (first | refine blk_drewN ?_ _ | refine blk_drew ?_ | refine blk_alloc ?_ _)); refine blk_far ?_ NB242_256.out _; (with_reducible repeat (first | refine blk_drewN ?_ _ | refine blk_drew ?_ | refine blk_alloc ?_ _)); refine blk_far ?_ NB242_256.out _; (with_reducible repeat (first | refine blk_drewN ?_ _ | refine blk_drew ?_ | refine blk_alloc ?_ _)); exact BK242.out) hb); have n5_ := Aside0.mk (blk_below (g := gb249) (o := .cells #[.int .i64 t243, .int .i64 t244, .slice Ao33 t245.length co33] 24 (0, 0)) (by (with_reducible repeat (first | refine blk_drewN ?_ _ | refine blk_drew ?_ | refine blk_alloc ?_ _)); refine blk_far ?_ NB249_256.out _; (with_reducible repeat (first | refine blk_drewN ?_ _ | refine blk_drew ?_ | refine blk_alloc ?_ _)); refine blk_far ?_ NB249_256.out _; (with_reducible repeat (first | refine blk_drewN ?_ _ | refine blk_drew ?_ | refine blk_alloc ?_ _)); refine blk_far ?_ NB249_256.out _; (with_reducible repeat (first | refine blk_drewN ?_ _ | refine blk_drew ?_ | refine blk_alloc ?_ _)); exact BK249.out) hb); have n6_ := Aside0.mk (blk_below (g := gb256) (o := .cells #[.int .i64 t250, .int .i64 t251, .slice Ao41 t252.length co41] 24 (0, 0)) (by (with_reducible repeat (first | refine blk_drewN ?_ _ | refine blk_drew ?_ | refine blk_alloc ?_ _)); refine blk_put (cs := #[.int .i64 t250, .int .i64 t251, .slice none 0 0]) ?_ 2 _ rfl; (with_reducible repeat (first | refine blk_drewN ?_ _ | refine blk_drew ?_ | refine blk_alloc ?_ _)); refine blk_put (cs := #[.int .i64 t250, .int .i64 0, .slice none 0 0]) ?_ 1 _ rfl; (with_reducible repeat (first | refine blk_drewN ?_ _ | refine blk_drew ?_ | refine blk_alloc ?_ _)); refine blk_put (cs := #[.int .i64 0, .int .i64 0, .slice none 0 0]) ?_ 0 _ rfl; (with_reducible repeat (first | refine blk_drewN ?_ _ | refine blk_drew ?_ | refine blk_alloc ?_ _)); exact BK256.out) hb); have n7_ := Aside0.mk (below_step (by repeat (first | (with_reducible first | exact HB.out | apply below_alloc | apply pw_below_drewN | apply below_drew1 | refine below_set ?_ GE235.out | refine below_set ?_ GE242.out | refine below_set ?_ GE249.out | refine below_set ?_ GE256.out) | exact HB.out)) hb); clear HO241; clear HO247; clear HO254; clear BK235; clear BK242; clear BK249; clear BK256; clear HB; have HO241 := n0_; have HO247 := n1_; have HO254 := n2_; have BK235 := n3_; have BK242 := n4_; have BK249 := n5_; have BK256 := n6_; have HB := n7_; clear n0_ n1_ n2_ n3_ n4_ n5_ n6_ n7_; (try clear hb); (try clear hb2); (try clear hk); (try clear hi); have hcz44_0 : w43.cell? ⟨gb235, 0, none⟩ = some (.int .i64 a0_0) := (blk_cell BK235.out 0).trans rfl; have hcz44_1 : w43.cell? ⟨gb235, 1, none⟩ = some (.int .i64 a0_1) := (blk_cell BK235.out 1).trans rfl; have hcz44_2 : w43.cell? ⟨gb235, 2, none⟩ = some (.slice A0_2 l0_2.length c0_2) := (blk_cell BK235.out 2).trans rfl; have hfz44_0 := blk_frozen BK235.out 0; have hfz44_1 := blk_frozen BK235.out 1; have hfz44_2 := blk_frozen BK235.out 2) | ((with_reducible refine gate_callee (f := 13) rfl ?_); refine goesL_ (some 59) rfl rfl Try.func13 (by kernel_rfl) rfl #[.agg #[.int .i64 a0_0, .int .i64 a0_1, .slice A0_2 l0_2.length c0_2], .int .i64 a3, .int .i64 a4] rfl (by (try simp only [List.map_toArray, List.map_cons, List.map_nil]); first | done | rfl | (simp only [List.length_drop, List.length_take]; rfl)) ?_; (with_reducible refine (rate_Sample.calls kj6 a0_0 a0_1 _ _ l0_2 a3 a4 t258 t259 t260 t263 t264 _ ?side1 ?side2 A17.out).mono ?_); (case side1 => repeat (first | exact (Kd.C_below HR0_2.out HB.out) | (with_reducible refine Kd.C_alloc ?_ _) | (with_reducible refine Kd.C_drewN ?_ _) | (with_reducible refine Kd.C_drew ?_))); (case side2 => exact HC0_2.out); rintro e w45 ⟨v261, rfl, ho0, hb⟩; refine ⟨_, rfl, ?_⟩; have n0_ := Aside0.mk (Kd.R_elder' (by (with_reducible repeat (first | apply Kd.R_alloc | apply Kd.R_drewN | apply Kd.R_drew)); exact HO241.out) (Kd.Q_base ho0) hb); have n1_ := Aside0.mk (Kd.R_elder' (by (with_reducible repeat (first | apply Kd.R_alloc | apply Kd.R_drewN | apply Kd.R_drew)); exact HO247.out) (Kd.Q_base ho0) hb); have n2_ := Aside0.mk (Kd.R_elder' (by (with_reducible repeat (first | apply Kd.R_alloc | apply Kd.R_drewN | apply Kd.R_drew)); exact HO254.out) (Kd.Q_base ho0) hb); have n3_ := Aside0.mk (Kd.Q_lower (Kd.Q_new' (Kd.Q_new' (Kd.Q_new' ho0 (Kd.R_lt (by (with_reducible repeat (first | apply Kd.R_alloc | apply Kd.R_drewN | apply Kd.R_drew)); exact HO241.out))) (Kd.R_lt (by (with_reducible repeat (first | apply Kd.R_alloc | apply Kd.R_drewN | apply Kd.R_drew)); exact HO247.out))) (Kd.R_lt (by (with_reducible repeat (first | apply Kd.R_alloc | apply Kd.R_drewN | apply Kd.R_drew)); exact HO254.out))) (below_size (by repeat (first | (with_reducible first | exact HB.out | apply below_alloc | apply pw_below_drewN | apply below_drew1 | refine below_set ?_ GE235.out | refine below_set ?_ GE242.out | refine below_set ?_ GE249.out | refine below_set ?_ GE256.out) | exact HB.out)))); have n4_ := Aside0.mk (blk_below (g := gb235) (o := .cells #[.int .i64 a0_0, .int .i64 a0_1, .slice A0_2 l0_2.length c0_2] 24 (0, 0)) (by (with_reducible repeat (first | refine blk_drewN ?_ _ | refine blk_drew ?_ | refine blk_alloc ?_ _)); exact BK235.out) hb); have n5_ := Aside0.mk (blk_below (g := gb242) (o := .cells #[.int .i64 t237, .int .i64 t238, .slice Ao26 t239.length co26] 24 (0, 0)) (by (with_reducible repeat (first | refine blk_drewN ?_ _ | refine blk_drew ?_ | refine blk_alloc ?_ _)); exact BK242.out) hb); have n6_ := Aside0.mk (blk_below (g := gb249) (o := .cells #[.int .i64 t243, .int .i64 t244, .slice Ao33 t245.length co33] 24 (0, 0)) (by (with_reducible repeat (first | refine blk_drewN ?_ _ | refine blk_drew ?_ | refine blk_alloc ?_ _)); exact BK249.out) hb); have n7_ := Aside0.mk (blk_below (g := gb256) (o := .cells #[.int .i64 t250, .int .i64 t251, .slice Ao41 t252.length co41] 24 (0, 0)) (by (with_reducible repeat (first | refine blk_drewN ?_ _ | refine blk_drew ?_ | refine blk_alloc ?_ _)); exact BK256.out) hb); have n8_ := Aside0.mk (below_step (by repeat (first | (with_reducible first | exact HB.out | apply below_alloc | apply pw_below_drewN | apply below_drew1 | refine below_set ?_ GE235.out | refine below_set ?_ GE242.out | refine below_set ?_ GE249.out | refine below_set ?_ GE256.out) | exact HB.out)) hb); clear HO241; clear HO247; clear HO254; clear BK235; clear BK242; clear BK249; clear BK256; clear HB; have HO241 := n0_; have HO247 := n1_; have HO254 := n2_; have HO262 := n3_; have BK235 := n4_; have BK242 := n5_; have BK249 := n6_; have BK256 := n7_; have HB := n8_; clear n0_ n1_ n2_ n3_ n4_ n5_ n6_ n7_ n8_; (try clear hb); (try clear hb2); (try clear hk); (try clear hi); (try clear ho0)) | ((with_reducible refine gate_dst (N := 18) rfl ?_); (try (refine gate_guard (by rfl) ?_; dsimp only)); refine box_event ?hg (N := 18) ?hd (cs := #[.int .i64 0, .int .i64 0, .slice none 0 0]) (t := 24) ?hr ?_; (case hd => rfl); (case hg => rfl); (case hr => first | (go_simp; done) | (go_simp; rfl)); intro gb265 hg w46 hbox hb; have n0_ := Aside0.mk (Kd.R_below (by (with_reducible repeat (first | apply Kd.R_alloc | apply Kd.R_drewN | apply Kd.R_drew)); exact HO241.out) hb); have n1_ := Aside0.mk (Kd.R_below (by (with_reducible repeat (first | apply Kd.R_alloc | apply Kd.R_drewN | apply Kd.R_drew)); exact HO247.out) hb); have n2_ := Aside0.mk (Kd.R_below (by (with_reducible repeat (first | apply Kd.R_alloc | apply Kd.R_drewN | apply Kd.R_drew)); exact HO254.out) hb); have n3_ := Aside0.mk (Kd.Q_below (by (with_reducible repeat (first | apply Kd.Q_alloc | apply Kd.Q_drewN | apply Kd.Q_drew)); exact HO262.out) hb); have n4_ := Aside0.mk (blk_below (g := gb235) (o := .cells #[.int .i64 a0_0, .int .i64 a0_1, .slice A0_2 l0_2.length c0_2] 24 (0, 0)) (by (with_reducible repeat (first | refine blk_drewN ?_ _ | refine blk_drew ?_ | refine blk_alloc ?_ _)); exact BK235.out) hb); have n5_ := Aside0.mk (blk_below (g := gb242) (o := .cells #[.int .i64 t237, .int .i64 t238, .slice Ao26 t239.length co26] 24 (0, 0)) (by (with_reducible repeat (first | refine blk_drewN ?_ _ | refine blk_drew ?_ | refine blk_alloc ?_ _)); exact BK242.out) hb); have n6_ := Aside0.mk (blk_below (g := gb249) (o := .cells #[.int .i64 t243, .int .i64 t244, .slice Ao33 t245.length co33] 24 (0, 0)) (by (with_reducible repeat (first | refine blk_drewN ?_ _ | refine blk_drew ?_ | refine blk_alloc ?_ _)); exact BK249.out) hb); have n7_ := Aside0.mk (blk_below (g := gb256) (o := .cells #[.int .i64 t250, .int .i64 t251, .slice Ao41 t252.length co41] 24 (0, 0)) (by (with_reducible repeat (first | refine blk_drewN ?_ _ | refine blk_drew ?_ | refine blk_alloc ?_ _)); exact BK256.out) hb); have n8_ := Aside0.mk (below_step (by repeat (first | (with_reducible first | exact HB.out | apply below_alloc | apply pw_below_drewN | apply below_drew1 | refine below_set ?_ GE235.out | refine below_set ?_ GE242.out | refine below_set ?_ GE249.out | refine below_set ?_ GE256.out) | exact HB.out)) hb); have n9_ := Aside0.mk (hbox); have n10_ := Aside0.mk ((by rw [hg]; exact (below_size (by repeat (first | (with_reducible first | exact HB.out | apply below_alloc | apply pw_below_drewN | apply below_drew1 | refine below_set ?_ GE235.out | refine below_set ?_ GE242.out | refine below_set ?_ GE249.out | refine below_set ?_ GE256.out) | exact HB.out))) : w.heap.size ≤ gb265)); have n11_ := Aside0.mk ((by rw [hg]; exact (below_size (by repeat (first | (with_reducible first | exact HB.out | apply below_alloc | apply pw_below_drewN | apply below_drew1 | refine below_set ?_ GE235.out | refine below_set ?_ GE242.out | refine below_set ?_ GE249.out | refine below_set ?_ GE256.out) | exact HB.out))) : w.heap.size ≤ gb265)); have n12_ := Aside0.mk ((by rw [hg]; exact Nat.ne_of_lt (blk_lt (g := gb235) (o := .cells #[.int .i64 a0_0, .int .i64 a0_1, .slice A0_2 l0_2.length c0_2] 24 (0, 0)) (by (with_reducible repeat (first | refine blk_drewN ?_ _ | refine blk_drew ?_ | refine blk_alloc ?_ _)); exact BK235.out)) : gb235 ≠ gb265)); have n13_ := Aside0.mk ((by rw [hg]; exact Nat.ne_of_gt (blk_lt (g := gb235) (o := .cells #[.int .i64 a0_0, .int .i64 a0_1, .slice A0_2 l0_2.length c0_2] 24 (0, 0)) (by (with_reducible repeat (first | refine blk_drewN ?_ _ | refine blk_drew ?_ | refine blk_alloc ?_ _)); exact BK235.out)) : gb265 ≠ gb235)); have n14_ := Aside0.mk ((by rw [hg]; exact Nat.ne_of_lt (blk_lt (g := gb242) (o := .cells #[.int .i64 t237, .int .i64 t238, .slice Ao26 t239.length co26] 24 (0, 0)) (by (with_reducible repeat (first | refine blk_drewN ?_ _ | refine blk_drew ?_ | refine blk_alloc ?_ _)); exact BK242.out)) : gb242 ≠ gb265)); have n15_ := Aside0.mk ((by rw [hg]; exact Nat.ne_of_gt (blk_lt (g := gb242) (o := .cells #[.int .i64 t237, .int .i64 t238, .slice Ao26 t239.length co26] 24 (0, 0)) (by (with_reducible repeat (first | refine blk_drewN ?_ _ | refine blk_drew ?_ | refine blk_alloc ?_ _)); exact BK242.out)) : gb265 ≠ gb242)); have n16_ := Aside0.mk ((by rw [hg]; exact Nat.ne_of_lt (blk_lt (g := gb249) (o := .cells #[.int .i64 t243, .int .i64 t244, .slice Ao33 t245.length co33] 24 (0, 0)) (by (with_reducible repeat (first | refine blk_drewN ?_ _ | refine blk_drew ?_ | refine blk_alloc ?_ _)); exact BK249.out)) : gb249 ≠ gb265)); have n17_ := Aside0.mk ((by rw [hg]; exact Nat.ne_of_gt (blk_lt (g := gb249) (o := .cells #[.int .i64 t243, .int .i64 t244, .slice Ao33 t245.length co33] 24 (0, 0)) (by (with_reducible repeat (first | refine blk_drewN ?_ _ | refine blk_drew ?_ | refine blk_alloc ?_ _)); exact BK249.out)) : gb265 ≠ gb249)); have n18_ := Aside0.mk ((by rw [hg]; exact Nat.ne_of_lt (blk_lt (g := gb256) (o := .cells #[.int .i64 t250, .int .i64 t251, .slice Ao41 t252.length co41] 24 (0, 0)) (by (with_reducible repeat (first | refine blk_drewN ?_ _ | refine blk_drew ?_ | refine blk_alloc ?_ _)); exact BK256.out)) : gb256 ≠ gb265)); have n19_ := Aside0.mk ((by rw [hg]; exact Nat.ne_of_gt (blk_lt (g := gb256) (o := .cells #[.int .i64 t250, .int .i64 t251, .slice Ao41 t252.length co41] 24 (0, 0)) (by (with_reducible repeat (first | refine blk_drewN ?_ _ | refine blk_drew ?_ | refine blk_alloc ?_ _)); exact BK256.out)) : gb265 ≠ gb256)); clear HO241; clear HO247; clear HO254; clear HO262; clear BK235; clear BK242; clear BK249; clear BK256; clear HB; have HO241 := n0_; have HO247 := n1_; have HO254 := n2_; have HO262 := n3_; have BK235 := n4_; have BK242 := n5_; have BK249 := n6_; have BK256 := n7_; have HB := n8_; have BK265 := n9_; have GW265 := n10_; have GE265 := n11_; have NB235_265 := n12_; have NB265_235 := n13_; have NB242_265 := n14_; have NB265_242 := n15_; have NB249_265 := n16_; have NB265_249 := n17_; have NB256_265 := n18_; have NB265_256 := n19_; clear n0_ n1_ n2_ n3_ n4_ n5_ n6_ n7_ n8_ n9_ n10_ n11_ n12_ n13_ n14_ n15_ n16_ n17_ n18_ n19_; clear hb hbox hg; have hnb47 := NB265_235.out; have hnc47 := NB235_265.out; have hnb48 := NB265_242.out; have hnc48 := NB242_265.out; have hnb49 := NB265_249.out; have hnc49 := NB249_265.out; have hnb50 := NB265_256.out; have hnc50 := NB256_265.out; have hcz51_0 : w46.cell? ⟨gb265, 0, none⟩ = some (.int .i64 0) := (blk_cell BK265.out 0).trans rfl; have hcz51_1 : w46.cell? ⟨gb265, 1, none⟩ = some (.int .i64 0) := (blk_cell BK265.out 1).trans rfl; have hcz51_2 : w46.cell? ⟨gb265, 2, none⟩ = some (.slice none 0 0) := (blk_cell BK265.out 2).trans rfl; have hfz51_0 := blk_frozen BK265.out 0; have hfz51_1 := blk_frozen BK265.out 1; have hfz51_2 := blk_frozen BK265.out 2; obtain ⟨Ao52, co52, eo52, _⟩ := Kd.Q_slice HO262.out; subst eo52; have hcz53_0 : w46.cell? ⟨gb235, 0, none⟩ = some (.int .i64 a0_0) := (blk_cell BK235.out 0).trans rfl; have hcz53_1 : w46.cell? ⟨gb235, 1, none⟩ = some (.int .i64 a0_1) := (blk_cell BK235.out 1).trans rfl; have hcz53_2 : w46.cell? ⟨gb235, 2, none⟩ = some (.slice A0_2 l0_2.length c0_2) := (blk_cell BK235.out 2).trans rfl; have hfz53_0 := blk_frozen BK235.out 0; have hfz53_1 := blk_frozen BK235.out 1; have hfz53_2 := blk_frozen BK235.out 2) | ((with_reducible refine gate_callee (f := 14) rfl ?_); refine goesL_ (some 67) rfl rfl Try.func14 (by kernel_rfl) rfl #[.agg #[.int .i64 a0_0, .int .i64 a0_1, .slice A0_2 l0_2.length c0_2], .int .i64 a3, .int .i64 a4] rfl (by (try simp only [List.map_toArray, List.map_cons, List.map_nil]); first | done | rfl | (simp only [List.length_drop, List.length_take]; rfl)) ?_; (with_reducible refine (fourinhandref11_Sample.calls kj6 a0_0 a0_1 _ _ l0_2 a3 a4 t266 t267 t268 t271 t272 _ ?side1 ?side2 A18.out).mono ?_); (case side1 => exact Kd.C_below HR0_2.out (by repeat (first | (with_reducible first | exact HB.out | apply below_alloc | apply pw_below_drewN | apply below_drew1 | refine below_set ?_ GE235.out | refine below_set ?_ GE242.out | refine below_set ?_ GE249.out | refine below_set ?_ GE256.out | refine below_set ?_ GE265.out) | exact HB.out))); (case side2 => exact HC0_2.out); rintro e w54 ⟨v269, rfl, ho0, hb⟩; refine ⟨_, rfl, ?_⟩; have n0_ := Aside0.mk (Kd.R_elder' (by (with_reducible repeat (first | apply Kd.R_alloc | apply Kd.R_drewN | apply Kd.R_drew)); exact (Kd.R_mono (Kd.R_far (p := ⟨gb265, 2, none⟩) (Kd.R_far (p := ⟨gb265, 1, none⟩) (Kd.R_far (p := ⟨gb265, 0, none⟩) (Kd.R_types HO241.out BK265.out (by decide)) (fun _ hk => hk.2) (.int .i64 t258)) (fun _ hk => hk.2) (.int .i64 t259)) (fun _ hk => hk.2) (.slice Ao52 t260.length co52)) (fun _ h_ => h_.1))) (Kd.Q_base ho0) hb); have n1_ := Aside0.mk (Kd.R_elder' (by (with_reducible repeat (first | apply Kd.R_alloc | apply Kd.R_drewN | apply Kd.R_drew)); exact (Kd.R_mono (Kd.R_far (p := ⟨gb265, 2, none⟩) (Kd.R_far (p := ⟨gb265, 1, none⟩) (Kd.R_far (p := ⟨gb265, 0, none⟩) (Kd.R_types HO247.out BK265.out (by decide)) (fun _ hk => hk.2) (.int .i64 t258)) (fun _ hk => hk.2) (.int .i64 t259)) (fun _ hk => hk.2) (.slice Ao52 t260.length co52)) (fun _ h_ => h_.1))) (Kd.Q_base ho0) hb); have n2_ := Aside0.mk (Kd.R_elder' (by (with_reducible repeat (first | apply Kd.R_alloc | apply Kd.R_drewN | apply Kd.R_drew)); exact (Kd.R_mono (Kd.R_far (p := ⟨gb265, 2, none⟩) (Kd.R_far (p := ⟨gb265, 1, none⟩) (Kd.R_far (p := ⟨gb265, 0, none⟩) (Kd.R_types HO254.out BK265.out (by decide)) (fun _ hk => hk.2) (.int .i64 t258)) (fun _ hk => hk.2) (.int .i64 t259)) (fun _ hk => hk.2) (.slice Ao52 t260.length co52)) (fun _ h_ => h_.1))) (Kd.Q_base ho0) hb); have n3_ := Aside0.mk (Kd.Q_elder' (by (with_reducible repeat (first | apply Kd.Q_alloc | apply Kd.Q_drewN | apply Kd.Q_drew)); exact (Kd.Q_mono (Kd.Q_far (p := ⟨gb265, 2, none⟩) (Kd.Q_far (p := ⟨gb265, 1, none⟩) (Kd.Q_far (p := ⟨gb265, 0, none⟩) (Kd.Q_types HO262.out BK265.out (by decide)) (fun _ hk => hk.2) (.int .i64 t258)) (fun _ hk => hk.2) (.int .i64 t259)) (fun _ hk => hk.2) (.slice Ao52 t260.length co52)) (fun _ h_ => h_.1))) (Kd.Q_base ho0) hb); have n4_ := Aside0.mk (Kd.Q_lower (Kd.Q_new' (Kd.Q_new' (Kd.Q_new' (Kd.Q_new' ho0 (Kd.R_lt (by (with_reducible repeat (first | apply Kd.R_alloc | apply Kd.R_drewN | apply Kd.R_drew)); exact (Kd.R_mono (Kd.R_far (p := ⟨gb265, 2, none⟩) (Kd.R_far (p := ⟨gb265, 1, none⟩) (Kd.R_far (p := ⟨gb265, 0, none⟩) (Kd.R_types HO241.out BK265.out (by decide)) (fun _ hk => hk.2) (.int .i64 t258)) (fun _ hk => hk.2) (.int .i64 t259)) (fun _ hk => hk.2) (.slice Ao52 t260.length co52)) (fun _ h_ => h_.1))))) (Kd.R_lt (by (with_reducible repeat (first | apply Kd.R_alloc | apply Kd.R_drewN | apply Kd.R_drew)); exact (Kd.R_mono (Kd.R_far (p := ⟨gb265, 2, none⟩) (Kd.R_far (p := ⟨gb265, 1, none⟩) (Kd.R_far (p := ⟨gb265, 0, none⟩) (Kd.R_types HO247.out BK265.out (by decide)) (fun _ hk => hk.2) (.int .i64 t258)) (fun _ hk => hk.2) (.int .i64 t259)) (fun _ hk => hk.2) (.slice Ao52 t260.length co52)) (fun _ h_ => h_.1))))) (Kd.R_lt (by (with_reducible repeat (first | apply Kd.R_alloc | apply Kd.R_drewN | apply Kd.R_drew)); exact (Kd.R_mono (Kd.R_far (p := ⟨gb265, 2, none⟩) (Kd.R_far (p := ⟨gb265, 1, none⟩) (Kd.R_far (p := ⟨gb265, 0, none⟩) (Kd.R_types HO254.out BK265.out (by decide)) (fun _ hk => hk.2) (.int .i64 t258)) (fun _ hk => hk.2) (.int .i64 t259)) (fun _ hk => hk.2) (.slice Ao52 t260.length co52)) (fun _ h_ => h_.1))))) (Kd.Q_lt (by (with_reducible repeat (first | apply Kd.Q_alloc | apply Kd.Q_drewN | apply Kd.Q_drew)); exact (Kd.Q_mono (Kd.Q_far (p := ⟨gb265, 2, none⟩) (Kd.Q_far (p := ⟨gb265, 1, none⟩) (Kd.Q_far (p := ⟨gb265, 0, none⟩) (Kd.Q_types HO262.out BK265.out (by decide)) (fun _ hk => hk.2) (.int .i64 t258)) (fun _ hk => hk.2) (.int .i64 t259)) (fun _ hk => hk.2) (.slice Ao52 t260.length co52)) (fun _ h_ => h_.1))))) (below_size (by repeat (first | (with_reducible first | exact HB.out | apply below_alloc | apply pw_below_drewN | apply below_drew1 | refine below_set ?_ GE235.out | refine below_set ?_ GE242.out | refine below_set ?_ GE249.out | refine below_set ?_ GE256.out | refine below_set ?_ GE265.out) | exact HB.out)))); have n5_ := Aside0.mk (blk_below (g := gb235) (o := .cells #[.int .i64 a0_0, .int .i64 a0_1, .slice A0_2 l0_2.length c0_2] 24 (0, 0)) (by (with_reducible repeat (first | refine blk_drewN ?_ _ | refine blk_drew ?_ | refine blk_alloc ?_ _)); refine blk_far ?_ NB235_265.out _; (with_reducible repeat (first | refine blk_drewN ?_ _ | refine blk_drew ?_ | refine blk_alloc ?_ _)); refine blk_far ?_ NB235_265.out _; (with_reducible repeat (first | refine blk_drewN ?_ _ | refine blk_drew ?_ | refine blk_alloc ?_ _)); refine blk_far ?_ NB235_265.out _; (with_reducible repeat (first | refine blk_drewN ?_ _ | refine blk_drew ?_ | refine blk_alloc ?_ _)); exact BK235.out) hb); have n6_ := Aside0.mk (blk_below (g := gb242) (o := .cells #[.int .i64 t237, .int .i64 t238, .slice Ao26 t239.length co26] 24 (0, 0)) (by (with_reducible repeat (first | refine blk_drewN ?_ _ | refine blk_drew ?_ | refine blk_alloc ?_ _)); refine blk_far ?_ NB242_265.out _; (with_reducible repeat (first | refine blk_drewN ?_ _ | refine blk_drew ?_ | refine blk_alloc ?_ _)); refine blk_far ?_ NB242_265.out _; (with_reducible repeat (first | refine blk_drewN ?_ _ | refine blk_drew ?_ | refine blk_alloc ?_ _)); refine blk_far ?_ NB242_265.out _; (with_reducible repeat (first | refine blk_drewN ?_ _ | refine blk_drew ?_ | refine blk_alloc ?_ _)); exact BK242.out) hb); have n7_ := Aside0.mk (blk_below (g := gb249) (o := .cells #[.int .i64 t243, .int .i64 t244, .slice Ao33 t245.length co33] 24 (0, 0)) (by (with_reducible repeat (first | refine blk_drewN ?_ _ | refine blk_drew ?_ | refine blk_alloc ?_ _)); refine blk_far ?_ NB249_265.out _; (with_reducible repeat (first | refine blk_drewN ?_ _ | refine blk_drew ?_ | refine blk_alloc ?_ _)); refine blk_far ?_ NB249_265.out _; (with_reducible repeat (first | refine blk_drewN ?_ _ | refine blk_drew ?_ | refine blk_alloc ?_ _)); refine blk_far ?_ NB249_265.out _; (with_reducible repeat (first | refine blk_drewN ?_ _ | refine blk_drew ?_ | refine blk_alloc ?_ _)); exact BK249.out) hb); have n8_ := Aside0.mk (blk_below (g := gb256) (o := .cells #[.int .i64 t250, .int .i64 t251, .slice Ao41 t252.length co41] 24 (0, 0)) (by (with_reducible repeat (first | refine blk_drewN ?_ _ | refine blk_drew ?_ | refine blk_alloc ?_ _)); refine blk_far ?_ NB256_265.out _; (with_reducible repeat (first | refine blk_drewN ?_ _ | refine blk_drew ?_ | refine blk_alloc ?_ _)); refine blk_far ?_ NB256_265.out _; (with_reducible repeat (first | refine blk_drewN ?_ _ | refine blk_drew ?_ | refine blk_alloc ?_ _)); refine blk_far ?_ NB256_265.out _; (with_reducible repeat (first | refine blk_drewN ?_ _ | refine blk_drew ?_ | refine blk_alloc ?_ _)); exact BK256.out) hb); have n9_ := Aside0.mk (blk_below (g := gb265) (o := .cells #[.int .i64 t258, .int .i64 t259, .slice Ao52 t260.length co52] 24 (0, 0)) (by (with_reducible repeat (first | refine blk_drewN ?_ _ | refine blk_drew ?_ | refine blk_alloc ?_ _)); refine blk_put (cs := #[.int .i64 t258, .int .i64 t259, .slice none 0 0]) ?_ 2 _ rfl; (with_reducible repeat (first | refine blk_drewN ?_ _ | refine blk_drew ?_ | refine blk_alloc ?_ _)); refine blk_put (cs := #[.int .i64 t258, .int .i64 0, .slice none 0 0]) ?_ 1 _ rfl; (with_reducible repeat (first | refine blk_drewN ?_ _ | refine blk_drew ?_ | refine blk_alloc ?_ _)); refine blk_put (cs := #[.int .i64 0, .int .i64 0, .slice none 0 0]) ?_ 0 _ rfl; (with_reducible repeat (first | refine blk_drewN ?_ _ | refine blk_drew ?_ | refine blk_alloc ?_ _)); exact BK265.out) hb); have n10_ := Aside0.mk (below_step (by repeat (first | (with_reducible first | exact HB.out | apply below_alloc | apply pw_below_drewN | apply below_drew1 | refine below_set ?_ GE235.out | refine below_set ?_ GE242.out | refine below_set ?_ GE249.out | refine below_set ?_ GE256.out | refine below_set ?_ GE265.out) | exact HB.out)) hb); clear HO241; clear HO247; clear HO254; clear HO262; clear BK235; clear BK242; clear BK249; clear BK256; clear BK265; clear HB; have HO241 := n0_; have HO247 := n1_; have HO254 := n2_; have HO262 := n3_; have HO270 := n4_; have BK235 := n5_; have BK242 := n6_; have BK249 := n7_; have BK256 := n8_; have BK265 := n9_; have HB := n10_; clear n0_ n1_ n2_ n3_ n4_ n5_ n6_ n7_ n8_ n9_ n10_; (try clear hb); (try clear hb2); (try clear hk); (try clear hi); (try clear ho0)) | ((with_reducible refine gate_dst (N := 21) rfl ?_); (try (refine gate_guard (by rfl) ?_; dsimp only)); refine box_event ?hg (N := 21) ?hd (cs := #[.int .i64 0, .int .i64 0, .slice none 0 0]) (t := 24) ?hr ?_; (case hd => rfl); (case hg => rfl); (case hr => first | (go_simp; done) | (go_simp; rfl)); intro gb273 hg w55 hbox hb; have n0_ := Aside0.mk (Kd.R_below (by (with_reducible repeat (first | apply Kd.R_alloc | apply Kd.R_drewN | apply Kd.R_drew)); exact HO241.out) hb); have n1_ := Aside0.mk (Kd.R_below (by (with_reducible repeat (first | apply Kd.R_alloc | apply Kd.R_drewN | apply Kd.R_drew)); exact HO247.out) hb); have n2_ := Aside0.mk (Kd.R_below (by (with_reducible repeat (first | apply Kd.R_alloc | apply Kd.R_drewN | apply Kd.R_drew)); exact HO254.out) hb); have n3_ := Aside0.mk (Kd.Q_below (by (with_reducible repeat (first | apply Kd.Q_alloc | apply Kd.Q_drewN | apply Kd.Q_drew)); exact HO262.out) hb); have n4_ := Aside0.mk (Kd.Q_below (by (with_reducible repeat (first | apply Kd.Q_alloc | apply Kd.Q_drewN | apply Kd.Q_drew)); exact HO270.out) hb); have n5_ := Aside0.mk (blk_below (g := gb235) (o := .cells #[.int .i64 a0_0, .int .i64 a0_1, .slice A0_2 l0_2.length c0_2] 24 (0, 0)) (by (with_reducible repeat (first | refine blk_drewN ?_ _ | refine blk_drew ?_ | refine blk_alloc ?_ _)); exact BK235.out) hb); have n6_ := Aside0.mk (blk_below (g := gb242) (o := .cells #[.int .i64 t237, .int .i64 t238, .slice Ao26 t239.length co26] 24 (0, 0)) (by (with_reducible repeat (first | refine blk_drewN ?_ _ | refine blk_drew ?_ | refine blk_alloc ?_ _)); exact BK242.out) hb); have n7_ := Aside0.mk (blk_below (g := gb249) (o := .cells #[.int .i64 t243, .int .i64 t244, .slice Ao33 t245.length co33] 24 (0, 0)) (by (with_reducible repeat (first | refine blk_drewN ?_ _ | refine blk_drew ?_ | refine blk_alloc ?_ _)); exact BK249.out) hb); have n8_ := Aside0.mk (blk_below (g := gb256) (o := .cells #[.int .i64 t250, .int .i64 t251, .slice Ao41 t252.length co41] 24 (0, 0)) (by (with_reducible repeat (first | refine blk_drewN ?_ _ | refine blk_drew ?_ | refine blk_alloc ?_ _)); exact BK256.out) hb); have n9_ := Aside0.mk (blk_below (g := gb265) (o := .cells #[.int .i64 t258, .int .i64 t259, .slice Ao52 t260.length co52] 24 (0, 0)) (by (with_reducible repeat (first | refine blk_drewN ?_ _ | refine blk_drew ?_ | refine blk_alloc ?_ _)); exact BK265.out) hb); have n10_ := Aside0.mk (below_step (by repeat (first | (with_reducible first | exact HB.out | apply below_alloc | apply pw_below_drewN | apply below_drew1 | refine below_set ?_ GE235.out | refine below_set ?_ GE242.out | refine below_set ?_ GE249.out | refine below_set ?_ GE256.out | refine below_set ?_ GE265.out) | exact HB.out)) hb); have n11_ := Aside0.mk (hbox); have n12_ := Aside0.mk ((by rw [hg]; exact (below_size (by repeat (first | (with_reducible first | exact HB.out | apply below_alloc | apply pw_below_drewN | apply below_drew1 | refine below_set ?_ GE235.out | refine below_set ?_ GE242.out | refine below_set ?_ GE249.out | refine below_set ?_ GE256.out | refine below_set ?_ GE265.out) | exact HB.out))) : w.heap.size ≤ gb273)); have n13_ := Aside0.mk ((by rw [hg]; exact (below_size (by repeat (first | (with_reducible first | exact HB.out | apply below_alloc | apply pw_below_drewN | apply below_drew1 | refine below_set ?_ GE235.out | refine below_set ?_ GE242.out | refine below_set ?_ GE249.out | refine below_set ?_ GE256.out | refine below_set ?_ GE265.out) | exact HB.out))) : w.heap.size ≤ gb273)); have n14_ := Aside0.mk ((by rw [hg]; exact Nat.ne_of_lt (blk_lt (g := gb235) (o := .cells #[.int .i64 a0_0, .int .i64 a0_1, .slice A0_2 l0_2.length c0_2] 24 (0, 0)) (by (with_reducible repeat (first | refine blk_drewN ?_ _ | refine blk_drew ?_ | refine blk_alloc ?_ _)); exact BK235.out)) : gb235 ≠ gb273)); have n15_ := Aside0.mk ((by rw [hg]; exact Nat.ne_of_gt (blk_lt (g := gb235) (o := .cells #[.int .i64 a0_0, .int .i64 a0_1, .slice A0_2 l0_2.length c0_2] 24 (0, 0)) (by (with_reducible repeat (first | refine blk_drewN ?_ _ | refine blk_drew ?_ | refine blk_alloc ?_ _)); exact BK235.out)) : gb273 ≠ gb235)); have n16_ := Aside0.mk ((by rw [hg]; exact Nat.ne_of_lt (blk_lt (g := gb242) (o := .cells #[.int .i64 t237, .int .i64 t238, .slice Ao26 t239.length co26] 24 (0, 0)) (by (with_reducible repeat (first | refine blk_drewN ?_ _ | refine blk_drew ?_ | refine blk_alloc ?_ _)); exact BK242.out)) : gb242 ≠ gb273)); have n17_ := Aside0.mk ((by rw [hg]; exact Nat.ne_of_gt (blk_lt (g := gb242) (o := .cells #[.int .i64 t237, .int .i64 t238, .slice Ao26 t239.length co26] 24 (0, 0)) (by (with_reducible repeat (first | refine blk_drewN ?_ _ | refine blk_drew ?_ | refine blk_alloc ?_ _)); exact BK242.out)) : gb273 ≠ gb242)); have n18_ := Aside0.mk ((by rw [hg]; exact Nat.ne_of_lt (blk_lt (g := gb249) (o := .cells #[.int .i64 t243, .int .i64 t244, .slice Ao33 t245.length co33] 24 (0, 0)) (by (with_reducible repeat (first | refine blk_drewN ?_ _ | refine blk_drew ?_ | refine blk_alloc ?_ _)); exact BK249.out)) : gb249 ≠ gb273)); have n19_ := Aside0.mk ((by rw [hg]; exact Nat.ne_of_gt (blk_lt (g := gb249) (o := .cells #[.int .i64 t243, .int .i64 t244, .slice Ao33 t245.length co33] 24 (0, 0)) (by (with_reducible repeat (first | refine blk_drewN ?_ _ | refine blk_drew ?_ | refine blk_alloc ?_ _)); exact BK249.out)) : gb273 ≠ gb249)); have n20_ := Aside0.mk ((by rw [hg]; exact Nat.ne_of_lt (blk_lt (g := gb256) (o := .cells #[.int .i64 t250, .int .i64 t251, .slice Ao41 t252.length co41] 24 (0, 0)) (by (with_reducible repeat (first | refine blk_drewN ?_ _ | refine blk_drew ?_ | refine blk_alloc ?_ _)); exact BK256.out)) : gb256 ≠ gb273)); have n21_ := Aside0.mk ((by rw [hg]; exact Nat.ne_of_gt (blk_lt (g := gb256) (o := .cells #[.int .i64 t250, .int .i64 t251, .slice Ao41 t252.length co41] 24 (0, 0)) (by (with_reducible repeat (first | refine blk_drewN ?_ _ | refine blk_drew ?_ | refine blk_alloc ?_ _)); exact BK256.out)) : gb273 ≠ gb256)); have n22_ := Aside0.mk ((by rw [hg]; exact Nat.ne_of_lt (blk_lt (g := gb265) (o := .cells #[.int .i64 t258, .int .i64 t259, .slice Ao52 t260.length co52] 24 (0, 0)) (by (with_reducible repeat (first | refine blk_drewN ?_ _ | refine blk_drew ?_ | refine blk_alloc ?_ _)); exact BK265.out)) : gb265 ≠ gb273)); have n23_ := Aside0.mk ((by rw [hg]; exact Nat.ne_of_gt (blk_lt (g := gb265) (o := .cells #[.int .i64 t258, .int .i64 t259, .slice Ao52 t260.length co52] 24 (0, 0)) (by (with_reducible repeat (first | refine blk_drewN ?_ _ | refine blk_drew ?_ | refine blk_alloc ?_ _)); exact BK265.out)) : gb273 ≠ gb265)); clear HO241; clear HO247; clear HO254; clear HO262; clear HO270; clear BK235; clear BK242; clear BK249; clear BK256; clear BK265; clear HB; have HO241 := n0_; have HO247 := n1_; have HO254 := n2_; have HO262 := n3_; have HO270 := n4_; have BK235 := n5_; have BK242 := n6_; have BK249 := n7_; have BK256 := n8_; have BK265 := n9_; have HB := n10_; have BK273 := n11_; have GW273 := n12_; have GE273 := n13_; have NB235_273 := n14_; have NB273_235 := n15_; have NB242_273 := n16_; have NB273_242 := n17_; have NB249_273 := n18_; have NB273_249 := n19_; have NB256_273 := n20_; have NB273_256 := n21_; have NB265_273 := n22_; have NB273_265 := n23_; clear n0_ n1_ n2_ n3_ n4_ n5_ n6_ n7_ n8_ n9_ n10_ n11_ n12_ n13_ n14_ n15_ n16_ n17_ n18_ n19_ n20_ n21_ n22_ n23_; clear hb hbox hg; have hnb56 := NB273_235.out; have hnc56 := NB235_273.out; have hnb57 := NB273_242.out; have hnc57 := NB242_273.out; have hnb58 := NB273_249.out; have hnc58 := NB249_273.out; have hnb59 := NB273_256.out; have hnc59 := NB256_273.out; have hnb60 := NB273_265.out; have hnc60 := NB265_273.out; have hcz61_0 : w55.cell? ⟨gb273, 0, none⟩ = some (.int .i64 0) := (blk_cell BK273.out 0).trans rfl; have hcz61_1 : w55.cell? ⟨gb273, 1, none⟩ = some (.int .i64 0) := (blk_cell BK273.out 1).trans rfl; have hcz61_2 : w55.cell? ⟨gb273, 2, none⟩ = some (.slice none 0 0) := (blk_cell BK273.out 2).trans rfl; have hfz61_0 := blk_frozen BK273.out 0; have hfz61_1 := blk_frozen BK273.out 1; have hfz61_2 := blk_frozen BK273.out 2; obtain ⟨Ao62, co62, eo62, _⟩ := Kd.Q_slice HO270.out; subst eo62; have hcz63_0 : w55.cell? ⟨gb265, 0, none⟩ = some (.int .i64 t258) := (blk_cell BK265.out 0).trans rfl; have hcz63_1 : w55.cell? ⟨gb265, 1, none⟩ = some (.int .i64 t259) := (blk_cell BK265.out 1).trans rfl; have hcz63_2 : w55.cell? ⟨gb265, 2, none⟩ = some (.slice Ao52 t260.length co52) := (blk_cell BK265.out 2).trans rfl; have hfz63_0 := blk_frozen BK265.out 0; have hfz63_1 := blk_frozen BK265.out 1; have hfz63_2 := blk_frozen BK265.out 2) | ((with_reducible refine gate_callee (f := 12) rfl ?_); refine goesL_ (some 73) rfl rfl Try.func12 (by kernel_rfl) rfl #[.agg #[.int .i64 t258, .int .i64 t259, .slice Ao52 t260.length co52], .agg #[.int .i64 t266, .int .i64 t267, .slice Ao62 t268.length co62]] rfl (by (try simp only [List.map_toArray, List.map_cons, List.map_nil]); first | done | rfl | (simp only [List.length_drop, List.length_take]; rfl)) ?_; (with_reducible refine (fourinhandref11_Same.calls kj6 t258 t259 _ _ t260 t266 t267 _ _ t268 t274 _ ?side1 ?side2 ?side3 ?side4 A19.out).mono ?_); (case side1 => refine (Kd.Q_reads' (e := 3) (base := w.heap.size) (ok := fun k_ => ((((True ∧ some k_ ≠ (.slice Ao26 t239.length co26 : Value).ownBlock) ∧ some k_ ≠ (.slice Ao33 t245.length co33 : Value).ownBlock) ∧ some k_ ≠ (.slice Ao41 t252.length co41 : Value).ownBlock) ∧ some k_ ≠ (.slice Ao62 t268.length co62 : Value).ownBlock)) (n := t260.length) (c := co52) ?_).2.2; exact (by (with_reducible repeat (first | apply Kd.Q_alloc | apply Kd.Q_drewN | apply Kd.Q_drew)); exact (Kd.Q_mono (Kd.Q_far (p := ⟨gb273, 2, none⟩) (Kd.Q_far (p := ⟨gb273, 1, none⟩) (Kd.Q_far (p := ⟨gb273, 0, none⟩) (Kd.Q_types HO262.out BK273.out (by decide)) (fun _ hk => hk.2) (.int .i64 t266)) (fun _ hk => hk.2) (.int .i64 t267)) (fun _ hk => hk.2) (.slice Ao62 t268.length co62)) (fun _ h_ => h_.1)))); (case side2 => exact (Kd.Q_reads' HO262.out).2.1); (case side3 => refine (Kd.Q_reads' (e := 3) (base := w.heap.size) (ok := fun k_ => ((((True ∧ some k_ ≠ (.slice Ao26 t239.length co26 : Value).ownBlock) ∧ some k_ ≠ (.slice Ao33 t245.length co33 : Value).ownBlock) ∧ some k_ ≠ (.slice Ao41 t252.length co41 : Value).ownBlock) ∧ some k_ ≠ (.slice Ao52 t260.length co52 : Value).ownBlock)) (n := t268.length) (c := co62) ?_).2.2; exact (by (with_reducible repeat (first | apply Kd.Q_alloc | apply Kd.Q_drewN | apply Kd.Q_drew)); exact (Kd.Q_mono (Kd.Q_far (p := ⟨gb273, 2, none⟩) (Kd.Q_far (p := ⟨gb273, 1, none⟩) (Kd.Q_far (p := ⟨gb273, 0, none⟩) (Kd.Q_types HO270.out BK273.out (by decide)) (fun _ hk => hk.2) (.int .i64 t266)) (fun _ hk => hk.2) (.int .i64 t267)) (fun _ hk => hk.2) (.slice Ao62 t268.length co62)) (fun _ h_ => h_.1)))); (case side4 => exact (Kd.Q_reads' HO270.out).2.1); rintro e w64 ⟨rfl, hb⟩; refine ⟨_, rfl, ?_⟩; have n0_ := Aside0.mk (Kd.R_below (by (with_reducible repeat (first | apply Kd.R_alloc | apply Kd.R_drewN | apply Kd.R_drew)); exact (Kd.R_mono (Kd.R_far (p := ⟨gb273, 2, none⟩) (Kd.R_far (p := ⟨gb273, 1, none⟩) (Kd.R_far (p := ⟨gb273, 0, none⟩) (Kd.R_types HO241.out BK273.out (by decide)) (fun _ hk => hk.2) (.int .i64 t266)) (fun _ hk => hk.2) (.int .i64 t267)) (fun _ hk => hk.2) (.slice Ao62 t268.length co62)) (fun _ h_ => h_.1))) hb); have n1_ := Aside0.mk (Kd.R_below (by (with_reducible repeat (first | apply Kd.R_alloc | apply Kd.R_drewN | apply Kd.R_drew)); exact (Kd.R_mono (Kd.R_far (p := ⟨gb273, 2, none⟩) (Kd.R_far (p := ⟨gb273, 1, none⟩) (Kd.R_far (p := ⟨gb273, 0, none⟩) (Kd.R_types HO247.out BK273.out (by decide)) (fun _ hk => hk.2) (.int .i64 t266)) (fun _ hk => hk.2) (.int .i64 t267)) (fun _ hk => hk.2) (.slice Ao62 t268.length co62)) (fun _ h_ => h_.1))) hb); have n2_ := Aside0.mk (Kd.R_below (by (with_reducible repeat (first | apply Kd.R_alloc | apply Kd.R_drewN | apply Kd.R_drew)); exact (Kd.R_mono (Kd.R_far (p := ⟨gb273, 2, none⟩) (Kd.R_far (p := ⟨gb273, 1, none⟩) (Kd.R_far (p := ⟨gb273, 0, none⟩) (Kd.R_types HO254.out BK273.out (by decide)) (fun _ hk => hk.2) (.int .i64 t266)) (fun _ hk => hk.2) (.int .i64 t267)) (fun _ hk => hk.2) (.slice Ao62 t268.length co62)) (fun _ h_ => h_.1))) hb); have n3_ := Aside0.mk (Kd.Q_below (by (with_reducible repeat (first | apply Kd.Q_alloc | apply Kd.Q_drewN | apply Kd.Q_drew)); exact (Kd.Q_mono (Kd.Q_far (p := ⟨gb273, 2, none⟩) (Kd.Q_far (p := ⟨gb273, 1, none⟩) (Kd.Q_far (p := ⟨gb273, 0, none⟩) (Kd.Q_types HO262.out BK273.out (by decide)) (fun _ hk => hk.2) (.int .i64 t266)) (fun _ hk => hk.2) (.int .i64 t267)) (fun _ hk => hk.2) (.slice Ao62 t268.length co62)) (fun _ h_ => h_.1))) hb); have n4_ := Aside0.mk (Kd.Q_below (by (with_reducible repeat (first | apply Kd.Q_alloc | apply Kd.Q_drewN | apply Kd.Q_drew)); exact (Kd.Q_mono (Kd.Q_far (p := ⟨gb273, 2, none⟩) (Kd.Q_far (p := ⟨gb273, 1, none⟩) (Kd.Q_far (p := ⟨gb273, 0, none⟩) (Kd.Q_types HO270.out BK273.out (by decide)) (fun _ hk => hk.2) (.int .i64 t266)) (fun _ hk => hk.2) (.int .i64 t267)) (fun _ hk => hk.2) (.slice Ao62 t268.length co62)) (fun _ h_ => h_.1))) hb); have n5_ := Aside0.mk (blk_below (g := gb235) (o := .cells #[.int .i64 a0_0, .int .i64 a0_1, .slice A0_2 l0_2.length c0_2] 24 (0, 0)) (by (with_reducible repeat (first | refine blk_drewN ?_ _ | refine blk_drew ?_ | refine blk_alloc ?_ _)); refine blk_far ?_ NB235_273.out _; (with_reducible repeat (first | refine blk_drewN ?_ _ | refine blk_drew ?_ | refine blk_alloc ?_ _)); refine blk_far ?_ NB235_273.out _; (with_reducible repeat (first | refine blk_drewN ?_ _ | refine blk_drew ?_ | refine blk_alloc ?_ _)); refine blk_far ?_ NB235_273.out _; (with_reducible repeat (first | refine blk_drewN ?_ _ | refine blk_drew ?_ | refine blk_alloc ?_ _)); exact BK235.out) hb); have n6_ := Aside0.mk (blk_below (g := gb242) (o := .cells #[.int .i64 t237, .int .i64 t238, .slice Ao26 t239.length co26] 24 (0, 0)) (by (with_reducible repeat (first | refine blk_drewN ?_ _ | refine blk_drew ?_ | refine blk_alloc ?_ _)); refine blk_far ?_ NB242_273.out _; (with_reducible repeat (first | refine blk_drewN ?_ _ | refine blk_drew ?_ | refine blk_alloc ?_ _)); refine blk_far ?_ NB242_273.out _; (with_reducible repeat (first | refine blk_drewN ?_ _ | refine blk_drew ?_ | refine blk_alloc ?_ _)); refine blk_far ?_ NB242_273.out _; (with_reducible repeat (first | refine blk_drewN ?_ _ | refine blk_drew ?_ | refine blk_alloc ?_ _)); exact BK242.out) hb); have n7_ := Aside0.mk (blk_below (g := gb249) (o := .cells #[.int .i64 t243, .int .i64 t244, .slice Ao33 t245.length co33] 24 (0, 0)) (by (with_reducible repeat (first | refine blk_drewN ?_ _ | refine blk_drew ?_ | refine blk_alloc ?_ _)); refine blk_far ?_ NB249_273.out _; (with_reducible repeat (first | refine blk_drewN ?_ _ | refine blk_drew ?_ | refine blk_alloc ?_ _)); refine blk_far ?_ NB249_273.out _; (with_reducible repeat (first | refine blk_drewN ?_ _ | refine blk_drew ?_ | refine blk_alloc ?_ _)); refine blk_far ?_ NB249_273.out _; (with_reducible repeat (first | refine blk_drewN ?_ _ | refine blk_drew ?_ | refine blk_alloc ?_ _)); exact BK249.out) hb); have n8_ := Aside0.mk (blk_below (g := gb256) (o := .cells #[.int .i64 t250, .int .i64 t251, .slice Ao41 t252.length co41] 24 (0, 0)) (by (with_reducible repeat (first | refine blk_drewN ?_ _ | refine blk_drew ?_ | refine blk_alloc ?_ _)); refine blk_far ?_ NB256_273.out _; (with_reducible repeat (first | refine blk_drewN ?_ _ | refine blk_drew ?_ | refine blk_alloc ?_ _)); refine blk_far ?_ NB256_273.out _; (with_reducible repeat (first | refine blk_drewN ?_ _ | refine blk_drew ?_ | refine blk_alloc ?_ _)); refine blk_far ?_ NB256_273.out _; (with_reducible repeat (first | refine blk_drewN ?_ _ | refine blk_drew ?_ | refine blk_alloc ?_ _)); exact BK256.out) hb); have n9_ := Aside0.mk (blk_below (g := gb265) (o := .cells #[.int .i64 t258, .int .i64 t259, .slice Ao52 t260.length co52] 24 (0, 0)) (by (with_reducible repeat (first | refine blk_drewN ?_ _ | refine blk_drew ?_ | refine blk_alloc ?_ _)); refine blk_far ?_ NB265_273.out _; (with_reducible repeat (first | refine blk_drewN ?_ _ | refine blk_drew ?_ | refine blk_alloc ?_ _)); refine blk_far ?_ NB265_273.out _; (with_reducible repeat (first | refine blk_drewN ?_ _ | refine blk_drew ?_ | refine blk_alloc ?_ _)); refine blk_far ?_ NB265_273.out _; (with_reducible repeat (first | refine blk_drewN ?_ _ | refine blk_drew ?_ | refine blk_alloc ?_ _)); exact BK265.out) hb); have n10_ := Aside0.mk (blk_below (g := gb273) (o := .cells #[.int .i64 t266, .int .i64 t267, .slice Ao62 t268.length co62] 24 (0, 0)) (by (with_reducible repeat (first | refine blk_drewN ?_ _ | refine blk_drew ?_ | refine blk_alloc ?_ _)); refine blk_put (cs := #[.int .i64 t266, .int .i64 t267, .slice none 0 0]) ?_ 2 _ rfl; (with_reducible repeat (first | refine blk_drewN ?_ _ | refine blk_drew ?_ | refine blk_alloc ?_ _)); refine blk_put (cs := #[.int .i64 t266, .int .i64 0, .slice none 0 0]) ?_ 1 _ rfl; (with_reducible repeat (first | refine blk_drewN ?_ _ | refine blk_drew ?_ | refine blk_alloc ?_ _)); refine blk_put (cs := #[.int .i64 0, .int .i64 0, .slice none 0 0]) ?_ 0 _ rfl; (with_reducible repeat (first | refine blk_drewN ?_ _ | refine blk_drew ?_ | refine blk_alloc ?_ _)); exact BK273.out) hb); have n11_ := Aside0.mk (below_step (by repeat (first | (with_reducible first | exact HB.out | apply below_alloc | apply pw_below_drewN | apply below_drew1 | refine below_set ?_ GE235.out | refine below_set ?_ GE242.out | refine below_set ?_ GE249.out | refine below_set ?_ GE256.out | refine below_set ?_ GE265.out | refine below_set ?_ GE273.out) | exact HB.out)) hb); clear HO241; clear HO247; clear HO254; clear HO262; clear HO270; clear BK235; clear BK242; clear BK249; clear BK256; clear BK265; clear BK273; clear HB; have HO241 := n0_; have HO247 := n1_; have HO254 := n2_; have HO262 := n3_; have HO270 := n4_; have BK235 := n5_; have BK242 := n6_; have BK249 := n7_; have BK256 := n8_; have BK265 := n9_; have BK273 := n10_; have HB := n11_; clear n0_ n1_ n2_ n3_ n4_ n5_ n6_ n7_ n8_ n9_ n10_ n11_; (try clear hb); (try clear hb2); (try clear hk); (try clear hi)))
        (try simp only [Act.put, List.setIfInBounds_toArray, List.set_cons_zero, List.set_cons_succ])
        go_cut [25] (fun v25 wc => ∃ (kq : Nat) (x25_19 : Bool), v25 = .bool x25_19 ∧ Aside0 (fourinhandlaw11_RateTells.j1 kq x25_19 a0_0 a0_1 l0_2 t237 t238 t239 = some r) ∧ Aside0 (kq ≤ kj6) ∧ Aside0 (Kd.Q (Kd.int .i64) 3 wc w.heap.size (fun k_ => some k_ ≠ ((.slice Ao33 t245.length co33) : Value).ownBlock ∧ some k_ ≠ ((.slice Ao41 t252.length co41) : Value).ownBlock ∧ some k_ ≠ ((.slice Ao52 t260.length co52) : Value).ownBlock ∧ some k_ ≠ ((.slice Ao62 t268.length co62) : Value).ownBlock) (.slice Ao26 t239.length co26) t239) ∧ Aside0 (Kd.Q (Kd.int .i64) 3 wc w.heap.size (fun k_ => some k_ ≠ ((.slice Ao26 t239.length co26) : Value).ownBlock ∧ some k_ ≠ ((.slice Ao41 t252.length co41) : Value).ownBlock ∧ some k_ ≠ ((.slice Ao52 t260.length co52) : Value).ownBlock ∧ some k_ ≠ ((.slice Ao62 t268.length co62) : Value).ownBlock) (.slice Ao33 t245.length co33) t245) ∧ Aside0 (Kd.Q (Kd.int .i64) 3 wc w.heap.size (fun k_ => some k_ ≠ ((.slice Ao26 t239.length co26) : Value).ownBlock ∧ some k_ ≠ ((.slice Ao33 t245.length co33) : Value).ownBlock ∧ some k_ ≠ ((.slice Ao52 t260.length co52) : Value).ownBlock ∧ some k_ ≠ ((.slice Ao62 t268.length co62) : Value).ownBlock) (.slice Ao41 t252.length co41) t252) ∧ Aside0 (Kd.Q (Kd.int .i64) 3 wc w.heap.size (fun k_ => some k_ ≠ ((.slice Ao26 t239.length co26) : Value).ownBlock ∧ some k_ ≠ ((.slice Ao33 t245.length co33) : Value).ownBlock ∧ some k_ ≠ ((.slice Ao41 t252.length co41) : Value).ownBlock ∧ some k_ ≠ ((.slice Ao62 t268.length co62) : Value).ownBlock) (.slice Ao52 t260.length co52) t260) ∧ Aside0 (Kd.Q (Kd.int .i64) 3 wc w.heap.size (fun k_ => some k_ ≠ ((.slice Ao26 t239.length co26) : Value).ownBlock ∧ some k_ ≠ ((.slice Ao33 t245.length co33) : Value).ownBlock ∧ some k_ ≠ ((.slice Ao41 t252.length co41) : Value).ownBlock ∧ some k_ ≠ ((.slice Ao52 t260.length co52) : Value).ownBlock) (.slice Ao62 t268.length co62) t268) ∧ Aside0 (wc.heap[gb235]? = some (.cells #[.int .i64 a0_0, .int .i64 a0_1, (.slice A0_2 l0_2.length c0_2)] 24 (0, 0))) ∧ Aside0 (wc.heap[gb242]? = some (.cells #[.int .i64 t237, .int .i64 t238, (.slice Ao26 t239.length co26)] 24 (0, 0))) ∧ Aside0 (wc.heap[gb249]? = some (.cells #[.int .i64 t243, .int .i64 t244, (.slice Ao33 t245.length co33)] 24 (0, 0))) ∧ Aside0 (wc.heap[gb256]? = some (.cells #[.int .i64 t250, .int .i64 t251, (.slice Ao41 t252.length co41)] 24 (0, 0))) ∧ Aside0 (wc.heap[gb265]? = some (.cells #[.int .i64 t258, .int .i64 t259, (.slice Ao52 t260.length co52)] 24 (0, 0))) ∧ Aside0 (wc.heap[gb273]? = some (.cells #[.int .i64 t266, .int .i64 t267, (.slice Ao62 t268.length co62)] 24 (0, 0))) ∧ Aside0 (Below w.heap.size w wc))
        case first =>
          have H := HC20.out
          clear HC20
          by_cases c65 : t257 = true
          · subst c65
            have H1 : (if t248 = t255 then (if t274 = true then (if t263 = t271 then (fourinhandlaw11_RateTells.j1 kj6 (t264 == t272) a0_0 a0_1 l0_2 t237 t238 t239) else (fourinhandlaw11_RateTells.j1 kj6 false a0_0 a0_1 l0_2 t237 t238 t239)) else (fourinhandlaw11_RateTells.j1 kj6 false a0_0 a0_1 l0_2 t237 t238 t239)) else (fourinhandlaw11_RateTells.j1 kj6 false a0_0 a0_1 l0_2 t237 t238 t239)) = some r := by rw [if_pos rfl] at H; exact H
            clear H
            have H := H1
            clear H1
            by_cases c66 : t248 = t255
            · rw [if_pos c66] at H
              have c66b0 : (t248 == t255) = true := beq_iff_eq.mpr c66
              have c66b1 : (t248 != t255) = false := bne_eq_false_iff_eq.mpr c66
              clear c66
              (first | rw [c66b0] | (simp only [i64_w, i32_w]; rw [c66b0]) | skip)
              by_cases c67 : t274 = true
              · subst c67
                have H1 : (if t263 = t271 then (fourinhandlaw11_RateTells.j1 kj6 (t264 == t272) a0_0 a0_1 l0_2 t237 t238 t239) else (fourinhandlaw11_RateTells.j1 kj6 false a0_0 a0_1 l0_2 t237 t238 t239)) = some r := by rw [if_pos rfl] at H; exact H
                clear H
                have H := H1
                clear H1
                by_cases c68 : t263 = t271
                · rw [if_pos c68] at H
                  have c68b0 : (t263 == t271) = true := beq_iff_eq.mpr c68
                  have c68b1 : (t263 != t271) = false := bne_eq_false_iff_eq.mpr c68
                  clear c68
                  have H' := Aside0.mk H
                  clear H
                  go_wp2
                  go_meet
                  case rel => exact ⟨_, ((t264 == t272)), (by first | rfl | (simp; done) | (simp [*]; done)), H', ⟨by have := HJ6.out; first | omega | exact Nat.le_refl _⟩, ⟨Kd.Q_of_R (by (with_reducible repeat (first | apply Kd.R_alloc | apply Kd.R_drewN | apply Kd.R_drew)); exact Kd.R_mono HO241.out (fun _ hk => ⟨hk.1.1.1.2, ⟨hk.1.1.2, ⟨hk.1.2, hk.2⟩⟩⟩))⟩, ⟨Kd.Q_of_R (by (with_reducible repeat (first | apply Kd.R_alloc | apply Kd.R_drewN | apply Kd.R_drew)); exact Kd.R_mono HO247.out (fun _ hk => ⟨hk.1.1.1.2, ⟨hk.1.1.2, ⟨hk.1.2, hk.2⟩⟩⟩))⟩, ⟨Kd.Q_of_R (by (with_reducible repeat (first | apply Kd.R_alloc | apply Kd.R_drewN | apply Kd.R_drew)); exact Kd.R_mono HO254.out (fun _ hk => ⟨hk.1.1.1.2, ⟨hk.1.1.2, ⟨hk.1.2, hk.2⟩⟩⟩))⟩, ⟨by (with_reducible repeat (first | apply Kd.Q_alloc | apply Kd.Q_drewN | apply Kd.Q_drew)); exact Kd.Q_mono HO262.out (fun _ hk => ⟨hk.1.1.1.2, ⟨hk.1.1.2, ⟨hk.1.2, hk.2⟩⟩⟩)⟩, ⟨by (with_reducible repeat (first | apply Kd.Q_alloc | apply Kd.Q_drewN | apply Kd.Q_drew)); exact Kd.Q_mono HO270.out (fun _ hk => ⟨hk.1.1.1.2, ⟨hk.1.1.2, ⟨hk.1.2, hk.2⟩⟩⟩)⟩, ⟨by (with_reducible repeat (first | refine blk_drewN ?_ _ | refine blk_drew ?_ | refine blk_alloc ?_ _)); exact BK235.out⟩, ⟨by (with_reducible repeat (first | refine blk_drewN ?_ _ | refine blk_drew ?_ | refine blk_alloc ?_ _)); exact BK242.out⟩, ⟨by (with_reducible repeat (first | refine blk_drewN ?_ _ | refine blk_drew ?_ | refine blk_alloc ?_ _)); exact BK249.out⟩, ⟨by (with_reducible repeat (first | refine blk_drewN ?_ _ | refine blk_drew ?_ | refine blk_alloc ?_ _)); exact BK256.out⟩, ⟨by (with_reducible repeat (first | refine blk_drewN ?_ _ | refine blk_drew ?_ | refine blk_alloc ?_ _)); exact BK265.out⟩, ⟨by (with_reducible repeat (first | refine blk_drewN ?_ _ | refine blk_drew ?_ | refine blk_alloc ?_ _)); exact BK273.out⟩, ⟨by repeat (first | (with_reducible first | exact HB.out | apply below_alloc | apply pw_below_drewN | apply below_drew1 | refine below_set ?_ GE235.out | refine below_set ?_ GE242.out | refine below_set ?_ GE249.out | refine below_set ?_ GE256.out | refine below_set ?_ GE265.out | refine below_set ?_ GE273.out) | exact HB.out)⟩⟩
                · rw [if_neg c68] at H
                  have c68b0 : (t263 == t271) = false := beq_eq_false_iff_ne.mpr c68
                  have c68b1 : (t263 != t271) = true := bne_iff_ne.mpr c68
                  have H' := Aside0.mk H
                  clear H
                  go_wp2
                  go_meet
                  case rel => exact ⟨_, (false), (by first | rfl | (simp; done) | (simp [*]; done)), H', ⟨by have := HJ6.out; first | omega | exact Nat.le_refl _⟩, ⟨Kd.Q_of_R (by (with_reducible repeat (first | apply Kd.R_alloc | apply Kd.R_drewN | apply Kd.R_drew)); exact Kd.R_mono HO241.out (fun _ hk => ⟨hk.1.1.1.2, ⟨hk.1.1.2, ⟨hk.1.2, hk.2⟩⟩⟩))⟩, ⟨Kd.Q_of_R (by (with_reducible repeat (first | apply Kd.R_alloc | apply Kd.R_drewN | apply Kd.R_drew)); exact Kd.R_mono HO247.out (fun _ hk => ⟨hk.1.1.1.2, ⟨hk.1.1.2, ⟨hk.1.2, hk.2⟩⟩⟩))⟩, ⟨Kd.Q_of_R (by (with_reducible repeat (first | apply Kd.R_alloc | apply Kd.R_drewN | apply Kd.R_drew)); exact Kd.R_mono HO254.out (fun _ hk => ⟨hk.1.1.1.2, ⟨hk.1.1.2, ⟨hk.1.2, hk.2⟩⟩⟩))⟩, ⟨by (with_reducible repeat (first | apply Kd.Q_alloc | apply Kd.Q_drewN | apply Kd.Q_drew)); exact Kd.Q_mono HO262.out (fun _ hk => ⟨hk.1.1.1.2, ⟨hk.1.1.2, ⟨hk.1.2, hk.2⟩⟩⟩)⟩, ⟨by (with_reducible repeat (first | apply Kd.Q_alloc | apply Kd.Q_drewN | apply Kd.Q_drew)); exact Kd.Q_mono HO270.out (fun _ hk => ⟨hk.1.1.1.2, ⟨hk.1.1.2, ⟨hk.1.2, hk.2⟩⟩⟩)⟩, ⟨by (with_reducible repeat (first | refine blk_drewN ?_ _ | refine blk_drew ?_ | refine blk_alloc ?_ _)); exact BK235.out⟩, ⟨by (with_reducible repeat (first | refine blk_drewN ?_ _ | refine blk_drew ?_ | refine blk_alloc ?_ _)); exact BK242.out⟩, ⟨by (with_reducible repeat (first | refine blk_drewN ?_ _ | refine blk_drew ?_ | refine blk_alloc ?_ _)); exact BK249.out⟩, ⟨by (with_reducible repeat (first | refine blk_drewN ?_ _ | refine blk_drew ?_ | refine blk_alloc ?_ _)); exact BK256.out⟩, ⟨by (with_reducible repeat (first | refine blk_drewN ?_ _ | refine blk_drew ?_ | refine blk_alloc ?_ _)); exact BK265.out⟩, ⟨by (with_reducible repeat (first | refine blk_drewN ?_ _ | refine blk_drew ?_ | refine blk_alloc ?_ _)); exact BK273.out⟩, ⟨by repeat (first | (with_reducible first | exact HB.out | apply below_alloc | apply pw_below_drewN | apply below_drew1 | refine below_set ?_ GE235.out | refine below_set ?_ GE242.out | refine below_set ?_ GE249.out | refine below_set ?_ GE256.out | refine below_set ?_ GE265.out | refine below_set ?_ GE273.out) | exact HB.out)⟩⟩
              · replace c67 := Bool.eq_false_iff.mpr c67
                subst c67
                have H1 : (fourinhandlaw11_RateTells.j1 kj6 false a0_0 a0_1 l0_2 t237 t238 t239) = some r := by rw [if_neg (show ¬ (false = true) by decide)] at H; exact H
                clear H
                have H := H1
                clear H1
                have H' := Aside0.mk H
                clear H
                go_wp2
                go_meet
                case rel => exact ⟨_, (false), (by first | rfl | (simp; done) | (simp [*]; done)), H', ⟨by have := HJ6.out; first | omega | exact Nat.le_refl _⟩, ⟨Kd.Q_of_R (by (with_reducible repeat (first | apply Kd.R_alloc | apply Kd.R_drewN | apply Kd.R_drew)); exact Kd.R_mono HO241.out (fun _ hk => ⟨hk.1.1.1.2, ⟨hk.1.1.2, ⟨hk.1.2, hk.2⟩⟩⟩))⟩, ⟨Kd.Q_of_R (by (with_reducible repeat (first | apply Kd.R_alloc | apply Kd.R_drewN | apply Kd.R_drew)); exact Kd.R_mono HO247.out (fun _ hk => ⟨hk.1.1.1.2, ⟨hk.1.1.2, ⟨hk.1.2, hk.2⟩⟩⟩))⟩, ⟨Kd.Q_of_R (by (with_reducible repeat (first | apply Kd.R_alloc | apply Kd.R_drewN | apply Kd.R_drew)); exact Kd.R_mono HO254.out (fun _ hk => ⟨hk.1.1.1.2, ⟨hk.1.1.2, ⟨hk.1.2, hk.2⟩⟩⟩))⟩, ⟨by (with_reducible repeat (first | apply Kd.Q_alloc | apply Kd.Q_drewN | apply Kd.Q_drew)); exact Kd.Q_mono HO262.out (fun _ hk => ⟨hk.1.1.1.2, ⟨hk.1.1.2, ⟨hk.1.2, hk.2⟩⟩⟩)⟩, ⟨by (with_reducible repeat (first | apply Kd.Q_alloc | apply Kd.Q_drewN | apply Kd.Q_drew)); exact Kd.Q_mono HO270.out (fun _ hk => ⟨hk.1.1.1.2, ⟨hk.1.1.2, ⟨hk.1.2, hk.2⟩⟩⟩)⟩, ⟨by (with_reducible repeat (first | refine blk_drewN ?_ _ | refine blk_drew ?_ | refine blk_alloc ?_ _)); exact BK235.out⟩, ⟨by (with_reducible repeat (first | refine blk_drewN ?_ _ | refine blk_drew ?_ | refine blk_alloc ?_ _)); exact BK242.out⟩, ⟨by (with_reducible repeat (first | refine blk_drewN ?_ _ | refine blk_drew ?_ | refine blk_alloc ?_ _)); exact BK249.out⟩, ⟨by (with_reducible repeat (first | refine blk_drewN ?_ _ | refine blk_drew ?_ | refine blk_alloc ?_ _)); exact BK256.out⟩, ⟨by (with_reducible repeat (first | refine blk_drewN ?_ _ | refine blk_drew ?_ | refine blk_alloc ?_ _)); exact BK265.out⟩, ⟨by (with_reducible repeat (first | refine blk_drewN ?_ _ | refine blk_drew ?_ | refine blk_alloc ?_ _)); exact BK273.out⟩, ⟨by repeat (first | (with_reducible first | exact HB.out | apply below_alloc | apply pw_below_drewN | apply below_drew1 | refine below_set ?_ GE235.out | refine below_set ?_ GE242.out | refine below_set ?_ GE249.out | refine below_set ?_ GE256.out | refine below_set ?_ GE265.out | refine below_set ?_ GE273.out) | exact HB.out)⟩⟩
            · rw [if_neg c66] at H
              have c66b0 : (t248 == t255) = false := beq_eq_false_iff_ne.mpr c66
              have c66b1 : (t248 != t255) = true := bne_iff_ne.mpr c66
              (first | rw [c66b0] | (simp only [i64_w, i32_w]; rw [c66b0]) | skip)
              have H' := Aside0.mk H
              clear H
              go_wp2
              go_meet
              case rel => exact ⟨_, (false), (by first | rfl | (simp; done) | (simp [*]; done)), H', ⟨by have := HJ6.out; first | omega | exact Nat.le_refl _⟩, ⟨Kd.Q_of_R (by (with_reducible repeat (first | apply Kd.R_alloc | apply Kd.R_drewN | apply Kd.R_drew)); exact Kd.R_mono HO241.out (fun _ hk => ⟨hk.1.1.1.2, ⟨hk.1.1.2, ⟨hk.1.2, hk.2⟩⟩⟩))⟩, ⟨Kd.Q_of_R (by (with_reducible repeat (first | apply Kd.R_alloc | apply Kd.R_drewN | apply Kd.R_drew)); exact Kd.R_mono HO247.out (fun _ hk => ⟨hk.1.1.1.2, ⟨hk.1.1.2, ⟨hk.1.2, hk.2⟩⟩⟩))⟩, ⟨Kd.Q_of_R (by (with_reducible repeat (first | apply Kd.R_alloc | apply Kd.R_drewN | apply Kd.R_drew)); exact Kd.R_mono HO254.out (fun _ hk => ⟨hk.1.1.1.2, ⟨hk.1.1.2, ⟨hk.1.2, hk.2⟩⟩⟩))⟩, ⟨by (with_reducible repeat (first | apply Kd.Q_alloc | apply Kd.Q_drewN | apply Kd.Q_drew)); exact Kd.Q_mono HO262.out (fun _ hk => ⟨hk.1.1.1.2, ⟨hk.1.1.2, ⟨hk.1.2, hk.2⟩⟩⟩)⟩, ⟨by (with_reducible repeat (first | apply Kd.Q_alloc | apply Kd.Q_drewN | apply Kd.Q_drew)); exact Kd.Q_mono HO270.out (fun _ hk => ⟨hk.1.1.1.2, ⟨hk.1.1.2, ⟨hk.1.2, hk.2⟩⟩⟩)⟩, ⟨by (with_reducible repeat (first | refine blk_drewN ?_ _ | refine blk_drew ?_ | refine blk_alloc ?_ _)); exact BK235.out⟩, ⟨by (with_reducible repeat (first | refine blk_drewN ?_ _ | refine blk_drew ?_ | refine blk_alloc ?_ _)); exact BK242.out⟩, ⟨by (with_reducible repeat (first | refine blk_drewN ?_ _ | refine blk_drew ?_ | refine blk_alloc ?_ _)); exact BK249.out⟩, ⟨by (with_reducible repeat (first | refine blk_drewN ?_ _ | refine blk_drew ?_ | refine blk_alloc ?_ _)); exact BK256.out⟩, ⟨by (with_reducible repeat (first | refine blk_drewN ?_ _ | refine blk_drew ?_ | refine blk_alloc ?_ _)); exact BK265.out⟩, ⟨by (with_reducible repeat (first | refine blk_drewN ?_ _ | refine blk_drew ?_ | refine blk_alloc ?_ _)); exact BK273.out⟩, ⟨by repeat (first | (with_reducible first | exact HB.out | apply below_alloc | apply pw_below_drewN | apply below_drew1 | refine below_set ?_ GE235.out | refine below_set ?_ GE242.out | refine below_set ?_ GE249.out | refine below_set ?_ GE256.out | refine below_set ?_ GE265.out | refine below_set ?_ GE273.out) | exact HB.out)⟩⟩
          · replace c65 := Bool.eq_false_iff.mpr c65
            subst c65
            have H1 : (fourinhandlaw11_RateTells.j1 kj6 false a0_0 a0_1 l0_2 t237 t238 t239) = some r := by rw [if_neg (show ¬ (false = true) by decide)] at H; exact H
            clear H
            have H := H1
            clear H1
            have H' := Aside0.mk H
            clear H
            go_wp2
            go_meet
            case rel => exact ⟨_, (false), (by first | rfl | (simp; done) | (simp [*]; done)), H', ⟨by have := HJ6.out; first | omega | exact Nat.le_refl _⟩, ⟨Kd.Q_of_R (by (with_reducible repeat (first | apply Kd.R_alloc | apply Kd.R_drewN | apply Kd.R_drew)); exact Kd.R_mono HO241.out (fun _ hk => ⟨hk.1.1.1.2, ⟨hk.1.1.2, ⟨hk.1.2, hk.2⟩⟩⟩))⟩, ⟨Kd.Q_of_R (by (with_reducible repeat (first | apply Kd.R_alloc | apply Kd.R_drewN | apply Kd.R_drew)); exact Kd.R_mono HO247.out (fun _ hk => ⟨hk.1.1.1.2, ⟨hk.1.1.2, ⟨hk.1.2, hk.2⟩⟩⟩))⟩, ⟨Kd.Q_of_R (by (with_reducible repeat (first | apply Kd.R_alloc | apply Kd.R_drewN | apply Kd.R_drew)); exact Kd.R_mono HO254.out (fun _ hk => ⟨hk.1.1.1.2, ⟨hk.1.1.2, ⟨hk.1.2, hk.2⟩⟩⟩))⟩, ⟨by (with_reducible repeat (first | apply Kd.Q_alloc | apply Kd.Q_drewN | apply Kd.Q_drew)); exact Kd.Q_mono HO262.out (fun _ hk => ⟨hk.1.1.1.2, ⟨hk.1.1.2, ⟨hk.1.2, hk.2⟩⟩⟩)⟩, ⟨by (with_reducible repeat (first | apply Kd.Q_alloc | apply Kd.Q_drewN | apply Kd.Q_drew)); exact Kd.Q_mono HO270.out (fun _ hk => ⟨hk.1.1.1.2, ⟨hk.1.1.2, ⟨hk.1.2, hk.2⟩⟩⟩)⟩, ⟨by (with_reducible repeat (first | refine blk_drewN ?_ _ | refine blk_drew ?_ | refine blk_alloc ?_ _)); exact BK235.out⟩, ⟨by (with_reducible repeat (first | refine blk_drewN ?_ _ | refine blk_drew ?_ | refine blk_alloc ?_ _)); exact BK242.out⟩, ⟨by (with_reducible repeat (first | refine blk_drewN ?_ _ | refine blk_drew ?_ | refine blk_alloc ?_ _)); exact BK249.out⟩, ⟨by (with_reducible repeat (first | refine blk_drewN ?_ _ | refine blk_drew ?_ | refine blk_alloc ?_ _)); exact BK256.out⟩, ⟨by (with_reducible repeat (first | refine blk_drewN ?_ _ | refine blk_drew ?_ | refine blk_alloc ?_ _)); exact BK265.out⟩, ⟨by (with_reducible repeat (first | refine blk_drewN ?_ _ | refine blk_drew ?_ | refine blk_alloc ?_ _)); exact BK273.out⟩, ⟨by repeat (first | (with_reducible first | exact HB.out | apply below_alloc | apply pw_below_drewN | apply below_drew1 | refine below_set ?_ GE235.out | refine below_set ?_ GE242.out | refine below_set ?_ GE249.out | refine below_set ?_ GE256.out | refine below_set ?_ GE265.out | refine below_set ?_ GE273.out) | exact HB.out)⟩⟩
        case rest =>
          clear HC20
          try clear c1
          try clear c2
          try clear p2
          try clear c3
          try clear c4
          try clear c5
          try clear c6
          try clear c8
          try clear c9
          try clear c10
          try clear c11
          try clear c12
          try clear c13
          try clear c14
          try clear c24
          try clear c30
          try clear c31
          try clear c37
          try clear c38
          try clear c39
          try clear c47
          try clear c48
          try clear c49
          try clear c50
          try clear c56
          try clear c57
          try clear c58
          try clear c59
          try clear c60
          try clear c65
          try clear c66
          try clear c66b0
          try clear c66b1
          try clear c67
          try clear c68
          try clear c68b0
          try clear c68b1
          try clear hcz11_0
          try clear hcz11_1
          try clear hcz11_2
          try clear hcz21_0
          try clear hcz21_1
          try clear hcz21_2
          try clear hcz25_0
          try clear hcz25_1
          try clear hcz25_2
          try clear hcz27_0
          try clear hcz27_1
          try clear hcz27_2
          try clear hcz32_0
          try clear hcz32_1
          try clear hcz32_2
          try clear hcz34_0
          try clear hcz34_1
          try clear hcz34_2
          try clear hcz40_0
          try clear hcz40_1
          try clear hcz40_2
          try clear hcz42_0
          try clear hcz42_1
          try clear hcz42_2
          try clear hcz44_0
          try clear hcz44_1
          try clear hcz44_2
          try clear hcz51_0
          try clear hcz51_1
          try clear hcz51_2
          try clear hcz53_0
          try clear hcz53_1
          try clear hcz53_2
          try clear hcz61_0
          try clear hcz61_1
          try clear hcz61_2
          try clear hcz63_0
          try clear hcz63_1
          try clear hcz63_2
          try clear hfz11_0
          try clear hfz11_1
          try clear hfz11_2
          try clear hfz21_0
          try clear hfz21_1
          try clear hfz21_2
          try clear hfz25_0
          try clear hfz25_1
          try clear hfz25_2
          try clear hfz27_0
          try clear hfz27_1
          try clear hfz27_2
          try clear hfz32_0
          try clear hfz32_1
          try clear hfz32_2
          try clear hfz34_0
          try clear hfz34_1
          try clear hfz34_2
          try clear hfz40_0
          try clear hfz40_1
          try clear hfz40_2
          try clear hfz42_0
          try clear hfz42_1
          try clear hfz42_2
          try clear hfz44_0
          try clear hfz44_1
          try clear hfz44_2
          try clear hfz51_0
          try clear hfz51_1
          try clear hfz51_2
          try clear hfz53_0
          try clear hfz53_1
          try clear hfz53_2
          try clear hfz61_0
          try clear hfz61_1
          try clear hfz61_2
          try clear hfz63_0
          try clear hfz63_1
          try clear hfz63_2
          try clear p2
          obtain ⟨kq, x25_19, rfl, HA, HJ19, HO_243002, HO_250002, HO_257002, HO_266002, HO_274002, BK235, BK242, BK249, BK256, BK265, BK273, HB⟩ := hcut
          cases kq with
          | zero => exact absurd HA.out (by simp [fourinhandlaw11_RateTells.j1])
          | succ kj19 =>
            have H := HA.out
            clear HA
            simp only [fourinhandlaw11_RateTells.j1] at H
            by_cases c69 : x25_19 = true
            · subst c69
              have H1 : ((fourinhandref11_Same.f kj19 a0_0 a0_1 l0_2 t237 t238 t239).bind fun t275 => (if t275 = true then ((rate_Best.f kj19 a0_0 a0_1 l0_2).bind fun t276 => ((fourinhandref11_Best.f kj19 a0_0 a0_1 l0_2).bind fun t277 => (if t276 = t277 then ((rate_May.f kj19 a0_0 a0_1 l0_2).bind fun t278 => ((fourinhandref11_May.f kj19 a0_0 a0_1 l0_2).bind fun t279 => (some (t278 == t279)))) else (some false)))) else (some false))) = some r := by rw [if_pos rfl] at H; exact H
              clear H
              have H := H1
              clear H1
              replace H := Option.bind_eq_some_iff.mp H
              obtain ⟨t275, A700, H⟩ := H
              replace H : (if t275 = true then ((rate_Best.f kj19 a0_0 a0_1 l0_2).bind fun t276 => ((fourinhandref11_Best.f kj19 a0_0 a0_1 l0_2).bind fun t277 => (if t276 = t277 then ((rate_May.f kj19 a0_0 a0_1 l0_2).bind fun t278 => ((fourinhandref11_May.f kj19 a0_0 a0_1 l0_2).bind fun t279 => (some (t278 == t279)))) else (some false)))) else (some false)) = some r := H
              have A70 := Aside0.mk A700
              clear A700
              by_cases c71 : t275 = true
              · subst c71
                have H1 : ((rate_Best.f kj19 a0_0 a0_1 l0_2).bind fun t276 => ((fourinhandref11_Best.f kj19 a0_0 a0_1 l0_2).bind fun t277 => (if t276 = t277 then ((rate_May.f kj19 a0_0 a0_1 l0_2).bind fun t278 => ((fourinhandref11_May.f kj19 a0_0 a0_1 l0_2).bind fun t279 => (some (t278 == t279)))) else (some false)))) = some r := by rw [if_pos rfl] at H; exact H
                clear H
                have H := H1
                clear H1
                replace H := Option.bind_eq_some_iff.mp H
                obtain ⟨t276, A720, H⟩ := H
                replace H : ((fourinhandref11_Best.f kj19 a0_0 a0_1 l0_2).bind fun t277 => (if t276 = t277 then ((rate_May.f kj19 a0_0 a0_1 l0_2).bind fun t278 => ((fourinhandref11_May.f kj19 a0_0 a0_1 l0_2).bind fun t279 => (some (t278 == t279)))) else (some false))) = some r := H
                have A72 := Aside0.mk A720
                clear A720
                replace H := Option.bind_eq_some_iff.mp H
                obtain ⟨t277, A730, H⟩ := H
                replace H : (if t276 = t277 then ((rate_May.f kj19 a0_0 a0_1 l0_2).bind fun t278 => ((fourinhandref11_May.f kj19 a0_0 a0_1 l0_2).bind fun t279 => (some (t278 == t279)))) else (some false)) = some r := H
                have A73 := Aside0.mk A730
                clear A730
                by_cases c74 : t276 = t277
                · rw [if_pos c74] at H
                  have c74b0 : (t276 == t277) = true := beq_iff_eq.mpr c74
                  have c74b1 : (t276 != t277) = false := bne_eq_false_iff_eq.mpr c74
                  clear c74
                  replace H := Option.bind_eq_some_iff.mp H
                  obtain ⟨t278, A750, H⟩ := H
                  replace H : ((fourinhandref11_May.f kj19 a0_0 a0_1 l0_2).bind fun t279 => (some (t278 == t279))) = some r := H
                  have A75 := Aside0.mk A750
                  clear A750
                  replace H := Option.bind_eq_some_iff.mp H
                  obtain ⟨t279, A760, H⟩ := H
                  replace H : (some (t278 == t279)) = some r := H
                  have A76 := Aside0.mk A760
                  clear A760
                  obtain rfl := Option.some.inj H
                  try go_wp2
                  have n0_ := Aside0.mk (Kd.Q_drew HO_243002.out)
                  have n1_ := Aside0.mk (Kd.Q_drew HO_250002.out)
                  have n2_ := Aside0.mk (Kd.Q_drew HO_257002.out)
                  have n3_ := Aside0.mk (Kd.Q_drew HO_266002.out)
                  have n4_ := Aside0.mk (Kd.Q_drew HO_274002.out)
                  have n5_ := Aside0.mk (blk_drew BK235.out)
                  have n6_ := Aside0.mk (blk_drew BK242.out)
                  have n7_ := Aside0.mk (blk_drew BK249.out)
                  have n8_ := Aside0.mk (blk_drew BK256.out)
                  have n9_ := Aside0.mk (blk_drew BK265.out)
                  have n10_ := Aside0.mk (blk_drew BK273.out)
                  have n11_ := Aside0.mk (below_drew1 HB.out)
                  clear HO_243002
                  clear HO_250002
                  clear HO_257002
                  clear HO_266002
                  clear HO_274002
                  clear BK235
                  clear BK242
                  clear BK249
                  clear BK256
                  clear BK265
                  clear BK273
                  clear HB
                  have HO_243002 := n0_
                  have HO_250002 := n1_
                  have HO_257002 := n2_
                  have HO_266002 := n3_
                  have HO_274002 := n4_
                  have BK235 := n5_
                  have BK242 := n6_
                  have BK249 := n7_
                  have BK256 := n8_
                  have BK265 := n9_
                  have BK273 := n10_
                  have HB := n11_
                  clear n0_ n1_ n2_ n3_ n4_ n5_ n6_ n7_ n8_ n9_ n10_ n11_
                  refine start_ (n := 21) (S := fun w' => w'.cell? ⟨gb235, 0, none⟩ = some (.int .i64 a0_0) ∧ w'.cell? ⟨gb235, 1, none⟩ = some (.int .i64 a0_1) ∧ w'.cell? ⟨gb235, 2, none⟩ = some (.slice A0_2 l0_2.length c0_2) ∧ w'.cell? ⟨gb242, 0, none⟩ = some (.int .i64 t237) ∧ w'.cell? ⟨gb242, 1, none⟩ = some (.int .i64 t238) ∧ w'.cell? ⟨gb242, 2, none⟩ = some (.slice Ao26 t239.length co26)) (ds := []) #[false, false, false, false, false, false, false, false, false, false, false, false, false, false, false, false, false, false, false, false, false] (by kernel_rfl) rfl rfl ⟨(blk_cell BK235.out 0).trans rfl, (blk_cell BK235.out 1).trans rfl, (blk_cell BK235.out 2).trans rfl, (blk_cell BK242.out 0).trans rfl, (blk_cell BK242.out 1).trans rfl, (blk_cell BK242.out 2).trans rfl⟩ (fun hHeld => ?_); refine with_tabW fourinhandlaw11_RateTells.tab12 fourinhandlaw11_RateTells.bits12 (fun HT_ HW_ => ?_)
                  generalize wc.drew = w77 at HO_243002 HO_250002 HO_257002 HO_266002 HO_274002 BK235 BK242 BK249 BK256 BK265 BK273 HB hHeld ⊢
                  refine pure_ (i := 0) (N := some 93) (v := ?_) (a' := ?_) #[true, false, false, false, false, false, false, false, false, false, false, false, false, false, false, false, false, false, false, false, false] rfl rfl (any_of HT_.out (by kernel_rfl)) (fun _ _ _ h => h) (Or.inl ⟨by rfl, ?_⟩) ?_ ?_
                  rotate_left
                  · intro w'
                    go_simp
                    with_reducible rfl
                  rotate_left
                  · simp only [Act.put, List.setIfInBounds_toArray, List.set_cons_zero, List.set_cons_succ, i64_w, i32_w]
                    rfl
                  refine pure_ (i := 1) (N := some 94) (v := ?_) (a' := ?_) #[true, true, false, false, false, false, false, false, false, false, false, false, false, false, false, false, false, false, false, false, false] rfl rfl (any_of HT_.out (by kernel_rfl)) (fun _ _ _ h => h) (Or.inl ⟨by rfl, ?_⟩) ?_ ?_
                  rotate_left
                  · intro w'
                    go_simp
                    with_reducible rfl
                  rotate_left
                  · simp only [Act.put, List.setIfInBounds_toArray, List.set_cons_zero, List.set_cons_succ, i64_w, i32_w]
                    rfl
                  refine take_ (i := 2) (N := some 95) (v := ?_) (a' := ?_) #[true, true, true, false, false, false, false, false, false, false, false, false, false, false, false, false, false, false, false, false, false] rfl rfl (take_ofW HT_.out HW_.out (by kernel_rfl)) (fun _ _ _ h => h) (Or.inl ⟨by rfl, ?_⟩) hHeld ?_ ?_
                  rotate_left
                  · rintro w' ⟨s0, s1, s2, s3, s4, s5⟩
                    go_simp
                    with_reducible rfl
                  rotate_left
                  · simp only [Act.put, List.setIfInBounds_toArray, List.set_cons_zero, List.set_cons_succ, i64_w, i32_w]
                    rfl
                  refine take_ (i := 3) (N := some 96) (v := ?_) (a' := ?_) #[true, true, true, true, false, false, false, false, false, false, false, false, false, false, false, false, false, false, false, false, false] rfl rfl (take_ofW HT_.out HW_.out (by kernel_rfl)) (fun _ _ _ h => h) (Or.inl ⟨by rfl, ?_⟩) hHeld ?_ ?_
                  rotate_left
                  · rintro w' ⟨s0, s1, s2, s3, s4, s5⟩
                    go_simp
                    with_reducible rfl
                  rotate_left
                  · simp only [Act.put, List.setIfInBounds_toArray, List.set_cons_zero, List.set_cons_succ, i64_w, i32_w]
                    rfl
                  refine one_ (i := 4) (N := some 97) #[true, true, true, true, true, false, false, false, false, false, false, false, false, false, false, false, false, false, false, false, false] rfl rfl (one_of HT_.out (by kernel_rfl)) (by decide) (fun K hK => ?_)
                  refine goes_ Try.func12 (by kernel_rfl) rfl #[.agg #[.int .i64 a0_0, .int .i64 a0_1, .slice A0_2 l0_2.length c0_2], .agg #[.int .i64 t237, .int .i64 t238, .slice Ao26 t239.length co26]] (by rfl) rfl rfl (by (try simp only [List.map_toArray, List.map_cons, List.map_nil]); first | done | rfl | (simp only [List.length_drop, List.length_take]; rfl)) ?_
                  with_reducible refine (fourinhandref11_Same.calls kj19 a0_0 a0_1 _ _ l0_2 t237 t238 _ _ t239 true _ ?side1 ?side2 ?side3 ?side4 A70.out).mono ?_
                  (case side1 => repeat (first | exact (Kd.C_below HR0_2.out HB.out) | (with_reducible refine Kd.C_alloc ?_ _) | (with_reducible refine Kd.C_drewN ?_ _) | (with_reducible refine Kd.C_drew ?_)))
                  (case side2 => exact HC0_2.out)
                  (case side3 => repeat (first | exact (Kd.Q_reads' HO_243002.out).2.2 | (with_reducible refine Kd.C_alloc ?_ _) | (with_reducible refine Kd.C_drewN ?_ _) | (with_reducible refine Kd.C_drew ?_)))
                  (case side4 => exact (Kd.Q_reads' HO_243002.out).2.1)
                  rintro e w78 ⟨rfl, hb⟩
                  refine ⟨_, rfl, ?_⟩
                  have n0_ := Aside0.mk (Kd.Q_below (by (with_reducible repeat (first | apply Kd.Q_alloc | apply Kd.Q_drewN | apply Kd.Q_drew)); exact HO_243002.out) hb)
                  have n1_ := Aside0.mk (Kd.Q_below (by (with_reducible repeat (first | apply Kd.Q_alloc | apply Kd.Q_drewN | apply Kd.Q_drew)); exact HO_250002.out) hb)
                  have n2_ := Aside0.mk (Kd.Q_below (by (with_reducible repeat (first | apply Kd.Q_alloc | apply Kd.Q_drewN | apply Kd.Q_drew)); exact HO_257002.out) hb)
                  have n3_ := Aside0.mk (Kd.Q_below (by (with_reducible repeat (first | apply Kd.Q_alloc | apply Kd.Q_drewN | apply Kd.Q_drew)); exact HO_266002.out) hb)
                  have n4_ := Aside0.mk (Kd.Q_below (by (with_reducible repeat (first | apply Kd.Q_alloc | apply Kd.Q_drewN | apply Kd.Q_drew)); exact HO_274002.out) hb)
                  have n5_ := Aside0.mk (blk_below (g := gb235) (o := .cells #[.int .i64 a0_0, .int .i64 a0_1, .slice A0_2 l0_2.length c0_2] 24 (0, 0)) (by (with_reducible repeat (first | refine blk_drewN ?_ _ | refine blk_drew ?_ | refine blk_alloc ?_ _)); exact BK235.out) hb)
                  have n6_ := Aside0.mk (blk_below (g := gb242) (o := .cells #[.int .i64 t237, .int .i64 t238, .slice Ao26 t239.length co26] 24 (0, 0)) (by (with_reducible repeat (first | refine blk_drewN ?_ _ | refine blk_drew ?_ | refine blk_alloc ?_ _)); exact BK242.out) hb)
                  have n7_ := Aside0.mk (blk_below (g := gb249) (o := .cells #[.int .i64 t243, .int .i64 t244, .slice Ao33 t245.length co33] 24 (0, 0)) (by (with_reducible repeat (first | refine blk_drewN ?_ _ | refine blk_drew ?_ | refine blk_alloc ?_ _)); exact BK249.out) hb)
                  have n8_ := Aside0.mk (blk_below (g := gb256) (o := .cells #[.int .i64 t250, .int .i64 t251, .slice Ao41 t252.length co41] 24 (0, 0)) (by (with_reducible repeat (first | refine blk_drewN ?_ _ | refine blk_drew ?_ | refine blk_alloc ?_ _)); exact BK256.out) hb)
                  have n9_ := Aside0.mk (blk_below (g := gb265) (o := .cells #[.int .i64 t258, .int .i64 t259, .slice Ao52 t260.length co52] 24 (0, 0)) (by (with_reducible repeat (first | refine blk_drewN ?_ _ | refine blk_drew ?_ | refine blk_alloc ?_ _)); exact BK265.out) hb)
                  have n10_ := Aside0.mk (blk_below (g := gb273) (o := .cells #[.int .i64 t266, .int .i64 t267, .slice Ao62 t268.length co62] 24 (0, 0)) (by (with_reducible repeat (first | refine blk_drewN ?_ _ | refine blk_drew ?_ | refine blk_alloc ?_ _)); exact BK273.out) hb)
                  have n11_ := Aside0.mk (below_step (by repeat (first | (with_reducible first | exact HB.out | apply below_alloc | apply pw_below_drewN | apply below_drew1 | refine below_set ?_ GE235.out | refine below_set ?_ GE242.out | refine below_set ?_ GE249.out | refine below_set ?_ GE256.out | refine below_set ?_ GE265.out | refine below_set ?_ GE273.out) | exact HB.out)) hb)
                  clear HO_243002
                  clear HO_250002
                  clear HO_257002
                  clear HO_266002
                  clear HO_274002
                  clear BK235
                  clear BK242
                  clear BK249
                  clear BK256
                  clear BK265
                  clear BK273
                  clear HB
                  have HO_243002 := n0_
                  have HO_250002 := n1_
                  have HO_257002 := n2_
                  have HO_266002 := n3_
                  have HO_274002 := n4_
                  have BK235 := n5_
                  have BK242 := n6_
                  have BK249 := n7_
                  have BK256 := n8_
                  have BK265 := n9_
                  have BK273 := n10_
                  have HB := n11_
                  clear n0_ n1_ n2_ n3_ n4_ n5_ n6_ n7_ n8_ n9_ n10_ n11_
                  (try clear hb)
                  (try clear hb2)
                  (try clear hk)
                  (try clear hi)
                  refine hK.out _ _ ⟨(blk_cell BK235.out 0).trans rfl, (blk_cell BK235.out 1).trans rfl, (blk_cell BK235.out 2).trans rfl, (blk_cell BK242.out 0).trans rfl, (blk_cell BK242.out 1).trans rfl, (blk_cell BK242.out 2).trans rfl⟩ (fun hHeld => ?_)
                  clear hK K
                  refine norm_ (a' := ?_) ?_ ?_
                  rotate_left
                  · show Act.put _ (some 97) _ = _
                    simp only [Act.put, List.setIfInBounds_toArray, List.set_cons_zero, List.set_cons_succ, i64_w, i32_w]
                    rfl
                  refine pure_ (i := 5) (N := some 98) (v := ?_) (a' := ?_) #[true, true, true, true, true, true, false, false, false, false, false, false, false, false, false, false, false, false, false, false, false] rfl rfl (any_of HT_.out (by kernel_rfl)) (fun _ _ _ h => h) (Or.inl ⟨by rfl, ?_⟩) ?_ ?_
                  rotate_left
                  · intro w'
                    go_simp
                    with_reducible rfl
                  rotate_left
                  · simp only [Act.put, List.setIfInBounds_toArray, List.set_cons_zero, List.set_cons_succ, i64_w, i32_w]
                    rfl
                  refine pure_ (i := 6) (N := some 99) (v := ?_) (a' := ?_) #[true, true, true, true, true, true, true, false, false, false, false, false, false, false, false, false, false, false, false, false, false] rfl rfl (any_of HT_.out (by kernel_rfl)) (fun _ _ _ h => h) (Or.inl ⟨by rfl, ?_⟩) ?_ ?_
                  rotate_left
                  · intro w'
                    go_simp
                    with_reducible rfl
                  rotate_left
                  · simp only [Act.put, List.setIfInBounds_toArray, List.set_cons_zero, List.set_cons_succ, i64_w, i32_w]
                    rfl
                  refine take_ (i := 7) (N := some 100) (v := ?_) (a' := ?_) #[true, true, true, true, true, true, true, true, false, false, false, false, false, false, false, false, false, false, false, false, false] rfl rfl (take_ofW HT_.out HW_.out (by kernel_rfl)) (fun _ _ _ h => h) (Or.inl ⟨by rfl, ?_⟩) hHeld ?_ ?_
                  rotate_left
                  · rintro w' ⟨s0, s1, s2, s3, s4, s5⟩
                    go_simp
                    with_reducible rfl
                  rotate_left
                  · simp only [Act.put, List.setIfInBounds_toArray, List.set_cons_zero, List.set_cons_succ, i64_w, i32_w]
                    rfl
                  refine take_ (i := 9) (N := some 102) (v := ?_) (a' := ?_) #[true, true, true, true, true, true, true, true, false, true, false, false, false, false, false, false, false, false, false, false, false] rfl rfl (take_ofW HT_.out HW_.out (by kernel_rfl)) (fun _ _ _ h => h) (Or.inl ⟨by rfl, ?_⟩) hHeld ?_ ?_
                  rotate_left
                  · rintro w' ⟨s0, s1, s2, s3, s4, s5⟩
                    go_simp
                    with_reducible rfl
                  rotate_left
                  · simp only [Act.put, List.setIfInBounds_toArray, List.set_cons_zero, List.set_cons_succ, i64_w, i32_w]
                    rfl
                  refine one_ (i := 8) (N := some 101) #[true, true, true, true, true, true, true, true, true, true, false, false, false, false, false, false, false, false, false, false, false] rfl rfl (one_of HT_.out (by kernel_rfl)) (by decide) (fun K hK => ?_)
                  refine goes_ Try.func15 (by kernel_rfl) rfl #[.agg #[.int .i64 a0_0, .int .i64 a0_1, .slice A0_2 l0_2.length c0_2]] (by rfl) rfl rfl (by (try simp only [List.map_toArray, List.map_cons, List.map_nil]); first | done | rfl | (simp only [List.length_drop, List.length_take]; rfl)) ?_
                  with_reducible refine (rate_Best.calls kj19 a0_0 a0_1 _ _ l0_2 t276 _ ?side1 ?side2 A72.out).mono ?_
                  (case side1 => repeat (first | exact (Kd.C_below HR0_2.out HB.out) | (with_reducible refine Kd.C_alloc ?_ _) | (with_reducible refine Kd.C_drewN ?_ _) | (with_reducible refine Kd.C_drew ?_)))
                  (case side2 => exact HC0_2.out)
                  rintro e w79 ⟨rfl, hb⟩
                  refine ⟨_, rfl, ?_⟩
                  have n0_ := Aside0.mk (Kd.Q_below (by (with_reducible repeat (first | apply Kd.Q_alloc | apply Kd.Q_drewN | apply Kd.Q_drew)); exact HO_243002.out) hb)
                  have n1_ := Aside0.mk (Kd.Q_below (by (with_reducible repeat (first | apply Kd.Q_alloc | apply Kd.Q_drewN | apply Kd.Q_drew)); exact HO_250002.out) hb)
                  have n2_ := Aside0.mk (Kd.Q_below (by (with_reducible repeat (first | apply Kd.Q_alloc | apply Kd.Q_drewN | apply Kd.Q_drew)); exact HO_257002.out) hb)
                  have n3_ := Aside0.mk (Kd.Q_below (by (with_reducible repeat (first | apply Kd.Q_alloc | apply Kd.Q_drewN | apply Kd.Q_drew)); exact HO_266002.out) hb)
                  have n4_ := Aside0.mk (Kd.Q_below (by (with_reducible repeat (first | apply Kd.Q_alloc | apply Kd.Q_drewN | apply Kd.Q_drew)); exact HO_274002.out) hb)
                  have n5_ := Aside0.mk (blk_below (g := gb235) (o := .cells #[.int .i64 a0_0, .int .i64 a0_1, .slice A0_2 l0_2.length c0_2] 24 (0, 0)) (by (with_reducible repeat (first | refine blk_drewN ?_ _ | refine blk_drew ?_ | refine blk_alloc ?_ _)); exact BK235.out) hb)
                  have n6_ := Aside0.mk (blk_below (g := gb242) (o := .cells #[.int .i64 t237, .int .i64 t238, .slice Ao26 t239.length co26] 24 (0, 0)) (by (with_reducible repeat (first | refine blk_drewN ?_ _ | refine blk_drew ?_ | refine blk_alloc ?_ _)); exact BK242.out) hb)
                  have n7_ := Aside0.mk (blk_below (g := gb249) (o := .cells #[.int .i64 t243, .int .i64 t244, .slice Ao33 t245.length co33] 24 (0, 0)) (by (with_reducible repeat (first | refine blk_drewN ?_ _ | refine blk_drew ?_ | refine blk_alloc ?_ _)); exact BK249.out) hb)
                  have n8_ := Aside0.mk (blk_below (g := gb256) (o := .cells #[.int .i64 t250, .int .i64 t251, .slice Ao41 t252.length co41] 24 (0, 0)) (by (with_reducible repeat (first | refine blk_drewN ?_ _ | refine blk_drew ?_ | refine blk_alloc ?_ _)); exact BK256.out) hb)
                  have n9_ := Aside0.mk (blk_below (g := gb265) (o := .cells #[.int .i64 t258, .int .i64 t259, .slice Ao52 t260.length co52] 24 (0, 0)) (by (with_reducible repeat (first | refine blk_drewN ?_ _ | refine blk_drew ?_ | refine blk_alloc ?_ _)); exact BK265.out) hb)
                  have n10_ := Aside0.mk (blk_below (g := gb273) (o := .cells #[.int .i64 t266, .int .i64 t267, .slice Ao62 t268.length co62] 24 (0, 0)) (by (with_reducible repeat (first | refine blk_drewN ?_ _ | refine blk_drew ?_ | refine blk_alloc ?_ _)); exact BK273.out) hb)
                  have n11_ := Aside0.mk (below_step (by repeat (first | (with_reducible first | exact HB.out | apply below_alloc | apply pw_below_drewN | apply below_drew1 | refine below_set ?_ GE235.out | refine below_set ?_ GE242.out | refine below_set ?_ GE249.out | refine below_set ?_ GE256.out | refine below_set ?_ GE265.out | refine below_set ?_ GE273.out) | exact HB.out)) hb)
                  clear HO_243002
                  clear HO_250002
                  clear HO_257002
                  clear HO_266002
                  clear HO_274002
                  clear BK235
                  clear BK242
                  clear BK249
                  clear BK256
                  clear BK265
                  clear BK273
                  clear HB
                  have HO_243002 := n0_
                  have HO_250002 := n1_
                  have HO_257002 := n2_
                  have HO_266002 := n3_
                  have HO_274002 := n4_
                  have BK235 := n5_
                  have BK242 := n6_
                  have BK249 := n7_
                  have BK256 := n8_
                  have BK265 := n9_
                  have BK273 := n10_
                  have HB := n11_
                  clear n0_ n1_ n2_ n3_ n4_ n5_ n6_ n7_ n8_ n9_ n10_ n11_
                  (try clear hb)
                  (try clear hb2)
                  (try clear hk)
                  (try clear hi)
                  refine hK.out _ _ ⟨(blk_cell BK235.out 0).trans rfl, (blk_cell BK235.out 1).trans rfl, (blk_cell BK235.out 2).trans rfl, (blk_cell BK242.out 0).trans rfl, (blk_cell BK242.out 1).trans rfl, (blk_cell BK242.out 2).trans rfl⟩ (fun hHeld => ?_)
                  clear hK K
                  refine norm_ (a' := ?_) ?_ ?_
                  rotate_left
                  · show Act.put _ (some 101) _ = _
                    simp only [Act.put, List.setIfInBounds_toArray, List.set_cons_zero, List.set_cons_succ, i64_w, i32_w]
                    rfl
                  refine one_ (i := 10) (N := some 103) #[true, true, true, true, true, true, true, true, true, true, true, false, false, false, false, false, false, false, false, false, false] rfl rfl (one_of HT_.out (by kernel_rfl)) (by decide) (fun K hK => ?_)
                  refine goes_ Try.func16 (by kernel_rfl) rfl #[.agg #[.int .i64 a0_0, .int .i64 a0_1, .slice A0_2 l0_2.length c0_2]] (by rfl) rfl rfl (by (try simp only [List.map_toArray, List.map_cons, List.map_nil]); first | done | rfl | (simp only [List.length_drop, List.length_take]; rfl)) ?_
                  with_reducible refine (fourinhandref11_Best.calls kj19 a0_0 a0_1 _ _ l0_2 t277 _ ?side1 ?side2 A73.out).mono ?_
                  (case side1 => repeat (first | exact (Kd.C_below HR0_2.out HB.out) | (with_reducible refine Kd.C_alloc ?_ _) | (with_reducible refine Kd.C_drewN ?_ _) | (with_reducible refine Kd.C_drew ?_)))
                  (case side2 => exact HC0_2.out)
                  rintro e w80 ⟨rfl, hb⟩
                  refine ⟨_, rfl, ?_⟩
                  have n0_ := Aside0.mk (Kd.Q_below (by (with_reducible repeat (first | apply Kd.Q_alloc | apply Kd.Q_drewN | apply Kd.Q_drew)); exact HO_243002.out) hb)
                  have n1_ := Aside0.mk (Kd.Q_below (by (with_reducible repeat (first | apply Kd.Q_alloc | apply Kd.Q_drewN | apply Kd.Q_drew)); exact HO_250002.out) hb)
                  have n2_ := Aside0.mk (Kd.Q_below (by (with_reducible repeat (first | apply Kd.Q_alloc | apply Kd.Q_drewN | apply Kd.Q_drew)); exact HO_257002.out) hb)
                  have n3_ := Aside0.mk (Kd.Q_below (by (with_reducible repeat (first | apply Kd.Q_alloc | apply Kd.Q_drewN | apply Kd.Q_drew)); exact HO_266002.out) hb)
                  have n4_ := Aside0.mk (Kd.Q_below (by (with_reducible repeat (first | apply Kd.Q_alloc | apply Kd.Q_drewN | apply Kd.Q_drew)); exact HO_274002.out) hb)
                  have n5_ := Aside0.mk (blk_below (g := gb235) (o := .cells #[.int .i64 a0_0, .int .i64 a0_1, .slice A0_2 l0_2.length c0_2] 24 (0, 0)) (by (with_reducible repeat (first | refine blk_drewN ?_ _ | refine blk_drew ?_ | refine blk_alloc ?_ _)); exact BK235.out) hb)
                  have n6_ := Aside0.mk (blk_below (g := gb242) (o := .cells #[.int .i64 t237, .int .i64 t238, .slice Ao26 t239.length co26] 24 (0, 0)) (by (with_reducible repeat (first | refine blk_drewN ?_ _ | refine blk_drew ?_ | refine blk_alloc ?_ _)); exact BK242.out) hb)
                  have n7_ := Aside0.mk (blk_below (g := gb249) (o := .cells #[.int .i64 t243, .int .i64 t244, .slice Ao33 t245.length co33] 24 (0, 0)) (by (with_reducible repeat (first | refine blk_drewN ?_ _ | refine blk_drew ?_ | refine blk_alloc ?_ _)); exact BK249.out) hb)
                  have n8_ := Aside0.mk (blk_below (g := gb256) (o := .cells #[.int .i64 t250, .int .i64 t251, .slice Ao41 t252.length co41] 24 (0, 0)) (by (with_reducible repeat (first | refine blk_drewN ?_ _ | refine blk_drew ?_ | refine blk_alloc ?_ _)); exact BK256.out) hb)
                  have n9_ := Aside0.mk (blk_below (g := gb265) (o := .cells #[.int .i64 t258, .int .i64 t259, .slice Ao52 t260.length co52] 24 (0, 0)) (by (with_reducible repeat (first | refine blk_drewN ?_ _ | refine blk_drew ?_ | refine blk_alloc ?_ _)); exact BK265.out) hb)
                  have n10_ := Aside0.mk (blk_below (g := gb273) (o := .cells #[.int .i64 t266, .int .i64 t267, .slice Ao62 t268.length co62] 24 (0, 0)) (by (with_reducible repeat (first | refine blk_drewN ?_ _ | refine blk_drew ?_ | refine blk_alloc ?_ _)); exact BK273.out) hb)
                  have n11_ := Aside0.mk (below_step (by repeat (first | (with_reducible first | exact HB.out | apply below_alloc | apply pw_below_drewN | apply below_drew1 | refine below_set ?_ GE235.out | refine below_set ?_ GE242.out | refine below_set ?_ GE249.out | refine below_set ?_ GE256.out | refine below_set ?_ GE265.out | refine below_set ?_ GE273.out) | exact HB.out)) hb)
                  clear HO_243002
                  clear HO_250002
                  clear HO_257002
                  clear HO_266002
                  clear HO_274002
                  clear BK235
                  clear BK242
                  clear BK249
                  clear BK256
                  clear BK265
                  clear BK273
                  clear HB
                  have HO_243002 := n0_
                  have HO_250002 := n1_
                  have HO_257002 := n2_
                  have HO_266002 := n3_
                  have HO_274002 := n4_
                  have BK235 := n5_
                  have BK242 := n6_
                  have BK249 := n7_
                  have BK256 := n8_
                  have BK265 := n9_
                  have BK273 := n10_
                  have HB := n11_
                  clear n0_ n1_ n2_ n3_ n4_ n5_ n6_ n7_ n8_ n9_ n10_ n11_
                  (try clear hb)
                  (try clear hb2)
                  (try clear hk)
                  (try clear hi)
                  refine hK.out _ _ ⟨(blk_cell BK235.out 0).trans rfl, (blk_cell BK235.out 1).trans rfl, (blk_cell BK235.out 2).trans rfl, (blk_cell BK242.out 0).trans rfl, (blk_cell BK242.out 1).trans rfl, (blk_cell BK242.out 2).trans rfl⟩ (fun hHeld => ?_)
                  clear hK K
                  refine norm_ (a' := ?_) ?_ ?_
                  rotate_left
                  · show Act.put _ (some 103) _ = _
                    simp only [Act.put, List.setIfInBounds_toArray, List.set_cons_zero, List.set_cons_succ, i64_w, i32_w]
                    rfl
                  refine pure_ (i := 11) (N := some 104) (v := ?_) (a' := ?_) #[true, true, true, true, true, true, true, true, true, true, true, true, false, false, false, false, false, false, false, false, false] rfl rfl (any_of HT_.out (by kernel_rfl)) (fun _ _ _ h => h) (Or.inl ⟨by rfl, ?_⟩) ?_ ?_
                  rotate_left
                  · intro w'
                    go_simp
                    with_reducible rfl
                  rotate_left
                  · simp only [Act.put, List.setIfInBounds_toArray, List.set_cons_zero, List.set_cons_succ, i64_w, i32_w]
                    rfl
                  refine pure_ (i := 12) (N := some 105) (v := ?_) (a' := ?_) #[true, true, true, true, true, true, true, true, true, true, true, true, true, false, false, false, false, false, false, false, false] rfl rfl (any_of HT_.out (by kernel_rfl)) (fun _ _ _ h => h) (Or.inl ⟨by rfl, ?_⟩) ?_ ?_
                  rotate_left
                  · intro w'
                    go_simp
                    with_reducible rfl
                  rotate_left
                  · simp only [Act.put, List.setIfInBounds_toArray, List.set_cons_zero, List.set_cons_succ, i64_w, i32_w]
                    rfl
                  refine pure_ (i := 13) (N := some 106) (v := ?_) (a' := ?_) #[true, true, true, true, true, true, true, true, true, true, true, true, true, true, false, false, false, false, false, false, false] rfl rfl (any_of HT_.out (by kernel_rfl)) (fun _ _ _ h => h) (Or.inl ⟨by rfl, ?_⟩) ?_ ?_
                  rotate_left
                  · intro w'
                    go_simp
                    with_reducible rfl
                  rotate_left
                  · simp only [Act.put, List.setIfInBounds_toArray, List.set_cons_zero, List.set_cons_succ, i64_w, i32_w]
                    rfl
                  refine take_ (i := 14) (N := some 107) (v := ?_) (a' := ?_) #[true, true, true, true, true, true, true, true, true, true, true, true, true, true, true, false, false, false, false, false, false] rfl rfl (take_ofW HT_.out HW_.out (by kernel_rfl)) (fun _ _ _ h => h) (Or.inl ⟨by rfl, ?_⟩) hHeld ?_ ?_
                  rotate_left
                  · rintro w' ⟨s0, s1, s2, s3, s4, s5⟩
                    go_simp
                    with_reducible rfl
                  rotate_left
                  · simp only [Act.put, List.setIfInBounds_toArray, List.set_cons_zero, List.set_cons_succ, i64_w, i32_w]
                    rfl
                  refine take_ (i := 16) (N := some 109) (v := ?_) (a' := ?_) #[true, true, true, true, true, true, true, true, true, true, true, true, true, true, true, false, true, false, false, false, false] rfl rfl (take_ofW HT_.out HW_.out (by kernel_rfl)) (fun _ _ _ h => h) (Or.inl ⟨by rfl, ?_⟩) hHeld ?_ ?_
                  rotate_left
                  · rintro w' ⟨s0, s1, s2, s3, s4, s5⟩
                    go_simp
                    with_reducible rfl
                  rotate_left
                  · simp only [Act.put, List.setIfInBounds_toArray, List.set_cons_zero, List.set_cons_succ, i64_w, i32_w]
                    rfl
                  refine one_ (i := 15) (N := some 108) #[true, true, true, true, true, true, true, true, true, true, true, true, true, true, true, true, true, false, false, false, false] rfl rfl (one_of HT_.out (by kernel_rfl)) (by decide) (fun K hK => ?_)
                  refine goes_ Try.func17 (by kernel_rfl) rfl #[.agg #[.int .i64 a0_0, .int .i64 a0_1, .slice A0_2 l0_2.length c0_2]] (by rfl) rfl rfl (by (try simp only [List.map_toArray, List.map_cons, List.map_nil]); first | done | rfl | (simp only [List.length_drop, List.length_take]; rfl)) ?_
                  with_reducible refine (rate_May.calls kj19 a0_0 a0_1 _ _ l0_2 t278 _ ?side1 ?side2 A75.out).mono ?_
                  (case side1 => repeat (first | exact (Kd.C_below HR0_2.out HB.out) | (with_reducible refine Kd.C_alloc ?_ _) | (with_reducible refine Kd.C_drewN ?_ _) | (with_reducible refine Kd.C_drew ?_)))
                  (case side2 => exact HC0_2.out)
                  rintro e w81 ⟨rfl, hb⟩
                  refine ⟨_, rfl, ?_⟩
                  have n0_ := Aside0.mk (Kd.Q_below (by (with_reducible repeat (first | apply Kd.Q_alloc | apply Kd.Q_drewN | apply Kd.Q_drew)); exact HO_243002.out) hb)
                  have n1_ := Aside0.mk (Kd.Q_below (by (with_reducible repeat (first | apply Kd.Q_alloc | apply Kd.Q_drewN | apply Kd.Q_drew)); exact HO_250002.out) hb)
                  have n2_ := Aside0.mk (Kd.Q_below (by (with_reducible repeat (first | apply Kd.Q_alloc | apply Kd.Q_drewN | apply Kd.Q_drew)); exact HO_257002.out) hb)
                  have n3_ := Aside0.mk (Kd.Q_below (by (with_reducible repeat (first | apply Kd.Q_alloc | apply Kd.Q_drewN | apply Kd.Q_drew)); exact HO_266002.out) hb)
                  have n4_ := Aside0.mk (Kd.Q_below (by (with_reducible repeat (first | apply Kd.Q_alloc | apply Kd.Q_drewN | apply Kd.Q_drew)); exact HO_274002.out) hb)
                  have n5_ := Aside0.mk (blk_below (g := gb235) (o := .cells #[.int .i64 a0_0, .int .i64 a0_1, .slice A0_2 l0_2.length c0_2] 24 (0, 0)) (by (with_reducible repeat (first | refine blk_drewN ?_ _ | refine blk_drew ?_ | refine blk_alloc ?_ _)); exact BK235.out) hb)
                  have n6_ := Aside0.mk (blk_below (g := gb242) (o := .cells #[.int .i64 t237, .int .i64 t238, .slice Ao26 t239.length co26] 24 (0, 0)) (by (with_reducible repeat (first | refine blk_drewN ?_ _ | refine blk_drew ?_ | refine blk_alloc ?_ _)); exact BK242.out) hb)
                  have n7_ := Aside0.mk (blk_below (g := gb249) (o := .cells #[.int .i64 t243, .int .i64 t244, .slice Ao33 t245.length co33] 24 (0, 0)) (by (with_reducible repeat (first | refine blk_drewN ?_ _ | refine blk_drew ?_ | refine blk_alloc ?_ _)); exact BK249.out) hb)
                  have n8_ := Aside0.mk (blk_below (g := gb256) (o := .cells #[.int .i64 t250, .int .i64 t251, .slice Ao41 t252.length co41] 24 (0, 0)) (by (with_reducible repeat (first | refine blk_drewN ?_ _ | refine blk_drew ?_ | refine blk_alloc ?_ _)); exact BK256.out) hb)
                  have n9_ := Aside0.mk (blk_below (g := gb265) (o := .cells #[.int .i64 t258, .int .i64 t259, .slice Ao52 t260.length co52] 24 (0, 0)) (by (with_reducible repeat (first | refine blk_drewN ?_ _ | refine blk_drew ?_ | refine blk_alloc ?_ _)); exact BK265.out) hb)
                  have n10_ := Aside0.mk (blk_below (g := gb273) (o := .cells #[.int .i64 t266, .int .i64 t267, .slice Ao62 t268.length co62] 24 (0, 0)) (by (with_reducible repeat (first | refine blk_drewN ?_ _ | refine blk_drew ?_ | refine blk_alloc ?_ _)); exact BK273.out) hb)
                  have n11_ := Aside0.mk (below_step (by repeat (first | (with_reducible first | exact HB.out | apply below_alloc | apply pw_below_drewN | apply below_drew1 | refine below_set ?_ GE235.out | refine below_set ?_ GE242.out | refine below_set ?_ GE249.out | refine below_set ?_ GE256.out | refine below_set ?_ GE265.out | refine below_set ?_ GE273.out) | exact HB.out)) hb)
                  clear HO_243002
                  clear HO_250002
                  clear HO_257002
                  clear HO_266002
                  clear HO_274002
                  clear BK235
                  clear BK242
                  clear BK249
                  clear BK256
                  clear BK265
                  clear BK273
                  clear HB
                  have HO_243002 := n0_
                  have HO_250002 := n1_
                  have HO_257002 := n2_
                  have HO_266002 := n3_
                  have HO_274002 := n4_
                  have BK235 := n5_
                  have BK242 := n6_
                  have BK249 := n7_
                  have BK256 := n8_
                  have BK265 := n9_
                  have BK273 := n10_
                  have HB := n11_
                  clear n0_ n1_ n2_ n3_ n4_ n5_ n6_ n7_ n8_ n9_ n10_ n11_
                  (try clear hb)
                  (try clear hb2)
                  (try clear hk)
                  (try clear hi)
                  refine hK.out _ _ ⟨(blk_cell BK235.out 0).trans rfl, (blk_cell BK235.out 1).trans rfl, (blk_cell BK235.out 2).trans rfl, (blk_cell BK242.out 0).trans rfl, (blk_cell BK242.out 1).trans rfl, (blk_cell BK242.out 2).trans rfl⟩ (fun hHeld => ?_)
                  clear hK K
                  refine norm_ (a' := ?_) ?_ ?_
                  rotate_left
                  · show Act.put _ (some 108) _ = _
                    simp only [Act.put, List.setIfInBounds_toArray, List.set_cons_zero, List.set_cons_succ, i64_w, i32_w]
                    rfl
                  refine one_ (i := 17) (N := some 110) #[true, true, true, true, true, true, true, true, true, true, true, true, true, true, true, true, true, true, false, false, false] rfl rfl (one_of HT_.out (by kernel_rfl)) (by decide) (fun K hK => ?_)
                  refine goes_ Try.func18 (by kernel_rfl) rfl #[.agg #[.int .i64 a0_0, .int .i64 a0_1, .slice A0_2 l0_2.length c0_2]] (by rfl) rfl rfl (by (try simp only [List.map_toArray, List.map_cons, List.map_nil]); first | done | rfl | (simp only [List.length_drop, List.length_take]; rfl)) ?_
                  with_reducible refine (fourinhandref11_May.calls kj19 a0_0 a0_1 _ _ l0_2 t279 _ ?side1 ?side2 A76.out).mono ?_
                  (case side1 => repeat (first | exact (Kd.C_below HR0_2.out HB.out) | (with_reducible refine Kd.C_alloc ?_ _) | (with_reducible refine Kd.C_drewN ?_ _) | (with_reducible refine Kd.C_drew ?_)))
                  (case side2 => exact HC0_2.out)
                  rintro e w82 ⟨rfl, hb⟩
                  refine ⟨_, rfl, ?_⟩
                  have n0_ := Aside0.mk (Kd.Q_below (by (with_reducible repeat (first | apply Kd.Q_alloc | apply Kd.Q_drewN | apply Kd.Q_drew)); exact HO_243002.out) hb)
                  have n1_ := Aside0.mk (Kd.Q_below (by (with_reducible repeat (first | apply Kd.Q_alloc | apply Kd.Q_drewN | apply Kd.Q_drew)); exact HO_250002.out) hb)
                  have n2_ := Aside0.mk (Kd.Q_below (by (with_reducible repeat (first | apply Kd.Q_alloc | apply Kd.Q_drewN | apply Kd.Q_drew)); exact HO_257002.out) hb)
                  have n3_ := Aside0.mk (Kd.Q_below (by (with_reducible repeat (first | apply Kd.Q_alloc | apply Kd.Q_drewN | apply Kd.Q_drew)); exact HO_266002.out) hb)
                  have n4_ := Aside0.mk (Kd.Q_below (by (with_reducible repeat (first | apply Kd.Q_alloc | apply Kd.Q_drewN | apply Kd.Q_drew)); exact HO_274002.out) hb)
                  have n5_ := Aside0.mk (blk_below (g := gb235) (o := .cells #[.int .i64 a0_0, .int .i64 a0_1, .slice A0_2 l0_2.length c0_2] 24 (0, 0)) (by (with_reducible repeat (first | refine blk_drewN ?_ _ | refine blk_drew ?_ | refine blk_alloc ?_ _)); exact BK235.out) hb)
                  have n6_ := Aside0.mk (blk_below (g := gb242) (o := .cells #[.int .i64 t237, .int .i64 t238, .slice Ao26 t239.length co26] 24 (0, 0)) (by (with_reducible repeat (first | refine blk_drewN ?_ _ | refine blk_drew ?_ | refine blk_alloc ?_ _)); exact BK242.out) hb)
                  have n7_ := Aside0.mk (blk_below (g := gb249) (o := .cells #[.int .i64 t243, .int .i64 t244, .slice Ao33 t245.length co33] 24 (0, 0)) (by (with_reducible repeat (first | refine blk_drewN ?_ _ | refine blk_drew ?_ | refine blk_alloc ?_ _)); exact BK249.out) hb)
                  have n8_ := Aside0.mk (blk_below (g := gb256) (o := .cells #[.int .i64 t250, .int .i64 t251, .slice Ao41 t252.length co41] 24 (0, 0)) (by (with_reducible repeat (first | refine blk_drewN ?_ _ | refine blk_drew ?_ | refine blk_alloc ?_ _)); exact BK256.out) hb)
                  have n9_ := Aside0.mk (blk_below (g := gb265) (o := .cells #[.int .i64 t258, .int .i64 t259, .slice Ao52 t260.length co52] 24 (0, 0)) (by (with_reducible repeat (first | refine blk_drewN ?_ _ | refine blk_drew ?_ | refine blk_alloc ?_ _)); exact BK265.out) hb)
                  have n10_ := Aside0.mk (blk_below (g := gb273) (o := .cells #[.int .i64 t266, .int .i64 t267, .slice Ao62 t268.length co62] 24 (0, 0)) (by (with_reducible repeat (first | refine blk_drewN ?_ _ | refine blk_drew ?_ | refine blk_alloc ?_ _)); exact BK273.out) hb)
                  have n11_ := Aside0.mk (below_step (by repeat (first | (with_reducible first | exact HB.out | apply below_alloc | apply pw_below_drewN | apply below_drew1 | refine below_set ?_ GE235.out | refine below_set ?_ GE242.out | refine below_set ?_ GE249.out | refine below_set ?_ GE256.out | refine below_set ?_ GE265.out | refine below_set ?_ GE273.out) | exact HB.out)) hb)
                  clear HO_243002
                  clear HO_250002
                  clear HO_257002
                  clear HO_266002
                  clear HO_274002
                  clear BK235
                  clear BK242
                  clear BK249
                  clear BK256
                  clear BK265
                  clear BK273
                  clear HB
                  have HO_243002 := n0_
                  have HO_250002 := n1_
                  have HO_257002 := n2_
                  have HO_266002 := n3_
                  have HO_274002 := n4_
                  have BK235 := n5_
                  have BK242 := n6_
                  have BK249 := n7_
                  have BK256 := n8_
                  have BK265 := n9_
                  have BK273 := n10_
                  have HB := n11_
                  clear n0_ n1_ n2_ n3_ n4_ n5_ n6_ n7_ n8_ n9_ n10_ n11_
                  (try clear hb)
                  (try clear hb2)
                  (try clear hk)
                  (try clear hi)
                  refine hK.out _ _ ⟨(blk_cell BK235.out 0).trans rfl, (blk_cell BK235.out 1).trans rfl, (blk_cell BK235.out 2).trans rfl, (blk_cell BK242.out 0).trans rfl, (blk_cell BK242.out 1).trans rfl, (blk_cell BK242.out 2).trans rfl⟩ (fun hHeld => ?_)
                  clear hK K
                  refine norm_ (a' := ?_) ?_ ?_
                  rotate_left
                  · show Act.put _ (some 110) _ = _
                    simp only [Act.put, List.setIfInBounds_toArray, List.set_cons_zero, List.set_cons_succ, i64_w, i32_w]
                    rfl
                  refine pure_ (i := 18) (N := some 111) (v := ?_) (a' := ?_) #[true, true, true, true, true, true, true, true, true, true, true, true, true, true, true, true, true, true, true, false, false] rfl rfl (any_of HT_.out (by kernel_rfl)) (fun _ _ _ h => h) (Or.inl ⟨by rfl, ?_⟩) ?_ ?_
                  rotate_left
                  · intro w'
                    go_simp
                    with_reducible rfl
                  rotate_left
                  · simp only [Act.put, List.setIfInBounds_toArray, List.set_cons_zero, List.set_cons_succ, i64_w, i32_w]
                    rfl
                  refine pure_ (i := 19) (N := some 112) (v := ?_) (a' := ?_) #[true, true, true, true, true, true, true, true, true, true, true, true, true, true, true, true, true, true, true, true, false] rfl rfl (any_of HT_.out (by kernel_rfl)) (fun _ _ _ h => h) (Or.inl ⟨by rfl, ?_⟩) ?_ ?_
                  rotate_left
                  · intro w'
                    go_simp
                    with_reducible rfl
                  rotate_left
                  · simp only [Act.put, List.setIfInBounds_toArray, List.set_cons_zero, List.set_cons_succ, i64_w, i32_w]
                    rfl
                  refine pure_ (i := 20) (N := some 10) (v := ?_) (a' := ?_) #[true, true, true, true, true, true, true, true, true, true, true, true, true, true, true, true, true, true, true, true, true] rfl rfl (any_of HT_.out (by kernel_rfl)) (fun _ _ _ h => h) (Or.inl ⟨by rfl, ?_⟩) ?_ ?_
                  rotate_left
                  · intro w'
                    go_simp
                    with_reducible rfl
                  rotate_left
                  · simp only [Act.put, List.setIfInBounds_toArray, List.set_cons_zero, List.set_cons_succ, i64_w, i32_w]
                    rfl
                  refine done_ (done_of HT_.out (by kernel_rfl)) ?_
                  try go_wp2
                  go_ret
                  exact ⟨by first | rfl | (simp [errW_none, errW_some] <;> rfl) | (simp [*, errW_none, errW_some] <;> rfl), by repeat (first | (with_reducible first | exact HB.out | apply below_alloc | apply pw_below_drewN | apply below_drew1 | refine below_set ?_ GE235.out | refine below_set ?_ GE242.out | refine below_set ?_ GE249.out | refine below_set ?_ GE256.out | refine below_set ?_ GE265.out | refine below_set ?_ GE273.out) | exact HB.out)⟩
                · rw [if_neg c74] at H
                  have c74b0 : (t276 == t277) = false := beq_eq_false_iff_ne.mpr c74
                  have c74b1 : (t276 != t277) = true := bne_iff_ne.mpr c74
                  exact Bool.noConfusion ((Option.some.inj H).trans hr_.out)
              · replace c71 := Bool.eq_false_iff.mpr c71
                subst c71
                have H1 : (some false) = some r := by rw [if_neg (show ¬ (false = true) by decide)] at H; exact H
                clear H
                have H := H1
                clear H1
                exact Bool.noConfusion ((Option.some.inj H).trans hr_.out)
            · replace c69 := Bool.eq_false_iff.mpr c69
              subst c69
              have H1 : (some false) = some r := by rw [if_neg (show ¬ (false = true) by decide)] at H; exact H
              clear H
              have H := H1
              clear H1
              exact Bool.noConfusion ((Option.some.inj H).trans hr_.out)

end Go.Proofs.Ytfdaaodpbaikdaa.PRateTells
