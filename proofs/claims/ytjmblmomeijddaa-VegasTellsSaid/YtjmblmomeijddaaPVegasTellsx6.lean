-- Written by a program of this session (wip/hprint.py), over the kit's print.py: the walk of one law. Lean checks it.
import Derived.Test.YtjmblmomeijddaaPVegasTellsx0
import Derived.Test.YtjmblmomeijddaaPVegasTellsx1
import Derived.Test.YtjmblmomeijddaaPVegasTellsx3
import Derived.Test.YtjmblmomeijddaaPVegasTellsx4
import Derived.Test.YtjmblmomeijddaaPVegasTellsx5
namespace Go.Proofs.Ytjmblmomeijddaa.PVegasTells
open Go.RowKit Go.Proofs.YtjmblmomeijddaaW.PrintWords Go.Proofs.YtjmblmomeijddaaW.PrintLast Go.Proofs.YtjmblmomeijddaaW.PrintMore
attribute [local go_sem] max2_int min2_int max_two min_two max_three min_three max_four min_four   -- for this text's walks alone
set_option linter.unusedVariables false
set_option linter.unusedSimpArgs false

attribute [local go_sem high] eqA32
/-! ### fourinhandlaw16_VegasTells: function 6 -/
mutual
def fourinhandlaw16_VegasTells.j0 : Nat → List (S29) → Int → Int → Int → Int → Int → Int → Int → Int → Bool → Bool → Int → Int → Option (Bool)
  | 0, _, _, _, _, _, _, _, _, _, _, _, _, _ => none
  | k + 1, x0, x1, x2, x4, x5, x6, x7, x8, x9, x21, x36, x175000, x175001 => if x36 = true then (some x21) else ((vegas_Round.f x175000 x175001 x6 x7 x8 x9).bind fun bt176 => ((fourinhandref16_Round.f x175000 x175001 x6 x7 x8 x9).bind fun bt180 => (if (bt176.1 == bt180.1 && (bt176.2.1 == bt180.2.1)) = true then (if bt176.2.2 = bt180.2.2 then ((vegas_Alpha.f k x0 x1 x2).bind fun t184 => ((fourinhandref16_Alpha.f k x0 x1 x2).bind fun t185 => (fourinhandlaw16_VegasTells.j1 k x4 x5 x6 x7 x8 (t184 == t185) x175000 x175001))) else (fourinhandlaw16_VegasTells.j1 k x4 x5 x6 x7 x8 false x175000 x175001)) else (fourinhandlaw16_VegasTells.j1 k x4 x5 x6 x7 x8 false x175000 x175001))))
def fourinhandlaw16_VegasTells.j1 : Nat → Int → Int → Int → Int → Int → Bool → Int → Int → Option (Bool)
  | 0, _, _, _, _, _, _, _, _ => none
  | k + 1, x4, x5, x6, x7, x8, x26, x175000, x175001 => (vegas_Queue.f k x175000 x4 x5 x8).bind fun t186 => ((fourinhandref16_Queue.f k x175000 x4 x5 x8).bind fun t187 => (if x26 = true then (if t186 = t187 then ((vegas_Verdict.f k x6 x7 (decide (x175000 < x175001))).bind fun t188 => ((fourinhandref16_Verdict.f x6 x7 (decide (x175000 < x175001))).bind fun t189 => (some (t188 == t189)))) else (some false)) else (some false)))
end
def fourinhandlaw16_VegasTells.f (k : Nat) (l0 : List (S29)) (a1 : Int) (a2 : Int) (a3_0 : Int) (a3_1 : Int) (a4 : Int) (a5 : Int) (a6 : Int) (a7 : Int) (a8 : Int) (a9 : Int) : Option (Bool) := (fourinhandlaw16_awake.f k).bind fun t175 => (if t175 = true then (fourinhandlaw16_VegasTells.j0 k l0 a1 a2 a4 a5 a6 a7 a8 a9 t175 (decide ((l0.length : Int) > 20)) a3_0 a3_1) else (fourinhandlaw16_VegasTells.j0 k l0 a1 a2 a4 a5 a6 a7 a8 a9 t175 true a3_0 a3_1))
theorem fourinhandlaw16_VegasTells.mono_l : ∀ k, (∀ y0 y1 y2 y3 y4 y5 y6 y7 y8 y9 y10 y11 y12, LeO (fourinhandlaw16_VegasTells.j0 k y0 y1 y2 y3 y4 y5 y6 y7 y8 y9 y10 y11 y12) (fourinhandlaw16_VegasTells.j0 (k + 1) y0 y1 y2 y3 y4 y5 y6 y7 y8 y9 y10 y11 y12)) ∧ (∀ y0 y1 y2 y3 y4 y5 y6 y7, LeO (fourinhandlaw16_VegasTells.j1 k y0 y1 y2 y3 y4 y5 y6 y7) (fourinhandlaw16_VegasTells.j1 (k + 1) y0 y1 y2 y3 y4 y5 y6 y7))
  | 0 => ⟨fun _ _ _ _ _ _ _ _ _ _ _ _ _ r h => by simp [fourinhandlaw16_VegasTells.j0] at h, fun _ _ _ _ _ _ _ _ r h => by simp [fourinhandlaw16_VegasTells.j1] at h⟩
  | k + 1 => by
    obtain ⟨ih0, ih1⟩ := fourinhandlaw16_VegasTells.mono_l k
    refine ⟨?_, ?_⟩
    · intro y0 y1 y2 y3 y4 y5 y6 y7 y8 y9 y10 y11 y12
      unfold fourinhandlaw16_VegasTells.j0
      repeat' first
      | (with_reducible exact ih0 _ _ _ _ _ _ _ _ _ _ _ _ _)
      | (with_reducible exact ih1 _ _ _ _ _ _ _ _)
      | (with_reducible exact fourinhandlaw16_awake.mono _)
      | (with_reducible exact fourinhandref16_Alpha.mono _ _ _ _)
      | (with_reducible exact fourinhandref16_Queue.mono _ _ _ _ _)
      | (with_reducible exact vegas_Alpha.mono _ _ _ _)
      | (with_reducible exact vegas_Queue.mono _ _ _ _ _)
      | (with_reducible exact vegas_Verdict.mono _ _ _ _)
      | (with_reducible exact LeO.refl _)
      | (with_reducible exact LeO.none _)
      | (with_reducible refine LeO.ite ?_ ?_)
      | (with_reducible refine LeO.bind ?_ (fun _ => ?_))
      | exact ih0 _ _ _ _ _ _ _ _ _ _ _ _ _
      | exact ih1 _ _ _ _ _ _ _ _
      | exact fourinhandlaw16_awake.mono _
      | exact fourinhandref16_Alpha.mono _ _ _ _
      | exact fourinhandref16_Queue.mono _ _ _ _ _
      | exact vegas_Alpha.mono _ _ _ _
      | exact vegas_Queue.mono _ _ _ _ _
      | exact vegas_Verdict.mono _ _ _ _
      | exact LeO.none _
      | refine LeO.ite ?_ ?_
      | refine LeO.bind ?_ (fun _ => ?_)
    · intro y0 y1 y2 y3 y4 y5 y6 y7
      unfold fourinhandlaw16_VegasTells.j1
      repeat' first
      | (with_reducible exact ih0 _ _ _ _ _ _ _ _ _ _ _ _ _)
      | (with_reducible exact ih1 _ _ _ _ _ _ _ _)
      | (with_reducible exact fourinhandlaw16_awake.mono _)
      | (with_reducible exact fourinhandref16_Alpha.mono _ _ _ _)
      | (with_reducible exact fourinhandref16_Queue.mono _ _ _ _ _)
      | (with_reducible exact vegas_Alpha.mono _ _ _ _)
      | (with_reducible exact vegas_Queue.mono _ _ _ _ _)
      | (with_reducible exact vegas_Verdict.mono _ _ _ _)
      | (with_reducible exact LeO.refl _)
      | (with_reducible exact LeO.none _)
      | (with_reducible refine LeO.ite ?_ ?_)
      | (with_reducible refine LeO.bind ?_ (fun _ => ?_))
      | exact ih0 _ _ _ _ _ _ _ _ _ _ _ _ _
      | exact ih1 _ _ _ _ _ _ _ _
      | exact fourinhandlaw16_awake.mono _
      | exact fourinhandref16_Alpha.mono _ _ _ _
      | exact fourinhandref16_Queue.mono _ _ _ _ _
      | exact vegas_Alpha.mono _ _ _ _
      | exact vegas_Queue.mono _ _ _ _ _
      | exact vegas_Verdict.mono _ _ _ _
      | exact LeO.none _
      | refine LeO.ite ?_ ?_
      | refine LeO.bind ?_ (fun _ => ?_)
theorem fourinhandlaw16_VegasTells.mono : ∀ a0 a1 a2 a3 a4 a5 a6 a7 a8 a9 a10 k, LeO (fourinhandlaw16_VegasTells.f k a0 a1 a2 a3 a4 a5 a6 a7 a8 a9 a10) (fourinhandlaw16_VegasTells.f (k + 1) a0 a1 a2 a3 a4 a5 a6 a7 a8 a9 a10) := by
  intro a0 a1 a2 a3 a4 a5 a6 a7 a8 a9 a10 k
  obtain ⟨ih0, ih1⟩ := fourinhandlaw16_VegasTells.mono_l k
  unfold fourinhandlaw16_VegasTells.f
  repeat' first
      | (with_reducible exact ih0 _ _ _ _ _ _ _ _ _ _ _ _ _)
      | (with_reducible exact ih1 _ _ _ _ _ _ _ _)
      | (with_reducible exact fourinhandlaw16_awake.mono _)
      | (with_reducible exact fourinhandref16_Alpha.mono _ _ _ _)
      | (with_reducible exact fourinhandref16_Queue.mono _ _ _ _ _)
      | (with_reducible exact vegas_Alpha.mono _ _ _ _)
      | (with_reducible exact vegas_Queue.mono _ _ _ _ _)
      | (with_reducible exact vegas_Verdict.mono _ _ _ _)
      | (with_reducible exact LeO.refl _)
      | (with_reducible exact LeO.none _)
      | (with_reducible refine LeO.ite ?_ ?_)
      | (with_reducible refine LeO.bind ?_ (fun _ => ?_))
      | exact ih0 _ _ _ _ _ _ _ _ _ _ _ _ _
      | exact ih1 _ _ _ _ _ _ _ _
      | exact fourinhandlaw16_awake.mono _
      | exact fourinhandref16_Alpha.mono _ _ _ _
      | exact fourinhandref16_Queue.mono _ _ _ _ _
      | exact vegas_Alpha.mono _ _ _ _
      | exact vegas_Queue.mono _ _ _ _ _
      | exact vegas_Verdict.mono _ _ _ _
      | exact LeO.none _
      | refine LeO.ite ?_ ?_
      | refine LeO.bind ?_ (fun _ => ?_)
def fourinhandlaw16_VegasTells.T7 : Bool × List (List Nat × List Nat) := (true, [([], []), ([0], [0]), ([], []), ([], []), ([], []), ([1, 2, 3, 4], [1, 2, 3, 4]), ([], []), ([6], [6]), ([], []), ([], []), ([], []), ([7, 8, 9, 10, 5], [7, 8, 9, 10]), ([5, 11], [5, 11]), ([12, 11, 0, 1, 2, 3, 4, 5, 6, 7, 8, 9, 10, 11, 12], [12])])
def fourinhandlaw16_VegasTells.B7 : List Nat := [0, 1, 0, 0, 0, 31, 0, 64, 0, 0, 0, 2047, 4095, 8191]
theorem fourinhandlaw16_VegasTells.tab7 : rtab .any (opsOf Try.f6 7) = fourinhandlaw16_VegasTells.T7 := by kernel_rfl
theorem fourinhandlaw16_VegasTells.bits7 : waitsOk fourinhandlaw16_VegasTells.T7.2 fourinhandlaw16_VegasTells.B7 = true := by kernel_rfl
set_option maxHeartbeats 8000000 in
set_option maxRecDepth 100000 in
theorem fourinhandlaw16_VegasTells.calls (k : Nat) (A0 : Option Addr) (c0 : Nat) (l0 : List (S29)) (a1 : Int) (a2 : Int) (a3_0 : Int) (a3_1 : Int) (a4 : Int) (a5 : Int) (a6 : Int) (a7 : Int) (a8 : Int) (a9 : Int) (r : Bool) (hr_ : Aside0 (r = true)) (w : World) (hr0 : Kd.C k29 w A0 l0.length l0) (hc0 : l0.length ≤ c0) (h : fourinhandlaw16_VegasTells.f k l0 a1 a2 a3_0 a3_1 a4 a5 a6 a7 a8 a9 = some r) :
    Calls Try.prog 6 #[.slice A0 l0.length c0, .int .i64 a1, .int .i64 a2, .agg #[.int .i64 a3_0, .int .i64 a3_1], .int .i64 a4, .int .i64 a5, .int .i64 a6, .int .i64 a7, .int .i64 a8, .int .i64 a9] w fun e w' => e = .returned (.bool r) ∧ Below w.heap.size w w' := by
  have hu32 := Try.underlying32
  have HR0 := Aside0.mk hr0
  have HC0 := Aside0.mk hc0
  clear hr0 hc0
  have HB := Aside0.mk (Below.refl w.heap.size w)
  have H : ((fourinhandlaw16_awake.f k).bind fun t175 => (if t175 = true then (fourinhandlaw16_VegasTells.j0 k l0 a1 a2 a4 a5 a6 a7 a8 a9 t175 (decide ((l0.length : Int) > 20)) a3_0 a3_1) else (fourinhandlaw16_VegasTells.j0 k l0 a1 a2 a4 a5 a6 a7 a8 a9 t175 true a3_0 a3_1))) = some r := h
  clear h
  replace H := Option.bind_eq_some_iff.mp H
  obtain ⟨t175, A110, H⟩ := H
  replace H : (if t175 = true then (fourinhandlaw16_VegasTells.j0 k l0 a1 a2 a4 a5 a6 a7 a8 a9 t175 (decide ((l0.length : Int) > 20)) a3_0 a3_1) else (fourinhandlaw16_VegasTells.j0 k l0 a1 a2 a4 a5 a6 a7 a8 a9 t175 true a3_0 a3_1)) = some r := H
  have A11 := Aside0.mk A110
  clear A110
  have HC12 := Aside0.mk H
  clear H
  go_enter Try.func6, Try.ntmps6
  go_upto_region 2 with (first | ((with_reducible refine gate_dst (N := 13) rfl ?_); (try (refine gate_guard (by rfl) ?_; dsimp only)); refine box_event ?hg (N := 13) ?hd (cs := #[.int .i64 a3_0, .int .i64 a3_1]) (t := 32) ?hr ?_; (case hd => rfl); (case hg => rfl); (case hr => first | (go_simp; done) | (go_simp; rfl)); intro gb174 hg w13 hbox hb; have n0_ := Aside0.mk (below_step (by repeat (first | (with_reducible first | exact HB.out | apply below_alloc | apply pw_below_drewN | apply below_drew1) | exact HB.out)) hb); have n1_ := Aside0.mk (hbox); have n2_ := Aside0.mk ((by rw [hg]; exact (below_size (by repeat (first | (with_reducible first | exact HB.out | apply below_alloc | apply pw_below_drewN | apply below_drew1) | exact HB.out))) : w.heap.size ≤ gb174)); have n3_ := Aside0.mk ((by rw [hg]; exact (below_size (by repeat (first | (with_reducible first | exact HB.out | apply below_alloc | apply pw_below_drewN | apply below_drew1) | exact HB.out))) : w.heap.size ≤ gb174)); clear HB; have HB := n0_; have BK174 := n1_; have GW174 := n2_; have GE174 := n3_; clear n0_ n1_ n2_ n3_; clear hb hbox hg) | ((with_reducible refine gate_callee (f := 9) rfl ?_); refine goesL_ (some 29) rfl rfl Try.func9 (by kernel_rfl) rfl #[] rfl (by (try simp only [List.map_toArray, List.map_cons, List.map_nil]); first | done | rfl | (simp only [List.length_drop, List.length_take]; rfl)) ?_; (with_reducible refine (fourinhandlaw16_awake.calls k  t175 _ A11.out).mono ?_); rintro e w14 ⟨rfl, hb⟩; refine ⟨_, rfl, ?_⟩; have n0_ := Aside0.mk (blk_below (g := gb174) (o := .cells #[.int .i64 a3_0, .int .i64 a3_1] 32 (0, 0)) (by (with_reducible repeat (first | refine blk_drewN ?_ _ | refine blk_drew ?_ | refine blk_alloc ?_ _)); exact BK174.out) hb); have n1_ := Aside0.mk (below_step (by repeat (first | (with_reducible first | exact HB.out | apply below_alloc | apply pw_below_drewN | apply below_drew1 | refine below_set ?_ GE174.out) | exact HB.out)) hb); clear BK174; clear HB; have BK174 := n0_; have HB := n1_; clear n0_ n1_; (try clear hb); (try clear hb2); (try clear hk); (try clear hi)))
  (try simp only [Act.put, List.setIfInBounds_toArray, List.set_cons_zero, List.set_cons_succ])
  go_cut [36] (fun v36 wc => ∃ (kq : Nat) (x36_11 : Bool), v36 = .bool x36_11 ∧ Aside0 (fourinhandlaw16_VegasTells.j0 kq l0 a1 a2 a4 a5 a6 a7 a8 a9 t175 x36_11 a3_0 a3_1 = some r) ∧ Aside0 (kq ≤ k) ∧ Aside0 (wc.heap[gb174]? = some (.cells #[.int .i64 a3_0, .int .i64 a3_1] 32 (0, 0))) ∧ Aside0 (Below w.heap.size w wc))
  case first =>
    have H := HC12.out
    clear HC12
    by_cases c15 : t175 = true
    · subst c15
      have H1 : (fourinhandlaw16_VegasTells.j0 k l0 a1 a2 a4 a5 a6 a7 a8 a9 true (decide ((l0.length : Int) > 20)) a3_0 a3_1) = some r := by rw [if_pos rfl] at H; exact H
      clear H
      have H := H1
      clear H1
      have H' := Aside0.mk H
      clear H
      go_wp2
      go_meet
      case rel => exact ⟨_, (decide ((l0.length : Int) > 20)), (by first | rfl | (simp; done) | (simp [*]; done)), H', ⟨by first | omega | exact Nat.le_refl _⟩, ⟨by (with_reducible repeat (first | refine blk_drewN ?_ _ | refine blk_drew ?_ | refine blk_alloc ?_ _)); exact BK174.out⟩, ⟨by repeat (first | (with_reducible first | exact HB.out | apply below_alloc | apply pw_below_drewN | apply below_drew1 | refine below_set ?_ GE174.out) | exact HB.out)⟩⟩
    · replace c15 := Bool.eq_false_iff.mpr c15
      subst c15
      have H1 : (fourinhandlaw16_VegasTells.j0 k l0 a1 a2 a4 a5 a6 a7 a8 a9 false true a3_0 a3_1) = some r := by rw [if_neg (show ¬ (false = true) by decide)] at H; exact H
      clear H
      have H := H1
      clear H1
      have H' := Aside0.mk H
      clear H
      go_wp2
      go_meet
      case rel => exact ⟨_, (true), (by first | rfl | (simp; done) | (simp [*]; done)), H', ⟨by first | omega | exact Nat.le_refl _⟩, ⟨by (with_reducible repeat (first | refine blk_drewN ?_ _ | refine blk_drew ?_ | refine blk_alloc ?_ _)); exact BK174.out⟩, ⟨by repeat (first | (with_reducible first | exact HB.out | apply below_alloc | apply pw_below_drewN | apply below_drew1 | refine below_set ?_ GE174.out) | exact HB.out)⟩⟩
  case rest =>
    clear HC12
    try clear c1
    try clear p2
    try clear c6
    try clear c9
    try clear c15
    obtain ⟨kq, x36_11, rfl, HA, HJ11, BK174, HB⟩ := hcut
    cases kq with
    | zero => exact absurd HA.out (by simp [fourinhandlaw16_VegasTells.j0])
    | succ kj11 =>
      have H := HA.out
      clear HA
      simp only [fourinhandlaw16_VegasTells.j0] at H
      by_cases c16 : x36_11 = true
      · subst c16
        have H1 : (some t175) = some r := by rw [if_pos rfl] at H; exact H
        clear H
        have H := H1
        clear H1
        obtain rfl := Option.some.inj H
        go_wp2
        go_ret
        exact ⟨by first | rfl | (simp [errW_none, errW_some] <;> rfl) | (simp [*, errW_none, errW_some] <;> rfl), by repeat (first | (with_reducible first | exact HB.out | apply below_alloc | apply pw_below_drewN | apply below_drew1 | refine below_set ?_ GE174.out) | exact HB.out)⟩
      · replace c16 := Bool.eq_false_iff.mpr c16
        subst c16
        have H1 : ((vegas_Round.f a3_0 a3_1 a6 a7 a8 a9).bind fun bt176 => ((fourinhandref16_Round.f a3_0 a3_1 a6 a7 a8 a9).bind fun bt180 => (if (bt176.1 == bt180.1 && (bt176.2.1 == bt180.2.1)) = true then (if bt176.2.2 = bt180.2.2 then ((vegas_Alpha.f kj11 l0 a1 a2).bind fun t184 => ((fourinhandref16_Alpha.f kj11 l0 a1 a2).bind fun t185 => (fourinhandlaw16_VegasTells.j1 kj11 a4 a5 a6 a7 a8 (t184 == t185) a3_0 a3_1))) else (fourinhandlaw16_VegasTells.j1 kj11 a4 a5 a6 a7 a8 false a3_0 a3_1)) else (fourinhandlaw16_VegasTells.j1 kj11 a4 a5 a6 a7 a8 false a3_0 a3_1)))) = some r := by rw [if_neg (show ¬ (false = true) by decide)] at H; exact H
        clear H
        have H := H1
        clear H1
        replace H := Option.bind_eq_some_iff.mp H
        obtain ⟨⟨t176, t177, t178⟩, A170, H⟩ := H
        replace H : ((fourinhandref16_Round.f a3_0 a3_1 a6 a7 a8 a9).bind fun bt180 => (if (t176 == bt180.1 && (t177 == bt180.2.1)) = true then (if t178 = bt180.2.2 then ((vegas_Alpha.f kj11 l0 a1 a2).bind fun t184 => ((fourinhandref16_Alpha.f kj11 l0 a1 a2).bind fun t185 => (fourinhandlaw16_VegasTells.j1 kj11 a4 a5 a6 a7 a8 (t184 == t185) a3_0 a3_1))) else (fourinhandlaw16_VegasTells.j1 kj11 a4 a5 a6 a7 a8 false a3_0 a3_1)) else (fourinhandlaw16_VegasTells.j1 kj11 a4 a5 a6 a7 a8 false a3_0 a3_1))) = some r := H
        have A17 := Aside0.mk A170
        clear A170
        replace H := Option.bind_eq_some_iff.mp H
        obtain ⟨⟨t180, t181, t182⟩, A180, H⟩ := H
        replace H : (if (t176 == t180 && (t177 == t181)) = true then (if t178 = t182 then ((vegas_Alpha.f kj11 l0 a1 a2).bind fun t184 => ((fourinhandref16_Alpha.f kj11 l0 a1 a2).bind fun t185 => (fourinhandlaw16_VegasTells.j1 kj11 a4 a5 a6 a7 a8 (t184 == t185) a3_0 a3_1))) else (fourinhandlaw16_VegasTells.j1 kj11 a4 a5 a6 a7 a8 false a3_0 a3_1)) else (fourinhandlaw16_VegasTells.j1 kj11 a4 a5 a6 a7 a8 false a3_0 a3_1)) = some r := H
        have A18 := Aside0.mk A180
        clear A180
        have HC19 := Aside0.mk H
        clear H
        have hcz20_0 : wc.cell? ⟨gb174, 0, none⟩ = some (.int .i64 a3_0) := (blk_cell BK174.out 0).trans rfl
        have hcz20_1 : wc.cell? ⟨gb174, 1, none⟩ = some (.int .i64 a3_1) := (blk_cell BK174.out 1).trans rfl
        have hfz20_0 := blk_frozen BK174.out 0
        have hfz20_1 := blk_frozen BK174.out 1
        go_upto_region 6 with (first | ((with_reducible refine gate_callee (f := 12) rfl ?_); refine goesL_ (some 44) rfl rfl Try.func12 (by kernel_rfl) rfl #[.agg #[.int .i64 a3_0, .int .i64 a3_1], .int .i64 a6, .int .i64 a7, .int .i64 a8, .int .i64 a9] rfl (by (try simp only [List.map_toArray, List.map_cons, List.map_nil]); first | done | rfl | (simp only [List.length_drop, List.length_take]; rfl)) ?_; (with_reducible refine (vegas_Round.calls a3_0 a3_1 a6 a7 a8 a9 t176 t177 t178 _ A17.out).mono ?_); rintro e w21 ⟨rfl, hb⟩; refine ⟨_, rfl, ?_⟩; have n0_ := Aside0.mk (blk_below (g := gb174) (o := .cells #[.int .i64 a3_0, .int .i64 a3_1] 32 (0, 0)) (by (with_reducible repeat (first | refine blk_drewN ?_ _ | refine blk_drew ?_ | refine blk_alloc ?_ _)); exact BK174.out) hb); have n1_ := Aside0.mk (below_step (by repeat (first | (with_reducible first | exact HB.out | apply below_alloc | apply pw_below_drewN | apply below_drew1 | refine below_set ?_ GE174.out) | exact HB.out)) hb); clear BK174; clear HB; have BK174 := n0_; have HB := n1_; clear n0_ n1_; (try clear hb); (try clear hb2); (try clear hk); (try clear hi)) | ((with_reducible refine gate_dst (N := 22) rfl ?_); (try (refine gate_guard (by rfl) ?_; dsimp only)); refine box_event ?hg (N := 22) ?hd (cs := #[.int .i64 0, .int .i64 0]) (t := 32) ?hr ?_; (case hd => rfl); (case hg => rfl); (case hr => first | (go_simp; done) | (go_simp; rfl)); intro gb179 hg w22 hbox hb; have n0_ := Aside0.mk (blk_below (g := gb174) (o := .cells #[.int .i64 a3_0, .int .i64 a3_1] 32 (0, 0)) (by (with_reducible repeat (first | refine blk_drewN ?_ _ | refine blk_drew ?_ | refine blk_alloc ?_ _)); exact BK174.out) hb); have n1_ := Aside0.mk (below_step (by repeat (first | (with_reducible first | exact HB.out | apply below_alloc | apply pw_below_drewN | apply below_drew1 | refine below_set ?_ GE174.out) | exact HB.out)) hb); have n2_ := Aside0.mk (hbox); have n3_ := Aside0.mk ((by rw [hg]; exact (below_size (by repeat (first | (with_reducible first | exact HB.out | apply below_alloc | apply pw_below_drewN | apply below_drew1 | refine below_set ?_ GE174.out) | exact HB.out))) : w.heap.size ≤ gb179)); have n4_ := Aside0.mk ((by rw [hg]; exact (below_size (by repeat (first | (with_reducible first | exact HB.out | apply below_alloc | apply pw_below_drewN | apply below_drew1 | refine below_set ?_ GE174.out) | exact HB.out))) : w.heap.size ≤ gb179)); have n5_ := Aside0.mk ((by rw [hg]; exact Nat.ne_of_lt (blk_lt (g := gb174) (o := .cells #[.int .i64 a3_0, .int .i64 a3_1] 32 (0, 0)) (by (with_reducible repeat (first | refine blk_drewN ?_ _ | refine blk_drew ?_ | refine blk_alloc ?_ _)); exact BK174.out)) : gb174 ≠ gb179)); have n6_ := Aside0.mk ((by rw [hg]; exact Nat.ne_of_gt (blk_lt (g := gb174) (o := .cells #[.int .i64 a3_0, .int .i64 a3_1] 32 (0, 0)) (by (with_reducible repeat (first | refine blk_drewN ?_ _ | refine blk_drew ?_ | refine blk_alloc ?_ _)); exact BK174.out)) : gb179 ≠ gb174)); clear BK174; clear HB; have BK174 := n0_; have HB := n1_; have BK179 := n2_; have GW179 := n3_; have GE179 := n4_; have NB174_179 := n5_; have NB179_174 := n6_; clear n0_ n1_ n2_ n3_ n4_ n5_ n6_; clear hb hbox hg; have hnb23 := NB179_174.out; have hnc23 := NB174_179.out; have hcz24_0 : w22.cell? ⟨gb179, 0, none⟩ = some (.int .i64 0) := (blk_cell BK179.out 0).trans rfl; have hcz24_1 : w22.cell? ⟨gb179, 1, none⟩ = some (.int .i64 0) := (blk_cell BK179.out 1).trans rfl; have hfz24_0 := blk_frozen BK179.out 0; have hfz24_1 := blk_frozen BK179.out 1; have hcz25_0 : w22.cell? ⟨gb174, 0, none⟩ = some (.int .i64 a3_0) := (blk_cell BK174.out 0).trans rfl; have hcz25_1 : w22.cell? ⟨gb174, 1, none⟩ = some (.int .i64 a3_1) := (blk_cell BK174.out 1).trans rfl; have hfz25_0 := blk_frozen BK174.out 0; have hfz25_1 := blk_frozen BK174.out 1) | ((with_reducible refine gate_callee (f := 13) rfl ?_); refine goesL_ (some 53) rfl rfl Try.func13 (by kernel_rfl) rfl #[.agg #[.int .i64 a3_0, .int .i64 a3_1], .int .i64 a6, .int .i64 a7, .int .i64 a8, .int .i64 a9] rfl (by (try simp only [List.map_toArray, List.map_cons, List.map_nil]); first | done | rfl | (simp only [List.length_drop, List.length_take]; rfl)) ?_; (with_reducible refine (fourinhandref16_Round.calls a3_0 a3_1 a6 a7 a8 a9 t180 t181 t182 _ A18.out).mono ?_); rintro e w26 ⟨rfl, hb⟩; refine ⟨_, rfl, ?_⟩; have n0_ := Aside0.mk (blk_below (g := gb174) (o := .cells #[.int .i64 a3_0, .int .i64 a3_1] 32 (0, 0)) (by (with_reducible repeat (first | refine blk_drewN ?_ _ | refine blk_drew ?_ | refine blk_alloc ?_ _)); refine blk_far ?_ NB174_179.out _; (with_reducible repeat (first | refine blk_drewN ?_ _ | refine blk_drew ?_ | refine blk_alloc ?_ _)); refine blk_far ?_ NB174_179.out _; (with_reducible repeat (first | refine blk_drewN ?_ _ | refine blk_drew ?_ | refine blk_alloc ?_ _)); exact BK174.out) hb); have n1_ := Aside0.mk (blk_below (g := gb179) (o := .cells #[.int .i64 t176, .int .i64 t177] 32 (0, 0)) (by (with_reducible repeat (first | refine blk_drewN ?_ _ | refine blk_drew ?_ | refine blk_alloc ?_ _)); refine blk_put (cs := #[.int .i64 t176, .int .i64 0]) ?_ 1 _ rfl; (with_reducible repeat (first | refine blk_drewN ?_ _ | refine blk_drew ?_ | refine blk_alloc ?_ _)); refine blk_put (cs := #[.int .i64 0, .int .i64 0]) ?_ 0 _ rfl; (with_reducible repeat (first | refine blk_drewN ?_ _ | refine blk_drew ?_ | refine blk_alloc ?_ _)); exact BK179.out) hb); have n2_ := Aside0.mk (below_step (by repeat (first | (with_reducible first | exact HB.out | apply below_alloc | apply pw_below_drewN | apply below_drew1 | refine below_set ?_ GE174.out | refine below_set ?_ GE179.out) | exact HB.out)) hb); clear BK174; clear BK179; clear HB; have BK174 := n0_; have BK179 := n1_; have HB := n2_; clear n0_ n1_ n2_; (try clear hb); (try clear hb2); (try clear hk); (try clear hi)) | ((with_reducible refine gate_dst (N := 24) rfl ?_); (try (refine gate_guard (by rfl) ?_; dsimp only)); refine box_event ?hg (N := 24) ?hd (cs := #[.int .i64 0, .int .i64 0]) (t := 32) ?hr ?_; (case hd => rfl); (case hg => rfl); (case hr => first | (go_simp; done) | (go_simp; rfl)); intro gb183 hg w27 hbox hb; have n0_ := Aside0.mk (blk_below (g := gb174) (o := .cells #[.int .i64 a3_0, .int .i64 a3_1] 32 (0, 0)) (by (with_reducible repeat (first | refine blk_drewN ?_ _ | refine blk_drew ?_ | refine blk_alloc ?_ _)); exact BK174.out) hb); have n1_ := Aside0.mk (blk_below (g := gb179) (o := .cells #[.int .i64 t176, .int .i64 t177] 32 (0, 0)) (by (with_reducible repeat (first | refine blk_drewN ?_ _ | refine blk_drew ?_ | refine blk_alloc ?_ _)); exact BK179.out) hb); have n2_ := Aside0.mk (below_step (by repeat (first | (with_reducible first | exact HB.out | apply below_alloc | apply pw_below_drewN | apply below_drew1 | refine below_set ?_ GE174.out | refine below_set ?_ GE179.out) | exact HB.out)) hb); have n3_ := Aside0.mk (hbox); have n4_ := Aside0.mk ((by rw [hg]; exact (below_size (by repeat (first | (with_reducible first | exact HB.out | apply below_alloc | apply pw_below_drewN | apply below_drew1 | refine below_set ?_ GE174.out | refine below_set ?_ GE179.out) | exact HB.out))) : w.heap.size ≤ gb183)); have n5_ := Aside0.mk ((by rw [hg]; exact (below_size (by repeat (first | (with_reducible first | exact HB.out | apply below_alloc | apply pw_below_drewN | apply below_drew1 | refine below_set ?_ GE174.out | refine below_set ?_ GE179.out) | exact HB.out))) : w.heap.size ≤ gb183)); have n6_ := Aside0.mk ((by rw [hg]; exact Nat.ne_of_lt (blk_lt (g := gb174) (o := .cells #[.int .i64 a3_0, .int .i64 a3_1] 32 (0, 0)) (by (with_reducible repeat (first | refine blk_drewN ?_ _ | refine blk_drew ?_ | refine blk_alloc ?_ _)); exact BK174.out)) : gb174 ≠ gb183)); have n7_ := Aside0.mk ((by rw [hg]; exact Nat.ne_of_gt (blk_lt (g := gb174) (o := .cells #[.int .i64 a3_0, .int .i64 a3_1] 32 (0, 0)) (by (with_reducible repeat (first | refine blk_drewN ?_ _ | refine blk_drew ?_ | refine blk_alloc ?_ _)); exact BK174.out)) : gb183 ≠ gb174)); have n8_ := Aside0.mk ((by rw [hg]; exact Nat.ne_of_lt (blk_lt (g := gb179) (o := .cells #[.int .i64 t176, .int .i64 t177] 32 (0, 0)) (by (with_reducible repeat (first | refine blk_drewN ?_ _ | refine blk_drew ?_ | refine blk_alloc ?_ _)); exact BK179.out)) : gb179 ≠ gb183)); have n9_ := Aside0.mk ((by rw [hg]; exact Nat.ne_of_gt (blk_lt (g := gb179) (o := .cells #[.int .i64 t176, .int .i64 t177] 32 (0, 0)) (by (with_reducible repeat (first | refine blk_drewN ?_ _ | refine blk_drew ?_ | refine blk_alloc ?_ _)); exact BK179.out)) : gb183 ≠ gb179)); clear BK174; clear BK179; clear HB; have BK174 := n0_; have BK179 := n1_; have HB := n2_; have BK183 := n3_; have GW183 := n4_; have GE183 := n5_; have NB174_183 := n6_; have NB183_174 := n7_; have NB179_183 := n8_; have NB183_179 := n9_; clear n0_ n1_ n2_ n3_ n4_ n5_ n6_ n7_ n8_ n9_; clear hb hbox hg; have hnb28 := NB183_174.out; have hnc28 := NB174_183.out; have hnb29 := NB183_179.out; have hnc29 := NB179_183.out; have hcz30_0 : w27.cell? ⟨gb183, 0, none⟩ = some (.int .i64 0) := (blk_cell BK183.out 0).trans rfl; have hcz30_1 : w27.cell? ⟨gb183, 1, none⟩ = some (.int .i64 0) := (blk_cell BK183.out 1).trans rfl; have hfz30_0 := blk_frozen BK183.out 0; have hfz30_1 := blk_frozen BK183.out 1))
        (try simp only [Act.put, List.setIfInBounds_toArray, List.set_cons_zero, List.set_cons_succ])
        go_cut [26] (fun v26 wc => ∃ (kq : Nat) (x26_18 : Bool), v26 = .bool x26_18 ∧ Aside0 (fourinhandlaw16_VegasTells.j1 kq a4 a5 a6 a7 a8 x26_18 a3_0 a3_1 = some r) ∧ Aside0 (kq ≤ kj11) ∧ Aside0 (wc.heap[gb174]? = some (.cells #[.int .i64 a3_0, .int .i64 a3_1] 32 (0, 0))) ∧ Aside0 (wc.heap[gb179]? = some (.cells #[.int .i64 t176, .int .i64 t177] 32 (0, 0))) ∧ Aside0 (wc.heap[gb183]? = some (.cells #[.int .i64 t180, .int .i64 t181] 32 (0, 0))) ∧ Aside0 (Below w.heap.size w wc))
        case first =>
          have H := HC19.out
          clear HC19
          by_cases c31 : (t176 == t180 && (t177 == t181)) = true
          · rw [if_pos c31] at H
            have c31b0 : (t176 == t180 && (t177 == t181)) = true := c31
            (try (have c31b1 : decide (t176 = t180 && (t177 == t181)) = true := by simpa using c31))
            (try (have c31b2 : (t176 == t180 && (t177 == t181)) = true := by simpa using c31))
            clear c31
            (first | rw [c31b0] | (simp only [i64_w, i32_w]; rw [c31b0]) | skip)
            by_cases c32 : t178 = t182
            · rw [if_pos c32] at H
              have c32b0 : (t178 == t182) = true := beq_iff_eq.mpr c32
              have c32b1 : (t178 != t182) = false := bne_eq_false_iff_eq.mpr c32
              clear c32
              replace H := Option.bind_eq_some_iff.mp H
              obtain ⟨t184, A330, H⟩ := H
              replace H : ((fourinhandref16_Alpha.f kj11 l0 a1 a2).bind fun t185 => (fourinhandlaw16_VegasTells.j1 kj11 a4 a5 a6 a7 a8 (t184 == t185) a3_0 a3_1)) = some r := H
              have A33 := Aside0.mk A330
              clear A330
              replace H := Option.bind_eq_some_iff.mp H
              obtain ⟨t185, A340, H⟩ := H
              replace H : (fourinhandlaw16_VegasTells.j1 kj11 a4 a5 a6 a7 a8 (t184 == t185) a3_0 a3_1) = some r := H
              have A34 := Aside0.mk A340
              clear A340
              have H' := Aside0.mk H
              clear H
              have hnb35 := NB179_174.out
              have hnc35 := NB174_179.out
              have hnb36 := NB179_183.out
              have hnc36 := NB183_179.out
              have hcz37_0 : w27.cell? ⟨gb179, 0, none⟩ = some (.int .i64 t176) := (blk_cell BK179.out 0).trans rfl
              have hcz37_1 : w27.cell? ⟨gb179, 1, none⟩ = some (.int .i64 t177) := (blk_cell BK179.out 1).trans rfl
              have hfz37_0 := blk_frozen BK179.out 0
              have hfz37_1 := blk_frozen BK179.out 1
              have hnb38 := NB183_174.out
              have hnc38 := NB174_183.out
              have hcz39_0 : w27.cell? ⟨gb183, 0, none⟩ = some (.int .i64 0) := (blk_cell BK183.out 0).trans rfl
              have hcz39_1 : w27.cell? ⟨gb183, 1, none⟩ = some (.int .i64 0) := (blk_cell BK183.out 1).trans rfl
              have hfz39_0 := blk_frozen BK183.out 0
              have hfz39_1 := blk_frozen BK183.out 1
              go_wp2_with (first | (go_at_call 10; (with_reducible refine (vegas_Alpha.calls kj11 _ _ l0 a1 a2 t184 _ ?side1 ?side2 A33.out).mono ?_); (case side1 => exact Kd.C_below HR0.out (by repeat (first | (with_reducible first | exact HB.out | apply below_alloc | apply pw_below_drewN | apply below_drew1 | refine below_set ?_ GE174.out | refine below_set ?_ GE179.out | refine below_set ?_ GE183.out) | exact HB.out))); (case side2 => exact HC0.out); rintro e w40 ⟨rfl, hb⟩; have n0_ := Aside0.mk (blk_below (g := gb174) (o := .cells #[.int .i64 a3_0, .int .i64 a3_1] 32 (0, 0)) (by (with_reducible repeat (first | refine blk_drewN ?_ _ | refine blk_drew ?_ | refine blk_alloc ?_ _)); refine blk_far ?_ NB174_183.out _; (with_reducible repeat (first | refine blk_drewN ?_ _ | refine blk_drew ?_ | refine blk_alloc ?_ _)); refine blk_far ?_ NB174_183.out _; (with_reducible repeat (first | refine blk_drewN ?_ _ | refine blk_drew ?_ | refine blk_alloc ?_ _)); exact BK174.out) hb); have n1_ := Aside0.mk (blk_below (g := gb179) (o := .cells #[.int .i64 t176, .int .i64 t177] 32 (0, 0)) (by (with_reducible repeat (first | refine blk_drewN ?_ _ | refine blk_drew ?_ | refine blk_alloc ?_ _)); refine blk_far ?_ NB179_183.out _; (with_reducible repeat (first | refine blk_drewN ?_ _ | refine blk_drew ?_ | refine blk_alloc ?_ _)); refine blk_far ?_ NB179_183.out _; (with_reducible repeat (first | refine blk_drewN ?_ _ | refine blk_drew ?_ | refine blk_alloc ?_ _)); exact BK179.out) hb); have n2_ := Aside0.mk (blk_below (g := gb183) (o := .cells #[.int .i64 t180, .int .i64 t181] 32 (0, 0)) (by (with_reducible repeat (first | refine blk_drewN ?_ _ | refine blk_drew ?_ | refine blk_alloc ?_ _)); refine blk_put (cs := #[.int .i64 t180, .int .i64 0]) ?_ 1 _ rfl; (with_reducible repeat (first | refine blk_drewN ?_ _ | refine blk_drew ?_ | refine blk_alloc ?_ _)); refine blk_put (cs := #[.int .i64 0, .int .i64 0]) ?_ 0 _ rfl; (with_reducible repeat (first | refine blk_drewN ?_ _ | refine blk_drew ?_ | refine blk_alloc ?_ _)); exact BK183.out) hb); have n3_ := Aside0.mk (below_step (by repeat (first | (with_reducible first | exact HB.out | apply below_alloc | apply pw_below_drewN | apply below_drew1 | refine below_set ?_ GE174.out | refine below_set ?_ GE179.out | refine below_set ?_ GE183.out) | exact HB.out)) hb); clear BK174; clear BK179; clear BK183; clear HB; have BK174 := n0_; have BK179 := n1_; have BK183 := n2_; have HB := n3_; clear n0_ n1_ n2_ n3_; (try clear hb); (try clear hb2); (try clear hk); (try clear hi)) | (go_at_call 14; (with_reducible refine (fourinhandref16_Alpha.calls kj11 _ _ l0 a1 a2 t185 _ ?side1 ?side2 A34.out).mono ?_); (case side1 => repeat (first | exact (Kd.C_below HR0.out HB.out) | (with_reducible refine Kd.C_alloc ?_ _) | (with_reducible refine Kd.C_drewN ?_ _) | (with_reducible refine Kd.C_drew ?_))); (case side2 => exact HC0.out); rintro e w41 ⟨rfl, hb⟩; have n0_ := Aside0.mk (blk_below (g := gb174) (o := .cells #[.int .i64 a3_0, .int .i64 a3_1] 32 (0, 0)) (by (with_reducible repeat (first | refine blk_drewN ?_ _ | refine blk_drew ?_ | refine blk_alloc ?_ _)); exact BK174.out) hb); have n1_ := Aside0.mk (blk_below (g := gb179) (o := .cells #[.int .i64 t176, .int .i64 t177] 32 (0, 0)) (by (with_reducible repeat (first | refine blk_drewN ?_ _ | refine blk_drew ?_ | refine blk_alloc ?_ _)); exact BK179.out) hb); have n2_ := Aside0.mk (blk_below (g := gb183) (o := .cells #[.int .i64 t180, .int .i64 t181] 32 (0, 0)) (by (with_reducible repeat (first | refine blk_drewN ?_ _ | refine blk_drew ?_ | refine blk_alloc ?_ _)); exact BK183.out) hb); have n3_ := Aside0.mk (below_step (by repeat (first | (with_reducible first | exact HB.out | apply below_alloc | apply pw_below_drewN | apply below_drew1 | refine below_set ?_ GE174.out | refine below_set ?_ GE179.out | refine below_set ?_ GE183.out) | exact HB.out)) hb); clear BK174; clear BK179; clear BK183; clear HB; have BK174 := n0_; have BK179 := n1_; have BK183 := n2_; have HB := n3_; clear n0_ n1_ n2_ n3_; (try clear hb); (try clear hb2); (try clear hk); (try clear hi)))
              go_meet
              case rel => exact ⟨_, ((t184 == t185)), (by first | rfl | (simp; done) | (simp [*]; done)), H', ⟨by have := HJ11.out; first | omega | exact Nat.le_refl _⟩, ⟨by (with_reducible repeat (first | refine blk_drewN ?_ _ | refine blk_drew ?_ | refine blk_alloc ?_ _)); exact BK174.out⟩, ⟨by (with_reducible repeat (first | refine blk_drewN ?_ _ | refine blk_drew ?_ | refine blk_alloc ?_ _)); exact BK179.out⟩, ⟨by (with_reducible repeat (first | refine blk_drewN ?_ _ | refine blk_drew ?_ | refine blk_alloc ?_ _)); exact BK183.out⟩, ⟨by repeat (first | (with_reducible first | exact HB.out | apply below_alloc | apply pw_below_drewN | apply below_drew1 | refine below_set ?_ GE174.out | refine below_set ?_ GE179.out | refine below_set ?_ GE183.out) | exact HB.out)⟩⟩
            · rw [if_neg c32] at H
              have c32b0 : (t178 == t182) = false := beq_eq_false_iff_ne.mpr c32
              have c32b1 : (t178 != t182) = true := bne_iff_ne.mpr c32
              have H' := Aside0.mk H
              clear H
              have hnb42 := NB179_174.out
              have hnc42 := NB174_179.out
              have hnb43 := NB179_183.out
              have hnc43 := NB183_179.out
              have hcz44_0 : w27.cell? ⟨gb179, 0, none⟩ = some (.int .i64 t176) := (blk_cell BK179.out 0).trans rfl
              have hcz44_1 : w27.cell? ⟨gb179, 1, none⟩ = some (.int .i64 t177) := (blk_cell BK179.out 1).trans rfl
              have hfz44_0 := blk_frozen BK179.out 0
              have hfz44_1 := blk_frozen BK179.out 1
              have hnb45 := NB183_174.out
              have hnc45 := NB174_183.out
              have hcz46_0 : w27.cell? ⟨gb183, 0, none⟩ = some (.int .i64 0) := (blk_cell BK183.out 0).trans rfl
              have hcz46_1 : w27.cell? ⟨gb183, 1, none⟩ = some (.int .i64 0) := (blk_cell BK183.out 1).trans rfl
              have hfz46_0 := blk_frozen BK183.out 0
              have hfz46_1 := blk_frozen BK183.out 1
              go_wp2
              go_meet
              case rel => exact ⟨_, (false), (by first | rfl | (simp; done) | (simp [*]; done)), H', ⟨by have := HJ11.out; first | omega | exact Nat.le_refl _⟩, ⟨by (with_reducible repeat (first | refine blk_drewN ?_ _ | refine blk_drew ?_ | refine blk_alloc ?_ _)); refine blk_far ?_ NB174_183.out _; (with_reducible repeat (first | refine blk_drewN ?_ _ | refine blk_drew ?_ | refine blk_alloc ?_ _)); refine blk_far ?_ NB174_183.out _; (with_reducible repeat (first | refine blk_drewN ?_ _ | refine blk_drew ?_ | refine blk_alloc ?_ _)); exact BK174.out⟩, ⟨by (with_reducible repeat (first | refine blk_drewN ?_ _ | refine blk_drew ?_ | refine blk_alloc ?_ _)); refine blk_far ?_ NB179_183.out _; (with_reducible repeat (first | refine blk_drewN ?_ _ | refine blk_drew ?_ | refine blk_alloc ?_ _)); refine blk_far ?_ NB179_183.out _; (with_reducible repeat (first | refine blk_drewN ?_ _ | refine blk_drew ?_ | refine blk_alloc ?_ _)); exact BK179.out⟩, ⟨by (with_reducible repeat (first | refine blk_drewN ?_ _ | refine blk_drew ?_ | refine blk_alloc ?_ _)); refine blk_put (cs := #[.int .i64 t180, .int .i64 0]) ?_ 1 _ rfl; (with_reducible repeat (first | refine blk_drewN ?_ _ | refine blk_drew ?_ | refine blk_alloc ?_ _)); refine blk_put (cs := #[.int .i64 0, .int .i64 0]) ?_ 0 _ rfl; (with_reducible repeat (first | refine blk_drewN ?_ _ | refine blk_drew ?_ | refine blk_alloc ?_ _)); exact BK183.out⟩, ⟨by repeat (first | (with_reducible first | exact HB.out | apply below_alloc | apply pw_below_drewN | apply below_drew1 | refine below_set ?_ GE174.out | refine below_set ?_ GE179.out | refine below_set ?_ GE183.out) | exact HB.out)⟩⟩
          · rw [if_neg c31] at H
            have c31b0 : (t176 == t180 && (t177 == t181)) = false := by simpa using c31
            (try (have c31b1 : decide (t176 = t180 && (t177 == t181)) = false := by simpa using c31))
            (try (have c31b2 : (t176 == t180 && (t177 == t181)) = false := by simpa using c31))
            (try (have c31b3 : ¬ (t176 = t180 && (t177 == t181)) := by simpa using c31))
            clear c31
            (first | rw [c31b0] | (simp only [i64_w, i32_w]; rw [c31b0]) | skip)
            have H' := Aside0.mk H
            clear H
            have hnb47 := NB179_174.out
            have hnc47 := NB174_179.out
            have hnb48 := NB179_183.out
            have hnc48 := NB183_179.out
            have hcz49_0 : w27.cell? ⟨gb179, 0, none⟩ = some (.int .i64 t176) := (blk_cell BK179.out 0).trans rfl
            have hcz49_1 : w27.cell? ⟨gb179, 1, none⟩ = some (.int .i64 t177) := (blk_cell BK179.out 1).trans rfl
            have hfz49_0 := blk_frozen BK179.out 0
            have hfz49_1 := blk_frozen BK179.out 1
            have hnb50 := NB183_174.out
            have hnc50 := NB174_183.out
            have hcz51_0 : w27.cell? ⟨gb183, 0, none⟩ = some (.int .i64 0) := (blk_cell BK183.out 0).trans rfl
            have hcz51_1 : w27.cell? ⟨gb183, 1, none⟩ = some (.int .i64 0) := (blk_cell BK183.out 1).trans rfl
            have hfz51_0 := blk_frozen BK183.out 0
            have hfz51_1 := blk_frozen BK183.out 1
            go_wp2
            go_meet
            case rel => exact ⟨_, (false), (by first | rfl | (simp; done) | (simp [*]; done)), H', ⟨by have := HJ11.out; first | omega | exact Nat.le_refl _⟩, ⟨by (with_reducible repeat (first | refine blk_drewN ?_ _ | refine blk_drew ?_ | refine blk_alloc ?_ _)); refine blk_far ?_ NB174_183.out _; (with_reducible repeat (first | refine blk_drewN ?_ _ | refine blk_drew ?_ | refine blk_alloc ?_ _)); refine blk_far ?_ NB174_183.out _; (with_reducible repeat (first | refine blk_drewN ?_ _ | refine blk_drew ?_ | refine blk_alloc ?_ _)); exact BK174.out⟩, ⟨by (with_reducible repeat (first | refine blk_drewN ?_ _ | refine blk_drew ?_ | refine blk_alloc ?_ _)); refine blk_far ?_ NB179_183.out _; (with_reducible repeat (first | refine blk_drewN ?_ _ | refine blk_drew ?_ | refine blk_alloc ?_ _)); refine blk_far ?_ NB179_183.out _; (with_reducible repeat (first | refine blk_drewN ?_ _ | refine blk_drew ?_ | refine blk_alloc ?_ _)); exact BK179.out⟩, ⟨by (with_reducible repeat (first | refine blk_drewN ?_ _ | refine blk_drew ?_ | refine blk_alloc ?_ _)); refine blk_put (cs := #[.int .i64 t180, .int .i64 0]) ?_ 1 _ rfl; (with_reducible repeat (first | refine blk_drewN ?_ _ | refine blk_drew ?_ | refine blk_alloc ?_ _)); refine blk_put (cs := #[.int .i64 0, .int .i64 0]) ?_ 0 _ rfl; (with_reducible repeat (first | refine blk_drewN ?_ _ | refine blk_drew ?_ | refine blk_alloc ?_ _)); exact BK183.out⟩, ⟨by repeat (first | (with_reducible first | exact HB.out | apply below_alloc | apply pw_below_drewN | apply below_drew1 | refine below_set ?_ GE174.out | refine below_set ?_ GE179.out | refine below_set ?_ GE183.out) | exact HB.out)⟩⟩
        case rest =>
          clear HC19
          try clear c1
          try clear c2
          try clear p2
          try clear c3
          try clear c4
          try clear c5
          try clear c6
          try clear c9
          try clear c12
          try clear c13
          try clear c15
          try clear c16
          try clear c23
          try clear c28
          try clear c29
          try clear c31
          try clear c31b0
          try clear c31b1
          try clear c31b2
          try clear c32
          try clear c32b0
          try clear c32b1
          try clear c35
          try clear c36
          try clear c38
          try clear c42
          try clear c43
          try clear c45
          try clear c47
          try clear c48
          try clear c50
          try clear hcz20_0
          try clear hcz20_1
          try clear hcz24_0
          try clear hcz24_1
          try clear hcz25_0
          try clear hcz25_1
          try clear hcz30_0
          try clear hcz30_1
          try clear hcz37_0
          try clear hcz37_1
          try clear hcz39_0
          try clear hcz39_1
          try clear hcz44_0
          try clear hcz44_1
          try clear hcz46_0
          try clear hcz46_1
          try clear hcz49_0
          try clear hcz49_1
          try clear hcz51_0
          try clear hcz51_1
          try clear hfz20_0
          try clear hfz20_1
          try clear hfz24_0
          try clear hfz24_1
          try clear hfz25_0
          try clear hfz25_1
          try clear hfz30_0
          try clear hfz30_1
          try clear hfz37_0
          try clear hfz37_1
          try clear hfz39_0
          try clear hfz39_1
          try clear hfz44_0
          try clear hfz44_1
          try clear hfz46_0
          try clear hfz46_1
          try clear hfz49_0
          try clear hfz49_1
          try clear hfz51_0
          try clear hfz51_1
          try clear p2
          obtain ⟨kq, x26_18, rfl, HA, HJ18, BK174, BK179, BK183, HB⟩ := hcut
          cases kq with
          | zero => exact absurd HA.out (by simp [fourinhandlaw16_VegasTells.j1])
          | succ kj18 =>
            have H := HA.out
            clear HA
            simp only [fourinhandlaw16_VegasTells.j1] at H
            replace H := Option.bind_eq_some_iff.mp H
            obtain ⟨t186, A520, H⟩ := H
            replace H : ((fourinhandref16_Queue.f kj18 a3_0 a4 a5 a8).bind fun t187 => (if x26_18 = true then (if t186 = t187 then ((vegas_Verdict.f kj18 a6 a7 (decide (a3_0 < a3_1))).bind fun t188 => ((fourinhandref16_Verdict.f a6 a7 (decide (a3_0 < a3_1))).bind fun t189 => (some (t188 == t189)))) else (some false)) else (some false))) = some r := H
            have A52 := Aside0.mk A520
            clear A520
            replace H := Option.bind_eq_some_iff.mp H
            obtain ⟨t187, A530, H⟩ := H
            replace H : (if x26_18 = true then (if t186 = t187 then ((vegas_Verdict.f kj18 a6 a7 (decide (a3_0 < a3_1))).bind fun t188 => ((fourinhandref16_Verdict.f a6 a7 (decide (a3_0 < a3_1))).bind fun t189 => (some (t188 == t189)))) else (some false)) else (some false)) = some r := H
            have A53 := Aside0.mk A530
            clear A530
            by_cases c54 : x26_18 = true
            · subst c54
              have H1 : (if t186 = t187 then ((vegas_Verdict.f kj18 a6 a7 (decide (a3_0 < a3_1))).bind fun t188 => ((fourinhandref16_Verdict.f a6 a7 (decide (a3_0 < a3_1))).bind fun t189 => (some (t188 == t189)))) else (some false)) = some r := by rw [if_pos rfl] at H; exact H
              clear H
              have H := H1
              clear H1
              by_cases c55 : t186 = t187
              · rw [if_pos c55] at H
                have c55b0 : (t186 == t187) = true := beq_iff_eq.mpr c55
                have c55b1 : (t186 != t187) = false := bne_eq_false_iff_eq.mpr c55
                clear c55
                replace H := Option.bind_eq_some_iff.mp H
                obtain ⟨t188, A560, H⟩ := H
                replace H : ((fourinhandref16_Verdict.f a6 a7 (decide (a3_0 < a3_1))).bind fun t189 => (some (t188 == t189))) = some r := H
                have A56 := Aside0.mk A560
                clear A560
                replace H := Option.bind_eq_some_iff.mp H
                obtain ⟨t189, A570, H⟩ := H
                replace H : (some (t188 == t189)) = some r := H
                have A57 := Aside0.mk A570
                clear A570
                obtain rfl := Option.some.inj H
                try go_wp2
                have n0_ := Aside0.mk (blk_drew BK174.out)
                have n1_ := Aside0.mk (blk_drew BK179.out)
                have n2_ := Aside0.mk (blk_drew BK183.out)
                have n3_ := Aside0.mk (below_drew1 HB.out)
                clear BK174
                clear BK179
                clear BK183
                clear HB
                have BK174 := n0_
                have BK179 := n1_
                have BK183 := n2_
                have HB := n3_
                clear n0_ n1_ n2_ n3_
                refine start_ (n := 14) (S := fun w' => w'.cell? ⟨gb174, 0, none⟩ = some (.int .i64 a3_0) ∧ w'.cell? ⟨gb174, 1, none⟩ = some (.int .i64 a3_1)) (ds := []) #[false, false, false, false, false, false, false, false, false, false, false, false, false, false] (by kernel_rfl) rfl rfl ⟨(blk_cell BK174.out 0).trans rfl, (blk_cell BK174.out 1).trans rfl⟩ (fun hHeld => ?_); refine with_tabW fourinhandlaw16_VegasTells.tab7 fourinhandlaw16_VegasTells.bits7 (fun HT_ HW_ => ?_)
                generalize wc.drew = w58 at BK174 BK179 BK183 HB hHeld ⊢
                refine pure_ (i := 0) (N := some 75) (v := ?_) (a' := ?_) #[true, false, false, false, false, false, false, false, false, false, false, false, false, false] rfl rfl (any_of HT_.out (by kernel_rfl)) (fun _ _ _ h => h) (Or.inl ⟨by rfl, ?_⟩) ?_ ?_
                rotate_left
                · intro w'
                  go_simp
                  with_reducible rfl
                rotate_left
                · simp only [Act.put, List.setIfInBounds_toArray, List.set_cons_zero, List.set_cons_succ, i64_w, i32_w]
                  rfl
                refine pure_ (i := 2) (N := some 77) (v := ?_) (a' := ?_) #[true, false, true, false, false, false, false, false, false, false, false, false, false, false] rfl rfl (any_of HT_.out (by kernel_rfl)) (fun _ _ _ h => h) (Or.inl ⟨by rfl, ?_⟩) ?_ ?_
                rotate_left
                · intro w'
                  go_simp
                  with_reducible rfl
                rotate_left
                · simp only [Act.put, List.setIfInBounds_toArray, List.set_cons_zero, List.set_cons_succ, i64_w, i32_w]
                  rfl
                refine pure_ (i := 3) (N := some 78) (v := ?_) (a' := ?_) #[true, false, true, true, false, false, false, false, false, false, false, false, false, false] rfl rfl (any_of HT_.out (by kernel_rfl)) (fun _ _ _ h => h) (Or.inl ⟨by rfl, ?_⟩) ?_ ?_
                rotate_left
                · intro w'
                  go_simp
                  with_reducible rfl
                rotate_left
                · simp only [Act.put, List.setIfInBounds_toArray, List.set_cons_zero, List.set_cons_succ, i64_w, i32_w]
                  rfl
                refine pure_ (i := 4) (N := some 79) (v := ?_) (a' := ?_) #[true, false, true, true, true, false, false, false, false, false, false, false, false, false] rfl rfl (any_of HT_.out (by kernel_rfl)) (fun _ _ _ h => h) (Or.inl ⟨by rfl, ?_⟩) ?_ ?_
                rotate_left
                · intro w'
                  go_simp
                  with_reducible rfl
                rotate_left
                · simp only [Act.put, List.setIfInBounds_toArray, List.set_cons_zero, List.set_cons_succ, i64_w, i32_w]
                  rfl
                refine pure_ (i := 6) (N := some 81) (v := ?_) (a' := ?_) #[true, false, true, true, true, false, true, false, false, false, false, false, false, false] rfl rfl (any_of HT_.out (by kernel_rfl)) (fun _ _ _ h => h) (Or.inl ⟨by rfl, ?_⟩) ?_ ?_
                rotate_left
                · intro w'
                  go_simp
                  with_reducible rfl
                rotate_left
                · simp only [Act.put, List.setIfInBounds_toArray, List.set_cons_zero, List.set_cons_succ, i64_w, i32_w]
                  rfl
                refine pure_ (i := 8) (N := some 83) (v := ?_) (a' := ?_) #[true, false, true, true, true, false, true, false, true, false, false, false, false, false] rfl rfl (any_of HT_.out (by kernel_rfl)) (fun _ _ _ h => h) (Or.inl ⟨by rfl, ?_⟩) ?_ ?_
                rotate_left
                · intro w'
                  go_simp
                  with_reducible rfl
                rotate_left
                · simp only [Act.put, List.setIfInBounds_toArray, List.set_cons_zero, List.set_cons_succ, i64_w, i32_w]
                  rfl
                refine pure_ (i := 9) (N := some 84) (v := ?_) (a' := ?_) #[true, false, true, true, true, false, true, false, true, true, false, false, false, false] rfl rfl (any_of HT_.out (by kernel_rfl)) (fun _ _ _ h => h) (Or.inl ⟨by rfl, ?_⟩) ?_ ?_
                rotate_left
                · intro w'
                  go_simp
                  with_reducible rfl
                rotate_left
                · simp only [Act.put, List.setIfInBounds_toArray, List.set_cons_zero, List.set_cons_succ, i64_w, i32_w]
                  rfl
                refine pure_ (i := 10) (N := some 85) (v := ?_) (a' := ?_) #[true, false, true, true, true, false, true, false, true, true, true, false, false, false] rfl rfl (any_of HT_.out (by kernel_rfl)) (fun _ _ _ h => h) (Or.inl ⟨by rfl, ?_⟩) ?_ ?_
                rotate_left
                · intro w'
                  go_simp
                  with_reducible rfl
                rotate_left
                · simp only [Act.put, List.setIfInBounds_toArray, List.set_cons_zero, List.set_cons_succ, i64_w, i32_w]
                  rfl
                refine take_ (i := 1) (N := some 76) (v := ?_) (a' := ?_) #[true, true, true, true, true, false, true, false, true, true, true, false, false, false] rfl rfl (take_ofW HT_.out HW_.out (by kernel_rfl)) (fun _ _ _ h => h) (Or.inl ⟨by rfl, ?_⟩) hHeld ?_ ?_
                rotate_left
                · rintro w' ⟨s0, s1⟩
                  go_simp
                  with_reducible rfl
                rotate_left
                · simp only [Act.put, List.setIfInBounds_toArray, List.set_cons_zero, List.set_cons_succ, i64_w, i32_w]
                  rfl
                refine take_ (i := 7) (N := some 82) (v := ?_) (a' := ?_) #[true, true, true, true, true, false, true, true, true, true, true, false, false, false] rfl rfl (take_ofW HT_.out HW_.out (by kernel_rfl)) (fun _ _ _ h => h) (Or.inl ⟨by rfl, ?_⟩) hHeld ?_ ?_
                rotate_left
                · rintro w' ⟨s0, s1⟩
                  go_simp
                  with_reducible rfl
                rotate_left
                · simp only [Act.put, List.setIfInBounds_toArray, List.set_cons_zero, List.set_cons_succ, i64_w, i32_w]
                  rfl
                refine one_ (i := 5) (N := some 80) #[true, true, true, true, true, true, true, true, true, true, true, false, false, false] rfl rfl (one_of HT_.out (by kernel_rfl)) (by decide) (fun K hK => ?_)
                refine goes_ Try.func11 (by kernel_rfl) rfl #[.int .i64 a3_0, .int .i64 a4, .int .i64 a5, .int .i64 a8] (by rfl) rfl rfl (by (try simp only [List.map_toArray, List.map_cons, List.map_nil]); first | done | rfl | (simp only [List.length_drop, List.length_take]; rfl)) ?_
                with_reducible refine (vegas_Queue.calls kj18 a3_0 a4 a5 a8 t186 _ A52.out).mono ?_
                rintro e w59 ⟨rfl, hb⟩
                refine ⟨_, rfl, ?_⟩
                have n0_ := Aside0.mk (blk_below (g := gb174) (o := .cells #[.int .i64 a3_0, .int .i64 a3_1] 32 (0, 0)) (by (with_reducible repeat (first | refine blk_drewN ?_ _ | refine blk_drew ?_ | refine blk_alloc ?_ _)); exact BK174.out) hb)
                have n1_ := Aside0.mk (blk_below (g := gb179) (o := .cells #[.int .i64 t176, .int .i64 t177] 32 (0, 0)) (by (with_reducible repeat (first | refine blk_drewN ?_ _ | refine blk_drew ?_ | refine blk_alloc ?_ _)); exact BK179.out) hb)
                have n2_ := Aside0.mk (blk_below (g := gb183) (o := .cells #[.int .i64 t180, .int .i64 t181] 32 (0, 0)) (by (with_reducible repeat (first | refine blk_drewN ?_ _ | refine blk_drew ?_ | refine blk_alloc ?_ _)); exact BK183.out) hb)
                have n3_ := Aside0.mk (below_step (by repeat (first | (with_reducible first | exact HB.out | apply below_alloc | apply pw_below_drewN | apply below_drew1 | refine below_set ?_ GE174.out | refine below_set ?_ GE179.out | refine below_set ?_ GE183.out) | exact HB.out)) hb)
                clear BK174
                clear BK179
                clear BK183
                clear HB
                have BK174 := n0_
                have BK179 := n1_
                have BK183 := n2_
                have HB := n3_
                clear n0_ n1_ n2_ n3_
                (try clear hb)
                (try clear hb2)
                (try clear hk)
                (try clear hi)
                refine hK.out _ _ ⟨(blk_cell BK174.out 0).trans rfl, (blk_cell BK174.out 1).trans rfl⟩ (fun hHeld => ?_)
                clear hK K
                refine norm_ (a' := ?_) ?_ ?_
                rotate_left
                · show Act.put _ (some 80) _ = _
                  simp only [Act.put, List.setIfInBounds_toArray, List.set_cons_zero, List.set_cons_succ, i64_w, i32_w]
                  rfl
                refine one_ (i := 11) (N := some 86) #[true, true, true, true, true, true, true, true, true, true, true, true, false, false] rfl rfl (one_of HT_.out (by kernel_rfl)) (by decide) (fun K hK => ?_)
                refine goes_ Try.func15 (by kernel_rfl) rfl #[.int .i64 a3_0, .int .i64 a4, .int .i64 a5, .int .i64 a8] (by rfl) rfl rfl (by (try simp only [List.map_toArray, List.map_cons, List.map_nil]); first | done | rfl | (simp only [List.length_drop, List.length_take]; rfl)) ?_
                with_reducible refine (fourinhandref16_Queue.calls kj18 a3_0 a4 a5 a8 t187 _ A53.out).mono ?_
                rintro e w' ⟨rfl, ⟨nd, rfl⟩⟩
                refine ⟨_, rfl, ?_⟩
                refine hK.out _ _ ⟨(blk_cell BK174.out 0).trans rfl, (blk_cell BK174.out 1).trans rfl⟩ (fun hHeld => ?_)
                clear hK K
                refine norm_ (a' := ?_) ?_ ?_
                rotate_left
                · show Act.put _ (some 86) _ = _
                  simp only [Act.put, List.setIfInBounds_toArray, List.set_cons_zero, List.set_cons_succ, i64_w, i32_w]
                  rfl
                refine pure_ (i := 12) (N := some 87) (v := ?_) (a' := ?_) #[true, true, true, true, true, true, true, true, true, true, true, true, true, false] rfl rfl (any_of HT_.out (by kernel_rfl)) (fun _ _ _ h => h) (Or.inl ⟨by rfl, ?_⟩) ?_ ?_
                rotate_left
                · intro w'
                  go_simp
                  with_reducible rfl
                rotate_left
                · simp only [Act.put, List.setIfInBounds_toArray, List.set_cons_zero, List.set_cons_succ, i64_w, i32_w]
                  rfl
                refine pure_ (i := 13) (N := some 27) (v := ?_) (a' := ?_) #[true, true, true, true, true, true, true, true, true, true, true, true, true, true] rfl rfl (any_of HT_.out (by kernel_rfl)) (fun _ _ _ h => h) (Or.inl ⟨by rfl, ?_⟩) ?_ ?_
                rotate_left
                · intro w'
                  go_simp
                  with_reducible rfl
                rotate_left
                · simp only [Act.put, List.setIfInBounds_toArray, List.set_cons_zero, List.set_cons_succ, i64_w, i32_w]
                  rfl
                refine done_ (done_of HT_.out (by kernel_rfl)) ?_
                have hnb60 := NB174_179.out
                have hnc60 := NB179_174.out
                have hnb61 := NB174_183.out
                have hnc61 := NB183_174.out
                have hcz62_0 : w59.cell? ⟨gb174, 0, none⟩ = some (.int .i64 a3_0) := (blk_cell BK174.out 0).trans rfl
                have hcz62_1 : w59.cell? ⟨gb174, 1, none⟩ = some (.int .i64 a3_1) := (blk_cell BK174.out 1).trans rfl
                have hfz62_0 := blk_frozen BK174.out 0
                have hfz62_1 := blk_frozen BK174.out 1
                try go_wp2_with (first | (go_at_call 16; (with_reducible refine (vegas_Verdict.calls kj18 a6 a7 (decide (a3_0 < a3_1)) t188 _ A56.out).mono ?_); rintro e w' ⟨rfl, ⟨nd, rfl⟩⟩) | (go_at_call 17; (with_reducible refine (fourinhandref16_Verdict.calls a6 a7 (decide (a3_0 < a3_1)) t189 _ A57.out).mono ?_); rintro e w' ⟨rfl, ⟨nd, rfl⟩⟩))
                go_ret
                exact ⟨by first | rfl | (simp [errW_none, errW_some] <;> rfl) | (simp [*, errW_none, errW_some] <;> rfl), by repeat (first | (with_reducible first | exact HB.out | apply below_alloc | apply pw_below_drewN | apply below_drew1 | refine below_set ?_ GE174.out | refine below_set ?_ GE179.out | refine below_set ?_ GE183.out) | exact HB.out)⟩
              · rw [if_neg c55] at H
                have c55b0 : (t186 == t187) = false := beq_eq_false_iff_ne.mpr c55
                have c55b1 : (t186 != t187) = true := bne_iff_ne.mpr c55
                exact Bool.noConfusion ((Option.some.inj H).trans hr_.out)
            · replace c54 := Bool.eq_false_iff.mpr c54
              subst c54
              have H1 : (some false) = some r := by rw [if_neg (show ¬ (false = true) by decide)] at H; exact H
              clear H
              have H := H1
              clear H1
              exact Bool.noConfusion ((Option.some.inj H).trans hr_.out)

end Go.Proofs.Ytjmblmomeijddaa.PVegasTells
