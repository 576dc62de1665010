-- Written by a program of this session (wip/hprint.py), over the kit's print.py: the walk of one law. Lean checks it.
import Derived.Test.YtiilmjmgomcipaaPTimerTellsx0
import Derived.Test.YtiilmjmgomcipaaPTimerTellsx6
import Derived.Test.YtiilmjmgomcipaaPTimerTellsx8
namespace Go.Proofs.Ytiilmjmgomcipaa.PTimerTells
open Go.RowKit Go.Proofs.YtiilmjmgomcipaaW.PrintWords Go.Proofs.YtiilmjmgomcipaaW.PrintLast Go.Proofs.YtiilmjmgomcipaaW.PrintMore
attribute [local go_sem] max2_int min2_int max_two min_two max_three min_three max_four min_four   -- for this text's walks alone
set_option linter.unusedVariables false
set_option linter.unusedSimpArgs false

/-! ### fourinhandref14_Set: function 11 -/
mutual
def fourinhandref14_Set.j0 : Nat → List (S32) → Bool → Int → Int → Bool → Bool → Int → Int → Int → Int → Option (Int × Int × Int)
  | 0, _, _, _, _, _, _, _, _, _, _ => none
  | k + 1, x1, x2, x3, x4, x43, x163000, x163001, x163002, x163003, x163004 => if x43 = true then (some (0, 0, 1)) else (fourinhandref14_Set.l0 k x1 x2 x3 x4 (-1) 0 x163000 x163001 x163002 x163003 x163004)
def fourinhandref14_Set.l0 : Nat → List (S32) → Bool → Int → Int → Int → Int → Bool → Int → Int → Int → Int → Option (Int × Int × Int)
  | 0, _, _, _, _, _, _, _, _, _, _, _ => none
  | k + 1, x1, x2, x3, x4, x14, x15, x163000, x163001, x163002, x163003, x163004 => if x15 < (x1.length : Int) then (if 0 ≤ x15 then (if ((rd_T32 x1 x15).f5 = true) then (fourinhandref14_Set.l0 k x1 x2 x3 x4 x14 (wrap64 (x15 + 1)) x163000 x163001 x163002 x163003 x163004) else (if ((rd_T32 x1 x15).f6 = true) then (fourinhandref14_Set.l0 k x1 x2 x3 x4 x14 (wrap64 (x15 + 1)) x163000 x163001 x163002 x163003 x163004) else (if ((rd_T32 x1 x15).f3) > x14 then (fourinhandref14_Set.l0 k x1 x2 x3 x4 ((rd_T32 x1 x15).f3) (wrap64 (x15 + 1)) x163000 x163001 x163002 x163003 x163004) else (fourinhandref14_Set.l0 k x1 x2 x3 x4 x14 (wrap64 (x15 + 1)) x163000 x163001 x163002 x163003 x163004)))) else (none)) else (if x14 < 0 then (some (0, 0, 0)) else (if x14 > x3 then (fourinhandref14_Set.j2 k x2 x4 x3 x163000 x163001 x163002 x163003 x163004) else (fourinhandref14_Set.j2 k x2 x4 x14 x163000 x163001 x163002 x163003 x163004)))
def fourinhandref14_Set.j2 : Nat → Bool → Int → Int → Bool → Int → Int → Int → Int → Option (Int × Int × Int)
  | 0, _, _, _, _, _, _, _, _ => none
  | k + 1, x2, x4, x14, x163000, x163001, x163002, x163003, x163004 => (fourinhandref08_Wait.f k x163000 x163001 x163002 x163003 x163004 x4).bind fun t170 => (if x2 = true then (fourinhandref14_Set.j3 k x14 t170 true x163000 x163001 x163002 x163003 x163004) else (fourinhandref14_Set.j3 k x14 t170 (!x163000) x163000 x163001 x163002 x163003 x163004))
def fourinhandref14_Set.j3 : Nat → Int → Int → Bool → Bool → Int → Int → Int → Int → Option (Int × Int × Int)
  | 0, _, _, _, _, _, _, _, _ => none
  | k + 1, x14, x16, x94, x163000, x163001, x163002, x163003, x163004 => if x94 = true then (some (2, wrap64 (x14 + x16), 0)) else (if (wrap64 (2 * x163001)) < 1000 then (if 1000 < x16 then (some (1, wrap64 (x14 + 1000), 0)) else (some (1, wrap64 (x14 + x16), 0))) else (if (wrap64 (2 * x163001)) < x16 then (some (1, wrap64 (x14 + (wrap64 (2 * x163001))), 0)) else (some (1, wrap64 (x14 + x16), 0))))
end
def fourinhandref14_Set.f (k : Nat) (a0_0 : Bool) (a0_1 : Int) (a0_2 : Int) (a0_3 : Int) (a0_4 : Int) (l1 : List (S32)) (a2 : Bool) (a3 : Int) (a4 : Int) : Option (Int × Int × Int) := (fourinhandref08_May.f a0_0 a0_1 a0_2 a0_3 a0_4).bind fun t164 => ((fourinhandref12_May.f k l1).bind fun t165 => (if t164 = true then (if t165 = true then (if a3 < 0 then (fourinhandref14_Set.j0 k l1 a2 a3 a4 true a0_0 a0_1 a0_2 a0_3 a0_4) else (if a3 > 1152921504606846976 then (fourinhandref14_Set.j0 k l1 a2 a3 a4 true a0_0 a0_1 a0_2 a0_3 a0_4) else (if a4 < 1 then (fourinhandref14_Set.j0 k l1 a2 a3 a4 true a0_0 a0_1 a0_2 a0_3 a0_4) else (fourinhandref14_Set.j0 k l1 a2 a3 a4 (decide (a4 > 1099511627776)) a0_0 a0_1 a0_2 a0_3 a0_4)))) else (fourinhandref14_Set.j0 k l1 a2 a3 a4 true a0_0 a0_1 a0_2 a0_3 a0_4)) else (fourinhandref14_Set.j0 k l1 a2 a3 a4 true a0_0 a0_1 a0_2 a0_3 a0_4)))
theorem fourinhandref14_Set.mono_l : ∀ k, (∀ y0 y1 y2 y3 y4 y5 y6 y7 y8 y9, LeO (fourinhandref14_Set.j0 k y0 y1 y2 y3 y4 y5 y6 y7 y8 y9) (fourinhandref14_Set.j0 (k + 1) y0 y1 y2 y3 y4 y5 y6 y7 y8 y9)) ∧ (∀ y0 y1 y2 y3 y4 y5 y6 y7 y8 y9 y10, LeO (fourinhandref14_Set.l0 k y0 y1 y2 y3 y4 y5 y6 y7 y8 y9 y10) (fourinhandref14_Set.l0 (k + 1) y0 y1 y2 y3 y4 y5 y6 y7 y8 y9 y10)) ∧ (∀ y0 y1 y2 y3 y4 y5 y6 y7, LeO (fourinhandref14_Set.j2 k y0 y1 y2 y3 y4 y5 y6 y7) (fourinhandref14_Set.j2 (k + 1) y0 y1 y2 y3 y4 y5 y6 y7)) ∧ (∀ y0 y1 y2 y3 y4 y5 y6 y7, LeO (fourinhandref14_Set.j3 k y0 y1 y2 y3 y4 y5 y6 y7) (fourinhandref14_Set.j3 (k + 1) y0 y1 y2 y3 y4 y5 y6 y7))
  | 0 => ⟨fun _ _ _ _ _ _ _ _ _ _ r h => by simp [fourinhandref14_Set.j0] at h, fun _ _ _ _ _ _ _ _ _ _ _ r h => by simp [fourinhandref14_Set.l0] at h, fun _ _ _ _ _ _ _ _ r h => by simp [fourinhandref14_Set.j2] at h, fun _ _ _ _ _ _ _ _ r h => by simp [fourinhandref14_Set.j3] at h⟩
  | k + 1 => by
    obtain ⟨ih0, ih1, ih2, ih3⟩ := fourinhandref14_Set.mono_l k
    refine ⟨?_, ?_, ?_, ?_⟩
    · intro y0 y1 y2 y3 y4 y5 y6 y7 y8 y9
      unfold fourinhandref14_Set.j0
      repeat' first
      | (with_reducible exact ih0 _ _ _ _ _ _ _ _ _ _)
      | (with_reducible exact ih1 _ _ _ _ _ _ _ _ _ _ _)
      | (with_reducible exact ih2 _ _ _ _ _ _ _ _)
      | (with_reducible exact ih3 _ _ _ _ _ _ _ _)
      | (with_reducible exact fourinhandref08_Wait.mono _ _ _ _ _ _ _)
      | (with_reducible exact fourinhandref12_May.mono _ _)
      | (with_reducible exact LeO.refl _)
      | (with_reducible exact LeO.none _)
      | (with_reducible refine LeO.ite ?_ ?_)
      | (with_reducible refine LeO.bind ?_ (fun _ => ?_))
      | exact ih0 _ _ _ _ _ _ _ _ _ _
      | exact ih1 _ _ _ _ _ _ _ _ _ _ _
      | exact ih2 _ _ _ _ _ _ _ _
      | exact ih3 _ _ _ _ _ _ _ _
      | exact fourinhandref08_Wait.mono _ _ _ _ _ _ _
      | exact fourinhandref12_May.mono _ _
      | exact LeO.none _
      | refine LeO.ite ?_ ?_
      | refine LeO.bind ?_ (fun _ => ?_)
    · intro y0 y1 y2 y3 y4 y5 y6 y7 y8 y9 y10
      unfold fourinhandref14_Set.l0
      repeat' first
      | (with_reducible exact ih0 _ _ _ _ _ _ _ _ _ _)
      | (with_reducible exact ih1 _ _ _ _ _ _ _ _ _ _ _)
      | (with_reducible exact ih2 _ _ _ _ _ _ _ _)
      | (with_reducible exact ih3 _ _ _ _ _ _ _ _)
      | (with_reducible exact fourinhandref08_Wait.mono _ _ _ _ _ _ _)
      | (with_reducible exact fourinhandref12_May.mono _ _)
      | (with_reducible exact LeO.refl _)
      | (with_reducible exact LeO.none _)
      | (with_reducible refine LeO.ite ?_ ?_)
      | (with_reducible refine LeO.bind ?_ (fun _ => ?_))
      | exact ih0 _ _ _ _ _ _ _ _ _ _
      | exact ih1 _ _ _ _ _ _ _ _ _ _ _
      | exact ih2 _ _ _ _ _ _ _ _
      | exact ih3 _ _ _ _ _ _ _ _
      | exact fourinhandref08_Wait.mono _ _ _ _ _ _ _
      | exact fourinhandref12_May.mono _ _
      | exact LeO.none _
      | refine LeO.ite ?_ ?_
      | refine LeO.bind ?_ (fun _ => ?_)
    · intro y0 y1 y2 y3 y4 y5 y6 y7
      unfold fourinhandref14_Set.j2
      repeat' first
      | (with_reducible exact ih0 _ _ _ _ _ _ _ _ _ _)
      | (with_reducible exact ih1 _ _ _ _ _ _ _ _ _ _ _)
      | (with_reducible exact ih2 _ _ _ _ _ _ _ _)
      | (with_reducible exact ih3 _ _ _ _ _ _ _ _)
      | (with_reducible exact fourinhandref08_Wait.mono _ _ _ _ _ _ _)
      | (with_reducible exact fourinhandref12_May.mono _ _)
      | (with_reducible exact LeO.refl _)
      | (with_reducible exact LeO.none _)
      | (with_reducible refine LeO.ite ?_ ?_)
      | (with_reducible refine LeO.bind ?_ (fun _ => ?_))
      | exact ih0 _ _ _ _ _ _ _ _ _ _
      | exact ih1 _ _ _ _ _ _ _ _ _ _ _
      | exact ih2 _ _ _ _ _ _ _ _
      | exact ih3 _ _ _ _ _ _ _ _
      | exact fourinhandref08_Wait.mono _ _ _ _ _ _ _
      | exact fourinhandref12_May.mono _ _
      | exact LeO.none _
      | refine LeO.ite ?_ ?_
      | refine LeO.bind ?_ (fun _ => ?_)
    · intro y0 y1 y2 y3 y4 y5 y6 y7
      unfold fourinhandref14_Set.j3
      repeat' first
      | (with_reducible exact ih0 _ _ _ _ _ _ _ _ _ _)
      | (with_reducible exact ih1 _ _ _ _ _ _ _ _ _ _ _)
      | (with_reducible exact ih2 _ _ _ _ _ _ _ _)
      | (with_reducible exact ih3 _ _ _ _ _ _ _ _)
      | (with_reducible exact fourinhandref08_Wait.mono _ _ _ _ _ _ _)
      | (with_reducible exact fourinhandref12_May.mono _ _)
      | (with_reducible exact LeO.refl _)
      | (with_reducible exact LeO.none _)
      | (with_reducible refine LeO.ite ?_ ?_)
      | (with_reducible refine LeO.bind ?_ (fun _ => ?_))
      | exact ih0 _ _ _ _ _ _ _ _ _ _
      | exact ih1 _ _ _ _ _ _ _ _ _ _ _
      | exact ih2 _ _ _ _ _ _ _ _
      | exact ih3 _ _ _ _ _ _ _ _
      | exact fourinhandref08_Wait.mono _ _ _ _ _ _ _
      | exact fourinhandref12_May.mono _ _
      | exact LeO.none _
      | refine LeO.ite ?_ ?_
      | refine LeO.bind ?_ (fun _ => ?_)
theorem fourinhandref14_Set.mono : ∀ a0 a1 a2 a3 a4 a5 a6 a7 a8 k, LeO (fourinhandref14_Set.f k a0 a1 a2 a3 a4 a5 a6 a7 a8) (fourinhandref14_Set.f (k + 1) a0 a1 a2 a3 a4 a5 a6 a7 a8) := by
  intro a0 a1 a2 a3 a4 a5 a6 a7 a8 k
  obtain ⟨ih0, ih1, ih2, ih3⟩ := fourinhandref14_Set.mono_l k
  unfold fourinhandref14_Set.f
  repeat' first
      | (with_reducible exact ih0 _ _ _ _ _ _ _ _ _ _)
      | (with_reducible exact ih1 _ _ _ _ _ _ _ _ _ _ _)
      | (with_reducible exact ih2 _ _ _ _ _ _ _ _)
      | (with_reducible exact ih3 _ _ _ _ _ _ _ _)
      | (with_reducible exact fourinhandref08_Wait.mono _ _ _ _ _ _ _)
      | (with_reducible exact fourinhandref12_May.mono _ _)
      | (with_reducible exact LeO.refl _)
      | (with_reducible exact LeO.none _)
      | (with_reducible refine LeO.ite ?_ ?_)
      | (with_reducible refine LeO.bind ?_ (fun _ => ?_))
      | exact ih0 _ _ _ _ _ _ _ _ _ _
      | exact ih1 _ _ _ _ _ _ _ _ _ _ _
      | exact ih2 _ _ _ _ _ _ _ _
      | exact ih3 _ _ _ _ _ _ _ _
      | exact fourinhandref08_Wait.mono _ _ _ _ _ _ _
      | exact fourinhandref12_May.mono _ _
      | exact LeO.none _
      | refine LeO.ite ?_ ?_
      | refine LeO.bind ?_ (fun _ => ?_)
set_option maxHeartbeats 8000000 in
set_option maxRecDepth 100000 in
theorem fourinhandref14_Set.calls (k : Nat) (a0_0 : Bool) (a0_1 : Int) (a0_2 : Int) (a0_3 : Int) (a0_4 : Int) (A1 : Option Addr) (c1 : Nat) (l1 : List (S32)) (a2 : Bool) (a3 : Int) (a4 : Int) (r1 : Int) (r2 : Int) (r3 : Int) (w : World) (hr1 : Kd.C k32 w A1 l1.length l1) (hc1 : l1.length ≤ c1) (h : fourinhandref14_Set.f k a0_0 a0_1 a0_2 a0_3 a0_4 l1 a2 a3 a4 = some (r1, r2, r3)) :
    Calls Try.prog 11 #[.agg #[.bool a0_0, .int .i64 a0_1, .int .i64 a0_2, .int .i64 a0_3, .int .i64 a0_4], .slice A1 l1.length c1, .bool a2, .int .i64 a3, .int .i64 a4] w fun e w' => e = .returned (.tuple #[.agg #[.int .i64 r1, .int .i64 r2], .int .i64 r3]) ∧ Below w.heap.size w w' := by
  have hu23 := Try.underlying23
  have hu27 := Try.underlying27
  have HR1 := Aside0.mk hr1
  have HC1 := Aside0.mk hc1
  clear hr1 hc1
  have HB := Aside0.mk (Below.refl w.heap.size w)
  have H : ((fourinhandref08_May.f a0_0 a0_1 a0_2 a0_3 a0_4).bind fun t164 => ((fourinhandref12_May.f k l1).bind fun t165 => (if t164 = true then (if t165 = true then (if a3 < 0 then (fourinhandref14_Set.j0 k l1 a2 a3 a4 true a0_0 a0_1 a0_2 a0_3 a0_4) else (if a3 > 1152921504606846976 then (fourinhandref14_Set.j0 k l1 a2 a3 a4 true a0_0 a0_1 a0_2 a0_3 a0_4) else (if a4 < 1 then (fourinhandref14_Set.j0 k l1 a2 a3 a4 true a0_0 a0_1 a0_2 a0_3 a0_4) else (fourinhandref14_Set.j0 k l1 a2 a3 a4 (decide (a4 > 1099511627776)) a0_0 a0_1 a0_2 a0_3 a0_4)))) else (fourinhandref14_Set.j0 k l1 a2 a3 a4 true a0_0 a0_1 a0_2 a0_3 a0_4)) else (fourinhandref14_Set.j0 k l1 a2 a3 a4 true a0_0 a0_1 a0_2 a0_3 a0_4)))) = some (r1, r2, r3) := h
  clear h
  replace H := Option.bind_eq_some_iff.mp H
  obtain ⟨t164, A60, H⟩ := H
  replace H : ((fourinhandref12_May.f k l1).bind fun t165 => (if t164 = true then (if t165 = true then (if a3 < 0 then (fourinhandref14_Set.j0 k l1 a2 a3 a4 true a0_0 a0_1 a0_2 a0_3 a0_4) else (if a3 > 1152921504606846976 then (fourinhandref14_Set.j0 k l1 a2 a3 a4 true a0_0 a0_1 a0_2 a0_3 a0_4) else (if a4 < 1 then (fourinhandref14_Set.j0 k l1 a2 a3 a4 true a0_0 a0_1 a0_2 a0_3 a0_4) else (fourinhandref14_Set.j0 k l1 a2 a3 a4 (decide (a4 > 1099511627776)) a0_0 a0_1 a0_2 a0_3 a0_4)))) else (fourinhandref14_Set.j0 k l1 a2 a3 a4 true a0_0 a0_1 a0_2 a0_3 a0_4)) else (fourinhandref14_Set.j0 k l1 a2 a3 a4 true a0_0 a0_1 a0_2 a0_3 a0_4))) = some (r1, r2, r3) := H
  have A6 := Aside0.mk A60
  clear A60
  replace H := Option.bind_eq_some_iff.mp H
  obtain ⟨t165, A70, H⟩ := H
  replace H : (if t164 = true then (if t165 = true then (if a3 < 0 then (fourinhandref14_Set.j0 k l1 a2 a3 a4 true a0_0 a0_1 a0_2 a0_3 a0_4) else (if a3 > 1152921504606846976 then (fourinhandref14_Set.j0 k l1 a2 a3 a4 true a0_0 a0_1 a0_2 a0_3 a0_4) else (if a4 < 1 then (fourinhandref14_Set.j0 k l1 a2 a3 a4 true a0_0 a0_1 a0_2 a0_3 a0_4) else (fourinhandref14_Set.j0 k l1 a2 a3 a4 (decide (a4 > 1099511627776)) a0_0 a0_1 a0_2 a0_3 a0_4)))) else (fourinhandref14_Set.j0 k l1 a2 a3 a4 true a0_0 a0_1 a0_2 a0_3 a0_4)) else (fourinhandref14_Set.j0 k l1 a2 a3 a4 true a0_0 a0_1 a0_2 a0_3 a0_4)) = some (r1, r2, r3) := H
  have A7 := Aside0.mk A70
  clear A70
  have HC8 := Aside0.mk H
  clear H
  go_enter Try.func11, Try.ntmps11
  go_upto_region 3 with (first | ((with_reducible refine gate_dst (N := 5) rfl ?_); refine box_event ?hg (N := 5) ?hd (cs := #[.bool a0_0, .int .i64 a0_1, .int .i64 a0_2, .int .i64 a0_3, .int .i64 a0_4]) (t := 23) ?hr ?_; (case hd => rfl); (case hg => rfl); (case hr => first | (go_simp; done) | (go_simp; rfl)); intro gb162 hg w9 hbox hb; have n0_ := Aside0.mk (below_step (by repeat (first | (with_reducible first | exact HB.out | apply below_alloc | apply pw_below_drewN | apply below_drew1) | exact HB.out)) hb); have n1_ := Aside0.mk (hbox); have n2_ := Aside0.mk ((by rw [hg]; exact (below_size (by repeat (first | (with_reducible first | exact HB.out | apply below_alloc | apply pw_below_drewN | apply below_drew1) | exact HB.out))) : w.heap.size ≤ gb162)); have n3_ := Aside0.mk ((by rw [hg]; exact (below_size (by repeat (first | (with_reducible first | exact HB.out | apply below_alloc | apply pw_below_drewN | apply below_drew1) | exact HB.out))) : w.heap.size ≤ gb162)); clear HB; have HB := n0_; have BK162 := n1_; have GW162 := n2_; have GE162 := n3_; clear n0_ n1_ n2_ n3_; clear hb hbox hg) | ((with_reducible refine gate_dst (N := 10) rfl ?_); refine box_event ?hg (N := 10) ?hd (cs := #[.int .i64 0, .int .i64 0]) (t := 27) ?hr ?_; (case hd => rfl); (case hg => rfl); (case hr => first | (go_simp; done) | (go_simp; rfl)); intro gb163 hg w10 hbox hb; have n0_ := Aside0.mk (blk_below (g := gb162) (o := .cells #[.bool a0_0, .int .i64 a0_1, .int .i64 a0_2, .int .i64 a0_3, .int .i64 a0_4] 23 (0, 0)) (by (with_reducible repeat (first | refine blk_drewN ?_ _ | refine blk_drew ?_ | refine blk_alloc ?_ _)); exact BK162.out) hb); have n1_ := Aside0.mk (below_step (by repeat (first | (with_reducible first | exact HB.out | apply below_alloc | apply pw_below_drewN | apply below_drew1 | refine below_set ?_ GE162.out) | exact HB.out)) hb); have n2_ := Aside0.mk (hbox); have n3_ := Aside0.mk ((by rw [hg]; exact (below_size (by repeat (first | (with_reducible first | exact HB.out | apply below_alloc | apply pw_below_drewN | apply below_drew1 | refine below_set ?_ GE162.out) | exact HB.out))) : w.heap.size ≤ gb163)); have n4_ := Aside0.mk ((by rw [hg]; exact (below_size (by repeat (first | (with_reducible first | exact HB.out | apply below_alloc | apply pw_below_drewN | apply below_drew1 | refine below_set ?_ GE162.out) | exact HB.out))) : w.heap.size ≤ gb163)); have n5_ := Aside0.mk ((by rw [hg]; exact Nat.ne_of_lt (blk_lt (g := gb162) (o := .cells #[.bool a0_0, .int .i64 a0_1, .int .i64 a0_2, .int .i64 a0_3, .int .i64 a0_4] 23 (0, 0)) (by (with_reducible repeat (first | refine blk_drewN ?_ _ | refine blk_drew ?_ | refine blk_alloc ?_ _)); exact BK162.out)) : gb162 ≠ gb163)); have n6_ := Aside0.mk ((by rw [hg]; exact Nat.ne_of_gt (blk_lt (g := gb162) (o := .cells #[.bool a0_0, .int .i64 a0_1, .int .i64 a0_2, .int .i64 a0_3, .int .i64 a0_4] 23 (0, 0)) (by (with_reducible repeat (first | refine blk_drewN ?_ _ | refine blk_drew ?_ | refine blk_alloc ?_ _)); exact BK162.out)) : gb163 ≠ gb162)); clear BK162; clear HB; have BK162 := n0_; have HB := n1_; have BK163 := n2_; have GW163 := n3_; have GE163 := n4_; have NB162_163 := n5_; have NB163_162 := n6_; clear n0_ n1_ n2_ n3_ n4_ n5_ n6_; clear hb hbox hg; have hnb11 := NB162_163.out; have hnc11 := NB163_162.out; have hcz12_0 : w10.cell? ⟨gb162, 0, none⟩ = some (.bool a0_0) := (blk_cell BK162.out 0).trans rfl; have hcz12_1 : w10.cell? ⟨gb162, 1, none⟩ = some (.int .i64 a0_1) := (blk_cell BK162.out 1).trans rfl; have hcz12_2 : w10.cell? ⟨gb162, 2, none⟩ = some (.int .i64 a0_2) := (blk_cell BK162.out 2).trans rfl; have hcz12_3 : w10.cell? ⟨gb162, 3, none⟩ = some (.int .i64 a0_3) := (blk_cell BK162.out 3).trans rfl; have hcz12_4 : w10.cell? ⟨gb162, 4, none⟩ = some (.int .i64 a0_4) := (blk_cell BK162.out 4).trans rfl; have hfz12_0 := blk_frozen BK162.out 0; have hfz12_1 := blk_frozen BK162.out 1; have hfz12_2 := blk_frozen BK162.out 2; have hfz12_3 := blk_frozen BK162.out 3; have hfz12_4 := blk_frozen BK162.out 4) | ((with_reducible refine gate_callee (f := 22) rfl ?_); refine goesL_ (some 19) rfl rfl Try.func22 (by kernel_rfl) rfl #[.agg #[.bool a0_0, .int .i64 a0_1, .int .i64 a0_2, .int .i64 a0_3, .int .i64 a0_4]] rfl (by (try simp only [List.map_toArray, List.map_cons, List.map_nil]); first | done | rfl | (simp only [List.length_drop, List.length_take]; rfl)) ?_; (with_reducible refine (fourinhandref08_May.calls a0_0 a0_1 a0_2 a0_3 a0_4 t164 _ A6.out).mono ?_); rintro e w13 ⟨rfl, hb⟩; refine ⟨_, rfl, ?_⟩; have n0_ := Aside0.mk (blk_below (g := gb162) (o := .cells #[.bool a0_0, .int .i64 a0_1, .int .i64 a0_2, .int .i64 a0_3, .int .i64 a0_4] 23 (0, 0)) (by (with_reducible repeat (first | refine blk_drewN ?_ _ | refine blk_drew ?_ | refine blk_alloc ?_ _)); exact BK162.out) hb); have n1_ := Aside0.mk (blk_below (g := gb163) (o := .cells #[.int .i64 0, .int .i64 0] 27 (0, 0)) (by (with_reducible repeat (first | refine blk_drewN ?_ _ | refine blk_drew ?_ | refine blk_alloc ?_ _)); exact BK163.out) hb); have n2_ := Aside0.mk (below_step (by repeat (first | (with_reducible first | exact HB.out | apply below_alloc | apply pw_below_drewN | apply below_drew1 | refine below_set ?_ GE162.out | refine below_set ?_ GE163.out) | exact HB.out)) hb); clear BK162; clear BK163; clear HB; have BK162 := n0_; have BK163 := n1_; have HB := n2_; clear n0_ n1_ n2_; (try clear hb); (try clear hb2); (try clear hk); (try clear hi)) | ((with_reducible refine gate_callee (f := 23) rfl ?_); refine goesL_ (some 21) rfl rfl Try.func23 (by kernel_rfl) rfl #[.slice A1 l1.length c1] rfl (by (try simp only [List.map_toArray, List.map_cons, List.map_nil]); first | done | rfl | (simp only [List.length_drop, List.length_take]; rfl)) ?_; (with_reducible refine (fourinhandref12_May.calls k _ _ l1 t165 _ ?side1 ?side2 A7.out).mono ?_); (case side1 => repeat (first | exact (Kd.C_below HR1.out HB.out) | (with_reducible refine Kd.C_alloc ?_ _) | (with_reducible refine Kd.C_drewN ?_ _) | (with_reducible refine Kd.C_drew ?_))); (case side2 => exact HC1.out); rintro e w14 ⟨rfl, hb⟩; refine ⟨_, rfl, ?_⟩; have n0_ := Aside0.mk (blk_below (g := gb162) (o := .cells #[.bool a0_0, .int .i64 a0_1, .int .i64 a0_2, .int .i64 a0_3, .int .i64 a0_4] 23 (0, 0)) (by (with_reducible repeat (first | refine blk_drewN ?_ _ | refine blk_drew ?_ | refine blk_alloc ?_ _)); exact BK162.out) hb); have n1_ := Aside0.mk (blk_below (g := gb163) (o := .cells #[.int .i64 0, .int .i64 0] 27 (0, 0)) (by (with_reducible repeat (first | refine blk_drewN ?_ _ | refine blk_drew ?_ | refine blk_alloc ?_ _)); exact BK163.out) hb); have n2_ := Aside0.mk (below_step (by repeat (first | (with_reducible first | exact HB.out | apply below_alloc | apply pw_below_drewN | apply below_drew1 | refine below_set ?_ GE162.out | refine below_set ?_ GE163.out) | exact HB.out)) hb); clear BK162; clear BK163; clear HB; have BK162 := n0_; have BK163 := n1_; have HB := n2_; clear n0_ n1_ n2_; (try clear hb); (try clear hb2); (try clear hk); (try clear hi)))
  (try simp only [Act.put, List.setIfInBounds_toArray, List.set_cons_zero, List.set_cons_succ])
  go_cut [43] (fun v43 wc => ∃ (kq : Nat) (x43_7 : Bool), v43 = .bool x43_7 ∧ Aside0 (fourinhandref14_Set.j0 kq l1 a2 a3 a4 x43_7 a0_0 a0_1 a0_2 a0_3 a0_4 = some (r1, r2, r3)) ∧ Aside0 (kq ≤ k) ∧ Aside0 (wc.heap[gb162]? = some (.cells #[.bool a0_0, .int .i64 a0_1, .int .i64 a0_2, .int .i64 a0_3, .int .i64 a0_4] 23 (0, 0))) ∧ Aside0 (wc.heap[gb163]? = some (.cells #[.int .i64 0, .int .i64 0] 27 (0, 0))) ∧ Aside0 (Below w.heap.size w wc))
  case first =>
    have H := HC8.out
    clear HC8
    by_cases c15 : t164 = true
    · subst c15
      have H1 : (if t165 = true then (if a3 < 0 then (fourinhandref14_Set.j0 k l1 a2 a3 a4 true a0_0 a0_1 a0_2 a0_3 a0_4) else (if a3 > 1152921504606846976 then (fourinhandref14_Set.j0 k l1 a2 a3 a4 true a0_0 a0_1 a0_2 a0_3 a0_4) else (if a4 < 1 then (fourinhandref14_Set.j0 k l1 a2 a3 a4 true a0_0 a0_1 a0_2 a0_3 a0_4) else (fourinhandref14_Set.j0 k l1 a2 a3 a4 (decide (a4 > 1099511627776)) a0_0 a0_1 a0_2 a0_3 a0_4)))) else (fourinhandref14_Set.j0 k l1 a2 a3 a4 true a0_0 a0_1 a0_2 a0_3 a0_4)) = some (r1, r2, r3) := by rw [if_pos rfl] at H; exact H
      clear H
      have H := H1
      clear H1
      by_cases c16 : t165 = true
      · subst c16
        have H1 : (if a3 < 0 then (fourinhandref14_Set.j0 k l1 a2 a3 a4 true a0_0 a0_1 a0_2 a0_3 a0_4) else (if a3 > 1152921504606846976 then (fourinhandref14_Set.j0 k l1 a2 a3 a4 true a0_0 a0_1 a0_2 a0_3 a0_4) else (if a4 < 1 then (fourinhandref14_Set.j0 k l1 a2 a3 a4 true a0_0 a0_1 a0_2 a0_3 a0_4) else (fourinhandref14_Set.j0 k l1 a2 a3 a4 (decide (a4 > 1099511627776)) a0_0 a0_1 a0_2 a0_3 a0_4)))) = some (r1, r2, r3) := by rw [if_pos rfl] at H; exact H
        clear H
        have H := H1
        clear H1
        by_cases c17 : a3 < 0
        · rw [if_pos c17] at H
          have c17b0 : decide (a3 < 0) = true := decide_eq_true c17
          clear c17
          (first | rw [c17b0] | (simp only [i64_w, i32_w]; rw [c17b0]) | skip)
          have H' := Aside0.mk H
          clear H
          go_wp2
          go_meet
          case rel => exact ⟨_, (true), (by first | rfl | (simp; done) | (simp [*]; done)), H', ⟨by first | omega | exact Nat.le_refl _⟩, ⟨by (with_reducible repeat (first | refine blk_drewN ?_ _ | refine blk_drew ?_ | refine blk_alloc ?_ _)); exact BK162.out⟩, ⟨by (with_reducible repeat (first | refine blk_drewN ?_ _ | refine blk_drew ?_ | refine blk_alloc ?_ _)); exact BK163.out⟩, ⟨by repeat (first | (with_reducible first | exact HB.out | apply below_alloc | apply pw_below_drewN | apply below_drew1 | refine below_set ?_ GE162.out | refine below_set ?_ GE163.out) | exact HB.out)⟩⟩
        · rw [if_neg c17] at H
          have c17b0 : decide (a3 < 0) = false := decide_eq_false c17
          clear c17
          (first | rw [c17b0] | (simp only [i64_w, i32_w]; rw [c17b0]) | skip)
          by_cases c18 : a3 > 1152921504606846976
          · rw [if_pos c18] at H
            have c18b0 : decide (1152921504606846976 < a3) = true := decide_eq_true c18
            clear c18
            have H' := Aside0.mk H
            clear H
            go_wp2
            go_meet
            case rel => exact ⟨_, (true), (by first | rfl | (simp; done) | (simp [*]; done)), H', ⟨by first | omega | exact Nat.le_refl _⟩, ⟨by (with_reducible repeat (first | refine blk_drewN ?_ _ | refine blk_drew ?_ | refine blk_alloc ?_ _)); exact BK162.out⟩, ⟨by (with_reducible repeat (first | refine blk_drewN ?_ _ | refine blk_drew ?_ | refine blk_alloc ?_ _)); exact BK163.out⟩, ⟨by repeat (first | (with_reducible first | exact HB.out | apply below_alloc | apply pw_below_drewN | apply below_drew1 | refine below_set ?_ GE162.out | refine below_set ?_ GE163.out) | exact HB.out)⟩⟩
          · rw [if_neg c18] at H
            have c18b0 : decide (1152921504606846976 < a3) = false := decide_eq_false c18
            clear c18
            by_cases c19 : a4 < 1
            · rw [if_pos c19] at H
              have c19b0 : decide (a4 < 1) = true := decide_eq_true c19
              clear c19
              have H' := Aside0.mk H
              clear H
              go_wp2
              go_meet
              case rel => exact ⟨_, (true), (by first | rfl | (simp; done) | (simp [*]; done)), H', ⟨by first | omega | exact Nat.le_refl _⟩, ⟨by (with_reducible repeat (first | refine blk_drewN ?_ _ | refine blk_drew ?_ | refine blk_alloc ?_ _)); exact BK162.out⟩, ⟨by (with_reducible repeat (first | refine blk_drewN ?_ _ | refine blk_drew ?_ | refine blk_alloc ?_ _)); exact BK163.out⟩, ⟨by repeat (first | (with_reducible first | exact HB.out | apply below_alloc | apply pw_below_drewN | apply below_drew1 | refine below_set ?_ GE162.out | refine below_set ?_ GE163.out) | exact HB.out)⟩⟩
            · rw [if_neg c19] at H
              have c19b0 : decide (a4 < 1) = false := decide_eq_false c19
              clear c19
              have H' := Aside0.mk H
              clear H
              go_wp2
              go_meet
              case rel => exact ⟨_, (decide (a4 > 1099511627776)), (by first | rfl | (simp; done) | (simp [*]; done)), H', ⟨by first | omega | exact Nat.le_refl _⟩, ⟨by (with_reducible repeat (first | refine blk_drewN ?_ _ | refine blk_drew ?_ | refine blk_alloc ?_ _)); exact BK162.out⟩, ⟨by (with_reducible repeat (first | refine blk_drewN ?_ _ | refine blk_drew ?_ | refine blk_alloc ?_ _)); exact BK163.out⟩, ⟨by repeat (first | (with_reducible first | exact HB.out | apply below_alloc | apply pw_below_drewN | apply below_drew1 | refine below_set ?_ GE162.out | refine below_set ?_ GE163.out) | exact HB.out)⟩⟩
      · replace c16 := Bool.eq_false_iff.mpr c16
        subst c16
        have H1 : (fourinhandref14_Set.j0 k l1 a2 a3 a4 true a0_0 a0_1 a0_2 a0_3 a0_4) = some (r1, r2, r3) := by rw [if_neg (show ¬ (false = true) by decide)] at H; exact H
        clear H
        have H := H1
        clear H1
        have H' := Aside0.mk H
        clear H
        go_wp2
        go_meet
        case rel => exact ⟨_, (true), (by first | rfl | (simp; done) | (simp [*]; done)), H', ⟨by first | omega | exact Nat.le_refl _⟩, ⟨by (with_reducible repeat (first | refine blk_drewN ?_ _ | refine blk_drew ?_ | refine blk_alloc ?_ _)); exact BK162.out⟩, ⟨by (with_reducible repeat (first | refine blk_drewN ?_ _ | refine blk_drew ?_ | refine blk_alloc ?_ _)); exact BK163.out⟩, ⟨by repeat (first | (with_reducible first | exact HB.out | apply below_alloc | apply pw_below_drewN | apply below_drew1 | refine below_set ?_ GE162.out | refine below_set ?_ GE163.out) | exact HB.out)⟩⟩
    · replace c15 := Bool.eq_false_iff.mpr c15
      subst c15
      have H1 : (fourinhandref14_Set.j0 k l1 a2 a3 a4 true a0_0 a0_1 a0_2 a0_3 a0_4) = some (r1, r2, r3) := by rw [if_neg (show ¬ (false = true) by decide)] at H; exact H
      clear H
      have H := H1
      clear H1
      have H' := Aside0.mk H
      clear H
      go_wp2
      go_meet
      case rel => exact ⟨_, (true), (by first | rfl | (simp; done) | (simp [*]; done)), H', ⟨by first | omega | exact Nat.le_refl _⟩, ⟨by (with_reducible repeat (first | refine blk_drewN ?_ _ | refine blk_drew ?_ | refine blk_alloc ?_ _)); exact BK162.out⟩, ⟨by (with_reducible repeat (first | refine blk_drewN ?_ _ | refine blk_drew ?_ | refine blk_alloc ?_ _)); exact BK163.out⟩, ⟨by repeat (first | (with_reducible first | exact HB.out | apply below_alloc | apply pw_below_drewN | apply below_drew1 | refine below_set ?_ GE162.out | refine below_set ?_ GE163.out) | exact HB.out)⟩⟩
  case rest =>
    clear HC8
    try clear c1
    try clear c2
    try clear p2
    try clear c11
    try clear c15
    try clear c16
    try clear c17
    try clear c17b0
    try clear c18
    try clear c18b0
    try clear c19
    try clear c19b0
    try clear hcz12_0
    try clear hcz12_1
    try clear hcz12_2
    try clear hcz12_3
    try clear hcz12_4
    try clear hfz12_0
    try clear hfz12_1
    try clear hfz12_2
    try clear hfz12_3
    try clear hfz12_4
    obtain ⟨kq, x43_7, rfl, HA, HJ7, BK162, BK163, HB⟩ := hcut
    cases kq with
    | zero => exact absurd HA.out (by simp [fourinhandref14_Set.j0])
    | succ kj7 =>
      have H := HA.out
      clear HA
      simp only [fourinhandref14_Set.j0] at H
      by_cases c20 : x43_7 = true
      · subst c20
        have H1 : (some (0, 0, 1)) = some (r1, r2, r3) := by rw [if_pos rfl] at H; exact H
        clear H
        have H := H1
        clear H1
        simp only [Option.some.injEq, Prod.mk.injEq] at H
        obtain ⟨rfl, rfl, rfl⟩ := H
        have hnb21 := NB163_162.out
        have hnc21 := NB162_163.out
        have hcz22_0 : wc.cell? ⟨gb163, 0, none⟩ = some (.int .i64 0) := (blk_cell BK163.out 0).trans rfl
        have hcz22_1 : wc.cell? ⟨gb163, 1, none⟩ = some (.int .i64 0) := (blk_cell BK163.out 1).trans rfl
        have hfz22_0 := blk_frozen BK163.out 0
        have hfz22_1 := blk_frozen BK163.out 1
        go_wp2
        refine bodyPost_ret (results_ct rfl _ _ gb163 27 #[.int .i64 0, .int .i64 0] (0, 0) _ rfl (by (with_reducible repeat (first | refine blk_drewN ?_ _ | refine blk_drew ?_ | refine blk_alloc ?_ _)); refine blk_put (cs := #[.int .i64 0, .int .i64 0]) ?_ 1 _ rfl; (with_reducible repeat (first | refine blk_drewN ?_ _ | refine blk_drew ?_ | refine blk_alloc ?_ _)); refine blk_put (cs := #[.int .i64 0, .int .i64 0]) ?_ 0 _ rfl; (with_reducible repeat (first | refine blk_drewN ?_ _ | refine blk_drew ?_ | refine blk_alloc ?_ _)); exact BK163.out) Try.underlying27 rfl (by kernel_rfl)) rfl ?_
        exact ⟨by first | rfl | (simp [errW_none, errW_some] <;> rfl) | (simp [*, errW_none, errW_some] <;> rfl), by repeat (first | (with_reducible first | exact HB.out | apply below_alloc | apply pw_below_drewN | apply below_drew1 | refine below_set ?_ GE162.out | refine below_set ?_ GE163.out) | exact HB.out)⟩
      · replace c20 := Bool.eq_false_iff.mpr c20
        subst c20
        have H1 : (fourinhandref14_Set.l0 kj7 l1 a2 a3 a4 (-1) 0 a0_0 a0_1 a0_2 a0_3 a0_4) = some (r1, r2, r3) := by rw [if_neg (show ¬ (false = true) by decide)] at H; exact H
        clear H
        have H := H1
        clear H1
        have H' := Aside0.mk H
        clear H
        go_wp2
        go_loopg [14, 15] kj7 (fun kq v14 v15 w' => ∃ (x14_2 : Int) (x15_2 : Int), v14 = .int .i64 x14_2 ∧ v15 = .int .i64 x15_2 ∧ Aside0 (fourinhandref14_Set.l0 kq l1 a2 a3 a4 x14_2 x15_2 a0_0 a0_1 a0_2 a0_3 a0_4 = some (r1, r2, r3)) ∧ Aside0 (kq ≤ kj7) ∧ Aside0 (w'.heap[gb162]? = some (.cells #[.bool a0_0, .int .i64 a0_1, .int .i64 a0_2, .int .i64 a0_3, .int .i64 a0_4] 23 (0, 0))) ∧ Aside0 (w'.heap[gb163]? = some (.cells #[.int .i64 0, .int .i64 0] 27 (0, 0))) ∧ Aside0 (Below w.heap.size w w'))
        case atStart => exact ⟨((-1)), (0), (by first | rfl | (simp; done) | (simp [*]; done)), (by first | rfl | (simp; done) | (simp [*]; done)), H', ⟨Nat.le_refl _⟩, ⟨by (with_reducible repeat (first | refine blk_drewN ?_ _ | refine blk_drew ?_ | refine blk_alloc ?_ _)); exact BK162.out⟩, ⟨by (with_reducible repeat (first | refine blk_drewN ?_ _ | refine blk_drew ?_ | refine blk_alloc ?_ _)); exact BK163.out⟩, ⟨by repeat (first | (with_reducible first | exact HB.out | apply below_alloc | apply pw_below_drewN | apply below_drew1 | refine below_set ?_ GE162.out | refine below_set ?_ GE163.out) | exact HB.out)⟩⟩
        case round =>
          clear H'
          try clear c1
          try clear c2
          try clear p2
          try clear c11
          try clear c15
          try clear c16
          try clear c17
          try clear c17b0
          try clear c18
          try clear c18b0
          try clear c19
          try clear c19b0
          try clear c20
          try clear c21
          try clear c22
          try clear hcz12_0
          try clear hcz12_1
          try clear hcz12_2
          try clear hcz12_3
          try clear hcz12_4
          try clear hcz22_0
          try clear hcz22_1
          try clear hfz12_0
          try clear hfz12_1
          try clear hfz12_2
          try clear hfz12_3
          try clear hfz12_4
          try clear hfz22_0
          try clear hfz22_1
          try clear p2
          obtain ⟨x14_2, x15_2, rfl, rfl, HA, HK2, BK162, BK163, HB⟩ := hrel
          cases gk with
          | zero => exact absurd HA.out (by simp [fourinhandref14_Set.l0])
          | succ k2 =>
            have H := HA.out
            clear HA
            simp only [fourinhandref14_Set.l0] at H
            by_cases c23 : x15_2 < (l1.length : Int)
            · rw [if_pos c23] at H
              have c23b0 : decide (x15_2 < (l1.length : Int)) = true := decide_eq_true c23
              clear c23
              by_cases c24 : 0 ≤ x15_2
              · rw [if_pos c24] at H
                have c24b0 : decide (0 ≤ x15_2) = true := decide_eq_true c24
                clear c24
                obtain ⟨bq25, hbq25⟩ : ∃ b_ : Bool, b_ = ((rd_T32 l1 x15_2).f5) := ⟨_, rfl⟩
                replace H : (if (bq25 = true) then (fourinhandref14_Set.l0 k2 l1 a2 a3 a4 x14_2 (wrap64 (x15_2 + 1)) a0_0 a0_1 a0_2 a0_3 a0_4) else (if ((rd_T32 l1 x15_2).f6 = true) then (fourinhandref14_Set.l0 k2 l1 a2 a3 a4 x14_2 (wrap64 (x15_2 + 1)) a0_0 a0_1 a0_2 a0_3 a0_4) else (if ((rd_T32 l1 x15_2).f3) > x14_2 then (fourinhandref14_Set.l0 k2 l1 a2 a3 a4 ((rd_T32 l1 x15_2).f3) (wrap64 (x15_2 + 1)) a0_0 a0_1 a0_2 a0_3 a0_4) else (fourinhandref14_Set.l0 k2 l1 a2 a3 a4 x14_2 (wrap64 (x15_2 + 1)) a0_0 a0_1 a0_2 a0_3 a0_4)))) = some (r1, r2, r3) := by rw [← hbq25] at H; exact H
                have Nbq25 := Aside0.mk hbq25
                clear hbq25
                by_cases c26 : (bq25 = true)
                · subst c26
                  have H1 : (fourinhandref14_Set.l0 k2 l1 a2 a3 a4 x14_2 (wrap64 (x15_2 + 1)) a0_0 a0_1 a0_2 a0_3 a0_4) = some (r1, r2, r3) := by rw [if_pos rfl] at H; exact H
                  clear H
                  have H := H1
                  clear H1
                  have H' := Aside0.mk H
                  clear H
                  have p166 : 0 ≤ (x15_2 : Int) := of_decide_eq_true (by first | (with_reducible assumption) | assumption)
                  have q166 : x15_2 < (l1.length : Int) := of_decide_eq_true (by first | (with_reducible assumption) | assumption)
                  obtain ⟨ad166, e166, hx166_0, hx166_1, hx166_2, hx166_3, hx166_4, hx166_5, hx166_6, hx166_7, hx166_8⟩ := at_T32 HR1.out x15_2 p166 q166
                  (try rw [← Nbq25.out] at hx166_5)
                  (try rw [← Nbq25.out] at hx166_6)
                  cases e166
                  replace hx166_0 := (HB.out.cell (World.block_lt_of_cell? w _ hx166_0)).trans hx166_0
                  replace hx166_1 := (HB.out.cell (World.block_lt_of_cell? w _ hx166_1)).trans hx166_1
                  replace hx166_2 := (HB.out.cell (World.block_lt_of_cell? w _ hx166_2)).trans hx166_2
                  replace hx166_3 := (HB.out.cell (World.block_lt_of_cell? w _ hx166_3)).trans hx166_3
                  replace hx166_4 := (HB.out.cell (World.block_lt_of_cell? w _ hx166_4)).trans hx166_4
                  replace hx166_5 := (HB.out.cell (World.block_lt_of_cell? w _ hx166_5)).trans hx166_5
                  replace hx166_6 := (HB.out.cell (World.block_lt_of_cell? w _ hx166_6)).trans hx166_6
                  replace hx166_7 := (HB.out.cell (World.block_lt_of_cell? w _ hx166_7)).trans hx166_7
                  replace hx166_8 := (HB.out.cell (World.block_lt_of_cell? w _ hx166_8)).trans hx166_8
                  replace p166 := eq_true p166
                  replace q166 := eq_true q166
                  go_wp2
                  go_roundg k2
                  case measure => have := HJ7.out; have := HK2.out; omega
                  case rel => exact ⟨(x14_2), (wrap64 (x15_2 + 1)), (by first | rfl | (simp; done) | (simp [*]; done)), (by first | rfl | (simp; done) | (simp [*]; done)), H', ⟨by have := HJ7.out; have := HK2.out; omega⟩, ⟨by (with_reducible repeat (first | refine blk_drewN ?_ _ | refine blk_drew ?_ | refine blk_alloc ?_ _)); exact BK162.out⟩, ⟨by (with_reducible repeat (first | refine blk_drewN ?_ _ | refine blk_drew ?_ | refine blk_alloc ?_ _)); exact BK163.out⟩, ⟨by repeat (first | (with_reducible first | exact HB.out | apply below_alloc | apply pw_below_drewN | apply below_drew1 | refine below_set ?_ GE162.out | refine below_set ?_ GE163.out) | exact HB.out)⟩⟩
                · replace c26 := Bool.eq_false_iff.mpr c26
                  subst c26
                  have H1 : (if ((rd_T32 l1 x15_2).f6 = true) then (fourinhandref14_Set.l0 k2 l1 a2 a3 a4 x14_2 (wrap64 (x15_2 + 1)) a0_0 a0_1 a0_2 a0_3 a0_4) else (if ((rd_T32 l1 x15_2).f3) > x14_2 then (fourinhandref14_Set.l0 k2 l1 a2 a3 a4 ((rd_T32 l1 x15_2).f3) (wrap64 (x15_2 + 1)) a0_0 a0_1 a0_2 a0_3 a0_4) else (fourinhandref14_Set.l0 k2 l1 a2 a3 a4 x14_2 (wrap64 (x15_2 + 1)) a0_0 a0_1 a0_2 a0_3 a0_4))) = some (r1, r2, r3) := by rw [if_neg (show ¬ (false = true) by decide)] at H; exact H
                  clear H
                  have H := H1
                  clear H1
                  obtain ⟨bq27, hbq27⟩ : ∃ b_ : Bool, b_ = ((rd_T32 l1 x15_2).f6) := ⟨_, rfl⟩
                  replace H : (if (bq27 = true) then (fourinhandref14_Set.l0 k2 l1 a2 a3 a4 x14_2 (wrap64 (x15_2 + 1)) a0_0 a0_1 a0_2 a0_3 a0_4) else (if ((rd_T32 l1 x15_2).f3) > x14_2 then (fourinhandref14_Set.l0 k2 l1 a2 a3 a4 ((rd_T32 l1 x15_2).f3) (wrap64 (x15_2 + 1)) a0_0 a0_1 a0_2 a0_3 a0_4) else (fourinhandref14_Set.l0 k2 l1 a2 a3 a4 x14_2 (wrap64 (x15_2 + 1)) a0_0 a0_1 a0_2 a0_3 a0_4))) = some (r1, r2, r3) := by rw [← hbq27] at H; exact H
                  have Nbq27 := Aside0.mk hbq27
                  clear hbq27
                  by_cases c28 : (bq27 = true)
                  · subst c28
                    have H1 : (fourinhandref14_Set.l0 k2 l1 a2 a3 a4 x14_2 (wrap64 (x15_2 + 1)) a0_0 a0_1 a0_2 a0_3 a0_4) = some (r1, r2, r3) := by rw [if_pos rfl] at H; exact H
                    clear H
                    have H := H1
                    clear H1
                    have H' := Aside0.mk H
                    clear H
                    have p166 : 0 ≤ (x15_2 : Int) := of_decide_eq_true (by first | (with_reducible assumption) | assumption)
                    have q166 : x15_2 < (l1.length : Int) := of_decide_eq_true (by first | (with_reducible assumption) | assumption)
                    obtain ⟨ad166, e166, hx166_0, hx166_1, hx166_2, hx166_3, hx166_4, hx166_5, hx166_6, hx166_7, hx166_8⟩ := at_T32 HR1.out x15_2 p166 q166
                    (try rw [← Nbq25.out] at hx166_5)
                    (try rw [← Nbq27.out] at hx166_5)
                    (try rw [← Nbq25.out] at hx166_6)
                    (try rw [← Nbq27.out] at hx166_6)
                    cases e166
                    replace hx166_0 := (HB.out.cell (World.block_lt_of_cell? w _ hx166_0)).trans hx166_0
                    replace hx166_1 := (HB.out.cell (World.block_lt_of_cell? w _ hx166_1)).trans hx166_1
                    replace hx166_2 := (HB.out.cell (World.block_lt_of_cell? w _ hx166_2)).trans hx166_2
                    replace hx166_3 := (HB.out.cell (World.block_lt_of_cell? w _ hx166_3)).trans hx166_3
                    replace hx166_4 := (HB.out.cell (World.block_lt_of_cell? w _ hx166_4)).trans hx166_4
                    replace hx166_5 := (HB.out.cell (World.block_lt_of_cell? w _ hx166_5)).trans hx166_5
                    replace hx166_6 := (HB.out.cell (World.block_lt_of_cell? w _ hx166_6)).trans hx166_6
                    replace hx166_7 := (HB.out.cell (World.block_lt_of_cell? w _ hx166_7)).trans hx166_7
                    replace hx166_8 := (HB.out.cell (World.block_lt_of_cell? w _ hx166_8)).trans hx166_8
                    replace p166 := eq_true p166
                    replace q166 := eq_true q166
                    have p167 : 0 ≤ (x15_2 : Int) := of_decide_eq_true (by first | (with_reducible assumption) | assumption)
                    have q167 : x15_2 < (l1.length : Int) := of_decide_eq_true (by first | (with_reducible assumption) | assumption)
                    obtain ⟨ad167, e167, hx167_0, hx167_1, hx167_2, hx167_3, hx167_4, hx167_5, hx167_6, hx167_7, hx167_8⟩ := at_T32 HR1.out x15_2 p167 q167
                    (try rw [← Nbq25.out] at hx167_5)
                    (try rw [← Nbq27.out] at hx167_5)
                    (try rw [← Nbq25.out] at hx167_6)
                    (try rw [← Nbq27.out] at hx167_6)
                    obtain rfl : ad166 = ad167 := (by injection e167)
                    replace hx167_0 := (HB.out.cell (World.block_lt_of_cell? w _ hx167_0)).trans hx167_0
                    replace hx167_1 := (HB.out.cell (World.block_lt_of_cell? w _ hx167_1)).trans hx167_1
                    replace hx167_2 := (HB.out.cell (World.block_lt_of_cell? w _ hx167_2)).trans hx167_2
                    replace hx167_3 := (HB.out.cell (World.block_lt_of_cell? w _ hx167_3)).trans hx167_3
                    replace hx167_4 := (HB.out.cell (World.block_lt_of_cell? w _ hx167_4)).trans hx167_4
                    replace hx167_5 := (HB.out.cell (World.block_lt_of_cell? w _ hx167_5)).trans hx167_5
                    replace hx167_6 := (HB.out.cell (World.block_lt_of_cell? w _ hx167_6)).trans hx167_6
                    replace hx167_7 := (HB.out.cell (World.block_lt_of_cell? w _ hx167_7)).trans hx167_7
                    replace hx167_8 := (HB.out.cell (World.block_lt_of_cell? w _ hx167_8)).trans hx167_8
                    replace p167 := eq_true p167
                    replace q167 := eq_true q167
                    go_wp2
                    go_roundg k2
                    case measure => have := HJ7.out; have := HK2.out; omega
                    case rel => exact ⟨(x14_2), (wrap64 (x15_2 + 1)), (by first | rfl | (simp; done) | (simp [*]; done)), (by first | rfl | (simp; done) | (simp [*]; done)), H', ⟨by have := HJ7.out; have := HK2.out; omega⟩, ⟨by (with_reducible repeat (first | refine blk_drewN ?_ _ | refine blk_drew ?_ | refine blk_alloc ?_ _)); exact BK162.out⟩, ⟨by (with_reducible repeat (first | refine blk_drewN ?_ _ | refine blk_drew ?_ | refine blk_alloc ?_ _)); exact BK163.out⟩, ⟨by repeat (first | (with_reducible first | exact HB.out | apply below_alloc | apply pw_below_drewN | apply below_drew1 | refine below_set ?_ GE162.out | refine below_set ?_ GE163.out) | exact HB.out)⟩⟩
                  · replace c28 := Bool.eq_false_iff.mpr c28
                    subst c28
                    have H1 : (if ((rd_T32 l1 x15_2).f3) > x14_2 then (fourinhandref14_Set.l0 k2 l1 a2 a3 a4 ((rd_T32 l1 x15_2).f3) (wrap64 (x15_2 + 1)) a0_0 a0_1 a0_2 a0_3 a0_4) else (fourinhandref14_Set.l0 k2 l1 a2 a3 a4 x14_2 (wrap64 (x15_2 + 1)) a0_0 a0_1 a0_2 a0_3 a0_4)) = some (r1, r2, r3) := by rw [if_neg (show ¬ (false = true) by decide)] at H; exact H
                    clear H
                    have H := H1
                    clear H1
                    by_cases c29 : ((rd_T32 l1 x15_2).f3) > x14_2
                    · rw [if_pos c29] at H
                      have c29b0 : decide (x14_2 < ((rd_T32 l1 x15_2).f3)) = true := decide_eq_true c29
                      clear c29
                      have H' := Aside0.mk H
                      clear H
                      have p166 : 0 ≤ (x15_2 : Int) := of_decide_eq_true (by first | (with_reducible assumption) | assumption)
                      have q166 : x15_2 < (l1.length : Int) := of_decide_eq_true (by first | (with_reducible assumption) | assumption)
                      obtain ⟨ad166, e166, hx166_0, hx166_1, hx166_2, hx166_3, hx166_4, hx166_5, hx166_6, hx166_7, hx166_8⟩ := at_T32 HR1.out x15_2 p166 q166
                      (try rw [← Nbq25.out] at hx166_5)
                      (try rw [← Nbq27.out] at hx166_5)
                      (try rw [← Nbq25.out] at hx166_6)
                      (try rw [← Nbq27.out] at hx166_6)
                      cases e166
                      replace hx166_0 := (HB.out.cell (World.block_lt_of_cell? w _ hx166_0)).trans hx166_0
                      replace hx166_1 := (HB.out.cell (World.block_lt_of_cell? w _ hx166_1)).trans hx166_1
                      replace hx166_2 := (HB.out.cell (World.block_lt_of_cell? w _ hx166_2)).trans hx166_2
                      replace hx166_3 := (HB.out.cell (World.block_lt_of_cell? w _ hx166_3)).trans hx166_3
                      replace hx166_4 := (HB.out.cell (World.block_lt_of_cell? w _ hx166_4)).trans hx166_4
                      replace hx166_5 := (HB.out.cell (World.block_lt_of_cell? w _ hx166_5)).trans hx166_5
                      replace hx166_6 := (HB.out.cell (World.block_lt_of_cell? w _ hx166_6)).trans hx166_6
                      replace hx166_7 := (HB.out.cell (World.block_lt_of_cell? w _ hx166_7)).trans hx166_7
                      replace hx166_8 := (HB.out.cell (World.block_lt_of_cell? w _ hx166_8)).trans hx166_8
                      replace p166 := eq_true p166
                      replace q166 := eq_true q166
                      have p167 : 0 ≤ (x15_2 : Int) := of_decide_eq_true (by first | (with_reducible assumption) | assumption)
                      have q167 : x15_2 < (l1.length : Int) := of_decide_eq_true (by first | (with_reducible assumption) | assumption)
                      obtain ⟨ad167, e167, hx167_0, hx167_1, hx167_2, hx167_3, hx167_4, hx167_5, hx167_6, hx167_7, hx167_8⟩ := at_T32 HR1.out x15_2 p167 q167
                      (try rw [← Nbq25.out] at hx167_5)
                      (try rw [← Nbq27.out] at hx167_5)
                      (try rw [← Nbq25.out] at hx167_6)
                      (try rw [← Nbq27.out] at hx167_6)
                      obtain rfl : ad166 = ad167 := (by injection e167)
                      replace hx167_0 := (HB.out.cell (World.block_lt_of_cell? w _ hx167_0)).trans hx167_0
                      replace hx167_1 := (HB.out.cell (World.block_lt_of_cell? w _ hx167_1)).trans hx167_1
                      replace hx167_2 := (HB.out.cell (World.block_lt_of_cell? w _ hx167_2)).trans hx167_2
                      replace hx167_3 := (HB.out.cell (World.block_lt_of_cell? w _ hx167_3)).trans hx167_3
                      replace hx167_4 := (HB.out.cell (World.block_lt_of_cell? w _ hx167_4)).trans hx167_4
                      replace hx167_5 := (HB.out.cell (World.block_lt_of_cell? w _ hx167_5)).trans hx167_5
                      replace hx167_6 := (HB.out.cell (World.block_lt_of_cell? w _ hx167_6)).trans hx167_6
                      replace hx167_7 := (HB.out.cell (World.block_lt_of_cell? w _ hx167_7)).trans hx167_7
                      replace hx167_8 := (HB.out.cell (World.block_lt_of_cell? w _ hx167_8)).trans hx167_8
                      replace p167 := eq_true p167
                      replace q167 := eq_true q167
                      have p168 : 0 ≤ (x15_2 : Int) := of_decide_eq_true (by first | (with_reducible assumption) | assumption)
                      have q168 : x15_2 < (l1.length : Int) := of_decide_eq_true (by first | (with_reducible assumption) | assumption)
                      obtain ⟨ad168, e168, hx168_0, hx168_1, hx168_2, hx168_3, hx168_4, hx168_5, hx168_6, hx168_7, hx168_8⟩ := at_T32 HR1.out x15_2 p168 q168
                      (try rw [← Nbq25.out] at hx168_5)
                      (try rw [← Nbq27.out] at hx168_5)
                      (try rw [← Nbq25.out] at hx168_6)
                      (try rw [← Nbq27.out] at hx168_6)
                      obtain rfl : ad166 = ad168 := (by injection e168)
                      replace hx168_0 := (HB.out.cell (World.block_lt_of_cell? w _ hx168_0)).trans hx168_0
                      replace hx168_1 := (HB.out.cell (World.block_lt_of_cell? w _ hx168_1)).trans hx168_1
                      replace hx168_2 := (HB.out.cell (World.block_lt_of_cell? w _ hx168_2)).trans hx168_2
                      replace hx168_3 := (HB.out.cell (World.block_lt_of_cell? w _ hx168_3)).trans hx168_3
                      replace hx168_4 := (HB.out.cell (World.block_lt_of_cell? w _ hx168_4)).trans hx168_4
                      replace hx168_5 := (HB.out.cell (World.block_lt_of_cell? w _ hx168_5)).trans hx168_5
                      replace hx168_6 := (HB.out.cell (World.block_lt_of_cell? w _ hx168_6)).trans hx168_6
                      replace hx168_7 := (HB.out.cell (World.block_lt_of_cell? w _ hx168_7)).trans hx168_7
                      replace hx168_8 := (HB.out.cell (World.block_lt_of_cell? w _ hx168_8)).trans hx168_8
                      replace p168 := eq_true p168
                      replace q168 := eq_true q168
                      have p169 : 0 ≤ (x15_2 : Int) := of_decide_eq_true (by first | (with_reducible assumption) | assumption)
                      have q169 : x15_2 < (l1.length : Int) := of_decide_eq_true (by first | (with_reducible assumption) | assumption)
                      obtain ⟨ad169, e169, hx169_0, hx169_1, hx169_2, hx169_3, hx169_4, hx169_5, hx169_6, hx169_7, hx169_8⟩ := at_T32 HR1.out x15_2 p169 q169
                      (try rw [← Nbq25.out] at hx169_5)
                      (try rw [← Nbq27.out] at hx169_5)
                      (try rw [← Nbq25.out] at hx169_6)
                      (try rw [← Nbq27.out] at hx169_6)
                      obtain rfl : ad166 = ad169 := (by injection e169)
                      replace hx169_0 := (HB.out.cell (World.block_lt_of_cell? w _ hx169_0)).trans hx169_0
                      replace hx169_1 := (HB.out.cell (World.block_lt_of_cell? w _ hx169_1)).trans hx169_1
                      replace hx169_2 := (HB.out.cell (World.block_lt_of_cell? w _ hx169_2)).trans hx169_2
                      replace hx169_3 := (HB.out.cell (World.block_lt_of_cell? w _ hx169_3)).trans hx169_3
                      replace hx169_4 := (HB.out.cell (World.block_lt_of_cell? w _ hx169_4)).trans hx169_4
                      replace hx169_5 := (HB.out.cell (World.block_lt_of_cell? w _ hx169_5)).trans hx169_5
                      replace hx169_6 := (HB.out.cell (World.block_lt_of_cell? w _ hx169_6)).trans hx169_6
                      replace hx169_7 := (HB.out.cell (World.block_lt_of_cell? w _ hx169_7)).trans hx169_7
                      replace hx169_8 := (HB.out.cell (World.block_lt_of_cell? w _ hx169_8)).trans hx169_8
                      replace p169 := eq_true p169
                      replace q169 := eq_true q169
                      go_wp2
                      go_roundg k2
                      case measure => have := HJ7.out; have := HK2.out; omega
                      case rel => exact ⟨((rd_T32 l1 x15_2).f3), (wrap64 (x15_2 + 1)), (by first | rfl | (simp; done) | (simp [*]; done)), (by first | rfl | (simp; done) | (simp [*]; done)), H', ⟨by have := HJ7.out; have := HK2.out; omega⟩, ⟨by (with_reducible repeat (first | refine blk_drewN ?_ _ | refine blk_drew ?_ | refine blk_alloc ?_ _)); exact BK162.out⟩, ⟨by (with_reducible repeat (first | refine blk_drewN ?_ _ | refine blk_drew ?_ | refine blk_alloc ?_ _)); exact BK163.out⟩, ⟨by repeat (first | (with_reducible first | exact HB.out | apply below_alloc | apply pw_below_drewN | apply below_drew1 | refine below_set ?_ GE162.out | refine below_set ?_ GE163.out) | exact HB.out)⟩⟩
                    · rw [if_neg c29] at H
                      have c29b0 : decide (x14_2 < ((rd_T32 l1 x15_2).f3)) = false := decide_eq_false c29
                      clear c29
                      have H' := Aside0.mk H
                      clear H
                      have p166 : 0 ≤ (x15_2 : Int) := of_decide_eq_true (by first | (with_reducible assumption) | assumption)
                      have q166 : x15_2 < (l1.length : Int) := of_decide_eq_true (by first | (with_reducible assumption) | assumption)
                      obtain ⟨ad166, e166, hx166_0, hx166_1, hx166_2, hx166_3, hx166_4, hx166_5, hx166_6, hx166_7, hx166_8⟩ := at_T32 HR1.out x15_2 p166 q166
                      (try rw [← Nbq25.out] at hx166_5)
                      (try rw [← Nbq27.out] at hx166_5)
                      (try rw [← Nbq25.out] at hx166_6)
                      (try rw [← Nbq27.out] at hx166_6)
                      cases e166
                      replace hx166_0 := (HB.out.cell (World.block_lt_of_cell? w _ hx166_0)).trans hx166_0
                      replace hx166_1 := (HB.out.cell (World.block_lt_of_cell? w _ hx166_1)).trans hx166_1
                      replace hx166_2 := (HB.out.cell (World.block_lt_of_cell? w _ hx166_2)).trans hx166_2
                      replace hx166_3 := (HB.out.cell (World.block_lt_of_cell? w _ hx166_3)).trans hx166_3
                      replace hx166_4 := (HB.out.cell (World.block_lt_of_cell? w _ hx166_4)).trans hx166_4
                      replace hx166_5 := (HB.out.cell (World.block_lt_of_cell? w _ hx166_5)).trans hx166_5
                      replace hx166_6 := (HB.out.cell (World.block_lt_of_cell? w _ hx166_6)).trans hx166_6
                      replace hx166_7 := (HB.out.cell (World.block_lt_of_cell? w _ hx166_7)).trans hx166_7
                      replace hx166_8 := (HB.out.cell (World.block_lt_of_cell? w _ hx166_8)).trans hx166_8
                      replace p166 := eq_true p166
                      replace q166 := eq_true q166
                      have p167 : 0 ≤ (x15_2 : Int) := of_decide_eq_true (by first | (with_reducible assumption) | assumption)
                      have q167 : x15_2 < (l1.length : Int) := of_decide_eq_true (by first | (with_reducible assumption) | assumption)
                      obtain ⟨ad167, e167, hx167_0, hx167_1, hx167_2, hx167_3, hx167_4, hx167_5, hx167_6, hx167_7, hx167_8⟩ := at_T32 HR1.out x15_2 p167 q167
                      (try rw [← Nbq25.out] at hx167_5)
                      (try rw [← Nbq27.out] at hx167_5)
                      (try rw [← Nbq25.out] at hx167_6)
                      (try rw [← Nbq27.out] at hx167_6)
                      obtain rfl : ad166 = ad167 := (by injection e167)
                      replace hx167_0 := (HB.out.cell (World.block_lt_of_cell? w _ hx167_0)).trans hx167_0
                      replace hx167_1 := (HB.out.cell (World.block_lt_of_cell? w _ hx167_1)).trans hx167_1
                      replace hx167_2 := (HB.out.cell (World.block_lt_of_cell? w _ hx167_2)).trans hx167_2
                      replace hx167_3 := (HB.out.cell (World.block_lt_of_cell? w _ hx167_3)).trans hx167_3
                      replace hx167_4 := (HB.out.cell (World.block_lt_of_cell? w _ hx167_4)).trans hx167_4
                      replace hx167_5 := (HB.out.cell (World.block_lt_of_cell? w _ hx167_5)).trans hx167_5
                      replace hx167_6 := (HB.out.cell (World.block_lt_of_cell? w _ hx167_6)).trans hx167_6
                      replace hx167_7 := (HB.out.cell (World.block_lt_of_cell? w _ hx167_7)).trans hx167_7
                      replace hx167_8 := (HB.out.cell (World.block_lt_of_cell? w _ hx167_8)).trans hx167_8
                      replace p167 := eq_true p167
                      replace q167 := eq_true q167
                      have p168 : 0 ≤ (x15_2 : Int) := of_decide_eq_true (by first | (with_reducible assumption) | assumption)
                      have q168 : x15_2 < (l1.length : Int) := of_decide_eq_true (by first | (with_reducible assumption) | assumption)
                      obtain ⟨ad168, e168, hx168_0, hx168_1, hx168_2, hx168_3, hx168_4, hx168_5, hx168_6, hx168_7, hx168_8⟩ := at_T32 HR1.out x15_2 p168 q168
                      (try rw [← Nbq25.out] at hx168_5)
                      (try rw [← Nbq27.out] at hx168_5)
                      (try rw [← Nbq25.out] at hx168_6)
                      (try rw [← Nbq27.out] at hx168_6)
                      obtain rfl : ad166 = ad168 := (by injection e168)
                      replace hx168_0 := (HB.out.cell (World.block_lt_of_cell? w _ hx168_0)).trans hx168_0
                      replace hx168_1 := (HB.out.cell (World.block_lt_of_cell? w _ hx168_1)).trans hx168_1
                      replace hx168_2 := (HB.out.cell (World.block_lt_of_cell? w _ hx168_2)).trans hx168_2
                      replace hx168_3 := (HB.out.cell (World.block_lt_of_cell? w _ hx168_3)).trans hx168_3
                      replace hx168_4 := (HB.out.cell (World.block_lt_of_cell? w _ hx168_4)).trans hx168_4
                      replace hx168_5 := (HB.out.cell (World.block_lt_of_cell? w _ hx168_5)).trans hx168_5
                      replace hx168_6 := (HB.out.cell (World.block_lt_of_cell? w _ hx168_6)).trans hx168_6
                      replace hx168_7 := (HB.out.cell (World.block_lt_of_cell? w _ hx168_7)).trans hx168_7
                      replace hx168_8 := (HB.out.cell (World.block_lt_of_cell? w _ hx168_8)).trans hx168_8
                      replace p168 := eq_true p168
                      replace q168 := eq_true q168
                      go_wp2
                      go_roundg k2
                      case measure => have := HJ7.out; have := HK2.out; omega
                      case rel => exact ⟨(x14_2), (wrap64 (x15_2 + 1)), (by first | rfl | (simp; done) | (simp [*]; done)), (by first | rfl | (simp; done) | (simp [*]; done)), H', ⟨by have := HJ7.out; have := HK2.out; omega⟩, ⟨by (with_reducible repeat (first | refine blk_drewN ?_ _ | refine blk_drew ?_ | refine blk_alloc ?_ _)); exact BK162.out⟩, ⟨by (with_reducible repeat (first | refine blk_drewN ?_ _ | refine blk_drew ?_ | refine blk_alloc ?_ _)); exact BK163.out⟩, ⟨by repeat (first | (with_reducible first | exact HB.out | apply below_alloc | apply pw_below_drewN | apply below_drew1 | refine below_set ?_ GE162.out | refine below_set ?_ GE163.out) | exact HB.out)⟩⟩
              · rw [if_neg c24] at H
                exact absurd H (by simp)
            · rw [if_neg c23] at H
              have c23b0 : decide (x15_2 < (l1.length : Int)) = false := decide_eq_false c23
              clear c23
              by_cases c30 : x14_2 < 0
              · rw [if_pos c30] at H
                have c30b0 : decide (x14_2 < 0) = true := decide_eq_true c30
                clear c30
                simp only [Option.some.injEq, Prod.mk.injEq] at H
                obtain ⟨rfl, rfl, rfl⟩ := H
                have hnb31 := NB163_162.out
                have hnc31 := NB162_163.out
                have hcz32_0 : wr.cell? ⟨gb163, 0, none⟩ = some (.int .i64 0) := (blk_cell BK163.out 0).trans rfl
                have hcz32_1 : wr.cell? ⟨gb163, 1, none⟩ = some (.int .i64 0) := (blk_cell BK163.out 1).trans rfl
                have hfz32_0 := blk_frozen BK163.out 0
                have hfz32_1 := blk_frozen BK163.out 1
                go_wp2
                refine bodyPost_ret (results_ct rfl _ _ gb163 27 #[.int .i64 0, .int .i64 0] (0, 0) _ rfl (by (with_reducible repeat (first | refine blk_drewN ?_ _ | refine blk_drew ?_ | refine blk_alloc ?_ _)); refine blk_put (cs := #[.int .i64 0, .int .i64 0]) ?_ 1 _ rfl; (with_reducible repeat (first | refine blk_drewN ?_ _ | refine blk_drew ?_ | refine blk_alloc ?_ _)); refine blk_put (cs := #[.int .i64 0, .int .i64 0]) ?_ 0 _ rfl; (with_reducible repeat (first | refine blk_drewN ?_ _ | refine blk_drew ?_ | refine blk_alloc ?_ _)); exact BK163.out) Try.underlying27 rfl (by kernel_rfl)) rfl ?_
                exact ⟨by first | rfl | (simp [errW_none, errW_some] <;> rfl) | (simp [*, errW_none, errW_some] <;> rfl), by repeat (first | (with_reducible first | exact HB.out | apply below_alloc | apply pw_below_drewN | apply below_drew1 | refine below_set ?_ GE162.out | refine below_set ?_ GE163.out) | exact HB.out)⟩
              · rw [if_neg c30] at H
                have c30b0 : decide (x14_2 < 0) = false := decide_eq_false c30
                clear c30
                have HC33 := Aside0.mk H
                clear H
                go_upto_if 84 with (fail)
                go_cut [14] (fun v14 wc => ∃ (kq : Nat) (x14_32 : Int), v14 = .int .i64 x14_32 ∧ Aside0 (fourinhandref14_Set.j2 kq a2 a4 x14_32 a0_0 a0_1 a0_2 a0_3 a0_4 = some (r1, r2, r3)) ∧ Aside0 (kq ≤ k2) ∧ Aside0 (wc.heap[gb162]? = some (.cells #[.bool a0_0, .int .i64 a0_1, .int .i64 a0_2, .int .i64 a0_3, .int .i64 a0_4] 23 (0, 0))) ∧ Aside0 (wc.heap[gb163]? = some (.cells #[.int .i64 0, .int .i64 0] 27 (0, 0))) ∧ Aside0 (Below w.heap.size w wc))
                case first =>
                  have H := HC33.out
                  clear HC33
                  by_cases c34 : x14_2 > a3
                  · rw [if_pos c34] at H
                    have c34b0 : decide (a3 < x14_2) = true := decide_eq_true c34
                    clear c34
                    (first | rw [c34b0] | (simp only [i64_w, i32_w]; rw [c34b0]) | skip)
                    have H' := Aside0.mk H
                    clear H
                    go_wp2
                    go_meet
                    case rel => exact ⟨_, (a3), (by first | rfl | (simp; done) | (simp [*]; done)), H', ⟨by have := HJ7.out; have := HK2.out; first | omega | exact Nat.le_refl _⟩, ⟨by (with_reducible repeat (first | refine blk_drewN ?_ _ | refine blk_drew ?_ | refine blk_alloc ?_ _)); exact BK162.out⟩, ⟨by (with_reducible repeat (first | refine blk_drewN ?_ _ | refine blk_drew ?_ | refine blk_alloc ?_ _)); exact BK163.out⟩, ⟨by repeat (first | (with_reducible first | exact HB.out | apply below_alloc | apply pw_below_drewN | apply below_drew1 | refine below_set ?_ GE162.out | refine below_set ?_ GE163.out) | exact HB.out)⟩⟩
                  · rw [if_neg c34] at H
                    have c34b0 : decide (a3 < x14_2) = false := decide_eq_false c34
                    clear c34
                    (first | rw [c34b0] | (simp only [i64_w, i32_w]; rw [c34b0]) | skip)
                    have H' := Aside0.mk H
                    clear H
                    go_wp2
                    go_meet
                    case rel => exact ⟨_, (x14_2), (by first | rfl | (simp; done) | (simp [*]; done)), H', ⟨by have := HJ7.out; have := HK2.out; first | omega | exact Nat.le_refl _⟩, ⟨by (with_reducible repeat (first | refine blk_drewN ?_ _ | refine blk_drew ?_ | refine blk_alloc ?_ _)); exact BK162.out⟩, ⟨by (with_reducible repeat (first | refine blk_drewN ?_ _ | refine blk_drew ?_ | refine blk_alloc ?_ _)); exact BK163.out⟩, ⟨by repeat (first | (with_reducible first | exact HB.out | apply below_alloc | apply pw_below_drewN | apply below_drew1 | refine below_set ?_ GE162.out | refine below_set ?_ GE163.out) | exact HB.out)⟩⟩
                case rest =>
                  clear HC33
                  try clear c1
                  try clear p1
                  try clear q1
                  try clear hx1
                  try clear c2
                  try clear p2
                  try clear q2
                  try clear c3
                  try clear p6
                  try clear c11
                  try clear c15
                  try clear c16
                  try clear p16
                  try clear q16
                  try clear hx16
                  try clear c17
                  try clear c17b0
                  try clear c18
                  try clear c18b0
                  try clear c19
                  try clear c19b0
                  try clear c20
                  try clear c21
                  try clear c22
                  try clear c23
                  try clear c23b0
                  try clear c24
                  try clear c24b0
                  try clear q25
                  try clear c26
                  try clear q27
                  try clear c28
                  try clear c29
                  try clear c29b0
                  try clear c30
                  try clear c30b0
                  try clear c31
                  try clear c34
                  try clear c34b0
                  try clear hcz12_0
                  try clear hcz12_1
                  try clear hcz12_2
                  try clear hcz12_3
                  try clear hcz12_4
                  try clear hcz22_0
                  try clear hcz22_1
                  try clear hcz32_0
                  try clear hcz32_1
                  try clear hfz12_0
                  try clear hfz12_1
                  try clear hfz12_2
                  try clear hfz12_3
                  try clear hfz12_4
                  try clear hfz22_0
                  try clear hfz22_1
                  try clear hfz32_0
                  try clear hfz32_1
                  try clear hx166_0
                  try clear hx166_1
                  try clear hx166_2
                  try clear hx166_3
                  try clear hx166_4
                  try clear hx166_5
                  try clear hx166_6
                  try clear hx166_7
                  try clear hx166_8
                  try clear hx167_0
                  try clear hx167_1
                  try clear hx167_2
                  try clear hx167_3
                  try clear hx167_4
                  try clear hx167_5
                  try clear hx167_6
                  try clear hx167_7
                  try clear hx167_8
                  try clear hx168_0
                  try clear hx168_1
                  try clear hx168_2
                  try clear hx168_3
                  try clear hx168_4
                  try clear hx168_5
                  try clear hx168_6
                  try clear hx168_7
                  try clear hx168_8
                  try clear hx169_0
                  try clear hx169_1
                  try clear hx169_2
                  try clear hx169_3
                  try clear hx169_4
                  try clear hx169_5
                  try clear hx169_6
                  try clear hx169_7
                  try clear hx169_8
                  try clear p166
                  try clear p167
                  try clear p168
                  try clear p169
                  try clear p2
                  try clear q166
                  try clear q167
                  try clear q168
                  try clear q169
                  obtain ⟨kq, x14_32, rfl, HA, HJ32, BK162, BK163, HB⟩ := hcut
                  cases kq with
                  | zero => exact absurd HA.out (by simp [fourinhandref14_Set.j2])
                  | succ kj32 =>
                    have H := HA.out
                    clear HA
                    simp only [fourinhandref14_Set.j2] at H
                    replace H := Option.bind_eq_some_iff.mp H
                    obtain ⟨t170, A350, H⟩ := H
                    replace H : (if a2 = true then (fourinhandref14_Set.j3 kj32 x14_32 t170 true a0_0 a0_1 a0_2 a0_3 a0_4) else (fourinhandref14_Set.j3 kj32 x14_32 t170 (!a0_0) a0_0 a0_1 a0_2 a0_3 a0_4)) = some (r1, r2, r3) := H
                    have A35 := Aside0.mk A350
                    clear A350
                    have HC36 := Aside0.mk H
                    clear H
                    have hnb37 := NB162_163.out
                    have hnc37 := NB163_162.out
                    have hcz38_0 : wc.cell? ⟨gb162, 0, none⟩ = some (.bool a0_0) := (blk_cell BK162.out 0).trans rfl
                    have hcz38_1 : wc.cell? ⟨gb162, 1, none⟩ = some (.int .i64 a0_1) := (blk_cell BK162.out 1).trans rfl
                    have hcz38_2 : wc.cell? ⟨gb162, 2, none⟩ = some (.int .i64 a0_2) := (blk_cell BK162.out 2).trans rfl
                    have hcz38_3 : wc.cell? ⟨gb162, 3, none⟩ = some (.int .i64 a0_3) := (blk_cell BK162.out 3).trans rfl
                    have hcz38_4 : wc.cell? ⟨gb162, 4, none⟩ = some (.int .i64 a0_4) := (blk_cell BK162.out 4).trans rfl
                    have hfz38_0 := blk_frozen BK162.out 0
                    have hfz38_1 := blk_frozen BK162.out 1
                    have hfz38_2 := blk_frozen BK162.out 2
                    have hfz38_3 := blk_frozen BK162.out 3
                    have hfz38_4 := blk_frozen BK162.out 4
                    go_upto_region 16 with (first | ((with_reducible refine gate_callee (f := 24) rfl ?_); refine goesL_ (some 88) rfl rfl Try.func24 (by kernel_rfl) rfl #[.agg #[.bool a0_0, .int .i64 a0_1, .int .i64 a0_2, .int .i64 a0_3, .int .i64 a0_4], .int .i64 a4] rfl (by (try simp only [List.map_toArray, List.map_cons, List.map_nil]); first | done | rfl | (simp only [List.length_drop, List.length_take]; rfl)) ?_; (with_reducible refine (fourinhandref08_Wait.calls kj32 a0_0 a0_1 a0_2 a0_3 a0_4 a4 t170 _ A35.out).mono ?_); rintro e w39 ⟨rfl, hb⟩; refine ⟨_, rfl, ?_⟩; have n0_ := Aside0.mk (blk_below (g := gb162) (o := .cells #[.bool a0_0, .int .i64 a0_1, .int .i64 a0_2, .int .i64 a0_3, .int .i64 a0_4] 23 (0, 0)) (by (with_reducible repeat (first | refine blk_drewN ?_ _ | refine blk_drew ?_ | refine blk_alloc ?_ _)); exact BK162.out) hb); have n1_ := Aside0.mk (blk_below (g := gb163) (o := .cells #[.int .i64 0, .int .i64 0] 27 (0, 0)) (by (with_reducible repeat (first | refine blk_drewN ?_ _ | refine blk_drew ?_ | refine blk_alloc ?_ _)); exact BK163.out) hb); have n2_ := Aside0.mk (below_step (by repeat (first | (with_reducible first | exact HB.out | apply below_alloc | apply pw_below_drewN | apply below_drew1 | refine below_set ?_ GE162.out | refine below_set ?_ GE163.out) | exact HB.out)) hb); clear BK162; clear BK163; clear HB; have BK162 := n0_; have BK163 := n1_; have HB := n2_; clear n0_ n1_ n2_; (try clear hb); (try clear hb2); (try clear hk); (try clear hi)))
                    (try simp only [Act.put, List.setIfInBounds_toArray, List.set_cons_zero, List.set_cons_succ])
                    go_cut [94] (fun v94 wc => ∃ (kq : Nat) (x94_35 : Bool), v94 = .bool x94_35 ∧ Aside0 (fourinhandref14_Set.j3 kq x14_32 t170 x94_35 a0_0 a0_1 a0_2 a0_3 a0_4 = some (r1, r2, r3)) ∧ Aside0 (kq ≤ kj32) ∧ Aside0 (wc.heap[gb162]? = some (.cells #[.bool a0_0, .int .i64 a0_1, .int .i64 a0_2, .int .i64 a0_3, .int .i64 a0_4] 23 (0, 0))) ∧ Aside0 (wc.heap[gb163]? = some (.cells #[.int .i64 0, .int .i64 0] 27 (0, 0))) ∧ Aside0 (Below w.heap.size w wc))
                    case first =>
                      have H := HC36.out
                      clear HC36
                      by_cases c40 : a2 = true
                      · subst c40
                        have H1 : (fourinhandref14_Set.j3 kj32 x14_32 t170 true a0_0 a0_1 a0_2 a0_3 a0_4) = some (r1, r2, r3) := by rw [if_pos rfl] at H; exact H
                        clear H
                        have H := H1
                        clear H1
                        have H' := Aside0.mk H
                        clear H
                        go_wp2
                        go_meet
                        case rel => exact ⟨_, (true), (by first | rfl | (simp; done) | (simp [*]; done)), H', ⟨by have := HJ7.out; have := HK2.out; have := HJ32.out; first | omega | exact Nat.le_refl _⟩, ⟨by (with_reducible repeat (first | refine blk_drewN ?_ _ | refine blk_drew ?_ | refine blk_alloc ?_ _)); exact BK162.out⟩, ⟨by (with_reducible repeat (first | refine blk_drewN ?_ _ | refine blk_drew ?_ | refine blk_alloc ?_ _)); exact BK163.out⟩, ⟨by repeat (first | (with_reducible first | exact HB.out | apply below_alloc | apply pw_below_drewN | apply below_drew1 | refine below_set ?_ GE162.out | refine below_set ?_ GE163.out) | exact HB.out)⟩⟩
                      · replace c40 := Bool.eq_false_iff.mpr c40
                        subst c40
                        have H1 : (fourinhandref14_Set.j3 kj32 x14_32 t170 (!a0_0) a0_0 a0_1 a0_2 a0_3 a0_4) = some (r1, r2, r3) := by rw [if_neg (show ¬ (false = true) by decide)] at H; exact H
                        clear H
                        have H := H1
                        clear H1
                        have H' := Aside0.mk H
                        clear H
                        have hnb41 := NB162_163.out
                        have hnc41 := NB163_162.out
                        have hcz42_0 : w39.cell? ⟨gb162, 0, none⟩ = some (.bool a0_0) := (blk_cell BK162.out 0).trans rfl
                        have hcz42_1 : w39.cell? ⟨gb162, 1, none⟩ = some (.int .i64 a0_1) := (blk_cell BK162.out 1).trans rfl
                        have hcz42_2 : w39.cell? ⟨gb162, 2, none⟩ = some (.int .i64 a0_2) := (blk_cell BK162.out 2).trans rfl
                        have hcz42_3 : w39.cell? ⟨gb162, 3, none⟩ = some (.int .i64 a0_3) := (blk_cell BK162.out 3).trans rfl
                        have hcz42_4 : w39.cell? ⟨gb162, 4, none⟩ = some (.int .i64 a0_4) := (blk_cell BK162.out 4).trans rfl
                        have hfz42_0 := blk_frozen BK162.out 0
                        have hfz42_1 := blk_frozen BK162.out 1
                        have hfz42_2 := blk_frozen BK162.out 2
                        have hfz42_3 := blk_frozen BK162.out 3
                        have hfz42_4 := blk_frozen BK162.out 4
                        go_wp2
                        go_meet
                        case rel => exact ⟨_, (!a0_0), (by first | rfl | (simp; done) | (simp [*]; done)), H', ⟨by have := HJ7.out; have := HK2.out; have := HJ32.out; first | omega | exact Nat.le_refl _⟩, ⟨by (with_reducible repeat (first | refine blk_drewN ?_ _ | refine blk_drew ?_ | refine blk_alloc ?_ _)); exact BK162.out⟩, ⟨by (with_reducible repeat (first | refine blk_drewN ?_ _ | refine blk_drew ?_ | refine blk_alloc ?_ _)); exact BK163.out⟩, ⟨by repeat (first | (with_reducible first | exact HB.out | apply below_alloc | apply pw_below_drewN | apply below_drew1 | refine below_set ?_ GE162.out | refine below_set ?_ GE163.out) | exact HB.out)⟩⟩
                    case rest =>
                      clear HC36
                      try clear c1
                      try clear p1
                      try clear q1
                      try clear hx1
                      try clear c2
                      try clear p2
                      try clear q2
                      try clear c3
                      try clear c4
                      try clear p6
                      try clear c11
                      try clear c15
                      try clear c16
                      try clear p16
                      try clear q16
                      try clear hx16
                      try clear c17
                      try clear c17b0
                      try clear c18
                      try clear c18b0
                      try clear c19
                      try clear c19b0
                      try clear c20
                      try clear c21
                      try clear c22
                      try clear c23
                      try clear c23b0
                      try clear c24
                      try clear c24b0
                      try clear q25
                      try clear c26
                      try clear q27
                      try clear c28
                      try clear c29
                      try clear c29b0
                      try clear c30
                      try clear c30b0
                      try clear c31
                      try clear c34
                      try clear c34b0
                      try clear c37
                      try clear c40
                      try clear c41
                      try clear hcz12_0
                      try clear hcz12_1
                      try clear hcz12_2
                      try clear hcz12_3
                      try clear hcz12_4
                      try clear hcz22_0
                      try clear hcz22_1
                      try clear hcz32_0
                      try clear hcz32_1
                      try clear hcz38_0
                      try clear hcz38_1
                      try clear hcz38_2
                      try clear hcz38_3
                      try clear hcz38_4
                      try clear hcz42_0
                      try clear hcz42_1
                      try clear hcz42_2
                      try clear hcz42_3
                      try clear hcz42_4
                      try clear hfz12_0
                      try clear hfz12_1
                      try clear hfz12_2
                      try clear hfz12_3
                      try clear hfz12_4
                      try clear hfz22_0
                      try clear hfz22_1
                      try clear hfz32_0
                      try clear hfz32_1
                      try clear hfz38_0
                      try clear hfz38_1
                      try clear hfz38_2
                      try clear hfz38_3
                      try clear hfz38_4
                      try clear hfz42_0
                      try clear hfz42_1
                      try clear hfz42_2
                      try clear hfz42_3
                      try clear hfz42_4
                      try clear hx166_0
                      try clear hx166_1
                      try clear hx166_2
                      try clear hx166_3
                      try clear hx166_4
                      try clear hx166_5
                      try clear hx166_6
                      try clear hx166_7
                      try clear hx166_8
                      try clear hx167_0
                      try clear hx167_1
                      try clear hx167_2
                      try clear hx167_3
                      try clear hx167_4
                      try clear hx167_5
                      try clear hx167_6
                      try clear hx167_7
                      try clear hx167_8
                      try clear hx168_0
                      try clear hx168_1
                      try clear hx168_2
                      try clear hx168_3
                      try clear hx168_4
                      try clear hx168_5
                      try clear hx168_6
                      try clear hx168_7
                      try clear hx168_8
                      try clear hx169_0
                      try clear hx169_1
                      try clear hx169_2
                      try clear hx169_3
                      try clear hx169_4
                      try clear hx169_5
                      try clear hx169_6
                      try clear hx169_7
                      try clear hx169_8
                      try clear p1
                      try clear p16
                      try clear p166
                      try clear p167
                      try clear p168
                      try clear p169
                      try clear p2
                      try clear p6
                      try clear q1
                      try clear q16
                      try clear q166
                      try clear q167
                      try clear q168
                      try clear q169
                      try clear q2
                      try clear q25
                      try clear q27
                      obtain ⟨kq, x94_35, rfl, HA, HJ35, BK162, BK163, HB⟩ := hcut
                      cases kq with
                      | zero => exact absurd HA.out (by simp [fourinhandref14_Set.j3])
                      | succ kj35 =>
                        have H := HA.out
                        clear HA
                        simp only [fourinhandref14_Set.j3] at H
                        by_cases c43 : x94_35 = true
                        · subst c43
                          have H1 : (some (2, wrap64 (x14_32 + t170), 0)) = some (r1, r2, r3) := by rw [if_pos rfl] at H; exact H
                          clear H
                          have H := H1
                          clear H1
                          simp only [Option.some.injEq, Prod.mk.injEq] at H
                          obtain ⟨rfl, rfl, rfl⟩ := H
                          have hnb44 := NB163_162.out
                          have hnc44 := NB162_163.out
                          have hcz45_0 : wc.cell? ⟨gb163, 0, none⟩ = some (.int .i64 0) := (blk_cell BK163.out 0).trans rfl
                          have hcz45_1 : wc.cell? ⟨gb163, 1, none⟩ = some (.int .i64 0) := (blk_cell BK163.out 1).trans rfl
                          have hfz45_0 := blk_frozen BK163.out 0
                          have hfz45_1 := blk_frozen BK163.out 1
                          go_wp2
                          refine bodyPost_ret (results_ct rfl _ _ gb163 27 #[.int .i64 2, .int .i64 (wrap64 (x14_32 + t170))] (0, 0) _ rfl (by (with_reducible repeat (first | refine blk_drewN ?_ _ | refine blk_drew ?_ | refine blk_alloc ?_ _)); refine blk_put (cs := #[.int .i64 2, .int .i64 0]) ?_ 1 _ rfl; (with_reducible repeat (first | refine blk_drewN ?_ _ | refine blk_drew ?_ | refine blk_alloc ?_ _)); refine blk_put (cs := #[.int .i64 0, .int .i64 0]) ?_ 0 _ rfl; (with_reducible repeat (first | refine blk_drewN ?_ _ | refine blk_drew ?_ | refine blk_alloc ?_ _)); exact BK163.out) Try.underlying27 rfl (by kernel_rfl)) rfl ?_
                          exact ⟨by first | rfl | (simp [errW_none, errW_some] <;> rfl) | (simp [*, errW_none, errW_some] <;> rfl), by repeat (first | (with_reducible first | exact HB.out | apply below_alloc | apply pw_below_drewN | apply below_drew1 | refine below_set ?_ GE162.out | refine below_set ?_ GE163.out) | exact HB.out)⟩
                        · replace c43 := Bool.eq_false_iff.mpr c43
                          subst c43
                          have H1 : (if (wrap64 (2 * a0_1)) < 1000 then (if 1000 < t170 then (some (1, wrap64 (x14_32 + 1000), 0)) else (some (1, wrap64 (x14_32 + t170), 0))) else (if (wrap64 (2 * a0_1)) < t170 then (some (1, wrap64 (x14_32 + (wrap64 (2 * a0_1))), 0)) else (some (1, wrap64 (x14_32 + t170), 0)))) = some (r1, r2, r3) := by rw [if_neg (show ¬ (false = true) by decide)] at H; exact H
                          clear H
                          have H := H1
                          clear H1
                          by_cases c46 : (wrap64 (2 * a0_1)) < 1000
                          · rw [if_pos c46] at H
                            have c46b0 : decide ((wrap64 (2 * a0_1)) < 1000) = true := decide_eq_true c46
                            clear c46
                            by_cases c47 : 1000 < t170
                            · rw [if_pos c47] at H
                              have c47b0 : decide (1000 < t170) = true := decide_eq_true c47
                              clear c47
                              simp only [Option.some.injEq, Prod.mk.injEq] at H
                              obtain ⟨rfl, rfl, rfl⟩ := H
                              have hnb48 := NB162_163.out
                              have hnc48 := NB163_162.out
                              have hcz49_0 : wc.cell? ⟨gb162, 0, none⟩ = some (.bool a0_0) := (blk_cell BK162.out 0).trans rfl
                              have hcz49_1 : wc.cell? ⟨gb162, 1, none⟩ = some (.int .i64 a0_1) := (blk_cell BK162.out 1).trans rfl
                              have hcz49_2 : wc.cell? ⟨gb162, 2, none⟩ = some (.int .i64 a0_2) := (blk_cell BK162.out 2).trans rfl
                              have hcz49_3 : wc.cell? ⟨gb162, 3, none⟩ = some (.int .i64 a0_3) := (blk_cell BK162.out 3).trans rfl
                              have hcz49_4 : wc.cell? ⟨gb162, 4, none⟩ = some (.int .i64 a0_4) := (blk_cell BK162.out 4).trans rfl
                              have hfz49_0 := blk_frozen BK162.out 0
                              have hfz49_1 := blk_frozen BK162.out 1
                              have hfz49_2 := blk_frozen BK162.out 2
                              have hfz49_3 := blk_frozen BK162.out 3
                              have hfz49_4 := blk_frozen BK162.out 4
                              have hcz50_0 : wc.cell? ⟨gb163, 0, none⟩ = some (.int .i64 0) := (blk_cell BK163.out 0).trans rfl
                              have hcz50_1 : wc.cell? ⟨gb163, 1, none⟩ = some (.int .i64 0) := (blk_cell BK163.out 1).trans rfl
                              have hfz50_0 := blk_frozen BK163.out 0
                              have hfz50_1 := blk_frozen BK163.out 1
                              go_wp2
                              refine bodyPost_ret (results_ct rfl _ _ gb163 27 #[.int .i64 1, .int .i64 (wrap64 (x14_32 + 1000))] (0, 0) _ rfl (by (with_reducible repeat (first | refine blk_drewN ?_ _ | refine blk_drew ?_ | refine blk_alloc ?_ _)); refine blk_put (cs := #[.int .i64 1, .int .i64 0]) ?_ 1 _ rfl; (with_reducible repeat (first | refine blk_drewN ?_ _ | refine blk_drew ?_ | refine blk_alloc ?_ _)); refine blk_put (cs := #[.int .i64 0, .int .i64 0]) ?_ 0 _ rfl; (with_reducible repeat (first | refine blk_drewN ?_ _ | refine blk_drew ?_ | refine blk_alloc ?_ _)); exact BK163.out) Try.underlying27 rfl (by kernel_rfl)) rfl ?_
                              exact ⟨by first | rfl | (simp [errW_none, errW_some] <;> rfl) | (simp [*, errW_none, errW_some] <;> rfl), by repeat (first | (with_reducible first | exact HB.out | apply below_alloc | apply pw_below_drewN | apply below_drew1 | refine below_set ?_ GE162.out | refine below_set ?_ GE163.out) | exact HB.out)⟩
                            · rw [if_neg c47] at H
                              have c47b0 : decide (1000 < t170) = false := decide_eq_false c47
                              clear c47
                              simp only [Option.some.injEq, Prod.mk.injEq] at H
                              obtain ⟨rfl, rfl, rfl⟩ := H
                              have hnb51 := NB162_163.out
                              have hnc51 := NB163_162.out
                              have hcz52_0 : wc.cell? ⟨gb162, 0, none⟩ = some (.bool a0_0) := (blk_cell BK162.out 0).trans rfl
                              have hcz52_1 : wc.cell? ⟨gb162, 1, none⟩ = some (.int .i64 a0_1) := (blk_cell BK162.out 1).trans rfl
                              have hcz52_2 : wc.cell? ⟨gb162, 2, none⟩ = some (.int .i64 a0_2) := (blk_cell BK162.out 2).trans rfl
                              have hcz52_3 : wc.cell? ⟨gb162, 3, none⟩ = some (.int .i64 a0_3) := (blk_cell BK162.out 3).trans rfl
                              have hcz52_4 : wc.cell? ⟨gb162, 4, none⟩ = some (.int .i64 a0_4) := (blk_cell BK162.out 4).trans rfl
                              have hfz52_0 := blk_frozen BK162.out 0
                              have hfz52_1 := blk_frozen BK162.out 1
                              have hfz52_2 := blk_frozen BK162.out 2
                              have hfz52_3 := blk_frozen BK162.out 3
                              have hfz52_4 := blk_frozen BK162.out 4
                              have hcz53_0 : wc.cell? ⟨gb163, 0, none⟩ = some (.int .i64 0) := (blk_cell BK163.out 0).trans rfl
                              have hcz53_1 : wc.cell? ⟨gb163, 1, none⟩ = some (.int .i64 0) := (blk_cell BK163.out 1).trans rfl
                              have hfz53_0 := blk_frozen BK163.out 0
                              have hfz53_1 := blk_frozen BK163.out 1
                              go_wp2
                              refine bodyPost_ret (results_ct rfl _ _ gb163 27 #[.int .i64 1, .int .i64 (wrap64 (x14_32 + t170))] (0, 0) _ rfl (by (with_reducible repeat (first | refine blk_drewN ?_ _ | refine blk_drew ?_ | refine blk_alloc ?_ _)); refine blk_put (cs := #[.int .i64 1, .int .i64 0]) ?_ 1 _ rfl; (with_reducible repeat (first | refine blk_drewN ?_ _ | refine blk_drew ?_ | refine blk_alloc ?_ _)); refine blk_put (cs := #[.int .i64 0, .int .i64 0]) ?_ 0 _ rfl; (with_reducible repeat (first | refine blk_drewN ?_ _ | refine blk_drew ?_ | refine blk_alloc ?_ _)); exact BK163.out) Try.underlying27 rfl (by kernel_rfl)) rfl ?_
                              exact ⟨by first | rfl | (simp [errW_none, errW_some] <;> rfl) | (simp [*, errW_none, errW_some] <;> rfl), by repeat (first | (with_reducible first | exact HB.out | apply below_alloc | apply pw_below_drewN | apply below_drew1 | refine below_set ?_ GE162.out | refine below_set ?_ GE163.out) | exact HB.out)⟩
                          · rw [if_neg c46] at H
                            have c46b0 : decide ((wrap64 (2 * a0_1)) < 1000) = false := decide_eq_false c46
                            clear c46
                            by_cases c54 : (wrap64 (2 * a0_1)) < t170
                            · rw [if_pos c54] at H
                              have c54b0 : decide ((wrap64 (2 * a0_1)) < t170) = true := decide_eq_true c54
                              clear c54
                              simp only [Option.some.injEq, Prod.mk.injEq] at H
                              obtain ⟨rfl, rfl, rfl⟩ := H
                              have hnb55 := NB162_163.out
                              have hnc55 := NB163_162.out
                              have hcz56_0 : wc.cell? ⟨gb162, 0, none⟩ = some (.bool a0_0) := (blk_cell BK162.out 0).trans rfl
                              have hcz56_1 : wc.cell? ⟨gb162, 1, none⟩ = some (.int .i64 a0_1) := (blk_cell BK162.out 1).trans rfl
                              have hcz56_2 : wc.cell? ⟨gb162, 2, none⟩ = some (.int .i64 a0_2) := (blk_cell BK162.out 2).trans rfl
                              have hcz56_3 : wc.cell? ⟨gb162, 3, none⟩ = some (.int .i64 a0_3) := (blk_cell BK162.out 3).trans rfl
                              have hcz56_4 : wc.cell? ⟨gb162, 4, none⟩ = some (.int .i64 a0_4) := (blk_cell BK162.out 4).trans rfl
                              have hfz56_0 := blk_frozen BK162.out 0
                              have hfz56_1 := blk_frozen BK162.out 1
                              have hfz56_2 := blk_frozen BK162.out 2
                              have hfz56_3 := blk_frozen BK162.out 3
                              have hfz56_4 := blk_frozen BK162.out 4
                              have hcz57_0 : wc.cell? ⟨gb163, 0, none⟩ = some (.int .i64 0) := (blk_cell BK163.out 0).trans rfl
                              have hcz57_1 : wc.cell? ⟨gb163, 1, none⟩ = some (.int .i64 0) := (blk_cell BK163.out 1).trans rfl
                              have hfz57_0 := blk_frozen BK163.out 0
                              have hfz57_1 := blk_frozen BK163.out 1
                              go_wp2
                              refine bodyPost_ret (results_ct rfl _ _ gb163 27 #[.int .i64 1, .int .i64 (wrap64 (x14_32 + (wrap64 (2 * a0_1))))] (0, 0) _ rfl (by (with_reducible repeat (first | refine blk_drewN ?_ _ | refine blk_drew ?_ | refine blk_alloc ?_ _)); refine blk_put (cs := #[.int .i64 1, .int .i64 0]) ?_ 1 _ rfl; (with_reducible repeat (first | refine blk_drewN ?_ _ | refine blk_drew ?_ | refine blk_alloc ?_ _)); refine blk_put (cs := #[.int .i64 0, .int .i64 0]) ?_ 0 _ rfl; (with_reducible repeat (first | refine blk_drewN ?_ _ | refine blk_drew ?_ | refine blk_alloc ?_ _)); exact BK163.out) Try.underlying27 rfl (by kernel_rfl)) rfl ?_
                              exact ⟨by first | rfl | (simp [errW_none, errW_some] <;> rfl) | (simp [*, errW_none, errW_some] <;> rfl), by repeat (first | (with_reducible first | exact HB.out | apply below_alloc | apply pw_below_drewN | apply below_drew1 | refine below_set ?_ GE162.out | refine below_set ?_ GE163.out) | exact HB.out)⟩
                            · rw [if_neg c54] at H
                              have c54b0 : decide ((wrap64 (2 * a0_1)) < t170) = false := decide_eq_false c54
                              clear c54
                              simp only [Option.some.injEq, Prod.mk.injEq] at H
                              obtain ⟨rfl, rfl, rfl⟩ := H
                              have hnb58 := NB162_163.out
                              have hnc58 := NB163_162.out
                              have hcz59_0 : wc.cell? ⟨gb162, 0, none⟩ = some (.bool a0_0) := (blk_cell BK162.out 0).trans rfl
                              have hcz59_1 : wc.cell? ⟨gb162, 1, none⟩ = some (.int .i64 a0_1) := (blk_cell BK162.out 1).trans rfl
                              have hcz59_2 : wc.cell? ⟨gb162, 2, none⟩ = some (.int .i64 a0_2) := (blk_cell BK162.out 2).trans rfl
                              have hcz59_3 : wc.cell? ⟨gb162, 3, none⟩ = some (.int .i64 a0_3) := (blk_cell BK162.out 3).trans rfl
                              have hcz59_4 : wc.cell? ⟨gb162, 4, none⟩ = some (.int .i64 a0_4) := (blk_cell BK162.out 4).trans rfl
                              have hfz59_0 := blk_frozen BK162.out 0
                              have hfz59_1 := blk_frozen BK162.out 1
                              have hfz59_2 := blk_frozen BK162.out 2
                              have hfz59_3 := blk_frozen BK162.out 3
                              have hfz59_4 := blk_frozen BK162.out 4
                              have hcz60_0 : wc.cell? ⟨gb163, 0, none⟩ = some (.int .i64 0) := (blk_cell BK163.out 0).trans rfl
                              have hcz60_1 : wc.cell? ⟨gb163, 1, none⟩ = some (.int .i64 0) := (blk_cell BK163.out 1).trans rfl
                              have hfz60_0 := blk_frozen BK163.out 0
                              have hfz60_1 := blk_frozen BK163.out 1
                              go_wp2
                              refine bodyPost_ret (results_ct rfl _ _ gb163 27 #[.int .i64 1, .int .i64 (wrap64 (x14_32 + t170))] (0, 0) _ rfl (by (with_reducible repeat (first | refine blk_drewN ?_ _ | refine blk_drew ?_ | refine blk_alloc ?_ _)); refine blk_put (cs := #[.int .i64 1, .int .i64 0]) ?_ 1 _ rfl; (with_reducible repeat (first | refine blk_drewN ?_ _ | refine blk_drew ?_ | refine blk_alloc ?_ _)); refine blk_put (cs := #[.int .i64 0, .int .i64 0]) ?_ 0 _ rfl; (with_reducible repeat (first | refine blk_drewN ?_ _ | refine blk_drew ?_ | refine blk_alloc ?_ _)); exact BK163.out) Try.underlying27 rfl (by kernel_rfl)) rfl ?_
                              exact ⟨by first | rfl | (simp [errW_none, errW_some] <;> rfl) | (simp [*, errW_none, errW_some] <;> rfl), by repeat (first | (with_reducible first | exact HB.out | apply below_alloc | apply pw_below_drewN | apply below_drew1 | refine below_set ?_ GE162.out | refine below_set ?_ GE163.out) | exact HB.out)⟩

end Go.Proofs.Ytiilmjmgomcipaa.PTimerTells
