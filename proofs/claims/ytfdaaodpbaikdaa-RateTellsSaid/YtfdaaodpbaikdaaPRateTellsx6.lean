-- Written by a program of this session (wip/hprint.py), over the kit's print.py: the walk of one law. Lean checks it.
import Derived.Test.YtfdaaodpbaikdaaPRateTellsx0
import Derived.Test.YtfdaaodpbaikdaaPRateTellsx3
import Derived.Test.YtfdaaodpbaikdaaPRateTellsx4
import Derived.Test.YtfdaaodpbaikdaaPRateTellsx5
namespace Go.Proofs.Ytfdaaodpbaikdaa.PRateTells
open Go.RowKit Go.Proofs.YtfdaaodpbaikdaaW.PrintWords Go.Proofs.YtfdaaodpbaikdaaW.PrintLast Go.Proofs.YtfdaaodpbaikdaaW.PrintMore
attribute [local go_sem] max2_int min2_int max_two min_two max_three min_three max_four min_four   -- for this text's walks alone
set_option linter.unusedVariables false
set_option linter.unusedSimpArgs false

/-! ### fourinhandref11_Sample: function 14 -/
mutual
def fourinhandref11_Sample.j0 : Nat → Int → Int → Bool → Int → Int → List Int → Option (Int × Int × List Int × Int × Int)
  | 0, _, _, _, _, _, _ => none
  | k + 1, x1, x2, x36, x209000, x209001, x209002 => if x36 = true then (some (0, 0, ([] : List Int), 0, 1)) else ((fourinhandref11_Own.f x209000 x209001 x209002).bind fun bt211 => (if (wrap64 (x209001 - x2)) ≤ 0 then (some (bt211.1, bt211.2.1, bt211.2.2, 0, 0)) else ((fourinhandref01_MulDiv.f k 1000000 (wrap64 (x209000 - x1)) (wrap64 (x209001 - x2))).bind fun bt217 => (if bt217.2 = true then (fourinhandref11_Sample.j1 k bt217.1 (decide (bt217.1 > 1152921504606846976)) bt211.1 bt211.2.1 bt211.2.2) else (fourinhandref11_Sample.j1 k bt217.1 true bt211.1 bt211.2.1 bt211.2.2)))))
def fourinhandref11_Sample.j1 : Nat → Int → Bool → Int → Int → List Int → Option (Int × Int × List Int × Int × Int)
  | 0, _, _, _, _, _ => none
  | k + 1, x11, x63, x217000, x217001, x217002 => if x63 = true then (if x217002.length < 17592186044416 then ((some (x217002 ++ [1152921504606846976] : List Int)).bind fun y219 => (if (y219.length : Int) > 10 then (if 1 ≤ (y219.length : Int) then (some (x217000, x217001, (y219.drop (1 : Int).toNat), 1152921504606846976, 0)) else (none)) else (some (x217000, x217001, y219, 1152921504606846976, 0)))) else (none)) else (if x217002.length < 17592186044416 then ((some (x217002 ++ [x11] : List Int)).bind fun y225 => (if (y225.length : Int) > 10 then (if 1 ≤ (y225.length : Int) then (some (x217000, x217001, (y225.drop (1 : Int).toNat), x11, 0)) else (none)) else (some (x217000, x217001, y225, x11, 0)))) else (none))
end
def fourinhandref11_Sample.f (k : Nat) (a0_0 : Int) (a0_1 : Int) (l0_2 : List Int) (a1 : Int) (a2 : Int) : Option (Int × Int × List Int × Int × Int) := (fourinhandref11_May.f k a0_0 a0_1 l0_2).bind fun t210 => (if t210 = true then (if a1 < 0 then (fourinhandref11_Sample.j0 k a1 a2 true a0_0 a0_1 l0_2) else (if a1 > a0_0 then (fourinhandref11_Sample.j0 k a1 a2 true a0_0 a0_1 l0_2) else (if a2 < 0 then (fourinhandref11_Sample.j0 k a1 a2 true a0_0 a0_1 l0_2) else (fourinhandref11_Sample.j0 k a1 a2 (decide (a2 > a0_1)) a0_0 a0_1 l0_2)))) else (fourinhandref11_Sample.j0 k a1 a2 true a0_0 a0_1 l0_2))
theorem fourinhandref11_Sample.mono_l : ∀ k, (∀ y0 y1 y2 y3 y4 y5, LeO (fourinhandref11_Sample.j0 k y0 y1 y2 y3 y4 y5) (fourinhandref11_Sample.j0 (k + 1) y0 y1 y2 y3 y4 y5)) ∧ (∀ y0 y1 y2 y3 y4, LeO (fourinhandref11_Sample.j1 k y0 y1 y2 y3 y4) (fourinhandref11_Sample.j1 (k + 1) y0 y1 y2 y3 y4))
  | 0 => ⟨fun _ _ _ _ _ _ r h => by simp [fourinhandref11_Sample.j0] at h, fun _ _ _ _ _ r h => by simp [fourinhandref11_Sample.j1] at h⟩
  | k + 1 => by
    obtain ⟨ih0, ih1⟩ := fourinhandref11_Sample.mono_l k
    refine ⟨?_, ?_⟩
    · intro y0 y1 y2 y3 y4 y5
      unfold fourinhandref11_Sample.j0
      repeat' first
      | (with_reducible exact ih0 _ _ _ _ _ _)
      | (with_reducible exact ih1 _ _ _ _ _)
      | (with_reducible exact fourinhandref01_MulDiv.mono _ _ _ _)
      | (with_reducible exact fourinhandref11_May.mono _ _ _ _)
      | (with_reducible exact LeO.refl _)
      | (with_reducible exact LeO.none _)
      | (with_reducible refine LeO.ite ?_ ?_)
      | (with_reducible refine LeO.bind ?_ (fun _ => ?_))
      | exact ih0 _ _ _ _ _ _
      | exact ih1 _ _ _ _ _
      | exact fourinhandref01_MulDiv.mono _ _ _ _
      | exact fourinhandref11_May.mono _ _ _ _
      | exact LeO.none _
      | refine LeO.ite ?_ ?_
      | refine LeO.bind ?_ (fun _ => ?_)
    · intro y0 y1 y2 y3 y4
      unfold fourinhandref11_Sample.j1
      repeat' first
      | (with_reducible exact ih0 _ _ _ _ _ _)
      | (with_reducible exact ih1 _ _ _ _ _)
      | (with_reducible exact fourinhandref01_MulDiv.mono _ _ _ _)
      | (with_reducible exact fourinhandref11_May.mono _ _ _ _)
      | (with_reducible exact LeO.refl _)
      | (with_reducible exact LeO.none _)
      | (with_reducible refine LeO.ite ?_ ?_)
      | (with_reducible refine LeO.bind ?_ (fun _ => ?_))
      | exact ih0 _ _ _ _ _ _
      | exact ih1 _ _ _ _ _
      | exact fourinhandref01_MulDiv.mono _ _ _ _
      | exact fourinhandref11_May.mono _ _ _ _
      | exact LeO.none _
      | refine LeO.ite ?_ ?_
      | refine LeO.bind ?_ (fun _ => ?_)
theorem fourinhandref11_Sample.mono : ∀ a0 a1 a2 a3 a4 k, LeO (fourinhandref11_Sample.f k a0 a1 a2 a3 a4) (fourinhandref11_Sample.f (k + 1) a0 a1 a2 a3 a4) := by
  intro a0 a1 a2 a3 a4 k
  obtain ⟨ih0, ih1⟩ := fourinhandref11_Sample.mono_l k
  unfold fourinhandref11_Sample.f
  repeat' first
      | (with_reducible exact ih0 _ _ _ _ _ _)
      | (with_reducible exact ih1 _ _ _ _ _)
      | (with_reducible exact fourinhandref01_MulDiv.mono _ _ _ _)
      | (with_reducible exact fourinhandref11_May.mono _ _ _ _)
      | (with_reducible exact LeO.refl _)
      | (with_reducible exact LeO.none _)
      | (with_reducible refine LeO.ite ?_ ?_)
      | (with_reducible refine LeO.bind ?_ (fun _ => ?_))
      | exact ih0 _ _ _ _ _ _
      | exact ih1 _ _ _ _ _
      | exact fourinhandref01_MulDiv.mono _ _ _ _
      | exact fourinhandref11_May.mono _ _ _ _
      | exact LeO.none _
      | refine LeO.ite ?_ ?_
      | refine LeO.bind ?_ (fun _ => ?_)
set_option maxHeartbeats 8000000 in
set_option maxRecDepth 100000 in
theorem fourinhandref11_Sample.calls (k : Nat) (a0_0 : Int) (a0_1 : Int) (A0_2 : Option Addr) (c0_2 : Nat) (l0_2 : List Int) (a1 : Int) (a2 : Int) (r1 : Int) (r2 : Int) (r3 : List Int) (r4 : Int) (r5 : Int) (w : World) (hr0_2 : Kd.C (Kd.int .i64) w A0_2 l0_2.length l0_2) (hc0_2 : l0_2.length ≤ c0_2) (h : fourinhandref11_Sample.f k a0_0 a0_1 l0_2 a1 a2 = some (r1, r2, r3, r4, r5)) :
    Calls Try.prog 14 #[.agg #[.int .i64 a0_0, .int .i64 a0_1, .slice A0_2 l0_2.length c0_2], .int .i64 a1, .int .i64 a2] w fun e w' => ∃ v2_ : Value, e = .returned (.tuple #[.agg #[.int .i64 r1, .int .i64 r2, v2_], .int .i64 r4, .int .i64 r5]) ∧ Kd.Q (Kd.int .i64) 3 w' w.heap.size (fun _ => True) v2_ r3 ∧ Below w.heap.size w w' := by
  have hu24 := Try.underlying24
  have HR0_2 := Aside0.mk hr0_2
  have HC0_2 := Aside0.mk hc0_2
  clear hr0_2 hc0_2
  have HB := Aside0.mk (Below.refl w.heap.size w)
  have H : ((fourinhandref11_May.f k a0_0 a0_1 l0_2).bind fun t210 => (if t210 = true then (if a1 < 0 then (fourinhandref11_Sample.j0 k a1 a2 true a0_0 a0_1 l0_2) else (if a1 > a0_0 then (fourinhandref11_Sample.j0 k a1 a2 true a0_0 a0_1 l0_2) else (if a2 < 0 then (fourinhandref11_Sample.j0 k a1 a2 true a0_0 a0_1 l0_2) else (fourinhandref11_Sample.j0 k a1 a2 (decide (a2 > a0_1)) a0_0 a0_1 l0_2)))) else (fourinhandref11_Sample.j0 k a1 a2 true a0_0 a0_1 l0_2))) = some (r1, r2, r3, r4, r5) := h
  clear h
  replace H := Option.bind_eq_some_iff.mp H
  obtain ⟨t210, A40, H⟩ := H
  replace H : (if t210 = true then (if a1 < 0 then (fourinhandref11_Sample.j0 k a1 a2 true a0_0 a0_1 l0_2) else (if a1 > a0_0 then (fourinhandref11_Sample.j0 k a1 a2 true a0_0 a0_1 l0_2) else (if a2 < 0 then (fourinhandref11_Sample.j0 k a1 a2 true a0_0 a0_1 l0_2) else (fourinhandref11_Sample.j0 k a1 a2 (decide (a2 > a0_1)) a0_0 a0_1 l0_2)))) else (fourinhandref11_Sample.j0 k a1 a2 true a0_0 a0_1 l0_2)) = some (r1, r2, r3, r4, r5) := H
  have A4 := Aside0.mk A40
  clear A40
  have HC5 := Aside0.mk H
  clear H
  go_enter Try.func14, Try.ntmps14
  go_upto_region 2 with (first | ((with_reducible refine gate_dst (N := 3) rfl ?_); refine box_event ?hg (N := 3) ?hd (cs := #[.int .i64 a0_0, .int .i64 a0_1, .slice A0_2 l0_2.length c0_2]) (t := 24) ?hr ?_; (case hd => rfl); (case hg => rfl); (case hr => first | (go_simp; done) | (go_simp; rfl)); intro gb208 hg w6 hbox hb; have n0_ := Aside0.mk (below_step (by repeat (first | (with_reducible first | exact HB.out | apply below_alloc | apply pw_below_drewN | apply below_drew1) | exact HB.out)) hb); have n1_ := Aside0.mk (hbox); have n2_ := Aside0.mk ((by rw [hg]; exact (below_size (by repeat (first | (with_reducible first | exact HB.out | apply below_alloc | apply pw_below_drewN | apply below_drew1) | exact HB.out))) : w.heap.size ≤ gb208)); have n3_ := Aside0.mk ((by rw [hg]; exact (below_size (by repeat (first | (with_reducible first | exact HB.out | apply below_alloc | apply pw_below_drewN | apply below_drew1) | exact HB.out))) : w.heap.size ≤ gb208)); clear HB; have HB := n0_; have BK208 := n1_; have GW208 := n2_; have GE208 := n3_; clear n0_ n1_ n2_ n3_; clear hb hbox hg) | ((with_reducible refine gate_dst (N := 6) rfl ?_); refine box_event ?hg (N := 6) ?hd (cs := #[.int .i64 0, .int .i64 0, .slice none 0 0]) (t := 24) ?hr ?_; (case hd => rfl); (case hg => rfl); (case hr => first | (go_simp; done) | (go_simp; rfl)); intro gb209 hg w7 hbox hb; have n0_ := Aside0.mk (blk_below (g := gb208) (o := .cells #[.int .i64 a0_0, .int .i64 a0_1, .slice A0_2 l0_2.length c0_2] 24 (0, 0)) (by (with_reducible repeat (first | refine blk_drewN ?_ _ | refine blk_drew ?_ | refine blk_alloc ?_ _)); exact BK208.out) hb); have n1_ := Aside0.mk (below_step (by repeat (first | (with_reducible first | exact HB.out | apply below_alloc | apply pw_below_drewN | apply below_drew1 | refine below_set ?_ GE208.out) | exact HB.out)) hb); have n2_ := Aside0.mk (hbox); have n3_ := Aside0.mk ((by rw [hg]; exact (below_size (by repeat (first | (with_reducible first | exact HB.out | apply below_alloc | apply pw_below_drewN | apply below_drew1 | refine below_set ?_ GE208.out) | exact HB.out))) : w.heap.size ≤ gb209)); have n4_ := Aside0.mk ((by rw [hg]; exact (below_size (by repeat (first | (with_reducible first | exact HB.out | apply below_alloc | apply pw_below_drewN | apply below_drew1 | refine below_set ?_ GE208.out) | exact HB.out))) : w.heap.size ≤ gb209)); have n5_ := Aside0.mk ((by rw [hg]; exact Nat.ne_of_lt (blk_lt (g := gb208) (o := .cells #[.int .i64 a0_0, .int .i64 a0_1, .slice A0_2 l0_2.length c0_2] 24 (0, 0)) (by (with_reducible repeat (first | refine blk_drewN ?_ _ | refine blk_drew ?_ | refine blk_alloc ?_ _)); exact BK208.out)) : gb208 ≠ gb209)); have n6_ := Aside0.mk ((by rw [hg]; exact Nat.ne_of_gt (blk_lt (g := gb208) (o := .cells #[.int .i64 a0_0, .int .i64 a0_1, .slice A0_2 l0_2.length c0_2] 24 (0, 0)) (by (with_reducible repeat (first | refine blk_drewN ?_ _ | refine blk_drew ?_ | refine blk_alloc ?_ _)); exact BK208.out)) : gb209 ≠ gb208)); clear BK208; clear HB; have BK208 := n0_; have HB := n1_; have BK209 := n2_; have GW209 := n3_; have GE209 := n4_; have NB208_209 := n5_; have NB209_208 := n6_; clear n0_ n1_ n2_ n3_ n4_ n5_ n6_; clear hb hbox hg; have hnb8 := NB208_209.out; have hnc8 := NB209_208.out; have hcz9_0 : w7.cell? ⟨gb208, 0, none⟩ = some (.int .i64 a0_0) := (blk_cell BK208.out 0).trans rfl; have hcz9_1 : w7.cell? ⟨gb208, 1, none⟩ = some (.int .i64 a0_1) := (blk_cell BK208.out 1).trans rfl; have hcz9_2 : w7.cell? ⟨gb208, 2, none⟩ = some (.slice A0_2 l0_2.length c0_2) := (blk_cell BK208.out 2).trans rfl; have hfz9_0 := blk_frozen BK208.out 0; have hfz9_1 := blk_frozen BK208.out 1; have hfz9_2 := blk_frozen BK208.out 2) | ((with_reducible refine gate_callee (f := 18) rfl ?_); refine goesL_ (some 14) rfl rfl Try.func18 (by kernel_rfl) rfl #[.agg #[.int .i64 a0_0, .int .i64 a0_1, .slice A0_2 l0_2.length c0_2]] rfl (by (try simp only [List.map_toArray, List.map_cons, List.map_nil]); first | done | rfl | (simp only [List.length_drop, List.length_take]; rfl)) ?_; (with_reducible refine (fourinhandref11_May.calls k a0_0 a0_1 _ _ l0_2 t210 _ ?side1 ?side2 A4.out).mono ?_); (case side1 => repeat (first | exact (Kd.C_below HR0_2.out HB.out) | (with_reducible refine Kd.C_alloc ?_ _) | (with_reducible refine Kd.C_drewN ?_ _) | (with_reducible refine Kd.C_drew ?_))); (case side2 => exact HC0_2.out); rintro e w10 ⟨rfl, hb⟩; refine ⟨_, rfl, ?_⟩; have n0_ := Aside0.mk (blk_below (g := gb208) (o := .cells #[.int .i64 a0_0, .int .i64 a0_1, .slice A0_2 l0_2.length c0_2] 24 (0, 0)) (by (with_reducible repeat (first | refine blk_drewN ?_ _ | refine blk_drew ?_ | refine blk_alloc ?_ _)); exact BK208.out) hb); have n1_ := Aside0.mk (blk_below (g := gb209) (o := .cells #[.int .i64 0, .int .i64 0, .slice none 0 0] 24 (0, 0)) (by (with_reducible repeat (first | refine blk_drewN ?_ _ | refine blk_drew ?_ | refine blk_alloc ?_ _)); exact BK209.out) hb); have n2_ := Aside0.mk (below_step (by repeat (first | (with_reducible first | exact HB.out | apply below_alloc | apply pw_below_drewN | apply below_drew1 | refine below_set ?_ GE208.out | refine below_set ?_ GE209.out) | exact HB.out)) hb); clear BK208; clear BK209; clear HB; have BK208 := n0_; have BK209 := n1_; have HB := n2_; clear n0_ n1_ n2_; (try clear hb); (try clear hb2); (try clear hk); (try clear hi)))
  (try simp only [Act.put, List.setIfInBounds_toArray, List.set_cons_zero, List.set_cons_succ])
  go_cut [36] (fun v36 wc => ∃ (kq : Nat) (x36_4 : Bool), v36 = .bool x36_4 ∧ Aside0 (fourinhandref11_Sample.j0 kq a1 a2 x36_4 a0_0 a0_1 l0_2 = some (r1, r2, r3, r4, r5)) ∧ Aside0 (kq ≤ k) ∧ Aside0 (wc.heap[gb208]? = some (.cells #[.int .i64 a0_0, .int .i64 a0_1, (.slice A0_2 l0_2.length c0_2)] 24 (0, 0))) ∧ Aside0 (wc.heap[gb209]? = some (.cells #[.int .i64 0, .int .i64 0, (.slice none 0 0)] 24 (0, 0))) ∧ Aside0 (Below w.heap.size w wc))
  case first =>
    have H := HC5.out
    clear HC5
    by_cases c11 : t210 = true
    · subst c11
      have H1 : (if a1 < 0 then (fourinhandref11_Sample.j0 k a1 a2 true a0_0 a0_1 l0_2) else (if a1 > a0_0 then (fourinhandref11_Sample.j0 k a1 a2 true a0_0 a0_1 l0_2) else (if a2 < 0 then (fourinhandref11_Sample.j0 k a1 a2 true a0_0 a0_1 l0_2) else (fourinhandref11_Sample.j0 k a1 a2 (decide (a2 > a0_1)) a0_0 a0_1 l0_2)))) = some (r1, r2, r3, r4, r5) := by rw [if_pos rfl] at H; exact H
      clear H
      have H := H1
      clear H1
      by_cases c12 : a1 < 0
      · rw [if_pos c12] at H
        have c12b0 : decide (a1 < 0) = true := decide_eq_true c12
        clear c12
        (first | rw [c12b0] | (simp only [i64_w, i32_w]; rw [c12b0]) | skip)
        have H' := Aside0.mk H
        clear H
        go_wp2
        go_meet
        case rel => exact ⟨_, (true), (by first | rfl | (simp; done) | (simp [*]; done)), H', ⟨by first | omega | exact Nat.le_refl _⟩, ⟨by (with_reducible repeat (first | refine blk_drewN ?_ _ | refine blk_drew ?_ | refine blk_alloc ?_ _)); exact BK208.out⟩, ⟨by (with_reducible repeat (first | refine blk_drewN ?_ _ | refine blk_drew ?_ | refine blk_alloc ?_ _)); exact BK209.out⟩, ⟨by repeat (first | (with_reducible first | exact HB.out | apply below_alloc | apply pw_below_drewN | apply below_drew1 | refine below_set ?_ GE208.out | refine below_set ?_ GE209.out) | exact HB.out)⟩⟩
      · rw [if_neg c12] at H
        have c12b0 : decide (a1 < 0) = false := decide_eq_false c12
        clear c12
        (first | rw [c12b0] | (simp only [i64_w, i32_w]; rw [c12b0]) | skip)
        by_cases c13 : a1 > a0_0
        · rw [if_pos c13] at H
          have c13b0 : decide (a0_0 < a1) = true := decide_eq_true c13
          clear c13
          have H' := Aside0.mk H
          clear H
          have hnb14 := NB208_209.out
          have hnc14 := NB209_208.out
          have hcz15_0 : w10.cell? ⟨gb208, 0, none⟩ = some (.int .i64 a0_0) := (blk_cell BK208.out 0).trans rfl
          have hcz15_1 : w10.cell? ⟨gb208, 1, none⟩ = some (.int .i64 a0_1) := (blk_cell BK208.out 1).trans rfl
          have hcz15_2 : w10.cell? ⟨gb208, 2, none⟩ = some (.slice A0_2 l0_2.length c0_2) := (blk_cell BK208.out 2).trans rfl
          have hfz15_0 := blk_frozen BK208.out 0
          have hfz15_1 := blk_frozen BK208.out 1
          have hfz15_2 := blk_frozen BK208.out 2
          go_wp2
          go_meet
          case rel => exact ⟨_, (true), (by first | rfl | (simp; done) | (simp [*]; done)), H', ⟨by first | omega | exact Nat.le_refl _⟩, ⟨by (with_reducible repeat (first | refine blk_drewN ?_ _ | refine blk_drew ?_ | refine blk_alloc ?_ _)); exact BK208.out⟩, ⟨by (with_reducible repeat (first | refine blk_drewN ?_ _ | refine blk_drew ?_ | refine blk_alloc ?_ _)); exact BK209.out⟩, ⟨by repeat (first | (with_reducible first | exact HB.out | apply below_alloc | apply pw_below_drewN | apply below_drew1 | refine below_set ?_ GE208.out | refine below_set ?_ GE209.out) | exact HB.out)⟩⟩
        · rw [if_neg c13] at H
          have c13b0 : decide (a0_0 < a1) = false := decide_eq_false c13
          clear c13
          by_cases c16 : a2 < 0
          · rw [if_pos c16] at H
            have c16b0 : decide (a2 < 0) = true := decide_eq_true c16
            clear c16
            have H' := Aside0.mk H
            clear H
            have hnb17 := NB208_209.out
            have hnc17 := NB209_208.out
            have hcz18_0 : w10.cell? ⟨gb208, 0, none⟩ = some (.int .i64 a0_0) := (blk_cell BK208.out 0).trans rfl
            have hcz18_1 : w10.cell? ⟨gb208, 1, none⟩ = some (.int .i64 a0_1) := (blk_cell BK208.out 1).trans rfl
            have hcz18_2 : w10.cell? ⟨gb208, 2, none⟩ = some (.slice A0_2 l0_2.length c0_2) := (blk_cell BK208.out 2).trans rfl
            have hfz18_0 := blk_frozen BK208.out 0
            have hfz18_1 := blk_frozen BK208.out 1
            have hfz18_2 := blk_frozen BK208.out 2
            go_wp2
            go_meet
            case rel => exact ⟨_, (true), (by first | rfl | (simp; done) | (simp [*]; done)), H', ⟨by first | omega | exact Nat.le_refl _⟩, ⟨by (with_reducible repeat (first | refine blk_drewN ?_ _ | refine blk_drew ?_ | refine blk_alloc ?_ _)); exact BK208.out⟩, ⟨by (with_reducible repeat (first | refine blk_drewN ?_ _ | refine blk_drew ?_ | refine blk_alloc ?_ _)); exact BK209.out⟩, ⟨by repeat (first | (with_reducible first | exact HB.out | apply below_alloc | apply pw_below_drewN | apply below_drew1 | refine below_set ?_ GE208.out | refine below_set ?_ GE209.out) | exact HB.out)⟩⟩
          · rw [if_neg c16] at H
            have c16b0 : decide (a2 < 0) = false := decide_eq_false c16
            clear c16
            have H' := Aside0.mk H
            clear H
            have hnb19 := NB208_209.out
            have hnc19 := NB209_208.out
            have hcz20_0 : w10.cell? ⟨gb208, 0, none⟩ = some (.int .i64 a0_0) := (blk_cell BK208.out 0).trans rfl
            have hcz20_1 : w10.cell? ⟨gb208, 1, none⟩ = some (.int .i64 a0_1) := (blk_cell BK208.out 1).trans rfl
            have hcz20_2 : w10.cell? ⟨gb208, 2, none⟩ = some (.slice A0_2 l0_2.length c0_2) := (blk_cell BK208.out 2).trans rfl
            have hfz20_0 := blk_frozen BK208.out 0
            have hfz20_1 := blk_frozen BK208.out 1
            have hfz20_2 := blk_frozen BK208.out 2
            go_wp2
            go_meet
            case rel => exact ⟨_, (decide (a2 > a0_1)), (by first | rfl | (simp; done) | (simp [*]; done)), H', ⟨by first | omega | exact Nat.le_refl _⟩, ⟨by (with_reducible repeat (first | refine blk_drewN ?_ _ | refine blk_drew ?_ | refine blk_alloc ?_ _)); exact BK208.out⟩, ⟨by (with_reducible repeat (first | refine blk_drewN ?_ _ | refine blk_drew ?_ | refine blk_alloc ?_ _)); exact BK209.out⟩, ⟨by repeat (first | (with_reducible first | exact HB.out | apply below_alloc | apply pw_below_drewN | apply below_drew1 | refine below_set ?_ GE208.out | refine below_set ?_ GE209.out) | exact HB.out)⟩⟩
    · replace c11 := Bool.eq_false_iff.mpr c11
      subst c11
      have H1 : (fourinhandref11_Sample.j0 k a1 a2 true a0_0 a0_1 l0_2) = some (r1, r2, r3, r4, r5) := by rw [if_neg (show ¬ (false = true) by decide)] at H; exact H
      clear H
      have H := H1
      clear H1
      have H' := Aside0.mk H
      clear H
      go_wp2
      go_meet
      case rel => exact ⟨_, (true), (by first | rfl | (simp; done) | (simp [*]; done)), H', ⟨by first | omega | exact Nat.le_refl _⟩, ⟨by (with_reducible repeat (first | refine blk_drewN ?_ _ | refine blk_drew ?_ | refine blk_alloc ?_ _)); exact BK208.out⟩, ⟨by (with_reducible repeat (first | refine blk_drewN ?_ _ | refine blk_drew ?_ | refine blk_alloc ?_ _)); exact BK209.out⟩, ⟨by repeat (first | (with_reducible first | exact HB.out | apply below_alloc | apply pw_below_drewN | apply below_drew1 | refine below_set ?_ GE208.out | refine below_set ?_ GE209.out) | exact HB.out)⟩⟩
  case rest =>
    clear HC5
    try clear c1
    try clear p2
    try clear c8
    try clear c11
    try clear c12
    try clear c12b0
    try clear c13
    try clear c13b0
    try clear c14
    try clear c16
    try clear c16b0
    try clear c17
    try clear c18
    try clear c19
    try clear hcz15_0
    try clear hcz15_1
    try clear hcz15_2
    try clear hcz18_0
    try clear hcz18_1
    try clear hcz18_2
    try clear hcz20_0
    try clear hcz20_1
    try clear hcz20_2
    try clear hcz9_0
    try clear hcz9_1
    try clear hcz9_2
    try clear hfz15_0
    try clear hfz15_1
    try clear hfz15_2
    try clear hfz18_0
    try clear hfz18_1
    try clear hfz18_2
    try clear hfz20_0
    try clear hfz20_1
    try clear hfz20_2
    try clear hfz9_0
    try clear hfz9_1
    try clear hfz9_2
    obtain ⟨kq, x36_4, rfl, HA, HJ4, BK208, BK209, HB⟩ := hcut
    cases kq with
    | zero => exact absurd HA.out (by simp [fourinhandref11_Sample.j0])
    | succ kj4 =>
      have H := HA.out
      clear HA
      simp only [fourinhandref11_Sample.j0] at H
      by_cases c21 : x36_4 = true
      · subst c21
        have H1 : (some (0, 0, ([] : List Int), 0, 1)) = some (r1, r2, r3, r4, r5) := by rw [if_pos rfl] at H; exact H
        clear H
        have H := H1
        clear H1
        simp only [Option.some.injEq, Prod.mk.injEq] at H
        obtain ⟨rfl, rfl, rfl, rfl, rfl⟩ := H
        have hnb22 := NB209_208.out
        have hnc22 := NB208_209.out
        have hcz23_0 : wc.cell? ⟨gb209, 0, none⟩ = some (.int .i64 0) := (blk_cell BK209.out 0).trans rfl
        have hcz23_1 : wc.cell? ⟨gb209, 1, none⟩ = some (.int .i64 0) := (blk_cell BK209.out 1).trans rfl
        have hcz23_2 : wc.cell? ⟨gb209, 2, none⟩ = some (.slice none 0 0) := (blk_cell BK209.out 2).trans rfl
        have hfz23_0 := blk_frozen BK209.out 0
        have hfz23_1 := blk_frozen BK209.out 1
        have hfz23_2 := blk_frozen BK209.out 2
        go_wp2
        refine bodyPost_ret (results_ctt rfl _ _ gb209 24 #[.int .i64 0, .int .i64 0, .slice none 0 0] (0, 0) _ rfl (by (with_reducible repeat (first | refine blk_drewN ?_ _ | refine blk_drew ?_ | refine blk_alloc ?_ _)); refine blk_put (cs := #[.int .i64 0, .int .i64 0, .slice none 0 0]) ?_ 2 _ rfl; (with_reducible repeat (first | refine blk_drewN ?_ _ | refine blk_drew ?_ | refine blk_alloc ?_ _)); refine blk_put (cs := #[.int .i64 0, .int .i64 0, .slice none 0 0]) ?_ 1 _ rfl; (with_reducible repeat (first | refine blk_drewN ?_ _ | refine blk_drew ?_ | refine blk_alloc ?_ _)); refine blk_put (cs := #[.int .i64 0, .int .i64 0, .slice none 0 0]) ?_ 0 _ rfl; (with_reducible repeat (first | refine blk_drewN ?_ _ | refine blk_drew ?_ | refine blk_alloc ?_ _)); exact BK209.out) Try.underlying24 rfl (by kernel_rfl)) rfl ?_
        exact ⟨_, by first | rfl | (simp [errW_none, errW_some] <;> rfl) | (simp [*, errW_none, errW_some] <;> rfl), Kd.Q_of_R (by first | exact Kd.R_nil _ _ _ _ _ | exact Kd.N_nil _ _ _ _ _ | exact Kd.V_nil _ _ _ _ _ | exact Kd.Q_nil _ _ _ _ _ | exact Kd.S_nil _ _ _ _ _), by repeat (first | (with_reducible first | exact HB.out | apply below_alloc | apply pw_below_drewN | apply below_drew1 | refine below_set ?_ GE208.out | refine below_set ?_ GE209.out) | exact HB.out)⟩
      · replace c21 := Bool.eq_false_iff.mpr c21
        subst c21
        have H1 : ((fourinhandref11_Own.f a0_0 a0_1 l0_2).bind fun bt211 => (if (wrap64 (a0_1 - a2)) ≤ 0 then (some (bt211.1, bt211.2.1, bt211.2.2, 0, 0)) else ((fourinhandref01_MulDiv.f kj4 1000000 (wrap64 (a0_0 - a1)) (wrap64 (a0_1 - a2))).bind fun bt217 => (if bt217.2 = true then (fourinhandref11_Sample.j1 kj4 bt217.1 (decide (bt217.1 > 1152921504606846976)) bt211.1 bt211.2.1 bt211.2.2) else (fourinhandref11_Sample.j1 kj4 bt217.1 true bt211.1 bt211.2.1 bt211.2.2))))) = some (r1, r2, r3, r4, r5) := by rw [if_neg (show ¬ (false = true) by decide)] at H; exact H
        clear H
        have H := H1
        clear H1
        replace H := Option.bind_eq_some_iff.mp H
        obtain ⟨⟨t211, t212, t213⟩, A240, H⟩ := H
        replace H : (if (wrap64 (a0_1 - a2)) ≤ 0 then (some (t211, t212, t213, 0, 0)) else ((fourinhandref01_MulDiv.f kj4 1000000 (wrap64 (a0_0 - a1)) (wrap64 (a0_1 - a2))).bind fun bt217 => (if bt217.2 = true then (fourinhandref11_Sample.j1 kj4 bt217.1 (decide (bt217.1 > 1152921504606846976)) t211 t212 t213) else (fourinhandref11_Sample.j1 kj4 bt217.1 true t211 t212 t213)))) = some (r1, r2, r3, r4, r5) := H
        have A24 := Aside0.mk A240
        clear A240
        by_cases c25 : (wrap64 (a0_1 - a2)) ≤ 0
        · rw [if_pos c25] at H
          have c25b0 : decide ((wrap64 (a0_1 - a2)) ≤ 0) = true := decide_eq_true c25
          clear c25
          simp only [Option.some.injEq, Prod.mk.injEq] at H
          obtain ⟨rfl, rfl, rfl, rfl, rfl⟩ := H
          have hnb26 := NB208_209.out
          have hnc26 := NB209_208.out
          have hcz27_0 : wc.cell? ⟨gb208, 0, none⟩ = some (.int .i64 a0_0) := (blk_cell BK208.out 0).trans rfl
          have hcz27_1 : wc.cell? ⟨gb208, 1, none⟩ = some (.int .i64 a0_1) := (blk_cell BK208.out 1).trans rfl
          have hcz27_2 : wc.cell? ⟨gb208, 2, none⟩ = some (.slice A0_2 l0_2.length c0_2) := (blk_cell BK208.out 2).trans rfl
          have hfz27_0 := blk_frozen BK208.out 0
          have hfz27_1 := blk_frozen BK208.out 1
          have hfz27_2 := blk_frozen BK208.out 2
          go_wp2_with (first | ((with_reducible refine gate_callee (f := 9) rfl ?_); refine goesL_ (some 39) rfl rfl Try.func9 (by kernel_rfl) rfl #[.agg #[.int .i64 a0_0, .int .i64 a0_1, .slice A0_2 l0_2.length c0_2]] rfl (by (try simp only [List.map_toArray, List.map_cons, List.map_nil]); first | done | rfl | (simp only [List.length_drop, List.length_take]; rfl)) ?_; (with_reducible refine (fourinhandref11_Own.calls a0_0 a0_1 _ _ l0_2 t211 t212 t213 _ ?side1 ?side2 A24.out).mono ?_); (case side1 => repeat (first | exact (Kd.C_below HR0_2.out HB.out) | (with_reducible refine Kd.C_alloc ?_ _) | (with_reducible refine Kd.C_drewN ?_ _) | (with_reducible refine Kd.C_drew ?_))); (case side2 => exact HC0_2.out); rintro e w28 ⟨v214, rfl, ho0, hb⟩; refine ⟨_, rfl, ?_⟩; have n0_ := Aside0.mk (Kd.R_lower ho0 (below_size (by repeat (first | (with_reducible first | exact HB.out | apply below_alloc | apply pw_below_drewN | apply below_drew1 | refine below_set ?_ GE208.out | refine below_set ?_ GE209.out) | exact HB.out)))); have n1_ := Aside0.mk (blk_below (g := gb208) (o := .cells #[.int .i64 a0_0, .int .i64 a0_1, .slice A0_2 l0_2.length c0_2] 24 (0, 0)) (by (with_reducible repeat (first | refine blk_drewN ?_ _ | refine blk_drew ?_ | refine blk_alloc ?_ _)); exact BK208.out) hb); have n2_ := Aside0.mk (blk_below (g := gb209) (o := .cells #[.int .i64 0, .int .i64 0, .slice none 0 0] 24 (0, 0)) (by (with_reducible repeat (first | refine blk_drewN ?_ _ | refine blk_drew ?_ | refine blk_alloc ?_ _)); exact BK209.out) hb); have n3_ := Aside0.mk (below_step (by repeat (first | (with_reducible first | exact HB.out | apply below_alloc | apply pw_below_drewN | apply below_drew1 | refine below_set ?_ GE208.out | refine below_set ?_ GE209.out) | exact HB.out)) hb); clear BK208; clear BK209; clear HB; have HO215 := n0_; have BK208 := n1_; have BK209 := n2_; have HB := n3_; clear n0_ n1_ n2_ n3_; (try clear hb); (try clear hb2); (try clear hk); (try clear hi); (try clear ho0)) | ((with_reducible refine gate_dst (N := 10) rfl ?_); refine box_event ?hg (N := 10) ?hd (cs := #[.int .i64 0, .int .i64 0, .slice none 0 0]) (t := 24) ?hr ?_; (case hd => rfl); (case hg => rfl); (case hr => first | (go_simp; done) | (go_simp; rfl)); intro gb216 hg w29 hbox hb; have n0_ := Aside0.mk (Kd.R_below (by (with_reducible repeat (first | apply Kd.R_alloc | apply Kd.R_drewN | apply Kd.R_drew)); exact HO215.out) hb); have n1_ := Aside0.mk (blk_below (g := gb208) (o := .cells #[.int .i64 a0_0, .int .i64 a0_1, .slice A0_2 l0_2.length c0_2] 24 (0, 0)) (by (with_reducible repeat (first | refine blk_drewN ?_ _ | refine blk_drew ?_ | refine blk_alloc ?_ _)); exact BK208.out) hb); have n2_ := Aside0.mk (blk_below (g := gb209) (o := .cells #[.int .i64 0, .int .i64 0, .slice none 0 0] 24 (0, 0)) (by (with_reducible repeat (first | refine blk_drewN ?_ _ | refine blk_drew ?_ | refine blk_alloc ?_ _)); exact BK209.out) hb); have n3_ := Aside0.mk (below_step (by repeat (first | (with_reducible first | exact HB.out | apply below_alloc | apply pw_below_drewN | apply below_drew1 | refine below_set ?_ GE208.out | refine below_set ?_ GE209.out) | exact HB.out)) hb); have n4_ := Aside0.mk (hbox); have n5_ := Aside0.mk ((by rw [hg]; exact (below_size (by repeat (first | (with_reducible first | exact HB.out | apply below_alloc | apply pw_below_drewN | apply below_drew1 | refine below_set ?_ GE208.out | refine below_set ?_ GE209.out) | exact HB.out))) : w.heap.size ≤ gb216)); have n6_ := Aside0.mk ((by rw [hg]; exact (below_size (by repeat (first | (with_reducible first | exact HB.out | apply below_alloc | apply pw_below_drewN | apply below_drew1 | refine below_set ?_ GE208.out | refine below_set ?_ GE209.out) | exact HB.out))) : w.heap.size ≤ gb216)); have n7_ := Aside0.mk ((by rw [hg]; exact Nat.ne_of_lt (blk_lt (g := gb208) (o := .cells #[.int .i64 a0_0, .int .i64 a0_1, .slice A0_2 l0_2.length c0_2] 24 (0, 0)) (by (with_reducible repeat (first | refine blk_drewN ?_ _ | refine blk_drew ?_ | refine blk_alloc ?_ _)); exact BK208.out)) : gb208 ≠ gb216)); have n8_ := Aside0.mk ((by rw [hg]; exact Nat.ne_of_gt (blk_lt (g := gb208) (o := .cells #[.int .i64 a0_0, .int .i64 a0_1, .slice A0_2 l0_2.length c0_2] 24 (0, 0)) (by (with_reducible repeat (first | refine blk_drewN ?_ _ | refine blk_drew ?_ | refine blk_alloc ?_ _)); exact BK208.out)) : gb216 ≠ gb208)); have n9_ := Aside0.mk ((by rw [hg]; exact Nat.ne_of_lt (blk_lt (g := gb209) (o := .cells #[.int .i64 0, .int .i64 0, .slice none 0 0] 24 (0, 0)) (by (with_reducible repeat (first | refine blk_drewN ?_ _ | refine blk_drew ?_ | refine blk_alloc ?_ _)); exact BK209.out)) : gb209 ≠ gb216)); have n10_ := Aside0.mk ((by rw [hg]; exact Nat.ne_of_gt (blk_lt (g := gb209) (o := .cells #[.int .i64 0, .int .i64 0, .slice none 0 0] 24 (0, 0)) (by (with_reducible repeat (first | refine blk_drewN ?_ _ | refine blk_drew ?_ | refine blk_alloc ?_ _)); exact BK209.out)) : gb216 ≠ gb209)); clear HO215; clear BK208; clear BK209; clear HB; have HO215 := n0_; have BK208 := n1_; have BK209 := n2_; have HB := n3_; have BK216 := n4_; have GW216 := n5_; have GE216 := n6_; have NB208_216 := n7_; have NB216_208 := n8_; have NB209_216 := n9_; have NB216_209 := n10_; clear n0_ n1_ n2_ n3_ n4_ n5_ n6_ n7_ n8_ n9_ n10_; clear hb hbox hg; have hnb30 := NB216_208.out; have hnc30 := NB208_216.out; have hnb31 := NB216_209.out; have hnc31 := NB209_216.out; have hcz32_0 : w29.cell? ⟨gb216, 0, none⟩ = some (.int .i64 0) := (blk_cell BK216.out 0).trans rfl; have hcz32_1 : w29.cell? ⟨gb216, 1, none⟩ = some (.int .i64 0) := (blk_cell BK216.out 1).trans rfl; have hcz32_2 : w29.cell? ⟨gb216, 2, none⟩ = some (.slice none 0 0) := (blk_cell BK216.out 2).trans rfl; have hfz32_0 := blk_frozen BK216.out 0; have hfz32_1 := blk_frozen BK216.out 1; have hfz32_2 := blk_frozen BK216.out 2; obtain ⟨Ao33, co33, eo33⟩ := Kd.R_slice HO215.out; subst eo33; have hcz34_0 : w29.cell? ⟨gb208, 0, none⟩ = some (.int .i64 a0_0) := (blk_cell BK208.out 0).trans rfl; have hcz34_1 : w29.cell? ⟨gb208, 1, none⟩ = some (.int .i64 a0_1) := (blk_cell BK208.out 1).trans rfl; have hcz34_2 : w29.cell? ⟨gb208, 2, none⟩ = some (.slice A0_2 l0_2.length c0_2) := (blk_cell BK208.out 2).trans rfl; have hfz34_0 := blk_frozen BK208.out 0; have hfz34_1 := blk_frozen BK208.out 1; have hfz34_2 := blk_frozen BK208.out 2; have hcz35_0 : w29.cell? ⟨gb209, 0, none⟩ = some (.int .i64 0) := (blk_cell BK209.out 0).trans rfl; have hcz35_1 : w29.cell? ⟨gb209, 1, none⟩ = some (.int .i64 0) := (blk_cell BK209.out 1).trans rfl; have hcz35_2 : w29.cell? ⟨gb209, 2, none⟩ = some (.slice none 0 0) := (blk_cell BK209.out 2).trans rfl; have hfz35_0 := blk_frozen BK209.out 0; have hfz35_1 := blk_frozen BK209.out 1; have hfz35_2 := blk_frozen BK209.out 2))
          refine bodyPost_ret (results_ctt rfl _ _ gb209 24 #[.int .i64 t211, .int .i64 t212, .slice Ao33 t213.length co33] (0, 0) _ rfl (by (with_reducible repeat (first | refine blk_drewN ?_ _ | refine blk_drew ?_ | refine blk_alloc ?_ _)); refine blk_put (cs := #[.int .i64 t211, .int .i64 t212, .slice none 0 0]) ?_ 2 _ rfl; (with_reducible repeat (first | refine blk_drewN ?_ _ | refine blk_drew ?_ | refine blk_alloc ?_ _)); refine blk_put (cs := #[.int .i64 t211, .int .i64 0, .slice none 0 0]) ?_ 1 _ rfl; (with_reducible repeat (first | refine blk_drewN ?_ _ | refine blk_drew ?_ | refine blk_alloc ?_ _)); refine blk_put (cs := #[.int .i64 0, .int .i64 0, .slice none 0 0]) ?_ 0 _ rfl; (with_reducible repeat (first | refine blk_drewN ?_ _ | refine blk_drew ?_ | refine blk_alloc ?_ _)); refine blk_far ?_ NB209_216.out _; (with_reducible repeat (first | refine blk_drewN ?_ _ | refine blk_drew ?_ | refine blk_alloc ?_ _)); refine blk_far ?_ NB209_216.out _; (with_reducible repeat (first | refine blk_drewN ?_ _ | refine blk_drew ?_ | refine blk_alloc ?_ _)); refine blk_far ?_ NB209_216.out _; (with_reducible repeat (first | refine blk_drewN ?_ _ | refine blk_drew ?_ | refine blk_alloc ?_ _)); exact BK209.out) Try.underlying24 rfl (by kernel_rfl)) rfl ?_
          exact ⟨_, by first | rfl | (simp [errW_none, errW_some] <;> rfl) | (simp [*, errW_none, errW_some] <;> rfl), Kd.Q_of_R (by (with_reducible repeat (first | apply Kd.R_alloc | apply Kd.R_drewN | apply Kd.R_drew)); exact Kd.R_mono (Kd.R_far (p := ⟨gb209, 2, none⟩) (Kd.R_far (p := ⟨gb209, 1, none⟩) (Kd.R_far (p := ⟨gb209, 0, none⟩) (Kd.R_far (p := ⟨gb216, 2, none⟩) (Kd.R_far (p := ⟨gb216, 1, none⟩) (Kd.R_far (p := ⟨gb216, 0, none⟩) (Kd.R_types (Kd.R_types HO215.out BK216.out (by decide)) BK209.out (by decide)) (fun _ hk => hk.1.2) (.int .i64 t211)) (fun _ hk => hk.1.2) (.int .i64 t212)) (fun _ hk => hk.1.2) (.slice Ao33 t213.length co33)) (fun _ hk => hk.2) (.int .i64 t211)) (fun _ hk => hk.2) (.int .i64 t212)) (fun _ hk => hk.2) (.slice Ao33 t213.length co33)) (fun _ hk => trivial)), by repeat (first | (with_reducible first | exact HB.out | apply below_alloc | apply pw_below_drewN | apply below_drew1 | refine below_set ?_ GE208.out | refine below_set ?_ GE209.out | refine below_set ?_ GE216.out) | exact HB.out)⟩
        · rw [if_neg c25] at H
          have c25b0 : decide ((wrap64 (a0_1 - a2)) ≤ 0) = false := decide_eq_false c25
          clear c25
          replace H := Option.bind_eq_some_iff.mp H
          obtain ⟨⟨t217, t218⟩, A360, H⟩ := H
          replace H : (if t218 = true then (fourinhandref11_Sample.j1 kj4 t217 (decide (t217 > 1152921504606846976)) t211 t212 t213) else (fourinhandref11_Sample.j1 kj4 t217 true t211 t212 t213)) = some (r1, r2, r3, r4, r5) := H
          have A36 := Aside0.mk A360
          clear A360
          have HC37 := Aside0.mk H
          clear H
          have hnb38 := NB208_209.out
          have hnc38 := NB209_208.out
          have hcz39_0 : wc.cell? ⟨gb208, 0, none⟩ = some (.int .i64 a0_0) := (blk_cell BK208.out 0).trans rfl
          have hcz39_1 : wc.cell? ⟨gb208, 1, none⟩ = some (.int .i64 a0_1) := (blk_cell BK208.out 1).trans rfl
          have hcz39_2 : wc.cell? ⟨gb208, 2, none⟩ = some (.slice A0_2 l0_2.length c0_2) := (blk_cell BK208.out 2).trans rfl
          have hfz39_0 := blk_frozen BK208.out 0
          have hfz39_1 := blk_frozen BK208.out 1
          have hfz39_2 := blk_frozen BK208.out 2
          go_upto_region 8 with (first | ((with_reducible refine gate_callee (f := 9) rfl ?_); refine goesL_ (some 39) rfl rfl Try.func9 (by kernel_rfl) rfl #[.agg #[.int .i64 a0_0, .int .i64 a0_1, .slice A0_2 l0_2.length c0_2]] rfl (by (try simp only [List.map_toArray, List.map_cons, List.map_nil]); first | done | rfl | (simp only [List.length_drop, List.length_take]; rfl)) ?_; (with_reducible refine (fourinhandref11_Own.calls a0_0 a0_1 _ _ l0_2 t211 t212 t213 _ ?side1 ?side2 A24.out).mono ?_); (case side1 => repeat (first | exact (Kd.C_below HR0_2.out HB.out) | (with_reducible refine Kd.C_alloc ?_ _) | (with_reducible refine Kd.C_drewN ?_ _) | (with_reducible refine Kd.C_drew ?_))); (case side2 => exact HC0_2.out); rintro e w40 ⟨v214, rfl, ho0, hb⟩; refine ⟨_, rfl, ?_⟩; have n0_ := Aside0.mk (Kd.R_lower ho0 (below_size (by repeat (first | (with_reducible first | exact HB.out | apply below_alloc | apply pw_below_drewN | apply below_drew1 | refine below_set ?_ GE208.out | refine below_set ?_ GE209.out) | exact HB.out)))); have n1_ := Aside0.mk (blk_below (g := gb208) (o := .cells #[.int .i64 a0_0, .int .i64 a0_1, .slice A0_2 l0_2.length c0_2] 24 (0, 0)) (by (with_reducible repeat (first | refine blk_drewN ?_ _ | refine blk_drew ?_ | refine blk_alloc ?_ _)); exact BK208.out) hb); have n2_ := Aside0.mk (blk_below (g := gb209) (o := .cells #[.int .i64 0, .int .i64 0, .slice none 0 0] 24 (0, 0)) (by (with_reducible repeat (first | refine blk_drewN ?_ _ | refine blk_drew ?_ | refine blk_alloc ?_ _)); exact BK209.out) hb); have n3_ := Aside0.mk (below_step (by repeat (first | (with_reducible first | exact HB.out | apply below_alloc | apply pw_below_drewN | apply below_drew1 | refine below_set ?_ GE208.out | refine below_set ?_ GE209.out) | exact HB.out)) hb); clear BK208; clear BK209; clear HB; have HO215 := n0_; have BK208 := n1_; have BK209 := n2_; have HB := n3_; clear n0_ n1_ n2_ n3_; (try clear hb); (try clear hb2); (try clear hk); (try clear hi); (try clear ho0)) | ((with_reducible refine gate_dst (N := 10) rfl ?_); refine box_event ?hg (N := 10) ?hd (cs := #[.int .i64 0, .int .i64 0, .slice none 0 0]) (t := 24) ?hr ?_; (case hd => rfl); (case hg => rfl); (case hr => first | (go_simp; done) | (go_simp; rfl)); intro gb216 hg w41 hbox hb; have n0_ := Aside0.mk (Kd.R_below (by (with_reducible repeat (first | apply Kd.R_alloc | apply Kd.R_drewN | apply Kd.R_drew)); exact HO215.out) hb); have n1_ := Aside0.mk (blk_below (g := gb208) (o := .cells #[.int .i64 a0_0, .int .i64 a0_1, .slice A0_2 l0_2.length c0_2] 24 (0, 0)) (by (with_reducible repeat (first | refine blk_drewN ?_ _ | refine blk_drew ?_ | refine blk_alloc ?_ _)); exact BK208.out) hb); have n2_ := Aside0.mk (blk_below (g := gb209) (o := .cells #[.int .i64 0, .int .i64 0, .slice none 0 0] 24 (0, 0)) (by (with_reducible repeat (first | refine blk_drewN ?_ _ | refine blk_drew ?_ | refine blk_alloc ?_ _)); exact BK209.out) hb); have n3_ := Aside0.mk (below_step (by repeat (first | (with_reducible first | exact HB.out | apply below_alloc | apply pw_below_drewN | apply below_drew1 | refine below_set ?_ GE208.out | refine below_set ?_ GE209.out) | exact HB.out)) hb); have n4_ := Aside0.mk (hbox); have n5_ := Aside0.mk ((by rw [hg]; exact (below_size (by repeat (first | (with_reducible first | exact HB.out | apply below_alloc | apply pw_below_drewN | apply below_drew1 | refine below_set ?_ GE208.out | refine below_set ?_ GE209.out) | exact HB.out))) : w.heap.size ≤ gb216)); have n6_ := Aside0.mk ((by rw [hg]; exact (below_size (by repeat (first | (with_reducible first | exact HB.out | apply below_alloc | apply pw_below_drewN | apply below_drew1 | refine below_set ?_ GE208.out | refine below_set ?_ GE209.out) | exact HB.out))) : w.heap.size ≤ gb216)); have n7_ := Aside0.mk ((by rw [hg]; exact Nat.ne_of_lt (blk_lt (g := gb208) (o := .cells #[.int .i64 a0_0, .int .i64 a0_1, .slice A0_2 l0_2.length c0_2] 24 (0, 0)) (by (with_reducible repeat (first | refine blk_drewN ?_ _ | refine blk_drew ?_ | refine blk_alloc ?_ _)); exact BK208.out)) : gb208 ≠ gb216)); have n8_ := Aside0.mk ((by rw [hg]; exact Nat.ne_of_gt (blk_lt (g := gb208) (o := .cells #[.int .i64 a0_0, .int .i64 a0_1, .slice A0_2 l0_2.length c0_2] 24 (0, 0)) (by (with_reducible repeat (first | refine blk_drewN ?_ _ | refine blk_drew ?_ | refine blk_alloc ?_ _)); exact BK208.out)) : gb216 ≠ gb208)); have n9_ := Aside0.mk ((by rw [hg]; exact Nat.ne_of_lt (blk_lt (g := gb209) (o := .cells #[.int .i64 0, .int .i64 0, .slice none 0 0] 24 (0, 0)) (by (with_reducible repeat (first | refine blk_drewN ?_ _ | refine blk_drew ?_ | refine blk_alloc ?_ _)); exact BK209.out)) : gb209 ≠ gb216)); have n10_ := Aside0.mk ((by rw [hg]; exact Nat.ne_of_gt (blk_lt (g := gb209) (o := .cells #[.int .i64 0, .int .i64 0, .slice none 0 0] 24 (0, 0)) (by (with_reducible repeat (first | refine blk_drewN ?_ _ | refine blk_drew ?_ | refine blk_alloc ?_ _)); exact BK209.out)) : gb216 ≠ gb209)); clear HO215; clear BK208; clear BK209; clear HB; have HO215 := n0_; have BK208 := n1_; have BK209 := n2_; have HB := n3_; have BK216 := n4_; have GW216 := n5_; have GE216 := n6_; have NB208_216 := n7_; have NB216_208 := n8_; have NB209_216 := n9_; have NB216_209 := n10_; clear n0_ n1_ n2_ n3_ n4_ n5_ n6_ n7_ n8_ n9_ n10_; clear hb hbox hg; have hnb42 := NB216_208.out; have hnc42 := NB208_216.out; have hnb43 := NB216_209.out; have hnc43 := NB209_216.out; have hcz44_0 : w41.cell? ⟨gb216, 0, none⟩ = some (.int .i64 0) := (blk_cell BK216.out 0).trans rfl; have hcz44_1 : w41.cell? ⟨gb216, 1, none⟩ = some (.int .i64 0) := (blk_cell BK216.out 1).trans rfl; have hcz44_2 : w41.cell? ⟨gb216, 2, none⟩ = some (.slice none 0 0) := (blk_cell BK216.out 2).trans rfl; have hfz44_0 := blk_frozen BK216.out 0; have hfz44_1 := blk_frozen BK216.out 1; have hfz44_2 := blk_frozen BK216.out 2; obtain ⟨Ao45, co45, eo45⟩ := Kd.R_slice HO215.out; subst eo45; have hcz46_0 : w41.cell? ⟨gb208, 0, none⟩ = some (.int .i64 a0_0) := (blk_cell BK208.out 0).trans rfl; have hcz46_1 : w41.cell? ⟨gb208, 1, none⟩ = some (.int .i64 a0_1) := (blk_cell BK208.out 1).trans rfl; have hcz46_2 : w41.cell? ⟨gb208, 2, none⟩ = some (.slice A0_2 l0_2.length c0_2) := (blk_cell BK208.out 2).trans rfl; have hfz46_0 := blk_frozen BK208.out 0; have hfz46_1 := blk_frozen BK208.out 1; have hfz46_2 := blk_frozen BK208.out 2) | ((with_reducible refine gate_callee (f := 24) rfl ?_); refine goesL_ (some 55) rfl rfl Try.func24 (by kernel_rfl) rfl #[.int .i64 1000000, .int .i64 (wrap64 (a0_0 - a1)), .int .i64 (wrap64 (a0_1 - a2))] rfl (by (try simp only [List.map_toArray, List.map_cons, List.map_nil]); first | done | rfl | (simp only [List.length_drop, List.length_take]; rfl)) ?_; (with_reducible refine (fourinhandref01_MulDiv.calls kj4 1000000 (wrap64 (a0_0 - a1)) (wrap64 (a0_1 - a2)) t217 t218 _ A36.out).mono ?_); rintro e w' ⟨rfl, ⟨nd, rfl⟩⟩; refine ⟨_, rfl, ?_⟩))
          (try simp only [Act.put, List.setIfInBounds_toArray, List.set_cons_zero, List.set_cons_succ])
          go_cut [63] (fun v63 wc => ∃ (kq : Nat) (x63_36 : Bool), v63 = .bool x63_36 ∧ Aside0 (fourinhandref11_Sample.j1 kq t217 x63_36 t211 t212 t213 = some (r1, r2, r3, r4, r5)) ∧ Aside0 (kq ≤ kj4) ∧ Aside0 (Kd.Q (Kd.int .i64) 3 wc w.heap.size (fun _ => True) (.slice Ao45 t213.length co45) t213) ∧ Aside0 (wc.heap[gb208]? = some (.cells #[.int .i64 a0_0, .int .i64 a0_1, (.slice A0_2 l0_2.length c0_2)] 24 (0, 0))) ∧ Aside0 (wc.heap[gb209]? = some (.cells #[.int .i64 0, .int .i64 0, (.slice none 0 0)] 24 (0, 0))) ∧ Aside0 (wc.heap[gb216]? = some (.cells #[.int .i64 t211, .int .i64 t212, (.slice Ao45 t213.length co45)] 24 (0, 0))) ∧ Aside0 (Below w.heap.size w wc))
          case first =>
            have H := HC37.out
            clear HC37
            by_cases c47 : t218 = true
            · subst c47
              have H1 : (fourinhandref11_Sample.j1 kj4 t217 (decide (t217 > 1152921504606846976)) t211 t212 t213) = some (r1, r2, r3, r4, r5) := by rw [if_pos rfl] at H; exact H
              clear H
              have H := H1
              clear H1
              have H' := Aside0.mk H
              clear H
              go_wp2
              go_meet
              case rel => exact ⟨_, (decide (t217 > 1152921504606846976)), (by first | rfl | (simp; done) | (simp [*]; done)), H', ⟨by have := HJ4.out; first | omega | exact Nat.le_refl _⟩, ⟨Kd.Q_of_R (by (with_reducible repeat (first | apply Kd.R_alloc | apply Kd.R_drewN | apply Kd.R_drew)); exact Kd.R_mono (Kd.R_far (p := ⟨gb216, 2, none⟩) (Kd.R_far (p := ⟨gb216, 1, none⟩) (Kd.R_far (p := ⟨gb216, 0, none⟩) (Kd.R_types HO215.out BK216.out (by decide)) (fun _ hk => hk.2) (.int .i64 t211)) (fun _ hk => hk.2) (.int .i64 t212)) (fun _ hk => hk.2) (.slice Ao45 t213.length co45)) (fun _ hk => trivial))⟩, ⟨by (with_reducible repeat (first | refine blk_drewN ?_ _ | refine blk_drew ?_ | refine blk_alloc ?_ _)); refine blk_far ?_ NB208_216.out _; (with_reducible repeat (first | refine blk_drewN ?_ _ | refine blk_drew ?_ | refine blk_alloc ?_ _)); refine blk_far ?_ NB208_216.out _; (with_reducible repeat (first | refine blk_drewN ?_ _ | refine blk_drew ?_ | refine blk_alloc ?_ _)); refine blk_far ?_ NB208_216.out _; (with_reducible repeat (first | refine blk_drewN ?_ _ | refine blk_drew ?_ | refine blk_alloc ?_ _)); exact BK208.out⟩, ⟨by (with_reducible repeat (first | refine blk_drewN ?_ _ | refine blk_drew ?_ | refine blk_alloc ?_ _)); refine blk_far ?_ NB209_216.out _; (with_reducible repeat (first | refine blk_drewN ?_ _ | refine blk_drew ?_ | refine blk_alloc ?_ _)); refine blk_far ?_ NB209_216.out _; (with_reducible repeat (first | refine blk_drewN ?_ _ | refine blk_drew ?_ | refine blk_alloc ?_ _)); refine blk_far ?_ NB209_216.out _; (with_reducible repeat (first | refine blk_drewN ?_ _ | refine blk_drew ?_ | refine blk_alloc ?_ _)); exact BK209.out⟩, ⟨by (with_reducible repeat (first | refine blk_drewN ?_ _ | refine blk_drew ?_ | refine blk_alloc ?_ _)); refine blk_put (cs := #[.int .i64 t211, .int .i64 t212, .slice none 0 0]) ?_ 2 _ rfl; (with_reducible repeat (first | refine blk_drewN ?_ _ | refine blk_drew ?_ | refine blk_alloc ?_ _)); refine blk_put (cs := #[.int .i64 t211, .int .i64 0, .slice none 0 0]) ?_ 1 _ rfl; (with_reducible repeat (first | refine blk_drewN ?_ _ | refine blk_drew ?_ | refine blk_alloc ?_ _)); refine blk_put (cs := #[.int .i64 0, .int .i64 0, .slice none 0 0]) ?_ 0 _ rfl; (with_reducible repeat (first | refine blk_drewN ?_ _ | refine blk_drew ?_ | refine blk_alloc ?_ _)); exact BK216.out⟩, ⟨by repeat (first | (with_reducible first | exact HB.out | apply below_alloc | apply pw_below_drewN | apply below_drew1 | refine below_set ?_ GE208.out | refine below_set ?_ GE209.out | refine below_set ?_ GE216.out) | exact HB.out)⟩⟩
            · replace c47 := Bool.eq_false_iff.mpr c47
              subst c47
              have H1 : (fourinhandref11_Sample.j1 kj4 t217 true t211 t212 t213) = some (r1, r2, r3, r4, r5) := by rw [if_neg (show ¬ (false = true) by decide)] at H; exact H
              clear H
              have H := H1
              clear H1
              have H' := Aside0.mk H
              clear H
              go_wp2
              go_meet
              case rel => exact ⟨_, (true), (by first | rfl | (simp; done) | (simp [*]; done)), H', ⟨by have := HJ4.out; first | omega | exact Nat.le_refl _⟩, ⟨Kd.Q_of_R (by (with_reducible repeat (first | apply Kd.R_alloc | apply Kd.R_drewN | apply Kd.R_drew)); exact Kd.R_mono (Kd.R_far (p := ⟨gb216, 2, none⟩) (Kd.R_far (p := ⟨gb216, 1, none⟩) (Kd.R_far (p := ⟨gb216, 0, none⟩) (Kd.R_types HO215.out BK216.out (by decide)) (fun _ hk => hk.2) (.int .i64 t211)) (fun _ hk => hk.2) (.int .i64 t212)) (fun _ hk => hk.2) (.slice Ao45 t213.length co45)) (fun _ hk => trivial))⟩, ⟨by (with_reducible repeat (first | refine blk_drewN ?_ _ | refine blk_drew ?_ | refine blk_alloc ?_ _)); refine blk_far ?_ NB208_216.out _; (with_reducible repeat (first | refine blk_drewN ?_ _ | refine blk_drew ?_ | refine blk_alloc ?_ _)); refine blk_far ?_ NB208_216.out _; (with_reducible repeat (first | refine blk_drewN ?_ _ | refine blk_drew ?_ | refine blk_alloc ?_ _)); refine blk_far ?_ NB208_216.out _; (with_reducible repeat (first | refine blk_drewN ?_ _ | refine blk_drew ?_ | refine blk_alloc ?_ _)); exact BK208.out⟩, ⟨by (with_reducible repeat (first | refine blk_drewN ?_ _ | refine blk_drew ?_ | refine blk_alloc ?_ _)); refine blk_far ?_ NB209_216.out _; (with_reducible repeat (first | refine blk_drewN ?_ _ | refine blk_drew ?_ | refine blk_alloc ?_ _)); refine blk_far ?_ NB209_216.out _; (with_reducible repeat (first | refine blk_drewN ?_ _ | refine blk_drew ?_ | refine blk_alloc ?_ _)); refine blk_far ?_ NB209_216.out _; (with_reducible repeat (first | refine blk_drewN ?_ _ | refine blk_drew ?_ | refine blk_alloc ?_ _)); exact BK209.out⟩, ⟨by (with_reducible repeat (first | refine blk_drewN ?_ _ | refine blk_drew ?_ | refine blk_alloc ?_ _)); refine blk_put (cs := #[.int .i64 t211, .int .i64 t212, .slice none 0 0]) ?_ 2 _ rfl; (with_reducible repeat (first | refine blk_drewN ?_ _ | refine blk_drew ?_ | refine blk_alloc ?_ _)); refine blk_put (cs := #[.int .i64 t211, .int .i64 0, .slice none 0 0]) ?_ 1 _ rfl; (with_reducible repeat (first | refine blk_drewN ?_ _ | refine blk_drew ?_ | refine blk_alloc ?_ _)); refine blk_put (cs := #[.int .i64 0, .int .i64 0, .slice none 0 0]) ?_ 0 _ rfl; (with_reducible repeat (first | refine blk_drewN ?_ _ | refine blk_drew ?_ | refine blk_alloc ?_ _)); exact BK216.out⟩, ⟨by repeat (first | (with_reducible first | exact HB.out | apply below_alloc | apply pw_below_drewN | apply below_drew1 | refine below_set ?_ GE208.out | refine below_set ?_ GE209.out | refine below_set ?_ GE216.out) | exact HB.out)⟩⟩
          case rest =>
            clear HC37
            try clear c1
            try clear c2
            try clear p2
            try clear c3
            try clear c4
            try clear p6
            try clear c8
            try clear c9
            try clear c11
            try clear c12
            try clear c12b0
            try clear c13
            try clear c13b0
            try clear c14
            try clear c16
            try clear c16b0
            try clear c17
            try clear c18
            try clear c19
            try clear c21
            try clear c22
            try clear c24
            try clear c25
            try clear c25b0
            try clear c26
            try clear c30
            try clear c31
            try clear c38
            try clear c42
            try clear c43
            try clear c47
            try clear hcz15_0
            try clear hcz15_1
            try clear hcz15_2
            try clear hcz18_0
            try clear hcz18_1
            try clear hcz18_2
            try clear hcz20_0
            try clear hcz20_1
            try clear hcz20_2
            try clear hcz23_0
            try clear hcz23_1
            try clear hcz23_2
            try clear hcz27_0
            try clear hcz27_1
            try clear hcz27_2
            try clear hcz32_0
            try clear hcz32_1
            try clear hcz32_2
            try clear hcz34_0
            try clear hcz34_1
            try clear hcz34_2
            try clear hcz35_0
            try clear hcz35_1
            try clear hcz35_2
            try clear hcz39_0
            try clear hcz39_1
            try clear hcz39_2
            try clear hcz44_0
            try clear hcz44_1
            try clear hcz44_2
            try clear hcz46_0
            try clear hcz46_1
            try clear hcz46_2
            try clear hcz9_0
            try clear hcz9_1
            try clear hcz9_2
            try clear hfz15_0
            try clear hfz15_1
            try clear hfz15_2
            try clear hfz18_0
            try clear hfz18_1
            try clear hfz18_2
            try clear hfz20_0
            try clear hfz20_1
            try clear hfz20_2
            try clear hfz23_0
            try clear hfz23_1
            try clear hfz23_2
            try clear hfz27_0
            try clear hfz27_1
            try clear hfz27_2
            try clear hfz32_0
            try clear hfz32_1
            try clear hfz32_2
            try clear hfz34_0
            try clear hfz34_1
            try clear hfz34_2
            try clear hfz35_0
            try clear hfz35_1
            try clear hfz35_2
            try clear hfz39_0
            try clear hfz39_1
            try clear hfz39_2
            try clear hfz44_0
            try clear hfz44_1
            try clear hfz44_2
            try clear hfz46_0
            try clear hfz46_1
            try clear hfz46_2
            try clear hfz9_0
            try clear hfz9_1
            try clear hfz9_2
            try clear p2
            obtain ⟨kq, x63_36, rfl, HA, HJ36, HO_217002, BK208, BK209, BK216, HB⟩ := hcut
            cases kq with
            | zero => exact absurd HA.out (by simp [fourinhandref11_Sample.j1])
            | succ kj36 =>
              have H := HA.out
              clear HA
              simp only [fourinhandref11_Sample.j1] at H
              by_cases c48 : x63_36 = true
              · subst c48
                have H1 : (if t213.length < 17592186044416 then ((some (t213 ++ [1152921504606846976] : List Int)).bind fun y219 => (if (y219.length : Int) > 10 then (if 1 ≤ (y219.length : Int) then (some (t211, t212, (y219.drop (1 : Int).toNat), 1152921504606846976, 0)) else (none)) else (some (t211, t212, y219, 1152921504606846976, 0)))) else (none)) = some (r1, r2, r3, r4, r5) := by rw [if_pos rfl] at H; exact H
                clear H
                have H := H1
                clear H1
                by_cases c49 : t213.length < 17592186044416
                · rw [if_pos c49] at H
                  have LMc49 := Aside0.mk c49
                  clear c49
                  obtain ⟨y219, hy219⟩ : ∃ y_ : List Int, y_ = (t213 ++ [1152921504606846976]) := ⟨_, rfl⟩
                  replace H : (if (y219.length : Int) > 10 then (if 1 ≤ (y219.length : Int) then (some (t211, t212, (y219.drop (1 : Int).toNat), 1152921504606846976, 0)) else (none)) else (some (t211, t212, y219, 1152921504606846976, 0))) = some (r1, r2, r3, r4, r5) := by first | (rw [hy219]; with_reducible exact H) | (have H2_ := (Option.bind_some _ _).symm.trans H; rw [hy219]; with_reducible exact H2_) | (have H2_ := (Option.bind_some _ _).symm.trans H; with_reducible exact H2_) | with_reducible exact H | (rw [hy219]; exact H) | exact H
                  have Ny219 := Aside0.mk hy219
                  clear hy219
                  by_cases c50 : (y219.length : Int) > 10
                  · rw [if_pos c50] at H
                    have c50b0 : decide (10 < (y219.length : Int)) = true := decide_eq_true c50
                    have c50b1 : decide (10 < y219.length) = true := decide_eq_true (by omega)
                    clear c50
                    by_cases c51 : 1 ≤ (y219.length : Int)
                    · rw [if_pos c51] at H
                      have c51b0 := eq_true c51
                      have c51b1 : decide (1 ≤ (y219.length : Int)) = true := decide_eq_true c51
                      clear c51
                      obtain ⟨y222, hy222⟩ : ∃ y_ : List Int, y_ = (y219.drop (1 : Int).toNat) := ⟨_, rfl⟩
                      replace H : (some (t211, t212, y222, 1152921504606846976, 0)) = some (r1, r2, r3, r4, r5) := by first | (rw [hy222]; with_reducible exact H) | (have H2_ := (Option.bind_some _ _).symm.trans H; rw [hy222]; with_reducible exact H2_) | (have H2_ := (Option.bind_some _ _).symm.trans H; with_reducible exact H2_) | with_reducible exact H | (rw [hy222]; exact H) | exact H
                      have Ny222 := Aside0.mk hy222
                      clear hy222
                      simp only [Option.some.injEq, Prod.mk.injEq] at H
                      obtain ⟨rfl, rfl, rfl, rfl, rfl⟩ := H
                      have hnb52 := NB216_208.out
                      have hnc52 := NB208_216.out
                      have hnb53 := NB216_209.out
                      have hnc53 := NB209_216.out
                      have hcz54_0 : wc.cell? ⟨gb216, 0, none⟩ = some (.int .i64 t211) := (blk_cell BK216.out 0).trans rfl
                      have hcz54_1 : wc.cell? ⟨gb216, 1, none⟩ = some (.int .i64 t212) := (blk_cell BK216.out 1).trans rfl
                      have hcz54_2 : wc.cell? ⟨gb216, 2, none⟩ = some (.slice Ao45 t213.length co45) := (blk_cell BK216.out 2).trans rfl
                      have hfz54_0 := blk_frozen BK216.out 0
                      have hfz54_1 := blk_frozen BK216.out 1
                      have hfz54_2 := blk_frozen BK216.out 2
                      go_wp2_with (first | ((with_reducible refine gate_builtin (b := .append) (xs := #[.tmp 65, .tmp 67]) rfl ?_); at_builtin; refine Kd.Q_append (Kd.int .i64) (w0 := w) w.heap.size rfl (.tmp 65) (.tmp 67) 22 3 (.int .i64 0) 8 rfl Try.underlying22 info3 rfl (by decide) (by omega) (.slice Ao45 t213.length co45) t213 1152921504606846976 [.int .i64 1152921504606846976] (fun _ => True) (fun _ => False) rfl rfl ?aP (fun _ hk => hk.elim) ?aF ?aO ?aB ?aS ?aL ?_; (case aP => exact rfl); (case aB => exact (by repeat (first | (with_reducible first | exact HB.out | apply below_alloc | apply pw_below_drewN | apply below_drew1 | refine below_set ?_ GE208.out | refine below_set ?_ GE209.out | refine below_set ?_ GE216.out) | exact HB.out))); (case aF => exact (fun _ _ => trivial)); (case aO => exact (by (with_reducible repeat (first | apply Kd.Q_alloc | apply Kd.Q_drewN | apply Kd.Q_drew)); exact HO_217002.out)); (case aS => exact (below_size (by repeat (first | (with_reducible first | exact HB.out | apply below_alloc | apply pw_below_drewN | apply below_drew1 | refine below_set ?_ GE208.out | refine below_set ?_ GE209.out | refine below_set ?_ GE216.out) | exact HB.out)))); (case aL => have := LMc49.out; omega); intro v220 w55 ho hb hg hat; rw [← Ny219.out] at ho; have n0_ := Aside0.mk (blk_grown (g := gb208) (o := .cells #[.int .i64 a0_0, .int .i64 a0_1, .slice A0_2 l0_2.length c0_2] 24 (0, 0)) (by (with_reducible repeat (first | refine blk_drewN ?_ _ | refine blk_drew ?_ | refine blk_alloc ?_ _)); exact BK208.out) hg (Kd.Q_ne HO_217002.out BK208.out (by decide))); have n1_ := Aside0.mk (blk_grown (g := gb209) (o := .cells #[.int .i64 0, .int .i64 0, .slice none 0 0] 24 (0, 0)) (by (with_reducible repeat (first | refine blk_drewN ?_ _ | refine blk_drew ?_ | refine blk_alloc ?_ _)); exact BK209.out) hg (Kd.Q_ne HO_217002.out BK209.out (by decide))); have n2_ := Aside0.mk (blk_grown (g := gb216) (o := .cells #[.int .i64 t211, .int .i64 t212, .slice Ao45 t213.length co45] 24 (0, 0)) (by (with_reducible repeat (first | refine blk_drewN ?_ _ | refine blk_drew ?_ | refine blk_alloc ?_ _)); exact BK216.out) hg (Kd.Q_ne HO_217002.out BK216.out (by decide))); have n3_ := Aside0.mk (hb); have n4_ := Aside0.mk (ho); clear BK208; clear BK209; clear BK216; clear HB; clear HO_217002; have BK208 := n0_; have BK209 := n1_; have BK216 := n2_; have HB := n3_; have HO221 := n4_; clear n0_ n1_ n2_ n3_ n4_; clear ho hb hg hat; obtain ⟨Ao56, co56, eo56, _⟩ := Kd.Q_slice HO221.out; subst eo56; have hcz57_0 : w55.cell? ⟨gb216, 0, none⟩ = some (.int .i64 t211) := (blk_cell BK216.out 0).trans rfl; have hcz57_1 : w55.cell? ⟨gb216, 1, none⟩ = some (.int .i64 t212) := (blk_cell BK216.out 1).trans rfl; have hcz57_2 : w55.cell? ⟨gb216, 2, none⟩ = some (.slice Ao45 t213.length co45) := (blk_cell BK216.out 2).trans rfl; have hfz57_0 := blk_frozen BK216.out 0; have hfz57_1 := blk_frozen BK216.out 1; have hfz57_2 := blk_frozen BK216.out 2) | ((with_reducible refine gate_store (t := 22) (p := 69) rfl ?_); refine store_event (t := 22) (p := 69) (v := ?vo_w58) (w1 := (w55.setCell ⟨gb216, 2, none⟩ (.slice Ao56 y219.length co56))) ?hg ?ho ?hn ?hr ?_; (case ho => rfl); (case hg => rfl); (case hn => rfl); (case hr => first | (go_simp; done) | (go_simp; rfl)); intro w58 hw; have n0_ : Aside0 (Kd.Q (Kd.int .i64) 3 w58 w.heap.size (fun _ => True) (.slice Ao56 y219.length co56) y219) := ⟨(by rw [hw]; exact (by (with_reducible repeat (first | apply Kd.Q_alloc | apply Kd.Q_drewN | apply Kd.Q_drew)); exact Kd.Q_mono (Kd.Q_far (p := ⟨gb216, 2, none⟩) (Kd.Q_types HO221.out BK216.out (by decide)) (fun _ hk => hk.2) (.slice Ao56 y219.length co56)) (fun _ hk => trivial)))⟩; have n1_ : Aside0 (w58.heap[gb208]? = some (.cells #[.int .i64 a0_0, .int .i64 a0_1, .slice A0_2 l0_2.length c0_2] 24 (0, 0))) := ⟨(by rw [hw]; exact (by (with_reducible repeat (first | refine blk_drewN ?_ _ | refine blk_drew ?_ | refine blk_alloc ?_ _)); refine blk_far ?_ NB208_216.out _; (with_reducible repeat (first | refine blk_drewN ?_ _ | refine blk_drew ?_ | refine blk_alloc ?_ _)); exact BK208.out))⟩; have n2_ : Aside0 (w58.heap[gb209]? = some (.cells #[.int .i64 0, .int .i64 0, .slice none 0 0] 24 (0, 0))) := ⟨(by rw [hw]; exact (by (with_reducible repeat (first | refine blk_drewN ?_ _ | refine blk_drew ?_ | refine blk_alloc ?_ _)); refine blk_far ?_ NB209_216.out _; (with_reducible repeat (first | refine blk_drewN ?_ _ | refine blk_drew ?_ | refine blk_alloc ?_ _)); exact BK209.out))⟩; have n3_ : Aside0 (w58.heap[gb216]? = some (.cells #[.int .i64 t211, .int .i64 t212, .slice Ao56 y219.length co56] 24 (0, 0))) := ⟨(by rw [hw]; exact (by (with_reducible repeat (first | refine blk_drewN ?_ _ | refine blk_drew ?_ | refine blk_alloc ?_ _)); refine blk_put (cs := #[.int .i64 t211, .int .i64 t212, .slice Ao45 t213.length co45]) ?_ 2 _ rfl; (with_reducible repeat (first | refine blk_drewN ?_ _ | refine blk_drew ?_ | refine blk_alloc ?_ _)); exact BK216.out))⟩; have n4_ : Aside0 (Below w.heap.size w w58) := ⟨(by rw [hw]; exact (by repeat (first | (with_reducible first | exact HB.out | apply below_alloc | apply pw_below_drewN | apply below_drew1 | refine below_set ?_ GE208.out | refine below_set ?_ GE209.out | refine below_set ?_ GE216.out) | exact HB.out)))⟩; clear hw; clear HO221; clear BK208; clear BK209; clear BK216; clear HB; have HO221 := n0_; have BK208 := n1_; have BK209 := n2_; have BK216 := n3_; have HB := n4_; clear n0_ n1_ n2_ n3_ n4_; have hcz59_0 : w58.cell? ⟨gb216, 0, none⟩ = some (.int .i64 t211) := (blk_cell BK216.out 0).trans rfl; have hcz59_1 : w58.cell? ⟨gb216, 1, none⟩ = some (.int .i64 t212) := (blk_cell BK216.out 1).trans rfl; have hcz59_2 : w58.cell? ⟨gb216, 2, none⟩ = some (.slice Ao56 y219.length co56) := (blk_cell BK216.out 2).trans rfl; have hfz59_0 := blk_frozen BK216.out 0; have hfz59_1 := blk_frozen BK216.out 1; have hfz59_2 := blk_frozen BK216.out 2; have q60 : (1 : Int) ≤ ((y219.length : Int) : Int) := of_decide_eq_true (by first | (with_reducible assumption) | assumption); obtain ⟨i060, hi060, _, hsz60, _⟩ := info_parts info3; have hcut60 := cut_from (P := Try.prog) 22 3 .i64 Try.underlying22 hi060 1 hsz60 Ao56 y219.length co56 1 (by omega) q60; have hr60 := Kd.Q_drop (k := (1 : Int).toNat) HO221.out (by omega); obtain ⟨A60, hA60⟩ : ∃ A1, A1 = (if co56 = (1 : Int).toNat then Ao56 else (Ao56 : Option Addr).map (·.add ((1 : Int).toNat * 1))) := ⟨_, rfl⟩; obtain ⟨c60, hc60⟩ : ∃ c1, c1 = co56 - (1 : Int).toNat := ⟨_, rfl⟩; have hy60 : y222.length = y219.length - (1 : Int).toNat := (by rw [Ny222.out, List.length_drop]); rw [← Ny222.out] at hr60; rw [← hy60, ← hA60, ← hc60] at hcut60; replace hr60 : Kd.Q (Kd.int .i64) 3 w58 w.heap.size (fun _ => True) (.slice A60 y222.length c60) y222 := (by rw [hA60, hc60, hy60]; exact hr60); have HE60 : Aside0 ((Value.slice A60 y222.length c60).ownBlock = (.slice Ao56 y219.length co56 : Value).ownBlock) := ⟨by rw [hA60]; split <;> (cases (Ao56 : Option Addr) <;> first | rfl | (simp only [Value.ownBlock, Option.map_some, Addr.add]; split <;> rfl))⟩; clear hy60 hi060 hsz60 HO221 hA60 hc60; have HO224 := Aside0.mk hr60; clear hr60; replace q60 := eq_true q60; have hnb61 := NB209_208.out; have hnc61 := NB208_209.out; have hcz62_0 : w58.cell? ⟨gb209, 0, none⟩ = some (.int .i64 0) := (blk_cell BK209.out 0).trans rfl; have hcz62_1 : w58.cell? ⟨gb209, 1, none⟩ = some (.int .i64 0) := (blk_cell BK209.out 1).trans rfl; have hcz62_2 : w58.cell? ⟨gb209, 2, none⟩ = some (.slice none 0 0) := (blk_cell BK209.out 2).trans rfl; have hfz62_0 := blk_frozen BK209.out 0; have hfz62_1 := blk_frozen BK209.out 1; have hfz62_2 := blk_frozen BK209.out 2))
                      refine bodyPost_ret (results_ctt rfl _ _ gb209 24 #[.int .i64 t211, .int .i64 t212, .slice A60 y222.length c60] (0, 0) _ rfl (by (with_reducible repeat (first | refine blk_drewN ?_ _ | refine blk_drew ?_ | refine blk_alloc ?_ _)); refine blk_put (cs := #[.int .i64 t211, .int .i64 t212, .slice none 0 0]) ?_ 2 _ rfl; (with_reducible repeat (first | refine blk_drewN ?_ _ | refine blk_drew ?_ | refine blk_alloc ?_ _)); refine blk_put (cs := #[.int .i64 t211, .int .i64 0, .slice none 0 0]) ?_ 1 _ rfl; (with_reducible repeat (first | refine blk_drewN ?_ _ | refine blk_drew ?_ | refine blk_alloc ?_ _)); refine blk_put (cs := #[.int .i64 0, .int .i64 0, .slice none 0 0]) ?_ 0 _ rfl; (with_reducible repeat (first | refine blk_drewN ?_ _ | refine blk_drew ?_ | refine blk_alloc ?_ _)); refine blk_far ?_ NB209_216.out _; (with_reducible repeat (first | refine blk_drewN ?_ _ | refine blk_drew ?_ | refine blk_alloc ?_ _)); exact BK209.out) Try.underlying24 rfl (by kernel_rfl)) rfl ?_
                      exact ⟨_, by first | rfl | (simp [errW_none, errW_some] <;> rfl) | (simp [*, errW_none, errW_some] <;> rfl), by (with_reducible repeat (first | apply Kd.Q_alloc | apply Kd.Q_drewN | apply Kd.Q_drew)); exact Kd.Q_mono (Kd.Q_far (p := ⟨gb209, 2, none⟩) (Kd.Q_far (p := ⟨gb209, 1, none⟩) (Kd.Q_far (p := ⟨gb209, 0, none⟩) (Kd.Q_far (p := ⟨gb216, 2, none⟩) (Kd.Q_types (Kd.Q_types HO224.out BK216.out (by decide)) BK209.out (by decide)) (fun _ hk => hk.1.2) (.slice A60 y222.length c60)) (fun _ hk => hk.2) (.int .i64 t211)) (fun _ hk => hk.2) (.int .i64 t212)) (fun _ hk => hk.2) (.slice A60 y222.length c60)) (fun _ hk => trivial), by repeat (first | (with_reducible first | exact HB.out | apply below_alloc | apply pw_below_drewN | apply below_drew1 | refine below_set ?_ GE208.out | refine below_set ?_ GE209.out | refine below_set ?_ GE216.out) | exact HB.out)⟩
                    · rw [if_neg c51] at H
                      exact absurd H (by simp)
                  · rw [if_neg c50] at H
                    have c50b0 : decide (10 < (y219.length : Int)) = false := decide_eq_false c50
                    have c50b1 : decide (10 < y219.length) = false := decide_eq_false (by omega)
                    clear c50
                    simp only [Option.some.injEq, Prod.mk.injEq] at H
                    obtain ⟨rfl, rfl, rfl, rfl, rfl⟩ := H
                    have hnb63 := NB216_208.out
                    have hnc63 := NB208_216.out
                    have hnb64 := NB216_209.out
                    have hnc64 := NB209_216.out
                    have hcz65_0 : wc.cell? ⟨gb216, 0, none⟩ = some (.int .i64 t211) := (blk_cell BK216.out 0).trans rfl
                    have hcz65_1 : wc.cell? ⟨gb216, 1, none⟩ = some (.int .i64 t212) := (blk_cell BK216.out 1).trans rfl
                    have hcz65_2 : wc.cell? ⟨gb216, 2, none⟩ = some (.slice Ao45 t213.length co45) := (blk_cell BK216.out 2).trans rfl
                    have hfz65_0 := blk_frozen BK216.out 0
                    have hfz65_1 := blk_frozen BK216.out 1
                    have hfz65_2 := blk_frozen BK216.out 2
                    go_wp2_with (first | ((with_reducible refine gate_builtin (b := .append) (xs := #[.tmp 65, .tmp 67]) rfl ?_); at_builtin; refine Kd.Q_append (Kd.int .i64) (w0 := w) w.heap.size rfl (.tmp 65) (.tmp 67) 22 3 (.int .i64 0) 8 rfl Try.underlying22 info3 rfl (by decide) (by omega) (.slice Ao45 t213.length co45) t213 1152921504606846976 [.int .i64 1152921504606846976] (fun _ => True) (fun _ => False) rfl rfl ?aP (fun _ hk => hk.elim) ?aF ?aO ?aB ?aS ?aL ?_; (case aP => exact rfl); (case aB => exact (by repeat (first | (with_reducible first | exact HB.out | apply below_alloc | apply pw_below_drewN | apply below_drew1 | refine below_set ?_ GE208.out | refine below_set ?_ GE209.out | refine below_set ?_ GE216.out) | exact HB.out))); (case aF => exact (fun _ _ => trivial)); (case aO => exact (by (with_reducible repeat (first | apply Kd.Q_alloc | apply Kd.Q_drewN | apply Kd.Q_drew)); exact HO_217002.out)); (case aS => exact (below_size (by repeat (first | (with_reducible first | exact HB.out | apply below_alloc | apply pw_below_drewN | apply below_drew1 | refine below_set ?_ GE208.out | refine below_set ?_ GE209.out | refine below_set ?_ GE216.out) | exact HB.out)))); (case aL => have := LMc49.out; omega); intro v220 w66 ho hb hg hat; rw [← Ny219.out] at ho; have n0_ := Aside0.mk (blk_grown (g := gb208) (o := .cells #[.int .i64 a0_0, .int .i64 a0_1, .slice A0_2 l0_2.length c0_2] 24 (0, 0)) (by (with_reducible repeat (first | refine blk_drewN ?_ _ | refine blk_drew ?_ | refine blk_alloc ?_ _)); exact BK208.out) hg (Kd.Q_ne HO_217002.out BK208.out (by decide))); have n1_ := Aside0.mk (blk_grown (g := gb209) (o := .cells #[.int .i64 0, .int .i64 0, .slice none 0 0] 24 (0, 0)) (by (with_reducible repeat (first | refine blk_drewN ?_ _ | refine blk_drew ?_ | refine blk_alloc ?_ _)); exact BK209.out) hg (Kd.Q_ne HO_217002.out BK209.out (by decide))); have n2_ := Aside0.mk (blk_grown (g := gb216) (o := .cells #[.int .i64 t211, .int .i64 t212, .slice Ao45 t213.length co45] 24 (0, 0)) (by (with_reducible repeat (first | refine blk_drewN ?_ _ | refine blk_drew ?_ | refine blk_alloc ?_ _)); exact BK216.out) hg (Kd.Q_ne HO_217002.out BK216.out (by decide))); have n3_ := Aside0.mk (hb); have n4_ := Aside0.mk (ho); clear BK208; clear BK209; clear BK216; clear HB; clear HO_217002; have BK208 := n0_; have BK209 := n1_; have BK216 := n2_; have HB := n3_; have HO221 := n4_; clear n0_ n1_ n2_ n3_ n4_; clear ho hb hg hat; obtain ⟨Ao67, co67, eo67, _⟩ := Kd.Q_slice HO221.out; subst eo67; have hcz68_0 : w66.cell? ⟨gb216, 0, none⟩ = some (.int .i64 t211) := (blk_cell BK216.out 0).trans rfl; have hcz68_1 : w66.cell? ⟨gb216, 1, none⟩ = some (.int .i64 t212) := (blk_cell BK216.out 1).trans rfl; have hcz68_2 : w66.cell? ⟨gb216, 2, none⟩ = some (.slice Ao45 t213.length co45) := (blk_cell BK216.out 2).trans rfl; have hfz68_0 := blk_frozen BK216.out 0; have hfz68_1 := blk_frozen BK216.out 1; have hfz68_2 := blk_frozen BK216.out 2; have hnb69 := NB209_208.out; have hnc69 := NB208_209.out; have hcz70_0 : w66.cell? ⟨gb209, 0, none⟩ = some (.int .i64 0) := (blk_cell BK209.out 0).trans rfl; have hcz70_1 : w66.cell? ⟨gb209, 1, none⟩ = some (.int .i64 0) := (blk_cell BK209.out 1).trans rfl; have hcz70_2 : w66.cell? ⟨gb209, 2, none⟩ = some (.slice none 0 0) := (blk_cell BK209.out 2).trans rfl; have hfz70_0 := blk_frozen BK209.out 0; have hfz70_1 := blk_frozen BK209.out 1; have hfz70_2 := blk_frozen BK209.out 2))
                    refine bodyPost_ret (results_ctt rfl _ _ gb209 24 #[.int .i64 t211, .int .i64 t212, .slice Ao67 y219.length co67] (0, 0) _ rfl (by (with_reducible repeat (first | refine blk_drewN ?_ _ | refine blk_drew ?_ | refine blk_alloc ?_ _)); refine blk_put (cs := #[.int .i64 t211, .int .i64 t212, .slice none 0 0]) ?_ 2 _ rfl; (with_reducible repeat (first | refine blk_drewN ?_ _ | refine blk_drew ?_ | refine blk_alloc ?_ _)); refine blk_put (cs := #[.int .i64 t211, .int .i64 0, .slice none 0 0]) ?_ 1 _ rfl; (with_reducible repeat (first | refine blk_drewN ?_ _ | refine blk_drew ?_ | refine blk_alloc ?_ _)); refine blk_put (cs := #[.int .i64 0, .int .i64 0, .slice none 0 0]) ?_ 0 _ rfl; (with_reducible repeat (first | refine blk_drewN ?_ _ | refine blk_drew ?_ | refine blk_alloc ?_ _)); refine blk_far ?_ NB209_216.out _; (with_reducible repeat (first | refine blk_drewN ?_ _ | refine blk_drew ?_ | refine blk_alloc ?_ _)); exact BK209.out) Try.underlying24 rfl (by kernel_rfl)) rfl ?_
                    exact ⟨_, by first | rfl | (simp [errW_none, errW_some] <;> rfl) | (simp [*, errW_none, errW_some] <;> rfl), by (with_reducible repeat (first | apply Kd.Q_alloc | apply Kd.Q_drewN | apply Kd.Q_drew)); exact Kd.Q_mono (Kd.Q_far (p := ⟨gb209, 2, none⟩) (Kd.Q_far (p := ⟨gb209, 1, none⟩) (Kd.Q_far (p := ⟨gb209, 0, none⟩) (Kd.Q_far (p := ⟨gb216, 2, none⟩) (Kd.Q_types (Kd.Q_types HO221.out BK216.out (by decide)) BK209.out (by decide)) (fun _ hk => hk.1.2) (.slice Ao67 y219.length co67)) (fun _ hk => hk.2) (.int .i64 t211)) (fun _ hk => hk.2) (.int .i64 t212)) (fun _ hk => hk.2) (.slice Ao67 y219.length co67)) (fun _ hk => trivial), by repeat (first | (with_reducible first | exact HB.out | apply below_alloc | apply pw_below_drewN | apply below_drew1 | refine below_set ?_ GE208.out | refine below_set ?_ GE209.out | refine below_set ?_ GE216.out) | exact HB.out)⟩
                · rw [if_neg c49] at H
                  exact absurd H (by simp)
              · replace c48 := Bool.eq_false_iff.mpr c48
                subst c48
                have H1 : (if t213.length < 17592186044416 then ((some (t213 ++ [t217] : List Int)).bind fun y225 => (if (y225.length : Int) > 10 then (if 1 ≤ (y225.length : Int) then (some (t211, t212, (y225.drop (1 : Int).toNat), t217, 0)) else (none)) else (some (t211, t212, y225, t217, 0)))) else (none)) = some (r1, r2, r3, r4, r5) := by rw [if_neg (show ¬ (false = true) by decide)] at H; exact H
                clear H
                have H := H1
                clear H1
                by_cases c71 : t213.length < 17592186044416
                · rw [if_pos c71] at H
                  have LMc71 := Aside0.mk c71
                  clear c71
                  obtain ⟨y225, hy225⟩ : ∃ y_ : List Int, y_ = (t213 ++ [t217]) := ⟨_, rfl⟩
                  replace H : (if (y225.length : Int) > 10 then (if 1 ≤ (y225.length : Int) then (some (t211, t212, (y225.drop (1 : Int).toNat), t217, 0)) else (none)) else (some (t211, t212, y225, t217, 0))) = some (r1, r2, r3, r4, r5) := by first | (rw [hy225]; with_reducible exact H) | (have H2_ := (Option.bind_some _ _).symm.trans H; rw [hy225]; with_reducible exact H2_) | (have H2_ := (Option.bind_some _ _).symm.trans H; with_reducible exact H2_) | with_reducible exact H | (rw [hy225]; exact H) | exact H
                  have Ny225 := Aside0.mk hy225
                  clear hy225
                  by_cases c72 : (y225.length : Int) > 10
                  · rw [if_pos c72] at H
                    have c72b0 : decide (10 < (y225.length : Int)) = true := decide_eq_true c72
                    have c72b1 : decide (10 < y225.length) = true := decide_eq_true (by omega)
                    clear c72
                    by_cases c73 : 1 ≤ (y225.length : Int)
                    · rw [if_pos c73] at H
                      have c73b0 := eq_true c73
                      have c73b1 : decide (1 ≤ (y225.length : Int)) = true := decide_eq_true c73
                      clear c73
                      obtain ⟨y228, hy228⟩ : ∃ y_ : List Int, y_ = (y225.drop (1 : Int).toNat) := ⟨_, rfl⟩
                      replace H : (some (t211, t212, y228, t217, 0)) = some (r1, r2, r3, r4, r5) := by first | (rw [hy228]; with_reducible exact H) | (have H2_ := (Option.bind_some _ _).symm.trans H; rw [hy228]; with_reducible exact H2_) | (have H2_ := (Option.bind_some _ _).symm.trans H; with_reducible exact H2_) | with_reducible exact H | (rw [hy228]; exact H) | exact H
                      have Ny228 := Aside0.mk hy228
                      clear hy228
                      simp only [Option.some.injEq, Prod.mk.injEq] at H
                      obtain ⟨rfl, rfl, rfl, rfl, rfl⟩ := H
                      have hnb74 := NB216_208.out
                      have hnc74 := NB208_216.out
                      have hnb75 := NB216_209.out
                      have hnc75 := NB209_216.out
                      have hcz76_0 : wc.cell? ⟨gb216, 0, none⟩ = some (.int .i64 t211) := (blk_cell BK216.out 0).trans rfl
                      have hcz76_1 : wc.cell? ⟨gb216, 1, none⟩ = some (.int .i64 t212) := (blk_cell BK216.out 1).trans rfl
                      have hcz76_2 : wc.cell? ⟨gb216, 2, none⟩ = some (.slice Ao45 t213.length co45) := (blk_cell BK216.out 2).trans rfl
                      have hfz76_0 := blk_frozen BK216.out 0
                      have hfz76_1 := blk_frozen BK216.out 1
                      have hfz76_2 := blk_frozen BK216.out 2
                      go_wp2_with (first | ((with_reducible refine gate_builtin (b := .append) (xs := #[.tmp 65, .tmp 67]) rfl ?_); at_builtin; refine Kd.Q_append (Kd.int .i64) (w0 := w) w.heap.size rfl (.tmp 65) (.tmp 67) 22 3 (.int .i64 0) 8 rfl Try.underlying22 info3 rfl (by decide) (by omega) (.slice Ao45 t213.length co45) t213 t217 [.int .i64 t217] (fun _ => True) (fun _ => False) rfl rfl ?aP (fun _ hk => hk.elim) ?aF ?aO ?aB ?aS ?aL ?_; (case aP => exact rfl); (case aB => exact (by repeat (first | (with_reducible first | exact HB.out | apply below_alloc | apply pw_below_drewN | apply below_drew1 | refine below_set ?_ GE208.out | refine below_set ?_ GE209.out | refine below_set ?_ GE216.out) | exact HB.out))); (case aF => exact (fun _ _ => trivial)); (case aO => exact (by (with_reducible repeat (first | apply Kd.Q_alloc | apply Kd.Q_drewN | apply Kd.Q_drew)); exact HO_217002.out)); (case aS => exact (below_size (by repeat (first | (with_reducible first | exact HB.out | apply below_alloc | apply pw_below_drewN | apply below_drew1 | refine below_set ?_ GE208.out | refine below_set ?_ GE209.out | refine below_set ?_ GE216.out) | exact HB.out)))); (case aL => have := LMc71.out; omega); intro v226 w77 ho hb hg hat; rw [← Ny225.out] at ho; have n0_ := Aside0.mk (blk_grown (g := gb208) (o := .cells #[.int .i64 a0_0, .int .i64 a0_1, .slice A0_2 l0_2.length c0_2] 24 (0, 0)) (by (with_reducible repeat (first | refine blk_drewN ?_ _ | refine blk_drew ?_ | refine blk_alloc ?_ _)); exact BK208.out) hg (Kd.Q_ne HO_217002.out BK208.out (by decide))); have n1_ := Aside0.mk (blk_grown (g := gb209) (o := .cells #[.int .i64 0, .int .i64 0, .slice none 0 0] 24 (0, 0)) (by (with_reducible repeat (first | refine blk_drewN ?_ _ | refine blk_drew ?_ | refine blk_alloc ?_ _)); exact BK209.out) hg (Kd.Q_ne HO_217002.out BK209.out (by decide))); have n2_ := Aside0.mk (blk_grown (g := gb216) (o := .cells #[.int .i64 t211, .int .i64 t212, .slice Ao45 t213.length co45] 24 (0, 0)) (by (with_reducible repeat (first | refine blk_drewN ?_ _ | refine blk_drew ?_ | refine blk_alloc ?_ _)); exact BK216.out) hg (Kd.Q_ne HO_217002.out BK216.out (by decide))); have n3_ := Aside0.mk (hb); have n4_ := Aside0.mk (ho); clear BK208; clear BK209; clear BK216; clear HB; clear HO_217002; have BK208 := n0_; have BK209 := n1_; have BK216 := n2_; have HB := n3_; have HO227 := n4_; clear n0_ n1_ n2_ n3_ n4_; clear ho hb hg hat; obtain ⟨Ao78, co78, eo78, _⟩ := Kd.Q_slice HO227.out; subst eo78; have hcz79_0 : w77.cell? ⟨gb216, 0, none⟩ = some (.int .i64 t211) := (blk_cell BK216.out 0).trans rfl; have hcz79_1 : w77.cell? ⟨gb216, 1, none⟩ = some (.int .i64 t212) := (blk_cell BK216.out 1).trans rfl; have hcz79_2 : w77.cell? ⟨gb216, 2, none⟩ = some (.slice Ao45 t213.length co45) := (blk_cell BK216.out 2).trans rfl; have hfz79_0 := blk_frozen BK216.out 0; have hfz79_1 := blk_frozen BK216.out 1; have hfz79_2 := blk_frozen BK216.out 2) | ((with_reducible refine gate_store (t := 22) (p := 69) rfl ?_); refine store_event (t := 22) (p := 69) (v := ?vo_w80) (w1 := (w77.setCell ⟨gb216, 2, none⟩ (.slice Ao78 y225.length co78))) ?hg ?ho ?hn ?hr ?_; (case ho => rfl); (case hg => rfl); (case hn => rfl); (case hr => first | (go_simp; done) | (go_simp; rfl)); intro w80 hw; have n0_ : Aside0 (Kd.Q (Kd.int .i64) 3 w80 w.heap.size (fun _ => True) (.slice Ao78 y225.length co78) y225) := ⟨(by rw [hw]; exact (by (with_reducible repeat (first | apply Kd.Q_alloc | apply Kd.Q_drewN | apply Kd.Q_drew)); exact Kd.Q_mono (Kd.Q_far (p := ⟨gb216, 2, none⟩) (Kd.Q_types HO227.out BK216.out (by decide)) (fun _ hk => hk.2) (.slice Ao78 y225.length co78)) (fun _ hk => trivial)))⟩; have n1_ : Aside0 (w80.heap[gb208]? = some (.cells #[.int .i64 a0_0, .int .i64 a0_1, .slice A0_2 l0_2.length c0_2] 24 (0, 0))) := ⟨(by rw [hw]; exact (by (with_reducible repeat (first | refine blk_drewN ?_ _ | refine blk_drew ?_ | refine blk_alloc ?_ _)); refine blk_far ?_ NB208_216.out _; (with_reducible repeat (first | refine blk_drewN ?_ _ | refine blk_drew ?_ | refine blk_alloc ?_ _)); exact BK208.out))⟩; have n2_ : Aside0 (w80.heap[gb209]? = some (.cells #[.int .i64 0, .int .i64 0, .slice none 0 0] 24 (0, 0))) := ⟨(by rw [hw]; exact (by (with_reducible repeat (first | refine blk_drewN ?_ _ | refine blk_drew ?_ | refine blk_alloc ?_ _)); refine blk_far ?_ NB209_216.out _; (with_reducible repeat (first | refine blk_drewN ?_ _ | refine blk_drew ?_ | refine blk_alloc ?_ _)); exact BK209.out))⟩; have n3_ : Aside0 (w80.heap[gb216]? = some (.cells #[.int .i64 t211, .int .i64 t212, .slice Ao78 y225.length co78] 24 (0, 0))) := ⟨(by rw [hw]; exact (by (with_reducible repeat (first | refine blk_drewN ?_ _ | refine blk_drew ?_ | refine blk_alloc ?_ _)); refine blk_put (cs := #[.int .i64 t211, .int .i64 t212, .slice Ao45 t213.length co45]) ?_ 2 _ rfl; (with_reducible repeat (first | refine blk_drewN ?_ _ | refine blk_drew ?_ | refine blk_alloc ?_ _)); exact BK216.out))⟩; have n4_ : Aside0 (Below w.heap.size w w80) := ⟨(by rw [hw]; exact (by repeat (first | (with_reducible first | exact HB.out | apply below_alloc | apply pw_below_drewN | apply below_drew1 | refine below_set ?_ GE208.out | refine below_set ?_ GE209.out | refine below_set ?_ GE216.out) | exact HB.out)))⟩; clear hw; clear HO227; clear BK208; clear BK209; clear BK216; clear HB; have HO227 := n0_; have BK208 := n1_; have BK209 := n2_; have BK216 := n3_; have HB := n4_; clear n0_ n1_ n2_ n3_ n4_; have hcz81_0 : w80.cell? ⟨gb216, 0, none⟩ = some (.int .i64 t211) := (blk_cell BK216.out 0).trans rfl; have hcz81_1 : w80.cell? ⟨gb216, 1, none⟩ = some (.int .i64 t212) := (blk_cell BK216.out 1).trans rfl; have hcz81_2 : w80.cell? ⟨gb216, 2, none⟩ = some (.slice Ao78 y225.length co78) := (blk_cell BK216.out 2).trans rfl; have hfz81_0 := blk_frozen BK216.out 0; have hfz81_1 := blk_frozen BK216.out 1; have hfz81_2 := blk_frozen BK216.out 2; have q82 : (1 : Int) ≤ ((y225.length : Int) : Int) := of_decide_eq_true (by first | (with_reducible assumption) | assumption); obtain ⟨i082, hi082, _, hsz82, _⟩ := info_parts info3; have hcut82 := cut_from (P := Try.prog) 22 3 .i64 Try.underlying22 hi082 1 hsz82 Ao78 y225.length co78 1 (by omega) q82; have hr82 := Kd.Q_drop (k := (1 : Int).toNat) HO227.out (by omega); obtain ⟨A82, hA82⟩ : ∃ A1, A1 = (if co78 = (1 : Int).toNat then Ao78 else (Ao78 : Option Addr).map (·.add ((1 : Int).toNat * 1))) := ⟨_, rfl⟩; obtain ⟨c82, hc82⟩ : ∃ c1, c1 = co78 - (1 : Int).toNat := ⟨_, rfl⟩; have hy82 : y228.length = y225.length - (1 : Int).toNat := (by rw [Ny228.out, List.length_drop]); rw [← Ny228.out] at hr82; rw [← hy82, ← hA82, ← hc82] at hcut82; replace hr82 : Kd.Q (Kd.int .i64) 3 w80 w.heap.size (fun _ => True) (.slice A82 y228.length c82) y228 := (by rw [hA82, hc82, hy82]; exact hr82); have HE82 : Aside0 ((Value.slice A82 y228.length c82).ownBlock = (.slice Ao78 y225.length co78 : Value).ownBlock) := ⟨by rw [hA82]; split <;> (cases (Ao78 : Option Addr) <;> first | rfl | (simp only [Value.ownBlock, Option.map_some, Addr.add]; split <;> rfl))⟩; clear hy82 hi082 hsz82 HO227 hA82 hc82; have HO230 := Aside0.mk hr82; clear hr82; replace q82 := eq_true q82; have hnb83 := NB209_208.out; have hnc83 := NB208_209.out; have hcz84_0 : w80.cell? ⟨gb209, 0, none⟩ = some (.int .i64 0) := (blk_cell BK209.out 0).trans rfl; have hcz84_1 : w80.cell? ⟨gb209, 1, none⟩ = some (.int .i64 0) := (blk_cell BK209.out 1).trans rfl; have hcz84_2 : w80.cell? ⟨gb209, 2, none⟩ = some (.slice none 0 0) := (blk_cell BK209.out 2).trans rfl; have hfz84_0 := blk_frozen BK209.out 0; have hfz84_1 := blk_frozen BK209.out 1; have hfz84_2 := blk_frozen BK209.out 2))
                      refine bodyPost_ret (results_ctt rfl _ _ gb209 24 #[.int .i64 t211, .int .i64 t212, .slice A82 y228.length c82] (0, 0) _ rfl (by (with_reducible repeat (first | refine blk_drewN ?_ _ | refine blk_drew ?_ | refine blk_alloc ?_ _)); refine blk_put (cs := #[.int .i64 t211, .int .i64 t212, .slice none 0 0]) ?_ 2 _ rfl; (with_reducible repeat (first | refine blk_drewN ?_ _ | refine blk_drew ?_ | refine blk_alloc ?_ _)); refine blk_put (cs := #[.int .i64 t211, .int .i64 0, .slice none 0 0]) ?_ 1 _ rfl; (with_reducible repeat (first | refine blk_drewN ?_ _ | refine blk_drew ?_ | refine blk_alloc ?_ _)); refine blk_put (cs := #[.int .i64 0, .int .i64 0, .slice none 0 0]) ?_ 0 _ rfl; (with_reducible repeat (first | refine blk_drewN ?_ _ | refine blk_drew ?_ | refine blk_alloc ?_ _)); refine blk_far ?_ NB209_216.out _; (with_reducible repeat (first | refine blk_drewN ?_ _ | refine blk_drew ?_ | refine blk_alloc ?_ _)); exact BK209.out) Try.underlying24 rfl (by kernel_rfl)) rfl ?_
                      exact ⟨_, by first | rfl | (simp [errW_none, errW_some] <;> rfl) | (simp [*, errW_none, errW_some] <;> rfl), by (with_reducible repeat (first | apply Kd.Q_alloc | apply Kd.Q_drewN | apply Kd.Q_drew)); exact Kd.Q_mono (Kd.Q_far (p := ⟨gb209, 2, none⟩) (Kd.Q_far (p := ⟨gb209, 1, none⟩) (Kd.Q_far (p := ⟨gb209, 0, none⟩) (Kd.Q_far (p := ⟨gb216, 2, none⟩) (Kd.Q_types (Kd.Q_types HO230.out BK216.out (by decide)) BK209.out (by decide)) (fun _ hk => hk.1.2) (.slice A82 y228.length c82)) (fun _ hk => hk.2) (.int .i64 t211)) (fun _ hk => hk.2) (.int .i64 t212)) (fun _ hk => hk.2) (.slice A82 y228.length c82)) (fun _ hk => trivial), by repeat (first | (with_reducible first | exact HB.out | apply below_alloc | apply pw_below_drewN | apply below_drew1 | refine below_set ?_ GE208.out | refine below_set ?_ GE209.out | refine below_set ?_ GE216.out) | exact HB.out)⟩
                    · rw [if_neg c73] at H
                      exact absurd H (by simp)
                  · rw [if_neg c72] at H
                    have c72b0 : decide (10 < (y225.length : Int)) = false := decide_eq_false c72
                    have c72b1 : decide (10 < y225.length) = false := decide_eq_false (by omega)
                    clear c72
                    simp only [Option.some.injEq, Prod.mk.injEq] at H
                    obtain ⟨rfl, rfl, rfl, rfl, rfl⟩ := H
                    have hnb85 := NB216_208.out
                    have hnc85 := NB208_216.out
                    have hnb86 := NB216_209.out
                    have hnc86 := NB209_216.out
                    have hcz87_0 : wc.cell? ⟨gb216, 0, none⟩ = some (.int .i64 t211) := (blk_cell BK216.out 0).trans rfl
                    have hcz87_1 : wc.cell? ⟨gb216, 1, none⟩ = some (.int .i64 t212) := (blk_cell BK216.out 1).trans rfl
                    have hcz87_2 : wc.cell? ⟨gb216, 2, none⟩ = some (.slice Ao45 t213.length co45) := (blk_cell BK216.out 2).trans rfl
                    have hfz87_0 := blk_frozen BK216.out 0
                    have hfz87_1 := blk_frozen BK216.out 1
                    have hfz87_2 := blk_frozen BK216.out 2
                    go_wp2_with (first | ((with_reducible refine gate_builtin (b := .append) (xs := #[.tmp 65, .tmp 67]) rfl ?_); at_builtin; refine Kd.Q_append (Kd.int .i64) (w0 := w) w.heap.size rfl (.tmp 65) (.tmp 67) 22 3 (.int .i64 0) 8 rfl Try.underlying22 info3 rfl (by decide) (by omega) (.slice Ao45 t213.length co45) t213 t217 [.int .i64 t217] (fun _ => True) (fun _ => False) rfl rfl ?aP (fun _ hk => hk.elim) ?aF ?aO ?aB ?aS ?aL ?_; (case aP => exact rfl); (case aB => exact (by repeat (first | (with_reducible first | exact HB.out | apply below_alloc | apply pw_below_drewN | apply below_drew1 | refine below_set ?_ GE208.out | refine below_set ?_ GE209.out | refine below_set ?_ GE216.out) | exact HB.out))); (case aF => exact (fun _ _ => trivial)); (case aO => exact (by (with_reducible repeat (first | apply Kd.Q_alloc | apply Kd.Q_drewN | apply Kd.Q_drew)); exact HO_217002.out)); (case aS => exact (below_size (by repeat (first | (with_reducible first | exact HB.out | apply below_alloc | apply pw_below_drewN | apply below_drew1 | refine below_set ?_ GE208.out | refine below_set ?_ GE209.out | refine below_set ?_ GE216.out) | exact HB.out)))); (case aL => have := LMc71.out; omega); intro v226 w88 ho hb hg hat; rw [← Ny225.out] at ho; have n0_ := Aside0.mk (blk_grown (g := gb208) (o := .cells #[.int .i64 a0_0, .int .i64 a0_1, .slice A0_2 l0_2.length c0_2] 24 (0, 0)) (by (with_reducible repeat (first | refine blk_drewN ?_ _ | refine blk_drew ?_ | refine blk_alloc ?_ _)); exact BK208.out) hg (Kd.Q_ne HO_217002.out BK208.out (by decide))); have n1_ := Aside0.mk (blk_grown (g := gb209) (o := .cells #[.int .i64 0, .int .i64 0, .slice none 0 0] 24 (0, 0)) (by (with_reducible repeat (first | refine blk_drewN ?_ _ | refine blk_drew ?_ | refine blk_alloc ?_ _)); exact BK209.out) hg (Kd.Q_ne HO_217002.out BK209.out (by decide))); have n2_ := Aside0.mk (blk_grown (g := gb216) (o := .cells #[.int .i64 t211, .int .i64 t212, .slice Ao45 t213.length co45] 24 (0, 0)) (by (with_reducible repeat (first | refine blk_drewN ?_ _ | refine blk_drew ?_ | refine blk_alloc ?_ _)); exact BK216.out) hg (Kd.Q_ne HO_217002.out BK216.out (by decide))); have n3_ := Aside0.mk (hb); have n4_ := Aside0.mk (ho); clear BK208; clear BK209; clear BK216; clear HB; clear HO_217002; have BK208 := n0_; have BK209 := n1_; have BK216 := n2_; have HB := n3_; have HO227 := n4_; clear n0_ n1_ n2_ n3_ n4_; clear ho hb hg hat; obtain ⟨Ao89, co89, eo89, _⟩ := Kd.Q_slice HO227.out; subst eo89; have hcz90_0 : w88.cell? ⟨gb216, 0, none⟩ = some (.int .i64 t211) := (blk_cell BK216.out 0).trans rfl; have hcz90_1 : w88.cell? ⟨gb216, 1, none⟩ = some (.int .i64 t212) := (blk_cell BK216.out 1).trans rfl; have hcz90_2 : w88.cell? ⟨gb216, 2, none⟩ = some (.slice Ao45 t213.length co45) := (blk_cell BK216.out 2).trans rfl; have hfz90_0 := blk_frozen BK216.out 0; have hfz90_1 := blk_frozen BK216.out 1; have hfz90_2 := blk_frozen BK216.out 2; have hnb91 := NB209_208.out; have hnc91 := NB208_209.out; have hcz92_0 : w88.cell? ⟨gb209, 0, none⟩ = some (.int .i64 0) := (blk_cell BK209.out 0).trans rfl; have hcz92_1 : w88.cell? ⟨gb209, 1, none⟩ = some (.int .i64 0) := (blk_cell BK209.out 1).trans rfl; have hcz92_2 : w88.cell? ⟨gb209, 2, none⟩ = some (.slice none 0 0) := (blk_cell BK209.out 2).trans rfl; have hfz92_0 := blk_frozen BK209.out 0; have hfz92_1 := blk_frozen BK209.out 1; have hfz92_2 := blk_frozen BK209.out 2))
                    refine bodyPost_ret (results_ctt rfl _ _ gb209 24 #[.int .i64 t211, .int .i64 t212, .slice Ao89 y225.length co89] (0, 0) _ rfl (by (with_reducible repeat (first | refine blk_drewN ?_ _ | refine blk_drew ?_ | refine blk_alloc ?_ _)); refine blk_put (cs := #[.int .i64 t211, .int .i64 t212, .slice none 0 0]) ?_ 2 _ rfl; (with_reducible repeat (first | refine blk_drewN ?_ _ | refine blk_drew ?_ | refine blk_alloc ?_ _)); refine blk_put (cs := #[.int .i64 t211, .int .i64 0, .slice none 0 0]) ?_ 1 _ rfl; (with_reducible repeat (first | refine blk_drewN ?_ _ | refine blk_drew ?_ | refine blk_alloc ?_ _)); refine blk_put (cs := #[.int .i64 0, .int .i64 0, .slice none 0 0]) ?_ 0 _ rfl; (with_reducible repeat (first | refine blk_drewN ?_ _ | refine blk_drew ?_ | refine blk_alloc ?_ _)); refine blk_far ?_ NB209_216.out _; (with_reducible repeat (first | refine blk_drewN ?_ _ | refine blk_drew ?_ | refine blk_alloc ?_ _)); exact BK209.out) Try.underlying24 rfl (by kernel_rfl)) rfl ?_
                    exact ⟨_, by first | rfl | (simp [errW_none, errW_some] <;> rfl) | (simp [*, errW_none, errW_some] <;> rfl), by (with_reducible repeat (first | apply Kd.Q_alloc | apply Kd.Q_drewN | apply Kd.Q_drew)); exact Kd.Q_mono (Kd.Q_far (p := ⟨gb209, 2, none⟩) (Kd.Q_far (p := ⟨gb209, 1, none⟩) (Kd.Q_far (p := ⟨gb209, 0, none⟩) (Kd.Q_far (p := ⟨gb216, 2, none⟩) (Kd.Q_types (Kd.Q_types HO227.out BK216.out (by decide)) BK209.out (by decide)) (fun _ hk => hk.1.2) (.slice Ao89 y225.length co89)) (fun _ hk => hk.2) (.int .i64 t211)) (fun _ hk => hk.2) (.int .i64 t212)) (fun _ hk => hk.2) (.slice Ao89 y225.length co89)) (fun _ hk => trivial), by repeat (first | (with_reducible first | exact HB.out | apply below_alloc | apply pw_below_drewN | apply below_drew1 | refine below_set ?_ GE208.out | refine below_set ?_ GE209.out | refine below_set ?_ GE216.out) | exact HB.out)⟩
                · rw [if_neg c71] at H
                  exact absurd H (by simp)

/-! ### fourinhandref11_Best: function 16 -/
mutual
def fourinhandref11_Best.l0 : Nat → Int → Bool → Int → Int → Int → List Int → Option (Int)
  | 0, _, _, _, _, _, _ => none
  | k + 1, x3, x4, x5, x232000, x232001, x232002 => if x5 < (x232002.length : Int) then (fourinhandref11_Best.j1 k x3 x4 x5 x4 x232000 x232001 x232002) else (fourinhandref11_Best.j1 k x3 x4 x5 false x232000 x232001 x232002)
def fourinhandref11_Best.j1 : Nat → Int → Bool → Int → Bool → Int → Int → List Int → Option (Int)
  | 0, _, _, _, _, _, _, _ => none
  | k + 1, x3, x4, x5, x15, x232000, x232001, x232002 => if x15 = true then (if 0 ≤ x5 then (if x5 < (x232002.length : Int) then (if (rd x232002 x5) > x3 then (fourinhandref11_Best.l0 k (rd x232002 x5) x4 (wrap64 (x5 + 1)) x232000 x232001 x232002) else (fourinhandref11_Best.l0 k x3 x4 (wrap64 (x5 + 1)) x232000 x232001 x232002)) else (none)) else (none)) else (some x3)
end
def fourinhandref11_Best.f (k : Nat) (a0_0 : Int) (a0_1 : Int) (l0_2 : List Int) : Option (Int) := (fourinhandref11_May.f k a0_0 a0_1 l0_2).bind fun t232 => (fourinhandref11_Best.l0 k 0 t232 0 a0_0 a0_1 l0_2)
theorem fourinhandref11_Best.mono_l : ∀ k, (∀ y0 y1 y2 y3 y4 y5, LeO (fourinhandref11_Best.l0 k y0 y1 y2 y3 y4 y5) (fourinhandref11_Best.l0 (k + 1) y0 y1 y2 y3 y4 y5)) ∧ (∀ y0 y1 y2 y3 y4 y5 y6, LeO (fourinhandref11_Best.j1 k y0 y1 y2 y3 y4 y5 y6) (fourinhandref11_Best.j1 (k + 1) y0 y1 y2 y3 y4 y5 y6))
  | 0 => ⟨fun _ _ _ _ _ _ r h => by simp [fourinhandref11_Best.l0] at h, fun _ _ _ _ _ _ _ r h => by simp [fourinhandref11_Best.j1] at h⟩
  | k + 1 => by
    obtain ⟨ih0, ih1⟩ := fourinhandref11_Best.mono_l k
    refine ⟨?_, ?_⟩
    · intro y0 y1 y2 y3 y4 y5
      unfold fourinhandref11_Best.l0
      repeat' first
      | (with_reducible exact ih0 _ _ _ _ _ _)
      | (with_reducible exact ih1 _ _ _ _ _ _ _)
      | (with_reducible exact fourinhandref11_May.mono _ _ _ _)
      | (with_reducible exact LeO.refl _)
      | (with_reducible exact LeO.none _)
      | (with_reducible refine LeO.ite ?_ ?_)
      | (with_reducible refine LeO.bind ?_ (fun _ => ?_))
      | exact ih0 _ _ _ _ _ _
      | exact ih1 _ _ _ _ _ _ _
      | exact fourinhandref11_May.mono _ _ _ _
      | exact LeO.none _
      | refine LeO.ite ?_ ?_
      | refine LeO.bind ?_ (fun _ => ?_)
    · intro y0 y1 y2 y3 y4 y5 y6
      unfold fourinhandref11_Best.j1
      repeat' first
      | (with_reducible exact ih0 _ _ _ _ _ _)
      | (with_reducible exact ih1 _ _ _ _ _ _ _)
      | (with_reducible exact fourinhandref11_May.mono _ _ _ _)
      | (with_reducible exact LeO.refl _)
      | (with_reducible exact LeO.none _)
      | (with_reducible refine LeO.ite ?_ ?_)
      | (with_reducible refine LeO.bind ?_ (fun _ => ?_))
      | exact ih0 _ _ _ _ _ _
      | exact ih1 _ _ _ _ _ _ _
      | exact fourinhandref11_May.mono _ _ _ _
      | exact LeO.none _
      | refine LeO.ite ?_ ?_
      | refine LeO.bind ?_ (fun _ => ?_)
theorem fourinhandref11_Best.mono : ∀ a0 a1 a2 k, LeO (fourinhandref11_Best.f k a0 a1 a2) (fourinhandref11_Best.f (k + 1) a0 a1 a2) := by
  intro a0 a1 a2 k
  obtain ⟨ih0, ih1⟩ := fourinhandref11_Best.mono_l k
  unfold fourinhandref11_Best.f
  repeat' first
      | (with_reducible exact ih0 _ _ _ _ _ _)
      | (with_reducible exact ih1 _ _ _ _ _ _ _)
      | (with_reducible exact fourinhandref11_May.mono _ _ _ _)
      | (with_reducible exact LeO.refl _)
      | (with_reducible exact LeO.none _)
      | (with_reducible refine LeO.ite ?_ ?_)
      | (with_reducible refine LeO.bind ?_ (fun _ => ?_))
      | exact ih0 _ _ _ _ _ _
      | exact ih1 _ _ _ _ _ _ _
      | exact fourinhandref11_May.mono _ _ _ _
      | exact LeO.none _
      | refine LeO.ite ?_ ?_
      | refine LeO.bind ?_ (fun _ => ?_)
set_option maxHeartbeats 8000000 in
set_option maxRecDepth 100000 in
theorem fourinhandref11_Best.calls (k : Nat) (a0_0 : Int) (a0_1 : Int) (A0_2 : Option Addr) (c0_2 : Nat) (l0_2 : List Int) (r : Int) (w : World) (hr0_2 : Kd.C (Kd.int .i64) w A0_2 l0_2.length l0_2) (hc0_2 : l0_2.length ≤ c0_2) (h : fourinhandref11_Best.f k a0_0 a0_1 l0_2 = some r) :
    Calls Try.prog 16 #[.agg #[.int .i64 a0_0, .int .i64 a0_1, .slice A0_2 l0_2.length c0_2]] w fun e w' => e = .returned (.int .i64 r) ∧ Below w.heap.size w w' := by
  have hu24 := Try.underlying24
  have HR0_2 := Aside0.mk hr0_2
  have HC0_2 := Aside0.mk hc0_2
  clear hr0_2 hc0_2
  have HB := Aside0.mk (Below.refl w.heap.size w)
  have H : ((fourinhandref11_May.f k a0_0 a0_1 l0_2).bind fun t232 => (fourinhandref11_Best.l0 k 0 t232 0 a0_0 a0_1 l0_2)) = some r := h
  clear h
  replace H := Option.bind_eq_some_iff.mp H
  obtain ⟨t232, A20, H⟩ := H
  replace H : (fourinhandref11_Best.l0 k 0 t232 0 a0_0 a0_1 l0_2) = some r := H
  have A2 := Aside0.mk A20
  clear A20
  have H' := Aside0.mk H
  clear H
  go_enter Try.func16, Try.ntmps16
  go_wp2_with (first | ((with_reducible refine gate_dst (N := 1) rfl ?_); refine box_event ?hg (N := 1) ?hd (cs := #[.int .i64 a0_0, .int .i64 a0_1, .slice A0_2 l0_2.length c0_2]) (t := 24) ?hr ?_; (case hd => rfl); (case hg => rfl); (case hr => first | (go_simp; done) | (go_simp; rfl)); intro gb231 hg w3 hbox hb; have n0_ := Aside0.mk (below_step (by repeat (first | (with_reducible first | exact HB.out | apply below_alloc | apply pw_below_drewN | apply below_drew1) | exact HB.out)) hb); have n1_ := Aside0.mk (hbox); have n2_ := Aside0.mk ((by rw [hg]; exact (below_size (by repeat (first | (with_reducible first | exact HB.out | apply below_alloc | apply pw_below_drewN | apply below_drew1) | exact HB.out))) : w.heap.size ≤ gb231)); have n3_ := Aside0.mk ((by rw [hg]; exact (below_size (by repeat (first | (with_reducible first | exact HB.out | apply below_alloc | apply pw_below_drewN | apply below_drew1) | exact HB.out))) : w.heap.size ≤ gb231)); clear HB; have HB := n0_; have BK231 := n1_; have GW231 := n2_; have GE231 := n3_; clear n0_ n1_ n2_ n3_; clear hb hbox hg; have hcz4_0 : w3.cell? ⟨gb231, 0, none⟩ = some (.int .i64 a0_0) := (blk_cell BK231.out 0).trans rfl; have hcz4_1 : w3.cell? ⟨gb231, 1, none⟩ = some (.int .i64 a0_1) := (blk_cell BK231.out 1).trans rfl; have hcz4_2 : w3.cell? ⟨gb231, 2, none⟩ = some (.slice A0_2 l0_2.length c0_2) := (blk_cell BK231.out 2).trans rfl; have hfz4_0 := blk_frozen BK231.out 0; have hfz4_1 := blk_frozen BK231.out 1; have hfz4_2 := blk_frozen BK231.out 2) | ((with_reducible refine gate_callee (f := 18) rfl ?_); refine goesL_ (some 7) rfl rfl Try.func18 (by kernel_rfl) rfl #[.agg #[.int .i64 a0_0, .int .i64 a0_1, .slice A0_2 l0_2.length c0_2]] rfl (by (try simp only [List.map_toArray, List.map_cons, List.map_nil]); first | done | rfl | (simp only [List.length_drop, List.length_take]; rfl)) ?_; (with_reducible refine (fourinhandref11_May.calls k a0_0 a0_1 _ _ l0_2 t232 _ ?side1 ?side2 A2.out).mono ?_); (case side1 => repeat (first | exact (Kd.C_below HR0_2.out HB.out) | (with_reducible refine Kd.C_alloc ?_ _) | (with_reducible refine Kd.C_drewN ?_ _) | (with_reducible refine Kd.C_drew ?_))); (case side2 => exact HC0_2.out); rintro e w5 ⟨rfl, hb⟩; refine ⟨_, rfl, ?_⟩; have n0_ := Aside0.mk (blk_below (g := gb231) (o := .cells #[.int .i64 a0_0, .int .i64 a0_1, .slice A0_2 l0_2.length c0_2] 24 (0, 0)) (by (with_reducible repeat (first | refine blk_drewN ?_ _ | refine blk_drew ?_ | refine blk_alloc ?_ _)); exact BK231.out) hb); have n1_ := Aside0.mk (below_step (by repeat (first | (with_reducible first | exact HB.out | apply below_alloc | apply pw_below_drewN | apply below_drew1 | refine below_set ?_ GE231.out) | exact HB.out)) hb); clear BK231; clear HB; have BK231 := n0_; have HB := n1_; clear n0_ n1_; (try clear hb); (try clear hb2); (try clear hk); (try clear hi)))
  go_loopg [3, 5] k (fun kq v3 v5 w' => ∃ (x3_1 : Int) (x5_1 : Int), v3 = .int .i64 x3_1 ∧ v5 = .int .i64 x5_1 ∧ Aside0 (fourinhandref11_Best.l0 kq x3_1 t232 x5_1 a0_0 a0_1 l0_2 = some r) ∧ Aside0 (kq ≤ k) ∧ Aside0 (w'.heap[gb231]? = some (.cells #[.int .i64 a0_0, .int .i64 a0_1, (.slice A0_2 l0_2.length c0_2)] 24 (0, 0))) ∧ Aside0 (Below w.heap.size w w'))
  case atStart => exact ⟨(0), (0), (by first | rfl | (simp; done) | (simp [*]; done)), (by first | rfl | (simp; done) | (simp [*]; done)), H', ⟨Nat.le_refl _⟩, ⟨by (with_reducible repeat (first | refine blk_drewN ?_ _ | refine blk_drew ?_ | refine blk_alloc ?_ _)); exact BK231.out⟩, ⟨by repeat (first | (with_reducible first | exact HB.out | apply below_alloc | apply pw_below_drewN | apply below_drew1 | refine below_set ?_ GE231.out) | exact HB.out)⟩⟩
  case round =>
    clear H'
    try clear c1
    try clear p2
    try clear hcz4_0
    try clear hcz4_1
    try clear hcz4_2
    try clear hfz4_0
    try clear hfz4_1
    try clear hfz4_2
    obtain ⟨x3_1, x5_1, rfl, rfl, HA, HK1, BK231, HB⟩ := hrel
    cases gk with
    | zero => exact absurd HA.out (by simp [fourinhandref11_Best.l0])
    | succ k1 =>
      have H := HA.out
      clear HA
      simp only [fourinhandref11_Best.l0] at H
      have HC6 := Aside0.mk H
      clear H
      go_upto_region 4 with (fail)
      go_cut [15] (fun v15 wc => ∃ (kq : Nat) (x15_5 : Bool), v15 = .bool x15_5 ∧ Aside0 (fourinhandref11_Best.j1 kq x3_1 t232 x5_1 x15_5 a0_0 a0_1 l0_2 = some r) ∧ Aside0 (kq ≤ k1) ∧ Aside0 (wc.heap[gb231]? = some (.cells #[.int .i64 a0_0, .int .i64 a0_1, (.slice A0_2 l0_2.length c0_2)] 24 (0, 0))) ∧ Aside0 (Below w.heap.size w wc))
      case first =>
        have H := HC6.out
        clear HC6
        by_cases c7 : x5_1 < (l0_2.length : Int)
        · rw [if_pos c7] at H
          have c7b0 : decide (x5_1 < (l0_2.length : Int)) = true := decide_eq_true c7
          clear c7
          (first | rw [c7b0] | (simp only [i64_w, i32_w]; rw [c7b0]) | skip)
          have H' := Aside0.mk H
          clear H
          have hcz8_0 : wr.cell? ⟨gb231, 0, none⟩ = some (.int .i64 a0_0) := (blk_cell BK231.out 0).trans rfl
          have hcz8_1 : wr.cell? ⟨gb231, 1, none⟩ = some (.int .i64 a0_1) := (blk_cell BK231.out 1).trans rfl
          have hcz8_2 : wr.cell? ⟨gb231, 2, none⟩ = some (.slice A0_2 l0_2.length c0_2) := (blk_cell BK231.out 2).trans rfl
          have hfz8_0 := blk_frozen BK231.out 0
          have hfz8_1 := blk_frozen BK231.out 1
          have hfz8_2 := blk_frozen BK231.out 2
          go_wp2
          go_meet
          case rel => exact ⟨_, (t232), (by first | rfl | (simp; done) | (simp [*]; done)), H', ⟨by have := HK1.out; first | omega | exact Nat.le_refl _⟩, ⟨by (with_reducible repeat (first | refine blk_drewN ?_ _ | refine blk_drew ?_ | refine blk_alloc ?_ _)); exact BK231.out⟩, ⟨by repeat (first | (with_reducible first | exact HB.out | apply below_alloc | apply pw_below_drewN | apply below_drew1 | refine below_set ?_ GE231.out) | exact HB.out)⟩⟩
        · rw [if_neg c7] at H
          have c7b0 : decide (x5_1 < (l0_2.length : Int)) = false := decide_eq_false c7
          clear c7
          (first | rw [c7b0] | (simp only [i64_w, i32_w]; rw [c7b0]) | skip)
          have H' := Aside0.mk H
          clear H
          have hcz9_0 : wr.cell? ⟨gb231, 0, none⟩ = some (.int .i64 a0_0) := (blk_cell BK231.out 0).trans rfl
          have hcz9_1 : wr.cell? ⟨gb231, 1, none⟩ = some (.int .i64 a0_1) := (blk_cell BK231.out 1).trans rfl
          have hcz9_2 : wr.cell? ⟨gb231, 2, none⟩ = some (.slice A0_2 l0_2.length c0_2) := (blk_cell BK231.out 2).trans rfl
          have hfz9_0 := blk_frozen BK231.out 0
          have hfz9_1 := blk_frozen BK231.out 1
          have hfz9_2 := blk_frozen BK231.out 2
          go_wp2
          go_meet
          case rel => exact ⟨_, (false), (by first | rfl | (simp; done) | (simp [*]; done)), H', ⟨by have := HK1.out; first | omega | exact Nat.le_refl _⟩, ⟨by (with_reducible repeat (first | refine blk_drewN ?_ _ | refine blk_drew ?_ | refine blk_alloc ?_ _)); exact BK231.out⟩, ⟨by repeat (first | (with_reducible first | exact HB.out | apply below_alloc | apply pw_below_drewN | apply below_drew1 | refine below_set ?_ GE231.out) | exact HB.out)⟩⟩
      case rest =>
        clear HC6
        try clear c1
        try clear p2
        try clear c7
        try clear c7b0
        try clear hcz4_0
        try clear hcz4_1
        try clear hcz4_2
        try clear hcz8_0
        try clear hcz8_1
        try clear hcz8_2
        try clear hcz9_0
        try clear hcz9_1
        try clear hcz9_2
        try clear hfz4_0
        try clear hfz4_1
        try clear hfz4_2
        try clear hfz8_0
        try clear hfz8_1
        try clear hfz8_2
        try clear hfz9_0
        try clear hfz9_1
        try clear hfz9_2
        try clear p2
        obtain ⟨kq, x15_5, rfl, HA, HJ5, BK231, HB⟩ := hcut
        cases kq with
        | zero => exact absurd HA.out (by simp [fourinhandref11_Best.j1])
        | succ kj5 =>
          have H := HA.out
          clear HA
          simp only [fourinhandref11_Best.j1] at H
          by_cases c10 : x15_5 = true
          · subst c10
            have H1 : (if 0 ≤ x5_1 then (if x5_1 < (l0_2.length : Int) then (if (rd l0_2 x5_1) > x3_1 then (fourinhandref11_Best.l0 kj5 (rd l0_2 x5_1) t232 (wrap64 (x5_1 + 1)) a0_0 a0_1 l0_2) else (fourinhandref11_Best.l0 kj5 x3_1 t232 (wrap64 (x5_1 + 1)) a0_0 a0_1 l0_2)) else (none)) else (none)) = some r := by rw [if_pos rfl] at H; exact H
            clear H
            have H := H1
            clear H1
            by_cases c11 : 0 ≤ x5_1
            · rw [if_pos c11] at H
              have c11b0 : decide (0 ≤ x5_1) = true := decide_eq_true c11
              clear c11
              by_cases c12 : x5_1 < (l0_2.length : Int)
              · rw [if_pos c12] at H
                have c12b0 : decide (x5_1 < (l0_2.length : Int)) = true := decide_eq_true c12
                clear c12
                by_cases c13 : (rd l0_2 x5_1) > x3_1
                · rw [if_pos c13] at H
                  have c13b0 : decide (x3_1 < (rd l0_2 x5_1)) = true := decide_eq_true c13
                  clear c13
                  have H' := Aside0.mk H
                  clear H
                  have hcz14_0 : wc.cell? ⟨gb231, 0, none⟩ = some (.int .i64 a0_0) := (blk_cell BK231.out 0).trans rfl
                  have hcz14_1 : wc.cell? ⟨gb231, 1, none⟩ = some (.int .i64 a0_1) := (blk_cell BK231.out 1).trans rfl
                  have hcz14_2 : wc.cell? ⟨gb231, 2, none⟩ = some (.slice A0_2 l0_2.length c0_2) := (blk_cell BK231.out 2).trans rfl
                  have hfz14_0 := blk_frozen BK231.out 0
                  have hfz14_1 := blk_frozen BK231.out 1
                  have hfz14_2 := blk_frozen BK231.out 2
                  have p233 : 0 ≤ (x5_1 : Int) := of_decide_eq_true (by first | (with_reducible assumption) | assumption)
                  have q233 : x5_1 < (l0_2.length : Int) := of_decide_eq_true (by first | (with_reducible assumption) | assumption)
                  obtain ⟨ad233, e233, hx233_0⟩ := Kd.at_int HR0_2.out x5_1 p233 q233
                  cases e233
                  replace hx233_0 := (HB.out.cell (World.block_lt_of_cell? w _ hx233_0)).trans hx233_0
                  replace p233 := eq_true p233
                  replace q233 := eq_true q233
                  have p234 : 0 ≤ (x5_1 : Int) := of_decide_eq_true (by first | (with_reducible assumption) | assumption)
                  have q234 : x5_1 < (l0_2.length : Int) := of_decide_eq_true (by first | (with_reducible assumption) | assumption)
                  obtain ⟨ad234, e234, hx234_0⟩ := Kd.at_int HR0_2.out x5_1 p234 q234
                  obtain rfl : ad233 = ad234 := (by injection e234)
                  replace hx234_0 := (HB.out.cell (World.block_lt_of_cell? w _ hx234_0)).trans hx234_0
                  replace p234 := eq_true p234
                  replace q234 := eq_true q234
                  go_wp2
                  go_roundg kj5
                  case measure => have := HK1.out; have := HJ5.out; omega
                  case rel => exact ⟨(rd l0_2 x5_1), (wrap64 (x5_1 + 1)), (by first | rfl | (simp; done) | (simp [*]; done)), (by first | rfl | (simp; done) | (simp [*]; done)), H', ⟨by have := HK1.out; have := HJ5.out; omega⟩, ⟨by (with_reducible repeat (first | refine blk_drewN ?_ _ | refine blk_drew ?_ | refine blk_alloc ?_ _)); exact BK231.out⟩, ⟨by repeat (first | (with_reducible first | exact HB.out | apply below_alloc | apply pw_below_drewN | apply below_drew1 | refine below_set ?_ GE231.out) | exact HB.out)⟩⟩
                · rw [if_neg c13] at H
                  have c13b0 : decide (x3_1 < (rd l0_2 x5_1)) = false := decide_eq_false c13
                  clear c13
                  have H' := Aside0.mk H
                  clear H
                  have hcz15_0 : wc.cell? ⟨gb231, 0, none⟩ = some (.int .i64 a0_0) := (blk_cell BK231.out 0).trans rfl
                  have hcz15_1 : wc.cell? ⟨gb231, 1, none⟩ = some (.int .i64 a0_1) := (blk_cell BK231.out 1).trans rfl
                  have hcz15_2 : wc.cell? ⟨gb231, 2, none⟩ = some (.slice A0_2 l0_2.length c0_2) := (blk_cell BK231.out 2).trans rfl
                  have hfz15_0 := blk_frozen BK231.out 0
                  have hfz15_1 := blk_frozen BK231.out 1
                  have hfz15_2 := blk_frozen BK231.out 2
                  have p233 : 0 ≤ (x5_1 : Int) := of_decide_eq_true (by first | (with_reducible assumption) | assumption)
                  have q233 : x5_1 < (l0_2.length : Int) := of_decide_eq_true (by first | (with_reducible assumption) | assumption)
                  obtain ⟨ad233, e233, hx233_0⟩ := Kd.at_int HR0_2.out x5_1 p233 q233
                  cases e233
                  replace hx233_0 := (HB.out.cell (World.block_lt_of_cell? w _ hx233_0)).trans hx233_0
                  replace p233 := eq_true p233
                  replace q233 := eq_true q233
                  go_wp2
                  go_roundg kj5
                  case measure => have := HK1.out; have := HJ5.out; omega
                  case rel => exact ⟨(x3_1), (wrap64 (x5_1 + 1)), (by first | rfl | (simp; done) | (simp [*]; done)), (by first | rfl | (simp; done) | (simp [*]; done)), H', ⟨by have := HK1.out; have := HJ5.out; omega⟩, ⟨by (with_reducible repeat (first | refine blk_drewN ?_ _ | refine blk_drew ?_ | refine blk_alloc ?_ _)); exact BK231.out⟩, ⟨by repeat (first | (with_reducible first | exact HB.out | apply below_alloc | apply pw_below_drewN | apply below_drew1 | refine below_set ?_ GE231.out) | exact HB.out)⟩⟩
              · rw [if_neg c12] at H
                exact absurd H (by simp)
            · rw [if_neg c11] at H
              exact absurd H (by simp)
          · replace c10 := Bool.eq_false_iff.mpr c10
            subst c10
            have H1 : (some x3_1) = some r := by rw [if_neg (show ¬ (false = true) by decide)] at H; exact H
            clear H
            have H := H1
            clear H1
            obtain rfl := Option.some.inj H
            go_wp2
            go_ret
            exact ⟨by first | rfl | (simp [errW_none, errW_some] <;> rfl) | (simp [*, errW_none, errW_some] <;> rfl), by repeat (first | (with_reducible first | exact HB.out | apply below_alloc | apply pw_below_drewN | apply below_drew1 | refine below_set ?_ GE231.out) | exact HB.out)⟩

end Go.Proofs.Ytfdaaodpbaikdaa.PRateTells
