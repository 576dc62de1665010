-- Written by a program of this session (wip/hprint.py), over the kit's print.py: the walk of one law. Lean checks it.
import Derived.Test.YtbkfegmhbiakhaaPRttSteadyx0
import Derived.Test.YtbkfegmhbiakhaaPRttSteadyx3
namespace Go.Proofs.Ytbkfegmhbiakhaa.PRttSteady
open Go.RowKit Go.Proofs.YtbkfegmhbiakhaaW.PrintWords Go.Proofs.YtbkfegmhbiakhaaW.PrintLast Go.Proofs.YtbkfegmhbiakhaaW.PrintMore
attribute [local go_sem] max2_int min2_int max_two min_two max_three min_three max_four min_four   -- for this text's walks alone
set_option linter.unusedVariables false
set_option linter.unusedSimpArgs false

/-! ### fourinhandlaw08_RttSteady: function 4 -/
mutual
def fourinhandlaw08_RttSteady.j0 : Nat → Int → Int → Bool → Bool → Option (Bool)
  | 0, _, _, _, _ => none
  | k + 1, x0, x1, x5, x29 => if x29 = true then (some x5) else (fourinhandlaw08_RttSteady.l0 k x0 x1 x0 0 false 0 0 0 0)
def fourinhandlaw08_RttSteady.l0 : Nat → Int → Int → Int → Int → Bool → Int → Int → Int → Int → Option (Bool)
  | 0, _, _, _, _, _, _, _, _, _ => none
  | k + 1, x0, x1, x7, x8, x149000, x149001, x149002, x149003, x149004 => if x8 < x1 then ((rtt_Sample.f k x149000 x149001 x149002 x149003 x149004 x0 1 1099511627776).bind fun bt149 => (if bt149.2.2.2.2.2 = 0 then (if bt149.2.1 = x0 then (if bt149.2.2.1 > x7 then (some false) else (fourinhandlaw08_RttSteady.l0 k x0 x1 bt149.2.2.1 (wrap64 (x8 + 1)) bt149.1 bt149.2.1 bt149.2.2.1 bt149.2.2.2.1 bt149.2.2.2.2.1)) else (some false)) else (some false))) else (some true)
end
def fourinhandlaw08_RttSteady.f (k : Nat) (a0 : Int) (a1 : Int) : Option (Bool) := (fourinhandlaw08_awake.f k).bind fun t147 => (if t147 = true then (if a0 < 0 then (fourinhandlaw08_RttSteady.j0 k a0 a1 t147 true) else (if a0 > 1099511627776 then (fourinhandlaw08_RttSteady.j0 k a0 a1 t147 true) else (if a1 < 1 then (fourinhandlaw08_RttSteady.j0 k a0 a1 t147 true) else (fourinhandlaw08_RttSteady.j0 k a0 a1 t147 (decide (a1 > 60)))))) else (fourinhandlaw08_RttSteady.j0 k a0 a1 t147 true))
theorem fourinhandlaw08_RttSteady.mono_l : ∀ k, (∀ y0 y1 y2 y3, LeO (fourinhandlaw08_RttSteady.j0 k y0 y1 y2 y3) (fourinhandlaw08_RttSteady.j0 (k + 1) y0 y1 y2 y3)) ∧ (∀ y0 y1 y2 y3 y4 y5 y6 y7 y8, LeO (fourinhandlaw08_RttSteady.l0 k y0 y1 y2 y3 y4 y5 y6 y7 y8) (fourinhandlaw08_RttSteady.l0 (k + 1) y0 y1 y2 y3 y4 y5 y6 y7 y8))
  | 0 => ⟨fun _ _ _ _ r h => by simp [fourinhandlaw08_RttSteady.j0] at h, fun _ _ _ _ _ _ _ _ _ r h => by simp [fourinhandlaw08_RttSteady.l0] at h⟩
  | k + 1 => by
    obtain ⟨ih0, ih1⟩ := fourinhandlaw08_RttSteady.mono_l k
    refine ⟨?_, ?_⟩
    · intro y0 y1 y2 y3
      unfold fourinhandlaw08_RttSteady.j0
      repeat' first
      | (with_reducible exact ih0 _ _ _ _)
      | (with_reducible exact ih1 _ _ _ _ _ _ _ _ _)
      | (with_reducible exact fourinhandlaw08_awake.mono _)
      | (with_reducible exact rtt_Sample.mono _ _ _ _ _ _ _ _ _)
      | (with_reducible exact LeO.refl _)
      | (with_reducible exact LeO.none _)
      | (with_reducible refine LeO.ite ?_ ?_)
      | (with_reducible refine LeO.bind ?_ (fun _ => ?_))
      | exact ih0 _ _ _ _
      | exact ih1 _ _ _ _ _ _ _ _ _
      | exact fourinhandlaw08_awake.mono _
      | exact rtt_Sample.mono _ _ _ _ _ _ _ _ _
      | exact LeO.none _
      | refine LeO.ite ?_ ?_
      | refine LeO.bind ?_ (fun _ => ?_)
    · intro y0 y1 y2 y3 y4 y5 y6 y7 y8
      unfold fourinhandlaw08_RttSteady.l0
      repeat' first
      | (with_reducible exact ih0 _ _ _ _)
      | (with_reducible exact ih1 _ _ _ _ _ _ _ _ _)
      | (with_reducible exact fourinhandlaw08_awake.mono _)
      | (with_reducible exact rtt_Sample.mono _ _ _ _ _ _ _ _ _)
      | (with_reducible exact LeO.refl _)
      | (with_reducible exact LeO.none _)
      | (with_reducible refine LeO.ite ?_ ?_)
      | (with_reducible refine LeO.bind ?_ (fun _ => ?_))
      | exact ih0 _ _ _ _
      | exact ih1 _ _ _ _ _ _ _ _ _
      | exact fourinhandlaw08_awake.mono _
      | exact rtt_Sample.mono _ _ _ _ _ _ _ _ _
      | exact LeO.none _
      | refine LeO.ite ?_ ?_
      | refine LeO.bind ?_ (fun _ => ?_)
theorem fourinhandlaw08_RttSteady.mono : ∀ a0 a1 k, LeO (fourinhandlaw08_RttSteady.f k a0 a1) (fourinhandlaw08_RttSteady.f (k + 1) a0 a1) := by
  intro a0 a1 k
  obtain ⟨ih0, ih1⟩ := fourinhandlaw08_RttSteady.mono_l k
  unfold fourinhandlaw08_RttSteady.f
  repeat' first
      | (with_reducible exact ih0 _ _ _ _)
      | (with_reducible exact ih1 _ _ _ _ _ _ _ _ _)
      | (with_reducible exact fourinhandlaw08_awake.mono _)
      | (with_reducible exact rtt_Sample.mono _ _ _ _ _ _ _ _ _)
      | (with_reducible exact LeO.refl _)
      | (with_reducible exact LeO.none _)
      | (with_reducible refine LeO.ite ?_ ?_)
      | (with_reducible refine LeO.bind ?_ (fun _ => ?_))
      | exact ih0 _ _ _ _
      | exact ih1 _ _ _ _ _ _ _ _ _
      | exact fourinhandlaw08_awake.mono _
      | exact rtt_Sample.mono _ _ _ _ _ _ _ _ _
      | exact LeO.none _
      | refine LeO.ite ?_ ?_
      | refine LeO.bind ?_ (fun _ => ?_)
set_option maxHeartbeats 8000000 in
set_option maxRecDepth 100000 in
theorem fourinhandlaw08_RttSteady.calls (k : Nat) (a0 : Int) (a1 : Int) (r : Bool) (w : World) (h : fourinhandlaw08_RttSteady.f k a0 a1 = some r) :
    Calls Try.prog 4 #[.int .i64 a0, .int .i64 a1] w fun e w' => e = .returned (.bool r) ∧ Below w.heap.size w w' := by
  have hu23 := Try.underlying23
  have HB := Aside0.mk (Below.refl w.heap.size w)
  have H : ((fourinhandlaw08_awake.f k).bind fun t147 => (if t147 = true then (if a0 < 0 then (fourinhandlaw08_RttSteady.j0 k a0 a1 t147 true) else (if a0 > 1099511627776 then (fourinhandlaw08_RttSteady.j0 k a0 a1 t147 true) else (if a1 < 1 then (fourinhandlaw08_RttSteady.j0 k a0 a1 t147 true) else (fourinhandlaw08_RttSteady.j0 k a0 a1 t147 (decide (a1 > 60)))))) else (fourinhandlaw08_RttSteady.j0 k a0 a1 t147 true))) = some r := h
  clear h
  replace H := Option.bind_eq_some_iff.mp H
  obtain ⟨t147, A30, H⟩ := H
  replace H : (if t147 = true then (if a0 < 0 then (fourinhandlaw08_RttSteady.j0 k a0 a1 t147 true) else (if a0 > 1099511627776 then (fourinhandlaw08_RttSteady.j0 k a0 a1 t147 true) else (if a1 < 1 then (fourinhandlaw08_RttSteady.j0 k a0 a1 t147 true) else (fourinhandlaw08_RttSteady.j0 k a0 a1 t147 (decide (a1 > 60)))))) else (fourinhandlaw08_RttSteady.j0 k a0 a1 t147 true)) = some r := H
  have A3 := Aside0.mk A30
  clear A30
  have HC4 := Aside0.mk H
  clear H
  go_enter Try.func4, Try.ntmps4
  go_upto_region 2 with (first | ((with_reducible refine gate_callee (f := 9) rfl ?_); refine goesL_ (some 11) rfl rfl Try.func9 (by kernel_rfl) rfl #[] rfl (by (try simp only [List.map_toArray, List.map_cons, List.map_nil]); first | done | rfl | (simp only [List.length_drop, List.length_take]; rfl)) ?_; (with_reducible refine (fourinhandlaw08_awake.calls k  t147 _ A3.out).mono ?_); rintro e w5 ⟨rfl, hb⟩; refine ⟨_, rfl, ?_⟩; have n0_ := Aside0.mk (below_step (by repeat (first | (with_reducible first | exact HB.out | apply below_alloc | apply pw_below_drewN | apply below_drew1) | exact HB.out)) hb); clear HB; have HB := n0_; clear n0_; (try clear hb); (try clear hb2); (try clear hk); (try clear hi)))
  (try simp only [Act.put, List.setIfInBounds_toArray, List.set_cons_zero, List.set_cons_succ])
  go_cut [29] (fun v29 wc => ∃ (kq : Nat) (x29_3 : Bool), v29 = .bool x29_3 ∧ Aside0 (fourinhandlaw08_RttSteady.j0 kq a0 a1 t147 x29_3 = some r) ∧ Aside0 (kq ≤ k) ∧ Aside0 (Below w.heap.size w wc))
  case first =>
    have H := HC4.out
    clear HC4
    by_cases c6 : t147 = true
    · subst c6
      have H1 : (if a0 < 0 then (fourinhandlaw08_RttSteady.j0 k a0 a1 true true) else (if a0 > 1099511627776 then (fourinhandlaw08_RttSteady.j0 k a0 a1 true true) else (if a1 < 1 then (fourinhandlaw08_RttSteady.j0 k a0 a1 true true) else (fourinhandlaw08_RttSteady.j0 k a0 a1 true (decide (a1 > 60)))))) = some r := by rw [if_pos rfl] at H; exact H
      clear H
      have H := H1
      clear H1
      by_cases c7 : a0 < 0
      · rw [if_pos c7] at H
        have c7b0 : decide (a0 < 0) = true := decide_eq_true c7
        clear c7
        (first | rw [c7b0] | (simp only [i64_w, i32_w]; rw [c7b0]) | skip)
        have H' := Aside0.mk H
        clear H
        go_wp2
        go_meet
        case rel => exact ⟨_, (true), (by first | rfl | (simp; done) | (simp [*]; done)), H', ⟨by first | omega | exact Nat.le_refl _⟩, ⟨by repeat (first | (with_reducible first | exact HB.out | apply below_alloc | apply pw_below_drewN | apply below_drew1) | exact HB.out)⟩⟩
      · rw [if_neg c7] at H
        have c7b0 : decide (a0 < 0) = false := decide_eq_false c7
        clear c7
        (first | rw [c7b0] | (simp only [i64_w, i32_w]; rw [c7b0]) | skip)
        by_cases c8 : a0 > 1099511627776
        · rw [if_pos c8] at H
          have c8b0 : decide (1099511627776 < a0) = true := decide_eq_true c8
          clear c8
          have H' := Aside0.mk H
          clear H
          go_wp2
          go_meet
          case rel => exact ⟨_, (true), (by first | rfl | (simp; done) | (simp [*]; done)), H', ⟨by first | omega | exact Nat.le_refl _⟩, ⟨by repeat (first | (with_reducible first | exact HB.out | apply below_alloc | apply pw_below_drewN | apply below_drew1) | exact HB.out)⟩⟩
        · rw [if_neg c8] at H
          have c8b0 : decide (1099511627776 < a0) = false := decide_eq_false c8
          clear c8
          by_cases c9 : a1 < 1
          · rw [if_pos c9] at H
            have c9b0 : decide (a1 < 1) = true := decide_eq_true c9
            clear c9
            have H' := Aside0.mk H
            clear H
            go_wp2
            go_meet
            case rel => exact ⟨_, (true), (by first | rfl | (simp; done) | (simp [*]; done)), H', ⟨by first | omega | exact Nat.le_refl _⟩, ⟨by repeat (first | (with_reducible first | exact HB.out | apply below_alloc | apply pw_below_drewN | apply below_drew1) | exact HB.out)⟩⟩
          · rw [if_neg c9] at H
            have c9b0 : decide (a1 < 1) = false := decide_eq_false c9
            clear c9
            have H' := Aside0.mk H
            clear H
            go_wp2
            go_meet
            case rel => exact ⟨_, (decide (a1 > 60)), (by first | rfl | (simp; done) | (simp [*]; done)), H', ⟨by first | omega | exact Nat.le_refl _⟩, ⟨by repeat (first | (with_reducible first | exact HB.out | apply below_alloc | apply pw_below_drewN | apply below_drew1) | exact HB.out)⟩⟩
    · replace c6 := Bool.eq_false_iff.mpr c6
      subst c6
      have H1 : (fourinhandlaw08_RttSteady.j0 k a0 a1 false true) = some r := by rw [if_neg (show ¬ (false = true) by decide)] at H; exact H
      clear H
      have H := H1
      clear H1
      have H' := Aside0.mk H
      clear H
      go_wp2
      go_meet
      case rel => exact ⟨_, (true), (by first | rfl | (simp; done) | (simp [*]; done)), H', ⟨by first | omega | exact Nat.le_refl _⟩, ⟨by repeat (first | (with_reducible first | exact HB.out | apply below_alloc | apply pw_below_drewN | apply below_drew1) | exact HB.out)⟩⟩
  case rest =>
    clear HC4
    try clear p2
    try clear c4
    try clear c6
    try clear c7
    try clear c7b0
    try clear c8
    try clear c8b0
    try clear c9
    try clear c9b0
    obtain ⟨kq, x29_3, rfl, HA, HJ3, HB⟩ := hcut
    cases kq with
    | zero => exact absurd HA.out (by simp [fourinhandlaw08_RttSteady.j0])
    | succ kj3 =>
      have H := HA.out
      clear HA
      simp only [fourinhandlaw08_RttSteady.j0] at H
      by_cases c10 : x29_3 = true
      · subst c10
        have H1 : (some t147) = some r := by rw [if_pos rfl] at H; exact H
        clear H
        have H := H1
        clear H1
        obtain rfl := Option.some.inj H
        go_wp2
        go_ret
        exact ⟨by first | rfl | (simp [errW_none, errW_some] <;> rfl) | (simp [*, errW_none, errW_some] <;> rfl), by repeat (first | (with_reducible first | exact HB.out | apply below_alloc | apply pw_below_drewN | apply below_drew1) | exact HB.out)⟩
      · replace c10 := Bool.eq_false_iff.mpr c10
        subst c10
        have H1 : (fourinhandlaw08_RttSteady.l0 kj3 a0 a1 a0 0 false 0 0 0 0) = some r := by rw [if_neg (show ¬ (false = true) by decide)] at H; exact H
        clear H
        have H := H1
        clear H1
        have H' := Aside0.mk H
        clear H
        go_wp2_with (first | ((with_reducible refine gate_dst (N := 6) rfl ?_); refine box_event ?hg (N := 6) ?hd (cs := #[.bool false, .int .i64 0, .int .i64 0, .int .i64 0, .int .i64 0]) (t := 23) ?hr ?_; (case hd => rfl); (case hg => rfl); (case hr => first | (go_simp; done) | (go_simp; rfl)); intro gb148 hg w11 hbox hb; have n0_ := Aside0.mk (below_step (by repeat (first | (with_reducible first | exact HB.out | apply below_alloc | apply pw_below_drewN | apply below_drew1) | exact HB.out)) hb); have n1_ := Aside0.mk (hbox); have n2_ := Aside0.mk ((by rw [hg]; exact (below_size (by repeat (first | (with_reducible first | exact HB.out | apply below_alloc | apply pw_below_drewN | apply below_drew1) | exact HB.out))) : w.heap.size ≤ gb148)); have n3_ := Aside0.mk ((by rw [hg]; exact (below_size (by repeat (first | (with_reducible first | exact HB.out | apply below_alloc | apply pw_below_drewN | apply below_drew1) | exact HB.out))) : w.heap.size ≤ gb148)); clear HB; have HB := n0_; have BK148 := n1_; have GW148 := n2_; have GE148 := n3_; clear n0_ n1_ n2_ n3_; clear hb hbox hg; have hcz12_0 : w11.cell? ⟨gb148, 0, none⟩ = some (.bool false) := (blk_cell BK148.out 0).trans rfl; have hcz12_1 : w11.cell? ⟨gb148, 1, none⟩ = some (.int .i64 0) := (blk_cell BK148.out 1).trans rfl; have hcz12_2 : w11.cell? ⟨gb148, 2, none⟩ = some (.int .i64 0) := (blk_cell BK148.out 2).trans rfl; have hcz12_3 : w11.cell? ⟨gb148, 3, none⟩ = some (.int .i64 0) := (blk_cell BK148.out 3).trans rfl; have hcz12_4 : w11.cell? ⟨gb148, 4, none⟩ = some (.int .i64 0) := (blk_cell BK148.out 4).trans rfl; have hfz12_0 := blk_frozen BK148.out 0; have hfz12_1 := blk_frozen BK148.out 1; have hfz12_2 := blk_frozen BK148.out 2; have hfz12_3 := blk_frozen BK148.out 3; have hfz12_4 := blk_frozen BK148.out 4))
        go_loopg [7, 8] kj3 (fun kq v7 v8 w' => ∃ (x7_2 : Int) (x8_2 : Int) (x149000_2 : Bool) (x149001_2 : Int) (x149002_2 : Int) (x149003_2 : Int) (x149004_2 : Int), v7 = .int .i64 x7_2 ∧ v8 = .int .i64 x8_2 ∧ Aside0 (fourinhandlaw08_RttSteady.l0 kq a0 a1 x7_2 x8_2 x149000_2 x149001_2 x149002_2 x149003_2 x149004_2 = some r) ∧ Aside0 (kq ≤ kj3) ∧ Aside0 (w'.heap[gb148]? = some (.cells #[.bool x149000_2, .int .i64 x149001_2, .int .i64 x149002_2, .int .i64 x149003_2, .int .i64 x149004_2] 23 (0, 0))) ∧ Aside0 (Below w.heap.size w w'))
        case atStart => exact ⟨(a0), (0), (false), (0), (0), (0), (0), (by first | rfl | (simp; done) | (simp [*]; done)), (by first | rfl | (simp; done) | (simp [*]; done)), H', ⟨Nat.le_refl _⟩, ⟨by (with_reducible repeat (first | refine blk_drewN ?_ _ | refine blk_drew ?_ | refine blk_alloc ?_ _)); refine blk_put (cs := #[.bool false, .int .i64 0, .int .i64 0, .int .i64 0, .int .i64 0]) ?_ 4 _ rfl; (with_reducible repeat (first | refine blk_drewN ?_ _ | refine blk_drew ?_ | refine blk_alloc ?_ _)); refine blk_put (cs := #[.bool false, .int .i64 0, .int .i64 0, .int .i64 0, .int .i64 0]) ?_ 3 _ rfl; (with_reducible repeat (first | refine blk_drewN ?_ _ | refine blk_drew ?_ | refine blk_alloc ?_ _)); refine blk_put (cs := #[.bool false, .int .i64 0, .int .i64 0, .int .i64 0, .int .i64 0]) ?_ 2 _ rfl; (with_reducible repeat (first | refine blk_drewN ?_ _ | refine blk_drew ?_ | refine blk_alloc ?_ _)); refine blk_put (cs := #[.bool false, .int .i64 0, .int .i64 0, .int .i64 0, .int .i64 0]) ?_ 1 _ rfl; (with_reducible repeat (first | refine blk_drewN ?_ _ | refine blk_drew ?_ | refine blk_alloc ?_ _)); refine blk_put (cs := #[.bool false, .int .i64 0, .int .i64 0, .int .i64 0, .int .i64 0]) ?_ 0 _ rfl; (with_reducible repeat (first | refine blk_drewN ?_ _ | refine blk_drew ?_ | refine blk_alloc ?_ _)); exact BK148.out⟩, ⟨by repeat (first | (with_reducible first | exact HB.out | apply below_alloc | apply pw_below_drewN | apply below_drew1 | refine below_set ?_ GE148.out) | exact HB.out)⟩⟩
        case round =>
          clear H'
          try clear c1
          try clear p2
          try clear c4
          try clear c6
          try clear c7
          try clear c7b0
          try clear c8
          try clear c8b0
          try clear c9
          try clear c9b0
          try clear c10
          try clear hcz12_0
          try clear hcz12_1
          try clear hcz12_2
          try clear hcz12_3
          try clear hcz12_4
          try clear hfz12_0
          try clear hfz12_1
          try clear hfz12_2
          try clear hfz12_3
          try clear hfz12_4
          try clear p2
          obtain ⟨x7_2, x8_2, x149000_2, x149001_2, x149002_2, x149003_2, x149004_2, rfl, rfl, HA, HK2, BK148, HB⟩ := hrel
          cases gk with
          | zero => exact absurd HA.out (by simp [fourinhandlaw08_RttSteady.l0])
          | succ k2 =>
            have H := HA.out
            clear HA
            simp only [fourinhandlaw08_RttSteady.l0] at H
            by_cases c13 : x8_2 < a1
            · rw [if_pos c13] at H
              have c13b0 : decide (x8_2 < a1) = true := decide_eq_true c13
              clear c13
              replace H := Option.bind_eq_some_iff.mp H
              obtain ⟨⟨t149, t150, t151, t152, t153, t154⟩, A140, H⟩ := H
              replace H : (if t154 = 0 then (if t150 = a0 then (if t151 > x7_2 then (some false) else (fourinhandlaw08_RttSteady.l0 k2 a0 a1 t151 (wrap64 (x8_2 + 1)) t149 t150 t151 t152 t153)) else (some false)) else (some false)) = some r := H
              have A14 := Aside0.mk A140
              clear A140
              by_cases c15 : t154 = 0
              · rw [if_pos c15] at H
                have c15b0 : (t154 == 0) = true := beq_iff_eq.mpr c15
                have c15b1 : (t154 != 0) = false := bne_eq_false_iff_eq.mpr c15
                clear c15
                by_cases c16 : t150 = a0
                · rw [if_pos c16] at H
                  have c16b0 : (t150 == a0) = true := beq_iff_eq.mpr c16
                  have c16b1 : (t150 != a0) = false := bne_eq_false_iff_eq.mpr c16
                  clear c16
                  by_cases c17 : t151 > x7_2
                  · rw [if_pos c17] at H
                    have c17b0 : decide (x7_2 < t151) = true := decide_eq_true c17
                    clear c17
                    obtain rfl := Option.some.inj H
                    have hcz18_0 : wr.cell? ⟨gb148, 0, none⟩ = some (.bool x149000_2) := (blk_cell BK148.out 0).trans rfl
                    have hcz18_1 : wr.cell? ⟨gb148, 1, none⟩ = some (.int .i64 x149001_2) := (blk_cell BK148.out 1).trans rfl
                    have hcz18_2 : wr.cell? ⟨gb148, 2, none⟩ = some (.int .i64 x149002_2) := (blk_cell BK148.out 2).trans rfl
                    have hcz18_3 : wr.cell? ⟨gb148, 3, none⟩ = some (.int .i64 x149003_2) := (blk_cell BK148.out 3).trans rfl
                    have hcz18_4 : wr.cell? ⟨gb148, 4, none⟩ = some (.int .i64 x149004_2) := (blk_cell BK148.out 4).trans rfl
                    have hfz18_0 := blk_frozen BK148.out 0
                    have hfz18_1 := blk_frozen BK148.out 1
                    have hfz18_2 := blk_frozen BK148.out 2
                    have hfz18_3 := blk_frozen BK148.out 3
                    have hfz18_4 := blk_frozen BK148.out 4
                    go_wp2_with (first | ((with_reducible refine gate_callee (f := 10) rfl ?_); refine goesL_ (some 41) rfl rfl Try.func10 (by kernel_rfl) rfl #[.agg #[.bool x149000_2, .int .i64 x149001_2, .int .i64 x149002_2, .int .i64 x149003_2, .int .i64 x149004_2], .int .i64 a0, .int .i64 1, .int .i64 1099511627776] rfl (by (try simp only [List.map_toArray, List.map_cons, List.map_nil]); first | done | rfl | (simp only [List.length_drop, List.length_take]; rfl)) ?_; (with_reducible refine (rtt_Sample.calls k2 x149000_2 x149001_2 x149002_2 x149003_2 x149004_2 a0 1 1099511627776 t149 t150 t151 t152 t153 t154 _ A14.out).mono ?_); rintro e w19 ⟨rfl, hb⟩; refine ⟨_, rfl, ?_⟩; have n0_ := Aside0.mk (blk_below (g := gb148) (o := .cells #[.bool x149000_2, .int .i64 x149001_2, .int .i64 x149002_2, .int .i64 x149003_2, .int .i64 x149004_2] 23 (0, 0)) (by (with_reducible repeat (first | refine blk_drewN ?_ _ | refine blk_drew ?_ | refine blk_alloc ?_ _)); exact BK148.out) hb); have n1_ := Aside0.mk (below_step (by repeat (first | (with_reducible first | exact HB.out | apply below_alloc | apply pw_below_drewN | apply below_drew1 | refine below_set ?_ GE148.out) | exact HB.out)) hb); clear BK148; clear HB; have BK148 := n0_; have HB := n1_; clear n0_ n1_; (try clear hb); (try clear hb2); (try clear hk); (try clear hi)) | ((with_reducible refine gate_dst (N := 9) rfl ?_); refine box_event ?hg (N := 9) ?hd (cs := #[.bool false, .int .i64 0, .int .i64 0, .int .i64 0, .int .i64 0]) (t := 23) ?hr ?_; (case hd => rfl); (case hg => rfl); (case hr => first | (go_simp; done) | (go_simp; rfl)); intro gb155 hg w20 hbox hb; have n0_ := Aside0.mk (blk_below (g := gb148) (o := .cells #[.bool x149000_2, .int .i64 x149001_2, .int .i64 x149002_2, .int .i64 x149003_2, .int .i64 x149004_2] 23 (0, 0)) (by (with_reducible repeat (first | refine blk_drewN ?_ _ | refine blk_drew ?_ | refine blk_alloc ?_ _)); exact BK148.out) hb); have n1_ := Aside0.mk (below_step (by repeat (first | (with_reducible first | exact HB.out | apply below_alloc | apply pw_below_drewN | apply below_drew1 | refine below_set ?_ GE148.out) | exact HB.out)) hb); have n2_ := Aside0.mk (hbox); have n3_ := Aside0.mk ((by rw [hg]; exact (below_size (by repeat (first | (with_reducible first | exact HB.out | apply below_alloc | apply pw_below_drewN | apply below_drew1 | refine below_set ?_ GE148.out) | exact HB.out))) : w.heap.size ≤ gb155)); have n4_ := Aside0.mk ((by rw [hg]; exact (below_size (by repeat (first | (with_reducible first | exact HB.out | apply below_alloc | apply pw_below_drewN | apply below_drew1 | refine below_set ?_ GE148.out) | exact HB.out))) : w.heap.size ≤ gb155)); have n5_ := Aside0.mk ((by rw [hg]; exact Nat.ne_of_lt (blk_lt (g := gb148) (o := .cells #[.bool x149000_2, .int .i64 x149001_2, .int .i64 x149002_2, .int .i64 x149003_2, .int .i64 x149004_2] 23 (0, 0)) (by (with_reducible repeat (first | refine blk_drewN ?_ _ | refine blk_drew ?_ | refine blk_alloc ?_ _)); exact BK148.out)) : gb148 ≠ gb155)); have n6_ := Aside0.mk ((by rw [hg]; exact Nat.ne_of_gt (blk_lt (g := gb148) (o := .cells #[.bool x149000_2, .int .i64 x149001_2, .int .i64 x149002_2, .int .i64 x149003_2, .int .i64 x149004_2] 23 (0, 0)) (by (with_reducible repeat (first | refine blk_drewN ?_ _ | refine blk_drew ?_ | refine blk_alloc ?_ _)); exact BK148.out)) : gb155 ≠ gb148)); clear BK148; clear HB; have BK148 := n0_; have HB := n1_; have BK155 := n2_; have GW155 := n3_; have GE155 := n4_; have NB148_155 := n5_; have NB155_148 := n6_; clear n0_ n1_ n2_ n3_ n4_ n5_ n6_; clear hb hbox hg; have hnb21 := NB155_148.out; have hnc21 := NB148_155.out; have hcz22_0 : w20.cell? ⟨gb155, 0, none⟩ = some (.bool false) := (blk_cell BK155.out 0).trans rfl; have hcz22_1 : w20.cell? ⟨gb155, 1, none⟩ = some (.int .i64 0) := (blk_cell BK155.out 1).trans rfl; have hcz22_2 : w20.cell? ⟨gb155, 2, none⟩ = some (.int .i64 0) := (blk_cell BK155.out 2).trans rfl; have hcz22_3 : w20.cell? ⟨gb155, 3, none⟩ = some (.int .i64 0) := (blk_cell BK155.out 3).trans rfl; have hcz22_4 : w20.cell? ⟨gb155, 4, none⟩ = some (.int .i64 0) := (blk_cell BK155.out 4).trans rfl; have hfz22_0 := blk_frozen BK155.out 0; have hfz22_1 := blk_frozen BK155.out 1; have hfz22_2 := blk_frozen BK155.out 2; have hfz22_3 := blk_frozen BK155.out 3; have hfz22_4 := blk_frozen BK155.out 4))
                    go_ret
                    exact ⟨by first | rfl | (simp [errW_none, errW_some] <;> rfl) | (simp [*, errW_none, errW_some] <;> rfl), by repeat (first | (with_reducible first | exact HB.out | apply below_alloc | apply pw_below_drewN | apply below_drew1 | refine below_set ?_ GE148.out | refine below_set ?_ GE155.out) | exact HB.out)⟩
                  · rw [if_neg c17] at H
                    have c17b0 : decide (x7_2 < t151) = false := decide_eq_false c17
                    clear c17
                    have H' := Aside0.mk H
                    clear H
                    have hcz23_0 : wr.cell? ⟨gb148, 0, none⟩ = some (.bool x149000_2) := (blk_cell BK148.out 0).trans rfl
                    have hcz23_1 : wr.cell? ⟨gb148, 1, none⟩ = some (.int .i64 x149001_2) := (blk_cell BK148.out 1).trans rfl
                    have hcz23_2 : wr.cell? ⟨gb148, 2, none⟩ = some (.int .i64 x149002_2) := (blk_cell BK148.out 2).trans rfl
                    have hcz23_3 : wr.cell? ⟨gb148, 3, none⟩ = some (.int .i64 x149003_2) := (blk_cell BK148.out 3).trans rfl
                    have hcz23_4 : wr.cell? ⟨gb148, 4, none⟩ = some (.int .i64 x149004_2) := (blk_cell BK148.out 4).trans rfl
                    have hfz23_0 := blk_frozen BK148.out 0
                    have hfz23_1 := blk_frozen BK148.out 1
                    have hfz23_2 := blk_frozen BK148.out 2
                    have hfz23_3 := blk_frozen BK148.out 3
                    have hfz23_4 := blk_frozen BK148.out 4
                    go_wp2_with (first | ((with_reducible refine gate_callee (f := 10) rfl ?_); refine goesL_ (some 41) rfl rfl Try.func10 (by kernel_rfl) rfl #[.agg #[.bool x149000_2, .int .i64 x149001_2, .int .i64 x149002_2, .int .i64 x149003_2, .int .i64 x149004_2], .int .i64 a0, .int .i64 1, .int .i64 1099511627776] rfl (by (try simp only [List.map_toArray, List.map_cons, List.map_nil]); first | done | rfl | (simp only [List.length_drop, List.length_take]; rfl)) ?_; (with_reducible refine (rtt_Sample.calls k2 x149000_2 x149001_2 x149002_2 x149003_2 x149004_2 a0 1 1099511627776 t149 t150 t151 t152 t153 t154 _ A14.out).mono ?_); rintro e w24 ⟨rfl, hb⟩; refine ⟨_, rfl, ?_⟩; have n0_ := Aside0.mk (blk_below (g := gb148) (o := .cells #[.bool x149000_2, .int .i64 x149001_2, .int .i64 x149002_2, .int .i64 x149003_2, .int .i64 x149004_2] 23 (0, 0)) (by (with_reducible repeat (first | refine blk_drewN ?_ _ | refine blk_drew ?_ | refine blk_alloc ?_ _)); exact BK148.out) hb); have n1_ := Aside0.mk (below_step (by repeat (first | (with_reducible first | exact HB.out | apply below_alloc | apply pw_below_drewN | apply below_drew1 | refine below_set ?_ GE148.out) | exact HB.out)) hb); clear BK148; clear HB; have BK148 := n0_; have HB := n1_; clear n0_ n1_; (try clear hb); (try clear hb2); (try clear hk); (try clear hi)) | ((with_reducible refine gate_dst (N := 9) rfl ?_); refine box_event ?hg (N := 9) ?hd (cs := #[.bool false, .int .i64 0, .int .i64 0, .int .i64 0, .int .i64 0]) (t := 23) ?hr ?_; (case hd => rfl); (case hg => rfl); (case hr => first | (go_simp; done) | (go_simp; rfl)); intro gb155 hg w25 hbox hb; have n0_ := Aside0.mk (blk_below (g := gb148) (o := .cells #[.bool x149000_2, .int .i64 x149001_2, .int .i64 x149002_2, .int .i64 x149003_2, .int .i64 x149004_2] 23 (0, 0)) (by (with_reducible repeat (first | refine blk_drewN ?_ _ | refine blk_drew ?_ | refine blk_alloc ?_ _)); exact BK148.out) hb); have n1_ := Aside0.mk (below_step (by repeat (first | (with_reducible first | exact HB.out | apply below_alloc | apply pw_below_drewN | apply below_drew1 | refine below_set ?_ GE148.out) | exact HB.out)) hb); have n2_ := Aside0.mk (hbox); have n3_ := Aside0.mk ((by rw [hg]; exact (below_size (by repeat (first | (with_reducible first | exact HB.out | apply below_alloc | apply pw_below_drewN | apply below_drew1 | refine below_set ?_ GE148.out) | exact HB.out))) : w.heap.size ≤ gb155)); have n4_ := Aside0.mk ((by rw [hg]; exact (below_size (by repeat (first | (with_reducible first | exact HB.out | apply below_alloc | apply pw_below_drewN | apply below_drew1 | refine below_set ?_ GE148.out) | exact HB.out))) : w.heap.size ≤ gb155)); have n5_ := Aside0.mk ((by rw [hg]; exact Nat.ne_of_lt (blk_lt (g := gb148) (o := .cells #[.bool x149000_2, .int .i64 x149001_2, .int .i64 x149002_2, .int .i64 x149003_2, .int .i64 x149004_2] 23 (0, 0)) (by (with_reducible repeat (first | refine blk_drewN ?_ _ | refine blk_drew ?_ | refine blk_alloc ?_ _)); exact BK148.out)) : gb148 ≠ gb155)); have n6_ := Aside0.mk ((by rw [hg]; exact Nat.ne_of_gt (blk_lt (g := gb148) (o := .cells #[.bool x149000_2, .int .i64 x149001_2, .int .i64 x149002_2, .int .i64 x149003_2, .int .i64 x149004_2] 23 (0, 0)) (by (with_reducible repeat (first | refine blk_drewN ?_ _ | refine blk_drew ?_ | refine blk_alloc ?_ _)); exact BK148.out)) : gb155 ≠ gb148)); clear BK148; clear HB; have BK148 := n0_; have HB := n1_; have BK155 := n2_; have GW155 := n3_; have GE155 := n4_; have NB148_155 := n5_; have NB155_148 := n6_; clear n0_ n1_ n2_ n3_ n4_ n5_ n6_; clear hb hbox hg; have hnb26 := NB155_148.out; have hnc26 := NB148_155.out; have hcz27_0 : w25.cell? ⟨gb155, 0, none⟩ = some (.bool false) := (blk_cell BK155.out 0).trans rfl; have hcz27_1 : w25.cell? ⟨gb155, 1, none⟩ = some (.int .i64 0) := (blk_cell BK155.out 1).trans rfl; have hcz27_2 : w25.cell? ⟨gb155, 2, none⟩ = some (.int .i64 0) := (blk_cell BK155.out 2).trans rfl; have hcz27_3 : w25.cell? ⟨gb155, 3, none⟩ = some (.int .i64 0) := (blk_cell BK155.out 3).trans rfl; have hcz27_4 : w25.cell? ⟨gb155, 4, none⟩ = some (.int .i64 0) := (blk_cell BK155.out 4).trans rfl; have hfz27_0 := blk_frozen BK155.out 0; have hfz27_1 := blk_frozen BK155.out 1; have hfz27_2 := blk_frozen BK155.out 2; have hfz27_3 := blk_frozen BK155.out 3; have hfz27_4 := blk_frozen BK155.out 4; have hcz28_0 : w25.cell? ⟨gb148, 0, none⟩ = some (.bool x149000_2) := (blk_cell BK148.out 0).trans rfl; have hcz28_1 : w25.cell? ⟨gb148, 1, none⟩ = some (.int .i64 x149001_2) := (blk_cell BK148.out 1).trans rfl; have hcz28_2 : w25.cell? ⟨gb148, 2, none⟩ = some (.int .i64 x149002_2) := (blk_cell BK148.out 2).trans rfl; have hcz28_3 : w25.cell? ⟨gb148, 3, none⟩ = some (.int .i64 x149003_2) := (blk_cell BK148.out 3).trans rfl; have hcz28_4 : w25.cell? ⟨gb148, 4, none⟩ = some (.int .i64 x149004_2) := (blk_cell BK148.out 4).trans rfl; have hfz28_0 := blk_frozen BK148.out 0; have hfz28_1 := blk_frozen BK148.out 1; have hfz28_2 := blk_frozen BK148.out 2; have hfz28_3 := blk_frozen BK148.out 3; have hfz28_4 := blk_frozen BK148.out 4))
                    go_roundg k2
                    case measure => have := HJ3.out; have := HK2.out; omega
                    case rel => exact ⟨(t151), (wrap64 (x8_2 + 1)), (t149), (t150), (t151), (t152), (t153), (by first | rfl | (simp; done) | (simp [*]; done)), (by first | rfl | (simp; done) | (simp [*]; done)), H', ⟨by have := HJ3.out; have := HK2.out; omega⟩, ⟨by (with_reducible repeat (first | refine blk_drewN ?_ _ | refine blk_drew ?_ | refine blk_alloc ?_ _)); refine blk_put (cs := #[.bool t149, .int .i64 t150, .int .i64 t151, .int .i64 t152, .int .i64 x149004_2]) ?_ 4 _ rfl; (with_reducible repeat (first | refine blk_drewN ?_ _ | refine blk_drew ?_ | refine blk_alloc ?_ _)); refine blk_put (cs := #[.bool t149, .int .i64 t150, .int .i64 t151, .int .i64 x149003_2, .int .i64 x149004_2]) ?_ 3 _ rfl; (with_reducible repeat (first | refine blk_drewN ?_ _ | refine blk_drew ?_ | refine blk_alloc ?_ _)); refine blk_put (cs := #[.bool t149, .int .i64 t150, .int .i64 x149002_2, .int .i64 x149003_2, .int .i64 x149004_2]) ?_ 2 _ rfl; (with_reducible repeat (first | refine blk_drewN ?_ _ | refine blk_drew ?_ | refine blk_alloc ?_ _)); refine blk_put (cs := #[.bool t149, .int .i64 x149001_2, .int .i64 x149002_2, .int .i64 x149003_2, .int .i64 x149004_2]) ?_ 1 _ rfl; (with_reducible repeat (first | refine blk_drewN ?_ _ | refine blk_drew ?_ | refine blk_alloc ?_ _)); refine blk_put (cs := #[.bool x149000_2, .int .i64 x149001_2, .int .i64 x149002_2, .int .i64 x149003_2, .int .i64 x149004_2]) ?_ 0 _ rfl; (with_reducible repeat (first | refine blk_drewN ?_ _ | refine blk_drew ?_ | refine blk_alloc ?_ _)); refine blk_far ?_ NB148_155.out _; (with_reducible repeat (first | refine blk_drewN ?_ _ | refine blk_drew ?_ | refine blk_alloc ?_ _)); refine blk_far ?_ NB148_155.out _; (with_reducible repeat (first | refine blk_drewN ?_ _ | refine blk_drew ?_ | refine blk_alloc ?_ _)); refine blk_far ?_ NB148_155.out _; (with_reducible repeat (first | refine blk_drewN ?_ _ | refine blk_drew ?_ | refine blk_alloc ?_ _)); refine blk_far ?_ NB148_155.out _; (with_reducible repeat (first | refine blk_drewN ?_ _ | refine blk_drew ?_ | refine blk_alloc ?_ _)); refine blk_far ?_ NB148_155.out _; (with_reducible repeat (first | refine blk_drewN ?_ _ | refine blk_drew ?_ | refine blk_alloc ?_ _)); exact BK148.out⟩, ⟨by repeat (first | (with_reducible first | exact HB.out | apply below_alloc | apply pw_below_drewN | apply below_drew1 | refine below_set ?_ GE148.out | refine below_set ?_ GE155.out) | exact HB.out)⟩⟩
                · rw [if_neg c16] at H
                  have c16b0 : (t150 == a0) = false := beq_eq_false_iff_ne.mpr c16
                  have c16b1 : (t150 != a0) = true := bne_iff_ne.mpr c16
                  obtain rfl := Option.some.inj H
                  have hcz29_0 : wr.cell? ⟨gb148, 0, none⟩ = some (.bool x149000_2) := (blk_cell BK148.out 0).trans rfl
                  have hcz29_1 : wr.cell? ⟨gb148, 1, none⟩ = some (.int .i64 x149001_2) := (blk_cell BK148.out 1).trans rfl
                  have hcz29_2 : wr.cell? ⟨gb148, 2, none⟩ = some (.int .i64 x149002_2) := (blk_cell BK148.out 2).trans rfl
                  have hcz29_3 : wr.cell? ⟨gb148, 3, none⟩ = some (.int .i64 x149003_2) := (blk_cell BK148.out 3).trans rfl
                  have hcz29_4 : wr.cell? ⟨gb148, 4, none⟩ = some (.int .i64 x149004_2) := (blk_cell BK148.out 4).trans rfl
                  have hfz29_0 := blk_frozen BK148.out 0
                  have hfz29_1 := blk_frozen BK148.out 1
                  have hfz29_2 := blk_frozen BK148.out 2
                  have hfz29_3 := blk_frozen BK148.out 3
                  have hfz29_4 := blk_frozen BK148.out 4
                  go_wp2_with (first | ((with_reducible refine gate_callee (f := 10) rfl ?_); refine goesL_ (some 41) rfl rfl Try.func10 (by kernel_rfl) rfl #[.agg #[.bool x149000_2, .int .i64 x149001_2, .int .i64 x149002_2, .int .i64 x149003_2, .int .i64 x149004_2], .int .i64 a0, .int .i64 1, .int .i64 1099511627776] rfl (by (try simp only [List.map_toArray, List.map_cons, List.map_nil]); first | done | rfl | (simp only [List.length_drop, List.length_take]; rfl)) ?_; (with_reducible refine (rtt_Sample.calls k2 x149000_2 x149001_2 x149002_2 x149003_2 x149004_2 a0 1 1099511627776 t149 t150 t151 t152 t153 t154 _ A14.out).mono ?_); rintro e w30 ⟨rfl, hb⟩; refine ⟨_, rfl, ?_⟩; have n0_ := Aside0.mk (blk_below (g := gb148) (o := .cells #[.bool x149000_2, .int .i64 x149001_2, .int .i64 x149002_2, .int .i64 x149003_2, .int .i64 x149004_2] 23 (0, 0)) (by (with_reducible repeat (first | refine blk_drewN ?_ _ | refine blk_drew ?_ | refine blk_alloc ?_ _)); exact BK148.out) hb); have n1_ := Aside0.mk (below_step (by repeat (first | (with_reducible first | exact HB.out | apply below_alloc | apply pw_below_drewN | apply below_drew1 | refine below_set ?_ GE148.out) | exact HB.out)) hb); clear BK148; clear HB; have BK148 := n0_; have HB := n1_; clear n0_ n1_; (try clear hb); (try clear hb2); (try clear hk); (try clear hi)) | ((with_reducible refine gate_dst (N := 9) rfl ?_); refine box_event ?hg (N := 9) ?hd (cs := #[.bool false, .int .i64 0, .int .i64 0, .int .i64 0, .int .i64 0]) (t := 23) ?hr ?_; (case hd => rfl); (case hg => rfl); (case hr => first | (go_simp; done) | (go_simp; rfl)); intro gb155 hg w31 hbox hb; have n0_ := Aside0.mk (blk_below (g := gb148) (o := .cells #[.bool x149000_2, .int .i64 x149001_2, .int .i64 x149002_2, .int .i64 x149003_2, .int .i64 x149004_2] 23 (0, 0)) (by (with_reducible repeat (first | refine blk_drewN ?_ _ | refine blk_drew ?_ | refine blk_alloc ?_ _)); exact BK148.out) hb); have n1_ := Aside0.mk (below_step (by repeat (first | (with_reducible first | exact HB.out | apply below_alloc | apply pw_below_drewN | apply below_drew1 | refine below_set ?_ GE148.out) | exact HB.out)) hb); have n2_ := Aside0.mk (hbox); have n3_ := Aside0.mk ((by rw [hg]; exact (below_size (by repeat (first | (with_reducible first | exact HB.out | apply below_alloc | apply pw_below_drewN | apply below_drew1 | refine below_set ?_ GE148.out) | exact HB.out))) : w.heap.size ≤ gb155)); have n4_ := Aside0.mk ((by rw [hg]; exact (below_size (by repeat (first | (with_reducible first | exact HB.out | apply below_alloc | apply pw_below_drewN | apply below_drew1 | refine below_set ?_ GE148.out) | exact HB.out))) : w.heap.size ≤ gb155)); have n5_ := Aside0.mk ((by rw [hg]; exact Nat.ne_of_lt (blk_lt (g := gb148) (o := .cells #[.bool x149000_2, .int .i64 x149001_2, .int .i64 x149002_2, .int .i64 x149003_2, .int .i64 x149004_2] 23 (0, 0)) (by (with_reducible repeat (first | refine blk_drewN ?_ _ | refine blk_drew ?_ | refine blk_alloc ?_ _)); exact BK148.out)) : gb148 ≠ gb155)); have n6_ := Aside0.mk ((by rw [hg]; exact Nat.ne_of_gt (blk_lt (g := gb148) (o := .cells #[.bool x149000_2, .int .i64 x149001_2, .int .i64 x149002_2, .int .i64 x149003_2, .int .i64 x149004_2] 23 (0, 0)) (by (with_reducible repeat (first | refine blk_drewN ?_ _ | refine blk_drew ?_ | refine blk_alloc ?_ _)); exact BK148.out)) : gb155 ≠ gb148)); clear BK148; clear HB; have BK148 := n0_; have HB := n1_; have BK155 := n2_; have GW155 := n3_; have GE155 := n4_; have NB148_155 := n5_; have NB155_148 := n6_; clear n0_ n1_ n2_ n3_ n4_ n5_ n6_; clear hb hbox hg; have hnb32 := NB155_148.out; have hnc32 := NB148_155.out; have hcz33_0 : w31.cell? ⟨gb155, 0, none⟩ = some (.bool false) := (blk_cell BK155.out 0).trans rfl; have hcz33_1 : w31.cell? ⟨gb155, 1, none⟩ = some (.int .i64 0) := (blk_cell BK155.out 1).trans rfl; have hcz33_2 : w31.cell? ⟨gb155, 2, none⟩ = some (.int .i64 0) := (blk_cell BK155.out 2).trans rfl; have hcz33_3 : w31.cell? ⟨gb155, 3, none⟩ = some (.int .i64 0) := (blk_cell BK155.out 3).trans rfl; have hcz33_4 : w31.cell? ⟨gb155, 4, none⟩ = some (.int .i64 0) := (blk_cell BK155.out 4).trans rfl; have hfz33_0 := blk_frozen BK155.out 0; have hfz33_1 := blk_frozen BK155.out 1; have hfz33_2 := blk_frozen BK155.out 2; have hfz33_3 := blk_frozen BK155.out 3; have hfz33_4 := blk_frozen BK155.out 4))
                  go_ret
                  exact ⟨by first | rfl | (simp [errW_none, errW_some] <;> rfl) | (simp [*, errW_none, errW_some] <;> rfl), by repeat (first | (with_reducible first | exact HB.out | apply below_alloc | apply pw_below_drewN | apply below_drew1 | refine below_set ?_ GE148.out | refine below_set ?_ GE155.out) | exact HB.out)⟩
              · rw [if_neg c15] at H
                have c15b0 : (t154 == 0) = false := beq_eq_false_iff_ne.mpr c15
                have c15b1 : (t154 != 0) = true := bne_iff_ne.mpr c15
                obtain rfl := Option.some.inj H
                have hcz34_0 : wr.cell? ⟨gb148, 0, none⟩ = some (.bool x149000_2) := (blk_cell BK148.out 0).trans rfl
                have hcz34_1 : wr.cell? ⟨gb148, 1, none⟩ = some (.int .i64 x149001_2) := (blk_cell BK148.out 1).trans rfl
                have hcz34_2 : wr.cell? ⟨gb148, 2, none⟩ = some (.int .i64 x149002_2) := (blk_cell BK148.out 2).trans rfl
                have hcz34_3 : wr.cell? ⟨gb148, 3, none⟩ = some (.int .i64 x149003_2) := (blk_cell BK148.out 3).trans rfl
                have hcz34_4 : wr.cell? ⟨gb148, 4, none⟩ = some (.int .i64 x149004_2) := (blk_cell BK148.out 4).trans rfl
                have hfz34_0 := blk_frozen BK148.out 0
                have hfz34_1 := blk_frozen BK148.out 1
                have hfz34_2 := blk_frozen BK148.out 2
                have hfz34_3 := blk_frozen BK148.out 3
                have hfz34_4 := blk_frozen BK148.out 4
                go_wp2_with (first | ((with_reducible refine gate_callee (f := 10) rfl ?_); refine goesL_ (some 41) rfl rfl Try.func10 (by kernel_rfl) rfl #[.agg #[.bool x149000_2, .int .i64 x149001_2, .int .i64 x149002_2, .int .i64 x149003_2, .int .i64 x149004_2], .int .i64 a0, .int .i64 1, .int .i64 1099511627776] rfl (by (try simp only [List.map_toArray, List.map_cons, List.map_nil]); first | done | rfl | (simp only [List.length_drop, List.length_take]; rfl)) ?_; (with_reducible refine (rtt_Sample.calls k2 x149000_2 x149001_2 x149002_2 x149003_2 x149004_2 a0 1 1099511627776 t149 t150 t151 t152 t153 t154 _ A14.out).mono ?_); rintro e w35 ⟨rfl, hb⟩; refine ⟨_, rfl, ?_⟩; have n0_ := Aside0.mk (blk_below (g := gb148) (o := .cells #[.bool x149000_2, .int .i64 x149001_2, .int .i64 x149002_2, .int .i64 x149003_2, .int .i64 x149004_2] 23 (0, 0)) (by (with_reducible repeat (first | refine blk_drewN ?_ _ | refine blk_drew ?_ | refine blk_alloc ?_ _)); exact BK148.out) hb); have n1_ := Aside0.mk (below_step (by repeat (first | (with_reducible first | exact HB.out | apply below_alloc | apply pw_below_drewN | apply below_drew1 | refine below_set ?_ GE148.out) | exact HB.out)) hb); clear BK148; clear HB; have BK148 := n0_; have HB := n1_; clear n0_ n1_; (try clear hb); (try clear hb2); (try clear hk); (try clear hi)) | ((with_reducible refine gate_dst (N := 9) rfl ?_); refine box_event ?hg (N := 9) ?hd (cs := #[.bool false, .int .i64 0, .int .i64 0, .int .i64 0, .int .i64 0]) (t := 23) ?hr ?_; (case hd => rfl); (case hg => rfl); (case hr => first | (go_simp; done) | (go_simp; rfl)); intro gb155 hg w36 hbox hb; have n0_ := Aside0.mk (blk_below (g := gb148) (o := .cells #[.bool x149000_2, .int .i64 x149001_2, .int .i64 x149002_2, .int .i64 x149003_2, .int .i64 x149004_2] 23 (0, 0)) (by (with_reducible repeat (first | refine blk_drewN ?_ _ | refine blk_drew ?_ | refine blk_alloc ?_ _)); exact BK148.out) hb); have n1_ := Aside0.mk (below_step (by repeat (first | (with_reducible first | exact HB.out | apply below_alloc | apply pw_below_drewN | apply below_drew1 | refine below_set ?_ GE148.out) | exact HB.out)) hb); have n2_ := Aside0.mk (hbox); have n3_ := Aside0.mk ((by rw [hg]; exact (below_size (by repeat (first | (with_reducible first | exact HB.out | apply below_alloc | apply pw_below_drewN | apply below_drew1 | refine below_set ?_ GE148.out) | exact HB.out))) : w.heap.size ≤ gb155)); have n4_ := Aside0.mk ((by rw [hg]; exact (below_size (by repeat (first | (with_reducible first | exact HB.out | apply below_alloc | apply pw_below_drewN | apply below_drew1 | refine below_set ?_ GE148.out) | exact HB.out))) : w.heap.size ≤ gb155)); have n5_ := Aside0.mk ((by rw [hg]; exact Nat.ne_of_lt (blk_lt (g := gb148) (o := .cells #[.bool x149000_2, .int .i64 x149001_2, .int .i64 x149002_2, .int .i64 x149003_2, .int .i64 x149004_2] 23 (0, 0)) (by (with_reducible repeat (first | refine blk_drewN ?_ _ | refine blk_drew ?_ | refine blk_alloc ?_ _)); exact BK148.out)) : gb148 ≠ gb155)); have n6_ := Aside0.mk ((by rw [hg]; exact Nat.ne_of_gt (blk_lt (g := gb148) (o := .cells #[.bool x149000_2, .int .i64 x149001_2, .int .i64 x149002_2, .int .i64 x149003_2, .int .i64 x149004_2] 23 (0, 0)) (by (with_reducible repeat (first | refine blk_drewN ?_ _ | refine blk_drew ?_ | refine blk_alloc ?_ _)); exact BK148.out)) : gb155 ≠ gb148)); clear BK148; clear HB; have BK148 := n0_; have HB := n1_; have BK155 := n2_; have GW155 := n3_; have GE155 := n4_; have NB148_155 := n5_; have NB155_148 := n6_; clear n0_ n1_ n2_ n3_ n4_ n5_ n6_; clear hb hbox hg; have hnb37 := NB155_148.out; have hnc37 := NB148_155.out; have hcz38_0 : w36.cell? ⟨gb155, 0, none⟩ = some (.bool false) := (blk_cell BK155.out 0).trans rfl; have hcz38_1 : w36.cell? ⟨gb155, 1, none⟩ = some (.int .i64 0) := (blk_cell BK155.out 1).trans rfl; have hcz38_2 : w36.cell? ⟨gb155, 2, none⟩ = some (.int .i64 0) := (blk_cell BK155.out 2).trans rfl; have hcz38_3 : w36.cell? ⟨gb155, 3, none⟩ = some (.int .i64 0) := (blk_cell BK155.out 3).trans rfl; have hcz38_4 : w36.cell? ⟨gb155, 4, none⟩ = some (.int .i64 0) := (blk_cell BK155.out 4).trans rfl; have hfz38_0 := blk_frozen BK155.out 0; have hfz38_1 := blk_frozen BK155.out 1; have hfz38_2 := blk_frozen BK155.out 2; have hfz38_3 := blk_frozen BK155.out 3; have hfz38_4 := blk_frozen BK155.out 4))
                go_ret
                exact ⟨by first | rfl | (simp [errW_none, errW_some] <;> rfl) | (simp [*, errW_none, errW_some] <;> rfl), by repeat (first | (with_reducible first | exact HB.out | apply below_alloc | apply pw_below_drewN | apply below_drew1 | refine below_set ?_ GE148.out | refine below_set ?_ GE155.out) | exact HB.out)⟩
            · rw [if_neg c13] at H
              have c13b0 : decide (x8_2 < a1) = false := decide_eq_false c13
              clear c13
              obtain rfl := Option.some.inj H
              go_wp2
              go_ret
              exact ⟨by first | rfl | (simp [errW_none, errW_some] <;> rfl) | (simp [*, errW_none, errW_some] <;> rfl), by repeat (first | (with_reducible first | exact HB.out | apply below_alloc | apply pw_below_drewN | apply below_drew1 | refine below_set ?_ GE148.out) | exact HB.out)⟩

/-- THE ONE PURE STATEMENT of fourinhandlaw08_RttSteady: yours. -/
def fourinhandlaw08_RttSteady.Pure : Prop := ∀ (a0 : Int) (a1 : Int), (Lit.int .i64 a0).wf = true → (Lit.int .i64 a1).wf = true → ∃ k, fourinhandlaw08_RttSteady.f k a0 a1 = some true
theorem fourinhandlaw08_RttSteady.walk (P : fourinhandlaw08_RttSteady.Pure) (a0 : Int) (a1 : Int) (w : World) (w0 : (Lit.int .i64 a0).wf = true) (w1 : (Lit.int .i64 a1).wf = true) :
    Calls Try.prog 4 #[.int .i64 a0, .int .i64 a1] w fun e w' => e = .returned (.bool true) ∧ Below w.heap.size w w' := by
  obtain ⟨k, h⟩ := P a0 a1 w0 w1
  refine (fourinhandlaw08_RttSteady.calls k a0 a1 true w h).mono ?_
  rintro e w' ⟨rfl, hd⟩
  exact ⟨rfl, hd⟩

end Go.Proofs.Ytbkfegmhbiakhaa.PRttSteady
