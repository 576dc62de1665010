-- Written by a program of this session (wip/hprint.py), over the kit's print.py: the walk of one law. Lean checks it.
import Derived.Test.YtdbnhmipbbadjaaPXmpTellsx0
import Derived.Test.YtdbnhmipbbadjaaPXmpTellsx1
import Derived.Test.YtdbnhmipbbadjaaPXmpTellsx3
import Derived.Test.YtdbnhmipbbadjaaPXmpTellsx4
import Derived.Test.YtdbnhmipbbadjaaPXmpTellsx5
namespace Go.Proofs.Ytdbnhmipbbadjaa.PXmpTells
open Go.RowKit Go.Proofs.YtdbnhmipbbadjaaW.PrintWords Go.Proofs.YtdbnhmipbbadjaaW.PrintLast Go.Proofs.YtdbnhmipbbadjaaW.PrintMore
attribute [local go_sem] max2_int min2_int max_two min_two max_three min_three max_four min_four   -- for this text's walks alone
set_option linter.unusedVariables false
set_option linter.unusedSimpArgs false

attribute [local go_sem high] eqA30
/-- The world under a new name, of which this is known. -/
theorem wp_gen_ {P : Program} {c : Code} {Q : Exit → Act → World → Prop} {a : Act} {w : World} (S : World → Prop) (h0 : S w) (h : ∀ w', S w' → Code.wp P c Q a w') : Code.wp P c Q a w := h w h0
/-! ### fourinhandlaw15_XmpTells: function 7 -/
mutual
def fourinhandlaw15_XmpTells.j0 : Nat → List (S26) → Int → Int → Bool → Int → Int → Bool → Bool → Int → Int → Option (Bool)
  | 0, _, _, _, _, _, _, _, _, _, _ => none
  | k + 1, x1, x2, x3, x4, x5, x6, x15, x40, x198000, x198001 => if x40 = true then (some x15) else ((xmp_Slow.f x198000 x198001 x3 x5 x6).bind fun bt199 => ((fourinhandref15_Slow.f k x198000 x198001 x3 x5 x6).bind fun bt203 => ((xmp_Round.f x198000 x198001 x3 x5 x6).bind fun bt207 => ((fourinhandref15_Round.f k x198000 x198001 x3 x5 x6).bind fun bt211 => ((xmp_Cut.f x198000 x198001 x3 x5 x6).bind fun bt215 => ((fourinhandref15_Cut.f k x198000 x198001 x3 x5 x6).bind fun bt219 => ((xmp_Loss.f x198000 x198001 x4 x5 x6).bind fun bt223 => ((fourinhandref15_Loss.f k x198000 x198001 x4 x5 x6).bind fun bt227 => (if (bt199.1 == bt203.1 && (bt199.2.1 == bt203.2.1)) = true then (if bt199.2.2 = bt203.2.2 then (if (bt207.1 == bt211.1 && (bt207.2.1 == bt211.2.1)) = true then (if bt207.2.2 = bt211.2.2 then (if (bt215.1 == bt219.1 && (bt215.2.1 == bt219.2.1)) = true then (if bt215.2.2 = bt219.2.2 then (if (bt223.1 == bt227.1 && (bt223.2.1 == bt227.2.1)) = true then (fourinhandlaw15_XmpTells.j1 k x1 x2 x5 x6 (bt223.2.2 == bt227.2.2) x198000 x198001) else (fourinhandlaw15_XmpTells.j1 k x1 x2 x5 x6 false x198000 x198001)) else (fourinhandlaw15_XmpTells.j1 k x1 x2 x5 x6 false x198000 x198001)) else (fourinhandlaw15_XmpTells.j1 k x1 x2 x5 x6 false x198000 x198001)) else (fourinhandlaw15_XmpTells.j1 k x1 x2 x5 x6 false x198000 x198001)) else (fourinhandlaw15_XmpTells.j1 k x1 x2 x5 x6 false x198000 x198001)) else (fourinhandlaw15_XmpTells.j1 k x1 x2 x5 x6 false x198000 x198001)) else (fourinhandlaw15_XmpTells.j1 k x1 x2 x5 x6 false x198000 x198001))))))))))
def fourinhandlaw15_XmpTells.j1 : Nat → List (S26) → Int → Int → Int → Bool → Int → Int → Option (Bool)
  | 0, _, _, _, _, _, _, _ => none
  | k + 1, x1, x2, x5, x6, x32, x198000, x198001 => if x32 = true then ((xmp_Share.f k x1 x2 x5).bind fun t231 => ((fourinhandref15_Share.f k x1 x2 x5).bind fun t232 => (if t231 = t232 then ((xmp_May.f x198000 x198001 x5 x6).bind fun t233 => ((fourinhandref15_May.f x198000 x198001 x5 x6).bind fun t234 => (some (t233 == t234)))) else (some false)))) else (some false)
end
def fourinhandlaw15_XmpTells.f (k : Nat) (a0_0 : Int) (a0_1 : Int) (l1 : List (S26)) (a2 : Int) (a3 : Int) (a4 : Bool) (a5 : Int) (a6 : Int) : Option (Bool) := (fourinhandlaw15_awake.f k).bind fun t198 => (if t198 = true then (fourinhandlaw15_XmpTells.j0 k l1 a2 a3 a4 a5 a6 t198 (decide ((l1.length : Int) > 20)) a0_0 a0_1) else (fourinhandlaw15_XmpTells.j0 k l1 a2 a3 a4 a5 a6 t198 true a0_0 a0_1))
theorem fourinhandlaw15_XmpTells.mono_l : ∀ k, (∀ y0 y1 y2 y3 y4 y5 y6 y7 y8 y9, LeO (fourinhandlaw15_XmpTells.j0 k y0 y1 y2 y3 y4 y5 y6 y7 y8 y9) (fourinhandlaw15_XmpTells.j0 (k + 1) y0 y1 y2 y3 y4 y5 y6 y7 y8 y9)) ∧ (∀ y0 y1 y2 y3 y4 y5 y6, LeO (fourinhandlaw15_XmpTells.j1 k y0 y1 y2 y3 y4 y5 y6) (fourinhandlaw15_XmpTells.j1 (k + 1) y0 y1 y2 y3 y4 y5 y6))
  | 0 => ⟨fun _ _ _ _ _ _ _ _ _ _ r h => by simp [fourinhandlaw15_XmpTells.j0] at h, fun _ _ _ _ _ _ _ r h => by simp [fourinhandlaw15_XmpTells.j1] at h⟩
  | k + 1 => by
    obtain ⟨ih0, ih1⟩ := fourinhandlaw15_XmpTells.mono_l k
    refine ⟨?_, ?_⟩
    · intro y0 y1 y2 y3 y4 y5 y6 y7 y8 y9
      unfold fourinhandlaw15_XmpTells.j0
      repeat' first
      | (with_reducible exact ih0 _ _ _ _ _ _ _ _ _ _)
      | (with_reducible exact ih1 _ _ _ _ _ _ _)
      | (with_reducible exact fourinhandlaw15_awake.mono _)
      | (with_reducible exact fourinhandref15_Cut.mono _ _ _ _ _ _)
      | (with_reducible exact fourinhandref15_Loss.mono _ _ _ _ _ _)
      | (with_reducible exact fourinhandref15_Round.mono _ _ _ _ _ _)
      | (with_reducible exact fourinhandref15_Share.mono _ _ _ _)
      | (with_reducible exact fourinhandref15_Slow.mono _ _ _ _ _ _)
      | (with_reducible exact xmp_Share.mono _ _ _ _)
      | (with_reducible exact LeO.refl _)
      | (with_reducible exact LeO.none _)
      | (with_reducible refine LeO.ite ?_ ?_)
      | (with_reducible refine LeO.bind ?_ (fun _ => ?_))
      | exact ih0 _ _ _ _ _ _ _ _ _ _
      | exact ih1 _ _ _ _ _ _ _
      | exact fourinhandlaw15_awake.mono _
      | exact fourinhandref15_Cut.mono _ _ _ _ _ _
      | exact fourinhandref15_Loss.mono _ _ _ _ _ _
      | exact fourinhandref15_Round.mono _ _ _ _ _ _
      | exact fourinhandref15_Share.mono _ _ _ _
      | exact fourinhandref15_Slow.mono _ _ _ _ _ _
      | exact xmp_Share.mono _ _ _ _
      | exact LeO.none _
      | refine LeO.ite ?_ ?_
      | refine LeO.bind ?_ (fun _ => ?_)
    · intro y0 y1 y2 y3 y4 y5 y6
      unfold fourinhandlaw15_XmpTells.j1
      repeat' first
      | (with_reducible exact ih0 _ _ _ _ _ _ _ _ _ _)
      | (with_reducible exact ih1 _ _ _ _ _ _ _)
      | (with_reducible exact fourinhandlaw15_awake.mono _)
      | (with_reducible exact fourinhandref15_Cut.mono _ _ _ _ _ _)
      | (with_reducible exact fourinhandref15_Loss.mono _ _ _ _ _ _)
      | (with_reducible exact fourinhandref15_Round.mono _ _ _ _ _ _)
      | (with_reducible exact fourinhandref15_Share.mono _ _ _ _)
      | (with_reducible exact fourinhandref15_Slow.mono _ _ _ _ _ _)
      | (with_reducible exact xmp_Share.mono _ _ _ _)
      | (with_reducible exact LeO.refl _)
      | (with_reducible exact LeO.none _)
      | (with_reducible refine LeO.ite ?_ ?_)
      | (with_reducible refine LeO.bind ?_ (fun _ => ?_))
      | exact ih0 _ _ _ _ _ _ _ _ _ _
      | exact ih1 _ _ _ _ _ _ _
      | exact fourinhandlaw15_awake.mono _
      | exact fourinhandref15_Cut.mono _ _ _ _ _ _
      | exact fourinhandref15_Loss.mono _ _ _ _ _ _
      | exact fourinhandref15_Round.mono _ _ _ _ _ _
      | exact fourinhandref15_Share.mono _ _ _ _
      | exact fourinhandref15_Slow.mono _ _ _ _ _ _
      | exact xmp_Share.mono _ _ _ _
      | exact LeO.none _
      | refine LeO.ite ?_ ?_
      | refine LeO.bind ?_ (fun _ => ?_)
theorem fourinhandlaw15_XmpTells.mono : ∀ a0 a1 a2 a3 a4 a5 a6 a7 k, LeO (fourinhandlaw15_XmpTells.f k a0 a1 a2 a3 a4 a5 a6 a7) (fourinhandlaw15_XmpTells.f (k + 1) a0 a1 a2 a3 a4 a5 a6 a7) := by
  intro a0 a1 a2 a3 a4 a5 a6 a7 k
  obtain ⟨ih0, ih1⟩ := fourinhandlaw15_XmpTells.mono_l k
  unfold fourinhandlaw15_XmpTells.f
  repeat' first
      | (with_reducible exact ih0 _ _ _ _ _ _ _ _ _ _)
      | (with_reducible exact ih1 _ _ _ _ _ _ _)
      | (with_reducible exact fourinhandlaw15_awake.mono _)
      | (with_reducible exact fourinhandref15_Cut.mono _ _ _ _ _ _)
      | (with_reducible exact fourinhandref15_Loss.mono _ _ _ _ _ _)
      | (with_reducible exact fourinhandref15_Round.mono _ _ _ _ _ _)
      | (with_reducible exact fourinhandref15_Share.mono _ _ _ _)
      | (with_reducible exact fourinhandref15_Slow.mono _ _ _ _ _ _)
      | (with_reducible exact xmp_Share.mono _ _ _ _)
      | (with_reducible exact LeO.refl _)
      | (with_reducible exact LeO.none _)
      | (with_reducible refine LeO.ite ?_ ?_)
      | (with_reducible refine LeO.bind ?_ (fun _ => ?_))
      | exact ih0 _ _ _ _ _ _ _ _ _ _
      | exact ih1 _ _ _ _ _ _ _
      | exact fourinhandlaw15_awake.mono _
      | exact fourinhandref15_Cut.mono _ _ _ _ _ _
      | exact fourinhandref15_Loss.mono _ _ _ _ _ _
      | exact fourinhandref15_Round.mono _ _ _ _ _ _
      | exact fourinhandref15_Share.mono _ _ _ _
      | exact fourinhandref15_Slow.mono _ _ _ _ _ _
      | exact xmp_Share.mono _ _ _ _
      | exact LeO.none _
      | refine LeO.ite ?_ ?_
      | refine LeO.bind ?_ (fun _ => ?_)
def fourinhandlaw15_XmpTells.T13 : Bool × List (List Nat × List Nat) := (true, [([], []), ([0], [0]), ([1], [1]), ([1], [1]), ([1], [1]), ([2, 3, 4, 1, 1], [1, 2, 3, 4]), ([1], [1]), ([1], [1]), ([1], [1]), ([6, 7, 8, 5, 1], [1, 6, 7, 8]), ([5, 9, 1], [1, 5, 9]), ([1, 10], [1, 10]), ([11, 9], [11]), ([12], [12]), ([12], [12]), ([12], [12]), ([13, 14, 15, 12, 12], [12, 13, 14, 15]), ([12], [12]), ([12], [12]), ([12], [12]), ([17, 18, 19, 16, 12], [12, 17, 18, 19]), ([16, 20, 12], [12, 16, 20]), ([12, 21], [12, 21]), ([22, 20, 0, 1, 2, 3, 4, 5, 6, 7, 8, 9, 10, 11, 12, 13, 14, 15, 16, 17, 18, 19, 20, 21, 22], [22])])
def fourinhandlaw15_XmpTells.B13 : List Nat := [0, 1, 3, 3, 3, 31, 3, 3, 3, 511, 1023, 2047, 4095, 8191, 8191, 8191, 65535, 8191, 8191, 8191, 1048575, 2097151, 4194303, 8388607]
theorem fourinhandlaw15_XmpTells.tab13 : rtab .any (opsOf Try.f7 13) = fourinhandlaw15_XmpTells.T13 := by kernel_rfl
theorem fourinhandlaw15_XmpTells.bits13 : waitsOk fourinhandlaw15_XmpTells.T13.2 fourinhandlaw15_XmpTells.B13 = true := by kernel_rfl
theorem fourinhandlaw15_XmpTells.j1_bad {k : Nat} {x1 : _} {x2 : _} {x5 : _} {x6 : _} {x198000 : _} {x198001 : _} {r : Bool} (h : fourinhandlaw15_XmpTells.j1 k x1 x2 x5 x6 false x198000 x198001 = some r) (hr : r = true) : False := by
  cases k with
  | zero => exact absurd h (by simp [fourinhandlaw15_XmpTells.j1])
  | succ k => rw [fourinhandlaw15_XmpTells.j1, if_neg (by decide)] at h; exact Bool.noConfusion ((Option.some.inj h).trans hr)
set_option maxHeartbeats 8000000 in
set_option maxRecDepth 100000 in
theorem fourinhandlaw15_XmpTells.calls (k : Nat) (a0_0 : Int) (a0_1 : Int) (A1 : Option Addr) (c1 : Nat) (l1 : List (S26)) (a2 : Int) (a3 : Int) (a4 : Bool) (a5 : Int) (a6 : Int) (r : Bool) (hr_ : Aside0 (r = true)) (w : World) (hr1 : Kd.C k26 w A1 l1.length l1) (hc1 : l1.length ≤ c1) (h : fourinhandlaw15_XmpTells.f k a0_0 a0_1 l1 a2 a3 a4 a5 a6 = some r) :
    Calls Try.prog 7 #[.agg #[.int .i64 a0_0, .int .i64 a0_1], .slice A1 l1.length c1, .int .i64 a2, .int .i64 a3, .bool a4, .int .i64 a5, .int .i64 a6] w fun e w' => e = .returned (.bool r) ∧ Below w.heap.size w w' := by
  have hu30 := Try.underlying30
  have HR1 := Aside0.mk hr1
  have HC1 := Aside0.mk hc1
  clear hr1 hc1
  have HB := Aside0.mk (Below.refl w.heap.size w)
  have H : ((fourinhandlaw15_awake.f k).bind fun t198 => (if t198 = true then (fourinhandlaw15_XmpTells.j0 k l1 a2 a3 a4 a5 a6 t198 (decide ((l1.length : Int) > 20)) a0_0 a0_1) else (fourinhandlaw15_XmpTells.j0 k l1 a2 a3 a4 a5 a6 t198 true a0_0 a0_1))) = some r := h
  clear h
  replace H := Option.bind_eq_some_iff.mp H
  obtain ⟨t198, A80, H⟩ := H
  replace H : (if t198 = true then (fourinhandlaw15_XmpTells.j0 k l1 a2 a3 a4 a5 a6 t198 (decide ((l1.length : Int) > 20)) a0_0 a0_1) else (fourinhandlaw15_XmpTells.j0 k l1 a2 a3 a4 a5 a6 t198 true a0_0 a0_1)) = some r := H
  have A8 := Aside0.mk A80
  clear A80
  have HC9 := Aside0.mk H
  clear H
  go_enter Try.func7, Try.ntmps7
  go_upto_region 2 with (first | ((with_reducible refine gate_dst (N := 7) rfl ?_); (try (refine gate_guard (by rfl) ?_; dsimp only)); refine box_event ?hg (N := 7) ?hd (cs := #[.int .i64 a0_0, .int .i64 a0_1]) (t := 30) ?hr ?_; (case hd => rfl); (case hg => rfl); (case hr => first | (go_simp; done) | (go_simp; rfl)); intro gb197 hg w10 hbox hb; have n0_ := Aside0.mk (below_step (by repeat (first | (with_reducible first | exact HB.out | apply below_alloc | apply pw_below_drewN | apply below_drew1) | exact HB.out)) hb); have n1_ := Aside0.mk (hbox); have n2_ := Aside0.mk ((by rw [hg]; exact (below_size (by repeat (first | (with_reducible first | exact HB.out | apply below_alloc | apply pw_below_drewN | apply below_drew1) | exact HB.out))) : w.heap.size ≤ gb197)); have n3_ := Aside0.mk ((by rw [hg]; exact (below_size (by repeat (first | (with_reducible first | exact HB.out | apply below_alloc | apply pw_below_drewN | apply below_drew1) | exact HB.out))) : w.heap.size ≤ gb197)); clear HB; have HB := n0_; have BK197 := n1_; have GW197 := n2_; have GE197 := n3_; clear n0_ n1_ n2_ n3_; clear hb hbox hg) | ((with_reducible refine gate_callee (f := 9) rfl ?_); refine goesL_ (some 33) rfl rfl Try.func9 (by kernel_rfl) rfl #[] rfl (by (try simp only [List.map_toArray, List.map_cons, List.map_nil]); first | done | rfl | (simp only [List.length_drop, List.length_take]; rfl)) ?_; (with_reducible refine (fourinhandlaw15_awake.calls k  t198 _ A8.out).mono ?_); rintro e w11 ⟨rfl, hb⟩; refine ⟨_, rfl, ?_⟩; have n0_ := Aside0.mk (blk_below (g := gb197) (o := .cells #[.int .i64 a0_0, .int .i64 a0_1] 30 (0, 0)) (by (with_reducible repeat (first | refine blk_drewN ?_ _ | refine blk_drew ?_ | refine blk_alloc ?_ _)); exact BK197.out) hb); have n1_ := Aside0.mk (below_step (by repeat (first | (with_reducible first | exact HB.out | apply below_alloc | apply pw_below_drewN | apply below_drew1 | refine below_set ?_ GE197.out) | exact HB.out)) hb); clear BK197; clear HB; have BK197 := n0_; have HB := n1_; clear n0_ n1_; (try clear hb); (try clear hb2); (try clear hk); (try clear hi)))
  (try simp only [Act.put, List.setIfInBounds_toArray, List.set_cons_zero, List.set_cons_succ])
  go_cut [40] (fun v40 wc => ∃ (kq : Nat) (x40_8 : Bool), v40 = .bool x40_8 ∧ Aside0 (fourinhandlaw15_XmpTells.j0 kq l1 a2 a3 a4 a5 a6 t198 x40_8 a0_0 a0_1 = some r) ∧ Aside0 (kq ≤ k) ∧ Aside0 (wc.heap[gb197]? = some (.cells #[.int .i64 a0_0, .int .i64 a0_1] 30 (0, 0))) ∧ Aside0 (Below w.heap.size w wc))
  case first =>
    have H := HC9.out
    clear HC9
    by_cases c12 : t198 = true
    · subst c12
      have H1 : (fourinhandlaw15_XmpTells.j0 k l1 a2 a3 a4 a5 a6 true (decide ((l1.length : Int) > 20)) a0_0 a0_1) = some r := by rw [if_pos rfl] at H; exact H
      clear H
      have H := H1
      clear H1
      first | (with_reducible exact (fourinhandlaw15_XmpTells.j1_bad H hr_.out).elim) | skip
      all_goals
        have H' := Aside0.mk H
        clear H
        go_wp2
        go_meet
        case rel => exact ⟨_, (decide ((l1.length : Int) > 20)), (by first | rfl | (simp; done) | (simp [*]; done)), H', ⟨by first | omega | exact Nat.le_refl _⟩, ⟨by (with_reducible repeat (first | refine blk_drewN ?_ _ | refine blk_drew ?_ | refine blk_alloc ?_ _)); exact BK197.out⟩, ⟨by repeat (first | (with_reducible first | exact HB.out | apply below_alloc | apply pw_below_drewN | apply below_drew1 | refine below_set ?_ GE197.out) | exact HB.out)⟩⟩
    · replace c12 := Bool.eq_false_iff.mpr c12
      subst c12
      have H1 : (fourinhandlaw15_XmpTells.j0 k l1 a2 a3 a4 a5 a6 false true a0_0 a0_1) = some r := by rw [if_neg (show ¬ (false = true) by decide)] at H; exact H
      clear H
      have H := H1
      clear H1
      first | (with_reducible exact (fourinhandlaw15_XmpTells.j1_bad H hr_.out).elim) | skip
      all_goals
        have H' := Aside0.mk H
        clear H
        go_wp2
        go_meet
        case rel => exact ⟨_, (true), (by first | rfl | (simp; done) | (simp [*]; done)), H', ⟨by first | omega | exact Nat.le_refl _⟩, ⟨by (with_reducible repeat (first | refine blk_drewN ?_ _ | refine blk_drew ?_ | refine blk_alloc ?_ _)); exact BK197.out⟩, ⟨by repeat (first | (with_reducible first | exact HB.out | apply below_alloc | apply pw_below_drewN | apply below_drew1 | refine below_set ?_ GE197.out) | exact HB.out)⟩⟩
  case rest =>
    clear HC9
    try clear c1
    try clear p2
    try clear c7
    try clear c9
    try clear c12
    obtain ⟨kq, x40_8, rfl, HA, HJ8, BK197, HB⟩ := hcut
    cases kq with
    | zero => exact absurd HA.out (by simp [fourinhandlaw15_XmpTells.j0])
    | succ kj8 =>
      have H := HA.out
      clear HA
      simp only [fourinhandlaw15_XmpTells.j0] at H
      by_cases c13 : x40_8 = true
      · subst c13
        have H1 : (some t198) = some r := by rw [if_pos rfl] at H; exact H
        clear H
        have H := H1
        clear H1
        obtain rfl := Option.some.inj H
        go_wp2
        go_ret
        exact ⟨by first | rfl | (simp [errW_none, errW_some] <;> rfl) | (simp [*, errW_none, errW_some] <;> rfl), by repeat (first | (with_reducible first | exact HB.out | apply below_alloc | apply pw_below_drewN | apply below_drew1 | refine below_set ?_ GE197.out) | exact HB.out)⟩
      · replace c13 := Bool.eq_false_iff.mpr c13
        subst c13
        have H1 : ((xmp_Slow.f a0_0 a0_1 a3 a5 a6).bind fun bt199 => ((fourinhandref15_Slow.f kj8 a0_0 a0_1 a3 a5 a6).bind fun bt203 => ((xmp_Round.f a0_0 a0_1 a3 a5 a6).bind fun bt207 => ((fourinhandref15_Round.f kj8 a0_0 a0_1 a3 a5 a6).bind fun bt211 => ((xmp_Cut.f a0_0 a0_1 a3 a5 a6).bind fun bt215 => ((fourinhandref15_Cut.f kj8 a0_0 a0_1 a3 a5 a6).bind fun bt219 => ((xmp_Loss.f a0_0 a0_1 a4 a5 a6).bind fun bt223 => ((fourinhandref15_Loss.f kj8 a0_0 a0_1 a4 a5 a6).bind fun bt227 => (if (bt199.1 == bt203.1 && (bt199.2.1 == bt203.2.1)) = true then (if bt199.2.2 = bt203.2.2 then (if (bt207.1 == bt211.1 && (bt207.2.1 == bt211.2.1)) = true then (if bt207.2.2 = bt211.2.2 then (if (bt215.1 == bt219.1 && (bt215.2.1 == bt219.2.1)) = true then (if bt215.2.2 = bt219.2.2 then (if (bt223.1 == bt227.1 && (bt223.2.1 == bt227.2.1)) = true then (fourinhandlaw15_XmpTells.j1 kj8 l1 a2 a5 a6 (bt223.2.2 == bt227.2.2) a0_0 a0_1) else (fourinhandlaw15_XmpTells.j1 kj8 l1 a2 a5 a6 false a0_0 a0_1)) else (fourinhandlaw15_XmpTells.j1 kj8 l1 a2 a5 a6 false a0_0 a0_1)) else (fourinhandlaw15_XmpTells.j1 kj8 l1 a2 a5 a6 false a0_0 a0_1)) else (fourinhandlaw15_XmpTells.j1 kj8 l1 a2 a5 a6 false a0_0 a0_1)) else (fourinhandlaw15_XmpTells.j1 kj8 l1 a2 a5 a6 false a0_0 a0_1)) else (fourinhandlaw15_XmpTells.j1 kj8 l1 a2 a5 a6 false a0_0 a0_1)) else (fourinhandlaw15_XmpTells.j1 kj8 l1 a2 a5 a6 false a0_0 a0_1)))))))))) = some r := by rw [if_neg (show ¬ (false = true) by decide)] at H; exact H
        clear H
        have H := H1
        clear H1
        replace H := Option.bind_eq_some_iff.mp H
        obtain ⟨⟨t199, t200, t201⟩, A140, H⟩ := H
        replace H : ((fourinhandref15_Slow.f kj8 a0_0 a0_1 a3 a5 a6).bind fun bt203 => ((xmp_Round.f a0_0 a0_1 a3 a5 a6).bind fun bt207 => ((fourinhandref15_Round.f kj8 a0_0 a0_1 a3 a5 a6).bind fun bt211 => ((xmp_Cut.f a0_0 a0_1 a3 a5 a6).bind fun bt215 => ((fourinhandref15_Cut.f kj8 a0_0 a0_1 a3 a5 a6).bind fun bt219 => ((xmp_Loss.f a0_0 a0_1 a4 a5 a6).bind fun bt223 => ((fourinhandref15_Loss.f kj8 a0_0 a0_1 a4 a5 a6).bind fun bt227 => (if (t199 == bt203.1 && (t200 == bt203.2.1)) = true then (if t201 = bt203.2.2 then (if (bt207.1 == bt211.1 && (bt207.2.1 == bt211.2.1)) = true then (if bt207.2.2 = bt211.2.2 then (if (bt215.1 == bt219.1 && (bt215.2.1 == bt219.2.1)) = true then (if bt215.2.2 = bt219.2.2 then (if (bt223.1 == bt227.1 && (bt223.2.1 == bt227.2.1)) = true then (fourinhandlaw15_XmpTells.j1 kj8 l1 a2 a5 a6 (bt223.2.2 == bt227.2.2) a0_0 a0_1) else (fourinhandlaw15_XmpTells.j1 kj8 l1 a2 a5 a6 false a0_0 a0_1)) else (fourinhandlaw15_XmpTells.j1 kj8 l1 a2 a5 a6 false a0_0 a0_1)) else (fourinhandlaw15_XmpTells.j1 kj8 l1 a2 a5 a6 false a0_0 a0_1)) else (fourinhandlaw15_XmpTells.j1 kj8 l1 a2 a5 a6 false a0_0 a0_1)) else (fourinhandlaw15_XmpTells.j1 kj8 l1 a2 a5 a6 false a0_0 a0_1)) else (fourinhandlaw15_XmpTells.j1 kj8 l1 a2 a5 a6 false a0_0 a0_1)) else (fourinhandlaw15_XmpTells.j1 kj8 l1 a2 a5 a6 false a0_0 a0_1))))))))) = some r := H
        have A14 := Aside0.mk A140
        clear A140
        replace H := Option.bind_eq_some_iff.mp H
        obtain ⟨⟨t203, t204, t205⟩, A150, H⟩ := H
        replace H : ((xmp_Round.f a0_0 a0_1 a3 a5 a6).bind fun bt207 => ((fourinhandref15_Round.f kj8 a0_0 a0_1 a3 a5 a6).bind fun bt211 => ((xmp_Cut.f a0_0 a0_1 a3 a5 a6).bind fun bt215 => ((fourinhandref15_Cut.f kj8 a0_0 a0_1 a3 a5 a6).bind fun bt219 => ((xmp_Loss.f a0_0 a0_1 a4 a5 a6).bind fun bt223 => ((fourinhandref15_Loss.f kj8 a0_0 a0_1 a4 a5 a6).bind fun bt227 => (if (t199 == t203 && (t200 == t204)) = true then (if t201 = t205 then (if (bt207.1 == bt211.1 && (bt207.2.1 == bt211.2.1)) = true then (if bt207.2.2 = bt211.2.2 then (if (bt215.1 == bt219.1 && (bt215.2.1 == bt219.2.1)) = true then (if bt215.2.2 = bt219.2.2 then (if (bt223.1 == bt227.1 && (bt223.2.1 == bt227.2.1)) = true then (fourinhandlaw15_XmpTells.j1 kj8 l1 a2 a5 a6 (bt223.2.2 == bt227.2.2) a0_0 a0_1) else (fourinhandlaw15_XmpTells.j1 kj8 l1 a2 a5 a6 false a0_0 a0_1)) else (fourinhandlaw15_XmpTells.j1 kj8 l1 a2 a5 a6 false a0_0 a0_1)) else (fourinhandlaw15_XmpTells.j1 kj8 l1 a2 a5 a6 false a0_0 a0_1)) else (fourinhandlaw15_XmpTells.j1 kj8 l1 a2 a5 a6 false a0_0 a0_1)) else (fourinhandlaw15_XmpTells.j1 kj8 l1 a2 a5 a6 false a0_0 a0_1)) else (fourinhandlaw15_XmpTells.j1 kj8 l1 a2 a5 a6 false a0_0 a0_1)) else (fourinhandlaw15_XmpTells.j1 kj8 l1 a2 a5 a6 false a0_0 a0_1)))))))) = some r := H
        have A15 := Aside0.mk A150
        clear A150
        replace H := Option.bind_eq_some_iff.mp H
        obtain ⟨⟨t207, t208, t209⟩, A160, H⟩ := H
        replace H : ((fourinhandref15_Round.f kj8 a0_0 a0_1 a3 a5 a6).bind fun bt211 => ((xmp_Cut.f a0_0 a0_1 a3 a5 a6).bind fun bt215 => ((fourinhandref15_Cut.f kj8 a0_0 a0_1 a3 a5 a6).bind fun bt219 => ((xmp_Loss.f a0_0 a0_1 a4 a5 a6).bind fun bt223 => ((fourinhandref15_Loss.f kj8 a0_0 a0_1 a4 a5 a6).bind fun bt227 => (if (t199 == t203 && (t200 == t204)) = true then (if t201 = t205 then (if (t207 == bt211.1 && (t208 == bt211.2.1)) = true then (if t209 = bt211.2.2 then (if (bt215.1 == bt219.1 && (bt215.2.1 == bt219.2.1)) = true then (if bt215.2.2 = bt219.2.2 then (if (bt223.1 == bt227.1 && (bt223.2.1 == bt227.2.1)) = true then (fourinhandlaw15_XmpTells.j1 kj8 l1 a2 a5 a6 (bt223.2.2 == bt227.2.2) a0_0 a0_1) else (fourinhandlaw15_XmpTells.j1 kj8 l1 a2 a5 a6 false a0_0 a0_1)) else (fourinhandlaw15_XmpTells.j1 kj8 l1 a2 a5 a6 false a0_0 a0_1)) else (fourinhandlaw15_XmpTells.j1 kj8 l1 a2 a5 a6 false a0_0 a0_1)) else (fourinhandlaw15_XmpTells.j1 kj8 l1 a2 a5 a6 false a0_0 a0_1)) else (fourinhandlaw15_XmpTells.j1 kj8 l1 a2 a5 a6 false a0_0 a0_1)) else (fourinhandlaw15_XmpTells.j1 kj8 l1 a2 a5 a6 false a0_0 a0_1)) else (fourinhandlaw15_XmpTells.j1 kj8 l1 a2 a5 a6 false a0_0 a0_1))))))) = some r := H
        have A16 := Aside0.mk A160
        clear A160
        replace H := Option.bind_eq_some_iff.mp H
        obtain ⟨⟨t211, t212, t213⟩, A170, H⟩ := H
        replace H : ((xmp_Cut.f a0_0 a0_1 a3 a5 a6).bind fun bt215 => ((fourinhandref15_Cut.f kj8 a0_0 a0_1 a3 a5 a6).bind fun bt219 => ((xmp_Loss.f a0_0 a0_1 a4 a5 a6).bind fun bt223 => ((fourinhandref15_Loss.f kj8 a0_0 a0_1 a4 a5 a6).bind fun bt227 => (if (t199 == t203 && (t200 == t204)) = true then (if t201 = t205 then (if (t207 == t211 && (t208 == t212)) = true then (if t209 = t213 then (if (bt215.1 == bt219.1 && (bt215.2.1 == bt219.2.1)) = true then (if bt215.2.2 = bt219.2.2 then (if (bt223.1 == bt227.1 && (bt223.2.1 == bt227.2.1)) = true then (fourinhandlaw15_XmpTells.j1 kj8 l1 a2 a5 a6 (bt223.2.2 == bt227.2.2) a0_0 a0_1) else (fourinhandlaw15_XmpTells.j1 kj8 l1 a2 a5 a6 false a0_0 a0_1)) else (fourinhandlaw15_XmpTells.j1 kj8 l1 a2 a5 a6 false a0_0 a0_1)) else (fourinhandlaw15_XmpTells.j1 kj8 l1 a2 a5 a6 false a0_0 a0_1)) else (fourinhandlaw15_XmpTells.j1 kj8 l1 a2 a5 a6 false a0_0 a0_1)) else (fourinhandlaw15_XmpTells.j1 kj8 l1 a2 a5 a6 false a0_0 a0_1)) else (fourinhandlaw15_XmpTells.j1 kj8 l1 a2 a5 a6 false a0_0 a0_1)) else (fourinhandlaw15_XmpTells.j1 kj8 l1 a2 a5 a6 false a0_0 a0_1)))))) = some r := H
        have A17 := Aside0.mk A170
        clear A170
        replace H := Option.bind_eq_some_iff.mp H
        obtain ⟨⟨t215, t216, t217⟩, A180, H⟩ := H
        replace H : ((fourinhandref15_Cut.f kj8 a0_0 a0_1 a3 a5 a6).bind fun bt219 => ((xmp_Loss.f a0_0 a0_1 a4 a5 a6).bind fun bt223 => ((fourinhandref15_Loss.f kj8 a0_0 a0_1 a4 a5 a6).bind fun bt227 => (if (t199 == t203 && (t200 == t204)) = true then (if t201 = t205 then (if (t207 == t211 && (t208 == t212)) = true then (if t209 = t213 then (if (t215 == bt219.1 && (t216 == bt219.2.1)) = true then (if t217 = bt219.2.2 then (if (bt223.1 == bt227.1 && (bt223.2.1 == bt227.2.1)) = true then (fourinhandlaw15_XmpTells.j1 kj8 l1 a2 a5 a6 (bt223.2.2 == bt227.2.2) a0_0 a0_1) else (fourinhandlaw15_XmpTells.j1 kj8 l1 a2 a5 a6 false a0_0 a0_1)) else (fourinhandlaw15_XmpTells.j1 kj8 l1 a2 a5 a6 false a0_0 a0_1)) else (fourinhandlaw15_XmpTells.j1 kj8 l1 a2 a5 a6 false a0_0 a0_1)) else (fourinhandlaw15_XmpTells.j1 kj8 l1 a2 a5 a6 false a0_0 a0_1)) else (fourinhandlaw15_XmpTells.j1 kj8 l1 a2 a5 a6 false a0_0 a0_1)) else (fourinhandlaw15_XmpTells.j1 kj8 l1 a2 a5 a6 false a0_0 a0_1)) else (fourinhandlaw15_XmpTells.j1 kj8 l1 a2 a5 a6 false a0_0 a0_1))))) = some r := H
        have A18 := Aside0.mk A180
        clear A180
        replace H := Option.bind_eq_some_iff.mp H
        obtain ⟨⟨t219, t220, t221⟩, A190, H⟩ := H
        replace H : ((xmp_Loss.f a0_0 a0_1 a4 a5 a6).bind fun bt223 => ((fourinhandref15_Loss.f kj8 a0_0 a0_1 a4 a5 a6).bind fun bt227 => (if (t199 == t203 && (t200 == t204)) = true then (if t201 = t205 then (if (t207 == t211 && (t208 == t212)) = true then (if t209 = t213 then (if (t215 == t219 && (t216 == t220)) = true then (if t217 = t221 then (if (bt223.1 == bt227.1 && (bt223.2.1 == bt227.2.1)) = true then (fourinhandlaw15_XmpTells.j1 kj8 l1 a2 a5 a6 (bt223.2.2 == bt227.2.2) a0_0 a0_1) else (fourinhandlaw15_XmpTells.j1 kj8 l1 a2 a5 a6 false a0_0 a0_1)) else (fourinhandlaw15_XmpTells.j1 kj8 l1 a2 a5 a6 false a0_0 a0_1)) else (fourinhandlaw15_XmpTells.j1 kj8 l1 a2 a5 a6 false a0_0 a0_1)) else (fourinhandlaw15_XmpTells.j1 kj8 l1 a2 a5 a6 false a0_0 a0_1)) else (fourinhandlaw15_XmpTells.j1 kj8 l1 a2 a5 a6 false a0_0 a0_1)) else (fourinhandlaw15_XmpTells.j1 kj8 l1 a2 a5 a6 false a0_0 a0_1)) else (fourinhandlaw15_XmpTells.j1 kj8 l1 a2 a5 a6 false a0_0 a0_1)))) = some r := H
        have A19 := Aside0.mk A190
        clear A190
        replace H := Option.bind_eq_some_iff.mp H
        obtain ⟨⟨t223, t224, t225⟩, A200, H⟩ := H
        replace H : ((fourinhandref15_Loss.f kj8 a0_0 a0_1 a4 a5 a6).bind fun bt227 => (if (t199 == t203 && (t200 == t204)) = true then (if t201 = t205 then (if (t207 == t211 && (t208 == t212)) = true then (if t209 = t213 then (if (t215 == t219 && (t216 == t220)) = true then (if t217 = t221 then (if (t223 == bt227.1 && (t224 == bt227.2.1)) = true then (fourinhandlaw15_XmpTells.j1 kj8 l1 a2 a5 a6 (t225 == bt227.2.2) a0_0 a0_1) else (fourinhandlaw15_XmpTells.j1 kj8 l1 a2 a5 a6 false a0_0 a0_1)) else (fourinhandlaw15_XmpTells.j1 kj8 l1 a2 a5 a6 false a0_0 a0_1)) else (fourinhandlaw15_XmpTells.j1 kj8 l1 a2 a5 a6 false a0_0 a0_1)) else (fourinhandlaw15_XmpTells.j1 kj8 l1 a2 a5 a6 false a0_0 a0_1)) else (fourinhandlaw15_XmpTells.j1 kj8 l1 a2 a5 a6 false a0_0 a0_1)) else (fourinhandlaw15_XmpTells.j1 kj8 l1 a2 a5 a6 false a0_0 a0_1)) else (fourinhandlaw15_XmpTells.j1 kj8 l1 a2 a5 a6 false a0_0 a0_1))) = some r := H
        have A20 := Aside0.mk A200
        clear A200
        replace H := Option.bind_eq_some_iff.mp H
        obtain ⟨⟨t227, t228, t229⟩, A210, H⟩ := H
        replace H : (if (t199 == t203 && (t200 == t204)) = true then (if t201 = t205 then (if (t207 == t211 && (t208 == t212)) = true then (if t209 = t213 then (if (t215 == t219 && (t216 == t220)) = true then (if t217 = t221 then (if (t223 == t227 && (t224 == t228)) = true then (fourinhandlaw15_XmpTells.j1 kj8 l1 a2 a5 a6 (t225 == t229) a0_0 a0_1) else (fourinhandlaw15_XmpTells.j1 kj8 l1 a2 a5 a6 false a0_0 a0_1)) else (fourinhandlaw15_XmpTells.j1 kj8 l1 a2 a5 a6 false a0_0 a0_1)) else (fourinhandlaw15_XmpTells.j1 kj8 l1 a2 a5 a6 false a0_0 a0_1)) else (fourinhandlaw15_XmpTells.j1 kj8 l1 a2 a5 a6 false a0_0 a0_1)) else (fourinhandlaw15_XmpTells.j1 kj8 l1 a2 a5 a6 false a0_0 a0_1)) else (fourinhandlaw15_XmpTells.j1 kj8 l1 a2 a5 a6 false a0_0 a0_1)) else (fourinhandlaw15_XmpTells.j1 kj8 l1 a2 a5 a6 false a0_0 a0_1)) = some r := H
        have A21 := Aside0.mk A210
        clear A210
        have HC22 := Aside0.mk H
        clear H
        have hcz23_0 : wc.cell? ⟨gb197, 0, none⟩ = some (.int .i64 a0_0) := (blk_cell BK197.out 0).trans rfl
        have hcz23_1 : wc.cell? ⟨gb197, 1, none⟩ = some (.int .i64 a0_1) := (blk_cell BK197.out 1).trans rfl
        have hfz23_0 := blk_frozen BK197.out 0
        have hfz23_1 := blk_frozen BK197.out 1
        go_upto_region 5 with (first | ((with_reducible refine gate_callee (f := 12) rfl ?_); refine goesL_ (some 47) rfl rfl Try.func12 (by kernel_rfl) rfl #[.agg #[.int .i64 a0_0, .int .i64 a0_1], .int .i64 a3, .int .i64 a5, .int .i64 a6] rfl (by (try simp only [List.map_toArray, List.map_cons, List.map_nil]); first | done | rfl | (simp only [List.length_drop, List.length_take]; rfl)) ?_; (with_reducible refine (xmp_Slow.calls a0_0 a0_1 a3 a5 a6 t199 t200 t201 _ A14.out).mono ?_); rintro e w24 ⟨rfl, hb⟩; refine ⟨_, rfl, ?_⟩; have n0_ := Aside0.mk (blk_below (g := gb197) (o := .cells #[.int .i64 a0_0, .int .i64 a0_1] 30 (0, 0)) (by (with_reducible repeat (first | refine blk_drewN ?_ _ | refine blk_drew ?_ | refine blk_alloc ?_ _)); exact BK197.out) hb); have n1_ := Aside0.mk (below_step (by repeat (first | (with_reducible first | exact HB.out | apply below_alloc | apply pw_below_drewN | apply below_drew1 | refine below_set ?_ GE197.out) | exact HB.out)) hb); clear BK197; clear HB; have BK197 := n0_; have HB := n1_; clear n0_ n1_; (try clear hb); (try clear hb2); (try clear hk); (try clear hi)) | ((with_reducible refine gate_dst (N := 16) rfl ?_); (try (refine gate_guard (by rfl) ?_; dsimp only)); refine box_event ?hg (N := 16) ?hd (cs := #[.int .i64 0, .int .i64 0]) (t := 30) ?hr ?_; (case hd => rfl); (case hg => rfl); (case hr => first | (go_simp; done) | (go_simp; rfl)); intro gb202 hg w25 hbox hb; have n0_ := Aside0.mk (blk_below (g := gb197) (o := .cells #[.int .i64 a0_0, .int .i64 a0_1] 30 (0, 0)) (by (with_reducible repeat (first | refine blk_drewN ?_ _ | refine blk_drew ?_ | refine blk_alloc ?_ _)); exact BK197.out) hb); have n1_ := Aside0.mk (below_step (by repeat (first | (with_reducible first | exact HB.out | apply below_alloc | apply pw_below_drewN | apply below_drew1 | refine below_set ?_ GE197.out) | exact HB.out)) hb); have n2_ := Aside0.mk (hbox); have n3_ := Aside0.mk ((by rw [hg]; exact (below_size (by repeat (first | (with_reducible first | exact HB.out | apply below_alloc | apply pw_below_drewN | apply below_drew1 | refine below_set ?_ GE197.out) | exact HB.out))) : w.heap.size ≤ gb202)); have n4_ := Aside0.mk ((by rw [hg]; exact (below_size (by repeat (first | (with_reducible first | exact HB.out | apply below_alloc | apply pw_below_drewN | apply below_drew1 | refine below_set ?_ GE197.out) | exact HB.out))) : w.heap.size ≤ gb202)); have n5_ := Aside0.mk ((by rw [hg]; exact Nat.ne_of_lt (blk_lt (g := gb197) (o := .cells #[.int .i64 a0_0, .int .i64 a0_1] 30 (0, 0)) (by (with_reducible repeat (first | refine blk_drewN ?_ _ | refine blk_drew ?_ | refine blk_alloc ?_ _)); exact BK197.out)) : gb197 ≠ gb202)); have n6_ := Aside0.mk ((by rw [hg]; exact Nat.ne_of_gt (blk_lt (g := gb197) (o := .cells #[.int .i64 a0_0, .int .i64 a0_1] 30 (0, 0)) (by (with_reducible repeat (first | refine blk_drewN ?_ _ | refine blk_drew ?_ | refine blk_alloc ?_ _)); exact BK197.out)) : gb202 ≠ gb197)); clear BK197; clear HB; have BK197 := n0_; have HB := n1_; have BK202 := n2_; have GW202 := n3_; have GE202 := n4_; have NB197_202 := n5_; have NB202_197 := n6_; clear n0_ n1_ n2_ n3_ n4_ n5_ n6_; clear hb hbox hg; have hnb26 := NB202_197.out; have hnc26 := NB197_202.out; have hcz27_0 : w25.cell? ⟨gb202, 0, none⟩ = some (.int .i64 0) := (blk_cell BK202.out 0).trans rfl; have hcz27_1 : w25.cell? ⟨gb202, 1, none⟩ = some (.int .i64 0) := (blk_cell BK202.out 1).trans rfl; have hfz27_0 := blk_frozen BK202.out 0; have hfz27_1 := blk_frozen BK202.out 1; have hcz28_0 : w25.cell? ⟨gb197, 0, none⟩ = some (.int .i64 a0_0) := (blk_cell BK197.out 0).trans rfl; have hcz28_1 : w25.cell? ⟨gb197, 1, none⟩ = some (.int .i64 a0_1) := (blk_cell BK197.out 1).trans rfl; have hfz28_0 := blk_frozen BK197.out 0; have hfz28_1 := blk_frozen BK197.out 1))
        (try simp only [Act.put, List.setIfInBounds_toArray, List.set_cons_zero, List.set_cons_succ])
        refine wp_gen_ (fun w' => w'.heap[gb197]? = some (.cells #[.int .i64 a0_0, .int .i64 a0_1] 30 (0, 0)) ∧ w'.heap[gb202]? = some (.cells #[.int .i64 t199, .int .i64 t200] 30 (0, 0)) ∧ Below w.heap.size w w') ⟨(by (with_reducible repeat (first | refine blk_drewN ?_ _ | refine blk_drew ?_ | refine blk_alloc ?_ _)); refine blk_far ?_ NB197_202.out _; (with_reducible repeat (first | refine blk_drewN ?_ _ | refine blk_drew ?_ | refine blk_alloc ?_ _)); refine blk_far ?_ NB197_202.out _; (with_reducible repeat (first | refine blk_drewN ?_ _ | refine blk_drew ?_ | refine blk_alloc ?_ _)); exact BK197.out), (by (with_reducible repeat (first | refine blk_drewN ?_ _ | refine blk_drew ?_ | refine blk_alloc ?_ _)); refine blk_put (cs := #[.int .i64 t199, .int .i64 0]) ?_ 1 _ rfl; (with_reducible repeat (first | refine blk_drewN ?_ _ | refine blk_drew ?_ | refine blk_alloc ?_ _)); refine blk_put (cs := #[.int .i64 0, .int .i64 0]) ?_ 0 _ rfl; (with_reducible repeat (first | refine blk_drewN ?_ _ | refine blk_drew ?_ | refine blk_alloc ?_ _)); exact BK202.out), (by repeat (first | (with_reducible first | exact HB.out | apply below_alloc | apply pw_below_drewN | apply below_drew1 | refine below_set ?_ GE197.out | refine below_set ?_ GE202.out) | exact HB.out))⟩ ?_
        clear HB BK197 BK202
        rintro wg1 ⟨BK197, BK202, HB⟩
        replace HB := Aside0.mk HB
        replace BK197 := Aside0.mk BK197
        replace BK202 := Aside0.mk BK202
        have hczg1_gb197_0 : wg1.cell? ⟨gb197, 0, none⟩ = some (.int .i64 a0_0) := (blk_cell BK197.out 0).trans rfl
        have hfzg1_gb197_0 := blk_frozen BK197.out 0
        have hczg1_gb197_1 : wg1.cell? ⟨gb197, 1, none⟩ = some (.int .i64 a0_1) := (blk_cell BK197.out 1).trans rfl
        have hfzg1_gb197_1 := blk_frozen BK197.out 1
        have hczg1_gb202_0 : wg1.cell? ⟨gb202, 0, none⟩ = some (.int .i64 t199) := (blk_cell BK202.out 0).trans rfl
        have hfzg1_gb202_0 := blk_frozen BK202.out 0
        have hczg1_gb202_1 : wg1.cell? ⟨gb202, 1, none⟩ = some (.int .i64 t200) := (blk_cell BK202.out 1).trans rfl
        have hfzg1_gb202_1 := blk_frozen BK202.out 1
        try clear hcz27_0
        try clear hcz27_1
        try clear hcz28_0
        try clear hcz28_1
        try clear hfz27_0
        try clear hfz27_1
        try clear hfz28_0
        try clear hfz28_1
        go_upto_region 6 with (first | ((with_reducible refine gate_callee (f := 16) rfl ?_); refine goesL_ (some 55) rfl rfl Try.func16 (by kernel_rfl) rfl #[.agg #[.int .i64 a0_0, .int .i64 a0_1], .int .i64 a3, .int .i64 a5, .int .i64 a6] rfl (by (try simp only [List.map_toArray, List.map_cons, List.map_nil]); first | done | rfl | (simp only [List.length_drop, List.length_take]; rfl)) ?_; (with_reducible refine (fourinhandref15_Slow.calls kj8 a0_0 a0_1 a3 a5 a6 t203 t204 t205 _ A15.out).mono ?_); rintro e w29 ⟨rfl, hb⟩; refine ⟨_, rfl, ?_⟩; have n0_ := Aside0.mk (blk_below (g := gb197) (o := .cells #[.int .i64 a0_0, .int .i64 a0_1] 30 (0, 0)) BK197.out hb); have n1_ := Aside0.mk (blk_below (g := gb202) (o := .cells #[.int .i64 t199, .int .i64 t200] 30 (0, 0)) BK202.out hb); have n2_ := Aside0.mk (below_step (by repeat (first | (with_reducible first | exact HB.out | apply below_alloc | apply pw_below_drewN | apply below_drew1 | refine below_set ?_ GE197.out | refine below_set ?_ GE202.out) | exact HB.out)) hb); clear BK197; clear BK202; clear HB; have BK197 := n0_; have BK202 := n1_; have HB := n2_; clear n0_ n1_ n2_; (try clear hb); (try clear hb2); (try clear hk); (try clear hi)) | ((with_reducible refine gate_dst (N := 18) rfl ?_); (try (refine gate_guard (by rfl) ?_; dsimp only)); refine box_event ?hg (N := 18) ?hd (cs := #[.int .i64 0, .int .i64 0]) (t := 30) ?hr ?_; (case hd => rfl); (case hg => rfl); (case hr => first | (go_simp; done) | (go_simp; rfl)); intro gb206 hg w30 hbox hb; have n0_ := Aside0.mk (blk_below (g := gb197) (o := .cells #[.int .i64 a0_0, .int .i64 a0_1] 30 (0, 0)) (by (with_reducible repeat (first | refine blk_drewN ?_ _ | refine blk_drew ?_ | refine blk_alloc ?_ _)); exact BK197.out) hb); have n1_ := Aside0.mk (blk_below (g := gb202) (o := .cells #[.int .i64 t199, .int .i64 t200] 30 (0, 0)) (by (with_reducible repeat (first | refine blk_drewN ?_ _ | refine blk_drew ?_ | refine blk_alloc ?_ _)); exact BK202.out) hb); have n2_ := Aside0.mk (below_step (by repeat (first | (with_reducible first | exact HB.out | apply below_alloc | apply pw_below_drewN | apply below_drew1 | refine below_set ?_ GE197.out | refine below_set ?_ GE202.out) | exact HB.out)) hb); have n3_ := Aside0.mk (hbox); have n4_ := Aside0.mk ((by rw [hg]; exact (below_size (by repeat (first | (with_reducible first | exact HB.out | apply below_alloc | apply pw_below_drewN | apply below_drew1 | refine below_set ?_ GE197.out | refine below_set ?_ GE202.out) | exact HB.out))) : w.heap.size ≤ gb206)); have n5_ := Aside0.mk ((by rw [hg]; exact (below_size (by repeat (first | (with_reducible first | exact HB.out | apply below_alloc | apply pw_below_drewN | apply below_drew1 | refine below_set ?_ GE197.out | refine below_set ?_ GE202.out) | exact HB.out))) : w.heap.size ≤ gb206)); have n6_ := Aside0.mk ((by rw [hg]; exact Nat.ne_of_lt (blk_lt (g := gb197) (o := .cells #[.int .i64 a0_0, .int .i64 a0_1] 30 (0, 0)) (by (with_reducible repeat (first | refine blk_drewN ?_ _ | refine blk_drew ?_ | refine blk_alloc ?_ _)); exact BK197.out)) : gb197 ≠ gb206)); have n7_ := Aside0.mk ((by rw [hg]; exact Nat.ne_of_gt (blk_lt (g := gb197) (o := .cells #[.int .i64 a0_0, .int .i64 a0_1] 30 (0, 0)) (by (with_reducible repeat (first | refine blk_drewN ?_ _ | refine blk_drew ?_ | refine blk_alloc ?_ _)); exact BK197.out)) : gb206 ≠ gb197)); have n8_ := Aside0.mk ((by rw [hg]; exact Nat.ne_of_lt (blk_lt (g := gb202) (o := .cells #[.int .i64 t199, .int .i64 t200] 30 (0, 0)) (by (with_reducible repeat (first | refine blk_drewN ?_ _ | refine blk_drew ?_ | refine blk_alloc ?_ _)); exact BK202.out)) : gb202 ≠ gb206)); have n9_ := Aside0.mk ((by rw [hg]; exact Nat.ne_of_gt (blk_lt (g := gb202) (o := .cells #[.int .i64 t199, .int .i64 t200] 30 (0, 0)) (by (with_reducible repeat (first | refine blk_drewN ?_ _ | refine blk_drew ?_ | refine blk_alloc ?_ _)); exact BK202.out)) : gb206 ≠ gb202)); clear BK197; clear BK202; clear HB; have BK197 := n0_; have BK202 := n1_; have HB := n2_; have BK206 := n3_; have GW206 := n4_; have GE206 := n5_; have NB197_206 := n6_; have NB206_197 := n7_; have NB202_206 := n8_; have NB206_202 := n9_; clear n0_ n1_ n2_ n3_ n4_ n5_ n6_ n7_ n8_ n9_; clear hb hbox hg; have hnb31 := NB206_197.out; have hnc31 := NB197_206.out; have hnb32 := NB206_202.out; have hnc32 := NB202_206.out; have hcz33_0 : w30.cell? ⟨gb206, 0, none⟩ = some (.int .i64 0) := (blk_cell BK206.out 0).trans rfl; have hcz33_1 : w30.cell? ⟨gb206, 1, none⟩ = some (.int .i64 0) := (blk_cell BK206.out 1).trans rfl; have hfz33_0 := blk_frozen BK206.out 0; have hfz33_1 := blk_frozen BK206.out 1; have hcz34_0 : w30.cell? ⟨gb197, 0, none⟩ = some (.int .i64 a0_0) := (blk_cell BK197.out 0).trans rfl; have hcz34_1 : w30.cell? ⟨gb197, 1, none⟩ = some (.int .i64 a0_1) := (blk_cell BK197.out 1).trans rfl; have hfz34_0 := blk_frozen BK197.out 0; have hfz34_1 := blk_frozen BK197.out 1))
        (try simp only [Act.put, List.setIfInBounds_toArray, List.set_cons_zero, List.set_cons_succ])
        refine wp_gen_ (fun w' => w'.heap[gb197]? = some (.cells #[.int .i64 a0_0, .int .i64 a0_1] 30 (0, 0)) ∧ w'.heap[gb202]? = some (.cells #[.int .i64 t199, .int .i64 t200] 30 (0, 0)) ∧ w'.heap[gb206]? = some (.cells #[.int .i64 t203, .int .i64 t204] 30 (0, 0)) ∧ Below w.heap.size w w') ⟨(by (with_reducible repeat (first | refine blk_drewN ?_ _ | refine blk_drew ?_ | refine blk_alloc ?_ _)); refine blk_far ?_ NB197_206.out _; (with_reducible repeat (first | refine blk_drewN ?_ _ | refine blk_drew ?_ | refine blk_alloc ?_ _)); refine blk_far ?_ NB197_206.out _; (with_reducible repeat (first | refine blk_drewN ?_ _ | refine blk_drew ?_ | refine blk_alloc ?_ _)); exact BK197.out), (by (with_reducible repeat (first | refine blk_drewN ?_ _ | refine blk_drew ?_ | refine blk_alloc ?_ _)); refine blk_far ?_ NB202_206.out _; (with_reducible repeat (first | refine blk_drewN ?_ _ | refine blk_drew ?_ | refine blk_alloc ?_ _)); refine blk_far ?_ NB202_206.out _; (with_reducible repeat (first | refine blk_drewN ?_ _ | refine blk_drew ?_ | refine blk_alloc ?_ _)); exact BK202.out), (by (with_reducible repeat (first | refine blk_drewN ?_ _ | refine blk_drew ?_ | refine blk_alloc ?_ _)); refine blk_put (cs := #[.int .i64 t203, .int .i64 0]) ?_ 1 _ rfl; (with_reducible repeat (first | refine blk_drewN ?_ _ | refine blk_drew ?_ | refine blk_alloc ?_ _)); refine blk_put (cs := #[.int .i64 0, .int .i64 0]) ?_ 0 _ rfl; (with_reducible repeat (first | refine blk_drewN ?_ _ | refine blk_drew ?_ | refine blk_alloc ?_ _)); exact BK206.out), (by repeat (first | (with_reducible first | exact HB.out | apply below_alloc | apply pw_below_drewN | apply below_drew1 | refine below_set ?_ GE197.out | refine below_set ?_ GE202.out | refine below_set ?_ GE206.out) | exact HB.out))⟩ ?_
        clear HB BK197 BK202 BK206
        rintro wg2 ⟨BK197, BK202, BK206, HB⟩
        replace HB := Aside0.mk HB
        replace BK197 := Aside0.mk BK197
        replace BK202 := Aside0.mk BK202
        replace BK206 := Aside0.mk BK206
        have hczg2_gb197_0 : wg2.cell? ⟨gb197, 0, none⟩ = some (.int .i64 a0_0) := (blk_cell BK197.out 0).trans rfl
        have hfzg2_gb197_0 := blk_frozen BK197.out 0
        have hczg2_gb197_1 : wg2.cell? ⟨gb197, 1, none⟩ = some (.int .i64 a0_1) := (blk_cell BK197.out 1).trans rfl
        have hfzg2_gb197_1 := blk_frozen BK197.out 1
        have hczg2_gb202_0 : wg2.cell? ⟨gb202, 0, none⟩ = some (.int .i64 t199) := (blk_cell BK202.out 0).trans rfl
        have hfzg2_gb202_0 := blk_frozen BK202.out 0
        have hczg2_gb202_1 : wg2.cell? ⟨gb202, 1, none⟩ = some (.int .i64 t200) := (blk_cell BK202.out 1).trans rfl
        have hfzg2_gb202_1 := blk_frozen BK202.out 1
        have hczg2_gb206_0 : wg2.cell? ⟨gb206, 0, none⟩ = some (.int .i64 t203) := (blk_cell BK206.out 0).trans rfl
        have hfzg2_gb206_0 := blk_frozen BK206.out 0
        have hczg2_gb206_1 : wg2.cell? ⟨gb206, 1, none⟩ = some (.int .i64 t204) := (blk_cell BK206.out 1).trans rfl
        have hfzg2_gb206_1 := blk_frozen BK206.out 1
        try clear hcz33_0
        try clear hcz33_1
        try clear hcz34_0
        try clear hcz34_1
        try clear hczg1_gb197_0
        try clear hczg1_gb197_1
        try clear hczg1_gb202_0
        try clear hczg1_gb202_1
        try clear hfz33_0
        try clear hfz33_1
        try clear hfz34_0
        try clear hfz34_1
        try clear hfzg1_gb197_0
        try clear hfzg1_gb197_1
        try clear hfzg1_gb202_0
        try clear hfzg1_gb202_1
        go_upto_region 7 with (first | ((with_reducible refine gate_callee (f := 13) rfl ?_); refine goesL_ (some 63) rfl rfl Try.func13 (by kernel_rfl) rfl #[.agg #[.int .i64 a0_0, .int .i64 a0_1], .int .i64 a3, .int .i64 a5, .int .i64 a6] rfl (by (try simp only [List.map_toArray, List.map_cons, List.map_nil]); first | done | rfl | (simp only [List.length_drop, List.length_take]; rfl)) ?_; (with_reducible refine (xmp_Round.calls a0_0 a0_1 a3 a5 a6 t207 t208 t209 _ A16.out).mono ?_); rintro e w35 ⟨rfl, hb⟩; refine ⟨_, rfl, ?_⟩; have n0_ := Aside0.mk (blk_below (g := gb197) (o := .cells #[.int .i64 a0_0, .int .i64 a0_1] 30 (0, 0)) BK197.out hb); have n1_ := Aside0.mk (blk_below (g := gb202) (o := .cells #[.int .i64 t199, .int .i64 t200] 30 (0, 0)) BK202.out hb); have n2_ := Aside0.mk (blk_below (g := gb206) (o := .cells #[.int .i64 t203, .int .i64 t204] 30 (0, 0)) BK206.out hb); have n3_ := Aside0.mk (below_step (by repeat (first | (with_reducible first | exact HB.out | apply below_alloc | apply pw_below_drewN | apply below_drew1 | refine below_set ?_ GE197.out | refine below_set ?_ GE202.out | refine below_set ?_ GE206.out) | exact HB.out)) hb); clear BK197; clear BK202; clear BK206; clear HB; have BK197 := n0_; have BK202 := n1_; have BK206 := n2_; have HB := n3_; clear n0_ n1_ n2_ n3_; (try clear hb); (try clear hb2); (try clear hk); (try clear hi)) | ((with_reducible refine gate_dst (N := 20) rfl ?_); (try (refine gate_guard (by rfl) ?_; dsimp only)); refine box_event ?hg (N := 20) ?hd (cs := #[.int .i64 0, .int .i64 0]) (t := 30) ?hr ?_; (case hd => rfl); (case hg => rfl); (case hr => first | (go_simp; done) | (go_simp; rfl)); intro gb210 hg w36 hbox hb; have n0_ := Aside0.mk (blk_below (g := gb197) (o := .cells #[.int .i64 a0_0, .int .i64 a0_1] 30 (0, 0)) (by (with_reducible repeat (first | refine blk_drewN ?_ _ | refine blk_drew ?_ | refine blk_alloc ?_ _)); exact BK197.out) hb); have n1_ := Aside0.mk (blk_below (g := gb202) (o := .cells #[.int .i64 t199, .int .i64 t200] 30 (0, 0)) (by (with_reducible repeat (first | refine blk_drewN ?_ _ | refine blk_drew ?_ | refine blk_alloc ?_ _)); exact BK202.out) hb); have n2_ := Aside0.mk (blk_below (g := gb206) (o := .cells #[.int .i64 t203, .int .i64 t204] 30 (0, 0)) (by (with_reducible repeat (first | refine blk_drewN ?_ _ | refine blk_drew ?_ | refine blk_alloc ?_ _)); exact BK206.out) hb); have n3_ := Aside0.mk (below_step (by repeat (first | (with_reducible first | exact HB.out | apply below_alloc | apply pw_below_drewN | apply below_drew1 | refine below_set ?_ GE197.out | refine below_set ?_ GE202.out | refine below_set ?_ GE206.out) | exact HB.out)) hb); have n4_ := Aside0.mk (hbox); have n5_ := Aside0.mk ((by rw [hg]; exact (below_size (by repeat (first | (with_reducible first | exact HB.out | apply below_alloc | apply pw_below_drewN | apply below_drew1 | refine below_set ?_ GE197.out | refine below_set ?_ GE202.out | refine below_set ?_ GE206.out) | exact HB.out))) : w.heap.size ≤ gb210)); have n6_ := Aside0.mk ((by rw [hg]; exact (below_size (by repeat (first | (with_reducible first | exact HB.out | apply below_alloc | apply pw_below_drewN | apply below_drew1 | refine below_set ?_ GE197.out | refine below_set ?_ GE202.out | refine below_set ?_ GE206.out) | exact HB.out))) : w.heap.size ≤ gb210)); have n7_ := Aside0.mk ((by rw [hg]; exact Nat.ne_of_lt (blk_lt (g := gb197) (o := .cells #[.int .i64 a0_0, .int .i64 a0_1] 30 (0, 0)) (by (with_reducible repeat (first | refine blk_drewN ?_ _ | refine blk_drew ?_ | refine blk_alloc ?_ _)); exact BK197.out)) : gb197 ≠ gb210)); have n8_ := Aside0.mk ((by rw [hg]; exact Nat.ne_of_gt (blk_lt (g := gb197) (o := .cells #[.int .i64 a0_0, .int .i64 a0_1] 30 (0, 0)) (by (with_reducible repeat (first | refine blk_drewN ?_ _ | refine blk_drew ?_ | refine blk_alloc ?_ _)); exact BK197.out)) : gb210 ≠ gb197)); have n9_ := Aside0.mk ((by rw [hg]; exact Nat.ne_of_lt (blk_lt (g := gb202) (o := .cells #[.int .i64 t199, .int .i64 t200] 30 (0, 0)) (by (with_reducible repeat (first | refine blk_drewN ?_ _ | refine blk_drew ?_ | refine blk_alloc ?_ _)); exact BK202.out)) : gb202 ≠ gb210)); have n10_ := Aside0.mk ((by rw [hg]; exact Nat.ne_of_gt (blk_lt (g := gb202) (o := .cells #[.int .i64 t199, .int .i64 t200] 30 (0, 0)) (by (with_reducible repeat (first | refine blk_drewN ?_ _ | refine blk_drew ?_ | refine blk_alloc ?_ _)); exact BK202.out)) : gb210 ≠ gb202)); have n11_ := Aside0.mk ((by rw [hg]; exact Nat.ne_of_lt (blk_lt (g := gb206) (o := .cells #[.int .i64 t203, .int .i64 t204] 30 (0, 0)) (by (with_reducible repeat (first | refine blk_drewN ?_ _ | refine blk_drew ?_ | refine blk_alloc ?_ _)); exact BK206.out)) : gb206 ≠ gb210)); have n12_ := Aside0.mk ((by rw [hg]; exact Nat.ne_of_gt (blk_lt (g := gb206) (o := .cells #[.int .i64 t203, .int .i64 t204] 30 (0, 0)) (by (with_reducible repeat (first | refine blk_drewN ?_ _ | refine blk_drew ?_ | refine blk_alloc ?_ _)); exact BK206.out)) : gb210 ≠ gb206)); clear BK197; clear BK202; clear BK206; clear HB; have BK197 := n0_; have BK202 := n1_; have BK206 := n2_; have HB := n3_; have BK210 := n4_; have GW210 := n5_; have GE210 := n6_; have NB197_210 := n7_; have NB210_197 := n8_; have NB202_210 := n9_; have NB210_202 := n10_; have NB206_210 := n11_; have NB210_206 := n12_; clear n0_ n1_ n2_ n3_ n4_ n5_ n6_ n7_ n8_ n9_ n10_ n11_ n12_; clear hb hbox hg; have hnb37 := NB210_197.out; have hnc37 := NB197_210.out; have hnb38 := NB210_202.out; have hnc38 := NB202_210.out; have hnb39 := NB210_206.out; have hnc39 := NB206_210.out; have hcz40_0 : w36.cell? ⟨gb210, 0, none⟩ = some (.int .i64 0) := (blk_cell BK210.out 0).trans rfl; have hcz40_1 : w36.cell? ⟨gb210, 1, none⟩ = some (.int .i64 0) := (blk_cell BK210.out 1).trans rfl; have hfz40_0 := blk_frozen BK210.out 0; have hfz40_1 := blk_frozen BK210.out 1; have hcz41_0 : w36.cell? ⟨gb197, 0, none⟩ = some (.int .i64 a0_0) := (blk_cell BK197.out 0).trans rfl; have hcz41_1 : w36.cell? ⟨gb197, 1, none⟩ = some (.int .i64 a0_1) := (blk_cell BK197.out 1).trans rfl; have hfz41_0 := blk_frozen BK197.out 0; have hfz41_1 := blk_frozen BK197.out 1))
        (try simp only [Act.put, List.setIfInBounds_toArray, List.set_cons_zero, List.set_cons_succ])
        refine wp_gen_ (fun w' => w'.heap[gb197]? = some (.cells #[.int .i64 a0_0, .int .i64 a0_1] 30 (0, 0)) ∧ w'.heap[gb202]? = some (.cells #[.int .i64 t199, .int .i64 t200] 30 (0, 0)) ∧ w'.heap[gb206]? = some (.cells #[.int .i64 t203, .int .i64 t204] 30 (0, 0)) ∧ w'.heap[gb210]? = some (.cells #[.int .i64 t207, .int .i64 t208] 30 (0, 0)) ∧ Below w.heap.size w w') ⟨(by (with_reducible repeat (first | refine blk_drewN ?_ _ | refine blk_drew ?_ | refine blk_alloc ?_ _)); refine blk_far ?_ NB197_210.out _; (with_reducible repeat (first | refine blk_drewN ?_ _ | refine blk_drew ?_ | refine blk_alloc ?_ _)); refine blk_far ?_ NB197_210.out _; (with_reducible repeat (first | refine blk_drewN ?_ _ | refine blk_drew ?_ | refine blk_alloc ?_ _)); exact BK197.out), (by (with_reducible repeat (first | refine blk_drewN ?_ _ | refine blk_drew ?_ | refine blk_alloc ?_ _)); refine blk_far ?_ NB202_210.out _; (with_reducible repeat (first | refine blk_drewN ?_ _ | refine blk_drew ?_ | refine blk_alloc ?_ _)); refine blk_far ?_ NB202_210.out _; (with_reducible repeat (first | refine blk_drewN ?_ _ | refine blk_drew ?_ | refine blk_alloc ?_ _)); exact BK202.out), (by (with_reducible repeat (first | refine blk_drewN ?_ _ | refine blk_drew ?_ | refine blk_alloc ?_ _)); refine blk_far ?_ NB206_210.out _; (with_reducible repeat (first | refine blk_drewN ?_ _ | refine blk_drew ?_ | refine blk_alloc ?_ _)); refine blk_far ?_ NB206_210.out _; (with_reducible repeat (first | refine blk_drewN ?_ _ | refine blk_drew ?_ | refine blk_alloc ?_ _)); exact BK206.out), (by (with_reducible repeat (first | refine blk_drewN ?_ _ | refine blk_drew ?_ | refine blk_alloc ?_ _)); refine blk_put (cs := #[.int .i64 t207, .int .i64 0]) ?_ 1 _ rfl; (with_reducible repeat (first | refine blk_drewN ?_ _ | refine blk_drew ?_ | refine blk_alloc ?_ _)); refine blk_put (cs := #[.int .i64 0, .int .i64 0]) ?_ 0 _ rfl; (with_reducible repeat (first | refine blk_drewN ?_ _ | refine blk_drew ?_ | refine blk_alloc ?_ _)); exact BK210.out), (by repeat (first | (with_reducible first | exact HB.out | apply below_alloc | apply pw_below_drewN | apply below_drew1 | refine below_set ?_ GE197.out | refine below_set ?_ GE202.out | refine below_set ?_ GE206.out | refine below_set ?_ GE210.out) | exact HB.out))⟩ ?_
        clear HB BK197 BK202 BK206 BK210
        rintro wg3 ⟨BK197, BK202, BK206, BK210, HB⟩
        replace HB := Aside0.mk HB
        replace BK197 := Aside0.mk BK197
        replace BK202 := Aside0.mk BK202
        replace BK206 := Aside0.mk BK206
        replace BK210 := Aside0.mk BK210
        have hczg3_gb197_0 : wg3.cell? ⟨gb197, 0, none⟩ = some (.int .i64 a0_0) := (blk_cell BK197.out 0).trans rfl
        have hfzg3_gb197_0 := blk_frozen BK197.out 0
        have hczg3_gb197_1 : wg3.cell? ⟨gb197, 1, none⟩ = some (.int .i64 a0_1) := (blk_cell BK197.out 1).trans rfl
        have hfzg3_gb197_1 := blk_frozen BK197.out 1
        have hczg3_gb202_0 : wg3.cell? ⟨gb202, 0, none⟩ = some (.int .i64 t199) := (blk_cell BK202.out 0).trans rfl
        have hfzg3_gb202_0 := blk_frozen BK202.out 0
        have hczg3_gb202_1 : wg3.cell? ⟨gb202, 1, none⟩ = some (.int .i64 t200) := (blk_cell BK202.out 1).trans rfl
        have hfzg3_gb202_1 := blk_frozen BK202.out 1
        have hczg3_gb206_0 : wg3.cell? ⟨gb206, 0, none⟩ = some (.int .i64 t203) := (blk_cell BK206.out 0).trans rfl
        have hfzg3_gb206_0 := blk_frozen BK206.out 0
        have hczg3_gb206_1 : wg3.cell? ⟨gb206, 1, none⟩ = some (.int .i64 t204) := (blk_cell BK206.out 1).trans rfl
        have hfzg3_gb206_1 := blk_frozen BK206.out 1
        have hczg3_gb210_0 : wg3.cell? ⟨gb210, 0, none⟩ = some (.int .i64 t207) := (blk_cell BK210.out 0).trans rfl
        have hfzg3_gb210_0 := blk_frozen BK210.out 0
        have hczg3_gb210_1 : wg3.cell? ⟨gb210, 1, none⟩ = some (.int .i64 t208) := (blk_cell BK210.out 1).trans rfl
        have hfzg3_gb210_1 := blk_frozen BK210.out 1
        try clear hcz40_0
        try clear hcz40_1
        try clear hcz41_0
        try clear hcz41_1
        try clear hczg2_gb197_0
        try clear hczg2_gb197_1
        try clear hczg2_gb202_0
        try clear hczg2_gb202_1
        try clear hczg2_gb206_0
        try clear hczg2_gb206_1
        try clear hfz40_0
        try clear hfz40_1
        try clear hfz41_0
        try clear hfz41_1
        try clear hfzg2_gb197_0
        try clear hfzg2_gb197_1
        try clear hfzg2_gb202_0
        try clear hfzg2_gb202_1
        try clear hfzg2_gb206_0
        try clear hfzg2_gb206_1
        go_upto_region 8 with (first | ((with_reducible refine gate_callee (f := 17) rfl ?_); refine goesL_ (some 71) rfl rfl Try.func17 (by kernel_rfl) rfl #[.agg #[.int .i64 a0_0, .int .i64 a0_1], .int .i64 a3, .int .i64 a5, .int .i64 a6] rfl (by (try simp only [List.map_toArray, List.map_cons, List.map_nil]); first | done | rfl | (simp only [List.length_drop, List.length_take]; rfl)) ?_; (with_reducible refine (fourinhandref15_Round.calls kj8 a0_0 a0_1 a3 a5 a6 t211 t212 t213 _ A17.out).mono ?_); rintro e w42 ⟨rfl, hb⟩; refine ⟨_, rfl, ?_⟩; have n0_ := Aside0.mk (blk_below (g := gb197) (o := .cells #[.int .i64 a0_0, .int .i64 a0_1] 30 (0, 0)) BK197.out hb); have n1_ := Aside0.mk (blk_below (g := gb202) (o := .cells #[.int .i64 t199, .int .i64 t200] 30 (0, 0)) BK202.out hb); have n2_ := Aside0.mk (blk_below (g := gb206) (o := .cells #[.int .i64 t203, .int .i64 t204] 30 (0, 0)) BK206.out hb); have n3_ := Aside0.mk (blk_below (g := gb210) (o := .cells #[.int .i64 t207, .int .i64 t208] 30 (0, 0)) BK210.out hb); have n4_ := Aside0.mk (below_step (by repeat (first | (with_reducible first | exact HB.out | apply below_alloc | apply pw_below_drewN | apply below_drew1 | refine below_set ?_ GE197.out | refine below_set ?_ GE202.out | refine below_set ?_ GE206.out | refine below_set ?_ GE210.out) | exact HB.out)) hb); clear BK197; clear BK202; clear BK206; clear BK210; clear HB; have BK197 := n0_; have BK202 := n1_; have BK206 := n2_; have BK210 := n3_; have HB := n4_; clear n0_ n1_ n2_ n3_ n4_; (try clear hb); (try clear hb2); (try clear hk); (try clear hi)) | ((with_reducible refine gate_dst (N := 22) rfl ?_); (try (refine gate_guard (by rfl) ?_; dsimp only)); refine box_event ?hg (N := 22) ?hd (cs := #[.int .i64 0, .int .i64 0]) (t := 30) ?hr ?_; (case hd => rfl); (case hg => rfl); (case hr => first | (go_simp; done) | (go_simp; rfl)); intro gb214 hg w43 hbox hb; have n0_ := Aside0.mk (blk_below (g := gb197) (o := .cells #[.int .i64 a0_0, .int .i64 a0_1] 30 (0, 0)) (by (with_reducible repeat (first | refine blk_drewN ?_ _ | refine blk_drew ?_ | refine blk_alloc ?_ _)); exact BK197.out) hb); have n1_ := Aside0.mk (blk_below (g := gb202) (o := .cells #[.int .i64 t199, .int .i64 t200] 30 (0, 0)) (by (with_reducible repeat (first | refine blk_drewN ?_ _ | refine blk_drew ?_ | refine blk_alloc ?_ _)); exact BK202.out) hb); have n2_ := Aside0.mk (blk_below (g := gb206) (o := .cells #[.int .i64 t203, .int .i64 t204] 30 (0, 0)) (by (with_reducible repeat (first | refine blk_drewN ?_ _ | refine blk_drew ?_ | refine blk_alloc ?_ _)); exact BK206.out) hb); have n3_ := Aside0.mk (blk_below (g := gb210) (o := .cells #[.int .i64 t207, .int .i64 t208] 30 (0, 0)) (by (with_reducible repeat (first | refine blk_drewN ?_ _ | refine blk_drew ?_ | refine blk_alloc ?_ _)); exact BK210.out) hb); have n4_ := Aside0.mk (below_step (by repeat (first | (with_reducible first | exact HB.out | apply below_alloc | apply pw_below_drewN | apply below_drew1 | refine below_set ?_ GE197.out | refine below_set ?_ GE202.out | refine below_set ?_ GE206.out | refine below_set ?_ GE210.out) | exact HB.out)) hb); have n5_ := Aside0.mk (hbox); have n6_ := Aside0.mk ((by rw [hg]; exact (below_size (by repeat (first | (with_reducible first | exact HB.out | apply below_alloc | apply pw_below_drewN | apply below_drew1 | refine below_set ?_ GE197.out | refine below_set ?_ GE202.out | refine below_set ?_ GE206.out | refine below_set ?_ GE210.out) | exact HB.out))) : w.heap.size ≤ gb214)); have n7_ := Aside0.mk ((by rw [hg]; exact (below_size (by repeat (first | (with_reducible first | exact HB.out | apply below_alloc | apply pw_below_drewN | apply below_drew1 | refine below_set ?_ GE197.out | refine below_set ?_ GE202.out | refine below_set ?_ GE206.out | refine below_set ?_ GE210.out) | exact HB.out))) : w.heap.size ≤ gb214)); have n8_ := Aside0.mk ((by rw [hg]; exact Nat.ne_of_lt (blk_lt (g := gb197) (o := .cells #[.int .i64 a0_0, .int .i64 a0_1] 30 (0, 0)) (by (with_reducible repeat (first | refine blk_drewN ?_ _ | refine blk_drew ?_ | refine blk_alloc ?_ _)); exact BK197.out)) : gb197 ≠ gb214)); have n9_ := Aside0.mk ((by rw [hg]; exact Nat.ne_of_gt (blk_lt (g := gb197) (o := .cells #[.int .i64 a0_0, .int .i64 a0_1] 30 (0, 0)) (by (with_reducible repeat (first | refine blk_drewN ?_ _ | refine blk_drew ?_ | refine blk_alloc ?_ _)); exact BK197.out)) : gb214 ≠ gb197)); have n10_ := Aside0.mk ((by rw [hg]; exact Nat.ne_of_lt (blk_lt (g := gb202) (o := .cells #[.int .i64 t199, .int .i64 t200] 30 (0, 0)) (by (with_reducible repeat (first | refine blk_drewN ?_ _ | refine blk_drew ?_ | refine blk_alloc ?_ _)); exact BK202.out)) : gb202 ≠ gb214)); have n11_ := Aside0.mk ((by rw [hg]; exact Nat.ne_of_gt (blk_lt (g := gb202) (o := .cells #[.int .i64 t199, .int .i64 t200] 30 (0, 0)) (by (with_reducible repeat (first | refine blk_drewN ?_ _ | refine blk_drew ?_ | refine blk_alloc ?_ _)); exact BK202.out)) : gb214 ≠ gb202)); have n12_ := Aside0.mk ((by rw [hg]; exact Nat.ne_of_lt (blk_lt (g := gb206) (o := .cells #[.int .i64 t203, .int .i64 t204] 30 (0, 0)) (by (with_reducible repeat (first | refine blk_drewN ?_ _ | refine blk_drew ?_ | refine blk_alloc ?_ _)); exact BK206.out)) : gb206 ≠ gb214)); have n13_ := Aside0.mk ((by rw [hg]; exact Nat.ne_of_gt (blk_lt (g := gb206) (o := .cells #[.int .i64 t203, .int .i64 t204] 30 (0, 0)) (by (with_reducible repeat (first | refine blk_drewN ?_ _ | refine blk_drew ?_ | refine blk_alloc ?_ _)); exact BK206.out)) : gb214 ≠ gb206)); have n14_ := Aside0.mk ((by rw [hg]; exact Nat.ne_of_lt (blk_lt (g := gb210) (o := .cells #[.int .i64 t207, .int .i64 t208] 30 (0, 0)) (by (with_reducible repeat (first | refine blk_drewN ?_ _ | refine blk_drew ?_ | refine blk_alloc ?_ _)); exact BK210.out)) : gb210 ≠ gb214)); have n15_ := Aside0.mk ((by rw [hg]; exact Nat.ne_of_gt (blk_lt (g := gb210) (o := .cells #[.int .i64 t207, .int .i64 t208] 30 (0, 0)) (by (with_reducible repeat (first | refine blk_drewN ?_ _ | refine blk_drew ?_ | refine blk_alloc ?_ _)); exact BK210.out)) : gb214 ≠ gb210)); clear BK197; clear BK202; clear BK206; clear BK210; clear HB; have BK197 := n0_; have BK202 := n1_; have BK206 := n2_; have BK210 := n3_; have HB := n4_; have BK214 := n5_; have GW214 := n6_; have GE214 := n7_; have NB197_214 := n8_; have NB214_197 := n9_; have NB202_214 := n10_; have NB214_202 := n11_; have NB206_214 := n12_; have NB214_206 := n13_; have NB210_214 := n14_; have NB214_210 := n15_; clear n0_ n1_ n2_ n3_ n4_ n5_ n6_ n7_ n8_ n9_ n10_ n11_ n12_ n13_ n14_ n15_; clear hb hbox hg; have hnb44 := NB214_197.out; have hnc44 := NB197_214.out; have hnb45 := NB214_202.out; have hnc45 := NB202_214.out; have hnb46 := NB214_206.out; have hnc46 := NB206_214.out; have hnb47 := NB214_210.out; have hnc47 := NB210_214.out; have hcz48_0 : w43.cell? ⟨gb214, 0, none⟩ = some (.int .i64 0) := (blk_cell BK214.out 0).trans rfl; have hcz48_1 : w43.cell? ⟨gb214, 1, none⟩ = some (.int .i64 0) := (blk_cell BK214.out 1).trans rfl; have hfz48_0 := blk_frozen BK214.out 0; have hfz48_1 := blk_frozen BK214.out 1; have hcz49_0 : w43.cell? ⟨gb197, 0, none⟩ = some (.int .i64 a0_0) := (blk_cell BK197.out 0).trans rfl; have hcz49_1 : w43.cell? ⟨gb197, 1, none⟩ = some (.int .i64 a0_1) := (blk_cell BK197.out 1).trans rfl; have hfz49_0 := blk_frozen BK197.out 0; have hfz49_1 := blk_frozen BK197.out 1))
        (try simp only [Act.put, List.setIfInBounds_toArray, List.set_cons_zero, List.set_cons_succ])
        refine wp_gen_ (fun w' => w'.heap[gb197]? = some (.cells #[.int .i64 a0_0, .int .i64 a0_1] 30 (0, 0)) ∧ w'.heap[gb202]? = some (.cells #[.int .i64 t199, .int .i64 t200] 30 (0, 0)) ∧ w'.heap[gb206]? = some (.cells #[.int .i64 t203, .int .i64 t204] 30 (0, 0)) ∧ w'.heap[gb210]? = some (.cells #[.int .i64 t207, .int .i64 t208] 30 (0, 0)) ∧ w'.heap[gb214]? = some (.cells #[.int .i64 t211, .int .i64 t212] 30 (0, 0)) ∧ Below w.heap.size w w') ⟨(by (with_reducible repeat (first | refine blk_drewN ?_ _ | refine blk_drew ?_ | refine blk_alloc ?_ _)); refine blk_far ?_ NB197_214.out _; (with_reducible repeat (first | refine blk_drewN ?_ _ | refine blk_drew ?_ | refine blk_alloc ?_ _)); refine blk_far ?_ NB197_214.out _; (with_reducible repeat (first | refine blk_drewN ?_ _ | refine blk_drew ?_ | refine blk_alloc ?_ _)); exact BK197.out), (by (with_reducible repeat (first | refine blk_drewN ?_ _ | refine blk_drew ?_ | refine blk_alloc ?_ _)); refine blk_far ?_ NB202_214.out _; (with_reducible repeat (first | refine blk_drewN ?_ _ | refine blk_drew ?_ | refine blk_alloc ?_ _)); refine blk_far ?_ NB202_214.out _; (with_reducible repeat (first | refine blk_drewN ?_ _ | refine blk_drew ?_ | refine blk_alloc ?_ _)); exact BK202.out), (by (with_reducible repeat (first | refine blk_drewN ?_ _ | refine blk_drew ?_ | refine blk_alloc ?_ _)); refine blk_far ?_ NB206_214.out _; (with_reducible repeat (first | refine blk_drewN ?_ _ | refine blk_drew ?_ | refine blk_alloc ?_ _)); refine blk_far ?_ NB206_214.out _; (with_reducible repeat (first | refine blk_drewN ?_ _ | refine blk_drew ?_ | refine blk_alloc ?_ _)); exact BK206.out), (by (with_reducible repeat (first | refine blk_drewN ?_ _ | refine blk_drew ?_ | refine blk_alloc ?_ _)); refine blk_far ?_ NB210_214.out _; (with_reducible repeat (first | refine blk_drewN ?_ _ | refine blk_drew ?_ | refine blk_alloc ?_ _)); refine blk_far ?_ NB210_214.out _; (with_reducible repeat (first | refine blk_drewN ?_ _ | refine blk_drew ?_ | refine blk_alloc ?_ _)); exact BK210.out), (by (with_reducible repeat (first | refine blk_drewN ?_ _ | refine blk_drew ?_ | refine blk_alloc ?_ _)); refine blk_put (cs := #[.int .i64 t211, .int .i64 0]) ?_ 1 _ rfl; (with_reducible repeat (first | refine blk_drewN ?_ _ | refine blk_drew ?_ | refine blk_alloc ?_ _)); refine blk_put (cs := #[.int .i64 0, .int .i64 0]) ?_ 0 _ rfl; (with_reducible repeat (first | refine blk_drewN ?_ _ | refine blk_drew ?_ | refine blk_alloc ?_ _)); exact BK214.out), (by repeat (first | (with_reducible first | exact HB.out | apply below_alloc | apply pw_below_drewN | apply below_drew1 | refine below_set ?_ GE197.out | refine below_set ?_ GE202.out | refine below_set ?_ GE206.out | refine below_set ?_ GE210.out | refine below_set ?_ GE214.out) | exact HB.out))⟩ ?_
        clear HB BK197 BK202 BK206 BK210 BK214
        rintro wg4 ⟨BK197, BK202, BK206, BK210, BK214, HB⟩
        replace HB := Aside0.mk HB
        replace BK197 := Aside0.mk BK197
        replace BK202 := Aside0.mk BK202
        replace BK206 := Aside0.mk BK206
        replace BK210 := Aside0.mk BK210
        replace BK214 := Aside0.mk BK214
        have hczg4_gb197_0 : wg4.cell? ⟨gb197, 0, none⟩ = some (.int .i64 a0_0) := (blk_cell BK197.out 0).trans rfl
        have hfzg4_gb197_0 := blk_frozen BK197.out 0
        have hczg4_gb197_1 : wg4.cell? ⟨gb197, 1, none⟩ = some (.int .i64 a0_1) := (blk_cell BK197.out 1).trans rfl
        have hfzg4_gb197_1 := blk_frozen BK197.out 1
        have hczg4_gb202_0 : wg4.cell? ⟨gb202, 0, none⟩ = some (.int .i64 t199) := (blk_cell BK202.out 0).trans rfl
        have hfzg4_gb202_0 := blk_frozen BK202.out 0
        have hczg4_gb202_1 : wg4.cell? ⟨gb202, 1, none⟩ = some (.int .i64 t200) := (blk_cell BK202.out 1).trans rfl
        have hfzg4_gb202_1 := blk_frozen BK202.out 1
        have hczg4_gb206_0 : wg4.cell? ⟨gb206, 0, none⟩ = some (.int .i64 t203) := (blk_cell BK206.out 0).trans rfl
        have hfzg4_gb206_0 := blk_frozen BK206.out 0
        have hczg4_gb206_1 : wg4.cell? ⟨gb206, 1, none⟩ = some (.int .i64 t204) := (blk_cell BK206.out 1).trans rfl
        have hfzg4_gb206_1 := blk_frozen BK206.out 1
        have hczg4_gb210_0 : wg4.cell? ⟨gb210, 0, none⟩ = some (.int .i64 t207) := (blk_cell BK210.out 0).trans rfl
        have hfzg4_gb210_0 := blk_frozen BK210.out 0
        have hczg4_gb210_1 : wg4.cell? ⟨gb210, 1, none⟩ = some (.int .i64 t208) := (blk_cell BK210.out 1).trans rfl
        have hfzg4_gb210_1 := blk_frozen BK210.out 1
        have hczg4_gb214_0 : wg4.cell? ⟨gb214, 0, none⟩ = some (.int .i64 t211) := (blk_cell BK214.out 0).trans rfl
        have hfzg4_gb214_0 := blk_frozen BK214.out 0
        have hczg4_gb214_1 : wg4.cell? ⟨gb214, 1, none⟩ = some (.int .i64 t212) := (blk_cell BK214.out 1).trans rfl
        have hfzg4_gb214_1 := blk_frozen BK214.out 1
        try clear hcz48_0
        try clear hcz48_1
        try clear hcz49_0
        try clear hcz49_1
        try clear hczg3_gb197_0
        try clear hczg3_gb197_1
        try clear hczg3_gb202_0
        try clear hczg3_gb202_1
        try clear hczg3_gb206_0
        try clear hczg3_gb206_1
        try clear hczg3_gb210_0
        try clear hczg3_gb210_1
        try clear hfz48_0
        try clear hfz48_1
        try clear hfz49_0
        try clear hfz49_1
        try clear hfzg3_gb197_0
        try clear hfzg3_gb197_1
        try clear hfzg3_gb202_0
        try clear hfzg3_gb202_1
        try clear hfzg3_gb206_0
        try clear hfzg3_gb206_1
        try clear hfzg3_gb210_0
        try clear hfzg3_gb210_1
        go_upto_region 9 with (first | ((with_reducible refine gate_callee (f := 14) rfl ?_); refine goesL_ (some 79) rfl rfl Try.func14 (by kernel_rfl) rfl #[.agg #[.int .i64 a0_0, .int .i64 a0_1], .int .i64 a3, .int .i64 a5, .int .i64 a6] rfl (by (try simp only [List.map_toArray, List.map_cons, List.map_nil]); first | done | rfl | (simp only [List.length_drop, List.length_take]; rfl)) ?_; (with_reducible refine (xmp_Cut.calls a0_0 a0_1 a3 a5 a6 t215 t216 t217 _ A18.out).mono ?_); rintro e w50 ⟨rfl, hb⟩; refine ⟨_, rfl, ?_⟩; have n0_ := Aside0.mk (blk_below (g := gb197) (o := .cells #[.int .i64 a0_0, .int .i64 a0_1] 30 (0, 0)) BK197.out hb); have n1_ := Aside0.mk (blk_below (g := gb202) (o := .cells #[.int .i64 t199, .int .i64 t200] 30 (0, 0)) BK202.out hb); have n2_ := Aside0.mk (blk_below (g := gb206) (o := .cells #[.int .i64 t203, .int .i64 t204] 30 (0, 0)) BK206.out hb); have n3_ := Aside0.mk (blk_below (g := gb210) (o := .cells #[.int .i64 t207, .int .i64 t208] 30 (0, 0)) BK210.out hb); have n4_ := Aside0.mk (blk_below (g := gb214) (o := .cells #[.int .i64 t211, .int .i64 t212] 30 (0, 0)) BK214.out hb); have n5_ := Aside0.mk (below_step (by repeat (first | (with_reducible first | exact HB.out | apply below_alloc | apply pw_below_drewN | apply below_drew1 | refine below_set ?_ GE197.out | refine below_set ?_ GE202.out | refine below_set ?_ GE206.out | refine below_set ?_ GE210.out | refine below_set ?_ GE214.out) | exact HB.out)) hb); clear BK197; clear BK202; clear BK206; clear BK210; clear BK214; clear HB; have BK197 := n0_; have BK202 := n1_; have BK206 := n2_; have BK210 := n3_; have BK214 := n4_; have HB := n5_; clear n0_ n1_ n2_ n3_ n4_ n5_; (try clear hb); (try clear hb2); (try clear hk); (try clear hi)) | ((with_reducible refine gate_dst (N := 24) rfl ?_); (try (refine gate_guard (by rfl) ?_; dsimp only)); refine box_event ?hg (N := 24) ?hd (cs := #[.int .i64 0, .int .i64 0]) (t := 30) ?hr ?_; (case hd => rfl); (case hg => rfl); (case hr => first | (go_simp; done) | (go_simp; rfl)); intro gb218 hg w51 hbox hb; have n0_ := Aside0.mk (blk_below (g := gb197) (o := .cells #[.int .i64 a0_0, .int .i64 a0_1] 30 (0, 0)) (by (with_reducible repeat (first | refine blk_drewN ?_ _ | refine blk_drew ?_ | refine blk_alloc ?_ _)); exact BK197.out) hb); have n1_ := Aside0.mk (blk_below (g := gb202) (o := .cells #[.int .i64 t199, .int .i64 t200] 30 (0, 0)) (by (with_reducible repeat (first | refine blk_drewN ?_ _ | refine blk_drew ?_ | refine blk_alloc ?_ _)); exact BK202.out) hb); have n2_ := Aside0.mk (blk_below (g := gb206) (o := .cells #[.int .i64 t203, .int .i64 t204] 30 (0, 0)) (by (with_reducible repeat (first | refine blk_drewN ?_ _ | refine blk_drew ?_ | refine blk_alloc ?_ _)); exact BK206.out) hb); have n3_ := Aside0.mk (blk_below (g := gb210) (o := .cells #[.int .i64 t207, .int .i64 t208] 30 (0, 0)) (by (with_reducible repeat (first | refine blk_drewN ?_ _ | refine blk_drew ?_ | refine blk_alloc ?_ _)); exact BK210.out) hb); have n4_ := Aside0.mk (blk_below (g := gb214) (o := .cells #[.int .i64 t211, .int .i64 t212] 30 (0, 0)) (by (with_reducible repeat (first | refine blk_drewN ?_ _ | refine blk_drew ?_ | refine blk_alloc ?_ _)); exact BK214.out) hb); have n5_ := Aside0.mk (below_step (by repeat (first | (with_reducible first | exact HB.out | apply below_alloc | apply pw_below_drewN | apply below_drew1 | refine below_set ?_ GE197.out | refine below_set ?_ GE202.out | refine below_set ?_ GE206.out | refine below_set ?_ GE210.out | refine below_set ?_ GE214.out) | exact HB.out)) hb); have n6_ := Aside0.mk (hbox); have n7_ := Aside0.mk ((by rw [hg]; exact (below_size (by repeat (first | (with_reducible first | exact HB.out | apply below_alloc | apply pw_below_drewN | apply below_drew1 | refine below_set ?_ GE197.out | refine below_set ?_ GE202.out | refine below_set ?_ GE206.out | refine below_set ?_ GE210.out | refine below_set ?_ GE214.out) | exact HB.out))) : w.heap.size ≤ gb218)); have n8_ := Aside0.mk ((by rw [hg]; exact (below_size (by repeat (first | (with_reducible first | exact HB.out | apply below_alloc | apply pw_below_drewN | apply below_drew1 | refine below_set ?_ GE197.out | refine below_set ?_ GE202.out | refine below_set ?_ GE206.out | refine below_set ?_ GE210.out | refine below_set ?_ GE214.out) | exact HB.out))) : w.heap.size ≤ gb218)); have n9_ := Aside0.mk ((by rw [hg]; exact Nat.ne_of_lt (blk_lt (g := gb197) (o := .cells #[.int .i64 a0_0, .int .i64 a0_1] 30 (0, 0)) (by (with_reducible repeat (first | refine blk_drewN ?_ _ | refine blk_drew ?_ | refine blk_alloc ?_ _)); exact BK197.out)) : gb197 ≠ gb218)); have n10_ := Aside0.mk ((by rw [hg]; exact Nat.ne_of_gt (blk_lt (g := gb197) (o := .cells #[.int .i64 a0_0, .int .i64 a0_1] 30 (0, 0)) (by (with_reducible repeat (first | refine blk_drewN ?_ _ | refine blk_drew ?_ | refine blk_alloc ?_ _)); exact BK197.out)) : gb218 ≠ gb197)); have n11_ := Aside0.mk ((by rw [hg]; exact Nat.ne_of_lt (blk_lt (g := gb202) (o := .cells #[.int .i64 t199, .int .i64 t200] 30 (0, 0)) (by (with_reducible repeat (first | refine blk_drewN ?_ _ | refine blk_drew ?_ | refine blk_alloc ?_ _)); exact BK202.out)) : gb202 ≠ gb218)); have n12_ := Aside0.mk ((by rw [hg]; exact Nat.ne_of_gt (blk_lt (g := gb202) (o := .cells #[.int .i64 t199, .int .i64 t200] 30 (0, 0)) (by (with_reducible repeat (first | refine blk_drewN ?_ _ | refine blk_drew ?_ | refine blk_alloc ?_ _)); exact BK202.out)) : gb218 ≠ gb202)); have n13_ := Aside0.mk ((by rw [hg]; exact Nat.ne_of_lt (blk_lt (g := gb206) (o := .cells #[.int .i64 t203, .int .i64 t204] 30 (0, 0)) (by (with_reducible repeat (first | refine blk_drewN ?_ _ | refine blk_drew ?_ | refine blk_alloc ?_ _)); exact BK206.out)) : gb206 ≠ gb218)); have n14_ := Aside0.mk ((by rw [hg]; exact Nat.ne_of_gt (blk_lt (g := gb206) (o := .cells #[.int .i64 t203, .int .i64 t204] 30 (0, 0)) (by (with_reducible repeat (first | refine blk_drewN ?_ _ | refine blk_drew ?_ | refine blk_alloc ?_ _)); exact BK206.out)) : gb218 ≠ gb206)); have n15_ := Aside0.mk ((by rw [hg]; exact Nat.ne_of_lt (blk_lt (g := gb210) (o := .cells #[.int .i64 t207, .int .i64 t208] 30 (0, 0)) (by (with_reducible repeat (first | refine blk_drewN ?_ _ | refine blk_drew ?_ | refine blk_alloc ?_ _)); exact BK210.out)) : gb210 ≠ gb218)); have n16_ := Aside0.mk ((by rw [hg]; exact Nat.ne_of_gt (blk_lt (g := gb210) (o := .cells #[.int .i64 t207, .int .i64 t208] 30 (0, 0)) (by (with_reducible repeat (first | refine blk_drewN ?_ _ | refine blk_drew ?_ | refine blk_alloc ?_ _)); exact BK210.out)) : gb218 ≠ gb210)); have n17_ := Aside0.mk ((by rw [hg]; exact Nat.ne_of_lt (blk_lt (g := gb214) (o := .cells #[.int .i64 t211, .int .i64 t212] 30 (0, 0)) (by (with_reducible repeat (first | refine blk_drewN ?_ _ | refine blk_drew ?_ | refine blk_alloc ?_ _)); exact BK214.out)) : gb214 ≠ gb218)); have n18_ := Aside0.mk ((by rw [hg]; exact Nat.ne_of_gt (blk_lt (g := gb214) (o := .cells #[.int .i64 t211, .int .i64 t212] 30 (0, 0)) (by (with_reducible repeat (first | refine blk_drewN ?_ _ | refine blk_drew ?_ | refine blk_alloc ?_ _)); exact BK214.out)) : gb218 ≠ gb214)); clear BK197; clear BK202; clear BK206; clear BK210; clear BK214; clear HB; have BK197 := n0_; have BK202 := n1_; have BK206 := n2_; have BK210 := n3_; have BK214 := n4_; have HB := n5_; have BK218 := n6_; have GW218 := n7_; have GE218 := n8_; have NB197_218 := n9_; have NB218_197 := n10_; have NB202_218 := n11_; have NB218_202 := n12_; have NB206_218 := n13_; have NB218_206 := n14_; have NB210_218 := n15_; have NB218_210 := n16_; have NB214_218 := n17_; have NB218_214 := n18_; clear n0_ n1_ n2_ n3_ n4_ n5_ n6_ n7_ n8_ n9_ n10_ n11_ n12_ n13_ n14_ n15_ n16_ n17_ n18_; clear hb hbox hg; have hnb52 := NB218_197.out; have hnc52 := NB197_218.out; have hnb53 := NB218_202.out; have hnc53 := NB202_218.out; have hnb54 := NB218_206.out; have hnc54 := NB206_218.out; have hnb55 := NB218_210.out; have hnc55 := NB210_218.out; have hnb56 := NB218_214.out; have hnc56 := NB214_218.out; have hcz57_0 : w51.cell? ⟨gb218, 0, none⟩ = some (.int .i64 0) := (blk_cell BK218.out 0).trans rfl; have hcz57_1 : w51.cell? ⟨gb218, 1, none⟩ = some (.int .i64 0) := (blk_cell BK218.out 1).trans rfl; have hfz57_0 := blk_frozen BK218.out 0; have hfz57_1 := blk_frozen BK218.out 1; have hcz58_0 : w51.cell? ⟨gb197, 0, none⟩ = some (.int .i64 a0_0) := (blk_cell BK197.out 0).trans rfl; have hcz58_1 : w51.cell? ⟨gb197, 1, none⟩ = some (.int .i64 a0_1) := (blk_cell BK197.out 1).trans rfl; have hfz58_0 := blk_frozen BK197.out 0; have hfz58_1 := blk_frozen BK197.out 1))
        (try simp only [Act.put, List.setIfInBounds_toArray, List.set_cons_zero, List.set_cons_succ])
        refine wp_gen_ (fun w' => w'.heap[gb197]? = some (.cells #[.int .i64 a0_0, .int .i64 a0_1] 30 (0, 0)) ∧ w'.heap[gb202]? = some (.cells #[.int .i64 t199, .int .i64 t200] 30 (0, 0)) ∧ w'.heap[gb206]? = some (.cells #[.int .i64 t203, .int .i64 t204] 30 (0, 0)) ∧ w'.heap[gb210]? = some (.cells #[.int .i64 t207, .int .i64 t208] 30 (0, 0)) ∧ w'.heap[gb214]? = some (.cells #[.int .i64 t211, .int .i64 t212] 30 (0, 0)) ∧ w'.heap[gb218]? = some (.cells #[.int .i64 t215, .int .i64 t216] 30 (0, 0)) ∧ Below w.heap.size w w') ⟨(by (with_reducible repeat (first | refine blk_drewN ?_ _ | refine blk_drew ?_ | refine blk_alloc ?_ _)); refine blk_far ?_ NB197_218.out _; (with_reducible repeat (first | refine blk_drewN ?_ _ | refine blk_drew ?_ | refine blk_alloc ?_ _)); refine blk_far ?_ NB197_218.out _; (with_reducible repeat (first | refine blk_drewN ?_ _ | refine blk_drew ?_ | refine blk_alloc ?_ _)); exact BK197.out), (by (with_reducible repeat (first | refine blk_drewN ?_ _ | refine blk_drew ?_ | refine blk_alloc ?_ _)); refine blk_far ?_ NB202_218.out _; (with_reducible repeat (first | refine blk_drewN ?_ _ | refine blk_drew ?_ | refine blk_alloc ?_ _)); refine blk_far ?_ NB202_218.out _; (with_reducible repeat (first | refine blk_drewN ?_ _ | refine blk_drew ?_ | refine blk_alloc ?_ _)); exact BK202.out), (by (with_reducible repeat (first | refine blk_drewN ?_ _ | refine blk_drew ?_ | refine blk_alloc ?_ _)); refine blk_far ?_ NB206_218.out _; (with_reducible repeat (first | refine blk_drewN ?_ _ | refine blk_drew ?_ | refine blk_alloc ?_ _)); refine blk_far ?_ NB206_218.out _; (with_reducible repeat (first | refine blk_drewN ?_ _ | refine blk_drew ?_ | refine blk_alloc ?_ _)); exact BK206.out), (by (with_reducible repeat (first | refine blk_drewN ?_ _ | refine blk_drew ?_ | refine blk_alloc ?_ _)); refine blk_far ?_ NB210_218.out _; (with_reducible repeat (first | refine blk_drewN ?_ _ | refine blk_drew ?_ | refine blk_alloc ?_ _)); refine blk_far ?_ NB210_218.out _; (with_reducible repeat (first | refine blk_drewN ?_ _ | refine blk_drew ?_ | refine blk_alloc ?_ _)); exact BK210.out), (by (with_reducible repeat (first | refine blk_drewN ?_ _ | refine blk_drew ?_ | refine blk_alloc ?_ _)); refine blk_far ?_ NB214_218.out _; (with_reducible repeat (first | refine blk_drewN ?_ _ | refine blk_drew ?_ | refine blk_alloc ?_ _)); refine blk_far ?_ NB214_218.out _; (with_reducible repeat (first | refine blk_drewN ?_ _ | refine blk_drew ?_ | refine blk_alloc ?_ _)); exact BK214.out), (by (with_reducible repeat (first | refine blk_drewN ?_ _ | refine blk_drew ?_ | refine blk_alloc ?_ _)); refine blk_put (cs := #[.int .i64 t215, .int .i64 0]) ?_ 1 _ rfl; (with_reducible repeat (first | refine blk_drewN ?_ _ | refine blk_drew ?_ | refine blk_alloc ?_ _)); refine blk_put (cs := #[.int .i64 0, .int .i64 0]) ?_ 0 _ rfl; (with_reducible repeat (first | refine blk_drewN ?_ _ | refine blk_drew ?_ | refine blk_alloc ?_ _)); exact BK218.out), (by repeat (first | (with_reducible first | exact HB.out | apply below_alloc | apply pw_below_drewN | apply below_drew1 | refine below_set ?_ GE197.out | refine below_set ?_ GE202.out | refine below_set ?_ GE206.out | refine below_set ?_ GE210.out | refine below_set ?_ GE214.out | refine below_set ?_ GE218.out) | exact HB.out))⟩ ?_
        clear HB BK197 BK202 BK206 BK210 BK214 BK218
        rintro wg5 ⟨BK197, BK202, BK206, BK210, BK214, BK218, HB⟩
        replace HB := Aside0.mk HB
        replace BK197 := Aside0.mk BK197
        replace BK202 := Aside0.mk BK202
        replace BK206 := Aside0.mk BK206
        replace BK210 := Aside0.mk BK210
        replace BK214 := Aside0.mk BK214
        replace BK218 := Aside0.mk BK218
        have hczg5_gb197_0 : wg5.cell? ⟨gb197, 0, none⟩ = some (.int .i64 a0_0) := (blk_cell BK197.out 0).trans rfl
        have hfzg5_gb197_0 := blk_frozen BK197.out 0
        have hczg5_gb197_1 : wg5.cell? ⟨gb197, 1, none⟩ = some (.int .i64 a0_1) := (blk_cell BK197.out 1).trans rfl
        have hfzg5_gb197_1 := blk_frozen BK197.out 1
        have hczg5_gb202_0 : wg5.cell? ⟨gb202, 0, none⟩ = some (.int .i64 t199) := (blk_cell BK202.out 0).trans rfl
        have hfzg5_gb202_0 := blk_frozen BK202.out 0
        have hczg5_gb202_1 : wg5.cell? ⟨gb202, 1, none⟩ = some (.int .i64 t200) := (blk_cell BK202.out 1).trans rfl
        have hfzg5_gb202_1 := blk_frozen BK202.out 1
        have hczg5_gb206_0 : wg5.cell? ⟨gb206, 0, none⟩ = some (.int .i64 t203) := (blk_cell BK206.out 0).trans rfl
        have hfzg5_gb206_0 := blk_frozen BK206.out 0
        have hczg5_gb206_1 : wg5.cell? ⟨gb206, 1, none⟩ = some (.int .i64 t204) := (blk_cell BK206.out 1).trans rfl
        have hfzg5_gb206_1 := blk_frozen BK206.out 1
        have hczg5_gb210_0 : wg5.cell? ⟨gb210, 0, none⟩ = some (.int .i64 t207) := (blk_cell BK210.out 0).trans rfl
        have hfzg5_gb210_0 := blk_frozen BK210.out 0
        have hczg5_gb210_1 : wg5.cell? ⟨gb210, 1, none⟩ = some (.int .i64 t208) := (blk_cell BK210.out 1).trans rfl
        have hfzg5_gb210_1 := blk_frozen BK210.out 1
        have hczg5_gb214_0 : wg5.cell? ⟨gb214, 0, none⟩ = some (.int .i64 t211) := (blk_cell BK214.out 0).trans rfl
        have hfzg5_gb214_0 := blk_frozen BK214.out 0
        have hczg5_gb214_1 : wg5.cell? ⟨gb214, 1, none⟩ = some (.int .i64 t212) := (blk_cell BK214.out 1).trans rfl
        have hfzg5_gb214_1 := blk_frozen BK214.out 1
        have hczg5_gb218_0 : wg5.cell? ⟨gb218, 0, none⟩ = some (.int .i64 t215) := (blk_cell BK218.out 0).trans rfl
        have hfzg5_gb218_0 := blk_frozen BK218.out 0
        have hczg5_gb218_1 : wg5.cell? ⟨gb218, 1, none⟩ = some (.int .i64 t216) := (blk_cell BK218.out 1).trans rfl
        have hfzg5_gb218_1 := blk_frozen BK218.out 1
        try clear hcz57_0
        try clear hcz57_1
        try clear hcz58_0
        try clear hcz58_1
        try clear hczg4_gb197_0
        try clear hczg4_gb197_1
        try clear hczg4_gb202_0
        try clear hczg4_gb202_1
        try clear hczg4_gb206_0
        try clear hczg4_gb206_1
        try clear hczg4_gb210_0
        try clear hczg4_gb210_1
        try clear hczg4_gb214_0
        try clear hczg4_gb214_1
        try clear hfz57_0
        try clear hfz57_1
        try clear hfz58_0
        try clear hfz58_1
        try clear hfzg4_gb197_0
        try clear hfzg4_gb197_1
        try clear hfzg4_gb202_0
        try clear hfzg4_gb202_1
        try clear hfzg4_gb206_0
        try clear hfzg4_gb206_1
        try clear hfzg4_gb210_0
        try clear hfzg4_gb210_1
        try clear hfzg4_gb214_0
        try clear hfzg4_gb214_1
        go_upto_region 10 with (first | ((with_reducible refine gate_callee (f := 18) rfl ?_); refine goesL_ (some 87) rfl rfl Try.func18 (by kernel_rfl) rfl #[.agg #[.int .i64 a0_0, .int .i64 a0_1], .int .i64 a3, .int .i64 a5, .int .i64 a6] rfl (by (try simp only [List.map_toArray, List.map_cons, List.map_nil]); first | done | rfl | (simp only [List.length_drop, List.length_take]; rfl)) ?_; (with_reducible refine (fourinhandref15_Cut.calls kj8 a0_0 a0_1 a3 a5 a6 t219 t220 t221 _ A19.out).mono ?_); rintro e w59 ⟨rfl, hb⟩; refine ⟨_, rfl, ?_⟩; have n0_ := Aside0.mk (blk_below (g := gb197) (o := .cells #[.int .i64 a0_0, .int .i64 a0_1] 30 (0, 0)) BK197.out hb); have n1_ := Aside0.mk (blk_below (g := gb202) (o := .cells #[.int .i64 t199, .int .i64 t200] 30 (0, 0)) BK202.out hb); have n2_ := Aside0.mk (blk_below (g := gb206) (o := .cells #[.int .i64 t203, .int .i64 t204] 30 (0, 0)) BK206.out hb); have n3_ := Aside0.mk (blk_below (g := gb210) (o := .cells #[.int .i64 t207, .int .i64 t208] 30 (0, 0)) BK210.out hb); have n4_ := Aside0.mk (blk_below (g := gb214) (o := .cells #[.int .i64 t211, .int .i64 t212] 30 (0, 0)) BK214.out hb); have n5_ := Aside0.mk (blk_below (g := gb218) (o := .cells #[.int .i64 t215, .int .i64 t216] 30 (0, 0)) BK218.out hb); have n6_ := Aside0.mk (below_step (by repeat (first | (with_reducible first | exact HB.out | apply below_alloc | apply pw_below_drewN | apply below_drew1 | refine below_set ?_ GE197.out | refine below_set ?_ GE202.out | refine below_set ?_ GE206.out | refine below_set ?_ GE210.out | refine below_set ?_ GE214.out | refine below_set ?_ GE218.out) | exact HB.out)) hb); clear BK197; clear BK202; clear BK206; clear BK210; clear BK214; clear BK218; clear HB; have BK197 := n0_; have BK202 := n1_; have BK206 := n2_; have BK210 := n3_; have BK214 := n4_; have BK218 := n5_; have HB := n6_; clear n0_ n1_ n2_ n3_ n4_ n5_ n6_; (try clear hb); (try clear hb2); (try clear hk); (try clear hi)) | ((with_reducible refine gate_dst (N := 26) rfl ?_); (try (refine gate_guard (by rfl) ?_; dsimp only)); refine box_event ?hg (N := 26) ?hd (cs := #[.int .i64 0, .int .i64 0]) (t := 30) ?hr ?_; (case hd => rfl); (case hg => rfl); (case hr => first | (go_simp; done) | (go_simp; rfl)); intro gb222 hg w60 hbox hb; have n0_ := Aside0.mk (blk_below (g := gb197) (o := .cells #[.int .i64 a0_0, .int .i64 a0_1] 30 (0, 0)) (by (with_reducible repeat (first | refine blk_drewN ?_ _ | refine blk_drew ?_ | refine blk_alloc ?_ _)); exact BK197.out) hb); have n1_ := Aside0.mk (blk_below (g := gb202) (o := .cells #[.int .i64 t199, .int .i64 t200] 30 (0, 0)) (by (with_reducible repeat (first | refine blk_drewN ?_ _ | refine blk_drew ?_ | refine blk_alloc ?_ _)); exact BK202.out) hb); have n2_ := Aside0.mk (blk_below (g := gb206) (o := .cells #[.int .i64 t203, .int .i64 t204] 30 (0, 0)) (by (with_reducible repeat (first | refine blk_drewN ?_ _ | refine blk_drew ?_ | refine blk_alloc ?_ _)); exact BK206.out) hb); have n3_ := Aside0.mk (blk_below (g := gb210) (o := .cells #[.int .i64 t207, .int .i64 t208] 30 (0, 0)) (by (with_reducible repeat (first | refine blk_drewN ?_ _ | refine blk_drew ?_ | refine blk_alloc ?_ _)); exact BK210.out) hb); have n4_ := Aside0.mk (blk_below (g := gb214) (o := .cells #[.int .i64 t211, .int .i64 t212] 30 (0, 0)) (by (with_reducible repeat (first | refine blk_drewN ?_ _ | refine blk_drew ?_ | refine blk_alloc ?_ _)); exact BK214.out) hb); have n5_ := Aside0.mk (blk_below (g := gb218) (o := .cells #[.int .i64 t215, .int .i64 t216] 30 (0, 0)) (by (with_reducible repeat (first | refine blk_drewN ?_ _ | refine blk_drew ?_ | refine blk_alloc ?_ _)); exact BK218.out) hb); have n6_ := Aside0.mk (below_step (by repeat (first | (with_reducible first | exact HB.out | apply below_alloc | apply pw_below_drewN | apply below_drew1 | refine below_set ?_ GE197.out | refine below_set ?_ GE202.out | refine below_set ?_ GE206.out | refine below_set ?_ GE210.out | refine below_set ?_ GE214.out | refine below_set ?_ GE218.out) | exact HB.out)) hb); have n7_ := Aside0.mk (hbox); have n8_ := Aside0.mk ((by rw [hg]; exact (below_size (by repeat (first | (with_reducible first | exact HB.out | apply below_alloc | apply pw_below_drewN | apply below_drew1 | refine below_set ?_ GE197.out | refine below_set ?_ GE202.out | refine below_set ?_ GE206.out | refine below_set ?_ GE210.out | refine below_set ?_ GE214.out | refine below_set ?_ GE218.out) | exact HB.out))) : w.heap.size ≤ gb222)); have n9_ := Aside0.mk ((by rw [hg]; exact (below_size (by repeat (first | (with_reducible first | exact HB.out | apply below_alloc | apply pw_below_drewN | apply below_drew1 | refine below_set ?_ GE197.out | refine below_set ?_ GE202.out | refine below_set ?_ GE206.out | refine below_set ?_ GE210.out | refine below_set ?_ GE214.out | refine below_set ?_ GE218.out) | exact HB.out))) : w.heap.size ≤ gb222)); have n10_ := Aside0.mk ((by rw [hg]; exact Nat.ne_of_lt (blk_lt (g := gb197) (o := .cells #[.int .i64 a0_0, .int .i64 a0_1] 30 (0, 0)) (by (with_reducible repeat (first | refine blk_drewN ?_ _ | refine blk_drew ?_ | refine blk_alloc ?_ _)); exact BK197.out)) : gb197 ≠ gb222)); have n11_ := Aside0.mk ((by rw [hg]; exact Nat.ne_of_gt (blk_lt (g := gb197) (o := .cells #[.int .i64 a0_0, .int .i64 a0_1] 30 (0, 0)) (by (with_reducible repeat (first | refine blk_drewN ?_ _ | refine blk_drew ?_ | refine blk_alloc ?_ _)); exact BK197.out)) : gb222 ≠ gb197)); have n12_ := Aside0.mk ((by rw [hg]; exact Nat.ne_of_lt (blk_lt (g := gb202) (o := .cells #[.int .i64 t199, .int .i64 t200] 30 (0, 0)) (by (with_reducible repeat (first | refine blk_drewN ?_ _ | refine blk_drew ?_ | refine blk_alloc ?_ _)); exact BK202.out)) : gb202 ≠ gb222)); have n13_ := Aside0.mk ((by rw [hg]; exact Nat.ne_of_gt (blk_lt (g := gb202) (o := .cells #[.int .i64 t199, .int .i64 t200] 30 (0, 0)) (by (with_reducible repeat (first | refine blk_drewN ?_ _ | refine blk_drew ?_ | refine blk_alloc ?_ _)); exact BK202.out)) : gb222 ≠ gb202)); have n14_ := Aside0.mk ((by rw [hg]; exact Nat.ne_of_lt (blk_lt (g := gb206) (o := .cells #[.int .i64 t203, .int .i64 t204] 30 (0, 0)) (by (with_reducible repeat (first | refine blk_drewN ?_ _ | refine blk_drew ?_ | refine blk_alloc ?_ _)); exact BK206.out)) : gb206 ≠ gb222)); have n15_ := Aside0.mk ((by rw [hg]; exact Nat.ne_of_gt (blk_lt (g := gb206) (o := .cells #[.int .i64 t203, .int .i64 t204] 30 (0, 0)) (by (with_reducible repeat (first | refine blk_drewN ?_ _ | refine blk_drew ?_ | refine blk_alloc ?_ _)); exact BK206.out)) : gb222 ≠ gb206)); have n16_ := Aside0.mk ((by rw [hg]; exact Nat.ne_of_lt (blk_lt (g := gb210) (o := .cells #[.int .i64 t207, .int .i64 t208] 30 (0, 0)) (by (with_reducible repeat (first | refine blk_drewN ?_ _ | refine blk_drew ?_ | refine blk_alloc ?_ _)); exact BK210.out)) : gb210 ≠ gb222)); have n17_ := Aside0.mk ((by rw [hg]; exact Nat.ne_of_gt (blk_lt (g := gb210) (o := .cells #[.int .i64 t207, .int .i64 t208] 30 (0, 0)) (by (with_reducible repeat (first | refine blk_drewN ?_ _ | refine blk_drew ?_ | refine blk_alloc ?_ _)); exact BK210.out)) : gb222 ≠ gb210)); have n18_ := Aside0.mk ((by rw [hg]; exact Nat.ne_of_lt (blk_lt (g := gb214) (o := .cells #[.int .i64 t211, .int .i64 t212] 30 (0, 0)) (by (with_reducible repeat (first | refine blk_drewN ?_ _ | refine blk_drew ?_ | refine blk_alloc ?_ _)); exact BK214.out)) : gb214 ≠ gb222)); have n19_ := Aside0.mk ((by rw [hg]; exact Nat.ne_of_gt (blk_lt (g := gb214) (o := .cells #[.int .i64 t211, .int .i64 t212] 30 (0, 0)) (by (with_reducible repeat (first | refine blk_drewN ?_ _ | refine blk_drew ?_ | refine blk_alloc ?_ _)); exact BK214.out)) : gb222 ≠ gb214)); have n20_ := Aside0.mk ((by rw [hg]; exact Nat.ne_of_lt (blk_lt (g := gb218) (o := .cells #[.int .i64 t215, .int .i64 t216] 30 (0, 0)) (by (with_reducible repeat (first | refine blk_drewN ?_ _ | refine blk_drew ?_ | refine blk_alloc ?_ _)); exact BK218.out)) : gb218 ≠ gb222)); have n21_ := Aside0.mk ((by rw [hg]; exact Nat.ne_of_gt (blk_lt (g := gb218) (o := .cells #[.int .i64 t215, .int .i64 t216] 30 (0, 0)) (by (with_reducible repeat (first | refine blk_drewN ?_ _ | refine blk_drew ?_ | refine blk_alloc ?_ _)); exact BK218.out)) : gb222 ≠ gb218)); clear BK197; clear BK202; clear BK206; clear BK210; clear BK214; clear BK218; clear HB; have BK197 := n0_; have BK202 := n1_; have BK206 := n2_; have BK210 := n3_; have BK214 := n4_; have BK218 := n5_; have HB := n6_; have BK222 := n7_; have GW222 := n8_; have GE222 := n9_; have NB197_222 := n10_; have NB222_197 := n11_; have NB202_222 := n12_; have NB222_202 := n13_; have NB206_222 := n14_; have NB222_206 := n15_; have NB210_222 := n16_; have NB222_210 := n17_; have NB214_222 := n18_; have NB222_214 := n19_; have NB218_222 := n20_; have NB222_218 := n21_; clear n0_ n1_ n2_ n3_ n4_ n5_ n6_ n7_ n8_ n9_ n10_ n11_ n12_ n13_ n14_ n15_ n16_ n17_ n18_ n19_ n20_ n21_; clear hb hbox hg; have hnb61 := NB222_197.out; have hnc61 := NB197_222.out; have hnb62 := NB222_202.out; have hnc62 := NB202_222.out; have hnb63 := NB222_206.out; have hnc63 := NB206_222.out; have hnb64 := NB222_210.out; have hnc64 := NB210_222.out; have hnb65 := NB222_214.out; have hnc65 := NB214_222.out; have hnb66 := NB222_218.out; have hnc66 := NB218_222.out; have hcz67_0 : w60.cell? ⟨gb222, 0, none⟩ = some (.int .i64 0) := (blk_cell BK222.out 0).trans rfl; have hcz67_1 : w60.cell? ⟨gb222, 1, none⟩ = some (.int .i64 0) := (blk_cell BK222.out 1).trans rfl; have hfz67_0 := blk_frozen BK222.out 0; have hfz67_1 := blk_frozen BK222.out 1; have hcz68_0 : w60.cell? ⟨gb197, 0, none⟩ = some (.int .i64 a0_0) := (blk_cell BK197.out 0).trans rfl; have hcz68_1 : w60.cell? ⟨gb197, 1, none⟩ = some (.int .i64 a0_1) := (blk_cell BK197.out 1).trans rfl; have hfz68_0 := blk_frozen BK197.out 0; have hfz68_1 := blk_frozen BK197.out 1))
        (try simp only [Act.put, List.setIfInBounds_toArray, List.set_cons_zero, List.set_cons_succ])
        refine wp_gen_ (fun w' => w'.heap[gb197]? = some (.cells #[.int .i64 a0_0, .int .i64 a0_1] 30 (0, 0)) ∧ w'.heap[gb202]? = some (.cells #[.int .i64 t199, .int .i64 t200] 30 (0, 0)) ∧ w'.heap[gb206]? = some (.cells #[.int .i64 t203, .int .i64 t204] 30 (0, 0)) ∧ w'.heap[gb210]? = some (.cells #[.int .i64 t207, .int .i64 t208] 30 (0, 0)) ∧ w'.heap[gb214]? = some (.cells #[.int .i64 t211, .int .i64 t212] 30 (0, 0)) ∧ w'.heap[gb218]? = some (.cells #[.int .i64 t215, .int .i64 t216] 30 (0, 0)) ∧ w'.heap[gb222]? = some (.cells #[.int .i64 t219, .int .i64 t220] 30 (0, 0)) ∧ Below w.heap.size w w') ⟨(by (with_reducible repeat (first | refine blk_drewN ?_ _ | refine blk_drew ?_ | refine blk_alloc ?_ _)); refine blk_far ?_ NB197_222.out _; (with_reducible repeat (first | refine blk_drewN ?_ _ | refine blk_drew ?_ | refine blk_alloc ?_ _)); refine blk_far ?_ NB197_222.out _; (with_reducible repeat (first | refine blk_drewN ?_ _ | refine blk_drew ?_ | refine blk_alloc ?_ _)); exact BK197.out), (by (with_reducible repeat (first | refine blk_drewN ?_ _ | refine blk_drew ?_ | refine blk_alloc ?_ _)); refine blk_far ?_ NB202_222.out _; (with_reducible repeat (first | refine blk_drewN ?_ _ | refine blk_drew ?_ | refine blk_alloc ?_ _)); refine blk_far ?_ NB202_222.out _; (with_reducible repeat (first | refine blk_drewN ?_ _ | refine blk_drew ?_ | refine blk_alloc ?_ _)); exact BK202.out), (by (with_reducible repeat (first | refine blk_drewN ?_ _ | refine blk_drew ?_ | refine blk_alloc ?_ _)); refine blk_far ?_ NB206_222.out _; (with_reducible repeat (first | refine blk_drewN ?_ _ | refine blk_drew ?_ | refine blk_alloc ?_ _)); refine blk_far ?_ NB206_222.out _; (with_reducible repeat (first | refine blk_drewN ?_ _ | refine blk_drew ?_ | refine blk_alloc ?_ _)); exact BK206.out), (by (with_reducible repeat (first | refine blk_drewN ?_ _ | refine blk_drew ?_ | refine blk_alloc ?_ _)); refine blk_far ?_ NB210_222.out _; (with_reducible repeat (first | refine blk_drewN ?_ _ | refine blk_drew ?_ | refine blk_alloc ?_ _)); refine blk_far ?_ NB210_222.out _; (with_reducible repeat (first | refine blk_drewN ?_ _ | refine blk_drew ?_ | refine blk_alloc ?_ _)); exact BK210.out), (by (with_reducible repeat (first | refine blk_drewN ?_ _ | refine blk_drew ?_ | refine blk_alloc ?_ _)); refine blk_far ?_ NB214_222.out _; (with_reducible repeat (first | refine blk_drewN ?_ _ | refine blk_drew ?_ | refine blk_alloc ?_ _)); refine blk_far ?_ NB214_222.out _; (with_reducible repeat (first | refine blk_drewN ?_ _ | refine blk_drew ?_ | refine blk_alloc ?_ _)); exact BK214.out), (by (with_reducible repeat (first | refine blk_drewN ?_ _ | refine blk_drew ?_ | refine blk_alloc ?_ _)); refine blk_far ?_ NB218_222.out _; (with_reducible repeat (first | refine blk_drewN ?_ _ | refine blk_drew ?_ | refine blk_alloc ?_ _)); refine blk_far ?_ NB218_222.out _; (with_reducible repeat (first | refine blk_drewN ?_ _ | refine blk_drew ?_ | refine blk_alloc ?_ _)); exact BK218.out), (by (with_reducible repeat (first | refine blk_drewN ?_ _ | refine blk_drew ?_ | refine blk_alloc ?_ _)); refine blk_put (cs := #[.int .i64 t219, .int .i64 0]) ?_ 1 _ rfl; (with_reducible repeat (first | refine blk_drewN ?_ _ | refine blk_drew ?_ | refine blk_alloc ?_ _)); refine blk_put (cs := #[.int .i64 0, .int .i64 0]) ?_ 0 _ rfl; (with_reducible repeat (first | refine blk_drewN ?_ _ | refine blk_drew ?_ | refine blk_alloc ?_ _)); exact BK222.out), (by repeat (first | (with_reducible first | exact HB.out | apply below_alloc | apply pw_below_drewN | apply below_drew1 | refine below_set ?_ GE197.out | refine below_set ?_ GE202.out | refine below_set ?_ GE206.out | refine below_set ?_ GE210.out | refine below_set ?_ GE214.out | refine below_set ?_ GE218.out | refine below_set ?_ GE222.out) | exact HB.out))⟩ ?_
        clear HB BK197 BK202 BK206 BK210 BK214 BK218 BK222
        rintro wg6 ⟨BK197, BK202, BK206, BK210, BK214, BK218, BK222, HB⟩
        replace HB := Aside0.mk HB
        replace BK197 := Aside0.mk BK197
        replace BK202 := Aside0.mk BK202
        replace BK206 := Aside0.mk BK206
        replace BK210 := Aside0.mk BK210
        replace BK214 := Aside0.mk BK214
        replace BK218 := Aside0.mk BK218
        replace BK222 := Aside0.mk BK222
        have hczg6_gb197_0 : wg6.cell? ⟨gb197, 0, none⟩ = some (.int .i64 a0_0) := (blk_cell BK197.out 0).trans rfl
        have hfzg6_gb197_0 := blk_frozen BK197.out 0
        have hczg6_gb197_1 : wg6.cell? ⟨gb197, 1, none⟩ = some (.int .i64 a0_1) := (blk_cell BK197.out 1).trans rfl
        have hfzg6_gb197_1 := blk_frozen BK197.out 1
        have hczg6_gb202_0 : wg6.cell? ⟨gb202, 0, none⟩ = some (.int .i64 t199) := (blk_cell BK202.out 0).trans rfl
        have hfzg6_gb202_0 := blk_frozen BK202.out 0
        have hczg6_gb202_1 : wg6.cell? ⟨gb202, 1, none⟩ = some (.int .i64 t200) := (blk_cell BK202.out 1).trans rfl
        have hfzg6_gb202_1 := blk_frozen BK202.out 1
        have hczg6_gb206_0 : wg6.cell? ⟨gb206, 0, none⟩ = some (.int .i64 t203) := (blk_cell BK206.out 0).trans rfl
        have hfzg6_gb206_0 := blk_frozen BK206.out 0
        have hczg6_gb206_1 : wg6.cell? ⟨gb206, 1, none⟩ = some (.int .i64 t204) := (blk_cell BK206.out 1).trans rfl
        have hfzg6_gb206_1 := blk_frozen BK206.out 1
        have hczg6_gb210_0 : wg6.cell? ⟨gb210, 0, none⟩ = some (.int .i64 t207) := (blk_cell BK210.out 0).trans rfl
        have hfzg6_gb210_0 := blk_frozen BK210.out 0
        have hczg6_gb210_1 : wg6.cell? ⟨gb210, 1, none⟩ = some (.int .i64 t208) := (blk_cell BK210.out 1).trans rfl
        have hfzg6_gb210_1 := blk_frozen BK210.out 1
        have hczg6_gb214_0 : wg6.cell? ⟨gb214, 0, none⟩ = some (.int .i64 t211) := (blk_cell BK214.out 0).trans rfl
        have hfzg6_gb214_0 := blk_frozen BK214.out 0
        have hczg6_gb214_1 : wg6.cell? ⟨gb214, 1, none⟩ = some (.int .i64 t212) := (blk_cell BK214.out 1).trans rfl
        have hfzg6_gb214_1 := blk_frozen BK214.out 1
        have hczg6_gb218_0 : wg6.cell? ⟨gb218, 0, none⟩ = some (.int .i64 t215) := (blk_cell BK218.out 0).trans rfl
        have hfzg6_gb218_0 := blk_frozen BK218.out 0
        have hczg6_gb218_1 : wg6.cell? ⟨gb218, 1, none⟩ = some (.int .i64 t216) := (blk_cell BK218.out 1).trans rfl
        have hfzg6_gb218_1 := blk_frozen BK218.out 1
        have hczg6_gb222_0 : wg6.cell? ⟨gb222, 0, none⟩ = some (.int .i64 t219) := (blk_cell BK222.out 0).trans rfl
        have hfzg6_gb222_0 := blk_frozen BK222.out 0
        have hczg6_gb222_1 : wg6.cell? ⟨gb222, 1, none⟩ = some (.int .i64 t220) := (blk_cell BK222.out 1).trans rfl
        have hfzg6_gb222_1 := blk_frozen BK222.out 1
        try clear hcz67_0
        try clear hcz67_1
        try clear hcz68_0
        try clear hcz68_1
        try clear hczg5_gb197_0
        try clear hczg5_gb197_1
        try clear hczg5_gb202_0
        try clear hczg5_gb202_1
        try clear hczg5_gb206_0
        try clear hczg5_gb206_1
        try clear hczg5_gb210_0
        try clear hczg5_gb210_1
        try clear hczg5_gb214_0
        try clear hczg5_gb214_1
        try clear hczg5_gb218_0
        try clear hczg5_gb218_1
        try clear hfz67_0
        try clear hfz67_1
        try clear hfz68_0
        try clear hfz68_1
        try clear hfzg5_gb197_0
        try clear hfzg5_gb197_1
        try clear hfzg5_gb202_0
        try clear hfzg5_gb202_1
        try clear hfzg5_gb206_0
        try clear hfzg5_gb206_1
        try clear hfzg5_gb210_0
        try clear hfzg5_gb210_1
        try clear hfzg5_gb214_0
        try clear hfzg5_gb214_1
        try clear hfzg5_gb218_0
        try clear hfzg5_gb218_1
        go_upto_region 11 with (first | ((with_reducible refine gate_callee (f := 15) rfl ?_); refine goesL_ (some 95) rfl rfl Try.func15 (by kernel_rfl) rfl #[.agg #[.int .i64 a0_0, .int .i64 a0_1], .bool a4, .int .i64 a5, .int .i64 a6] rfl (by (try simp only [List.map_toArray, List.map_cons, List.map_nil]); first | done | rfl | (simp only [List.length_drop, List.length_take]; rfl)) ?_; (with_reducible refine (xmp_Loss.calls a0_0 a0_1 a4 a5 a6 t223 t224 t225 _ A20.out).mono ?_); rintro e w69 ⟨rfl, hb⟩; refine ⟨_, rfl, ?_⟩; have n0_ := Aside0.mk (blk_below (g := gb197) (o := .cells #[.int .i64 a0_0, .int .i64 a0_1] 30 (0, 0)) BK197.out hb); have n1_ := Aside0.mk (blk_below (g := gb202) (o := .cells #[.int .i64 t199, .int .i64 t200] 30 (0, 0)) BK202.out hb); have n2_ := Aside0.mk (blk_below (g := gb206) (o := .cells #[.int .i64 t203, .int .i64 t204] 30 (0, 0)) BK206.out hb); have n3_ := Aside0.mk (blk_below (g := gb210) (o := .cells #[.int .i64 t207, .int .i64 t208] 30 (0, 0)) BK210.out hb); have n4_ := Aside0.mk (blk_below (g := gb214) (o := .cells #[.int .i64 t211, .int .i64 t212] 30 (0, 0)) BK214.out hb); have n5_ := Aside0.mk (blk_below (g := gb218) (o := .cells #[.int .i64 t215, .int .i64 t216] 30 (0, 0)) BK218.out hb); have n6_ := Aside0.mk (blk_below (g := gb222) (o := .cells #[.int .i64 t219, .int .i64 t220] 30 (0, 0)) BK222.out hb); have n7_ := Aside0.mk (below_step (by repeat (first | (with_reducible first | exact HB.out | apply below_alloc | apply pw_below_drewN | apply below_drew1 | refine below_set ?_ GE197.out | refine below_set ?_ GE202.out | refine below_set ?_ GE206.out | refine below_set ?_ GE210.out | refine below_set ?_ GE214.out | refine below_set ?_ GE218.out | refine below_set ?_ GE222.out) | exact HB.out)) hb); clear BK197; clear BK202; clear BK206; clear BK210; clear BK214; clear BK218; clear BK222; clear HB; have BK197 := n0_; have BK202 := n1_; have BK206 := n2_; have BK210 := n3_; have BK214 := n4_; have BK218 := n5_; have BK222 := n6_; have HB := n7_; clear n0_ n1_ n2_ n3_ n4_ n5_ n6_ n7_; (try clear hb); (try clear hb2); (try clear hk); (try clear hi)) | ((with_reducible refine gate_dst (N := 28) rfl ?_); (try (refine gate_guard (by rfl) ?_; dsimp only)); refine box_event ?hg (N := 28) ?hd (cs := #[.int .i64 0, .int .i64 0]) (t := 30) ?hr ?_; (case hd => rfl); (case hg => rfl); (case hr => first | (go_simp; done) | (go_simp; rfl)); intro gb226 hg w70 hbox hb; have n0_ := Aside0.mk (blk_below (g := gb197) (o := .cells #[.int .i64 a0_0, .int .i64 a0_1] 30 (0, 0)) (by (with_reducible repeat (first | refine blk_drewN ?_ _ | refine blk_drew ?_ | refine blk_alloc ?_ _)); exact BK197.out) hb); have n1_ := Aside0.mk (blk_below (g := gb202) (o := .cells #[.int .i64 t199, .int .i64 t200] 30 (0, 0)) (by (with_reducible repeat (first | refine blk_drewN ?_ _ | refine blk_drew ?_ | refine blk_alloc ?_ _)); exact BK202.out) hb); have n2_ := Aside0.mk (blk_below (g := gb206) (o := .cells #[.int .i64 t203, .int .i64 t204] 30 (0, 0)) (by (with_reducible repeat (first | refine blk_drewN ?_ _ | refine blk_drew ?_ | refine blk_alloc ?_ _)); exact BK206.out) hb); have n3_ := Aside0.mk (blk_below (g := gb210) (o := .cells #[.int .i64 t207, .int .i64 t208] 30 (0, 0)) (by (with_reducible repeat (first | refine blk_drewN ?_ _ | refine blk_drew ?_ | refine blk_alloc ?_ _)); exact BK210.out) hb); have n4_ := Aside0.mk (blk_below (g := gb214) (o := .cells #[.int .i64 t211, .int .i64 t212] 30 (0, 0)) (by (with_reducible repeat (first | refine blk_drewN ?_ _ | refine blk_drew ?_ | refine blk_alloc ?_ _)); exact BK214.out) hb); have n5_ := Aside0.mk (blk_below (g := gb218) (o := .cells #[.int .i64 t215, .int .i64 t216] 30 (0, 0)) (by (with_reducible repeat (first | refine blk_drewN ?_ _ | refine blk_drew ?_ | refine blk_alloc ?_ _)); exact BK218.out) hb); have n6_ := Aside0.mk (blk_below (g := gb222) (o := .cells #[.int .i64 t219, .int .i64 t220] 30 (0, 0)) (by (with_reducible repeat (first | refine blk_drewN ?_ _ | refine blk_drew ?_ | refine blk_alloc ?_ _)); exact BK222.out) hb); have n7_ := Aside0.mk (below_step (by repeat (first | (with_reducible first | exact HB.out | apply below_alloc | apply pw_below_drewN | apply below_drew1 | refine below_set ?_ GE197.out | refine below_set ?_ GE202.out | refine below_set ?_ GE206.out | refine below_set ?_ GE210.out | refine below_set ?_ GE214.out | refine below_set ?_ GE218.out | refine below_set ?_ GE222.out) | exact HB.out)) hb); have n8_ := Aside0.mk (hbox); have n9_ := Aside0.mk ((by rw [hg]; exact (below_size (by repeat (first | (with_reducible first | exact HB.out | apply below_alloc | apply pw_below_drewN | apply below_drew1 | refine below_set ?_ GE197.out | refine below_set ?_ GE202.out | refine below_set ?_ GE206.out | refine below_set ?_ GE210.out | refine below_set ?_ GE214.out | refine below_set ?_ GE218.out | refine below_set ?_ GE222.out) | exact HB.out))) : w.heap.size ≤ gb226)); have n10_ := Aside0.mk ((by rw [hg]; exact (below_size (by repeat (first | (with_reducible first | exact HB.out | apply below_alloc | apply pw_below_drewN | apply below_drew1 | refine below_set ?_ GE197.out | refine below_set ?_ GE202.out | refine below_set ?_ GE206.out | refine below_set ?_ GE210.out | refine below_set ?_ GE214.out | refine below_set ?_ GE218.out | refine below_set ?_ GE222.out) | exact HB.out))) : w.heap.size ≤ gb226)); have n11_ := Aside0.mk ((by rw [hg]; exact Nat.ne_of_lt (blk_lt (g := gb197) (o := .cells #[.int .i64 a0_0, .int .i64 a0_1] 30 (0, 0)) (by (with_reducible repeat (first | refine blk_drewN ?_ _ | refine blk_drew ?_ | refine blk_alloc ?_ _)); exact BK197.out)) : gb197 ≠ gb226)); have n12_ := Aside0.mk ((by rw [hg]; exact Nat.ne_of_gt (blk_lt (g := gb197) (o := .cells #[.int .i64 a0_0, .int .i64 a0_1] 30 (0, 0)) (by (with_reducible repeat (first | refine blk_drewN ?_ _ | refine blk_drew ?_ | refine blk_alloc ?_ _)); exact BK197.out)) : gb226 ≠ gb197)); have n13_ := Aside0.mk ((by rw [hg]; exact Nat.ne_of_lt (blk_lt (g := gb202) (o := .cells #[.int .i64 t199, .int .i64 t200] 30 (0, 0)) (by (with_reducible repeat (first | refine blk_drewN ?_ _ | refine blk_drew ?_ | refine blk_alloc ?_ _)); exact BK202.out)) : gb202 ≠ gb226)); have n14_ := Aside0.mk ((by rw [hg]; exact Nat.ne_of_gt (blk_lt (g := gb202) (o := .cells #[.int .i64 t199, .int .i64 t200] 30 (0, 0)) (by (with_reducible repeat (first | refine blk_drewN ?_ _ | refine blk_drew ?_ | refine blk_alloc ?_ _)); exact BK202.out)) : gb226 ≠ gb202)); have n15_ := Aside0.mk ((by rw [hg]; exact Nat.ne_of_lt (blk_lt (g := gb206) (o := .cells #[.int .i64 t203, .int .i64 t204] 30 (0, 0)) (by (with_reducible repeat (first | refine blk_drewN ?_ _ | refine blk_drew ?_ | refine blk_alloc ?_ _)); exact BK206.out)) : gb206 ≠ gb226)); have n16_ := Aside0.mk ((by rw [hg]; exact Nat.ne_of_gt (blk_lt (g := gb206) (o := .cells #[.int .i64 t203, .int .i64 t204] 30 (0, 0)) (by (with_reducible repeat (first | refine blk_drewN ?_ _ | refine blk_drew ?_ | refine blk_alloc ?_ _)); exact BK206.out)) : gb226 ≠ gb206)); have n17_ := Aside0.mk ((by rw [hg]; exact Nat.ne_of_lt (blk_lt (g := gb210) (o := .cells #[.int .i64 t207, .int .i64 t208] 30 (0, 0)) (by (with_reducible repeat (first | refine blk_drewN ?_ _ | refine blk_drew ?_ | refine blk_alloc ?_ _)); exact BK210.out)) : gb210 ≠ gb226)); have n18_ := Aside0.mk ((by rw [hg]; exact Nat.ne_of_gt (blk_lt (g := gb210) (o := .cells #[.int .i64 t207, .int .i64 t208] 30 (0, 0)) (by (with_reducible repeat (first | refine blk_drewN ?_ _ | refine blk_drew ?_ | refine blk_alloc ?_ _)); exact BK210.out)) : gb226 ≠ gb210)); have n19_ := Aside0.mk ((by rw [hg]; exact Nat.ne_of_lt (blk_lt (g := gb214) (o := .cells #[.int .i64 t211, .int .i64 t212] 30 (0, 0)) (by (with_reducible repeat (first | refine blk_drewN ?_ _ | refine blk_drew ?_ | refine blk_alloc ?_ _)); exact BK214.out)) : gb214 ≠ gb226)); have n20_ := Aside0.mk ((by rw [hg]; exact Nat.ne_of_gt (blk_lt (g := gb214) (o := .cells #[.int .i64 t211, .int .i64 t212] 30 (0, 0)) (by (with_reducible repeat (first | refine blk_drewN ?_ _ | refine blk_drew ?_ | refine blk_alloc ?_ _)); exact BK214.out)) : gb226 ≠ gb214)); have n21_ := Aside0.mk ((by rw [hg]; exact Nat.ne_of_lt (blk_lt (g := gb218) (o := .cells #[.int .i64 t215, .int .i64 t216] 30 (0, 0)) (by (with_reducible repeat (first | refine blk_drewN ?_ _ | refine blk_drew ?_ | refine blk_alloc ?_ _)); exact BK218.out)) : gb218 ≠ gb226)); have n22_ := Aside0.mk ((by rw [hg]; exact Nat.ne_of_gt (blk_lt (g := gb218) (o := .cells #[.int .i64 t215, .int .i64 t216] 30 (0, 0)) (by (with_reducible repeat (first | refine blk_drewN ?_ _ | refine blk_drew ?_ | refine blk_alloc ?_ _)); exact BK218.out)) : gb226 ≠ gb218)); have n23_ := Aside0.mk ((by rw [hg]; exact Nat.ne_of_lt (blk_lt (g := gb222) (o := .cells #[.int .i64 t219, .int .i64 t220] 30 (0, 0)) (by (with_reducible repeat (first | refine blk_drewN ?_ _ | refine blk_drew ?_ | refine blk_alloc ?_ _)); exact BK222.out)) : gb222 ≠ gb226)); have n24_ := Aside0.mk ((by rw [hg]; exact Nat.ne_of_gt (blk_lt (g := gb222) (o := .cells #[.int .i64 t219, .int .i64 t220] 30 (0, 0)) (by (with_reducible repeat (first | refine blk_drewN ?_ _ | refine blk_drew ?_ | refine blk_alloc ?_ _)); exact BK222.out)) : gb226 ≠ gb222)); clear BK197; clear BK202; clear BK206; clear BK210; clear BK214; clear BK218; clear BK222; clear HB; have BK197 := n0_; have BK202 := n1_; have BK206 := n2_; have BK210 := n3_; have BK214 := n4_; have BK218 := n5_; have BK222 := n6_; have HB := n7_; have BK226 := n8_; have GW226 := n9_; have GE226 := n10_; have NB197_226 := n11_; have NB226_197 := n12_; have NB202_226 := n13_; have NB226_202 := n14_; have NB206_226 := n15_; have NB226_206 := n16_; have NB210_226 := n17_; have NB226_210 := n18_; have NB214_226 := n19_; have NB226_214 := n20_; have NB218_226 := n21_; have NB226_218 := n22_; have NB222_226 := n23_; have NB226_222 := n24_; clear n0_ n1_ n2_ n3_ n4_ n5_ n6_ n7_ n8_ n9_ n10_ n11_ n12_ n13_ n14_ n15_ n16_ n17_ n18_ n19_ n20_ n21_ n22_ n23_ n24_; clear hb hbox hg; have hnb71 := NB226_197.out; have hnc71 := NB197_226.out; have hnb72 := NB226_202.out; have hnc72 := NB202_226.out; have hnb73 := NB226_206.out; have hnc73 := NB206_226.out; have hnb74 := NB226_210.out; have hnc74 := NB210_226.out; have hnb75 := NB226_214.out; have hnc75 := NB214_226.out; have hnb76 := NB226_218.out; have hnc76 := NB218_226.out; have hnb77 := NB226_222.out; have hnc77 := NB222_226.out; have hcz78_0 : w70.cell? ⟨gb226, 0, none⟩ = some (.int .i64 0) := (blk_cell BK226.out 0).trans rfl; have hcz78_1 : w70.cell? ⟨gb226, 1, none⟩ = some (.int .i64 0) := (blk_cell BK226.out 1).trans rfl; have hfz78_0 := blk_frozen BK226.out 0; have hfz78_1 := blk_frozen BK226.out 1; have hcz79_0 : w70.cell? ⟨gb197, 0, none⟩ = some (.int .i64 a0_0) := (blk_cell BK197.out 0).trans rfl; have hcz79_1 : w70.cell? ⟨gb197, 1, none⟩ = some (.int .i64 a0_1) := (blk_cell BK197.out 1).trans rfl; have hfz79_0 := blk_frozen BK197.out 0; have hfz79_1 := blk_frozen BK197.out 1))
        (try simp only [Act.put, List.setIfInBounds_toArray, List.set_cons_zero, List.set_cons_succ])
        refine wp_gen_ (fun w' => w'.heap[gb197]? = some (.cells #[.int .i64 a0_0, .int .i64 a0_1] 30 (0, 0)) ∧ w'.heap[gb202]? = some (.cells #[.int .i64 t199, .int .i64 t200] 30 (0, 0)) ∧ w'.heap[gb206]? = some (.cells #[.int .i64 t203, .int .i64 t204] 30 (0, 0)) ∧ w'.heap[gb210]? = some (.cells #[.int .i64 t207, .int .i64 t208] 30 (0, 0)) ∧ w'.heap[gb214]? = some (.cells #[.int .i64 t211, .int .i64 t212] 30 (0, 0)) ∧ w'.heap[gb218]? = some (.cells #[.int .i64 t215, .int .i64 t216] 30 (0, 0)) ∧ w'.heap[gb222]? = some (.cells #[.int .i64 t219, .int .i64 t220] 30 (0, 0)) ∧ w'.heap[gb226]? = some (.cells #[.int .i64 t223, .int .i64 t224] 30 (0, 0)) ∧ Below w.heap.size w w') ⟨(by (with_reducible repeat (first | refine blk_drewN ?_ _ | refine blk_drew ?_ | refine blk_alloc ?_ _)); refine blk_far ?_ NB197_226.out _; (with_reducible repeat (first | refine blk_drewN ?_ _ | refine blk_drew ?_ | refine blk_alloc ?_ _)); refine blk_far ?_ NB197_226.out _; (with_reducible repeat (first | refine blk_drewN ?_ _ | refine blk_drew ?_ | refine blk_alloc ?_ _)); exact BK197.out), (by (with_reducible repeat (first | refine blk_drewN ?_ _ | refine blk_drew ?_ | refine blk_alloc ?_ _)); refine blk_far ?_ NB202_226.out _; (with_reducible repeat (first | refine blk_drewN ?_ _ | refine blk_drew ?_ | refine blk_alloc ?_ _)); refine blk_far ?_ NB202_226.out _; (with_reducible repeat (first | refine blk_drewN ?_ _ | refine blk_drew ?_ | refine blk_alloc ?_ _)); exact BK202.out), (by (with_reducible repeat (first | refine blk_drewN ?_ _ | refine blk_drew ?_ | refine blk_alloc ?_ _)); refine blk_far ?_ NB206_226.out _; (with_reducible repeat (first | refine blk_drewN ?_ _ | refine blk_drew ?_ | refine blk_alloc ?_ _)); refine blk_far ?_ NB206_226.out _; (with_reducible repeat (first | refine blk_drewN ?_ _ | refine blk_drew ?_ | refine blk_alloc ?_ _)); exact BK206.out), (by (with_reducible repeat (first | refine blk_drewN ?_ _ | refine blk_drew ?_ | refine blk_alloc ?_ _)); refine blk_far ?_ NB210_226.out _; (with_reducible repeat (first | refine blk_drewN ?_ _ | refine blk_drew ?_ | refine blk_alloc ?_ _)); refine blk_far ?_ NB210_226.out _; (with_reducible repeat (first | refine blk_drewN ?_ _ | refine blk_drew ?_ | refine blk_alloc ?_ _)); exact BK210.out), (by (with_reducible repeat (first | refine blk_drewN ?_ _ | refine blk_drew ?_ | refine blk_alloc ?_ _)); refine blk_far ?_ NB214_226.out _; (with_reducible repeat (first | refine blk_drewN ?_ _ | refine blk_drew ?_ | refine blk_alloc ?_ _)); refine blk_far ?_ NB214_226.out _; (with_reducible repeat (first | refine blk_drewN ?_ _ | refine blk_drew ?_ | refine blk_alloc ?_ _)); exact BK214.out), (by (with_reducible repeat (first | refine blk_drewN ?_ _ | refine blk_drew ?_ | refine blk_alloc ?_ _)); refine blk_far ?_ NB218_226.out _; (with_reducible repeat (first | refine blk_drewN ?_ _ | refine blk_drew ?_ | refine blk_alloc ?_ _)); refine blk_far ?_ NB218_226.out _; (with_reducible repeat (first | refine blk_drewN ?_ _ | refine blk_drew ?_ | refine blk_alloc ?_ _)); exact BK218.out), (by (with_reducible repeat (first | refine blk_drewN ?_ _ | refine blk_drew ?_ | refine blk_alloc ?_ _)); refine blk_far ?_ NB222_226.out _; (with_reducible repeat (first | refine blk_drewN ?_ _ | refine blk_drew ?_ | refine blk_alloc ?_ _)); refine blk_far ?_ NB222_226.out _; (with_reducible repeat (first | refine blk_drewN ?_ _ | refine blk_drew ?_ | refine blk_alloc ?_ _)); exact BK222.out), (by (with_reducible repeat (first | refine blk_drewN ?_ _ | refine blk_drew ?_ | refine blk_alloc ?_ _)); refine blk_put (cs := #[.int .i64 t223, .int .i64 0]) ?_ 1 _ rfl; (with_reducible repeat (first | refine blk_drewN ?_ _ | refine blk_drew ?_ | refine blk_alloc ?_ _)); refine blk_put (cs := #[.int .i64 0, .int .i64 0]) ?_ 0 _ rfl; (with_reducible repeat (first | refine blk_drewN ?_ _ | refine blk_drew ?_ | refine blk_alloc ?_ _)); exact BK226.out), (by repeat (first | (with_reducible first | exact HB.out | apply below_alloc | apply pw_below_drewN | apply below_drew1 | refine below_set ?_ GE197.out | refine below_set ?_ GE202.out | refine below_set ?_ GE206.out | refine below_set ?_ GE210.out | refine below_set ?_ GE214.out | refine below_set ?_ GE218.out | refine below_set ?_ GE222.out | refine below_set ?_ GE226.out) | exact HB.out))⟩ ?_
        clear HB BK197 BK202 BK206 BK210 BK214 BK218 BK222 BK226
        rintro wg7 ⟨BK197, BK202, BK206, BK210, BK214, BK218, BK222, BK226, HB⟩
        replace HB := Aside0.mk HB
        replace BK197 := Aside0.mk BK197
        replace BK202 := Aside0.mk BK202
        replace BK206 := Aside0.mk BK206
        replace BK210 := Aside0.mk BK210
        replace BK214 := Aside0.mk BK214
        replace BK218 := Aside0.mk BK218
        replace BK222 := Aside0.mk BK222
        replace BK226 := Aside0.mk BK226
        have hczg7_gb197_0 : wg7.cell? ⟨gb197, 0, none⟩ = some (.int .i64 a0_0) := (blk_cell BK197.out 0).trans rfl
        have hfzg7_gb197_0 := blk_frozen BK197.out 0
        have hczg7_gb197_1 : wg7.cell? ⟨gb197, 1, none⟩ = some (.int .i64 a0_1) := (blk_cell BK197.out 1).trans rfl
        have hfzg7_gb197_1 := blk_frozen BK197.out 1
        have hczg7_gb202_0 : wg7.cell? ⟨gb202, 0, none⟩ = some (.int .i64 t199) := (blk_cell BK202.out 0).trans rfl
        have hfzg7_gb202_0 := blk_frozen BK202.out 0
        have hczg7_gb202_1 : wg7.cell? ⟨gb202, 1, none⟩ = some (.int .i64 t200) := (blk_cell BK202.out 1).trans rfl
        have hfzg7_gb202_1 := blk_frozen BK202.out 1
        have hczg7_gb206_0 : wg7.cell? ⟨gb206, 0, none⟩ = some (.int .i64 t203) := (blk_cell BK206.out 0).trans rfl
        have hfzg7_gb206_0 := blk_frozen BK206.out 0
        have hczg7_gb206_1 : wg7.cell? ⟨gb206, 1, none⟩ = some (.int .i64 t204) := (blk_cell BK206.out 1).trans rfl
        have hfzg7_gb206_1 := blk_frozen BK206.out 1
        have hczg7_gb210_0 : wg7.cell? ⟨gb210, 0, none⟩ = some (.int .i64 t207) := (blk_cell BK210.out 0).trans rfl
        have hfzg7_gb210_0 := blk_frozen BK210.out 0
        have hczg7_gb210_1 : wg7.cell? ⟨gb210, 1, none⟩ = some (.int .i64 t208) := (blk_cell BK210.out 1).trans rfl
        have hfzg7_gb210_1 := blk_frozen BK210.out 1
        have hczg7_gb214_0 : wg7.cell? ⟨gb214, 0, none⟩ = some (.int .i64 t211) := (blk_cell BK214.out 0).trans rfl
        have hfzg7_gb214_0 := blk_frozen BK214.out 0
        have hczg7_gb214_1 : wg7.cell? ⟨gb214, 1, none⟩ = some (.int .i64 t212) := (blk_cell BK214.out 1).trans rfl
        have hfzg7_gb214_1 := blk_frozen BK214.out 1
        have hczg7_gb218_0 : wg7.cell? ⟨gb218, 0, none⟩ = some (.int .i64 t215) := (blk_cell BK218.out 0).trans rfl
        have hfzg7_gb218_0 := blk_frozen BK218.out 0
        have hczg7_gb218_1 : wg7.cell? ⟨gb218, 1, none⟩ = some (.int .i64 t216) := (blk_cell BK218.out 1).trans rfl
        have hfzg7_gb218_1 := blk_frozen BK218.out 1
        have hczg7_gb222_0 : wg7.cell? ⟨gb222, 0, none⟩ = some (.int .i64 t219) := (blk_cell BK222.out 0).trans rfl
        have hfzg7_gb222_0 := blk_frozen BK222.out 0
        have hczg7_gb222_1 : wg7.cell? ⟨gb222, 1, none⟩ = some (.int .i64 t220) := (blk_cell BK222.out 1).trans rfl
        have hfzg7_gb222_1 := blk_frozen BK222.out 1
        have hczg7_gb226_0 : wg7.cell? ⟨gb226, 0, none⟩ = some (.int .i64 t223) := (blk_cell BK226.out 0).trans rfl
        have hfzg7_gb226_0 := blk_frozen BK226.out 0
        have hczg7_gb226_1 : wg7.cell? ⟨gb226, 1, none⟩ = some (.int .i64 t224) := (blk_cell BK226.out 1).trans rfl
        have hfzg7_gb226_1 := blk_frozen BK226.out 1
        try clear hcz78_0
        try clear hcz78_1
        try clear hcz79_0
        try clear hcz79_1
        try clear hczg6_gb197_0
        try clear hczg6_gb197_1
        try clear hczg6_gb202_0
        try clear hczg6_gb202_1
        try clear hczg6_gb206_0
        try clear hczg6_gb206_1
        try clear hczg6_gb210_0
        try clear hczg6_gb210_1
        try clear hczg6_gb214_0
        try clear hczg6_gb214_1
        try clear hczg6_gb218_0
        try clear hczg6_gb218_1
        try clear hczg6_gb222_0
        try clear hczg6_gb222_1
        try clear hfz78_0
        try clear hfz78_1
        try clear hfz79_0
        try clear hfz79_1
        try clear hfzg6_gb197_0
        try clear hfzg6_gb197_1
        try clear hfzg6_gb202_0
        try clear hfzg6_gb202_1
        try clear hfzg6_gb206_0
        try clear hfzg6_gb206_1
        try clear hfzg6_gb210_0
        try clear hfzg6_gb210_1
        try clear hfzg6_gb214_0
        try clear hfzg6_gb214_1
        try clear hfzg6_gb218_0
        try clear hfzg6_gb218_1
        try clear hfzg6_gb222_0
        try clear hfzg6_gb222_1
        go_upto_region 12 with (first | ((with_reducible refine gate_callee (f := 19) rfl ?_); refine goesL_ (some 103) rfl rfl Try.func19 (by kernel_rfl) rfl #[.agg #[.int .i64 a0_0, .int .i64 a0_1], .bool a4, .int .i64 a5, .int .i64 a6] rfl (by (try simp only [List.map_toArray, List.map_cons, List.map_nil]); first | done | rfl | (simp only [List.length_drop, List.length_take]; rfl)) ?_; (with_reducible refine (fourinhandref15_Loss.calls kj8 a0_0 a0_1 a4 a5 a6 t227 t228 t229 _ A21.out).mono ?_); rintro e w80 ⟨rfl, hb⟩; refine ⟨_, rfl, ?_⟩; have n0_ := Aside0.mk (blk_below (g := gb197) (o := .cells #[.int .i64 a0_0, .int .i64 a0_1] 30 (0, 0)) BK197.out hb); have n1_ := Aside0.mk (blk_below (g := gb202) (o := .cells #[.int .i64 t199, .int .i64 t200] 30 (0, 0)) BK202.out hb); have n2_ := Aside0.mk (blk_below (g := gb206) (o := .cells #[.int .i64 t203, .int .i64 t204] 30 (0, 0)) BK206.out hb); have n3_ := Aside0.mk (blk_below (g := gb210) (o := .cells #[.int .i64 t207, .int .i64 t208] 30 (0, 0)) BK210.out hb); have n4_ := Aside0.mk (blk_below (g := gb214) (o := .cells #[.int .i64 t211, .int .i64 t212] 30 (0, 0)) BK214.out hb); have n5_ := Aside0.mk (blk_below (g := gb218) (o := .cells #[.int .i64 t215, .int .i64 t216] 30 (0, 0)) BK218.out hb); have n6_ := Aside0.mk (blk_below (g := gb222) (o := .cells #[.int .i64 t219, .int .i64 t220] 30 (0, 0)) BK222.out hb); have n7_ := Aside0.mk (blk_below (g := gb226) (o := .cells #[.int .i64 t223, .int .i64 t224] 30 (0, 0)) BK226.out hb); have n8_ := Aside0.mk (below_step (by repeat (first | (with_reducible first | exact HB.out | apply below_alloc | apply pw_below_drewN | apply below_drew1 | refine below_set ?_ GE197.out | refine below_set ?_ GE202.out | refine below_set ?_ GE206.out | refine below_set ?_ GE210.out | refine below_set ?_ GE214.out | refine below_set ?_ GE218.out | refine below_set ?_ GE222.out | refine below_set ?_ GE226.out) | exact HB.out)) hb); clear BK197; clear BK202; clear BK206; clear BK210; clear BK214; clear BK218; clear BK222; clear BK226; clear HB; have BK197 := n0_; have BK202 := n1_; have BK206 := n2_; have BK210 := n3_; have BK214 := n4_; have BK218 := n5_; have BK222 := n6_; have BK226 := n7_; have HB := n8_; clear n0_ n1_ n2_ n3_ n4_ n5_ n6_ n7_ n8_; (try clear hb); (try clear hb2); (try clear hk); (try clear hi)) | ((with_reducible refine gate_dst (N := 30) rfl ?_); (try (refine gate_guard (by rfl) ?_; dsimp only)); refine box_event ?hg (N := 30) ?hd (cs := #[.int .i64 0, .int .i64 0]) (t := 30) ?hr ?_; (case hd => rfl); (case hg => rfl); (case hr => first | (go_simp; done) | (go_simp; rfl)); intro gb230 hg w81 hbox hb; have n0_ := Aside0.mk (blk_below (g := gb197) (o := .cells #[.int .i64 a0_0, .int .i64 a0_1] 30 (0, 0)) (by (with_reducible repeat (first | refine blk_drewN ?_ _ | refine blk_drew ?_ | refine blk_alloc ?_ _)); exact BK197.out) hb); have n1_ := Aside0.mk (blk_below (g := gb202) (o := .cells #[.int .i64 t199, .int .i64 t200] 30 (0, 0)) (by (with_reducible repeat (first | refine blk_drewN ?_ _ | refine blk_drew ?_ | refine blk_alloc ?_ _)); exact BK202.out) hb); have n2_ := Aside0.mk (blk_below (g := gb206) (o := .cells #[.int .i64 t203, .int .i64 t204] 30 (0, 0)) (by (with_reducible repeat (first | refine blk_drewN ?_ _ | refine blk_drew ?_ | refine blk_alloc ?_ _)); exact BK206.out) hb); have n3_ := Aside0.mk (blk_below (g := gb210) (o := .cells #[.int .i64 t207, .int .i64 t208] 30 (0, 0)) (by (with_reducible repeat (first | refine blk_drewN ?_ _ | refine blk_drew ?_ | refine blk_alloc ?_ _)); exact BK210.out) hb); have n4_ := Aside0.mk (blk_below (g := gb214) (o := .cells #[.int .i64 t211, .int .i64 t212] 30 (0, 0)) (by (with_reducible repeat (first | refine blk_drewN ?_ _ | refine blk_drew ?_ | refine blk_alloc ?_ _)); exact BK214.out) hb); have n5_ := Aside0.mk (blk_below (g := gb218) (o := .cells #[.int .i64 t215, .int .i64 t216] 30 (0, 0)) (by (with_reducible repeat (first | refine blk_drewN ?_ _ | refine blk_drew ?_ | refine blk_alloc ?_ _)); exact BK218.out) hb); have n6_ := Aside0.mk (blk_below (g := gb222) (o := .cells #[.int .i64 t219, .int .i64 t220] 30 (0, 0)) (by (with_reducible repeat (first | refine blk_drewN ?_ _ | refine blk_drew ?_ | refine blk_alloc ?_ _)); exact BK222.out) hb); have n7_ := Aside0.mk (blk_below (g := gb226) (o := .cells #[.int .i64 t223, .int .i64 t224] 30 (0, 0)) (by (with_reducible repeat (first | refine blk_drewN ?_ _ | refine blk_drew ?_ | refine blk_alloc ?_ _)); exact BK226.out) hb); have n8_ := Aside0.mk (below_step (by repeat (first | (with_reducible first | exact HB.out | apply below_alloc | apply pw_below_drewN | apply below_drew1 | refine below_set ?_ GE197.out | refine below_set ?_ GE202.out | refine below_set ?_ GE206.out | refine below_set ?_ GE210.out | refine below_set ?_ GE214.out | refine below_set ?_ GE218.out | refine below_set ?_ GE222.out | refine below_set ?_ GE226.out) | exact HB.out)) hb); have n9_ := Aside0.mk (hbox); have n10_ := Aside0.mk ((by rw [hg]; exact (below_size (by repeat (first | (with_reducible first | exact HB.out | apply below_alloc | apply pw_below_drewN | apply below_drew1 | refine below_set ?_ GE197.out | refine below_set ?_ GE202.out | refine below_set ?_ GE206.out | refine below_set ?_ GE210.out | refine below_set ?_ GE214.out | refine below_set ?_ GE218.out | refine below_set ?_ GE222.out | refine below_set ?_ GE226.out) | exact HB.out))) : w.heap.size ≤ gb230)); have n11_ := Aside0.mk ((by rw [hg]; exact (below_size (by repeat (first | (with_reducible first | exact HB.out | apply below_alloc | apply pw_below_drewN | apply below_drew1 | refine below_set ?_ GE197.out | refine below_set ?_ GE202.out | refine below_set ?_ GE206.out | refine below_set ?_ GE210.out | refine below_set ?_ GE214.out | refine below_set ?_ GE218.out | refine below_set ?_ GE222.out | refine below_set ?_ GE226.out) | exact HB.out))) : w.heap.size ≤ gb230)); have n12_ := Aside0.mk ((by rw [hg]; exact Nat.ne_of_lt (blk_lt (g := gb197) (o := .cells #[.int .i64 a0_0, .int .i64 a0_1] 30 (0, 0)) (by (with_reducible repeat (first | refine blk_drewN ?_ _ | refine blk_drew ?_ | refine blk_alloc ?_ _)); exact BK197.out)) : gb197 ≠ gb230)); have n13_ := Aside0.mk ((by rw [hg]; exact Nat.ne_of_gt (blk_lt (g := gb197) (o := .cells #[.int .i64 a0_0, .int .i64 a0_1] 30 (0, 0)) (by (with_reducible repeat (first | refine blk_drewN ?_ _ | refine blk_drew ?_ | refine blk_alloc ?_ _)); exact BK197.out)) : gb230 ≠ gb197)); have n14_ := Aside0.mk ((by rw [hg]; exact Nat.ne_of_lt (blk_lt (g := gb202) (o := .cells #[.int .i64 t199, .int .i64 t200] 30 (0, 0)) (by (with_reducible repeat (first | refine blk_drewN ?_ _ | refine blk_drew ?_ | refine blk_alloc ?_ _)); exact BK202.out)) : gb202 ≠ gb230)); have n15_ := Aside0.mk ((by rw [hg]; exact Nat.ne_of_gt (blk_lt (g := gb202) (o := .cells #[.int .i64 t199, .int .i64 t200] 30 (0, 0)) (by (with_reducible repeat (first | refine blk_drewN ?_ _ | refine blk_drew ?_ | refine blk_alloc ?_ _)); exact BK202.out)) : gb230 ≠ gb202)); have n16_ := Aside0.mk ((by rw [hg]; exact Nat.ne_of_lt (blk_lt (g := gb206) (o := .cells #[.int .i64 t203, .int .i64 t204] 30 (0, 0)) (by (with_reducible repeat (first | refine blk_drewN ?_ _ | refine blk_drew ?_ | refine blk_alloc ?_ _)); exact BK206.out)) : gb206 ≠ gb230)); have n17_ := Aside0.mk ((by rw [hg]; exact Nat.ne_of_gt (blk_lt (g := gb206) (o := .cells #[.int .i64 t203, .int .i64 t204] 30 (0, 0)) (by (with_reducible repeat (first | refine blk_drewN ?_ _ | refine blk_drew ?_ | refine blk_alloc ?_ _)); exact BK206.out)) : gb230 ≠ gb206)); have n18_ := Aside0.mk ((by rw [hg]; exact Nat.ne_of_lt (blk_lt (g := gb210) (o := .cells #[.int .i64 t207, .int .i64 t208] 30 (0, 0)) (by (with_reducible repeat (first | refine blk_drewN ?_ _ | refine blk_drew ?_ | refine blk_alloc ?_ _)); exact BK210.out)) : gb210 ≠ gb230)); have n19_ := Aside0.mk ((by rw [hg]; exact Nat.ne_of_gt (blk_lt (g := gb210) (o := .cells #[.int .i64 t207, .int .i64 t208] 30 (0, 0)) (by (with_reducible repeat (first | refine blk_drewN ?_ _ | refine blk_drew ?_ | refine blk_alloc ?_ _)); exact BK210.out)) : gb230 ≠ gb210)); have n20_ := Aside0.mk ((by rw [hg]; exact Nat.ne_of_lt (blk_lt (g := gb214) (o := .cells #[.int .i64 t211, .int .i64 t212] 30 (0, 0)) (by (with_reducible repeat (first | refine blk_drewN ?_ _ | refine blk_drew ?_ | refine blk_alloc ?_ _)); exact BK214.out)) : gb214 ≠ gb230)); have n21_ := Aside0.mk ((by rw [hg]; exact Nat.ne_of_gt (blk_lt (g := gb214) (o := .cells #[.int .i64 t211, .int .i64 t212] 30 (0, 0)) (by (with_reducible repeat (first | refine blk_drewN ?_ _ | refine blk_drew ?_ | refine blk_alloc ?_ _)); exact BK214.out)) : gb230 ≠ gb214)); have n22_ := Aside0.mk ((by rw [hg]; exact Nat.ne_of_lt (blk_lt (g := gb218) (o := .cells #[.int .i64 t215, .int .i64 t216] 30 (0, 0)) (by (with_reducible repeat (first | refine blk_drewN ?_ _ | refine blk_drew ?_ | refine blk_alloc ?_ _)); exact BK218.out)) : gb218 ≠ gb230)); have n23_ := Aside0.mk ((by rw [hg]; exact Nat.ne_of_gt (blk_lt (g := gb218) (o := .cells #[.int .i64 t215, .int .i64 t216] 30 (0, 0)) (by (with_reducible repeat (first | refine blk_drewN ?_ _ | refine blk_drew ?_ | refine blk_alloc ?_ _)); exact BK218.out)) : gb230 ≠ gb218)); have n24_ := Aside0.mk ((by rw [hg]; exact Nat.ne_of_lt (blk_lt (g := gb222) (o := .cells #[.int .i64 t219, .int .i64 t220] 30 (0, 0)) (by (with_reducible repeat (first | refine blk_drewN ?_ _ | refine blk_drew ?_ | refine blk_alloc ?_ _)); exact BK222.out)) : gb222 ≠ gb230)); have n25_ := Aside0.mk ((by rw [hg]; exact Nat.ne_of_gt (blk_lt (g := gb222) (o := .cells #[.int .i64 t219, .int .i64 t220] 30 (0, 0)) (by (with_reducible repeat (first | refine blk_drewN ?_ _ | refine blk_drew ?_ | refine blk_alloc ?_ _)); exact BK222.out)) : gb230 ≠ gb222)); have n26_ := Aside0.mk ((by rw [hg]; exact Nat.ne_of_lt (blk_lt (g := gb226) (o := .cells #[.int .i64 t223, .int .i64 t224] 30 (0, 0)) (by (with_reducible repeat (first | refine blk_drewN ?_ _ | refine blk_drew ?_ | refine blk_alloc ?_ _)); exact BK226.out)) : gb226 ≠ gb230)); have n27_ := Aside0.mk ((by rw [hg]; exact Nat.ne_of_gt (blk_lt (g := gb226) (o := .cells #[.int .i64 t223, .int .i64 t224] 30 (0, 0)) (by (with_reducible repeat (first | refine blk_drewN ?_ _ | refine blk_drew ?_ | refine blk_alloc ?_ _)); exact BK226.out)) : gb230 ≠ gb226)); clear BK197; clear BK202; clear BK206; clear BK210; clear BK214; clear BK218; clear BK222; clear BK226; clear HB; have BK197 := n0_; have BK202 := n1_; have BK206 := n2_; have BK210 := n3_; have BK214 := n4_; have BK218 := n5_; have BK222 := n6_; have BK226 := n7_; have HB := n8_; have BK230 := n9_; have GW230 := n10_; have GE230 := n11_; have NB197_230 := n12_; have NB230_197 := n13_; have NB202_230 := n14_; have NB230_202 := n15_; have NB206_230 := n16_; have NB230_206 := n17_; have NB210_230 := n18_; have NB230_210 := n19_; have NB214_230 := n20_; have NB230_214 := n21_; have NB218_230 := n22_; have NB230_218 := n23_; have NB222_230 := n24_; have NB230_222 := n25_; have NB226_230 := n26_; have NB230_226 := n27_; clear n0_ n1_ n2_ n3_ n4_ n5_ n6_ n7_ n8_ n9_ n10_ n11_ n12_ n13_ n14_ n15_ n16_ n17_ n18_ n19_ n20_ n21_ n22_ n23_ n24_ n25_ n26_ n27_; clear hb hbox hg; have hnb82 := NB230_197.out; have hnc82 := NB197_230.out; have hnb83 := NB230_202.out; have hnc83 := NB202_230.out; have hnb84 := NB230_206.out; have hnc84 := NB206_230.out; have hnb85 := NB230_210.out; have hnc85 := NB210_230.out; have hnb86 := NB230_214.out; have hnc86 := NB214_230.out; have hnb87 := NB230_218.out; have hnc87 := NB218_230.out; have hnb88 := NB230_222.out; have hnc88 := NB222_230.out; have hnb89 := NB230_226.out; have hnc89 := NB226_230.out; have hcz90_0 : w81.cell? ⟨gb230, 0, none⟩ = some (.int .i64 0) := (blk_cell BK230.out 0).trans rfl; have hcz90_1 : w81.cell? ⟨gb230, 1, none⟩ = some (.int .i64 0) := (blk_cell BK230.out 1).trans rfl; have hfz90_0 := blk_frozen BK230.out 0; have hfz90_1 := blk_frozen BK230.out 1))
        (try simp only [Act.put, List.setIfInBounds_toArray, List.set_cons_zero, List.set_cons_succ])
        refine wp_gen_ (fun w' => w'.heap[gb197]? = some (.cells #[.int .i64 a0_0, .int .i64 a0_1] 30 (0, 0)) ∧ w'.heap[gb202]? = some (.cells #[.int .i64 t199, .int .i64 t200] 30 (0, 0)) ∧ w'.heap[gb206]? = some (.cells #[.int .i64 t203, .int .i64 t204] 30 (0, 0)) ∧ w'.heap[gb210]? = some (.cells #[.int .i64 t207, .int .i64 t208] 30 (0, 0)) ∧ w'.heap[gb214]? = some (.cells #[.int .i64 t211, .int .i64 t212] 30 (0, 0)) ∧ w'.heap[gb218]? = some (.cells #[.int .i64 t215, .int .i64 t216] 30 (0, 0)) ∧ w'.heap[gb222]? = some (.cells #[.int .i64 t219, .int .i64 t220] 30 (0, 0)) ∧ w'.heap[gb226]? = some (.cells #[.int .i64 t223, .int .i64 t224] 30 (0, 0)) ∧ w'.heap[gb230]? = some (.cells #[.int .i64 t227, .int .i64 t228] 30 (0, 0)) ∧ Below w.heap.size w w') ⟨(by (with_reducible repeat (first | refine blk_drewN ?_ _ | refine blk_drew ?_ | refine blk_alloc ?_ _)); refine blk_far ?_ NB197_230.out _; (with_reducible repeat (first | refine blk_drewN ?_ _ | refine blk_drew ?_ | refine blk_alloc ?_ _)); refine blk_far ?_ NB197_230.out _; (with_reducible repeat (first | refine blk_drewN ?_ _ | refine blk_drew ?_ | refine blk_alloc ?_ _)); exact BK197.out), (by (with_reducible repeat (first | refine blk_drewN ?_ _ | refine blk_drew ?_ | refine blk_alloc ?_ _)); refine blk_far ?_ NB202_230.out _; (with_reducible repeat (first | refine blk_drewN ?_ _ | refine blk_drew ?_ | refine blk_alloc ?_ _)); refine blk_far ?_ NB202_230.out _; (with_reducible repeat (first | refine blk_drewN ?_ _ | refine blk_drew ?_ | refine blk_alloc ?_ _)); exact BK202.out), (by (with_reducible repeat (first | refine blk_drewN ?_ _ | refine blk_drew ?_ | refine blk_alloc ?_ _)); refine blk_far ?_ NB206_230.out _; (with_reducible repeat (first | refine blk_drewN ?_ _ | refine blk_drew ?_ | refine blk_alloc ?_ _)); refine blk_far ?_ NB206_230.out _; (with_reducible repeat (first | refine blk_drewN ?_ _ | refine blk_drew ?_ | refine blk_alloc ?_ _)); exact BK206.out), (by (with_reducible repeat (first | refine blk_drewN ?_ _ | refine blk_drew ?_ | refine blk_alloc ?_ _)); refine blk_far ?_ NB210_230.out _; (with_reducible repeat (first | refine blk_drewN ?_ _ | refine blk_drew ?_ | refine blk_alloc ?_ _)); refine blk_far ?_ NB210_230.out _; (with_reducible repeat (first | refine blk_drewN ?_ _ | refine blk_drew ?_ | refine blk_alloc ?_ _)); exact BK210.out), (by (with_reducible repeat (first | refine blk_drewN ?_ _ | refine blk_drew ?_ | refine blk_alloc ?_ _)); refine blk_far ?_ NB214_230.out _; (with_reducible repeat (first | refine blk_drewN ?_ _ | refine blk_drew ?_ | refine blk_alloc ?_ _)); refine blk_far ?_ NB214_230.out _; (with_reducible repeat (first | refine blk_drewN ?_ _ | refine blk_drew ?_ | refine blk_alloc ?_ _)); exact BK214.out), (by (with_reducible repeat (first | refine blk_drewN ?_ _ | refine blk_drew ?_ | refine blk_alloc ?_ _)); refine blk_far ?_ NB218_230.out _; (with_reducible repeat (first | refine blk_drewN ?_ _ | refine blk_drew ?_ | refine blk_alloc ?_ _)); refine blk_far ?_ NB218_230.out _; (with_reducible repeat (first | refine blk_drewN ?_ _ | refine blk_drew ?_ | refine blk_alloc ?_ _)); exact BK218.out), (by (with_reducible repeat (first | refine blk_drewN ?_ _ | refine blk_drew ?_ | refine blk_alloc ?_ _)); refine blk_far ?_ NB222_230.out _; (with_reducible repeat (first | refine blk_drewN ?_ _ | refine blk_drew ?_ | refine blk_alloc ?_ _)); refine blk_far ?_ NB222_230.out _; (with_reducible repeat (first | refine blk_drewN ?_ _ | refine blk_drew ?_ | refine blk_alloc ?_ _)); exact BK222.out), (by (with_reducible repeat (first | refine blk_drewN ?_ _ | refine blk_drew ?_ | refine blk_alloc ?_ _)); refine blk_far ?_ NB226_230.out _; (with_reducible repeat (first | refine blk_drewN ?_ _ | refine blk_drew ?_ | refine blk_alloc ?_ _)); refine blk_far ?_ NB226_230.out _; (with_reducible repeat (first | refine blk_drewN ?_ _ | refine blk_drew ?_ | refine blk_alloc ?_ _)); exact BK226.out), (by (with_reducible repeat (first | refine blk_drewN ?_ _ | refine blk_drew ?_ | refine blk_alloc ?_ _)); refine blk_put (cs := #[.int .i64 t227, .int .i64 0]) ?_ 1 _ rfl; (with_reducible repeat (first | refine blk_drewN ?_ _ | refine blk_drew ?_ | refine blk_alloc ?_ _)); refine blk_put (cs := #[.int .i64 0, .int .i64 0]) ?_ 0 _ rfl; (with_reducible repeat (first | refine blk_drewN ?_ _ | refine blk_drew ?_ | refine blk_alloc ?_ _)); exact BK230.out), (by repeat (first | (with_reducible first | exact HB.out | apply below_alloc | apply pw_below_drewN | apply below_drew1 | refine below_set ?_ GE197.out | refine below_set ?_ GE202.out | refine below_set ?_ GE206.out | refine below_set ?_ GE210.out | refine below_set ?_ GE214.out | refine below_set ?_ GE218.out | refine below_set ?_ GE222.out | refine below_set ?_ GE226.out | refine below_set ?_ GE230.out) | exact HB.out))⟩ ?_
        clear HB BK197 BK202 BK206 BK210 BK214 BK218 BK222 BK226 BK230
        rintro wgc ⟨BK197, BK202, BK206, BK210, BK214, BK218, BK222, BK226, BK230, HB⟩
        replace HB := Aside0.mk HB
        replace BK197 := Aside0.mk BK197
        replace BK202 := Aside0.mk BK202
        replace BK206 := Aside0.mk BK206
        replace BK210 := Aside0.mk BK210
        replace BK214 := Aside0.mk BK214
        replace BK218 := Aside0.mk BK218
        replace BK222 := Aside0.mk BK222
        replace BK226 := Aside0.mk BK226
        replace BK230 := Aside0.mk BK230
        have hczc_gb197_0 : wgc.cell? ⟨gb197, 0, none⟩ = some (.int .i64 a0_0) := (blk_cell BK197.out 0).trans rfl
        have hfzc_gb197_0 := blk_frozen BK197.out 0
        have hczc_gb197_1 : wgc.cell? ⟨gb197, 1, none⟩ = some (.int .i64 a0_1) := (blk_cell BK197.out 1).trans rfl
        have hfzc_gb197_1 := blk_frozen BK197.out 1
        have hczc_gb202_0 : wgc.cell? ⟨gb202, 0, none⟩ = some (.int .i64 t199) := (blk_cell BK202.out 0).trans rfl
        have hfzc_gb202_0 := blk_frozen BK202.out 0
        have hczc_gb202_1 : wgc.cell? ⟨gb202, 1, none⟩ = some (.int .i64 t200) := (blk_cell BK202.out 1).trans rfl
        have hfzc_gb202_1 := blk_frozen BK202.out 1
        have hczc_gb206_0 : wgc.cell? ⟨gb206, 0, none⟩ = some (.int .i64 t203) := (blk_cell BK206.out 0).trans rfl
        have hfzc_gb206_0 := blk_frozen BK206.out 0
        have hczc_gb206_1 : wgc.cell? ⟨gb206, 1, none⟩ = some (.int .i64 t204) := (blk_cell BK206.out 1).trans rfl
        have hfzc_gb206_1 := blk_frozen BK206.out 1
        have hczc_gb210_0 : wgc.cell? ⟨gb210, 0, none⟩ = some (.int .i64 t207) := (blk_cell BK210.out 0).trans rfl
        have hfzc_gb210_0 := blk_frozen BK210.out 0
        have hczc_gb210_1 : wgc.cell? ⟨gb210, 1, none⟩ = some (.int .i64 t208) := (blk_cell BK210.out 1).trans rfl
        have hfzc_gb210_1 := blk_frozen BK210.out 1
        have hczc_gb214_0 : wgc.cell? ⟨gb214, 0, none⟩ = some (.int .i64 t211) := (blk_cell BK214.out 0).trans rfl
        have hfzc_gb214_0 := blk_frozen BK214.out 0
        have hczc_gb214_1 : wgc.cell? ⟨gb214, 1, none⟩ = some (.int .i64 t212) := (blk_cell BK214.out 1).trans rfl
        have hfzc_gb214_1 := blk_frozen BK214.out 1
        have hczc_gb218_0 : wgc.cell? ⟨gb218, 0, none⟩ = some (.int .i64 t215) := (blk_cell BK218.out 0).trans rfl
        have hfzc_gb218_0 := blk_frozen BK218.out 0
        have hczc_gb218_1 : wgc.cell? ⟨gb218, 1, none⟩ = some (.int .i64 t216) := (blk_cell BK218.out 1).trans rfl
        have hfzc_gb218_1 := blk_frozen BK218.out 1
        have hczc_gb222_0 : wgc.cell? ⟨gb222, 0, none⟩ = some (.int .i64 t219) := (blk_cell BK222.out 0).trans rfl
        have hfzc_gb222_0 := blk_frozen BK222.out 0
        have hczc_gb222_1 : wgc.cell? ⟨gb222, 1, none⟩ = some (.int .i64 t220) := (blk_cell BK222.out 1).trans rfl
        have hfzc_gb222_1 := blk_frozen BK222.out 1
        have hczc_gb226_0 : wgc.cell? ⟨gb226, 0, none⟩ = some (.int .i64 t223) := (blk_cell BK226.out 0).trans rfl
        have hfzc_gb226_0 := blk_frozen BK226.out 0
        have hczc_gb226_1 : wgc.cell? ⟨gb226, 1, none⟩ = some (.int .i64 t224) := (blk_cell BK226.out 1).trans rfl
        have hfzc_gb226_1 := blk_frozen BK226.out 1
        have hczc_gb230_0 : wgc.cell? ⟨gb230, 0, none⟩ = some (.int .i64 t227) := (blk_cell BK230.out 0).trans rfl
        have hfzc_gb230_0 := blk_frozen BK230.out 0
        have hczc_gb230_1 : wgc.cell? ⟨gb230, 1, none⟩ = some (.int .i64 t228) := (blk_cell BK230.out 1).trans rfl
        have hfzc_gb230_1 := blk_frozen BK230.out 1
        try clear hcz78_0
        try clear hcz78_1
        try clear hcz79_0
        try clear hcz79_1
        try clear hcz90_0
        try clear hcz90_1
        try clear hczg7_gb197_0
        try clear hczg7_gb197_1
        try clear hczg7_gb202_0
        try clear hczg7_gb202_1
        try clear hczg7_gb206_0
        try clear hczg7_gb206_1
        try clear hczg7_gb210_0
        try clear hczg7_gb210_1
        try clear hczg7_gb214_0
        try clear hczg7_gb214_1
        try clear hczg7_gb218_0
        try clear hczg7_gb218_1
        try clear hczg7_gb222_0
        try clear hczg7_gb222_1
        try clear hczg7_gb226_0
        try clear hczg7_gb226_1
        try clear hfz78_0
        try clear hfz78_1
        try clear hfz79_0
        try clear hfz79_1
        try clear hfz90_0
        try clear hfz90_1
        try clear hfzg7_gb197_0
        try clear hfzg7_gb197_1
        try clear hfzg7_gb202_0
        try clear hfzg7_gb202_1
        try clear hfzg7_gb206_0
        try clear hfzg7_gb206_1
        try clear hfzg7_gb210_0
        try clear hfzg7_gb210_1
        try clear hfzg7_gb214_0
        try clear hfzg7_gb214_1
        try clear hfzg7_gb218_0
        try clear hfzg7_gb218_1
        try clear hfzg7_gb222_0
        try clear hfzg7_gb222_1
        try clear hfzg7_gb226_0
        try clear hfzg7_gb226_1
        go_cut [32] (fun v32 wc => ∃ (kq : Nat) (x32_21 : Bool), v32 = .bool x32_21 ∧ Aside0 (fourinhandlaw15_XmpTells.j1 kq l1 a2 a5 a6 x32_21 a0_0 a0_1 = some r) ∧ Aside0 (kq ≤ kj8) ∧ Aside0 (wc.heap[gb197]? = some (.cells #[.int .i64 a0_0, .int .i64 a0_1] 30 (0, 0))) ∧ Aside0 (wc.heap[gb202]? = some (.cells #[.int .i64 t199, .int .i64 t200] 30 (0, 0))) ∧ Aside0 (wc.heap[gb206]? = some (.cells #[.int .i64 t203, .int .i64 t204] 30 (0, 0))) ∧ Aside0 (wc.heap[gb210]? = some (.cells #[.int .i64 t207, .int .i64 t208] 30 (0, 0))) ∧ Aside0 (wc.heap[gb214]? = some (.cells #[.int .i64 t211, .int .i64 t212] 30 (0, 0))) ∧ Aside0 (wc.heap[gb218]? = some (.cells #[.int .i64 t215, .int .i64 t216] 30 (0, 0))) ∧ Aside0 (wc.heap[gb222]? = some (.cells #[.int .i64 t219, .int .i64 t220] 30 (0, 0))) ∧ Aside0 (wc.heap[gb226]? = some (.cells #[.int .i64 t223, .int .i64 t224] 30 (0, 0))) ∧ Aside0 (wc.heap[gb230]? = some (.cells #[.int .i64 t227, .int .i64 t228] 30 (0, 0))) ∧ Aside0 (Below w.heap.size w wc))
        case first =>
          have H := HC22.out
          clear HC22
          by_cases c91 : (t199 == t203 && (t200 == t204)) = true
          · rw [if_pos c91] at H
            first | (with_reducible exact (fourinhandlaw15_XmpTells.j1_bad H hr_.out).elim) | skip
            all_goals
              have c91b0 : (t199 == t203 && (t200 == t204)) = true := c91
              (try (have c91b1 : decide (t199 = t203 && (t200 == t204)) = true := by simpa using c91))
              (try (have c91b2 : (t199 == t203 && (t200 == t204)) = true := by simpa using c91))
              clear c91
              (first | rw [c91b0] | (simp only [i64_w, i32_w]; rw [c91b0]) | skip)
              by_cases c92 : t201 = t205
              · rw [if_pos c92] at H
                first | (with_reducible exact (fourinhandlaw15_XmpTells.j1_bad H hr_.out).elim) | skip
                all_goals
                  have c92b0 : (t201 == t205) = true := beq_iff_eq.mpr c92
                  have c92b1 : (t201 != t205) = false := bne_eq_false_iff_eq.mpr c92
                  clear c92
                  by_cases c93 : (t207 == t211 && (t208 == t212)) = true
                  · rw [if_pos c93] at H
                    first | (with_reducible exact (fourinhandlaw15_XmpTells.j1_bad H hr_.out).elim) | skip
                    all_goals
                      have c93b0 : (t207 == t211 && (t208 == t212)) = true := c93
                      (try (have c93b1 : decide (t207 = t211 && (t208 == t212)) = true := by simpa using c93))
                      (try (have c93b2 : (t207 == t211 && (t208 == t212)) = true := by simpa using c93))
                      clear c93
                      by_cases c94 : t209 = t213
                      · rw [if_pos c94] at H
                        first | (with_reducible exact (fourinhandlaw15_XmpTells.j1_bad H hr_.out).elim) | skip
                        all_goals
                          have c94b0 : (t209 == t213) = true := beq_iff_eq.mpr c94
                          have c94b1 : (t209 != t213) = false := bne_eq_false_iff_eq.mpr c94
                          clear c94
                          by_cases c95 : (t215 == t219 && (t216 == t220)) = true
                          · rw [if_pos c95] at H
                            first | (with_reducible exact (fourinhandlaw15_XmpTells.j1_bad H hr_.out).elim) | skip
                            all_goals
                              have c95b0 : (t215 == t219 && (t216 == t220)) = true := c95
                              (try (have c95b1 : decide (t215 = t219 && (t216 == t220)) = true := by simpa using c95))
                              (try (have c95b2 : (t215 == t219 && (t216 == t220)) = true := by simpa using c95))
                              clear c95
                              by_cases c96 : t217 = t221
                              · rw [if_pos c96] at H
                                first | (with_reducible exact (fourinhandlaw15_XmpTells.j1_bad H hr_.out).elim) | skip
                                all_goals
                                  have c96b0 : (t217 == t221) = true := beq_iff_eq.mpr c96
                                  have c96b1 : (t217 != t221) = false := bne_eq_false_iff_eq.mpr c96
                                  clear c96
                                  by_cases c97 : (t223 == t227 && (t224 == t228)) = true
                                  · rw [if_pos c97] at H
                                    first | (with_reducible exact (fourinhandlaw15_XmpTells.j1_bad H hr_.out).elim) | skip
                                    all_goals
                                      have c97b0 : (t223 == t227 && (t224 == t228)) = true := c97
                                      (try (have c97b1 : decide (t223 = t227 && (t224 == t228)) = true := by simpa using c97))
                                      (try (have c97b2 : (t223 == t227 && (t224 == t228)) = true := by simpa using c97))
                                      clear c97
                                      have H' := Aside0.mk H
                                      clear H
                                      go_wp2
                                      go_meet
                                      case rel => exact ⟨_, ((t225 == t229)), (by first | rfl | (simp; done) | (simp [*]; done)), H', ⟨by have := HJ8.out; first | omega | exact Nat.le_refl _⟩, ⟨BK197.out⟩, ⟨BK202.out⟩, ⟨BK206.out⟩, ⟨BK210.out⟩, ⟨BK214.out⟩, ⟨BK218.out⟩, ⟨BK222.out⟩, ⟨BK226.out⟩, ⟨BK230.out⟩, ⟨HB.out⟩⟩
                                  · rw [if_neg c97] at H
                                    first | (with_reducible exact (fourinhandlaw15_XmpTells.j1_bad H hr_.out).elim) | skip
                                    all_goals
                                      have c97b0 : (t223 == t227 && (t224 == t228)) = false := by simpa using c97
                                      (try (have c97b1 : decide (t223 = t227 && (t224 == t228)) = false := by simpa using c97))
                                      (try (have c97b2 : (t223 == t227 && (t224 == t228)) = false := by simpa using c97))
                                      (try (have c97b3 : ¬ (t223 = t227 && (t224 == t228)) := by simpa using c97))
                                      clear c97
                                      have H' := Aside0.mk H
                                      clear H
                                      go_wp2
                                      go_meet
                                      case rel => exact ⟨_, (false), (by first | rfl | (simp; done) | (simp [*]; done)), H', ⟨by have := HJ8.out; first | omega | exact Nat.le_refl _⟩, ⟨BK197.out⟩, ⟨BK202.out⟩, ⟨BK206.out⟩, ⟨BK210.out⟩, ⟨BK214.out⟩, ⟨BK218.out⟩, ⟨BK222.out⟩, ⟨BK226.out⟩, ⟨BK230.out⟩, ⟨HB.out⟩⟩
                              · rw [if_neg c96] at H
                                first | (with_reducible exact (fourinhandlaw15_XmpTells.j1_bad H hr_.out).elim) | skip
                                all_goals
                                  have c96b0 : (t217 == t221) = false := beq_eq_false_iff_ne.mpr c96
                                  have c96b1 : (t217 != t221) = true := bne_iff_ne.mpr c96
                                  have H' := Aside0.mk H
                                  clear H
                                  go_wp2
                                  go_meet
                                  case rel => exact ⟨_, (false), (by first | rfl | (simp; done) | (simp [*]; done)), H', ⟨by have := HJ8.out; first | omega | exact Nat.le_refl _⟩, ⟨BK197.out⟩, ⟨BK202.out⟩, ⟨BK206.out⟩, ⟨BK210.out⟩, ⟨BK214.out⟩, ⟨BK218.out⟩, ⟨BK222.out⟩, ⟨BK226.out⟩, ⟨BK230.out⟩, ⟨HB.out⟩⟩
                          · rw [if_neg c95] at H
                            first | (with_reducible exact (fourinhandlaw15_XmpTells.j1_bad H hr_.out).elim) | skip
                            all_goals
                              have c95b0 : (t215 == t219 && (t216 == t220)) = false := by simpa using c95
                              (try (have c95b1 : decide (t215 = t219 && (t216 == t220)) = false := by simpa using c95))
                              (try (have c95b2 : (t215 == t219 && (t216 == t220)) = false := by simpa using c95))
                              (try (have c95b3 : ¬ (t215 = t219 && (t216 == t220)) := by simpa using c95))
                              clear c95
                              have H' := Aside0.mk H
                              clear H
                              go_wp2
                              go_meet
                              case rel => exact ⟨_, (false), (by first | rfl | (simp; done) | (simp [*]; done)), H', ⟨by have := HJ8.out; first | omega | exact Nat.le_refl _⟩, ⟨BK197.out⟩, ⟨BK202.out⟩, ⟨BK206.out⟩, ⟨BK210.out⟩, ⟨BK214.out⟩, ⟨BK218.out⟩, ⟨BK222.out⟩, ⟨BK226.out⟩, ⟨BK230.out⟩, ⟨HB.out⟩⟩
                      · rw [if_neg c94] at H
                        first | (with_reducible exact (fourinhandlaw15_XmpTells.j1_bad H hr_.out).elim) | skip
                        all_goals
                          have c94b0 : (t209 == t213) = false := beq_eq_false_iff_ne.mpr c94
                          have c94b1 : (t209 != t213) = true := bne_iff_ne.mpr c94
                          have H' := Aside0.mk H
                          clear H
                          go_wp2
                          go_meet
                          case rel => exact ⟨_, (false), (by first | rfl | (simp; done) | (simp [*]; done)), H', ⟨by have := HJ8.out; first | omega | exact Nat.le_refl _⟩, ⟨BK197.out⟩, ⟨BK202.out⟩, ⟨BK206.out⟩, ⟨BK210.out⟩, ⟨BK214.out⟩, ⟨BK218.out⟩, ⟨BK222.out⟩, ⟨BK226.out⟩, ⟨BK230.out⟩, ⟨HB.out⟩⟩
                  · rw [if_neg c93] at H
                    first | (with_reducible exact (fourinhandlaw15_XmpTells.j1_bad H hr_.out).elim) | skip
                    all_goals
                      have c93b0 : (t207 == t211 && (t208 == t212)) = false := by simpa using c93
                      (try (have c93b1 : decide (t207 = t211 && (t208 == t212)) = false := by simpa using c93))
                      (try (have c93b2 : (t207 == t211 && (t208 == t212)) = false := by simpa using c93))
                      (try (have c93b3 : ¬ (t207 = t211 && (t208 == t212)) := by simpa using c93))
                      clear c93
                      have H' := Aside0.mk H
                      clear H
                      go_wp2
                      go_meet
                      case rel => exact ⟨_, (false), (by first | rfl | (simp; done) | (simp [*]; done)), H', ⟨by have := HJ8.out; first | omega | exact Nat.le_refl _⟩, ⟨BK197.out⟩, ⟨BK202.out⟩, ⟨BK206.out⟩, ⟨BK210.out⟩, ⟨BK214.out⟩, ⟨BK218.out⟩, ⟨BK222.out⟩, ⟨BK226.out⟩, ⟨BK230.out⟩, ⟨HB.out⟩⟩
              · rw [if_neg c92] at H
                first | (with_reducible exact (fourinhandlaw15_XmpTells.j1_bad H hr_.out).elim) | skip
                all_goals
                  have c92b0 : (t201 == t205) = false := beq_eq_false_iff_ne.mpr c92
                  have c92b1 : (t201 != t205) = true := bne_iff_ne.mpr c92
                  have H' := Aside0.mk H
                  clear H
                  go_wp2
                  go_meet
                  case rel => exact ⟨_, (false), (by first | rfl | (simp; done) | (simp [*]; done)), H', ⟨by have := HJ8.out; first | omega | exact Nat.le_refl _⟩, ⟨BK197.out⟩, ⟨BK202.out⟩, ⟨BK206.out⟩, ⟨BK210.out⟩, ⟨BK214.out⟩, ⟨BK218.out⟩, ⟨BK222.out⟩, ⟨BK226.out⟩, ⟨BK230.out⟩, ⟨HB.out⟩⟩
          · rw [if_neg c91] at H
            first | (with_reducible exact (fourinhandlaw15_XmpTells.j1_bad H hr_.out).elim) | skip
            all_goals
              have c91b0 : (t199 == t203 && (t200 == t204)) = false := by simpa using c91
              (try (have c91b1 : decide (t199 = t203 && (t200 == t204)) = false := by simpa using c91))
              (try (have c91b2 : (t199 == t203 && (t200 == t204)) = false := by simpa using c91))
              (try (have c91b3 : ¬ (t199 = t203 && (t200 == t204)) := by simpa using c91))
              clear c91
              (first | rw [c91b0] | (simp only [i64_w, i32_w]; rw [c91b0]) | skip)
              have H' := Aside0.mk H
              clear H
              go_wp2
              go_meet
              case rel => exact ⟨_, (false), (by first | rfl | (simp; done) | (simp [*]; done)), H', ⟨by have := HJ8.out; first | omega | exact Nat.le_refl _⟩, ⟨BK197.out⟩, ⟨BK202.out⟩, ⟨BK206.out⟩, ⟨BK210.out⟩, ⟨BK214.out⟩, ⟨BK218.out⟩, ⟨BK222.out⟩, ⟨BK226.out⟩, ⟨BK230.out⟩, ⟨HB.out⟩⟩
        case rest =>
          clear HC22
          try clear c1
          try clear c2
          try clear p2
          try clear c3
          try clear c9
          try clear c13
          try clear c14
          try clear c15
          try clear c16
          try clear c17
          try clear c18
          try clear c19
          try clear c20
          try clear c21
          try clear c22
          try clear c23
          try clear c24
          try clear c25
          try clear c26
          try clear c27
          try clear c28
          try clear c29
          try clear c30
          try clear c31
          try clear c32
          try clear c33
          try clear c34
          try clear c35
          try clear c91
          try clear c91b0
          try clear c91b1
          try clear c91b2
          try clear c92
          try clear c92b0
          try clear c92b1
          try clear c93
          try clear c93b0
          try clear c93b1
          try clear c93b2
          try clear c94
          try clear c94b0
          try clear c94b1
          try clear c95
          try clear c95b0
          try clear c95b1
          try clear c95b2
          try clear c96
          try clear c96b0
          try clear c96b1
          try clear c97
          try clear c97b0
          try clear c97b1
          try clear c97b2
          try clear c131
          try clear c133
          try clear c134
          try clear c135
          try clear c137
          try clear c138
          try clear c140
          try clear c142
          try clear c143
          try clear c144
          try clear c145
          try clear c146
          try clear c147
          try clear c148
          try clear c149
          try clear c151
          try clear c152
          try clear c153
          try clear c154
          try clear c155
          try clear c156
          try clear c157
          try clear c159
          try clear c160
          try clear c161
          try clear c162
          try clear c163
          try clear c164
          try clear c166
          try clear c167
          try clear c168
          try clear c169
          try clear c170
          try clear c172
          try clear c173
          try clear c174
          try clear c175
          try clear c177
          try clear c178
          try clear c179
          try clear c181
          try clear c182
          try clear c184
          try clear c186
          try clear c187
          try clear c188
          try clear c189
          try clear c190
          try clear c191
          try clear c192
          try clear c193
          try clear c195
          try clear c196
          try clear c197
          try clear c198
          try clear c199
          try clear c200
          try clear c201
          try clear c203
          try clear c204
          try clear c205
          try clear c206
          try clear c207
          try clear c208
          try clear c210
          try clear c211
          try clear c212
          try clear c213
          try clear c214
          try clear c216
          try clear c217
          try clear c218
          try clear c219
          try clear c221
          try clear c222
          try clear c223
          try clear c225
          try clear c226
          try clear c227
          try clear c228
          try clear c229
          try clear c230
          try clear c231
          try clear c232
          try clear c234
          try clear c235
          try clear c236
          try clear c237
          try clear c238
          try clear c239
          try clear c240
          try clear c242
          try clear c243
          try clear c244
          try clear c245
          try clear c246
          try clear c247
          try clear c249
          try clear c250
          try clear c251
          try clear c252
          try clear c253
          try clear c255
          try clear c256
          try clear c257
          try clear c258
          try clear c260
          try clear c261
          try clear c262
          try clear c264
          try clear c265
          try clear c266
          try clear c267
          try clear c268
          try clear c269
          try clear c270
          try clear c271
          try clear c273
          try clear c274
          try clear c275
          try clear c276
          try clear c277
          try clear c278
          try clear c279
          try clear c281
          try clear c282
          try clear c283
          try clear c284
          try clear c285
          try clear c286
          try clear c288
          try clear c289
          try clear c290
          try clear c291
          try clear c292
          try clear c294
          try clear c295
          try clear c296
          try clear c297
          try clear c298
          try clear c299
          try clear c300
          try clear c301
          try clear c303
          try clear c304
          try clear c305
          try clear c306
          try clear c307
          try clear c308
          try clear c309
          try clear c311
          try clear c312
          try clear c313
          try clear c314
          try clear c315
          try clear c316
          try clear c318
          try clear c319
          try clear c320
          try clear c321
          try clear c322
          try clear c324
          try clear c325
          try clear c326
          try clear c327
          try clear c328
          try clear c329
          try clear c330
          try clear c331
          try clear c333
          try clear c334
          try clear c335
          try clear c336
          try clear c337
          try clear c338
          try clear c339
          try clear c341
          try clear c342
          try clear c343
          try clear c344
          try clear c345
          try clear c346
          try clear c347
          try clear c348
          try clear c350
          try clear c351
          try clear c352
          try clear c353
          try clear c354
          try clear c355
          try clear c356
          try clear hcz132_0
          try clear hcz132_1
          try clear hcz136_0
          try clear hcz136_1
          try clear hcz139_0
          try clear hcz139_1
          try clear hcz141_0
          try clear hcz141_1
          try clear hcz150_0
          try clear hcz150_1
          try clear hcz158_0
          try clear hcz158_1
          try clear hcz165_0
          try clear hcz165_1
          try clear hcz171_0
          try clear hcz171_1
          try clear hcz176_0
          try clear hcz176_1
          try clear hcz180_0
          try clear hcz180_1
          try clear hcz183_0
          try clear hcz183_1
          try clear hcz185_0
          try clear hcz185_1
          try clear hcz194_0
          try clear hcz194_1
          try clear hcz202_0
          try clear hcz202_1
          try clear hcz209_0
          try clear hcz209_1
          try clear hcz215_0
          try clear hcz215_1
          try clear hcz220_0
          try clear hcz220_1
          try clear hcz224_0
          try clear hcz224_1
          try clear hcz233_0
          try clear hcz233_1
          try clear hcz241_0
          try clear hcz241_1
          try clear hcz248_0
          try clear hcz248_1
          try clear hcz254_0
          try clear hcz254_1
          try clear hcz259_0
          try clear hcz259_1
          try clear hcz263_0
          try clear hcz263_1
          try clear hcz272_0
          try clear hcz272_1
          try clear hcz280_0
          try clear hcz280_1
          try clear hcz287_0
          try clear hcz287_1
          try clear hcz293_0
          try clear hcz293_1
          try clear hcz302_0
          try clear hcz302_1
          try clear hcz310_0
          try clear hcz310_1
          try clear hcz317_0
          try clear hcz317_1
          try clear hcz323_0
          try clear hcz323_1
          try clear hcz332_0
          try clear hcz332_1
          try clear hcz340_0
          try clear hcz340_1
          try clear hcz349_0
          try clear hcz349_1
          try clear hcz357_0
          try clear hcz357_1
          try clear hfz132_0
          try clear hfz132_1
          try clear hfz136_0
          try clear hfz136_1
          try clear hfz139_0
          try clear hfz139_1
          try clear hfz141_0
          try clear hfz141_1
          try clear hfz150_0
          try clear hfz150_1
          try clear hfz158_0
          try clear hfz158_1
          try clear hfz165_0
          try clear hfz165_1
          try clear hfz171_0
          try clear hfz171_1
          try clear hfz176_0
          try clear hfz176_1
          try clear hfz180_0
          try clear hfz180_1
          try clear hfz183_0
          try clear hfz183_1
          try clear hfz185_0
          try clear hfz185_1
          try clear hfz194_0
          try clear hfz194_1
          try clear hfz202_0
          try clear hfz202_1
          try clear hfz209_0
          try clear hfz209_1
          try clear hfz215_0
          try clear hfz215_1
          try clear hfz220_0
          try clear hfz220_1
          try clear hfz224_0
          try clear hfz224_1
          try clear hfz233_0
          try clear hfz233_1
          try clear hfz241_0
          try clear hfz241_1
          try clear hfz248_0
          try clear hfz248_1
          try clear hfz254_0
          try clear hfz254_1
          try clear hfz259_0
          try clear hfz259_1
          try clear hfz263_0
          try clear hfz263_1
          try clear hfz272_0
          try clear hfz272_1
          try clear hfz280_0
          try clear hfz280_1
          try clear hfz287_0
          try clear hfz287_1
          try clear hfz293_0
          try clear hfz293_1
          try clear hfz302_0
          try clear hfz302_1
          try clear hfz310_0
          try clear hfz310_1
          try clear hfz317_0
          try clear hfz317_1
          try clear hfz323_0
          try clear hfz323_1
          try clear hfz332_0
          try clear hfz332_1
          try clear hfz340_0
          try clear hfz340_1
          try clear hfz349_0
          try clear hfz349_1
          try clear hfz357_0
          try clear hfz357_1
          obtain ⟨kq, x32_21, rfl, HA, HJ21, BK197, BK202, BK206, BK210, BK214, BK218, BK222, BK226, BK230, HB⟩ := hcut
          cases kq with
          | zero => exact absurd HA.out (by simp [fourinhandlaw15_XmpTells.j1])
          | succ kj21 =>
            have H := HA.out
            clear HA
            simp only [fourinhandlaw15_XmpTells.j1] at H
            by_cases c358 : x32_21 = true
            · subst c358
              have H1 : ((xmp_Share.f kj21 l1 a2 a5).bind fun t231 => ((fourinhandref15_Share.f kj21 l1 a2 a5).bind fun t232 => (if t231 = t232 then ((xmp_May.f a0_0 a0_1 a5 a6).bind fun t233 => ((fourinhandref15_May.f a0_0 a0_1 a5 a6).bind fun t234 => (some (t233 == t234)))) else (some false)))) = some r := by rw [if_pos rfl] at H; exact H
              clear H
              have H := H1
              clear H1
              replace H := Option.bind_eq_some_iff.mp H
              obtain ⟨t231, A3590, H⟩ := H
              replace H : ((fourinhandref15_Share.f kj21 l1 a2 a5).bind fun t232 => (if t231 = t232 then ((xmp_May.f a0_0 a0_1 a5 a6).bind fun t233 => ((fourinhandref15_May.f a0_0 a0_1 a5 a6).bind fun t234 => (some (t233 == t234)))) else (some false))) = some r := H
              have A359 := Aside0.mk A3590
              clear A3590
              replace H := Option.bind_eq_some_iff.mp H
              obtain ⟨t232, A3600, H⟩ := H
              replace H : (if t231 = t232 then ((xmp_May.f a0_0 a0_1 a5 a6).bind fun t233 => ((fourinhandref15_May.f a0_0 a0_1 a5 a6).bind fun t234 => (some (t233 == t234)))) else (some false)) = some r := H
              have A360 := Aside0.mk A3600
              clear A3600
              by_cases c361 : t231 = t232
              · rw [if_pos c361] at H
                first | (with_reducible exact (fourinhandlaw15_XmpTells.j1_bad H hr_.out).elim) | skip
                all_goals
                  have c361b0 : (t231 == t232) = true := beq_iff_eq.mpr c361
                  have c361b1 : (t231 != t232) = false := bne_eq_false_iff_eq.mpr c361
                  clear c361
                  replace H := Option.bind_eq_some_iff.mp H
                  obtain ⟨t233, A3620, H⟩ := H
                  replace H : ((fourinhandref15_May.f a0_0 a0_1 a5 a6).bind fun t234 => (some (t233 == t234))) = some r := H
                  have A362 := Aside0.mk A3620
                  clear A3620
                  replace H := Option.bind_eq_some_iff.mp H
                  obtain ⟨t234, A3630, H⟩ := H
                  replace H : (some (t233 == t234)) = some r := H
                  have A363 := Aside0.mk A3630
                  clear A3630
                  obtain rfl := Option.some.inj H
                  try go_wp2
                  have n0_ := Aside0.mk (blk_drew BK197.out)
                  have n1_ := Aside0.mk (blk_drew BK202.out)
                  have n2_ := Aside0.mk (blk_drew BK206.out)
                  have n3_ := Aside0.mk (blk_drew BK210.out)
                  have n4_ := Aside0.mk (blk_drew BK214.out)
                  have n5_ := Aside0.mk (blk_drew BK218.out)
                  have n6_ := Aside0.mk (blk_drew BK222.out)
                  have n7_ := Aside0.mk (blk_drew BK226.out)
                  have n8_ := Aside0.mk (blk_drew BK230.out)
                  have n9_ := Aside0.mk (below_drew1 HB.out)
                  clear BK197
                  clear BK202
                  clear BK206
                  clear BK210
                  clear BK214
                  clear BK218
                  clear BK222
                  clear BK226
                  clear BK230
                  clear HB
                  have BK197 := n0_
                  have BK202 := n1_
                  have BK206 := n2_
                  have BK210 := n3_
                  have BK214 := n4_
                  have BK218 := n5_
                  have BK222 := n6_
                  have BK226 := n7_
                  have BK230 := n8_
                  have HB := n9_
                  clear n0_ n1_ n2_ n3_ n4_ n5_ n6_ n7_ n8_ n9_
                  refine start_ (n := 24) (S := fun w' => w'.cell? ⟨gb197, 0, none⟩ = some (.int .i64 a0_0) ∧ w'.cell? ⟨gb197, 1, none⟩ = some (.int .i64 a0_1)) (ds := []) #[false, false, false, false, false, false, false, false, false, false, false, false, false, false, false, false, false, false, false, false, false, false, false, false] (by kernel_rfl) rfl rfl ⟨(blk_cell BK197.out 0).trans rfl, (blk_cell BK197.out 1).trans rfl⟩ (fun hHeld => ?_); refine with_tabW fourinhandlaw15_XmpTells.tab13 fourinhandlaw15_XmpTells.bits13 (fun HT_ HW_ => ?_)
                  generalize wc.drew = w364 at BK197 BK202 BK206 BK210 BK214 BK218 BK222 BK226 BK230 HB hHeld ⊢
                  refine pure_ (i := 0) (N := some 144) (v := ?_) (a' := ?_) #[true, false, false, false, false, false, false, false, false, false, false, false, false, false, false, false, false, false, false, false, false, false, false, false] rfl rfl (any_of HT_.out (by kernel_rfl)) (fun _ _ _ h => h) (Or.inl ⟨by rfl, ?_⟩) ?_ ?_
                  rotate_left
                  · intro w'
                    go_simp
                    with_reducible rfl
                  rotate_left
                  · simp only [Act.put, List.setIfInBounds_toArray, List.set_cons_zero, List.set_cons_succ, i64_w, i32_w]
                    rfl
                  refine pure_ (i := 1) (N := some 145) (v := ?_) (a' := ?_) #[true, true, false, false, false, false, false, false, false, false, false, false, false, false, false, false, false, false, false, false, false, false, false, false] rfl rfl (any_of HT_.out (by kernel_rfl)) (fun _ _ _ h => h) (Or.inl ⟨by rfl, ?_⟩) ?_ ?_
                  rotate_left
                  · intro w'
                    go_simp
                    with_reducible rfl
                  rotate_left
                  · simp only [Act.put, List.setIfInBounds_toArray, List.set_cons_zero, List.set_cons_succ, i64_w, i32_w]
                    rfl
                  refine pure_ (i := 2) (N := some 146) (v := ?_) (a' := ?_) #[true, true, true, false, false, false, false, false, false, false, false, false, false, false, false, false, false, false, false, false, false, false, false, false] rfl rfl (any_of HT_.out (by kernel_rfl)) (fun _ _ _ h => h) (Or.inl ⟨by rfl, ?_⟩) ?_ ?_
                  rotate_left
                  · intro w'
                    go_simp
                    with_reducible rfl
                  rotate_left
                  · simp only [Act.put, List.setIfInBounds_toArray, List.set_cons_zero, List.set_cons_succ, i64_w, i32_w]
                    rfl
                  refine pure_ (i := 3) (N := some 147) (v := ?_) (a' := ?_) #[true, true, true, true, false, false, false, false, false, false, false, false, false, false, false, false, false, false, false, false, false, false, false, false] rfl rfl (any_of HT_.out (by kernel_rfl)) (fun _ _ _ h => h) (Or.inl ⟨by rfl, ?_⟩) ?_ ?_
                  rotate_left
                  · intro w'
                    go_simp
                    with_reducible rfl
                  rotate_left
                  · simp only [Act.put, List.setIfInBounds_toArray, List.set_cons_zero, List.set_cons_succ, i64_w, i32_w]
                    rfl
                  refine pure_ (i := 4) (N := some 148) (v := ?_) (a' := ?_) #[true, true, true, true, true, false, false, false, false, false, false, false, false, false, false, false, false, false, false, false, false, false, false, false] rfl rfl (any_of HT_.out (by kernel_rfl)) (fun _ _ _ h => h) (Or.inl ⟨by rfl, ?_⟩) ?_ ?_
                  rotate_left
                  · intro w'
                    go_simp
                    with_reducible rfl
                  rotate_left
                  · simp only [Act.put, List.setIfInBounds_toArray, List.set_cons_zero, List.set_cons_succ, i64_w, i32_w]
                    rfl
                  refine pure_ (i := 6) (N := some 150) (v := ?_) (a' := ?_) #[true, true, true, true, true, false, true, false, false, false, false, false, false, false, false, false, false, false, false, false, false, false, false, false] rfl rfl (any_of HT_.out (by kernel_rfl)) (fun _ _ _ h => h) (Or.inl ⟨by rfl, ?_⟩) ?_ ?_
                  rotate_left
                  · intro w'
                    go_simp
                    with_reducible rfl
                  rotate_left
                  · simp only [Act.put, List.setIfInBounds_toArray, List.set_cons_zero, List.set_cons_succ, i64_w, i32_w]
                    rfl
                  refine pure_ (i := 7) (N := some 151) (v := ?_) (a' := ?_) #[true, true, true, true, true, false, true, true, false, false, false, false, false, false, false, false, false, false, false, false, false, false, false, false] rfl rfl (any_of HT_.out (by kernel_rfl)) (fun _ _ _ h => h) (Or.inl ⟨by rfl, ?_⟩) ?_ ?_
                  rotate_left
                  · intro w'
                    go_simp
                    with_reducible rfl
                  rotate_left
                  · simp only [Act.put, List.setIfInBounds_toArray, List.set_cons_zero, List.set_cons_succ, i64_w, i32_w]
                    rfl
                  refine pure_ (i := 8) (N := some 152) (v := ?_) (a' := ?_) #[true, true, true, true, true, false, true, true, true, false, false, false, false, false, false, false, false, false, false, false, false, false, false, false] rfl rfl (any_of HT_.out (by kernel_rfl)) (fun _ _ _ h => h) (Or.inl ⟨by rfl, ?_⟩) ?_ ?_
                  rotate_left
                  · intro w'
                    go_simp
                    with_reducible rfl
                  rotate_left
                  · simp only [Act.put, List.setIfInBounds_toArray, List.set_cons_zero, List.set_cons_succ, i64_w, i32_w]
                    rfl
                  refine one_ (i := 5) (N := some 149) #[true, true, true, true, true, true, true, true, true, false, false, false, false, false, false, false, false, false, false, false, false, false, false, false] rfl rfl (one_of HT_.out (by kernel_rfl)) (by decide) (fun K hK => ?_)
                  refine goes_ Try.func10 (by kernel_rfl) rfl #[.slice A1 l1.length c1, .int .i64 a2, .int .i64 a5] (by rfl) rfl rfl (by (try simp only [List.map_toArray, List.map_cons, List.map_nil]); first | done | rfl | (simp only [List.length_drop, List.length_take]; rfl)) ?_
                  with_reducible refine (xmp_Share.calls kj21 _ _ l1 a2 a5 t231 _ ?side1 ?side2 A359.out).mono ?_
                  (case side1 => repeat (first | exact (Kd.C_below HR1.out HB.out) | (with_reducible refine Kd.C_alloc ?_ _) | (with_reducible refine Kd.C_drewN ?_ _) | (with_reducible refine Kd.C_drew ?_)))
                  (case side2 => exact HC1.out)
                  rintro e w365 ⟨rfl, hb⟩
                  refine ⟨_, rfl, ?_⟩
                  have n0_ := Aside0.mk (blk_below (g := gb197) (o := .cells #[.int .i64 a0_0, .int .i64 a0_1] 30 (0, 0)) (by (with_reducible repeat (first | refine blk_drewN ?_ _ | refine blk_drew ?_ | refine blk_alloc ?_ _)); exact BK197.out) hb)
                  have n1_ := Aside0.mk (blk_below (g := gb202) (o := .cells #[.int .i64 t199, .int .i64 t200] 30 (0, 0)) (by (with_reducible repeat (first | refine blk_drewN ?_ _ | refine blk_drew ?_ | refine blk_alloc ?_ _)); exact BK202.out) hb)
                  have n2_ := Aside0.mk (blk_below (g := gb206) (o := .cells #[.int .i64 t203, .int .i64 t204] 30 (0, 0)) (by (with_reducible repeat (first | refine blk_drewN ?_ _ | refine blk_drew ?_ | refine blk_alloc ?_ _)); exact BK206.out) hb)
                  have n3_ := Aside0.mk (blk_below (g := gb210) (o := .cells #[.int .i64 t207, .int .i64 t208] 30 (0, 0)) (by (with_reducible repeat (first | refine blk_drewN ?_ _ | refine blk_drew ?_ | refine blk_alloc ?_ _)); exact BK210.out) hb)
                  have n4_ := Aside0.mk (blk_below (g := gb214) (o := .cells #[.int .i64 t211, .int .i64 t212] 30 (0, 0)) (by (with_reducible repeat (first | refine blk_drewN ?_ _ | refine blk_drew ?_ | refine blk_alloc ?_ _)); exact BK214.out) hb)
                  have n5_ := Aside0.mk (blk_below (g := gb218) (o := .cells #[.int .i64 t215, .int .i64 t216] 30 (0, 0)) (by (with_reducible repeat (first | refine blk_drewN ?_ _ | refine blk_drew ?_ | refine blk_alloc ?_ _)); exact BK218.out) hb)
                  have n6_ := Aside0.mk (blk_below (g := gb222) (o := .cells #[.int .i64 t219, .int .i64 t220] 30 (0, 0)) (by (with_reducible repeat (first | refine blk_drewN ?_ _ | refine blk_drew ?_ | refine blk_alloc ?_ _)); exact BK222.out) hb)
                  have n7_ := Aside0.mk (blk_below (g := gb226) (o := .cells #[.int .i64 t223, .int .i64 t224] 30 (0, 0)) (by (with_reducible repeat (first | refine blk_drewN ?_ _ | refine blk_drew ?_ | refine blk_alloc ?_ _)); exact BK226.out) hb)
                  have n8_ := Aside0.mk (blk_below (g := gb230) (o := .cells #[.int .i64 t227, .int .i64 t228] 30 (0, 0)) (by (with_reducible repeat (first | refine blk_drewN ?_ _ | refine blk_drew ?_ | refine blk_alloc ?_ _)); exact BK230.out) hb)
                  have n9_ := Aside0.mk (below_step (by repeat (first | (with_reducible first | exact HB.out | apply below_alloc | apply pw_below_drewN | apply below_drew1 | refine below_set ?_ GE197.out | refine below_set ?_ GE202.out | refine below_set ?_ GE206.out | refine below_set ?_ GE210.out | refine below_set ?_ GE214.out | refine below_set ?_ GE218.out | refine below_set ?_ GE222.out | refine below_set ?_ GE226.out | refine below_set ?_ GE230.out) | exact HB.out)) hb)
                  clear BK197
                  clear BK202
                  clear BK206
                  clear BK210
                  clear BK214
                  clear BK218
                  clear BK222
                  clear BK226
                  clear BK230
                  clear HB
                  have BK197 := n0_
                  have BK202 := n1_
                  have BK206 := n2_
                  have BK210 := n3_
                  have BK214 := n4_
                  have BK218 := n5_
                  have BK222 := n6_
                  have BK226 := n7_
                  have BK230 := n8_
                  have HB := n9_
                  clear n0_ n1_ n2_ n3_ n4_ n5_ n6_ n7_ n8_ n9_
                  (try clear hb)
                  (try clear hb2)
                  (try clear hk)
                  (try clear hi)
                  refine hK.out _ _ ⟨(blk_cell BK197.out 0).trans rfl, (blk_cell BK197.out 1).trans rfl⟩ (fun hHeld => ?_)
                  clear hK K
                  refine norm_ (a' := ?_) ?_ ?_
                  rotate_left
                  · show Act.put _ (some 149) _ = _
                    simp only [Act.put, List.setIfInBounds_toArray, List.set_cons_zero, List.set_cons_succ, i64_w, i32_w]
                    rfl
                  refine one_ (i := 9) (N := some 153) #[true, true, true, true, true, true, true, true, true, true, false, false, false, false, false, false, false, false, false, false, false, false, false, false] rfl rfl (one_of HT_.out (by kernel_rfl)) (by decide) (fun K hK => ?_)
                  refine goes_ Try.func20 (by kernel_rfl) rfl #[.slice A1 l1.length c1, .int .i64 a2, .int .i64 a5] (by rfl) rfl rfl (by (try simp only [List.map_toArray, List.map_cons, List.map_nil]); first | done | rfl | (simp only [List.length_drop, List.length_take]; rfl)) ?_
                  with_reducible refine (fourinhandref15_Share.calls kj21 _ _ l1 a2 a5 t232 _ ?side1 ?side2 A360.out).mono ?_
                  (case side1 => repeat (first | exact (Kd.C_below HR1.out HB.out) | (with_reducible refine Kd.C_alloc ?_ _) | (with_reducible refine Kd.C_drewN ?_ _) | (with_reducible refine Kd.C_drew ?_)))
                  (case side2 => exact HC1.out)
                  rintro e w366 ⟨rfl, hb⟩
                  refine ⟨_, rfl, ?_⟩
                  have n0_ := Aside0.mk (blk_below (g := gb197) (o := .cells #[.int .i64 a0_0, .int .i64 a0_1] 30 (0, 0)) (by (with_reducible repeat (first | refine blk_drewN ?_ _ | refine blk_drew ?_ | refine blk_alloc ?_ _)); exact BK197.out) hb)
                  have n1_ := Aside0.mk (blk_below (g := gb202) (o := .cells #[.int .i64 t199, .int .i64 t200] 30 (0, 0)) (by (with_reducible repeat (first | refine blk_drewN ?_ _ | refine blk_drew ?_ | refine blk_alloc ?_ _)); exact BK202.out) hb)
                  have n2_ := Aside0.mk (blk_below (g := gb206) (o := .cells #[.int .i64 t203, .int .i64 t204] 30 (0, 0)) (by (with_reducible repeat (first | refine blk_drewN ?_ _ | refine blk_drew ?_ | refine blk_alloc ?_ _)); exact BK206.out) hb)
                  have n3_ := Aside0.mk (blk_below (g := gb210) (o := .cells #[.int .i64 t207, .int .i64 t208] 30 (0, 0)) (by (with_reducible repeat (first | refine blk_drewN ?_ _ | refine blk_drew ?_ | refine blk_alloc ?_ _)); exact BK210.out) hb)
                  have n4_ := Aside0.mk (blk_below (g := gb214) (o := .cells #[.int .i64 t211, .int .i64 t212] 30 (0, 0)) (by (with_reducible repeat (first | refine blk_drewN ?_ _ | refine blk_drew ?_ | refine blk_alloc ?_ _)); exact BK214.out) hb)
                  have n5_ := Aside0.mk (blk_below (g := gb218) (o := .cells #[.int .i64 t215, .int .i64 t216] 30 (0, 0)) (by (with_reducible repeat (first | refine blk_drewN ?_ _ | refine blk_drew ?_ | refine blk_alloc ?_ _)); exact BK218.out) hb)
                  have n6_ := Aside0.mk (blk_below (g := gb222) (o := .cells #[.int .i64 t219, .int .i64 t220] 30 (0, 0)) (by (with_reducible repeat (first | refine blk_drewN ?_ _ | refine blk_drew ?_ | refine blk_alloc ?_ _)); exact BK222.out) hb)
                  have n7_ := Aside0.mk (blk_below (g := gb226) (o := .cells #[.int .i64 t223, .int .i64 t224] 30 (0, 0)) (by (with_reducible repeat (first | refine blk_drewN ?_ _ | refine blk_drew ?_ | refine blk_alloc ?_ _)); exact BK226.out) hb)
                  have n8_ := Aside0.mk (blk_below (g := gb230) (o := .cells #[.int .i64 t227, .int .i64 t228] 30 (0, 0)) (by (with_reducible repeat (first | refine blk_drewN ?_ _ | refine blk_drew ?_ | refine blk_alloc ?_ _)); exact BK230.out) hb)
                  have n9_ := Aside0.mk (below_step (by repeat (first | (with_reducible first | exact HB.out | apply below_alloc | apply pw_below_drewN | apply below_drew1 | refine below_set ?_ GE197.out | refine below_set ?_ GE202.out | refine below_set ?_ GE206.out | refine below_set ?_ GE210.out | refine below_set ?_ GE214.out | refine below_set ?_ GE218.out | refine below_set ?_ GE222.out | refine below_set ?_ GE226.out | refine below_set ?_ GE230.out) | exact HB.out)) hb)
                  clear BK197
                  clear BK202
                  clear BK206
                  clear BK210
                  clear BK214
                  clear BK218
                  clear BK222
                  clear BK226
                  clear BK230
                  clear HB
                  have BK197 := n0_
                  have BK202 := n1_
                  have BK206 := n2_
                  have BK210 := n3_
                  have BK214 := n4_
                  have BK218 := n5_
                  have BK222 := n6_
                  have BK226 := n7_
                  have BK230 := n8_
                  have HB := n9_
                  clear n0_ n1_ n2_ n3_ n4_ n5_ n6_ n7_ n8_ n9_
                  (try clear hb)
                  (try clear hb2)
                  (try clear hk)
                  (try clear hi)
                  refine hK.out _ _ ⟨(blk_cell BK197.out 0).trans rfl, (blk_cell BK197.out 1).trans rfl⟩ (fun hHeld => ?_)
                  clear hK K
                  refine norm_ (a' := ?_) ?_ ?_
                  rotate_left
                  · show Act.put _ (some 153) _ = _
                    simp only [Act.put, List.setIfInBounds_toArray, List.set_cons_zero, List.set_cons_succ, i64_w, i32_w]
                    rfl
                  refine pure_ (i := 10) (N := some 154) (v := ?_) (a' := ?_) #[true, true, true, true, true, true, true, true, true, true, true, false, false, false, false, false, false, false, false, false, false, false, false, false] rfl rfl (any_of HT_.out (by kernel_rfl)) (fun _ _ _ h => h) (Or.inl ⟨by rfl, ?_⟩) ?_ ?_
                  rotate_left
                  · intro w'
                    go_simp
                    with_reducible rfl
                  rotate_left
                  · simp only [Act.put, List.setIfInBounds_toArray, List.set_cons_zero, List.set_cons_succ, i64_w, i32_w]
                    rfl
                  refine pure_ (i := 11) (N := some 155) (v := ?_) (a' := ?_) #[true, true, true, true, true, true, true, true, true, true, true, true, false, false, false, false, false, false, false, false, false, false, false, false] rfl rfl (any_of HT_.out (by kernel_rfl)) (fun _ _ _ h => h) (Or.inl ⟨by rfl, ?_⟩) ?_ ?_
                  rotate_left
                  · intro w'
                    go_simp
                    with_reducible rfl
                  rotate_left
                  · simp only [Act.put, List.setIfInBounds_toArray, List.set_cons_zero, List.set_cons_succ, i64_w, i32_w]
                    rfl
                  refine pure_ (i := 12) (N := some 156) (v := ?_) (a' := ?_) #[true, true, true, true, true, true, true, true, true, true, true, true, true, false, false, false, false, false, false, false, false, false, false, false] rfl rfl (any_of HT_.out (by kernel_rfl)) (fun _ _ _ h => h) (Or.inl ⟨by rfl, ?_⟩) ?_ ?_
                  rotate_left
                  · intro w'
                    go_simp
                    with_reducible rfl
                  rotate_left
                  · simp only [Act.put, List.setIfInBounds_toArray, List.set_cons_zero, List.set_cons_succ, i64_w, i32_w]
                    rfl
                  refine pure_ (i := 14) (N := some 158) (v := ?_) (a' := ?_) #[true, true, true, true, true, true, true, true, true, true, true, true, true, false, true, false, false, false, false, false, false, false, false, false] rfl rfl (any_of HT_.out (by kernel_rfl)) (fun _ _ _ h => h) (Or.inl ⟨by rfl, ?_⟩) ?_ ?_
                  rotate_left
                  · intro w'
                    go_simp
                    with_reducible rfl
                  rotate_left
                  · simp only [Act.put, List.setIfInBounds_toArray, List.set_cons_zero, List.set_cons_succ, i64_w, i32_w]
                    rfl
                  refine pure_ (i := 15) (N := some 159) (v := ?_) (a' := ?_) #[true, true, true, true, true, true, true, true, true, true, true, true, true, false, true, true, false, false, false, false, false, false, false, false] rfl rfl (any_of HT_.out (by kernel_rfl)) (fun _ _ _ h => h) (Or.inl ⟨by rfl, ?_⟩) ?_ ?_
                  rotate_left
                  · intro w'
                    go_simp
                    with_reducible rfl
                  rotate_left
                  · simp only [Act.put, List.setIfInBounds_toArray, List.set_cons_zero, List.set_cons_succ, i64_w, i32_w]
                    rfl
                  refine pure_ (i := 18) (N := some 162) (v := ?_) (a' := ?_) #[true, true, true, true, true, true, true, true, true, true, true, true, true, false, true, true, false, false, true, false, false, false, false, false] rfl rfl (any_of HT_.out (by kernel_rfl)) (fun _ _ _ h => h) (Or.inl ⟨by rfl, ?_⟩) ?_ ?_
                  rotate_left
                  · intro w'
                    go_simp
                    with_reducible rfl
                  rotate_left
                  · simp only [Act.put, List.setIfInBounds_toArray, List.set_cons_zero, List.set_cons_succ, i64_w, i32_w]
                    rfl
                  refine pure_ (i := 19) (N := some 163) (v := ?_) (a' := ?_) #[true, true, true, true, true, true, true, true, true, true, true, true, true, false, true, true, false, false, true, true, false, false, false, false] rfl rfl (any_of HT_.out (by kernel_rfl)) (fun _ _ _ h => h) (Or.inl ⟨by rfl, ?_⟩) ?_ ?_
                  rotate_left
                  · intro w'
                    go_simp
                    with_reducible rfl
                  rotate_left
                  · simp only [Act.put, List.setIfInBounds_toArray, List.set_cons_zero, List.set_cons_succ, i64_w, i32_w]
                    rfl
                  refine take_ (i := 13) (N := some 157) (v := ?_) (a' := ?_) #[true, true, true, true, true, true, true, true, true, true, true, true, true, true, true, true, false, false, true, true, false, false, false, false] rfl rfl (take_ofW HT_.out HW_.out (by kernel_rfl)) (fun _ _ _ h => h) (Or.inl ⟨by rfl, ?_⟩) hHeld ?_ ?_
                  rotate_left
                  · rintro w' ⟨s0, s1⟩
                    go_simp
                    with_reducible rfl
                  rotate_left
                  · simp only [Act.put, List.setIfInBounds_toArray, List.set_cons_zero, List.set_cons_succ, i64_w, i32_w]
                    rfl
                  refine take_ (i := 17) (N := some 161) (v := ?_) (a' := ?_) #[true, true, true, true, true, true, true, true, true, true, true, true, true, true, true, true, false, true, true, true, false, false, false, false] rfl rfl (take_ofW HT_.out HW_.out (by kernel_rfl)) (fun _ _ _ h => h) (Or.inl ⟨by rfl, ?_⟩) hHeld ?_ ?_
                  rotate_left
                  · rintro w' ⟨s0, s1⟩
                    go_simp
                    with_reducible rfl
                  rotate_left
                  · simp only [Act.put, List.setIfInBounds_toArray, List.set_cons_zero, List.set_cons_succ, i64_w, i32_w]
                    rfl
                  refine one_ (i := 16) (N := some 160) #[true, true, true, true, true, true, true, true, true, true, true, true, true, true, true, true, true, true, true, true, false, false, false, false] rfl rfl (one_of HT_.out (by kernel_rfl)) (by decide) (fun K hK => ?_)
                  refine goes_ Try.func11 (by kernel_rfl) rfl #[.agg #[.int .i64 a0_0, .int .i64 a0_1], .int .i64 a5, .int .i64 a6] (by rfl) rfl rfl (by (try simp only [List.map_toArray, List.map_cons, List.map_nil]); first | done | rfl | (simp only [List.length_drop, List.length_take]; rfl)) ?_
                  with_reducible refine (xmp_May.calls a0_0 a0_1 a5 a6 t233 _ A362.out).mono ?_
                  rintro e w367 ⟨rfl, hb⟩
                  refine ⟨_, rfl, ?_⟩
                  have n0_ := Aside0.mk (blk_below (g := gb197) (o := .cells #[.int .i64 a0_0, .int .i64 a0_1] 30 (0, 0)) (by (with_reducible repeat (first | refine blk_drewN ?_ _ | refine blk_drew ?_ | refine blk_alloc ?_ _)); exact BK197.out) hb)
                  have n1_ := Aside0.mk (blk_below (g := gb202) (o := .cells #[.int .i64 t199, .int .i64 t200] 30 (0, 0)) (by (with_reducible repeat (first | refine blk_drewN ?_ _ | refine blk_drew ?_ | refine blk_alloc ?_ _)); exact BK202.out) hb)
                  have n2_ := Aside0.mk (blk_below (g := gb206) (o := .cells #[.int .i64 t203, .int .i64 t204] 30 (0, 0)) (by (with_reducible repeat (first | refine blk_drewN ?_ _ | refine blk_drew ?_ | refine blk_alloc ?_ _)); exact BK206.out) hb)
                  have n3_ := Aside0.mk (blk_below (g := gb210) (o := .cells #[.int .i64 t207, .int .i64 t208] 30 (0, 0)) (by (with_reducible repeat (first | refine blk_drewN ?_ _ | refine blk_drew ?_ | refine blk_alloc ?_ _)); exact BK210.out) hb)
                  have n4_ := Aside0.mk (blk_below (g := gb214) (o := .cells #[.int .i64 t211, .int .i64 t212] 30 (0, 0)) (by (with_reducible repeat (first | refine blk_drewN ?_ _ | refine blk_drew ?_ | refine blk_alloc ?_ _)); exact BK214.out) hb)
                  have n5_ := Aside0.mk (blk_below (g := gb218) (o := .cells #[.int .i64 t215, .int .i64 t216] 30 (0, 0)) (by (with_reducible repeat (first | refine blk_drewN ?_ _ | refine blk_drew ?_ | refine blk_alloc ?_ _)); exact BK218.out) hb)
                  have n6_ := Aside0.mk (blk_below (g := gb222) (o := .cells #[.int .i64 t219, .int .i64 t220] 30 (0, 0)) (by (with_reducible repeat (first | refine blk_drewN ?_ _ | refine blk_drew ?_ | refine blk_alloc ?_ _)); exact BK222.out) hb)
                  have n7_ := Aside0.mk (blk_below (g := gb226) (o := .cells #[.int .i64 t223, .int .i64 t224] 30 (0, 0)) (by (with_reducible repeat (first | refine blk_drewN ?_ _ | refine blk_drew ?_ | refine blk_alloc ?_ _)); exact BK226.out) hb)
                  have n8_ := Aside0.mk (blk_below (g := gb230) (o := .cells #[.int .i64 t227, .int .i64 t228] 30 (0, 0)) (by (with_reducible repeat (first | refine blk_drewN ?_ _ | refine blk_drew ?_ | refine blk_alloc ?_ _)); exact BK230.out) hb)
                  have n9_ := Aside0.mk (below_step (by repeat (first | (with_reducible first | exact HB.out | apply below_alloc | apply pw_below_drewN | apply below_drew1 | refine below_set ?_ GE197.out | refine below_set ?_ GE202.out | refine below_set ?_ GE206.out | refine below_set ?_ GE210.out | refine below_set ?_ GE214.out | refine below_set ?_ GE218.out | refine below_set ?_ GE222.out | refine below_set ?_ GE226.out | refine below_set ?_ GE230.out) | exact HB.out)) hb)
                  clear BK197
                  clear BK202
                  clear BK206
                  clear BK210
                  clear BK214
                  clear BK218
                  clear BK222
                  clear BK226
                  clear BK230
                  clear HB
                  have BK197 := n0_
                  have BK202 := n1_
                  have BK206 := n2_
                  have BK210 := n3_
                  have BK214 := n4_
                  have BK218 := n5_
                  have BK222 := n6_
                  have BK226 := n7_
                  have BK230 := n8_
                  have HB := n9_
                  clear n0_ n1_ n2_ n3_ n4_ n5_ n6_ n7_ n8_ n9_
                  (try clear hb)
                  (try clear hb2)
                  (try clear hk)
                  (try clear hi)
                  refine hK.out _ _ ⟨(blk_cell BK197.out 0).trans rfl, (blk_cell BK197.out 1).trans rfl⟩ (fun hHeld => ?_)
                  clear hK K
                  refine norm_ (a' := ?_) ?_ ?_
                  rotate_left
                  · show Act.put _ (some 160) _ = _
                    simp only [Act.put, List.setIfInBounds_toArray, List.set_cons_zero, List.set_cons_succ, i64_w, i32_w]
                    rfl
                  refine one_ (i := 20) (N := some 164) #[true, true, true, true, true, true, true, true, true, true, true, true, true, true, true, true, true, true, true, true, true, false, false, false] rfl rfl (one_of HT_.out (by kernel_rfl)) (by decide) (fun K hK => ?_)
                  refine goes_ Try.func21 (by kernel_rfl) rfl #[.agg #[.int .i64 a0_0, .int .i64 a0_1], .int .i64 a5, .int .i64 a6] (by rfl) rfl rfl (by (try simp only [List.map_toArray, List.map_cons, List.map_nil]); first | done | rfl | (simp only [List.length_drop, List.length_take]; rfl)) ?_
                  with_reducible refine (fourinhandref15_May.calls a0_0 a0_1 a5 a6 t234 _ A363.out).mono ?_
                  rintro e w368 ⟨rfl, hb⟩
                  refine ⟨_, rfl, ?_⟩
                  have n0_ := Aside0.mk (blk_below (g := gb197) (o := .cells #[.int .i64 a0_0, .int .i64 a0_1] 30 (0, 0)) (by (with_reducible repeat (first | refine blk_drewN ?_ _ | refine blk_drew ?_ | refine blk_alloc ?_ _)); exact BK197.out) hb)
                  have n1_ := Aside0.mk (blk_below (g := gb202) (o := .cells #[.int .i64 t199, .int .i64 t200] 30 (0, 0)) (by (with_reducible repeat (first | refine blk_drewN ?_ _ | refine blk_drew ?_ | refine blk_alloc ?_ _)); exact BK202.out) hb)
                  have n2_ := Aside0.mk (blk_below (g := gb206) (o := .cells #[.int .i64 t203, .int .i64 t204] 30 (0, 0)) (by (with_reducible repeat (first | refine blk_drewN ?_ _ | refine blk_drew ?_ | refine blk_alloc ?_ _)); exact BK206.out) hb)
                  have n3_ := Aside0.mk (blk_below (g := gb210) (o := .cells #[.int .i64 t207, .int .i64 t208] 30 (0, 0)) (by (with_reducible repeat (first | refine blk_drewN ?_ _ | refine blk_drew ?_ | refine blk_alloc ?_ _)); exact BK210.out) hb)
                  have n4_ := Aside0.mk (blk_below (g := gb214) (o := .cells #[.int .i64 t211, .int .i64 t212] 30 (0, 0)) (by (with_reducible repeat (first | refine blk_drewN ?_ _ | refine blk_drew ?_ | refine blk_alloc ?_ _)); exact BK214.out) hb)
                  have n5_ := Aside0.mk (blk_below (g := gb218) (o := .cells #[.int .i64 t215, .int .i64 t216] 30 (0, 0)) (by (with_reducible repeat (first | refine blk_drewN ?_ _ | refine blk_drew ?_ | refine blk_alloc ?_ _)); exact BK218.out) hb)
                  have n6_ := Aside0.mk (blk_below (g := gb222) (o := .cells #[.int .i64 t219, .int .i64 t220] 30 (0, 0)) (by (with_reducible repeat (first | refine blk_drewN ?_ _ | refine blk_drew ?_ | refine blk_alloc ?_ _)); exact BK222.out) hb)
                  have n7_ := Aside0.mk (blk_below (g := gb226) (o := .cells #[.int .i64 t223, .int .i64 t224] 30 (0, 0)) (by (with_reducible repeat (first | refine blk_drewN ?_ _ | refine blk_drew ?_ | refine blk_alloc ?_ _)); exact BK226.out) hb)
                  have n8_ := Aside0.mk (blk_below (g := gb230) (o := .cells #[.int .i64 t227, .int .i64 t228] 30 (0, 0)) (by (with_reducible repeat (first | refine blk_drewN ?_ _ | refine blk_drew ?_ | refine blk_alloc ?_ _)); exact BK230.out) hb)
                  have n9_ := Aside0.mk (below_step (by repeat (first | (with_reducible first | exact HB.out | apply below_alloc | apply pw_below_drewN | apply below_drew1 | refine below_set ?_ GE197.out | refine below_set ?_ GE202.out | refine below_set ?_ GE206.out | refine below_set ?_ GE210.out | refine below_set ?_ GE214.out | refine below_set ?_ GE218.out | refine below_set ?_ GE222.out | refine below_set ?_ GE226.out | refine below_set ?_ GE230.out) | exact HB.out)) hb)
                  clear BK197
                  clear BK202
                  clear BK206
                  clear BK210
                  clear BK214
                  clear BK218
                  clear BK222
                  clear BK226
                  clear BK230
                  clear HB
                  have BK197 := n0_
                  have BK202 := n1_
                  have BK206 := n2_
                  have BK210 := n3_
                  have BK214 := n4_
                  have BK218 := n5_
                  have BK222 := n6_
                  have BK226 := n7_
                  have BK230 := n8_
                  have HB := n9_
                  clear n0_ n1_ n2_ n3_ n4_ n5_ n6_ n7_ n8_ n9_
                  (try clear hb)
                  (try clear hb2)
                  (try clear hk)
                  (try clear hi)
                  refine hK.out _ _ ⟨(blk_cell BK197.out 0).trans rfl, (blk_cell BK197.out 1).trans rfl⟩ (fun hHeld => ?_)
                  clear hK K
                  refine norm_ (a' := ?_) ?_ ?_
                  rotate_left
                  · show Act.put _ (some 164) _ = _
                    simp only [Act.put, List.setIfInBounds_toArray, List.set_cons_zero, List.set_cons_succ, i64_w, i32_w]
                    rfl
                  refine pure_ (i := 21) (N := some 165) (v := ?_) (a' := ?_) #[true, true, true, true, true, true, true, true, true, true, true, true, true, true, true, true, true, true, true, true, true, true, false, false] rfl rfl (any_of HT_.out (by kernel_rfl)) (fun _ _ _ h => h) (Or.inl ⟨by rfl, ?_⟩) ?_ ?_
                  rotate_left
                  · intro w'
                    go_simp
                    with_reducible rfl
                  rotate_left
                  · simp only [Act.put, List.setIfInBounds_toArray, List.set_cons_zero, List.set_cons_succ, i64_w, i32_w]
                    rfl
                  refine pure_ (i := 22) (N := some 166) (v := ?_) (a' := ?_) #[true, true, true, true, true, true, true, true, true, true, true, true, true, true, true, true, true, true, true, true, true, true, true, false] rfl rfl (any_of HT_.out (by kernel_rfl)) (fun _ _ _ h => h) (Or.inl ⟨by rfl, ?_⟩) ?_ ?_
                  rotate_left
                  · intro w'
                    go_simp
                    with_reducible rfl
                  rotate_left
                  · simp only [Act.put, List.setIfInBounds_toArray, List.set_cons_zero, List.set_cons_succ, i64_w, i32_w]
                    rfl
                  refine pure_ (i := 23) (N := some 14) (v := ?_) (a' := ?_) #[true, true, true, true, true, true, true, true, true, true, true, true, true, true, true, true, true, true, true, true, true, true, true, true] rfl rfl (any_of HT_.out (by kernel_rfl)) (fun _ _ _ h => h) (Or.inl ⟨by rfl, ?_⟩) ?_ ?_
                  rotate_left
                  · intro w'
                    go_simp
                    with_reducible rfl
                  rotate_left
                  · simp only [Act.put, List.setIfInBounds_toArray, List.set_cons_zero, List.set_cons_succ, i64_w, i32_w]
                    rfl
                  refine done_ (done_of HT_.out (by kernel_rfl)) ?_
                  try go_wp2
                  go_ret
                  exact ⟨by first | rfl | (simp [errW_none, errW_some] <;> rfl) | (simp [*, errW_none, errW_some] <;> rfl), by repeat (first | (with_reducible first | exact HB.out | apply below_alloc | apply pw_below_drewN | apply below_drew1 | refine below_set ?_ GE197.out | refine below_set ?_ GE202.out | refine below_set ?_ GE206.out | refine below_set ?_ GE210.out | refine below_set ?_ GE214.out | refine below_set ?_ GE218.out | refine below_set ?_ GE222.out | refine below_set ?_ GE226.out | refine below_set ?_ GE230.out) | exact HB.out)⟩
              · rw [if_neg c361] at H
                first | (with_reducible exact (fourinhandlaw15_XmpTells.j1_bad H hr_.out).elim) | skip
                all_goals
                  have c361b0 : (t231 == t232) = false := beq_eq_false_iff_ne.mpr c361
                  have c361b1 : (t231 != t232) = true := bne_iff_ne.mpr c361
                  exact Bool.noConfusion ((Option.some.inj H).trans hr_.out)
            · replace c358 := Bool.eq_false_iff.mpr c358
              subst c358
              have H1 : (some false) = some r := by rw [if_neg (show ¬ (false = true) by decide)] at H; exact H
              clear H
              have H := H1
              clear H1
              exact Bool.noConfusion ((Option.some.inj H).trans hr_.out)

end Go.Proofs.Ytdbnhmipbbadjaa.PXmpTells
