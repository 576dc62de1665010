-- Written by a program of this session (wip/hprint.py), over the kit's print.py: the walk of one law. Lean checks it.
import Derived.Test.YtfdaaodpbaikdaaPRateBestx0
import Derived.Test.YtfdaaodpbaikdaaPRateBestx1
import Derived.Test.YtfdaaodpbaikdaaPRateBestx3
namespace Go.Proofs.Ytfdaaodpbaikdaa.PRateBest
open Go.RowKit Go.Proofs.YtfdaaodpbaikdaaW.PrintWords Go.Proofs.YtfdaaodpbaikdaaW.PrintLast Go.Proofs.YtfdaaodpbaikdaaW.PrintMore
attribute [local go_sem] max2_int min2_int max_two min_two max_three min_three max_four min_four   -- for this text's walks alone
set_option linter.unusedVariables false
set_option linter.unusedSimpArgs false

/-! ### fourinhandlaw11_RateBest: function 4 -/
mutual
def fourinhandlaw11_RateBest.j0 : Nat → List Int → List Int → Bool → Bool → Option (Bool)
  | 0, _, _, _, _ => none
  | k + 1, x0, x1, x5, x32 => if x32 = true then (some x5) else (fourinhandlaw11_RateBest.l0 k x0 x1 ([] : List Int) 0 0 0 ([] : List Int))
def fourinhandlaw11_RateBest.l0 : Nat → List Int → List Int → List Int → Int → Int → Int → List Int → Option (Bool)
  | 0, _, _, _, _, _, _, _ => none
  | k + 1, x0, x1, x7, x8, x173000, x173001, x173002 => if x8 < (x0.length : Int) then (if 0 ≤ x8 then (if (rd x0 x8) < 1 then (fourinhandlaw11_RateBest.j2 k x0 x1 x7 x8 true x173000 x173001 x173002) else (if (rd x0 x8) > 1000000000 then (fourinhandlaw11_RateBest.j2 k x0 x1 x7 x8 true x173000 x173001 x173002) else (if x8 < (x1.length : Int) then (if (rd x1 x8) < 0 then (fourinhandlaw11_RateBest.j2 k x0 x1 x7 x8 true x173000 x173001 x173002) else (fourinhandlaw11_RateBest.j2 k x0 x1 x7 x8 (decide ((rd x1 x8) > 1000000000)) x173000 x173001 x173002)) else (none)))) else (none)) else (some true)
def fourinhandlaw11_RateBest.j2 : Nat → List Int → List Int → List Int → Int → Bool → Int → Int → List Int → Option (Bool)
  | 0, _, _, _, _, _, _, _, _ => none
  | k + 1, x0, x1, x7, x8, x66, x173000, x173001, x173002 => if x66 = true then (some true) else (if 0 ≤ x8 then (if x8 < (x0.length : Int) then (if x8 < (x1.length : Int) then ((rate_Came.f k x173000 x173001 x173002 (wrap64 (x173001 + (rd x0 x8))) (rd x1 x8)).bind fun bt179 => ((rate_Sample.f k bt179.1 bt179.2.1 bt179.2.2.1 x173000 x173001).bind fun bt186 => (if bt179.2.2.2 = 0 then (if bt186.2.2.2.2 = 0 then (if (rd x0 x8) = 0 then (none) else (fourinhandlaw11_RateBest.j3 k x0 x1 x7 x8 bt186.2.2.2.1 (bt186.2.2.2.1 != (wrap64 (Int.tdiv (wrap64 ((rd x1 x8) * 1000000)) (rd x0 x8)))) bt186.1 bt186.2.1 bt186.2.2.1)) else (fourinhandlaw11_RateBest.j3 k x0 x1 x7 x8 bt186.2.2.2.1 true bt186.1 bt186.2.1 bt186.2.2.1)) else (fourinhandlaw11_RateBest.j3 k x0 x1 x7 x8 bt186.2.2.2.1 true bt186.1 bt186.2.1 bt186.2.2.1)))) else (none)) else (none)) else (none))
def fourinhandlaw11_RateBest.j3 : Nat → List Int → List Int → List Int → Int → Int → Bool → Int → Int → List Int → Option (Bool)
  | 0, _, _, _, _, _, _, _, _, _ => none
  | k + 1, x0, x1, x7, x8, x14, x113, x194000, x194001, x194002 => if x113 = true then (some false) else (if x7.length < 17592186044416 then ((some (x7 ++ [x14] : List Int)).bind fun y196 => (fourinhandlaw11_RateBest.l1 k x0 x1 y196 x8 0 (wrap64 ((y196.length : Int) - 1)) x194000 x194001 x194002)) else (none))
def fourinhandlaw11_RateBest.l1 : Nat → List Int → List Int → List Int → Int → Int → Int → Int → Int → List Int → Option (Bool)
  | 0, _, _, _, _, _, _, _, _, _ => none
  | k + 1, x0, x1, x7, x8, x16, x17, x173000, x173001, x173002 => if x17 ≥ 0 then (fourinhandlaw11_RateBest.j5 k x0 x1 x7 x8 x16 x17 (decide (x17 ≥ (wrap64 ((x7.length : Int) - 10)))) x173000 x173001 x173002) else (fourinhandlaw11_RateBest.j5 k x0 x1 x7 x8 x16 x17 false x173000 x173001 x173002)
def fourinhandlaw11_RateBest.j5 : Nat → List Int → List Int → List Int → Int → Int → Int → Bool → Int → Int → List Int → Option (Bool)
  | 0, _, _, _, _, _, _, _, _, _, _ => none
  | k + 1, x0, x1, x7, x8, x16, x17, x130, x173000, x173001, x173002 => if x130 = true then (if 0 ≤ x17 then (if x17 < (x7.length : Int) then (if (rd x7 x17) > x16 then (fourinhandlaw11_RateBest.l1 k x0 x1 x7 x8 (rd x7 x17) (wrap64 (x17 - 1)) x173000 x173001 x173002) else (fourinhandlaw11_RateBest.l1 k x0 x1 x7 x8 x16 (wrap64 (x17 - 1)) x173000 x173001 x173002)) else (none)) else (none)) else ((rate_Best.f k x173000 x173001 x173002).bind fun t201 => (if t201 = x16 then ((rate_May.f k x173000 x173001 x173002).bind fun t202 => (if t202 = true then (fourinhandlaw11_RateBest.l0 k x0 x1 x7 (wrap64 (x8 + 1)) x173000 x173001 x173002) else (some false))) else (some false)))
end
def fourinhandlaw11_RateBest.f (k : Nat) (l0 : List Int) (l1 : List Int) : Option (Bool) := (fourinhandlaw11_awake.f k).bind fun t171 => (if t171 = true then (if (l0.length : Int) > 40 then (fourinhandlaw11_RateBest.j0 k l0 l1 t171 true) else (fourinhandlaw11_RateBest.j0 k l0 l1 t171 (decide ((l1.length : Int) < (l0.length : Int))))) else (fourinhandlaw11_RateBest.j0 k l0 l1 t171 true))
theorem fourinhandlaw11_RateBest.mono_l : ∀ k, (∀ y0 y1 y2 y3, LeO (fourinhandlaw11_RateBest.j0 k y0 y1 y2 y3) (fourinhandlaw11_RateBest.j0 (k + 1) y0 y1 y2 y3)) ∧ (∀ y0 y1 y2 y3 y4 y5 y6, LeO (fourinhandlaw11_RateBest.l0 k y0 y1 y2 y3 y4 y5 y6) (fourinhandlaw11_RateBest.l0 (k + 1) y0 y1 y2 y3 y4 y5 y6)) ∧ (∀ y0 y1 y2 y3 y4 y5 y6 y7, LeO (fourinhandlaw11_RateBest.j2 k y0 y1 y2 y3 y4 y5 y6 y7) (fourinhandlaw11_RateBest.j2 (k + 1) y0 y1 y2 y3 y4 y5 y6 y7)) ∧ (∀ y0 y1 y2 y3 y4 y5 y6 y7 y8, LeO (fourinhandlaw11_RateBest.j3 k y0 y1 y2 y3 y4 y5 y6 y7 y8) (fourinhandlaw11_RateBest.j3 (k + 1) y0 y1 y2 y3 y4 y5 y6 y7 y8)) ∧ (∀ y0 y1 y2 y3 y4 y5 y6 y7 y8, LeO (fourinhandlaw11_RateBest.l1 k y0 y1 y2 y3 y4 y5 y6 y7 y8) (fourinhandlaw11_RateBest.l1 (k + 1) y0 y1 y2 y3 y4 y5 y6 y7 y8)) ∧ (∀ y0 y1 y2 y3 y4 y5 y6 y7 y8 y9, LeO (fourinhandlaw11_RateBest.j5 k y0 y1 y2 y3 y4 y5 y6 y7 y8 y9) (fourinhandlaw11_RateBest.j5 (k + 1) y0 y1 y2 y3 y4 y5 y6 y7 y8 y9))
  | 0 => ⟨fun _ _ _ _ r h => by simp [fourinhandlaw11_RateBest.j0] at h, fun _ _ _ _ _ _ _ r h => by simp [fourinhandlaw11_RateBest.l0] at h, fun _ _ _ _ _ _ _ _ r h => by simp [fourinhandlaw11_RateBest.j2] at h, fun _ _ _ _ _ _ _ _ _ r h => by simp [fourinhandlaw11_RateBest.j3] at h, fun _ _ _ _ _ _ _ _ _ r h => by simp [fourinhandlaw11_RateBest.l1] at h, fun _ _ _ _ _ _ _ _ _ _ r h => by simp [fourinhandlaw11_RateBest.j5] at h⟩
  | k + 1 => by
    obtain ⟨ih0, ih1, ih2, ih3, ih4, ih5⟩ := fourinhandlaw11_RateBest.mono_l k
    refine ⟨?_, ?_, ?_, ?_, ?_, ?_⟩
    · intro y0 y1 y2 y3
      unfold fourinhandlaw11_RateBest.j0
      repeat' first
      | (with_reducible exact ih0 _ _ _ _)
      | (with_reducible exact ih1 _ _ _ _ _ _ _)
      | (with_reducible exact ih2 _ _ _ _ _ _ _ _)
      | (with_reducible exact ih3 _ _ _ _ _ _ _ _ _)
      | (with_reducible exact ih4 _ _ _ _ _ _ _ _ _)
      | (with_reducible exact ih5 _ _ _ _ _ _ _ _ _ _)
      | (with_reducible exact fourinhandlaw11_awake.mono _)
      | (with_reducible exact rate_Best.mono _ _ _ _)
      | (with_reducible exact rate_Came.mono _ _ _ _ _ _)
      | (with_reducible exact rate_May.mono _ _ _ _)
      | (with_reducible exact rate_Sample.mono _ _ _ _ _ _)
      | (with_reducible exact LeO.refl _)
      | (with_reducible exact LeO.none _)
      | (with_reducible refine LeO.ite ?_ ?_)
      | (with_reducible refine LeO.bind ?_ (fun _ => ?_))
      | exact ih0 _ _ _ _
      | exact ih1 _ _ _ _ _ _ _
      | exact ih2 _ _ _ _ _ _ _ _
      | exact ih3 _ _ _ _ _ _ _ _ _
      | exact ih4 _ _ _ _ _ _ _ _ _
      | exact ih5 _ _ _ _ _ _ _ _ _ _
      | exact fourinhandlaw11_awake.mono _
      | exact rate_Best.mono _ _ _ _
      | exact rate_Came.mono _ _ _ _ _ _
      | exact rate_May.mono _ _ _ _
      | exact rate_Sample.mono _ _ _ _ _ _
      | exact LeO.none _
      | refine LeO.ite ?_ ?_
      | refine LeO.bind ?_ (fun _ => ?_)
    · intro y0 y1 y2 y3 y4 y5 y6
      unfold fourinhandlaw11_RateBest.l0
      repeat' first
      | (with_reducible exact ih0 _ _ _ _)
      | (with_reducible exact ih1 _ _ _ _ _ _ _)
      | (with_reducible exact ih2 _ _ _ _ _ _ _ _)
      | (with_reducible exact ih3 _ _ _ _ _ _ _ _ _)
      | (with_reducible exact ih4 _ _ _ _ _ _ _ _ _)
      | (with_reducible exact ih5 _ _ _ _ _ _ _ _ _ _)
      | (with_reducible exact fourinhandlaw11_awake.mono _)
      | (with_reducible exact rate_Best.mono _ _ _ _)
      | (with_reducible exact rate_Came.mono _ _ _ _ _ _)
      | (with_reducible exact rate_May.mono _ _ _ _)
      | (with_reducible exact rate_Sample.mono _ _ _ _ _ _)
      | (with_reducible exact LeO.refl _)
      | (with_reducible exact LeO.none _)
      | (with_reducible refine LeO.ite ?_ ?_)
      | (with_reducible refine LeO.bind ?_ (fun _ => ?_))
      | exact ih0 _ _ _ _
      | exact ih1 _ _ _ _ _ _ _
      | exact ih2 _ _ _ _ _ _ _ _
      | exact ih3 _ _ _ _ _ _ _ _ _
      | exact ih4 _ _ _ _ _ _ _ _ _
      | exact ih5 _ _ _ _ _ _ _ _ _ _
      | exact fourinhandlaw11_awake.mono _
      | exact rate_Best.mono _ _ _ _
      | exact rate_Came.mono _ _ _ _ _ _
      | exact rate_May.mono _ _ _ _
      | exact rate_Sample.mono _ _ _ _ _ _
      | exact LeO.none _
      | refine LeO.ite ?_ ?_
      | refine LeO.bind ?_ (fun _ => ?_)
    · intro y0 y1 y2 y3 y4 y5 y6 y7
      unfold fourinhandlaw11_RateBest.j2
      repeat' first
      | (with_reducible exact ih0 _ _ _ _)
      | (with_reducible exact ih1 _ _ _ _ _ _ _)
      | (with_reducible exact ih2 _ _ _ _ _ _ _ _)
      | (with_reducible exact ih3 _ _ _ _ _ _ _ _ _)
      | (with_reducible exact ih4 _ _ _ _ _ _ _ _ _)
      | (with_reducible exact ih5 _ _ _ _ _ _ _ _ _ _)
      | (with_reducible exact fourinhandlaw11_awake.mono _)
      | (with_reducible exact rate_Best.mono _ _ _ _)
      | (with_reducible exact rate_Came.mono _ _ _ _ _ _)
      | (with_reducible exact rate_May.mono _ _ _ _)
      | (with_reducible exact rate_Sample.mono _ _ _ _ _ _)
      | (with_reducible exact LeO.refl _)
      | (with_reducible exact LeO.none _)
      | (with_reducible refine LeO.ite ?_ ?_)
      | (with_reducible refine LeO.bind ?_ (fun _ => ?_))
      | exact ih0 _ _ _ _
      | exact ih1 _ _ _ _ _ _ _
      | exact ih2 _ _ _ _ _ _ _ _
      | exact ih3 _ _ _ _ _ _ _ _ _
      | exact ih4 _ _ _ _ _ _ _ _ _
      | exact ih5 _ _ _ _ _ _ _ _ _ _
      | exact fourinhandlaw11_awake.mono _
      | exact rate_Best.mono _ _ _ _
      | exact rate_Came.mono _ _ _ _ _ _
      | exact rate_May.mono _ _ _ _
      | exact rate_Sample.mono _ _ _ _ _ _
      | exact LeO.none _
      | refine LeO.ite ?_ ?_
      | refine LeO.bind ?_ (fun _ => ?_)
    · intro y0 y1 y2 y3 y4 y5 y6 y7 y8
      unfold fourinhandlaw11_RateBest.j3
      repeat' first
      | (with_reducible exact ih0 _ _ _ _)
      | (with_reducible exact ih1 _ _ _ _ _ _ _)
      | (with_reducible exact ih2 _ _ _ _ _ _ _ _)
      | (with_reducible exact ih3 _ _ _ _ _ _ _ _ _)
      | (with_reducible exact ih4 _ _ _ _ _ _ _ _ _)
      | (with_reducible exact ih5 _ _ _ _ _ _ _ _ _ _)
      | (with_reducible exact fourinhandlaw11_awake.mono _)
      | (with_reducible exact rate_Best.mono _ _ _ _)
      | (with_reducible exact rate_Came.mono _ _ _ _ _ _)
      | (with_reducible exact rate_May.mono _ _ _ _)
      | (with_reducible exact rate_Sample.mono _ _ _ _ _ _)
      | (with_reducible exact LeO.refl _)
      | (with_reducible exact LeO.none _)
      | (with_reducible refine LeO.ite ?_ ?_)
      | (with_reducible refine LeO.bind ?_ (fun _ => ?_))
      | exact ih0 _ _ _ _
      | exact ih1 _ _ _ _ _ _ _
      | exact ih2 _ _ _ _ _ _ _ _
      | exact ih3 _ _ _ _ _ _ _ _ _
      | exact ih4 _ _ _ _ _ _ _ _ _
      | exact ih5 _ _ _ _ _ _ _ _ _ _
      | exact fourinhandlaw11_awake.mono _
      | exact rate_Best.mono _ _ _ _
      | exact rate_Came.mono _ _ _ _ _ _
      | exact rate_May.mono _ _ _ _
      | exact rate_Sample.mono _ _ _ _ _ _
      | exact LeO.none _
      | refine LeO.ite ?_ ?_
      | refine LeO.bind ?_ (fun _ => ?_)
    · intro y0 y1 y2 y3 y4 y5 y6 y7 y8
      unfold fourinhandlaw11_RateBest.l1
      repeat' first
      | (with_reducible exact ih0 _ _ _ _)
      | (with_reducible exact ih1 _ _ _ _ _ _ _)
      | (with_reducible exact ih2 _ _ _ _ _ _ _ _)
      | (with_reducible exact ih3 _ _ _ _ _ _ _ _ _)
      | (with_reducible exact ih4 _ _ _ _ _ _ _ _ _)
      | (with_reducible exact ih5 _ _ _ _ _ _ _ _ _ _)
      | (with_reducible exact fourinhandlaw11_awake.mono _)
      | (with_reducible exact rate_Best.mono _ _ _ _)
      | (with_reducible exact rate_Came.mono _ _ _ _ _ _)
      | (with_reducible exact rate_May.mono _ _ _ _)
      | (with_reducible exact rate_Sample.mono _ _ _ _ _ _)
      | (with_reducible exact LeO.refl _)
      | (with_reducible exact LeO.none _)
      | (with_reducible refine LeO.ite ?_ ?_)
      | (with_reducible refine LeO.bind ?_ (fun _ => ?_))
      | exact ih0 _ _ _ _
      | exact ih1 _ _ _ _ _ _ _
      | exact ih2 _ _ _ _ _ _ _ _
      | exact ih3 _ _ _ _ _ _ _ _ _
      | exact ih4 _ _ _ _ _ _ _ _ _
      | exact ih5 _ _ _ _ _ _ _ _ _ _
      | exact fourinhandlaw11_awake.mono _
      | exact rate_Best.mono _ _ _ _
      | exact rate_Came.mono _ _ _ _ _ _
      | exact rate_May.mono _ _ _ _
      | exact rate_Sample.mono _ _ _ _ _ _
      | exact LeO.none _
      | refine LeO.ite ?_ ?_
      | refine LeO.bind ?_ (fun _ => ?_)
    · intro y0 y1 y2 y3 y4 y5 y6 y7 y8 y9
      unfold fourinhandlaw11_RateBest.j5
      repeat' first
      | (with_reducible exact ih0 _ _ _ _)
      | (with_reducible exact ih1 _ _ _ _ _ _ _)
      | (with_reducible exact ih2 _ _ _ _ _ _ _ _)
      | (with_reducible exact ih3 _ _ _ _ _ _ _ _ _)
      | (with_reducible exact ih4 _ _ _ _ _ _ _ _ _)
      | (with_reducible exact ih5 _ _ _ _ _ _ _ _ _ _)
      | (with_reducible exact fourinhandlaw11_awake.mono _)
      | (with_reducible exact rate_Best.mono _ _ _ _)
      | (with_reducible exact rate_Came.mono _ _ _ _ _ _)
      | (with_reducible exact rate_May.mono _ _ _ _)
      | (with_reducible exact rate_Sample.mono _ _ _ _ _ _)
      | (with_reducible exact LeO.refl _)
      | (with_reducible exact LeO.none _)
      | (with_reducible refine LeO.ite ?_ ?_)
      | (with_reducible refine LeO.bind ?_ (fun _ => ?_))
      | exact ih0 _ _ _ _
      | exact ih1 _ _ _ _ _ _ _
      | exact ih2 _ _ _ _ _ _ _ _
      | exact ih3 _ _ _ _ _ _ _ _ _
      | exact ih4 _ _ _ _ _ _ _ _ _
      | exact ih5 _ _ _ _ _ _ _ _ _ _
      | exact fourinhandlaw11_awake.mono _
      | exact rate_Best.mono _ _ _ _
      | exact rate_Came.mono _ _ _ _ _ _
      | exact rate_May.mono _ _ _ _
      | exact rate_Sample.mono _ _ _ _ _ _
      | exact LeO.none _
      | refine LeO.ite ?_ ?_
      | refine LeO.bind ?_ (fun _ => ?_)
theorem fourinhandlaw11_RateBest.mono : ∀ a0 a1 k, LeO (fourinhandlaw11_RateBest.f k a0 a1) (fourinhandlaw11_RateBest.f (k + 1) a0 a1) := by
  intro a0 a1 k
  obtain ⟨ih0, ih1, ih2, ih3, ih4, ih5⟩ := fourinhandlaw11_RateBest.mono_l k
  unfold fourinhandlaw11_RateBest.f
  repeat' first
      | (with_reducible exact ih0 _ _ _ _)
      | (with_reducible exact ih1 _ _ _ _ _ _ _)
      | (with_reducible exact ih2 _ _ _ _ _ _ _ _)
      | (with_reducible exact ih3 _ _ _ _ _ _ _ _ _)
      | (with_reducible exact ih4 _ _ _ _ _ _ _ _ _)
      | (with_reducible exact ih5 _ _ _ _ _ _ _ _ _ _)
      | (with_reducible exact fourinhandlaw11_awake.mono _)
      | (with_reducible exact rate_Best.mono _ _ _ _)
      | (with_reducible exact rate_Came.mono _ _ _ _ _ _)
      | (with_reducible exact rate_May.mono _ _ _ _)
      | (with_reducible exact rate_Sample.mono _ _ _ _ _ _)
      | (with_reducible exact LeO.refl _)
      | (with_reducible exact LeO.none _)
      | (with_reducible refine LeO.ite ?_ ?_)
      | (with_reducible refine LeO.bind ?_ (fun _ => ?_))
      | exact ih0 _ _ _ _
      | exact ih1 _ _ _ _ _ _ _
      | exact ih2 _ _ _ _ _ _ _ _
      | exact ih3 _ _ _ _ _ _ _ _ _
      | exact ih4 _ _ _ _ _ _ _ _ _
      | exact ih5 _ _ _ _ _ _ _ _ _ _
      | exact fourinhandlaw11_awake.mono _
      | exact rate_Best.mono _ _ _ _
      | exact rate_Came.mono _ _ _ _ _ _
      | exact rate_May.mono _ _ _ _
      | exact rate_Sample.mono _ _ _ _ _ _
      | exact LeO.none _
      | refine LeO.ite ?_ ?_
      | refine LeO.bind ?_ (fun _ => ?_)
def fourinhandlaw11_RateBest.T13 : Bool × List (List Nat × List Nat) := (true, [([], []), ([], []), ([], []), ([], []), ([2, 3], [2, 3]), ([4], [4]), ([1, 5], [1, 5]), ([], []), ([], []), ([7, 8], [7, 8]), ([9], [9]), ([0, 6, 10], [0, 6, 10]), ([11], [11]), ([12], [12]), ([12], [12]), ([], []), ([15, 13, 11, 0, 1, 2, 3, 4, 5, 6, 7, 8, 9, 10, 11, 12, 13, 15], [13, 15]), ([14, 16, 0, 1, 2, 3, 4, 5, 6, 7, 8, 9, 10, 11, 12, 13, 14, 15, 16], [14])])
def fourinhandlaw11_RateBest.B13 : List Nat := [0, 0, 0, 0, 12, 28, 62, 0, 0, 384, 896, 2047, 4095, 8191, 8191, 0, 49151, 131071]
theorem fourinhandlaw11_RateBest.tab13 : rtab .any (opsOf Try.f4 13) = fourinhandlaw11_RateBest.T13 := by kernel_rfl
theorem fourinhandlaw11_RateBest.bits13 : waitsOk fourinhandlaw11_RateBest.T13.2 fourinhandlaw11_RateBest.B13 = true := by kernel_rfl
def fourinhandlaw11_RateBest.T15 : Bool × List (List Nat × List Nat) := (true, [([], []), ([0], [0]), ([1], [1]), ([2], [2]), ([3, 2], [2, 3]), ([2, 4], [2, 4]), ([5, 2], [5]), ([6], [6]), ([6], [6]), ([6], [6]), ([8, 9, 6], [6, 8, 9]), ([10, 6], [6, 10]), ([11, 6], [6, 11]), ([6], [6]), ([6], [6]), ([13, 14, 6], [6, 13, 14]), ([15, 6], [6, 15]), ([12, 16, 6], [6, 12, 16]), ([7, 17, 6], [6, 7, 17]), ([6, 18], [6, 18])])
def fourinhandlaw11_RateBest.B15 : List Nat := [0, 1, 3, 7, 15, 31, 63, 127, 127, 127, 895, 1919, 3967, 127, 127, 24703, 57471, 130943, 262143, 524287]
theorem fourinhandlaw11_RateBest.tab15 : rtab .any (opsOf Try.f4 15) = fourinhandlaw11_RateBest.T15 := by kernel_rfl
theorem fourinhandlaw11_RateBest.bits15 : waitsOk fourinhandlaw11_RateBest.T15.2 fourinhandlaw11_RateBest.B15 = true := by kernel_rfl
set_option maxHeartbeats 8000000 in
set_option maxRecDepth 100000 in
theorem fourinhandlaw11_RateBest.calls (k : Nat) (A0 : Option Addr) (c0 : Nat) (l0 : List Int) (A1 : Option Addr) (c1 : Nat) (l1 : List Int) (r : Bool) (hr_ : Aside0 (r = true)) (w : World) (hr0 : Kd.C (Kd.int .i64) w A0 l0.length l0) (hc0 : l0.length ≤ c0) (hr1 : Kd.C (Kd.int .i64) w A1 l1.length l1) (hc1 : l1.length ≤ c1) (h : fourinhandlaw11_RateBest.f k l0 l1 = some r) :
    Calls Try.prog 4 #[.slice A0 l0.length c0, .slice A1 l1.length c1] w fun e w' => e = .returned (.bool r) ∧ Below w.heap.size w w' := by
  have hu24 := Try.underlying24
  have HR0 := Aside0.mk hr0
  have HC0 := Aside0.mk hc0
  clear hr0 hc0
  have HR1 := Aside0.mk hr1
  have HC1 := Aside0.mk hc1
  clear hr1 hc1
  have HB := Aside0.mk (Below.refl w.heap.size w)
  have H : ((fourinhandlaw11_awake.f k).bind fun t171 => (if t171 = true then (if (l0.length : Int) > 40 then (fourinhandlaw11_RateBest.j0 k l0 l1 t171 true) else (fourinhandlaw11_RateBest.j0 k l0 l1 t171 (decide ((l1.length : Int) < (l0.length : Int))))) else (fourinhandlaw11_RateBest.j0 k l0 l1 t171 true))) = some r := h
  clear h
  replace H := Option.bind_eq_some_iff.mp H
  obtain ⟨t171, A30, H⟩ := H
  replace H : (if t171 = true then (if (l0.length : Int) > 40 then (fourinhandlaw11_RateBest.j0 k l0 l1 t171 true) else (fourinhandlaw11_RateBest.j0 k l0 l1 t171 (decide ((l1.length : Int) < (l0.length : Int))))) else (fourinhandlaw11_RateBest.j0 k l0 l1 t171 true)) = some r := H
  have A3 := Aside0.mk A30
  clear A30
  have HC4 := Aside0.mk H
  clear H
  go_enter Try.func4, Try.ntmps4
  go_upto_region 2 with (first | ((with_reducible refine gate_callee (f := 8) rfl ?_); refine goesL_ (some 18) rfl rfl Try.func8 (by kernel_rfl) rfl #[] rfl (by (try simp only [List.map_toArray, List.map_cons, List.map_nil]); first | done | rfl | (simp only [List.length_drop, List.length_take]; rfl)) ?_; (with_reducible refine (fourinhandlaw11_awake.calls k  t171 _ A3.out).mono ?_); rintro e w5 ⟨rfl, hb⟩; refine ⟨_, rfl, ?_⟩; have n0_ := Aside0.mk (below_step (by repeat (first | (with_reducible first | exact HB.out | apply below_alloc | apply pw_below_drewN | apply below_drew1) | exact HB.out)) hb); clear HB; have HB := n0_; clear n0_; (try clear hb); (try clear hb2); (try clear hk); (try clear hi)))
  (try simp only [Act.put, List.setIfInBounds_toArray, List.set_cons_zero, List.set_cons_succ])
  go_cut [32] (fun v32 wc => ∃ (kq : Nat) (x32_3 : Bool), v32 = .bool x32_3 ∧ Aside0 (fourinhandlaw11_RateBest.j0 kq l0 l1 t171 x32_3 = some r) ∧ Aside0 (kq ≤ k) ∧ Aside0 (Below w.heap.size w wc))
  case first =>
    have H := HC4.out
    clear HC4
    by_cases c6 : t171 = true
    · subst c6
      have H1 : (if (l0.length : Int) > 40 then (fourinhandlaw11_RateBest.j0 k l0 l1 true true) else (fourinhandlaw11_RateBest.j0 k l0 l1 true (decide ((l1.length : Int) < (l0.length : Int))))) = some r := by rw [if_pos rfl] at H; exact H
      clear H
      have H := H1
      clear H1
      by_cases c7 : (l0.length : Int) > 40
      · rw [if_pos c7] at H
        have c7b0 : decide (40 < (l0.length : Int)) = true := decide_eq_true c7
        have c7b1 : decide (40 < l0.length) = true := decide_eq_true (by omega)
        clear c7
        (first | rw [c7b0] | (simp only [i64_w, i32_w]; rw [c7b0]) | skip)
        have H' := Aside0.mk H
        clear H
        go_wp2
        go_meet
        case rel => exact ⟨_, (true), (by first | rfl | (simp; done) | (simp [*]; done)), H', ⟨by first | omega | exact Nat.le_refl _⟩, ⟨by repeat (first | (with_reducible first | exact HB.out | apply below_alloc | apply pw_below_drewN | apply below_drew1) | exact HB.out)⟩⟩
      · rw [if_neg c7] at H
        have c7b0 : decide (40 < (l0.length : Int)) = false := decide_eq_false c7
        have c7b1 : decide (40 < l0.length) = false := decide_eq_false (by omega)
        clear c7
        (first | rw [c7b0] | (simp only [i64_w, i32_w]; rw [c7b0]) | skip)
        have H' := Aside0.mk H
        clear H
        go_wp2
        go_meet
        case rel => exact ⟨_, (decide ((l1.length : Int) < (l0.length : Int))), (by first | rfl | (simp; done) | (simp [*]; done)), H', ⟨by first | omega | exact Nat.le_refl _⟩, ⟨by repeat (first | (with_reducible first | exact HB.out | apply below_alloc | apply pw_below_drewN | apply below_drew1) | exact HB.out)⟩⟩
    · replace c6 := Bool.eq_false_iff.mpr c6
      subst c6
      have H1 : (fourinhandlaw11_RateBest.j0 k l0 l1 false true) = some r := by rw [if_neg (show ¬ (false = true) by decide)] at H; exact H
      clear H
      have H := H1
      clear H1
      have H' := Aside0.mk H
      clear H
      go_wp2
      go_meet
      case rel => exact ⟨_, (true), (by first | rfl | (simp; done) | (simp [*]; done)), H', ⟨by first | omega | exact Nat.le_refl _⟩, ⟨by repeat (first | (with_reducible first | exact HB.out | apply below_alloc | apply pw_below_drewN | apply below_drew1) | exact HB.out)⟩⟩
  case rest =>
    clear HC4
    try clear c1
    try clear p2
    try clear c4
    try clear c6
    try clear c7
    try clear c7b0
    try clear c7b1
    obtain ⟨kq, x32_3, rfl, HA, HJ3, HB⟩ := hcut
    cases kq with
    | zero => exact absurd HA.out (by simp [fourinhandlaw11_RateBest.j0])
    | succ kj3 =>
      have H := HA.out
      clear HA
      simp only [fourinhandlaw11_RateBest.j0] at H
      by_cases c8 : x32_3 = true
      · subst c8
        have H1 : (some t171) = some r := by rw [if_pos rfl] at H; exact H
        clear H
        have H := H1
        clear H1
        obtain rfl := Option.some.inj H
        go_wp2
        go_ret
        exact ⟨by first | rfl | (simp [errW_none, errW_some] <;> rfl) | (simp [*, errW_none, errW_some] <;> rfl), by repeat (first | (with_reducible first | exact HB.out | apply below_alloc | apply pw_below_drewN | apply below_drew1) | exact HB.out)⟩
      · replace c8 := Bool.eq_false_iff.mpr c8
        subst c8
        have H1 : (fourinhandlaw11_RateBest.l0 kj3 l0 l1 ([] : List Int) 0 0 0 ([] : List Int)) = some r := by rw [if_neg (show ¬ (false = true) by decide)] at H; exact H
        clear H
        have H := H1
        clear H1
        have H' := Aside0.mk H
        clear H
        go_wp2_with (first | ((with_reducible refine gate_dst (N := 6) rfl ?_); (try (refine gate_guard (by rfl) ?_; dsimp only)); refine box_event ?hg (N := 6) ?hd (cs := #[.int .i64 0, .int .i64 0, .slice none 0 0]) (t := 24) ?hr ?_; (case hd => rfl); (case hg => rfl); (case hr => first | (go_simp; done) | (go_simp; rfl)); intro gb172 hg w9 hbox hb; have n0_ := Aside0.mk (below_step (by repeat (first | (with_reducible first | exact HB.out | apply below_alloc | apply pw_below_drewN | apply below_drew1) | exact HB.out)) hb); have n1_ := Aside0.mk (hbox); have n2_ := Aside0.mk ((by rw [hg]; exact (below_size (by repeat (first | (with_reducible first | exact HB.out | apply below_alloc | apply pw_below_drewN | apply below_drew1) | exact HB.out))) : w.heap.size ≤ gb172)); have n3_ := Aside0.mk ((by rw [hg]; exact (below_size (by repeat (first | (with_reducible first | exact HB.out | apply below_alloc | apply pw_below_drewN | apply below_drew1) | exact HB.out))) : w.heap.size ≤ gb172)); clear HB; have HB := n0_; have BK172 := n1_; have GW172 := n2_; have GE172 := n3_; clear n0_ n1_ n2_ n3_; clear hb hbox hg; have hcz10_0 : w9.cell? ⟨gb172, 0, none⟩ = some (.int .i64 0) := (blk_cell BK172.out 0).trans rfl; have hcz10_1 : w9.cell? ⟨gb172, 1, none⟩ = some (.int .i64 0) := (blk_cell BK172.out 1).trans rfl; have hcz10_2 : w9.cell? ⟨gb172, 2, none⟩ = some (.slice none 0 0) := (blk_cell BK172.out 2).trans rfl; have hfz10_0 := blk_frozen BK172.out 0; have hfz10_1 := blk_frozen BK172.out 1; have hfz10_2 := blk_frozen BK172.out 2))
        go_loopg [7, 8] kj3 (fun kq v7 v8 w' => ∃ (x7_2 : List Int) (x8_2 : Int) (x173000_2 : Int) (x173001_2 : Int) (x173002_2 : List Int) (u173002 : Value), v8 = .int .i64 x8_2 ∧ Aside0 (fourinhandlaw11_RateBest.l0 kq l0 l1 x7_2 x8_2 x173000_2 x173001_2 x173002_2 = some r) ∧ Aside0 (kq ≤ kj3) ∧ Aside0 (Kd.R (Kd.int .i64) 3 w' w.heap.size (fun k_ => some k_ ≠ (u173002 : Value).ownBlock) v7 x7_2) ∧ Aside0 (Kd.Q (Kd.int .i64) 3 w' w.heap.size (fun k_ => some k_ ≠ (v7 : Value).ownBlock) u173002 x173002_2) ∧ Aside0 (w'.heap[gb172]? = some (.cells #[.int .i64 x173000_2, .int .i64 x173001_2, u173002] 24 (0, 0))) ∧ Aside0 (Below w.heap.size w w'))
        case atStart => exact ⟨(([] : List Int)), (0), (0), (0), (([] : List Int)), (.slice none 0 0), (by first | rfl | (simp; done) | (simp [*]; done)), H', ⟨Nat.le_refl _⟩, ⟨by first | exact Kd.R_nil _ _ _ _ _ | exact Kd.N_nil _ _ _ _ _ | exact Kd.V_nil _ _ _ _ _ | exact Kd.Q_nil _ _ _ _ _ | exact Kd.S_nil _ _ _ _ _⟩, ⟨Kd.Q_of_R (by first | exact Kd.R_nil _ _ _ _ _ | exact Kd.N_nil _ _ _ _ _ | exact Kd.V_nil _ _ _ _ _ | exact Kd.Q_nil _ _ _ _ _ | exact Kd.S_nil _ _ _ _ _)⟩, ⟨by (with_reducible repeat (first | refine blk_drewN ?_ _ | refine blk_drew ?_ | refine blk_alloc ?_ _)); refine blk_put (cs := #[.int .i64 0, .int .i64 0, .slice none 0 0]) ?_ 2 _ rfl; (with_reducible repeat (first | refine blk_drewN ?_ _ | refine blk_drew ?_ | refine blk_alloc ?_ _)); refine blk_put (cs := #[.int .i64 0, .int .i64 0, .slice none 0 0]) ?_ 1 _ rfl; (with_reducible repeat (first | refine blk_drewN ?_ _ | refine blk_drew ?_ | refine blk_alloc ?_ _)); refine blk_put (cs := #[.int .i64 0, .int .i64 0, .slice none 0 0]) ?_ 0 _ rfl; (with_reducible repeat (first | refine blk_drewN ?_ _ | refine blk_drew ?_ | refine blk_alloc ?_ _)); exact BK172.out⟩, ⟨by repeat (first | (with_reducible first | exact HB.out | apply below_alloc | apply pw_below_drewN | apply below_drew1 | refine below_set ?_ GE172.out) | exact HB.out)⟩⟩
        case round =>
          clear H'
          try clear c1
          try clear p2
          try clear c4
          try clear c6
          try clear c7
          try clear c7b0
          try clear c7b1
          try clear c8
          try clear hcz10_0
          try clear hcz10_1
          try clear hcz10_2
          try clear hfz10_0
          try clear hfz10_1
          try clear hfz10_2
          try clear p2
          obtain ⟨x7_2, x8_2, x173000_2, x173001_2, x173002_2, u173002, rfl, HA, HK2, HO_7, HO_173002, BK172, HB⟩ := hrel
          cases gk with
          | zero => exact absurd HA.out (by simp [fourinhandlaw11_RateBest.l0])
          | succ k2 =>
            have H := HA.out
            clear HA
            simp only [fourinhandlaw11_RateBest.l0] at H
            by_cases c11 : x8_2 < (l0.length : Int)
            · rw [if_pos c11] at H
              have c11b0 : decide (x8_2 < (l0.length : Int)) = true := decide_eq_true c11
              clear c11
              have HC12 := Aside0.mk H
              clear H
              go_upto_region 9 with (fail)
              go_cut [66] (fun v66 wc => ∃ (kq : Nat) (x66_11 : Bool), v66 = .bool x66_11 ∧ Aside0 (fourinhandlaw11_RateBest.j2 kq l0 l1 x7_2 x8_2 x66_11 x173000_2 x173001_2 x173002_2 = some r) ∧ Aside0 (kq ≤ k2) ∧ Aside0 (Kd.R (Kd.int .i64) 3 wc w.heap.size (fun k_ => some k_ ≠ (u173002 : Value).ownBlock) u7 x7_2) ∧ Aside0 (Kd.Q (Kd.int .i64) 3 wc w.heap.size (fun k_ => some k_ ≠ (u7 : Value).ownBlock) u173002 x173002_2) ∧ Aside0 (wc.heap[gb172]? = some (.cells #[.int .i64 x173000_2, .int .i64 x173001_2, u173002] 24 (0, 0))) ∧ Aside0 (Below w.heap.size w wc))
              case first =>
                have H := HC12.out
                clear HC12
                by_cases c13 : 0 ≤ x8_2
                · rw [if_pos c13] at H
                  have c13b0 : decide (0 ≤ x8_2) = true := decide_eq_true c13
                  clear c13
                  (first | rw [c13b0] | (simp only [i64_w, i32_w]; rw [c13b0]) | skip)
                  by_cases c14 : (rd l0 x8_2) < 1
                  · rw [if_pos c14] at H
                    have c14b0 : decide ((rd l0 x8_2) < 1) = true := decide_eq_true c14
                    clear c14
                    have H' := Aside0.mk H
                    clear H
                    have p173 : 0 ≤ (x8_2 : Int) := of_decide_eq_true (by first | (with_reducible assumption) | assumption)
                    have q173 : x8_2 < (l0.length : Int) := of_decide_eq_true (by first | (with_reducible assumption) | assumption)
                    obtain ⟨ad173, e173, hx173_0⟩ := Kd.at_int HR0.out x8_2 p173 q173
                    cases e173
                    replace hx173_0 := (HB.out.cell (World.block_lt_of_cell? w _ hx173_0)).trans hx173_0
                    replace p173 := eq_true p173
                    replace q173 := eq_true q173
                    go_wp2
                    go_meet
                    case rel => exact ⟨_, (true), (by first | rfl | (simp; done) | (simp [*]; done)), H', ⟨by have := HJ3.out; have := HK2.out; first | omega | exact Nat.le_refl _⟩, ⟨by (with_reducible repeat (first | apply Kd.R_alloc | apply Kd.R_drewN | apply Kd.R_drew)); exact HO_7.out⟩, ⟨by (with_reducible repeat (first | apply Kd.Q_alloc | apply Kd.Q_drewN | apply Kd.Q_drew)); exact HO_173002.out⟩, ⟨by (with_reducible repeat (first | refine blk_drewN ?_ _ | refine blk_drew ?_ | refine blk_alloc ?_ _)); exact BK172.out⟩, ⟨by repeat (first | (with_reducible first | exact HB.out | apply below_alloc | apply pw_below_drewN | apply below_drew1 | refine below_set ?_ GE172.out) | exact HB.out)⟩⟩
                  · rw [if_neg c14] at H
                    have c14b0 : decide ((rd l0 x8_2) < 1) = false := decide_eq_false c14
                    clear c14
                    by_cases c15 : (rd l0 x8_2) > 1000000000
                    · rw [if_pos c15] at H
                      have c15b0 : decide (1000000000 < (rd l0 x8_2)) = true := decide_eq_true c15
                      clear c15
                      have H' := Aside0.mk H
                      clear H
                      have p173 : 0 ≤ (x8_2 : Int) := of_decide_eq_true (by first | (with_reducible assumption) | assumption)
                      have q173 : x8_2 < (l0.length : Int) := of_decide_eq_true (by first | (with_reducible assumption) | assumption)
                      obtain ⟨ad173, e173, hx173_0⟩ := Kd.at_int HR0.out x8_2 p173 q173
                      cases e173
                      replace hx173_0 := (HB.out.cell (World.block_lt_of_cell? w _ hx173_0)).trans hx173_0
                      replace p173 := eq_true p173
                      replace q173 := eq_true q173
                      have p174 : 0 ≤ (x8_2 : Int) := of_decide_eq_true (by first | (with_reducible assumption) | assumption)
                      have q174 : x8_2 < (l0.length : Int) := of_decide_eq_true (by first | (with_reducible assumption) | assumption)
                      obtain ⟨ad174, e174, hx174_0⟩ := Kd.at_int HR0.out x8_2 p174 q174
                      obtain rfl : ad173 = ad174 := (by injection e174)
                      replace hx174_0 := (HB.out.cell (World.block_lt_of_cell? w _ hx174_0)).trans hx174_0
                      replace p174 := eq_true p174
                      replace q174 := eq_true q174
                      go_wp2
                      go_meet
                      case rel => exact ⟨_, (true), (by first | rfl | (simp; done) | (simp [*]; done)), H', ⟨by have := HJ3.out; have := HK2.out; first | omega | exact Nat.le_refl _⟩, ⟨by (with_reducible repeat (first | apply Kd.R_alloc | apply Kd.R_drewN | apply Kd.R_drew)); exact HO_7.out⟩, ⟨by (with_reducible repeat (first | apply Kd.Q_alloc | apply Kd.Q_drewN | apply Kd.Q_drew)); exact HO_173002.out⟩, ⟨by (with_reducible repeat (first | refine blk_drewN ?_ _ | refine blk_drew ?_ | refine blk_alloc ?_ _)); exact BK172.out⟩, ⟨by repeat (first | (with_reducible first | exact HB.out | apply below_alloc | apply pw_below_drewN | apply below_drew1 | refine below_set ?_ GE172.out) | exact HB.out)⟩⟩
                    · rw [if_neg c15] at H
                      have c15b0 : decide (1000000000 < (rd l0 x8_2)) = false := decide_eq_false c15
                      clear c15
                      by_cases c16 : x8_2 < (l1.length : Int)
                      · rw [if_pos c16] at H
                        have c16b0 : decide (x8_2 < (l1.length : Int)) = true := decide_eq_true c16
                        clear c16
                        by_cases c17 : (rd l1 x8_2) < 0
                        · rw [if_pos c17] at H
                          have c17b0 : decide ((rd l1 x8_2) < 0) = true := decide_eq_true c17
                          clear c17
                          have H' := Aside0.mk H
                          clear H
                          have p173 : 0 ≤ (x8_2 : Int) := of_decide_eq_true (by first | (with_reducible assumption) | assumption)
                          have q173 : x8_2 < (l0.length : Int) := of_decide_eq_true (by first | (with_reducible assumption) | assumption)
                          obtain ⟨ad173, e173, hx173_0⟩ := Kd.at_int HR0.out x8_2 p173 q173
                          cases e173
                          replace hx173_0 := (HB.out.cell (World.block_lt_of_cell? w _ hx173_0)).trans hx173_0
                          replace p173 := eq_true p173
                          replace q173 := eq_true q173
                          have p174 : 0 ≤ (x8_2 : Int) := of_decide_eq_true (by first | (with_reducible assumption) | assumption)
                          have q174 : x8_2 < (l0.length : Int) := of_decide_eq_true (by first | (with_reducible assumption) | assumption)
                          obtain ⟨ad174, e174, hx174_0⟩ := Kd.at_int HR0.out x8_2 p174 q174
                          obtain rfl : ad173 = ad174 := (by injection e174)
                          replace hx174_0 := (HB.out.cell (World.block_lt_of_cell? w _ hx174_0)).trans hx174_0
                          replace p174 := eq_true p174
                          replace q174 := eq_true q174
                          have p175 : 0 ≤ (x8_2 : Int) := of_decide_eq_true (by first | (with_reducible assumption) | assumption)
                          have q175 : x8_2 < (l1.length : Int) := of_decide_eq_true (by first | (with_reducible assumption) | assumption)
                          obtain ⟨ad175, e175, hx175_0⟩ := Kd.at_int HR1.out x8_2 p175 q175
                          cases e175
                          replace hx175_0 := (HB.out.cell (World.block_lt_of_cell? w _ hx175_0)).trans hx175_0
                          replace p175 := eq_true p175
                          replace q175 := eq_true q175
                          go_wp2
                          go_meet
                          case rel => exact ⟨_, (true), (by first | rfl | (simp; done) | (simp [*]; done)), H', ⟨by have := HJ3.out; have := HK2.out; first | omega | exact Nat.le_refl _⟩, ⟨by (with_reducible repeat (first | apply Kd.R_alloc | apply Kd.R_drewN | apply Kd.R_drew)); exact HO_7.out⟩, ⟨by (with_reducible repeat (first | apply Kd.Q_alloc | apply Kd.Q_drewN | apply Kd.Q_drew)); exact HO_173002.out⟩, ⟨by (with_reducible repeat (first | refine blk_drewN ?_ _ | refine blk_drew ?_ | refine blk_alloc ?_ _)); exact BK172.out⟩, ⟨by repeat (first | (with_reducible first | exact HB.out | apply below_alloc | apply pw_below_drewN | apply below_drew1 | refine below_set ?_ GE172.out) | exact HB.out)⟩⟩
                        · rw [if_neg c17] at H
                          have c17b0 : decide ((rd l1 x8_2) < 0) = false := decide_eq_false c17
                          clear c17
                          have H' := Aside0.mk H
                          clear H
                          have p173 : 0 ≤ (x8_2 : Int) := of_decide_eq_true (by first | (with_reducible assumption) | assumption)
                          have q173 : x8_2 < (l0.length : Int) := of_decide_eq_true (by first | (with_reducible assumption) | assumption)
                          obtain ⟨ad173, e173, hx173_0⟩ := Kd.at_int HR0.out x8_2 p173 q173
                          cases e173
                          replace hx173_0 := (HB.out.cell (World.block_lt_of_cell? w _ hx173_0)).trans hx173_0
                          replace p173 := eq_true p173
                          replace q173 := eq_true q173
                          have p174 : 0 ≤ (x8_2 : Int) := of_decide_eq_true (by first | (with_reducible assumption) | assumption)
                          have q174 : x8_2 < (l0.length : Int) := of_decide_eq_true (by first | (with_reducible assumption) | assumption)
                          obtain ⟨ad174, e174, hx174_0⟩ := Kd.at_int HR0.out x8_2 p174 q174
                          obtain rfl : ad173 = ad174 := (by injection e174)
                          replace hx174_0 := (HB.out.cell (World.block_lt_of_cell? w _ hx174_0)).trans hx174_0
                          replace p174 := eq_true p174
                          replace q174 := eq_true q174
                          have p175 : 0 ≤ (x8_2 : Int) := of_decide_eq_true (by first | (with_reducible assumption) | assumption)
                          have q175 : x8_2 < (l1.length : Int) := of_decide_eq_true (by first | (with_reducible assumption) | assumption)
                          obtain ⟨ad175, e175, hx175_0⟩ := Kd.at_int HR1.out x8_2 p175 q175
                          cases e175
                          replace hx175_0 := (HB.out.cell (World.block_lt_of_cell? w _ hx175_0)).trans hx175_0
                          replace p175 := eq_true p175
                          replace q175 := eq_true q175
                          have p176 : 0 ≤ (x8_2 : Int) := of_decide_eq_true (by first | (with_reducible assumption) | assumption)
                          have q176 : x8_2 < (l1.length : Int) := of_decide_eq_true (by first | (with_reducible assumption) | assumption)
                          obtain ⟨ad176, e176, hx176_0⟩ := Kd.at_int HR1.out x8_2 p176 q176
                          obtain rfl : ad175 = ad176 := (by injection e176)
                          replace hx176_0 := (HB.out.cell (World.block_lt_of_cell? w _ hx176_0)).trans hx176_0
                          replace p176 := eq_true p176
                          replace q176 := eq_true q176
                          go_wp2
                          go_meet
                          case rel => exact ⟨_, (decide ((rd l1 x8_2) > 1000000000)), (by first | rfl | (simp; done) | (simp [*]; done)), H', ⟨by have := HJ3.out; have := HK2.out; first | omega | exact Nat.le_refl _⟩, ⟨by (with_reducible repeat (first | apply Kd.R_alloc | apply Kd.R_drewN | apply Kd.R_drew)); exact HO_7.out⟩, ⟨by (with_reducible repeat (first | apply Kd.Q_alloc | apply Kd.Q_drewN | apply Kd.Q_drew)); exact HO_173002.out⟩, ⟨by (with_reducible repeat (first | refine blk_drewN ?_ _ | refine blk_drew ?_ | refine blk_alloc ?_ _)); exact BK172.out⟩, ⟨by repeat (first | (with_reducible first | exact HB.out | apply below_alloc | apply pw_below_drewN | apply below_drew1 | refine below_set ?_ GE172.out) | exact HB.out)⟩⟩
                      · rw [if_neg c16] at H
                        exact absurd H (by simp)
                · rw [if_neg c13] at H
                  exact absurd H (by simp)
              case rest =>
                clear HC12
                try clear c1
                try clear p1
                try clear q1
                try clear hx1
                try clear p2
                try clear c4
                try clear c6
                try clear c7
                try clear c7b0
                try clear c7b1
                try clear c8
                try clear c11
                try clear c11b0
                try clear c13
                try clear c13b0
                try clear c14
                try clear c14b0
                try clear c15
                try clear c15b0
                try clear c16
                try clear c16b0
                try clear c17
                try clear c17b0
                try clear p17
                try clear q17
                try clear hx17
                try clear hcz10_0
                try clear hcz10_1
                try clear hcz10_2
                try clear hfz10_0
                try clear hfz10_1
                try clear hfz10_2
                try clear hx173_0
                try clear hx174_0
                try clear hx175_0
                try clear hx176_0
                try clear p173
                try clear p174
                try clear p175
                try clear p176
                try clear p2
                try clear q173
                try clear q174
                try clear q175
                try clear q176
                obtain ⟨kq, x66_11, rfl, HA, HJ11, HO_7, HO_173002, BK172, HB⟩ := hcut
                cases kq with
                | zero => exact absurd HA.out (by simp [fourinhandlaw11_RateBest.j2])
                | succ kj11 =>
                  have H := HA.out
                  clear HA
                  simp only [fourinhandlaw11_RateBest.j2] at H
                  by_cases c18 : x66_11 = true
                  · subst c18
                    have H1 : (some true) = some r := by rw [if_pos rfl] at H; exact H
                    clear H
                    have H := H1
                    clear H1
                    obtain rfl := Option.some.inj H
                    go_wp2
                    go_ret
                    exact ⟨by first | rfl | (simp [errW_none, errW_some] <;> rfl) | (simp [*, errW_none, errW_some] <;> rfl), by repeat (first | (with_reducible first | exact HB.out | apply below_alloc | apply pw_below_drewN | apply below_drew1 | refine below_set ?_ GE172.out) | exact HB.out)⟩
                  · replace c18 := Bool.eq_false_iff.mpr c18
                    subst c18
                    have H1 : (if 0 ≤ x8_2 then (if x8_2 < (l0.length : Int) then (if x8_2 < (l1.length : Int) then ((rate_Came.f kj11 x173000_2 x173001_2 x173002_2 (wrap64 (x173001_2 + (rd l0 x8_2))) (rd l1 x8_2)).bind fun bt179 => ((rate_Sample.f kj11 bt179.1 bt179.2.1 bt179.2.2.1 x173000_2 x173001_2).bind fun bt186 => (if bt179.2.2.2 = 0 then (if bt186.2.2.2.2 = 0 then (if (rd l0 x8_2) = 0 then (none) else (fourinhandlaw11_RateBest.j3 kj11 l0 l1 x7_2 x8_2 bt186.2.2.2.1 (bt186.2.2.2.1 != (wrap64 (Int.tdiv (wrap64 ((rd l1 x8_2) * 1000000)) (rd l0 x8_2)))) bt186.1 bt186.2.1 bt186.2.2.1)) else (fourinhandlaw11_RateBest.j3 kj11 l0 l1 x7_2 x8_2 bt186.2.2.2.1 true bt186.1 bt186.2.1 bt186.2.2.1)) else (fourinhandlaw11_RateBest.j3 kj11 l0 l1 x7_2 x8_2 bt186.2.2.2.1 true bt186.1 bt186.2.1 bt186.2.2.1)))) else (none)) else (none)) else (none)) = some r := by rw [if_neg (show ¬ (false = true) by decide)] at H; exact H
                    clear H
                    have H := H1
                    clear H1
                    by_cases c19 : 0 ≤ x8_2
                    · rw [if_pos c19] at H
                      have c19b0 : decide (0 ≤ x8_2) = true := decide_eq_true c19
                      clear c19
                      by_cases c20 : x8_2 < (l0.length : Int)
                      · rw [if_pos c20] at H
                        have c20b0 : decide (x8_2 < (l0.length : Int)) = true := decide_eq_true c20
                        clear c20
                        by_cases c21 : x8_2 < (l1.length : Int)
                        · rw [if_pos c21] at H
                          have c21b0 : decide (x8_2 < (l1.length : Int)) = true := decide_eq_true c21
                          clear c21
                          replace H := Option.bind_eq_some_iff.mp H
                          obtain ⟨⟨t179, t180, t181, t184⟩, A220, H⟩ := H
                          replace H : ((rate_Sample.f kj11 t179 t180 t181 x173000_2 x173001_2).bind fun bt186 => (if t184 = 0 then (if bt186.2.2.2.2 = 0 then (if (rd l0 x8_2) = 0 then (none) else (fourinhandlaw11_RateBest.j3 kj11 l0 l1 x7_2 x8_2 bt186.2.2.2.1 (bt186.2.2.2.1 != (wrap64 (Int.tdiv (wrap64 ((rd l1 x8_2) * 1000000)) (rd l0 x8_2)))) bt186.1 bt186.2.1 bt186.2.2.1)) else (fourinhandlaw11_RateBest.j3 kj11 l0 l1 x7_2 x8_2 bt186.2.2.2.1 true bt186.1 bt186.2.1 bt186.2.2.1)) else (fourinhandlaw11_RateBest.j3 kj11 l0 l1 x7_2 x8_2 bt186.2.2.2.1 true bt186.1 bt186.2.1 bt186.2.2.1))) = some r := H
                          have A22 := Aside0.mk A220
                          clear A220
                          replace H := Option.bind_eq_some_iff.mp H
                          obtain ⟨⟨t186, t187, t188, t191, t192⟩, A230, H⟩ := H
                          replace H : (if t184 = 0 then (if t192 = 0 then (if (rd l0 x8_2) = 0 then (none) else (fourinhandlaw11_RateBest.j3 kj11 l0 l1 x7_2 x8_2 t191 (t191 != (wrap64 (Int.tdiv (wrap64 ((rd l1 x8_2) * 1000000)) (rd l0 x8_2)))) t186 t187 t188)) else (fourinhandlaw11_RateBest.j3 kj11 l0 l1 x7_2 x8_2 t191 true t186 t187 t188)) else (fourinhandlaw11_RateBest.j3 kj11 l0 l1 x7_2 x8_2 t191 true t186 t187 t188)) = some r := H
                          have A23 := Aside0.mk A230
                          clear A230
                          have HC24 := Aside0.mk H
                          clear H
                          have hcz25_0 : wc.cell? ⟨gb172, 0, none⟩ = some (.int .i64 x173000_2) := (blk_cell BK172.out 0).trans rfl
                          have hcz25_1 : wc.cell? ⟨gb172, 1, none⟩ = some (.int .i64 x173001_2) := (blk_cell BK172.out 1).trans rfl
                          have hcz25_2 : wc.cell? ⟨gb172, 2, none⟩ = some (u173002) := (blk_cell BK172.out 2).trans rfl
                          have hfz25_0 := blk_frozen BK172.out 0
                          have hfz25_1 := blk_frozen BK172.out 1
                          have hfz25_2 := blk_frozen BK172.out 2
                          obtain ⟨Ao26, co26, eo26, _⟩ := Kd.Q_slice HO_173002.out
                          subst eo26
                          try go_wp2
                          have n0_ := Aside0.mk (Kd.R_drew HO_7.out)
                          have n1_ := Aside0.mk (Kd.Q_drew HO_173002.out)
                          have n2_ := Aside0.mk (blk_drew BK172.out)
                          have n3_ := Aside0.mk (below_drew1 HB.out)
                          clear HO_7
                          clear HO_173002
                          clear BK172
                          clear HB
                          have HO_7 := n0_
                          have HO_173002 := n1_
                          have BK172 := n2_
                          have HB := n3_
                          clear n0_ n1_ n2_ n3_
                          have p177 : 0 ≤ (x8_2 : Int) := of_decide_eq_true (by first | (with_reducible assumption) | assumption)
                          have q177 : x8_2 < (l0.length : Int) := of_decide_eq_true (by first | (with_reducible assumption) | assumption)
                          obtain ⟨ad177, e177, hx177_0⟩ := Kd.at_int HR0.out x8_2 p177 q177
                          have hw177_0 := hx177_0
                          cases e177
                          replace hx177_0 := (HB.out.cell (World.block_lt_of_cell? w _ hx177_0)).trans hx177_0
                          replace p177 := eq_true p177
                          replace q177 := eq_true q177
                          have p178 : 0 ≤ (x8_2 : Int) := of_decide_eq_true (by first | (with_reducible assumption) | assumption)
                          have q178 : x8_2 < (l1.length : Int) := of_decide_eq_true (by first | (with_reducible assumption) | assumption)
                          obtain ⟨ad178, e178, hx178_0⟩ := Kd.at_int HR1.out x8_2 p178 q178
                          have hw178_0 := hx178_0
                          cases e178
                          replace hx178_0 := (HB.out.cell (World.block_lt_of_cell? w _ hx178_0)).trans hx178_0
                          replace p178 := eq_true p178
                          replace q178 := eq_true q178
                          refine start_ (n := 18) (S := fun w' => w'.cell? ⟨gb172, 0, none⟩ = some (.int .i64 x173000_2) ∧ w'.cell? ⟨gb172, 1, none⟩ = some (.int .i64 x173001_2) ∧ w'.cell? ⟨gb172, 2, none⟩ = some (.slice Ao26 x173002_2.length co26) ∧ w'.cell? (ad177.add (x8_2).toNat) = some (.int .i64 (rd l0 x8_2)) ∧ w'.cell? (ad178.add (x8_2).toNat) = some (.int .i64 (rd l1 x8_2))) (ds := []) #[false, false, false, false, false, false, false, false, false, false, false, false, false, false, false, false, false, false] (by kernel_rfl) rfl rfl ⟨(blk_cell BK172.out 0).trans rfl, (blk_cell BK172.out 1).trans rfl, (blk_cell BK172.out 2).trans rfl, ((HB.out.cell (World.block_lt_of_cell? w _ hw177_0)).trans hw177_0), ((HB.out.cell (World.block_lt_of_cell? w _ hw178_0)).trans hw178_0)⟩ (fun hHeld => ?_); refine with_tabW fourinhandlaw11_RateBest.tab13 fourinhandlaw11_RateBest.bits13 (fun HT_ HW_ => ?_)
                          generalize wc.drew = w27 at HO_7 HO_173002 BK172 HB hx177_0 hx178_0 hHeld ⊢
                          refine pure_ (i := 1) (N := some 73) (v := ?_) (a' := ?_) #[false, true, false, false, false, false, false, false, false, false, false, false, false, false, false, false, false, false] rfl rfl (any_of HT_.out (by kernel_rfl)) (fun _ _ _ h => h) (Or.inl ⟨by rfl, ?_⟩) ?_ ?_
                          rotate_left
                          · intro w'
                            go_simp
                            with_reducible rfl
                          rotate_left
                          · simp only [Act.put, List.setIfInBounds_toArray, List.set_cons_zero, List.set_cons_succ, i64_w, i32_w]
                            rfl
                          refine pure_ (i := 2) (N := some 74) (v := ?_) (a' := ?_) #[false, true, true, false, false, false, false, false, false, false, false, false, false, false, false, false, false, false] rfl rfl (any_of HT_.out (by kernel_rfl)) (fun _ _ _ h => h) (Or.inl ⟨by rfl, ?_⟩) ?_ ?_
                          rotate_left
                          · intro w'
                            go_simp
                            with_reducible rfl
                          rotate_left
                          · simp only [Act.put, List.setIfInBounds_toArray, List.set_cons_zero, List.set_cons_succ, i64_w, i32_w]
                            rfl
                          refine pure_ (i := 3) (N := some 75) (v := ?_) (a' := ?_) #[false, true, true, true, false, false, false, false, false, false, false, false, false, false, false, false, false, false] rfl rfl (any_of HT_.out (by kernel_rfl)) (fun _ _ _ h => h) (Or.inl ⟨by rfl, ?_⟩) ?_ ?_
                          rotate_left
                          · intro w'
                            go_simp
                            with_reducible rfl
                          rotate_left
                          · simp only [Act.put, List.setIfInBounds_toArray, List.set_cons_zero, List.set_cons_succ, i64_w, i32_w]
                            rfl
                          refine pure_ (i := 4) (N := some 76) (v := ?_) (a' := ?_) #[false, true, true, true, true, false, false, false, false, false, false, false, false, false, false, false, false, false] rfl rfl (any_of HT_.out (by kernel_rfl)) (fun _ _ _ h => h) (Or.inl ⟨by rfl, ?_⟩) ?_ ?_
                          rotate_left
                          · intro w'
                            go_simp
                            with_reducible rfl
                          rotate_left
                          · simp only [Act.put, List.setIfInBounds_toArray, List.set_cons_zero, List.set_cons_succ, i64_w, i32_w]
                            rfl
                          refine pure_ (i := 7) (N := some 79) (v := ?_) (a' := ?_) #[false, true, true, true, true, false, false, true, false, false, false, false, false, false, false, false, false, false] rfl rfl (any_of HT_.out (by kernel_rfl)) (fun _ _ _ h => h) (Or.inl ⟨by rfl, ?_⟩) ?_ ?_
                          rotate_left
                          · intro w'
                            go_simp
                            with_reducible rfl
                          rotate_left
                          · simp only [Act.put, List.setIfInBounds_toArray, List.set_cons_zero, List.set_cons_succ, i64_w, i32_w]
                            rfl
                          refine pure_ (i := 8) (N := some 80) (v := ?_) (a' := ?_) #[false, true, true, true, true, false, false, true, true, false, false, false, false, false, false, false, false, false] rfl rfl (any_of HT_.out (by kernel_rfl)) (fun _ _ _ h => h) (Or.inl ⟨by rfl, ?_⟩) ?_ ?_
                          rotate_left
                          · intro w'
                            go_simp
                            with_reducible rfl
                          rotate_left
                          · simp only [Act.put, List.setIfInBounds_toArray, List.set_cons_zero, List.set_cons_succ, i64_w, i32_w]
                            rfl
                          refine pure_ (i := 9) (N := some 81) (v := ?_) (a' := ?_) #[false, true, true, true, true, false, false, true, true, true, false, false, false, false, false, false, false, false] rfl rfl (any_of HT_.out (by kernel_rfl)) (fun _ _ _ h => h) (Or.inl ⟨by rfl, ?_⟩) ?_ ?_
                          rotate_left
                          · intro w'
                            go_simp
                            with_reducible rfl
                          rotate_left
                          · simp only [Act.put, List.setIfInBounds_toArray, List.set_cons_zero, List.set_cons_succ, i64_w, i32_w]
                            rfl
                          refine take_ (i := 0) (N := some 72) (v := ?_) (a' := ?_) #[true, true, true, true, true, false, false, true, true, true, false, false, false, false, false, false, false, false] rfl rfl (take_ofW HT_.out HW_.out (by kernel_rfl)) (fun _ _ _ h => h) (Or.inl ⟨by rfl, ?_⟩) hHeld ?_ ?_
                          rotate_left
                          · rintro w' ⟨s0, s1, s2, s3, s4⟩
                            go_simp
                            with_reducible rfl
                          rotate_left
                          · simp only [Act.put, List.setIfInBounds_toArray, List.set_cons_zero, List.set_cons_succ, i64_w, i32_w]
                            rfl
                          refine take_ (i := 5) (N := some 77) (v := ?_) (a' := ?_) #[true, true, true, true, true, true, false, true, true, true, false, false, false, false, false, false, false, false] rfl rfl (take_ofW HT_.out HW_.out (by kernel_rfl)) (fun _ _ _ h => h) (Or.inl ⟨by rfl, ?_⟩) hHeld ?_ ?_
                          rotate_left
                          · rintro w' ⟨s0, s1, s2, s3, s4⟩
                            go_simp
                            with_reducible rfl
                          rotate_left
                          · simp only [Act.put, List.setIfInBounds_toArray, List.set_cons_zero, List.set_cons_succ, i64_w, i32_w]
                            rfl
                          refine pure_ (i := 6) (N := some 78) (v := ?_) (a' := ?_) #[true, true, true, true, true, true, true, true, true, true, false, false, false, false, false, false, false, false] rfl rfl (any_of HT_.out (by kernel_rfl)) (fun _ _ _ h => h) (Or.inl ⟨by rfl, ?_⟩) ?_ ?_
                          rotate_left
                          · intro w'
                            go_simp
                            with_reducible rfl
                          rotate_left
                          · simp only [Act.put, List.setIfInBounds_toArray, List.set_cons_zero, List.set_cons_succ, i64_w, i32_w]
                            rfl
                          refine take_ (i := 10) (N := some 82) (v := ?_) (a' := ?_) #[true, true, true, true, true, true, true, true, true, true, true, false, false, false, false, false, false, false] rfl rfl (take_ofW HT_.out HW_.out (by kernel_rfl)) (fun _ _ _ h => h) (Or.inl ⟨by rfl, ?_⟩) hHeld ?_ ?_
                          rotate_left
                          · rintro w' ⟨s0, s1, s2, s3, s4⟩
                            go_simp
                            with_reducible rfl
                          rotate_left
                          · simp only [Act.put, List.setIfInBounds_toArray, List.set_cons_zero, List.set_cons_succ, i64_w, i32_w]
                            rfl
                          refine join_ (σ := Value × Nat) 2 #[true, true, true, true, true, true, true, true, true, true, true, true, true, true, true, true, false, false] (fun s_ => [(83, .tuple #[.agg #[.int .i64 t179, .int .i64 t180, s_.1], .int .i64 t184]), (11, .pointer (some ⟨s_.2, 0, none⟩)), (71, .tuple #[.agg #[.int .i64 t179, .int .i64 t180, s_.1], .int .i64 t184]), (84, .agg #[.int .i64 t179, .int .i64 t180, s_.1]), (85, .int .i64 t184)]) (fun s_ w' => (w'.cell? ⟨gb172, 0, none⟩ = some (.int .i64 x173000_2) ∧ w'.cell? ⟨gb172, 1, none⟩ = some (.int .i64 x173001_2) ∧ w'.cell? ⟨gb172, 2, none⟩ = some (.slice Ao26 x173002_2.length co26) ∧ w'.cell? (ad177.add (x8_2).toNat) = some (.int .i64 (rd l0 x8_2)) ∧ w'.cell? (ad178.add (x8_2).toNat) = some (.int .i64 (rd l1 x8_2))) ∧ (Kd.R (Kd.int .i64) 3 w' w.heap.size (fun k_ => some k_ ≠ (.slice Ao26 x173002_2.length co26 : Value).ownBlock ∧ some k_ ≠ (u7 : Value).ownBlock) s_.1 t181) ∧ (Kd.Q (Kd.int .i64) 3 w' w.heap.size (fun k_ => some k_ ≠ (s_.1 : Value).ownBlock ∧ some k_ ≠ (u7 : Value).ownBlock) (.slice Ao26 x173002_2.length co26) x173002_2) ∧ (Kd.R (Kd.int .i64) 3 w' w.heap.size (fun k_ => some k_ ≠ (s_.1 : Value).ownBlock ∧ some k_ ≠ (.slice Ao26 x173002_2.length co26 : Value).ownBlock) u7 x7_2) ∧ (w'.heap[gb172]? = some (.cells #[.int .i64 x173000_2, .int .i64 x173001_2, .slice Ao26 x173002_2.length co26] 24 (0, 0))) ∧ (w'.heap[s_.2]? = some (.cells #[.int .i64 0, .int .i64 0, .slice none 0 0] 24 (0, 0))) ∧ (w.heap.size ≤ s_.2) ∧ (w.heap.size ≤ s_.2) ∧ (gb172 ≠ s_.2) ∧ (s_.2 ≠ gb172) ∧ (Below w.heap.size w w')) ?_ ?_
                          rotate_left
                          · intro hCont
                            refine two_ (i := 11) (j := 15) (Ni := some 83) (Nj := some 11) #[true, true, true, true, true, true, true, true, true, true, true, true, false, false, false, false, false, false] #[true, true, true, true, true, true, true, true, true, true, true, false, false, false, false, true, false, false] rfl rfl rfl rfl (two_of HT_.out (by kernel_rfl)) (by decide) (by decide) (fun K hK => ?_) (fun K hK => ?_)
                            · skip
                              refine goes_ Try.func10 (by kernel_rfl) rfl #[.agg #[.int .i64 x173000_2, .int .i64 x173001_2, .slice Ao26 x173002_2.length co26], .int .i64 (wrap64 (x173001_2 + (rd l0 x8_2))), .int .i64 (rd l1 x8_2)] (by rfl) rfl rfl (by (try simp only [List.map_toArray, List.map_cons, List.map_nil]); first | done | rfl | (simp only [List.length_drop, List.length_take]; rfl)) ?_
                              with_reducible refine (rate_Came.calls kj11 x173000_2 x173001_2 _ _ x173002_2 (wrap64 (x173001_2 + (rd l0 x8_2))) (rd l1 x8_2) t179 t180 t181 t184 _ ?side1 ?side2 A22.out).mono ?_
                              (case side1 => repeat (first | exact (Kd.Q_reads' HO_173002.out).2.2 | (with_reducible refine Kd.C_alloc ?_ _) | (with_reducible refine Kd.C_drewN ?_ _) | (with_reducible refine Kd.C_drew ?_)))
                              (case side2 => exact (Kd.Q_reads' HO_173002.out).2.1)
                              rintro e w28 ⟨v182, rfl, ho0, hb⟩
                              refine ⟨_, rfl, ?_⟩
                              have n0_ := Aside0.mk (Kd.R_elder' (by (with_reducible repeat (first | apply Kd.R_alloc | apply Kd.R_drewN | apply Kd.R_drew)); exact HO_7.out) (Kd.R_base ho0) hb)
                              have n1_ := Aside0.mk (Kd.Q_elder' (by (with_reducible repeat (first | apply Kd.Q_alloc | apply Kd.Q_drewN | apply Kd.Q_drew)); exact HO_173002.out) (Kd.R_base ho0) hb)
                              have n2_ := Aside0.mk (Kd.R_lower (Kd.R_new' (Kd.R_new' ho0 (Kd.R_lt (by (with_reducible repeat (first | apply Kd.R_alloc | apply Kd.R_drewN | apply Kd.R_drew)); exact HO_7.out))) (Kd.Q_lt (by (with_reducible repeat (first | apply Kd.Q_alloc | apply Kd.Q_drewN | apply Kd.Q_drew)); exact HO_173002.out))) (below_size (by repeat (first | (with_reducible first | exact HB.out | apply below_alloc | apply pw_below_drewN | apply below_drew1 | refine below_set ?_ GE172.out) | exact HB.out))))
                              have n3_ := Aside0.mk (blk_below (g := gb172) (o := .cells #[.int .i64 x173000_2, .int .i64 x173001_2, .slice Ao26 x173002_2.length co26] 24 (0, 0)) (by (with_reducible repeat (first | refine blk_drewN ?_ _ | refine blk_drew ?_ | refine blk_alloc ?_ _)); exact BK172.out) hb)
                              have n4_ := Aside0.mk (below_step (by repeat (first | (with_reducible first | exact HB.out | apply below_alloc | apply pw_below_drewN | apply below_drew1 | refine below_set ?_ GE172.out) | exact HB.out)) hb)
                              clear HO_7
                              clear HO_173002
                              clear BK172
                              clear HB
                              have HO_7 := n0_
                              have HO_173002 := n1_
                              have HO183 := n2_
                              have BK172 := n3_
                              have HB := n4_
                              clear n0_ n1_ n2_ n3_ n4_
                              (try clear hb)
                              (try clear hb2)
                              (try clear hk)
                              (try clear hi)
                              (try clear ho0)
                              refine hK.out _ _ ⟨(blk_cell BK172.out 0).trans rfl, (blk_cell BK172.out 1).trans rfl, (blk_cell BK172.out 2).trans rfl, ((HB.out.cell (World.block_lt_of_cell? w _ hw177_0)).trans hw177_0), ((HB.out.cell (World.block_lt_of_cell? w _ hw178_0)).trans hw178_0)⟩ (fun hHeld => ?_)
                              clear hK K
                              refine norm_ (a' := ?_) ?_ ?_
                              rotate_left
                              · show Act.put _ (some 83) _ = _
                                simp only [Act.put, List.setIfInBounds_toArray, List.set_cons_zero, List.set_cons_succ, i64_w, i32_w]
                                rfl
                              refine pure_ (i := 12) (N := some 71) (v := ?_) (a' := ?_) #[true, true, true, true, true, true, true, true, true, true, true, true, true, false, false, false, false, false] rfl rfl (any_of HT_.out (by kernel_rfl)) (fun _ _ _ h => h) (Or.inl ⟨by rfl, ?_⟩) ?_ ?_
                              rotate_left
                              · intro w'
                                go_simp
                                with_reducible rfl
                              rotate_left
                              · simp only [Act.put, List.setIfInBounds_toArray, List.set_cons_zero, List.set_cons_succ, i64_w, i32_w]
                                rfl
                              refine pure_ (i := 13) (N := some 84) (v := ?_) (a' := ?_) #[true, true, true, true, true, true, true, true, true, true, true, true, true, true, false, false, false, false] rfl rfl (any_of HT_.out (by kernel_rfl)) (fun _ _ _ h => h) (Or.inl ⟨by rfl, ?_⟩) ?_ ?_
                              rotate_left
                              · intro w'
                                go_simp
                                with_reducible rfl
                              rotate_left
                              · simp only [Act.put, List.setIfInBounds_toArray, List.set_cons_zero, List.set_cons_succ, i64_w, i32_w]
                                rfl
                              refine pure_ (i := 14) (N := some 85) (v := ?_) (a' := ?_) #[true, true, true, true, true, true, true, true, true, true, true, true, true, true, true, false, false, false] rfl rfl (any_of HT_.out (by kernel_rfl)) (fun _ _ _ h => h) (Or.inl ⟨by rfl, ?_⟩) ?_ ?_
                              rotate_left
                              · intro w'
                                go_simp
                                with_reducible rfl
                              rotate_left
                              · simp only [Act.put, List.setIfInBounds_toArray, List.set_cons_zero, List.set_cons_succ, i64_w, i32_w]
                                rfl
                              refine one_ (i := 15) (N := some 11) #[true, true, true, true, true, true, true, true, true, true, true, true, true, true, true, true, false, false] rfl rfl (one_of HT_.out (by kernel_rfl)) (by decide) (fun K hK => ?_)
                              refine box_step ?hg (N := 11) ?hd (cs := #[.int .i64 0, .int .i64 0, .slice none 0 0]) (t := 24) ?hr ?_; (case hd => rfl); (case hg => rfl); (case hr => first | (go_simp; done) | (go_simp; rfl))
                              intro gb185 hg w29 hbox hb
                              have n0_ := Aside0.mk (Kd.R_below (by (with_reducible repeat (first | apply Kd.R_alloc | apply Kd.R_drewN | apply Kd.R_drew)); exact HO_7.out) hb)
                              have n1_ := Aside0.mk (Kd.Q_below (by (with_reducible repeat (first | apply Kd.Q_alloc | apply Kd.Q_drewN | apply Kd.Q_drew)); exact HO_173002.out) hb)
                              have n2_ := Aside0.mk (Kd.R_below (by (with_reducible repeat (first | apply Kd.R_alloc | apply Kd.R_drewN | apply Kd.R_drew)); exact HO183.out) hb)
                              have n3_ := Aside0.mk (blk_below (g := gb172) (o := .cells #[.int .i64 x173000_2, .int .i64 x173001_2, .slice Ao26 x173002_2.length co26] 24 (0, 0)) (by (with_reducible repeat (first | refine blk_drewN ?_ _ | refine blk_drew ?_ | refine blk_alloc ?_ _)); exact BK172.out) hb)
                              have n4_ := Aside0.mk (below_step (by repeat (first | (with_reducible first | exact HB.out | apply below_alloc | apply pw_below_drewN | apply below_drew1 | refine below_set ?_ GE172.out) | exact HB.out)) hb)
                              have n5_ := Aside0.mk (hbox)
                              have n6_ := Aside0.mk ((by rw [hg]; exact (below_size (by repeat (first | (with_reducible first | exact HB.out | apply below_alloc | apply pw_below_drewN | apply below_drew1 | refine below_set ?_ GE172.out) | exact HB.out))) : w.heap.size ≤ gb185))
                              have n7_ := Aside0.mk ((by rw [hg]; exact (below_size (by repeat (first | (with_reducible first | exact HB.out | apply below_alloc | apply pw_below_drewN | apply below_drew1 | refine below_set ?_ GE172.out) | exact HB.out))) : w.heap.size ≤ gb185))
                              have n8_ := Aside0.mk ((by rw [hg]; exact Nat.ne_of_lt (blk_lt (g := gb172) (o := .cells #[.int .i64 x173000_2, .int .i64 x173001_2, .slice Ao26 x173002_2.length co26] 24 (0, 0)) (by (with_reducible repeat (first | refine blk_drewN ?_ _ | refine blk_drew ?_ | refine blk_alloc ?_ _)); exact BK172.out)) : gb172 ≠ gb185))
                              have n9_ := Aside0.mk ((by rw [hg]; exact Nat.ne_of_gt (blk_lt (g := gb172) (o := .cells #[.int .i64 x173000_2, .int .i64 x173001_2, .slice Ao26 x173002_2.length co26] 24 (0, 0)) (by (with_reducible repeat (first | refine blk_drewN ?_ _ | refine blk_drew ?_ | refine blk_alloc ?_ _)); exact BK172.out)) : gb185 ≠ gb172))
                              clear HO_7
                              clear HO_173002
                              clear HO183
                              clear BK172
                              clear HB
                              have HO_7 := n0_
                              have HO_173002 := n1_
                              have HO183 := n2_
                              have BK172 := n3_
                              have HB := n4_
                              have BK185 := n5_
                              have GW185 := n6_
                              have GE185 := n7_
                              have NB172_185 := n8_
                              have NB185_172 := n9_
                              clear n0_ n1_ n2_ n3_ n4_ n5_ n6_ n7_ n8_ n9_
                              clear hb hbox hg
                              refine hK.out _ _ ⟨(blk_cell BK172.out 0).trans rfl, (blk_cell BK172.out 1).trans rfl, (blk_cell BK172.out 2).trans rfl, ((HB.out.cell (World.block_lt_of_cell? w _ hw177_0)).trans hw177_0), ((HB.out.cell (World.block_lt_of_cell? w _ hw178_0)).trans hw178_0)⟩ (fun hHeld => ?_)
                              clear hK K
                              refine norm_ (a' := ?_) ?_ ?_
                              rotate_left
                              · show Act.put _ (some 11) _ = _
                                simp only [Act.put, List.setIfInBounds_toArray, List.set_cons_zero, List.set_cons_succ, i64_w, i32_w]
                                rfl
                              exact norm_ (by simp only [putAll, Act.put, List.setIfInBounds_toArray, List.set_cons_zero, List.set_cons_succ]) (hCont (v182, gb185) _ ⟨hHeld, (by (with_reducible repeat (first | apply Kd.R_alloc | apply Kd.R_drewN | apply Kd.R_drew)); exact Kd.R_mono HO183.out (fun _ hk => ⟨hk.2, hk.1.2⟩)), (by (with_reducible repeat (first | apply Kd.Q_alloc | apply Kd.Q_drewN | apply Kd.Q_drew)); exact Kd.Q_mono HO_173002.out (fun _ hk => ⟨hk.2, hk.1⟩)), (by (with_reducible repeat (first | apply Kd.R_alloc | apply Kd.R_drewN | apply Kd.R_drew)); exact Kd.R_mono HO_7.out (fun _ hk => ⟨hk.2, hk.1⟩)), (by (with_reducible repeat (first | refine blk_drewN ?_ _ | refine blk_drew ?_ | refine blk_alloc ?_ _)); exact BK172.out), (by (with_reducible repeat (first | refine blk_drewN ?_ _ | refine blk_drew ?_ | refine blk_alloc ?_ _)); exact BK185.out), GW185.out, GE185.out, NB172_185.out, NB185_172.out, (by repeat (first | (with_reducible first | exact HB.out | apply below_alloc | apply pw_below_drewN | apply below_drew1 | refine below_set ?_ GE172.out | refine below_set ?_ GE185.out) | exact HB.out))⟩)
                            · skip
                              refine box_step ?hg (N := 11) ?hd (cs := #[.int .i64 0, .int .i64 0, .slice none 0 0]) (t := 24) ?hr ?_; (case hd => rfl); (case hg => rfl); (case hr => first | (go_simp; done) | (go_simp; rfl))
                              intro gb185 hg w28 hbox hb
                              have n0_ := Aside0.mk (Kd.R_below (by (with_reducible repeat (first | apply Kd.R_alloc | apply Kd.R_drewN | apply Kd.R_drew)); exact HO_7.out) hb)
                              have n1_ := Aside0.mk (Kd.Q_below (by (with_reducible repeat (first | apply Kd.Q_alloc | apply Kd.Q_drewN | apply Kd.Q_drew)); exact HO_173002.out) hb)
                              have n2_ := Aside0.mk (blk_below (g := gb172) (o := .cells #[.int .i64 x173000_2, .int .i64 x173001_2, .slice Ao26 x173002_2.length co26] 24 (0, 0)) (by (with_reducible repeat (first | refine blk_drewN ?_ _ | refine blk_drew ?_ | refine blk_alloc ?_ _)); exact BK172.out) hb)
                              have n3_ := Aside0.mk (below_step (by repeat (first | (with_reducible first | exact HB.out | apply below_alloc | apply pw_below_drewN | apply below_drew1 | refine below_set ?_ GE172.out) | exact HB.out)) hb)
                              have n4_ := Aside0.mk (hbox)
                              have n5_ := Aside0.mk ((by rw [hg]; exact (below_size (by repeat (first | (with_reducible first | exact HB.out | apply below_alloc | apply pw_below_drewN | apply below_drew1 | refine below_set ?_ GE172.out) | exact HB.out))) : w.heap.size ≤ gb185))
                              have n6_ := Aside0.mk ((by rw [hg]; exact (below_size (by repeat (first | (with_reducible first | exact HB.out | apply below_alloc | apply pw_below_drewN | apply below_drew1 | refine below_set ?_ GE172.out) | exact HB.out))) : w.heap.size ≤ gb185))
                              have n7_ := Aside0.mk ((by rw [hg]; exact Nat.ne_of_lt (blk_lt (g := gb172) (o := .cells #[.int .i64 x173000_2, .int .i64 x173001_2, .slice Ao26 x173002_2.length co26] 24 (0, 0)) (by (with_reducible repeat (first | refine blk_drewN ?_ _ | refine blk_drew ?_ | refine blk_alloc ?_ _)); exact BK172.out)) : gb172 ≠ gb185))
                              have n8_ := Aside0.mk ((by rw [hg]; exact Nat.ne_of_gt (blk_lt (g := gb172) (o := .cells #[.int .i64 x173000_2, .int .i64 x173001_2, .slice Ao26 x173002_2.length co26] 24 (0, 0)) (by (with_reducible repeat (first | refine blk_drewN ?_ _ | refine blk_drew ?_ | refine blk_alloc ?_ _)); exact BK172.out)) : gb185 ≠ gb172))
                              clear HO_7
                              clear HO_173002
                              clear BK172
                              clear HB
                              have HO_7 := n0_
                              have HO_173002 := n1_
                              have BK172 := n2_
                              have HB := n3_
                              have BK185 := n4_
                              have GW185 := n5_
                              have GE185 := n6_
                              have NB172_185 := n7_
                              have NB185_172 := n8_
                              clear n0_ n1_ n2_ n3_ n4_ n5_ n6_ n7_ n8_
                              clear hb hbox hg
                              refine hK.out _ _ ⟨(blk_cell BK172.out 0).trans rfl, (blk_cell BK172.out 1).trans rfl, (blk_cell BK172.out 2).trans rfl, ((HB.out.cell (World.block_lt_of_cell? w _ hw177_0)).trans hw177_0), ((HB.out.cell (World.block_lt_of_cell? w _ hw178_0)).trans hw178_0)⟩ (fun hHeld => ?_)
                              clear hK K
                              refine norm_ (a' := ?_) ?_ ?_
                              rotate_left
                              · show Act.put _ (some 11) _ = _
                                simp only [Act.put, List.setIfInBounds_toArray, List.set_cons_zero, List.set_cons_succ, i64_w, i32_w]
                                rfl
                              refine one_ (i := 11) (N := some 83) #[true, true, true, true, true, true, true, true, true, true, true, true, false, false, false, true, false, false] rfl rfl (one_of HT_.out (by kernel_rfl)) (by decide) (fun K hK => ?_)
                              refine goes_ Try.func10 (by kernel_rfl) rfl #[.agg #[.int .i64 x173000_2, .int .i64 x173001_2, .slice Ao26 x173002_2.length co26], .int .i64 (wrap64 (x173001_2 + (rd l0 x8_2))), .int .i64 (rd l1 x8_2)] (by rfl) rfl rfl (by (try simp only [List.map_toArray, List.map_cons, List.map_nil]); first | done | rfl | (simp only [List.length_drop, List.length_take]; rfl)) ?_
                              with_reducible refine (rate_Came.calls kj11 x173000_2 x173001_2 _ _ x173002_2 (wrap64 (x173001_2 + (rd l0 x8_2))) (rd l1 x8_2) t179 t180 t181 t184 _ ?side1 ?side2 A22.out).mono ?_
                              (case side1 => repeat (first | exact (Kd.Q_reads' HO_173002.out).2.2 | (with_reducible refine Kd.C_alloc ?_ _) | (with_reducible refine Kd.C_drewN ?_ _) | (with_reducible refine Kd.C_drew ?_)))
                              (case side2 => exact (Kd.Q_reads' HO_173002.out).2.1)
                              rintro e w29 ⟨v182, rfl, ho0, hb⟩
                              refine ⟨_, rfl, ?_⟩
                              have n0_ := Aside0.mk (Kd.R_elder' (by (with_reducible repeat (first | apply Kd.R_alloc | apply Kd.R_drewN | apply Kd.R_drew)); exact HO_7.out) (Kd.R_base ho0) hb)
                              have n1_ := Aside0.mk (Kd.Q_elder' (by (with_reducible repeat (first | apply Kd.Q_alloc | apply Kd.Q_drewN | apply Kd.Q_drew)); exact HO_173002.out) (Kd.R_base ho0) hb)
                              have n2_ := Aside0.mk (Kd.R_lower (Kd.R_new' (Kd.R_new' ho0 (Kd.R_lt (by (with_reducible repeat (first | apply Kd.R_alloc | apply Kd.R_drewN | apply Kd.R_drew)); exact HO_7.out))) (Kd.Q_lt (by (with_reducible repeat (first | apply Kd.Q_alloc | apply Kd.Q_drewN | apply Kd.Q_drew)); exact HO_173002.out))) (below_size (by repeat (first | (with_reducible first | exact HB.out | apply below_alloc | apply pw_below_drewN | apply below_drew1 | refine below_set ?_ GE172.out | refine below_set ?_ GE185.out) | exact HB.out))))
                              have n3_ := Aside0.mk (blk_below (g := gb172) (o := .cells #[.int .i64 x173000_2, .int .i64 x173001_2, .slice Ao26 x173002_2.length co26] 24 (0, 0)) (by (with_reducible repeat (first | refine blk_drewN ?_ _ | refine blk_drew ?_ | refine blk_alloc ?_ _)); exact BK172.out) hb)
                              have n4_ := Aside0.mk (blk_below (g := gb185) (o := .cells #[.int .i64 0, .int .i64 0, .slice none 0 0] 24 (0, 0)) (by (with_reducible repeat (first | refine blk_drewN ?_ _ | refine blk_drew ?_ | refine blk_alloc ?_ _)); exact BK185.out) hb)
                              have n5_ := Aside0.mk (below_step (by repeat (first | (with_reducible first | exact HB.out | apply below_alloc | apply pw_below_drewN | apply below_drew1 | refine below_set ?_ GE172.out | refine below_set ?_ GE185.out) | exact HB.out)) hb)
                              clear HO_7
                              clear HO_173002
                              clear BK172
                              clear BK185
                              clear HB
                              have HO_7 := n0_
                              have HO_173002 := n1_
                              have HO183 := n2_
                              have BK172 := n3_
                              have BK185 := n4_
                              have HB := n5_
                              clear n0_ n1_ n2_ n3_ n4_ n5_
                              (try clear hb)
                              (try clear hb2)
                              (try clear hk)
                              (try clear hi)
                              (try clear ho0)
                              refine hK.out _ _ ⟨(blk_cell BK172.out 0).trans rfl, (blk_cell BK172.out 1).trans rfl, (blk_cell BK172.out 2).trans rfl, ((HB.out.cell (World.block_lt_of_cell? w _ hw177_0)).trans hw177_0), ((HB.out.cell (World.block_lt_of_cell? w _ hw178_0)).trans hw178_0)⟩ (fun hHeld => ?_)
                              clear hK K
                              refine norm_ (a' := ?_) ?_ ?_
                              rotate_left
                              · show Act.put _ (some 83) _ = _
                                simp only [Act.put, List.setIfInBounds_toArray, List.set_cons_zero, List.set_cons_succ, i64_w, i32_w]
                                rfl
                              refine pure_ (i := 12) (N := some 71) (v := ?_) (a' := ?_) #[true, true, true, true, true, true, true, true, true, true, true, true, true, false, false, true, false, false] rfl rfl (any_of HT_.out (by kernel_rfl)) (fun _ _ _ h => h) (Or.inl ⟨by rfl, ?_⟩) ?_ ?_
                              rotate_left
                              · intro w'
                                go_simp
                                with_reducible rfl
                              rotate_left
                              · simp only [Act.put, List.setIfInBounds_toArray, List.set_cons_zero, List.set_cons_succ, i64_w, i32_w]
                                rfl
                              refine pure_ (i := 13) (N := some 84) (v := ?_) (a' := ?_) #[true, true, true, true, true, true, true, true, true, true, true, true, true, true, false, true, false, false] rfl rfl (any_of HT_.out (by kernel_rfl)) (fun _ _ _ h => h) (Or.inl ⟨by rfl, ?_⟩) ?_ ?_
                              rotate_left
                              · intro w'
                                go_simp
                                with_reducible rfl
                              rotate_left
                              · simp only [Act.put, List.setIfInBounds_toArray, List.set_cons_zero, List.set_cons_succ, i64_w, i32_w]
                                rfl
                              refine pure_ (i := 14) (N := some 85) (v := ?_) (a' := ?_) #[true, true, true, true, true, true, true, true, true, true, true, true, true, true, true, true, false, false] rfl rfl (any_of HT_.out (by kernel_rfl)) (fun _ _ _ h => h) (Or.inl ⟨by rfl, ?_⟩) ?_ ?_
                              rotate_left
                              · intro w'
                                go_simp
                                with_reducible rfl
                              rotate_left
                              · simp only [Act.put, List.setIfInBounds_toArray, List.set_cons_zero, List.set_cons_succ, i64_w, i32_w]
                                rfl
                              exact norm_ (by simp only [putAll, Act.put, List.setIfInBounds_toArray, List.set_cons_zero, List.set_cons_succ]) (hCont (v182, gb185) _ ⟨hHeld, (by (with_reducible repeat (first | apply Kd.R_alloc | apply Kd.R_drewN | apply Kd.R_drew)); exact Kd.R_mono HO183.out (fun _ hk => ⟨hk.2, hk.1.2⟩)), (by (with_reducible repeat (first | apply Kd.Q_alloc | apply Kd.Q_drewN | apply Kd.Q_drew)); exact Kd.Q_mono HO_173002.out (fun _ hk => ⟨hk.2, hk.1⟩)), (by (with_reducible repeat (first | apply Kd.R_alloc | apply Kd.R_drewN | apply Kd.R_drew)); exact Kd.R_mono HO_7.out (fun _ hk => ⟨hk.2, hk.1⟩)), (by (with_reducible repeat (first | refine blk_drewN ?_ _ | refine blk_drew ?_ | refine blk_alloc ?_ _)); exact BK172.out), (by (with_reducible repeat (first | refine blk_drewN ?_ _ | refine blk_drew ?_ | refine blk_alloc ?_ _)); exact BK185.out), GW185.out, GE185.out, NB172_185.out, NB185_172.out, (by repeat (first | (with_reducible first | exact HB.out | apply below_alloc | apply pw_below_drewN | apply below_drew1 | refine below_set ?_ GE172.out | refine below_set ?_ GE185.out) | exact HB.out))⟩)
                          rintro ⟨v182, gb185⟩ w30 ⟨hS_, h0_, h1_, h2_, h3_, h4_, h5_, h6_, h7_, h8_, h9_⟩
                          have n0_ : Aside0 (Kd.R (Kd.int .i64) 3 w30 w.heap.size (fun k_ => some k_ ≠ (.slice Ao26 x173002_2.length co26 : Value).ownBlock ∧ some k_ ≠ (u7 : Value).ownBlock) v182 t181) := ⟨h0_⟩
                          have n1_ : Aside0 (Kd.Q (Kd.int .i64) 3 w30 w.heap.size (fun k_ => some k_ ≠ (v182 : Value).ownBlock ∧ some k_ ≠ (u7 : Value).ownBlock) (.slice Ao26 x173002_2.length co26) x173002_2) := ⟨h1_⟩
                          have n2_ : Aside0 (Kd.R (Kd.int .i64) 3 w30 w.heap.size (fun k_ => some k_ ≠ (v182 : Value).ownBlock ∧ some k_ ≠ (.slice Ao26 x173002_2.length co26 : Value).ownBlock) u7 x7_2) := ⟨h2_⟩
                          have n3_ : Aside0 (w30.heap[gb172]? = some (.cells #[.int .i64 x173000_2, .int .i64 x173001_2, .slice Ao26 x173002_2.length co26] 24 (0, 0))) := ⟨h3_⟩
                          have n4_ : Aside0 (w30.heap[gb185]? = some (.cells #[.int .i64 0, .int .i64 0, .slice none 0 0] 24 (0, 0))) := ⟨h4_⟩
                          have n5_ : Aside0 (w.heap.size ≤ gb185) := ⟨h5_⟩
                          have n6_ : Aside0 (w.heap.size ≤ gb185) := ⟨h6_⟩
                          have n7_ : Aside0 (gb172 ≠ gb185) := ⟨h7_⟩
                          have n8_ : Aside0 (gb185 ≠ gb172) := ⟨h8_⟩
                          have n9_ : Aside0 (Below w.heap.size w w30) := ⟨h9_⟩
                          clear HO_7
                          clear HO_173002
                          clear BK172
                          clear HB
                          clear h0_ h1_ h2_ h3_ h4_ h5_ h6_ h7_ h8_ h9_
                          have HO183 := n0_
                          have HO_173002 := n1_
                          have HO_7 := n2_
                          have BK172 := n3_
                          have BK185 := n4_
                          have GW185 := n5_
                          have GE185 := n6_
                          have NB172_185 := n7_
                          have NB185_172 := n8_
                          have HB := n9_
                          clear n0_ n1_ n2_ n3_ n4_ n5_ n6_ n7_ n8_ n9_
                          have hHeld : w30.cell? ⟨gb172, 0, none⟩ = some (.int .i64 x173000_2) ∧ w30.cell? ⟨gb172, 1, none⟩ = some (.int .i64 x173001_2) ∧ w30.cell? ⟨gb172, 2, none⟩ = some (.slice Ao26 x173002_2.length co26) ∧ w30.cell? (ad177.add (x8_2).toNat) = some (.int .i64 (rd l0 x8_2)) ∧ w30.cell? (ad178.add (x8_2).toNat) = some (.int .i64 (rd l1 x8_2)) := hS_
                          obtain ⟨Ao33, co33, eo33⟩ := Kd.R_slice HO183.out
                          (first | subst eo33 | (injection eo33 with f1_ f2_ f3_; have f4_ := f1_.symm; have f5_ := f3_.symm; clear f1_ f2_ f3_; subst f4_; subst f5_))
                          refine norm_ (a' := ?_) ?_ ?_
                          rotate_left
                          · simp only [putAll, Act.put, List.setIfInBounds_toArray, List.set_cons_zero, List.set_cons_succ]
                            rfl
                          refine one_ (i := 16) (N := none) #[true, true, true, true, true, true, true, true, true, true, true, true, true, true, true, true, true, false] rfl rfl (one_of HT_.out (by kernel_rfl)) (by decide) (fun K hK => ?_)
                          have hs31 : w30.cell? ⟨gb185, 0, none⟩ = some (.int .i64 0) := (blk_cell BK185.out 0).trans rfl
                          have hfs31 := blk_frozen BK185.out 0
                          have hns31_0 := NB172_185.out
                          have hms31_0 := NB185_172.out
                          have hs32 : w30.cell? ⟨gb185, 1, none⟩ = some (.int .i64 0) := (blk_cell BK185.out 1).trans rfl
                          have hfs32 := blk_frozen BK185.out 1
                          have hns32_0 := NB172_185.out
                          have hms32_0 := NB185_172.out
                          have hs34 : w30.cell? ⟨gb185, 2, none⟩ = some (.slice none 0 0) := (blk_cell BK185.out 2).trans rfl
                          have hfs34 := blk_frozen BK185.out 2
                          have hns34_0 := NB172_185.out
                          have hms34_0 := NB185_172.out
                          refine skip_ (w1 := ?_) (by rfl) rfl ?_ ?_
                          rotate_left
                          · go_simp
                            rfl
                          refine hK.out _ _ ⟨((cell_far (p := ⟨gb185, _, none⟩) NB172_185.out _).trans (((cell_far (p := ⟨gb185, _, none⟩) NB172_185.out _).trans (((cell_far (p := ⟨gb185, _, none⟩) NB172_185.out _).trans (hHeld.1)))))), ((cell_far (p := ⟨gb185, _, none⟩) NB172_185.out _).trans (((cell_far (p := ⟨gb185, _, none⟩) NB172_185.out _).trans (((cell_far (p := ⟨gb185, _, none⟩) NB172_185.out _).trans (hHeld.2.1)))))), ((cell_far (p := ⟨gb185, _, none⟩) NB172_185.out _).trans (((cell_far (p := ⟨gb185, _, none⟩) NB172_185.out _).trans (((cell_far (p := ⟨gb185, _, none⟩) NB172_185.out _).trans (hHeld.2.2.1)))))), ((cell_far (p := ⟨gb185, _, none⟩) (by first | exact Nat.ne_of_lt (Nat.lt_of_lt_of_le (by have := World.block_lt_of_cell? _ _ hw177_0; first | rwa [add_block] at this | exact this) GW185.out) | (rw [add_block]; exact Nat.ne_of_lt (Nat.lt_of_lt_of_le (by have := World.block_lt_of_cell? _ _ hw177_0; first | rwa [add_block] at this | exact this) GW185.out)) | (show (Addr.add _ _).block ≠ _; rw [add_block]; exact Nat.ne_of_lt (Nat.lt_of_lt_of_le (by have := World.block_lt_of_cell? _ _ hw177_0; first | rwa [add_block] at this | exact this) GW185.out)) | (dsimp only; exact Nat.ne_of_lt (Nat.lt_of_lt_of_le (by have := World.block_lt_of_cell? _ _ hw177_0; first | rwa [add_block] at this | exact this) GW185.out))) _).trans (((cell_far (p := ⟨gb185, _, none⟩) (by first | exact Nat.ne_of_lt (Nat.lt_of_lt_of_le (by have := World.block_lt_of_cell? _ _ hw177_0; first | rwa [add_block] at this | exact this) GW185.out) | (rw [add_block]; exact Nat.ne_of_lt (Nat.lt_of_lt_of_le (by have := World.block_lt_of_cell? _ _ hw177_0; first | rwa [add_block] at this | exact this) GW185.out)) | (show (Addr.add _ _).block ≠ _; rw [add_block]; exact Nat.ne_of_lt (Nat.lt_of_lt_of_le (by have := World.block_lt_of_cell? _ _ hw177_0; first | rwa [add_block] at this | exact this) GW185.out)) | (dsimp only; exact Nat.ne_of_lt (Nat.lt_of_lt_of_le (by have := World.block_lt_of_cell? _ _ hw177_0; first | rwa [add_block] at this | exact this) GW185.out))) _).trans (((cell_far (p := ⟨gb185, _, none⟩) (by first | exact Nat.ne_of_lt (Nat.lt_of_lt_of_le (by have := World.block_lt_of_cell? _ _ hw177_0; first | rwa [add_block] at this | exact this) GW185.out) | (rw [add_block]; exact Nat.ne_of_lt (Nat.lt_of_lt_of_le (by have := World.block_lt_of_cell? _ _ hw177_0; first | rwa [add_block] at this | exact this) GW185.out)) | (show (Addr.add _ _).block ≠ _; rw [add_block]; exact Nat.ne_of_lt (Nat.lt_of_lt_of_le (by have := World.block_lt_of_cell? _ _ hw177_0; first | rwa [add_block] at this | exact this) GW185.out)) | (dsimp only; exact Nat.ne_of_lt (Nat.lt_of_lt_of_le (by have := World.block_lt_of_cell? _ _ hw177_0; first | rwa [add_block] at this | exact this) GW185.out))) _).trans (hHeld.2.2.2.1)))))), ((cell_far (p := ⟨gb185, _, none⟩) (by first | exact Nat.ne_of_lt (Nat.lt_of_lt_of_le (by have := World.block_lt_of_cell? _ _ hw178_0; first | rwa [add_block] at this | exact this) GW185.out) | (rw [add_block]; exact Nat.ne_of_lt (Nat.lt_of_lt_of_le (by have := World.block_lt_of_cell? _ _ hw178_0; first | rwa [add_block] at this | exact this) GW185.out)) | (show (Addr.add _ _).block ≠ _; rw [add_block]; exact Nat.ne_of_lt (Nat.lt_of_lt_of_le (by have := World.block_lt_of_cell? _ _ hw178_0; first | rwa [add_block] at this | exact this) GW185.out)) | (dsimp only; exact Nat.ne_of_lt (Nat.lt_of_lt_of_le (by have := World.block_lt_of_cell? _ _ hw178_0; first | rwa [add_block] at this | exact this) GW185.out))) _).trans (((cell_far (p := ⟨gb185, _, none⟩) (by first | exact Nat.ne_of_lt (Nat.lt_of_lt_of_le (by have := World.block_lt_of_cell? _ _ hw178_0; first | rwa [add_block] at this | exact this) GW185.out) | (rw [add_block]; exact Nat.ne_of_lt (Nat.lt_of_lt_of_le (by have := World.block_lt_of_cell? _ _ hw178_0; first | rwa [add_block] at this | exact this) GW185.out)) | (show (Addr.add _ _).block ≠ _; rw [add_block]; exact Nat.ne_of_lt (Nat.lt_of_lt_of_le (by have := World.block_lt_of_cell? _ _ hw178_0; first | rwa [add_block] at this | exact this) GW185.out)) | (dsimp only; exact Nat.ne_of_lt (Nat.lt_of_lt_of_le (by have := World.block_lt_of_cell? _ _ hw178_0; first | rwa [add_block] at this | exact this) GW185.out))) _).trans (((cell_far (p := ⟨gb185, _, none⟩) (by first | exact Nat.ne_of_lt (Nat.lt_of_lt_of_le (by have := World.block_lt_of_cell? _ _ hw178_0; first | rwa [add_block] at this | exact this) GW185.out) | (rw [add_block]; exact Nat.ne_of_lt (Nat.lt_of_lt_of_le (by have := World.block_lt_of_cell? _ _ hw178_0; first | rwa [add_block] at this | exact this) GW185.out)) | (show (Addr.add _ _).block ≠ _; rw [add_block]; exact Nat.ne_of_lt (Nat.lt_of_lt_of_le (by have := World.block_lt_of_cell? _ _ hw178_0; first | rwa [add_block] at this | exact this) GW185.out)) | (dsimp only; exact Nat.ne_of_lt (Nat.lt_of_lt_of_le (by have := World.block_lt_of_cell? _ _ hw178_0; first | rwa [add_block] at this | exact this) GW185.out))) _).trans (hHeld.2.2.2.2))))))⟩ (fun hHeld => ?_)
                          clear hK K
                          refine pure_ (i := 17) (N := some 12) (v := ?_) (a' := ?_) #[true, true, true, true, true, true, true, true, true, true, true, true, true, true, true, true, true, true] rfl rfl (any_of HT_.out (by kernel_rfl)) (fun _ _ _ h => h) (Or.inl ⟨by rfl, ?_⟩) ?_ ?_
                          rotate_left
                          · intro w'
                            go_simp
                            with_reducible rfl
                          rotate_left
                          · simp only [Act.put, List.setIfInBounds_toArray, List.set_cons_zero, List.set_cons_succ, i64_w, i32_w]
                            rfl
                          refine done_ (done_of HT_.out (by kernel_rfl)) ?_
                          have hnb35 := NB185_172.out
                          have hnc35 := NB172_185.out
                          have hcz36_0 : w30.cell? ⟨gb185, 0, none⟩ = some (.int .i64 0) := (blk_cell BK185.out 0).trans rfl
                          have hcz36_1 : w30.cell? ⟨gb185, 1, none⟩ = some (.int .i64 0) := (blk_cell BK185.out 1).trans rfl
                          have hcz36_2 : w30.cell? ⟨gb185, 2, none⟩ = some (.slice none 0 0) := (blk_cell BK185.out 2).trans rfl
                          have hfz36_0 := blk_frozen BK185.out 0
                          have hfz36_1 := blk_frozen BK185.out 1
                          have hfz36_2 := blk_frozen BK185.out 2
                          go_upto_region 15 with (first | ((with_reducible refine gate_callee (f := 13) rfl ?_); refine goesL_ (some 90) rfl rfl Try.func13 (by kernel_rfl) rfl #[.agg #[.int .i64 t179, .int .i64 t180, .slice Ao33 t181.length co33], .int .i64 x173000_2, .int .i64 x173001_2] rfl (by (try simp only [List.map_toArray, List.map_cons, List.map_nil]); first | done | rfl | (simp only [List.length_drop, List.length_take]; rfl)) ?_; (with_reducible refine (rate_Sample.calls kj11 t179 t180 _ _ t181 x173000_2 x173001_2 t186 t187 t188 t191 t192 _ ?side1 ?side2 A23.out).mono ?_); (case side1 => refine (Kd.R_reads' (e := 3) (base := w.heap.size) (ok := fun k_ => (some k_ ≠ (.slice Ao26 x173002_2.length co26 : Value).ownBlock ∧ some k_ ≠ (u7 : Value).ownBlock)) (n := t181.length) (c := co33) ?_).2.2; exact (by (with_reducible repeat (first | apply Kd.R_alloc | apply Kd.R_drewN | apply Kd.R_drew)); exact (Kd.R_mono (Kd.R_far (p := ⟨gb185, 2, none⟩) (Kd.R_far (p := ⟨gb185, 1, none⟩) (Kd.R_far (p := ⟨gb185, 0, none⟩) (Kd.R_types HO183.out BK185.out (by decide)) (fun _ hk => hk.2) (.int .i64 t179)) (fun _ hk => hk.2) (.int .i64 t180)) (fun _ hk => hk.2) (.slice Ao33 t181.length co33)) (fun _ h_ => h_.1)))); (case side2 => exact (Kd.R_reads' HO183.out).2.1); rintro e w37 ⟨v189, rfl, ho0, hb⟩; refine ⟨_, rfl, ?_⟩; have n0_ := Aside0.mk (Kd.R_elder' (by (with_reducible repeat (first | apply Kd.R_alloc | apply Kd.R_drewN | apply Kd.R_drew)); exact (Kd.R_mono (Kd.R_far (p := ⟨gb185, 2, none⟩) (Kd.R_far (p := ⟨gb185, 1, none⟩) (Kd.R_far (p := ⟨gb185, 0, none⟩) (Kd.R_types HO_7.out BK185.out (by decide)) (fun _ hk => hk.2) (.int .i64 t179)) (fun _ hk => hk.2) (.int .i64 t180)) (fun _ hk => hk.2) (.slice Ao33 t181.length co33)) (fun _ h_ => h_.1))) (Kd.Q_base ho0) hb); have n1_ := Aside0.mk (Kd.Q_elder' (by (with_reducible repeat (first | apply Kd.Q_alloc | apply Kd.Q_drewN | apply Kd.Q_drew)); exact (Kd.Q_mono (Kd.Q_far (p := ⟨gb185, 2, none⟩) (Kd.Q_far (p := ⟨gb185, 1, none⟩) (Kd.Q_far (p := ⟨gb185, 0, none⟩) (Kd.Q_types HO_173002.out BK185.out (by decide)) (fun _ hk => hk.2) (.int .i64 t179)) (fun _ hk => hk.2) (.int .i64 t180)) (fun _ hk => hk.2) (.slice Ao33 t181.length co33)) (fun _ h_ => h_.1))) (Kd.Q_base ho0) hb); have n2_ := Aside0.mk (Kd.R_elder' (by (with_reducible repeat (first | apply Kd.R_alloc | apply Kd.R_drewN | apply Kd.R_drew)); exact (Kd.R_mono (Kd.R_far (p := ⟨gb185, 2, none⟩) (Kd.R_far (p := ⟨gb185, 1, none⟩) (Kd.R_far (p := ⟨gb185, 0, none⟩) (Kd.R_types HO183.out BK185.out (by decide)) (fun _ hk => hk.2) (.int .i64 t179)) (fun _ hk => hk.2) (.int .i64 t180)) (fun _ hk => hk.2) (.slice Ao33 t181.length co33)) (fun _ h_ => h_.1))) (Kd.Q_base ho0) hb); have n3_ := Aside0.mk (Kd.Q_lower (Kd.Q_new' (Kd.Q_new' (Kd.Q_new' ho0 (Kd.R_lt (by (with_reducible repeat (first | apply Kd.R_alloc | apply Kd.R_drewN | apply Kd.R_drew)); exact (Kd.R_mono (Kd.R_far (p := ⟨gb185, 2, none⟩) (Kd.R_far (p := ⟨gb185, 1, none⟩) (Kd.R_far (p := ⟨gb185, 0, none⟩) (Kd.R_types HO_7.out BK185.out (by decide)) (fun _ hk => hk.2) (.int .i64 t179)) (fun _ hk => hk.2) (.int .i64 t180)) (fun _ hk => hk.2) (.slice Ao33 t181.length co33)) (fun _ h_ => h_.1))))) (Kd.Q_lt (by (with_reducible repeat (first | apply Kd.Q_alloc | apply Kd.Q_drewN | apply Kd.Q_drew)); exact (Kd.Q_mono (Kd.Q_far (p := ⟨gb185, 2, none⟩) (Kd.Q_far (p := ⟨gb185, 1, none⟩) (Kd.Q_far (p := ⟨gb185, 0, none⟩) (Kd.Q_types HO_173002.out BK185.out (by decide)) (fun _ hk => hk.2) (.int .i64 t179)) (fun _ hk => hk.2) (.int .i64 t180)) (fun _ hk => hk.2) (.slice Ao33 t181.length co33)) (fun _ h_ => h_.1))))) (Kd.R_lt (by (with_reducible repeat (first | apply Kd.R_alloc | apply Kd.R_drewN | apply Kd.R_drew)); exact (Kd.R_mono (Kd.R_far (p := ⟨gb185, 2, none⟩) (Kd.R_far (p := ⟨gb185, 1, none⟩) (Kd.R_far (p := ⟨gb185, 0, none⟩) (Kd.R_types HO183.out BK185.out (by decide)) (fun _ hk => hk.2) (.int .i64 t179)) (fun _ hk => hk.2) (.int .i64 t180)) (fun _ hk => hk.2) (.slice Ao33 t181.length co33)) (fun _ h_ => h_.1))))) (below_size (by repeat (first | (with_reducible first | exact HB.out | apply below_alloc | apply pw_below_drewN | apply below_drew1 | refine below_set ?_ GE172.out | refine below_set ?_ GE185.out) | exact HB.out)))); have n4_ := Aside0.mk (blk_below (g := gb172) (o := .cells #[.int .i64 x173000_2, .int .i64 x173001_2, .slice Ao26 x173002_2.length co26] 24 (0, 0)) (by (with_reducible repeat (first | refine blk_drewN ?_ _ | refine blk_drew ?_ | refine blk_alloc ?_ _)); refine blk_far ?_ NB172_185.out _; (with_reducible repeat (first | refine blk_drewN ?_ _ | refine blk_drew ?_ | refine blk_alloc ?_ _)); refine blk_far ?_ NB172_185.out _; (with_reducible repeat (first | refine blk_drewN ?_ _ | refine blk_drew ?_ | refine blk_alloc ?_ _)); refine blk_far ?_ NB172_185.out _; (with_reducible repeat (first | refine blk_drewN ?_ _ | refine blk_drew ?_ | refine blk_alloc ?_ _)); exact BK172.out) hb); have n5_ := Aside0.mk (blk_below (g := gb185) (o := .cells #[.int .i64 t179, .int .i64 t180, .slice Ao33 t181.length co33] 24 (0, 0)) (by (with_reducible repeat (first | refine blk_drewN ?_ _ | refine blk_drew ?_ | refine blk_alloc ?_ _)); refine blk_put (cs := #[.int .i64 t179, .int .i64 t180, .slice none 0 0]) ?_ 2 _ rfl; (with_reducible repeat (first | refine blk_drewN ?_ _ | refine blk_drew ?_ | refine blk_alloc ?_ _)); refine blk_put (cs := #[.int .i64 t179, .int .i64 0, .slice none 0 0]) ?_ 1 _ rfl; (with_reducible repeat (first | refine blk_drewN ?_ _ | refine blk_drew ?_ | refine blk_alloc ?_ _)); refine blk_put (cs := #[.int .i64 0, .int .i64 0, .slice none 0 0]) ?_ 0 _ rfl; (with_reducible repeat (first | refine blk_drewN ?_ _ | refine blk_drew ?_ | refine blk_alloc ?_ _)); exact BK185.out) hb); have n6_ := Aside0.mk (below_step (by repeat (first | (with_reducible first | exact HB.out | apply below_alloc | apply pw_below_drewN | apply below_drew1 | refine below_set ?_ GE172.out | refine below_set ?_ GE185.out) | exact HB.out)) hb); clear HO_7; clear HO_173002; clear HO183; clear BK172; clear BK185; clear HB; have HO_7 := n0_; have HO_173002 := n1_; have HO183 := n2_; have HO190 := n3_; have BK172 := n4_; have BK185 := n5_; have HB := n6_; clear n0_ n1_ n2_ n3_ n4_ n5_ n6_; (try clear hb); (try clear hb2); (try clear hk); (try clear hi); (try clear ho0)) | ((with_reducible refine gate_dst (N := 13) rfl ?_); (try (refine gate_guard (by rfl) ?_; dsimp only)); refine box_event ?hg (N := 13) ?hd (cs := #[.int .i64 0, .int .i64 0, .slice none 0 0]) (t := 24) ?hr ?_; (case hd => rfl); (case hg => rfl); (case hr => first | (go_simp; done) | (go_simp; rfl)); intro gb193 hg w38 hbox hb; have n0_ := Aside0.mk (Kd.R_below (by (with_reducible repeat (first | apply Kd.R_alloc | apply Kd.R_drewN | apply Kd.R_drew)); exact HO_7.out) hb); have n1_ := Aside0.mk (Kd.Q_below (by (with_reducible repeat (first | apply Kd.Q_alloc | apply Kd.Q_drewN | apply Kd.Q_drew)); exact HO_173002.out) hb); have n2_ := Aside0.mk (Kd.R_below (by (with_reducible repeat (first | apply Kd.R_alloc | apply Kd.R_drewN | apply Kd.R_drew)); exact HO183.out) hb); have n3_ := Aside0.mk (Kd.Q_below (by (with_reducible repeat (first | apply Kd.Q_alloc | apply Kd.Q_drewN | apply Kd.Q_drew)); exact HO190.out) hb); have n4_ := Aside0.mk (blk_below (g := gb172) (o := .cells #[.int .i64 x173000_2, .int .i64 x173001_2, .slice Ao26 x173002_2.length co26] 24 (0, 0)) (by (with_reducible repeat (first | refine blk_drewN ?_ _ | refine blk_drew ?_ | refine blk_alloc ?_ _)); exact BK172.out) hb); have n5_ := Aside0.mk (blk_below (g := gb185) (o := .cells #[.int .i64 t179, .int .i64 t180, .slice Ao33 t181.length co33] 24 (0, 0)) (by (with_reducible repeat (first | refine blk_drewN ?_ _ | refine blk_drew ?_ | refine blk_alloc ?_ _)); exact BK185.out) hb); have n6_ := Aside0.mk (below_step (by repeat (first | (with_reducible first | exact HB.out | apply below_alloc | apply pw_below_drewN | apply below_drew1 | refine below_set ?_ GE172.out | refine below_set ?_ GE185.out) | exact HB.out)) hb); have n7_ := Aside0.mk (hbox); have n8_ := Aside0.mk ((by rw [hg]; exact (below_size (by repeat (first | (with_reducible first | exact HB.out | apply below_alloc | apply pw_below_drewN | apply below_drew1 | refine below_set ?_ GE172.out | refine below_set ?_ GE185.out) | exact HB.out))) : w.heap.size ≤ gb193)); have n9_ := Aside0.mk ((by rw [hg]; exact (below_size (by repeat (first | (with_reducible first | exact HB.out | apply below_alloc | apply pw_below_drewN | apply below_drew1 | refine below_set ?_ GE172.out | refine below_set ?_ GE185.out) | exact HB.out))) : w.heap.size ≤ gb193)); have n10_ := Aside0.mk ((by rw [hg]; exact Nat.ne_of_lt (blk_lt (g := gb172) (o := .cells #[.int .i64 x173000_2, .int .i64 x173001_2, .slice Ao26 x173002_2.length co26] 24 (0, 0)) (by (with_reducible repeat (first | refine blk_drewN ?_ _ | refine blk_drew ?_ | refine blk_alloc ?_ _)); exact BK172.out)) : gb172 ≠ gb193)); have n11_ := Aside0.mk ((by rw [hg]; exact Nat.ne_of_gt (blk_lt (g := gb172) (o := .cells #[.int .i64 x173000_2, .int .i64 x173001_2, .slice Ao26 x173002_2.length co26] 24 (0, 0)) (by (with_reducible repeat (first | refine blk_drewN ?_ _ | refine blk_drew ?_ | refine blk_alloc ?_ _)); exact BK172.out)) : gb193 ≠ gb172)); have n12_ := Aside0.mk ((by rw [hg]; exact Nat.ne_of_lt (blk_lt (g := gb185) (o := .cells #[.int .i64 t179, .int .i64 t180, .slice Ao33 t181.length co33] 24 (0, 0)) (by (with_reducible repeat (first | refine blk_drewN ?_ _ | refine blk_drew ?_ | refine blk_alloc ?_ _)); exact BK185.out)) : gb185 ≠ gb193)); have n13_ := Aside0.mk ((by rw [hg]; exact Nat.ne_of_gt (blk_lt (g := gb185) (o := .cells #[.int .i64 t179, .int .i64 t180, .slice Ao33 t181.length co33] 24 (0, 0)) (by (with_reducible repeat (first | refine blk_drewN ?_ _ | refine blk_drew ?_ | refine blk_alloc ?_ _)); exact BK185.out)) : gb193 ≠ gb185)); clear HO_7; clear HO_173002; clear HO183; clear HO190; clear BK172; clear BK185; clear HB; have HO_7 := n0_; have HO_173002 := n1_; have HO183 := n2_; have HO190 := n3_; have BK172 := n4_; have BK185 := n5_; have HB := n6_; have BK193 := n7_; have GW193 := n8_; have GE193 := n9_; have NB172_193 := n10_; have NB193_172 := n11_; have NB185_193 := n12_; have NB193_185 := n13_; clear n0_ n1_ n2_ n3_ n4_ n5_ n6_ n7_ n8_ n9_ n10_ n11_ n12_ n13_; clear hb hbox hg; have hnb39 := NB193_172.out; have hnc39 := NB172_193.out; have hnb40 := NB193_185.out; have hnc40 := NB185_193.out; have hcz41_0 : w38.cell? ⟨gb193, 0, none⟩ = some (.int .i64 0) := (blk_cell BK193.out 0).trans rfl; have hcz41_1 : w38.cell? ⟨gb193, 1, none⟩ = some (.int .i64 0) := (blk_cell BK193.out 1).trans rfl; have hcz41_2 : w38.cell? ⟨gb193, 2, none⟩ = some (.slice none 0 0) := (blk_cell BK193.out 2).trans rfl; have hfz41_0 := blk_frozen BK193.out 0; have hfz41_1 := blk_frozen BK193.out 1; have hfz41_2 := blk_frozen BK193.out 2; obtain ⟨Ao42, co42, eo42, _⟩ := Kd.Q_slice HO190.out; subst eo42))
                          (try simp only [Act.put, List.setIfInBounds_toArray, List.set_cons_zero, List.set_cons_succ])
                          go_cut [113] (fun v113 wc => ∃ (kq : Nat) (x113_23 : Bool), v113 = .bool x113_23 ∧ Aside0 (fourinhandlaw11_RateBest.j3 kq l0 l1 x7_2 x8_2 t191 x113_23 t186 t187 t188 = some r) ∧ Aside0 (kq ≤ kj11) ∧ Aside0 (Kd.R (Kd.int .i64) 3 wc w.heap.size (fun k_ => some k_ ≠ ((.slice Ao26 x173002_2.length co26) : Value).ownBlock ∧ some k_ ≠ ((.slice Ao33 t181.length co33) : Value).ownBlock ∧ some k_ ≠ ((.slice Ao42 t188.length co42) : Value).ownBlock) u7 x7_2) ∧ Aside0 (Kd.Q (Kd.int .i64) 3 wc w.heap.size (fun k_ => some k_ ≠ (u7 : Value).ownBlock ∧ some k_ ≠ ((.slice Ao33 t181.length co33) : Value).ownBlock ∧ some k_ ≠ ((.slice Ao42 t188.length co42) : Value).ownBlock) (.slice Ao26 x173002_2.length co26) x173002_2) ∧ Aside0 (Kd.Q (Kd.int .i64) 3 wc w.heap.size (fun k_ => some k_ ≠ (u7 : Value).ownBlock ∧ some k_ ≠ ((.slice Ao26 x173002_2.length co26) : Value).ownBlock ∧ some k_ ≠ ((.slice Ao42 t188.length co42) : Value).ownBlock) (.slice Ao33 t181.length co33) t181) ∧ Aside0 (Kd.Q (Kd.int .i64) 3 wc w.heap.size (fun k_ => some k_ ≠ (u7 : Value).ownBlock ∧ some k_ ≠ ((.slice Ao26 x173002_2.length co26) : Value).ownBlock ∧ some k_ ≠ ((.slice Ao33 t181.length co33) : Value).ownBlock) (.slice Ao42 t188.length co42) t188) ∧ Aside0 (wc.heap[gb172]? = some (.cells #[.int .i64 x173000_2, .int .i64 x173001_2, (.slice Ao26 x173002_2.length co26)] 24 (0, 0))) ∧ Aside0 (wc.heap[gb185]? = some (.cells #[.int .i64 t179, .int .i64 t180, (.slice Ao33 t181.length co33)] 24 (0, 0))) ∧ Aside0 (wc.heap[gb193]? = some (.cells #[.int .i64 t186, .int .i64 t187, (.slice Ao42 t188.length co42)] 24 (0, 0))) ∧ Aside0 (Below w.heap.size w wc))
                          case first =>
                            have H := HC24.out
                            clear HC24
                            by_cases c43 : t184 = 0
                            · rw [if_pos c43] at H
                              have c43b0 : (t184 == 0) = true := beq_iff_eq.mpr c43
                              have c43b1 : (t184 != 0) = false := bne_eq_false_iff_eq.mpr c43
                              clear c43
                              (first | rw [c43b0] | (simp only [i64_w, i32_w]; rw [c43b0]) | skip)
                              by_cases c44 : t192 = 0
                              · rw [if_pos c44] at H
                                have c44b0 : (t192 == 0) = true := beq_iff_eq.mpr c44
                                have c44b1 : (t192 != 0) = false := bne_eq_false_iff_eq.mpr c44
                                clear c44
                                by_cases c45 : (rd l0 x8_2) = 0
                                · rw [if_pos c45] at H
                                  exact absurd H (by simp)
                                · rw [if_neg c45] at H
                                  have c45b0 : ((rd l0 x8_2) == 0) = false := beq_eq_false_iff_ne.mpr c45
                                  have c45b1 : ((rd l0 x8_2) != 0) = true := bne_iff_ne.mpr c45
                                  have H' := Aside0.mk H
                                  clear H
                                  try go_wp2
                                  have n0_ : Aside0 (Kd.R (Kd.int .i64) 3 (((w38.setCell ⟨gb193, 0, none⟩ (.int .i64 t186)).setCell ⟨gb193, 1, none⟩ (.int .i64 t187)).setCell ⟨gb193, 2, none⟩ (.slice Ao42 t188.length co42)) w.heap.size (fun k_ => some k_ ≠ (.slice Ao26 x173002_2.length co26 : Value).ownBlock ∧ some k_ ≠ (.slice Ao33 t181.length co33 : Value).ownBlock ∧ some k_ ≠ (.slice Ao42 t188.length co42 : Value).ownBlock) u7 x7_2) := ⟨by (with_reducible repeat (first | apply Kd.R_alloc | apply Kd.R_drewN | apply Kd.R_drew)); exact Kd.R_mono (Kd.R_far (p := ⟨gb193, 2, none⟩) (Kd.R_far (p := ⟨gb193, 1, none⟩) (Kd.R_far (p := ⟨gb193, 0, none⟩) (Kd.R_types HO_7.out BK193.out (by decide)) (fun _ hk => hk.2) (.int .i64 t186)) (fun _ hk => hk.2) (.int .i64 t187)) (fun _ hk => hk.2) (.slice Ao42 t188.length co42)) (fun _ hk => ⟨hk.1.1.2, ⟨hk.1.1.1, hk.1.2⟩⟩)⟩
                                  have n1_ : Aside0 (Kd.Q (Kd.int .i64) 3 (((w38.setCell ⟨gb193, 0, none⟩ (.int .i64 t186)).setCell ⟨gb193, 1, none⟩ (.int .i64 t187)).setCell ⟨gb193, 2, none⟩ (.slice Ao42 t188.length co42)) w.heap.size (fun k_ => some k_ ≠ (u7 : Value).ownBlock ∧ some k_ ≠ (.slice Ao33 t181.length co33 : Value).ownBlock ∧ some k_ ≠ (.slice Ao42 t188.length co42 : Value).ownBlock) (.slice Ao26 x173002_2.length co26) x173002_2) := ⟨by (with_reducible repeat (first | apply Kd.Q_alloc | apply Kd.Q_drewN | apply Kd.Q_drew)); exact Kd.Q_mono (Kd.Q_far (p := ⟨gb193, 2, none⟩) (Kd.Q_far (p := ⟨gb193, 1, none⟩) (Kd.Q_far (p := ⟨gb193, 0, none⟩) (Kd.Q_types HO_173002.out BK193.out (by decide)) (fun _ hk => hk.2) (.int .i64 t186)) (fun _ hk => hk.2) (.int .i64 t187)) (fun _ hk => hk.2) (.slice Ao42 t188.length co42)) (fun _ hk => ⟨hk.1.1.2, ⟨hk.1.1.1, hk.1.2⟩⟩)⟩
                                  have n2_ : Aside0 (Kd.R (Kd.int .i64) 3 (((w38.setCell ⟨gb193, 0, none⟩ (.int .i64 t186)).setCell ⟨gb193, 1, none⟩ (.int .i64 t187)).setCell ⟨gb193, 2, none⟩ (.slice Ao42 t188.length co42)) w.heap.size (fun k_ => some k_ ≠ (u7 : Value).ownBlock ∧ some k_ ≠ (.slice Ao26 x173002_2.length co26 : Value).ownBlock ∧ some k_ ≠ (.slice Ao42 t188.length co42 : Value).ownBlock) (.slice Ao33 t181.length co33) t181) := ⟨by (with_reducible repeat (first | apply Kd.R_alloc | apply Kd.R_drewN | apply Kd.R_drew)); exact Kd.R_mono (Kd.R_far (p := ⟨gb193, 2, none⟩) (Kd.R_far (p := ⟨gb193, 1, none⟩) (Kd.R_far (p := ⟨gb193, 0, none⟩) (Kd.R_types HO183.out BK193.out (by decide)) (fun _ hk => hk.2) (.int .i64 t186)) (fun _ hk => hk.2) (.int .i64 t187)) (fun _ hk => hk.2) (.slice Ao42 t188.length co42)) (fun _ hk => ⟨hk.1.1.2, ⟨hk.1.1.1, hk.1.2⟩⟩)⟩
                                  have n3_ : Aside0 (Kd.Q (Kd.int .i64) 3 (((w38.setCell ⟨gb193, 0, none⟩ (.int .i64 t186)).setCell ⟨gb193, 1, none⟩ (.int .i64 t187)).setCell ⟨gb193, 2, none⟩ (.slice Ao42 t188.length co42)) w.heap.size (fun k_ => some k_ ≠ (u7 : Value).ownBlock ∧ some k_ ≠ (.slice Ao26 x173002_2.length co26 : Value).ownBlock ∧ some k_ ≠ (.slice Ao33 t181.length co33 : Value).ownBlock) (.slice Ao42 t188.length co42) t188) := ⟨by (with_reducible repeat (first | apply Kd.Q_alloc | apply Kd.Q_drewN | apply Kd.Q_drew)); exact Kd.Q_mono (Kd.Q_far (p := ⟨gb193, 2, none⟩) (Kd.Q_far (p := ⟨gb193, 1, none⟩) (Kd.Q_far (p := ⟨gb193, 0, none⟩) (Kd.Q_types HO190.out BK193.out (by decide)) (fun _ hk => hk.2) (.int .i64 t186)) (fun _ hk => hk.2) (.int .i64 t187)) (fun _ hk => hk.2) (.slice Ao42 t188.length co42)) (fun _ hk => ⟨hk.1.1.1.2, ⟨hk.1.1.2, hk.1.2⟩⟩)⟩
                                  have n4_ : Aside0 ((((w38.setCell ⟨gb193, 0, none⟩ (.int .i64 t186)).setCell ⟨gb193, 1, none⟩ (.int .i64 t187)).setCell ⟨gb193, 2, none⟩ (.slice Ao42 t188.length co42)).heap[gb172]? = some (.cells #[.int .i64 x173000_2, .int .i64 x173001_2, .slice Ao26 x173002_2.length co26] 24 (0, 0))) := ⟨by (with_reducible repeat (first | refine blk_drewN ?_ _ | refine blk_drew ?_ | refine blk_alloc ?_ _)); refine blk_far ?_ NB172_193.out _; (with_reducible repeat (first | refine blk_drewN ?_ _ | refine blk_drew ?_ | refine blk_alloc ?_ _)); refine blk_far ?_ NB172_193.out _; (with_reducible repeat (first | refine blk_drewN ?_ _ | refine blk_drew ?_ | refine blk_alloc ?_ _)); refine blk_far ?_ NB172_193.out _; (with_reducible repeat (first | refine blk_drewN ?_ _ | refine blk_drew ?_ | refine blk_alloc ?_ _)); exact BK172.out⟩
                                  have n5_ : Aside0 ((((w38.setCell ⟨gb193, 0, none⟩ (.int .i64 t186)).setCell ⟨gb193, 1, none⟩ (.int .i64 t187)).setCell ⟨gb193, 2, none⟩ (.slice Ao42 t188.length co42)).heap[gb185]? = some (.cells #[.int .i64 t179, .int .i64 t180, .slice Ao33 t181.length co33] 24 (0, 0))) := ⟨by (with_reducible repeat (first | refine blk_drewN ?_ _ | refine blk_drew ?_ | refine blk_alloc ?_ _)); refine blk_far ?_ NB185_193.out _; (with_reducible repeat (first | refine blk_drewN ?_ _ | refine blk_drew ?_ | refine blk_alloc ?_ _)); refine blk_far ?_ NB185_193.out _; (with_reducible repeat (first | refine blk_drewN ?_ _ | refine blk_drew ?_ | refine blk_alloc ?_ _)); refine blk_far ?_ NB185_193.out _; (with_reducible repeat (first | refine blk_drewN ?_ _ | refine blk_drew ?_ | refine blk_alloc ?_ _)); exact BK185.out⟩
                                  have n6_ : Aside0 ((((w38.setCell ⟨gb193, 0, none⟩ (.int .i64 t186)).setCell ⟨gb193, 1, none⟩ (.int .i64 t187)).setCell ⟨gb193, 2, none⟩ (.slice Ao42 t188.length co42)).heap[gb193]? = some (.cells #[.int .i64 t186, .int .i64 t187, .slice Ao42 t188.length co42] 24 (0, 0))) := ⟨by (with_reducible repeat (first | refine blk_drewN ?_ _ | refine blk_drew ?_ | refine blk_alloc ?_ _)); refine blk_put (cs := #[.int .i64 t186, .int .i64 t187, .slice none 0 0]) ?_ 2 _ rfl; (with_reducible repeat (first | refine blk_drewN ?_ _ | refine blk_drew ?_ | refine blk_alloc ?_ _)); refine blk_put (cs := #[.int .i64 t186, .int .i64 0, .slice none 0 0]) ?_ 1 _ rfl; (with_reducible repeat (first | refine blk_drewN ?_ _ | refine blk_drew ?_ | refine blk_alloc ?_ _)); refine blk_put (cs := #[.int .i64 0, .int .i64 0, .slice none 0 0]) ?_ 0 _ rfl; (with_reducible repeat (first | refine blk_drewN ?_ _ | refine blk_drew ?_ | refine blk_alloc ?_ _)); exact BK193.out⟩
                                  have n7_ : Aside0 (Below w.heap.size w (((w38.setCell ⟨gb193, 0, none⟩ (.int .i64 t186)).setCell ⟨gb193, 1, none⟩ (.int .i64 t187)).setCell ⟨gb193, 2, none⟩ (.slice Ao42 t188.length co42))) := ⟨by repeat (first | (with_reducible first | exact HB.out | apply below_alloc | apply pw_below_drewN | apply below_drew1 | refine below_set ?_ GE172.out | refine below_set ?_ GE185.out | refine below_set ?_ GE193.out) | exact HB.out)⟩
                                  (try clear HO_7)
                                  (try clear HO_173002)
                                  (try clear HO183)
                                  (try clear HO190)
                                  (try clear BK172)
                                  (try clear BK185)
                                  (try clear BK193)
                                  (try clear HB)
                                  generalize (((w38.setCell ⟨gb193, 0, none⟩ (.int .i64 t186)).setCell ⟨gb193, 1, none⟩ (.int .i64 t187)).setCell ⟨gb193, 2, none⟩ (.slice Ao42 t188.length co42)) = w46 at n0_ n1_ n2_ n3_ n4_ n5_ n6_ n7_ ⊢
                                  have HO_7 := n0_
                                  have HO_173002 := n1_
                                  have HO183 := n2_
                                  have HO190 := n3_
                                  have BK172 := n4_
                                  have BK185 := n5_
                                  have BK193 := n6_
                                  have HB := n7_
                                  clear n0_ n1_ n2_ n3_ n4_ n5_ n6_ n7_
                                  have n0_ := Aside0.mk (Kd.R_drew HO_7.out)
                                  have n1_ := Aside0.mk (Kd.Q_drew HO_173002.out)
                                  have n2_ := Aside0.mk (Kd.R_drew HO183.out)
                                  have n3_ := Aside0.mk (Kd.Q_drew HO190.out)
                                  have n4_ := Aside0.mk (blk_drew BK172.out)
                                  have n5_ := Aside0.mk (blk_drew BK185.out)
                                  have n6_ := Aside0.mk (blk_drew BK193.out)
                                  have n7_ := Aside0.mk (below_drew1 HB.out)
                                  clear HO_7
                                  clear HO_173002
                                  clear HO183
                                  clear HO190
                                  clear BK172
                                  clear BK185
                                  clear BK193
                                  clear HB
                                  have HO_7 := n0_
                                  have HO_173002 := n1_
                                  have HO183 := n2_
                                  have HO190 := n3_
                                  have BK172 := n4_
                                  have BK185 := n5_
                                  have BK193 := n6_
                                  have HB := n7_
                                  clear n0_ n1_ n2_ n3_ n4_ n5_ n6_ n7_
                                  have p194 : 0 ≤ (x8_2 : Int) := of_decide_eq_true (by first | (with_reducible assumption) | assumption)
                                  have q194 : x8_2 < (l1.length : Int) := of_decide_eq_true (by first | (with_reducible assumption) | assumption)
                                  obtain ⟨ad194, e194, hx194_0⟩ := Kd.at_int HR1.out x8_2 p194 q194
                                  have hw194_0 := hx194_0
                                  obtain rfl : ad178 = ad194 := (by injection e194)
                                  replace hx194_0 := (HB.out.cell (World.block_lt_of_cell? w _ hx194_0)).trans hx194_0
                                  replace p194 := eq_true p194
                                  replace q194 := eq_true q194
                                  have p195 : 0 ≤ (x8_2 : Int) := of_decide_eq_true (by first | (with_reducible assumption) | assumption)
                                  have q195 : x8_2 < (l0.length : Int) := of_decide_eq_true (by first | (with_reducible assumption) | assumption)
                                  obtain ⟨ad195, e195, hx195_0⟩ := Kd.at_int HR0.out x8_2 p195 q195
                                  have hw195_0 := hx195_0
                                  obtain rfl : ad177 = ad195 := (by injection e195)
                                  replace hx195_0 := (HB.out.cell (World.block_lt_of_cell? w _ hx195_0)).trans hx195_0
                                  replace p195 := eq_true p195
                                  replace q195 := eq_true q195
                                  refine start_ (n := 20) (S := fun w' => w'.cell? (ad178.add (x8_2).toNat) = some (.int .i64 (rd l1 x8_2)) ∧ w'.cell? (ad177.add (x8_2).toNat) = some (.int .i64 (rd l0 x8_2))) (ds := []) #[false, false, false, false, false, false, false, false, false, false, false, false, false, false, false, false, false, false, false, false] (by kernel_rfl) rfl rfl ⟨((HB.out.cell (World.block_lt_of_cell? w _ hw194_0)).trans hw194_0), ((HB.out.cell (World.block_lt_of_cell? w _ hw195_0)).trans hw195_0)⟩ (fun hHeld => ?_); refine with_tabW fourinhandlaw11_RateBest.tab15 fourinhandlaw11_RateBest.bits15 (fun HT_ HW_ => ?_)
                                  generalize w46.drew = w47 at HO_7 HO_173002 HO183 HO190 BK172 BK185 BK193 HB hx194_0 hx195_0 hHeld ⊢
                                  refine pure_ (i := 0) (N := some 94) (v := ?_) (a' := ?_) #[true, false, false, false, false, false, false, false, false, false, false, false, false, false, false, false, false, false, false, false] rfl rfl (any_of HT_.out (by kernel_rfl)) (fun _ _ _ h => h) (Or.inl ⟨by rfl, ?_⟩) ?_ ?_
                                  rotate_left
                                  · intro w'
                                    go_simp
                                    with_reducible rfl
                                  rotate_left
                                  · simp only [Act.put, List.setIfInBounds_toArray, List.set_cons_zero, List.set_cons_succ, i64_w, i32_w]
                                    rfl
                                  refine pure_ (i := 1) (N := some 95) (v := ?_) (a' := ?_) #[true, true, false, false, false, false, false, false, false, false, false, false, false, false, false, false, false, false, false, false] rfl rfl (any_of HT_.out (by kernel_rfl)) (fun _ _ _ h => h) (Or.inl ⟨by rfl, ?_⟩) ?_ ?_
                                  rotate_left
                                  · intro w'
                                    go_simp
                                    with_reducible rfl
                                  rotate_left
                                  · simp only [Act.put, List.setIfInBounds_toArray, List.set_cons_zero, List.set_cons_succ, i64_w, i32_w]
                                    rfl
                                  refine pure_ (i := 2) (N := some 96) (v := ?_) (a' := ?_) #[true, true, true, false, false, false, false, false, false, false, false, false, false, false, false, false, false, false, false, false] rfl rfl (any_of HT_.out (by kernel_rfl)) (fun _ _ _ h => h) (Or.inl ⟨by rfl, ?_⟩) ?_ ?_
                                  rotate_left
                                  · intro w'
                                    go_simp
                                    with_reducible rfl
                                  rotate_left
                                  · simp only [Act.put, List.setIfInBounds_toArray, List.set_cons_zero, List.set_cons_succ, i64_w, i32_w]
                                    rfl
                                  refine pure_ (i := 3) (N := some 97) (v := ?_) (a' := ?_) #[true, true, true, true, false, false, false, false, false, false, false, false, false, false, false, false, false, false, false, false] rfl rfl (any_of HT_.out (by kernel_rfl)) (fun _ _ _ h => h) (Or.inl ⟨by rfl, ?_⟩) ?_ ?_
                                  rotate_left
                                  · intro w'
                                    go_simp
                                    with_reducible rfl
                                  rotate_left
                                  · simp only [Act.put, List.setIfInBounds_toArray, List.set_cons_zero, List.set_cons_succ, i64_w, i32_w]
                                    rfl
                                  refine pure_ (i := 4) (N := some 98) (v := ?_) (a' := ?_) #[true, true, true, true, true, false, false, false, false, false, false, false, false, false, false, false, false, false, false, false] rfl rfl (any_of HT_.out (by kernel_rfl)) (fun _ _ _ h => h) (Or.inl ⟨by rfl, ?_⟩) ?_ ?_
                                  rotate_left
                                  · intro w'
                                    go_simp
                                    with_reducible rfl
                                  rotate_left
                                  · simp only [Act.put, List.setIfInBounds_toArray, List.set_cons_zero, List.set_cons_succ, i64_w, i32_w]
                                    rfl
                                  refine pure_ (i := 5) (N := some 99) (v := ?_) (a' := ?_) #[true, true, true, true, true, true, false, false, false, false, false, false, false, false, false, false, false, false, false, false] rfl rfl (any_of HT_.out (by kernel_rfl)) (fun _ _ _ h => h) (Or.inl ⟨by rfl, ?_⟩) ?_ ?_
                                  rotate_left
                                  · intro w'
                                    go_simp
                                    with_reducible rfl
                                  rotate_left
                                  · simp only [Act.put, List.setIfInBounds_toArray, List.set_cons_zero, List.set_cons_succ, i64_w, i32_w]
                                    rfl
                                  refine pure_ (i := 6) (N := some 100) (v := ?_) (a' := ?_) #[true, true, true, true, true, true, true, false, false, false, false, false, false, false, false, false, false, false, false, false] rfl rfl (any_of HT_.out (by kernel_rfl)) (fun _ _ _ h => h) (Or.inl ⟨by rfl, ?_⟩) ?_ ?_
                                  rotate_left
                                  · intro w'
                                    go_simp
                                    with_reducible rfl
                                  rotate_left
                                  · simp only [Act.put, List.setIfInBounds_toArray, List.set_cons_zero, List.set_cons_succ, i64_w, i32_w]
                                    rfl
                                  refine pure_ (i := 7) (N := some 101) (v := ?_) (a' := ?_) #[true, true, true, true, true, true, true, true, false, false, false, false, false, false, false, false, false, false, false, false] rfl rfl (any_of HT_.out (by kernel_rfl)) (fun _ _ _ h => h) (Or.inl ⟨by rfl, ?_⟩) ?_ ?_
                                  rotate_left
                                  · intro w'
                                    go_simp
                                    with_reducible rfl
                                  rotate_left
                                  · simp only [Act.put, List.setIfInBounds_toArray, List.set_cons_zero, List.set_cons_succ, i64_w, i32_w]
                                    rfl
                                  refine pure_ (i := 8) (N := some 102) (v := ?_) (a' := ?_) #[true, true, true, true, true, true, true, true, true, false, false, false, false, false, false, false, false, false, false, false] rfl rfl (any_of HT_.out (by kernel_rfl)) (fun _ _ _ h => h) (Or.inl ⟨by rfl, ?_⟩) ?_ ?_
                                  rotate_left
                                  · intro w'
                                    go_simp
                                    with_reducible rfl
                                  rotate_left
                                  · simp only [Act.put, List.setIfInBounds_toArray, List.set_cons_zero, List.set_cons_succ, i64_w, i32_w]
                                    rfl
                                  refine pure_ (i := 9) (N := some 103) (v := ?_) (a' := ?_) #[true, true, true, true, true, true, true, true, true, true, false, false, false, false, false, false, false, false, false, false] rfl rfl (any_of HT_.out (by kernel_rfl)) (fun _ _ _ h => h) (Or.inl ⟨by rfl, ?_⟩) ?_ ?_
                                  rotate_left
                                  · intro w'
                                    go_simp
                                    with_reducible rfl
                                  rotate_left
                                  · simp only [Act.put, List.setIfInBounds_toArray, List.set_cons_zero, List.set_cons_succ, i64_w, i32_w]
                                    rfl
                                  refine pure_ (i := 10) (N := some 104) (v := ?_) (a' := ?_) #[true, true, true, true, true, true, true, true, true, true, true, false, false, false, false, false, false, false, false, false] rfl rfl (any_of HT_.out (by kernel_rfl)) (fun _ _ _ h => h) (Or.inl ⟨by rfl, ?_⟩) ?_ ?_
                                  rotate_left
                                  · intro w'
                                    go_simp
                                    with_reducible rfl
                                  rotate_left
                                  · simp only [Act.put, List.setIfInBounds_toArray, List.set_cons_zero, List.set_cons_succ, i64_w, i32_w]
                                    rfl
                                  refine pure_ (i := 13) (N := some 107) (v := ?_) (a' := ?_) #[true, true, true, true, true, true, true, true, true, true, true, false, false, true, false, false, false, false, false, false] rfl rfl (any_of HT_.out (by kernel_rfl)) (fun _ _ _ h => h) (Or.inl ⟨by rfl, ?_⟩) ?_ ?_
                                  rotate_left
                                  · intro w'
                                    go_simp
                                    with_reducible rfl
                                  rotate_left
                                  · simp only [Act.put, List.setIfInBounds_toArray, List.set_cons_zero, List.set_cons_succ, i64_w, i32_w]
                                    rfl
                                  refine pure_ (i := 14) (N := some 108) (v := ?_) (a' := ?_) #[true, true, true, true, true, true, true, true, true, true, true, false, false, true, true, false, false, false, false, false] rfl rfl (any_of HT_.out (by kernel_rfl)) (fun _ _ _ h => h) (Or.inl ⟨by rfl, ?_⟩) ?_ ?_
                                  rotate_left
                                  · intro w'
                                    go_simp
                                    with_reducible rfl
                                  rotate_left
                                  · simp only [Act.put, List.setIfInBounds_toArray, List.set_cons_zero, List.set_cons_succ, i64_w, i32_w]
                                    rfl
                                  refine pure_ (i := 15) (N := some 109) (v := ?_) (a' := ?_) #[true, true, true, true, true, true, true, true, true, true, true, false, false, true, true, true, false, false, false, false] rfl rfl (any_of HT_.out (by kernel_rfl)) (fun _ _ _ h => h) (Or.inl ⟨by rfl, ?_⟩) ?_ ?_
                                  rotate_left
                                  · intro w'
                                    go_simp
                                    with_reducible rfl
                                  rotate_left
                                  · simp only [Act.put, List.setIfInBounds_toArray, List.set_cons_zero, List.set_cons_succ, i64_w, i32_w]
                                    rfl
                                  refine take_ (i := 11) (N := some 105) (v := ?_) (a' := ?_) #[true, true, true, true, true, true, true, true, true, true, true, true, false, true, true, true, false, false, false, false] rfl rfl (take_ofW HT_.out HW_.out (by kernel_rfl)) (fun _ _ _ h => h) (Or.inl ⟨by rfl, ?_⟩) hHeld ?_ ?_
                                  rotate_left
                                  · rintro w' ⟨s0, s1⟩
                                    go_simp
                                    with_reducible rfl
                                  rotate_left
                                  · simp only [Act.put, List.setIfInBounds_toArray, List.set_cons_zero, List.set_cons_succ, i64_w, i32_w]
                                    rfl
                                  refine pure_ (i := 12) (N := some 106) (v := ?_) (a' := ?_) #[true, true, true, true, true, true, true, true, true, true, true, true, true, true, true, true, false, false, false, false] rfl rfl (any_of HT_.out (by kernel_rfl)) (fun _ _ _ h => h) (Or.inl ⟨by rfl, ?_⟩) ?_ ?_
                                  rotate_left
                                  · intro w'
                                    go_simp
                                    with_reducible rfl
                                  rotate_left
                                  · simp only [Act.put, List.setIfInBounds_toArray, List.set_cons_zero, List.set_cons_succ, i64_w, i32_w]
                                    rfl
                                  refine take_ (i := 16) (N := some 110) (v := ?_) (a' := ?_) #[true, true, true, true, true, true, true, true, true, true, true, true, true, true, true, true, true, false, false, false] rfl rfl (take_ofW HT_.out HW_.out (by kernel_rfl)) (fun _ _ _ h => h) (Or.inl ⟨by rfl, ?_⟩) hHeld ?_ ?_
                                  rotate_left
                                  · rintro w' ⟨s0, s1⟩
                                    go_simp
                                    with_reducible rfl
                                  rotate_left
                                  · simp only [Act.put, List.setIfInBounds_toArray, List.set_cons_zero, List.set_cons_succ, i64_w, i32_w]
                                    rfl
                                  refine pure_ (i := 17) (N := some 111) (v := ?_) (a' := ?_) #[true, true, true, true, true, true, true, true, true, true, true, true, true, true, true, true, true, true, false, false] rfl rfl (any_of HT_.out (by kernel_rfl)) (fun _ _ _ h => h) (Or.inl ⟨by rfl, ?_⟩) ?_ ?_
                                  rotate_left
                                  · intro w'
                                    go_simp
                                    with_reducible rfl
                                  rotate_left
                                  · simp only [Act.put, List.setIfInBounds_toArray, List.set_cons_zero, List.set_cons_succ, i64_w, i32_w]
                                    rfl
                                  refine pure_ (i := 18) (N := some 112) (v := ?_) (a' := ?_) #[true, true, true, true, true, true, true, true, true, true, true, true, true, true, true, true, true, true, true, false] rfl rfl (any_of HT_.out (by kernel_rfl)) (fun _ _ _ h => h) (Or.inl ⟨by rfl, ?_⟩) ?_ ?_
                                  rotate_left
                                  · intro w'
                                    go_simp
                                    with_reducible rfl
                                  rotate_left
                                  · simp only [Act.put, List.setIfInBounds_toArray, List.set_cons_zero, List.set_cons_succ, i64_w, i32_w]
                                    rfl
                                  refine pure_ (i := 19) (N := some 113) (v := ?_) (a' := ?_) #[true, true, true, true, true, true, true, true, true, true, true, true, true, true, true, true, true, true, true, true] rfl rfl (any_of HT_.out (by kernel_rfl)) (fun _ _ _ h => h) (Or.inl ⟨by rfl, ?_⟩) ?_ ?_
                                  rotate_left
                                  · intro w'
                                    go_simp
                                    with_reducible rfl
                                  rotate_left
                                  · simp only [Act.put, List.setIfInBounds_toArray, List.set_cons_zero, List.set_cons_succ, i64_w, i32_w]
                                    rfl
                                  refine done_ (done_of HT_.out (by kernel_rfl)) ?_
                                  try go_wp2
                                  go_meet
                                  case rel => exact ⟨_, ((t191 != (wrap64 (Int.tdiv (wrap64 ((rd l1 x8_2) * 1000000)) (rd l0 x8_2))))), (by first | rfl | (simp; done) | (simp [*]; done)), H', ⟨by have := HJ3.out; have := HK2.out; have := HJ11.out; first | omega | exact Nat.le_refl _⟩, ⟨by (with_reducible repeat (first | apply Kd.R_alloc | apply Kd.R_drewN | apply Kd.R_drew)); exact HO_7.out⟩, ⟨by (with_reducible repeat (first | apply Kd.Q_alloc | apply Kd.Q_drewN | apply Kd.Q_drew)); exact HO_173002.out⟩, ⟨Kd.Q_of_R (by (with_reducible repeat (first | apply Kd.R_alloc | apply Kd.R_drewN | apply Kd.R_drew)); exact HO183.out)⟩, ⟨by (with_reducible repeat (first | apply Kd.Q_alloc | apply Kd.Q_drewN | apply Kd.Q_drew)); exact HO190.out⟩, ⟨by (with_reducible repeat (first | refine blk_drewN ?_ _ | refine blk_drew ?_ | refine blk_alloc ?_ _)); exact BK172.out⟩, ⟨by (with_reducible repeat (first | refine blk_drewN ?_ _ | refine blk_drew ?_ | refine blk_alloc ?_ _)); exact BK185.out⟩, ⟨by (with_reducible repeat (first | refine blk_drewN ?_ _ | refine blk_drew ?_ | refine blk_alloc ?_ _)); exact BK193.out⟩, ⟨by repeat (first | (with_reducible first | exact HB.out | apply below_alloc | apply pw_below_drewN | apply below_drew1 | refine below_set ?_ GE172.out | refine below_set ?_ GE185.out | refine below_set ?_ GE193.out) | exact HB.out)⟩⟩
                              · rw [if_neg c44] at H
                                have c44b0 : (t192 == 0) = false := beq_eq_false_iff_ne.mpr c44
                                have c44b1 : (t192 != 0) = true := bne_iff_ne.mpr c44
                                have H' := Aside0.mk H
                                clear H
                                try go_wp2
                                have n0_ : Aside0 (Kd.R (Kd.int .i64) 3 (((w38.setCell ⟨gb193, 0, none⟩ (.int .i64 t186)).setCell ⟨gb193, 1, none⟩ (.int .i64 t187)).setCell ⟨gb193, 2, none⟩ (.slice Ao42 t188.length co42)) w.heap.size (fun k_ => some k_ ≠ (.slice Ao26 x173002_2.length co26 : Value).ownBlock ∧ some k_ ≠ (.slice Ao33 t181.length co33 : Value).ownBlock ∧ some k_ ≠ (.slice Ao42 t188.length co42 : Value).ownBlock) u7 x7_2) := ⟨by (with_reducible repeat (first | apply Kd.R_alloc | apply Kd.R_drewN | apply Kd.R_drew)); exact Kd.R_mono (Kd.R_far (p := ⟨gb193, 2, none⟩) (Kd.R_far (p := ⟨gb193, 1, none⟩) (Kd.R_far (p := ⟨gb193, 0, none⟩) (Kd.R_types HO_7.out BK193.out (by decide)) (fun _ hk => hk.2) (.int .i64 t186)) (fun _ hk => hk.2) (.int .i64 t187)) (fun _ hk => hk.2) (.slice Ao42 t188.length co42)) (fun _ hk => ⟨hk.1.1.2, ⟨hk.1.1.1, hk.1.2⟩⟩)⟩
                                have n1_ : Aside0 (Kd.Q (Kd.int .i64) 3 (((w38.setCell ⟨gb193, 0, none⟩ (.int .i64 t186)).setCell ⟨gb193, 1, none⟩ (.int .i64 t187)).setCell ⟨gb193, 2, none⟩ (.slice Ao42 t188.length co42)) w.heap.size (fun k_ => some k_ ≠ (u7 : Value).ownBlock ∧ some k_ ≠ (.slice Ao33 t181.length co33 : Value).ownBlock ∧ some k_ ≠ (.slice Ao42 t188.length co42 : Value).ownBlock) (.slice Ao26 x173002_2.length co26) x173002_2) := ⟨by (with_reducible repeat (first | apply Kd.Q_alloc | apply Kd.Q_drewN | apply Kd.Q_drew)); exact Kd.Q_mono (Kd.Q_far (p := ⟨gb193, 2, none⟩) (Kd.Q_far (p := ⟨gb193, 1, none⟩) (Kd.Q_far (p := ⟨gb193, 0, none⟩) (Kd.Q_types HO_173002.out BK193.out (by decide)) (fun _ hk => hk.2) (.int .i64 t186)) (fun _ hk => hk.2) (.int .i64 t187)) (fun _ hk => hk.2) (.slice Ao42 t188.length co42)) (fun _ hk => ⟨hk.1.1.2, ⟨hk.1.1.1, hk.1.2⟩⟩)⟩
                                have n2_ : Aside0 (Kd.R (Kd.int .i64) 3 (((w38.setCell ⟨gb193, 0, none⟩ (.int .i64 t186)).setCell ⟨gb193, 1, none⟩ (.int .i64 t187)).setCell ⟨gb193, 2, none⟩ (.slice Ao42 t188.length co42)) w.heap.size (fun k_ => some k_ ≠ (u7 : Value).ownBlock ∧ some k_ ≠ (.slice Ao26 x173002_2.length co26 : Value).ownBlock ∧ some k_ ≠ (.slice Ao42 t188.length co42 : Value).ownBlock) (.slice Ao33 t181.length co33) t181) := ⟨by (with_reducible repeat (first | apply Kd.R_alloc | apply Kd.R_drewN | apply Kd.R_drew)); exact Kd.R_mono (Kd.R_far (p := ⟨gb193, 2, none⟩) (Kd.R_far (p := ⟨gb193, 1, none⟩) (Kd.R_far (p := ⟨gb193, 0, none⟩) (Kd.R_types HO183.out BK193.out (by decide)) (fun _ hk => hk.2) (.int .i64 t186)) (fun _ hk => hk.2) (.int .i64 t187)) (fun _ hk => hk.2) (.slice Ao42 t188.length co42)) (fun _ hk => ⟨hk.1.1.2, ⟨hk.1.1.1, hk.1.2⟩⟩)⟩
                                have n3_ : Aside0 (Kd.Q (Kd.int .i64) 3 (((w38.setCell ⟨gb193, 0, none⟩ (.int .i64 t186)).setCell ⟨gb193, 1, none⟩ (.int .i64 t187)).setCell ⟨gb193, 2, none⟩ (.slice Ao42 t188.length co42)) w.heap.size (fun k_ => some k_ ≠ (u7 : Value).ownBlock ∧ some k_ ≠ (.slice Ao26 x173002_2.length co26 : Value).ownBlock ∧ some k_ ≠ (.slice Ao33 t181.length co33 : Value).ownBlock) (.slice Ao42 t188.length co42) t188) := ⟨by (with_reducible repeat (first | apply Kd.Q_alloc | apply Kd.Q_drewN | apply Kd.Q_drew)); exact Kd.Q_mono (Kd.Q_far (p := ⟨gb193, 2, none⟩) (Kd.Q_far (p := ⟨gb193, 1, none⟩) (Kd.Q_far (p := ⟨gb193, 0, none⟩) (Kd.Q_types HO190.out BK193.out (by decide)) (fun _ hk => hk.2) (.int .i64 t186)) (fun _ hk => hk.2) (.int .i64 t187)) (fun _ hk => hk.2) (.slice Ao42 t188.length co42)) (fun _ hk => ⟨hk.1.1.1.2, ⟨hk.1.1.2, hk.1.2⟩⟩)⟩
                                have n4_ : Aside0 ((((w38.setCell ⟨gb193, 0, none⟩ (.int .i64 t186)).setCell ⟨gb193, 1, none⟩ (.int .i64 t187)).setCell ⟨gb193, 2, none⟩ (.slice Ao42 t188.length co42)).heap[gb172]? = some (.cells #[.int .i64 x173000_2, .int .i64 x173001_2, .slice Ao26 x173002_2.length co26] 24 (0, 0))) := ⟨by (with_reducible repeat (first | refine blk_drewN ?_ _ | refine blk_drew ?_ | refine blk_alloc ?_ _)); refine blk_far ?_ NB172_193.out _; (with_reducible repeat (first | refine blk_drewN ?_ _ | refine blk_drew ?_ | refine blk_alloc ?_ _)); refine blk_far ?_ NB172_193.out _; (with_reducible repeat (first | refine blk_drewN ?_ _ | refine blk_drew ?_ | refine blk_alloc ?_ _)); refine blk_far ?_ NB172_193.out _; (with_reducible repeat (first | refine blk_drewN ?_ _ | refine blk_drew ?_ | refine blk_alloc ?_ _)); exact BK172.out⟩
                                have n5_ : Aside0 ((((w38.setCell ⟨gb193, 0, none⟩ (.int .i64 t186)).setCell ⟨gb193, 1, none⟩ (.int .i64 t187)).setCell ⟨gb193, 2, none⟩ (.slice Ao42 t188.length co42)).heap[gb185]? = some (.cells #[.int .i64 t179, .int .i64 t180, .slice Ao33 t181.length co33] 24 (0, 0))) := ⟨by (with_reducible repeat (first | refine blk_drewN ?_ _ | refine blk_drew ?_ | refine blk_alloc ?_ _)); refine blk_far ?_ NB185_193.out _; (with_reducible repeat (first | refine blk_drewN ?_ _ | refine blk_drew ?_ | refine blk_alloc ?_ _)); refine blk_far ?_ NB185_193.out _; (with_reducible repeat (first | refine blk_drewN ?_ _ | refine blk_drew ?_ | refine blk_alloc ?_ _)); refine blk_far ?_ NB185_193.out _; (with_reducible repeat (first | refine blk_drewN ?_ _ | refine blk_drew ?_ | refine blk_alloc ?_ _)); exact BK185.out⟩
                                have n6_ : Aside0 ((((w38.setCell ⟨gb193, 0, none⟩ (.int .i64 t186)).setCell ⟨gb193, 1, none⟩ (.int .i64 t187)).setCell ⟨gb193, 2, none⟩ (.slice Ao42 t188.length co42)).heap[gb193]? = some (.cells #[.int .i64 t186, .int .i64 t187, .slice Ao42 t188.length co42] 24 (0, 0))) := ⟨by (with_reducible repeat (first | refine blk_drewN ?_ _ | refine blk_drew ?_ | refine blk_alloc ?_ _)); refine blk_put (cs := #[.int .i64 t186, .int .i64 t187, .slice none 0 0]) ?_ 2 _ rfl; (with_reducible repeat (first | refine blk_drewN ?_ _ | refine blk_drew ?_ | refine blk_alloc ?_ _)); refine blk_put (cs := #[.int .i64 t186, .int .i64 0, .slice none 0 0]) ?_ 1 _ rfl; (with_reducible repeat (first | refine blk_drewN ?_ _ | refine blk_drew ?_ | refine blk_alloc ?_ _)); refine blk_put (cs := #[.int .i64 0, .int .i64 0, .slice none 0 0]) ?_ 0 _ rfl; (with_reducible repeat (first | refine blk_drewN ?_ _ | refine blk_drew ?_ | refine blk_alloc ?_ _)); exact BK193.out⟩
                                have n7_ : Aside0 (Below w.heap.size w (((w38.setCell ⟨gb193, 0, none⟩ (.int .i64 t186)).setCell ⟨gb193, 1, none⟩ (.int .i64 t187)).setCell ⟨gb193, 2, none⟩ (.slice Ao42 t188.length co42))) := ⟨by repeat (first | (with_reducible first | exact HB.out | apply below_alloc | apply pw_below_drewN | apply below_drew1 | refine below_set ?_ GE172.out | refine below_set ?_ GE185.out | refine below_set ?_ GE193.out) | exact HB.out)⟩
                                (try clear HO_7)
                                (try clear HO_173002)
                                (try clear HO183)
                                (try clear HO190)
                                (try clear BK172)
                                (try clear BK185)
                                (try clear BK193)
                                (try clear HB)
                                generalize (((w38.setCell ⟨gb193, 0, none⟩ (.int .i64 t186)).setCell ⟨gb193, 1, none⟩ (.int .i64 t187)).setCell ⟨gb193, 2, none⟩ (.slice Ao42 t188.length co42)) = w48 at n0_ n1_ n2_ n3_ n4_ n5_ n6_ n7_ ⊢
                                have HO_7 := n0_
                                have HO_173002 := n1_
                                have HO183 := n2_
                                have HO190 := n3_
                                have BK172 := n4_
                                have BK185 := n5_
                                have BK193 := n6_
                                have HB := n7_
                                clear n0_ n1_ n2_ n3_ n4_ n5_ n6_ n7_
                                have n0_ := Aside0.mk (Kd.R_drew HO_7.out)
                                have n1_ := Aside0.mk (Kd.Q_drew HO_173002.out)
                                have n2_ := Aside0.mk (Kd.R_drew HO183.out)
                                have n3_ := Aside0.mk (Kd.Q_drew HO190.out)
                                have n4_ := Aside0.mk (blk_drew BK172.out)
                                have n5_ := Aside0.mk (blk_drew BK185.out)
                                have n6_ := Aside0.mk (blk_drew BK193.out)
                                have n7_ := Aside0.mk (below_drew1 HB.out)
                                clear HO_7
                                clear HO_173002
                                clear HO183
                                clear HO190
                                clear BK172
                                clear BK185
                                clear BK193
                                clear HB
                                have HO_7 := n0_
                                have HO_173002 := n1_
                                have HO183 := n2_
                                have HO190 := n3_
                                have BK172 := n4_
                                have BK185 := n5_
                                have BK193 := n6_
                                have HB := n7_
                                clear n0_ n1_ n2_ n3_ n4_ n5_ n6_ n7_
                                refine start_ (n := 20) (S := fun w' => True) (ds := []) #[false, false, false, false, false, false, false, false, false, false, false, false, false, false, false, false, false, false, false, false] (by kernel_rfl) rfl rfl trivial (fun hHeld => ?_); refine with_tabW fourinhandlaw11_RateBest.tab15 fourinhandlaw11_RateBest.bits15 (fun HT_ HW_ => ?_)
                                generalize w48.drew = w49 at HO_7 HO_173002 HO183 HO190 BK172 BK185 BK193 HB hHeld ⊢
                                refine pure_ (i := 0) (N := some 94) (v := ?_) (a' := ?_) #[true, false, false, false, false, false, false, false, false, false, false, false, false, false, false, false, false, false, false, false] rfl rfl (any_of HT_.out (by kernel_rfl)) (fun _ _ _ h => h) (Or.inl ⟨by rfl, ?_⟩) ?_ ?_
                                rotate_left
                                · intro w'
                                  go_simp
                                  with_reducible rfl
                                rotate_left
                                · simp only [Act.put, List.setIfInBounds_toArray, List.set_cons_zero, List.set_cons_succ, i64_w, i32_w]
                                  rfl
                                refine pure_ (i := 1) (N := some 95) (v := ?_) (a' := ?_) #[true, true, false, false, false, false, false, false, false, false, false, false, false, false, false, false, false, false, false, false] rfl rfl (any_of HT_.out (by kernel_rfl)) (fun _ _ _ h => h) (Or.inl ⟨by rfl, ?_⟩) ?_ ?_
                                rotate_left
                                · intro w'
                                  go_simp
                                  with_reducible rfl
                                rotate_left
                                · simp only [Act.put, List.setIfInBounds_toArray, List.set_cons_zero, List.set_cons_succ, i64_w, i32_w]
                                  rfl
                                refine pure_ (i := 2) (N := some 96) (v := ?_) (a' := ?_) #[true, true, true, false, false, false, false, false, false, false, false, false, false, false, false, false, false, false, false, false] rfl rfl (any_of HT_.out (by kernel_rfl)) (fun _ _ _ h => h) (Or.inl ⟨by rfl, ?_⟩) ?_ ?_
                                rotate_left
                                · intro w'
                                  go_simp
                                  with_reducible rfl
                                rotate_left
                                · simp only [Act.put, List.setIfInBounds_toArray, List.set_cons_zero, List.set_cons_succ, i64_w, i32_w]
                                  rfl
                                refine pure_ (i := 3) (N := some 97) (v := ?_) (a' := ?_) #[true, true, true, true, false, false, false, false, false, false, false, false, false, false, false, false, false, false, false, false] rfl rfl (any_of HT_.out (by kernel_rfl)) (fun _ _ _ h => h) (Or.inl ⟨by rfl, ?_⟩) ?_ ?_
                                rotate_left
                                · intro w'
                                  go_simp
                                  with_reducible rfl
                                rotate_left
                                · simp only [Act.put, List.setIfInBounds_toArray, List.set_cons_zero, List.set_cons_succ, i64_w, i32_w]
                                  rfl
                                refine pure_ (i := 4) (N := some 98) (v := ?_) (a' := ?_) #[true, true, true, true, true, false, false, false, false, false, false, false, false, false, false, false, false, false, false, false] rfl rfl (any_of HT_.out (by kernel_rfl)) (fun _ _ _ h => h) (Or.inl ⟨by rfl, ?_⟩) ?_ ?_
                                rotate_left
                                · intro w'
                                  go_simp
                                  with_reducible rfl
                                rotate_left
                                · simp only [Act.put, List.setIfInBounds_toArray, List.set_cons_zero, List.set_cons_succ, i64_w, i32_w]
                                  rfl
                                refine pure_ (i := 5) (N := some 99) (v := ?_) (a' := ?_) #[true, true, true, true, true, true, false, false, false, false, false, false, false, false, false, false, false, false, false, false] rfl rfl (any_of HT_.out (by kernel_rfl)) (fun _ _ _ h => h) (Or.inl ⟨by rfl, ?_⟩) ?_ ?_
                                rotate_left
                                · intro w'
                                  go_simp
                                  with_reducible rfl
                                rotate_left
                                · simp only [Act.put, List.setIfInBounds_toArray, List.set_cons_zero, List.set_cons_succ, i64_w, i32_w]
                                  rfl
                                refine pure_ (i := 6) (N := some 100) (v := ?_) (a' := ?_) #[true, true, true, true, true, true, true, false, false, false, false, false, false, false, false, false, false, false, false, false] rfl rfl (any_of HT_.out (by kernel_rfl)) (fun _ _ _ h => h) (Or.inl ⟨by rfl, ?_⟩) ?_ ?_
                                rotate_left
                                · intro w'
                                  go_simp
                                  with_reducible rfl
                                rotate_left
                                · simp only [Act.put, List.setIfInBounds_toArray, List.set_cons_zero, List.set_cons_succ, i64_w, i32_w]
                                  rfl
                                refine pure_ (i := 7) (N := some 101) (v := undef) (a' := ?_) #[true, true, true, true, true, true, true, true, false, false, false, false, false, false, false, false, false, false, false, false] rfl rfl (any_of HT_.out (by kernel_rfl)) (fun _ _ _ h => h) (Or.inr ⟨by rfl, rfl⟩) ?_ ?_
                                rotate_left
                                · simp only [Act.put, List.setIfInBounds_toArray, List.set_cons_zero, List.set_cons_succ, i64_w, i32_w]
                                  rfl
                                refine pure_ (i := 8) (N := some 102) (v := undef) (a' := ?_) #[true, true, true, true, true, true, true, true, true, false, false, false, false, false, false, false, false, false, false, false] rfl rfl (any_of HT_.out (by kernel_rfl)) (fun _ _ _ h => h) (Or.inr ⟨by rfl, rfl⟩) ?_ ?_
                                rotate_left
                                · simp only [Act.put, List.setIfInBounds_toArray, List.set_cons_zero, List.set_cons_succ, i64_w, i32_w]
                                  rfl
                                refine pure_ (i := 9) (N := some 103) (v := undef) (a' := ?_) #[true, true, true, true, true, true, true, true, true, true, false, false, false, false, false, false, false, false, false, false] rfl rfl (any_of HT_.out (by kernel_rfl)) (fun _ _ _ h => h) (Or.inr ⟨by rfl, rfl⟩) ?_ ?_
                                rotate_left
                                · simp only [Act.put, List.setIfInBounds_toArray, List.set_cons_zero, List.set_cons_succ, i64_w, i32_w]
                                  rfl
                                refine pure_ (i := 10) (N := some 104) (v := undef) (a' := ?_) #[true, true, true, true, true, true, true, true, true, true, true, false, false, false, false, false, false, false, false, false] rfl rfl (any_of HT_.out (by kernel_rfl)) (fun _ _ _ h => h) (Or.inr ⟨by rfl, rfl⟩) ?_ ?_
                                rotate_left
                                · simp only [Act.put, List.setIfInBounds_toArray, List.set_cons_zero, List.set_cons_succ, i64_w, i32_w]
                                  rfl
                                refine pure_ (i := 11) (N := some 105) (v := undef) (a' := ?_) #[true, true, true, true, true, true, true, true, true, true, true, true, false, false, false, false, false, false, false, false] rfl rfl (any_of HT_.out (by kernel_rfl)) (fun _ _ _ h => h) (Or.inr ⟨by rfl, rfl⟩) ?_ ?_
                                rotate_left
                                · simp only [Act.put, List.setIfInBounds_toArray, List.set_cons_zero, List.set_cons_succ, i64_w, i32_w]
                                  rfl
                                refine pure_ (i := 12) (N := some 106) (v := undef) (a' := ?_) #[true, true, true, true, true, true, true, true, true, true, true, true, true, false, false, false, false, false, false, false] rfl rfl (any_of HT_.out (by kernel_rfl)) (fun _ _ _ h => h) (Or.inr ⟨by rfl, rfl⟩) ?_ ?_
                                rotate_left
                                · simp only [Act.put, List.setIfInBounds_toArray, List.set_cons_zero, List.set_cons_succ, i64_w, i32_w]
                                  rfl
                                refine pure_ (i := 13) (N := some 107) (v := undef) (a' := ?_) #[true, true, true, true, true, true, true, true, true, true, true, true, true, true, false, false, false, false, false, false] rfl rfl (any_of HT_.out (by kernel_rfl)) (fun _ _ _ h => h) (Or.inr ⟨by rfl, rfl⟩) ?_ ?_
                                rotate_left
                                · simp only [Act.put, List.setIfInBounds_toArray, List.set_cons_zero, List.set_cons_succ, i64_w, i32_w]
                                  rfl
                                refine pure_ (i := 14) (N := some 108) (v := undef) (a' := ?_) #[true, true, true, true, true, true, true, true, true, true, true, true, true, true, true, false, false, false, false, false] rfl rfl (any_of HT_.out (by kernel_rfl)) (fun _ _ _ h => h) (Or.inr ⟨by rfl, rfl⟩) ?_ ?_
                                rotate_left
                                · simp only [Act.put, List.setIfInBounds_toArray, List.set_cons_zero, List.set_cons_succ, i64_w, i32_w]
                                  rfl
                                refine pure_ (i := 15) (N := some 109) (v := undef) (a' := ?_) #[true, true, true, true, true, true, true, true, true, true, true, true, true, true, true, true, false, false, false, false] rfl rfl (any_of HT_.out (by kernel_rfl)) (fun _ _ _ h => h) (Or.inr ⟨by rfl, rfl⟩) ?_ ?_
                                rotate_left
                                · simp only [Act.put, List.setIfInBounds_toArray, List.set_cons_zero, List.set_cons_succ, i64_w, i32_w]
                                  rfl
                                refine pure_ (i := 16) (N := some 110) (v := undef) (a' := ?_) #[true, true, true, true, true, true, true, true, true, true, true, true, true, true, true, true, true, false, false, false] rfl rfl (any_of HT_.out (by kernel_rfl)) (fun _ _ _ h => h) (Or.inr ⟨by rfl, rfl⟩) ?_ ?_
                                rotate_left
                                · simp only [Act.put, List.setIfInBounds_toArray, List.set_cons_zero, List.set_cons_succ, i64_w, i32_w]
                                  rfl
                                refine pure_ (i := 17) (N := some 111) (v := undef) (a' := ?_) #[true, true, true, true, true, true, true, true, true, true, true, true, true, true, true, true, true, true, false, false] rfl rfl (any_of HT_.out (by kernel_rfl)) (fun _ _ _ h => h) (Or.inr ⟨by rfl, rfl⟩) ?_ ?_
                                rotate_left
                                · simp only [Act.put, List.setIfInBounds_toArray, List.set_cons_zero, List.set_cons_succ, i64_w, i32_w]
                                  rfl
                                refine pure_ (i := 18) (N := some 112) (v := undef) (a' := ?_) #[true, true, true, true, true, true, true, true, true, true, true, true, true, true, true, true, true, true, true, false] rfl rfl (any_of HT_.out (by kernel_rfl)) (fun _ _ _ h => h) (Or.inr ⟨by rfl, rfl⟩) ?_ ?_
                                rotate_left
                                · simp only [Act.put, List.setIfInBounds_toArray, List.set_cons_zero, List.set_cons_succ, i64_w, i32_w]
                                  rfl
                                refine pure_ (i := 19) (N := some 113) (v := ?_) (a' := ?_) #[true, true, true, true, true, true, true, true, true, true, true, true, true, true, true, true, true, true, true, true] rfl rfl (any_of HT_.out (by kernel_rfl)) (fun _ _ _ h => h) (Or.inl ⟨by rfl, ?_⟩) ?_ ?_
                                rotate_left
                                · intro w'
                                  go_simp
                                  with_reducible rfl
                                rotate_left
                                · simp only [Act.put, List.setIfInBounds_toArray, List.set_cons_zero, List.set_cons_succ, i64_w, i32_w]
                                  rfl
                                refine done_ (done_of HT_.out (by kernel_rfl)) ?_
                                try go_wp2
                                go_meet
                                case rel => exact ⟨_, (true), (by first | rfl | (simp; done) | (simp [*]; done)), H', ⟨by have := HJ3.out; have := HK2.out; have := HJ11.out; first | omega | exact Nat.le_refl _⟩, ⟨by (with_reducible repeat (first | apply Kd.R_alloc | apply Kd.R_drewN | apply Kd.R_drew)); exact HO_7.out⟩, ⟨by (with_reducible repeat (first | apply Kd.Q_alloc | apply Kd.Q_drewN | apply Kd.Q_drew)); exact HO_173002.out⟩, ⟨Kd.Q_of_R (by (with_reducible repeat (first | apply Kd.R_alloc | apply Kd.R_drewN | apply Kd.R_drew)); exact HO183.out)⟩, ⟨by (with_reducible repeat (first | apply Kd.Q_alloc | apply Kd.Q_drewN | apply Kd.Q_drew)); exact HO190.out⟩, ⟨by (with_reducible repeat (first | refine blk_drewN ?_ _ | refine blk_drew ?_ | refine blk_alloc ?_ _)); exact BK172.out⟩, ⟨by (with_reducible repeat (first | refine blk_drewN ?_ _ | refine blk_drew ?_ | refine blk_alloc ?_ _)); exact BK185.out⟩, ⟨by (with_reducible repeat (first | refine blk_drewN ?_ _ | refine blk_drew ?_ | refine blk_alloc ?_ _)); exact BK193.out⟩, ⟨by repeat (first | (with_reducible first | exact HB.out | apply below_alloc | apply pw_below_drewN | apply below_drew1 | refine below_set ?_ GE172.out | refine below_set ?_ GE185.out | refine below_set ?_ GE193.out) | exact HB.out)⟩⟩
                            · rw [if_neg c43] at H
                              have c43b0 : (t184 == 0) = false := beq_eq_false_iff_ne.mpr c43
                              have c43b1 : (t184 != 0) = true := bne_iff_ne.mpr c43
                              (first | rw [c43b0] | (simp only [i64_w, i32_w]; rw [c43b0]) | skip)
                              have H' := Aside0.mk H
                              clear H
                              try go_wp2
                              have n0_ : Aside0 (Kd.R (Kd.int .i64) 3 (((w38.setCell ⟨gb193, 0, none⟩ (.int .i64 t186)).setCell ⟨gb193, 1, none⟩ (.int .i64 t187)).setCell ⟨gb193, 2, none⟩ (.slice Ao42 t188.length co42)) w.heap.size (fun k_ => some k_ ≠ (.slice Ao26 x173002_2.length co26 : Value).ownBlock ∧ some k_ ≠ (.slice Ao33 t181.length co33 : Value).ownBlock ∧ some k_ ≠ (.slice Ao42 t188.length co42 : Value).ownBlock) u7 x7_2) := ⟨by (with_reducible repeat (first | apply Kd.R_alloc | apply Kd.R_drewN | apply Kd.R_drew)); exact Kd.R_mono (Kd.R_far (p := ⟨gb193, 2, none⟩) (Kd.R_far (p := ⟨gb193, 1, none⟩) (Kd.R_far (p := ⟨gb193, 0, none⟩) (Kd.R_types HO_7.out BK193.out (by decide)) (fun _ hk => hk.2) (.int .i64 t186)) (fun _ hk => hk.2) (.int .i64 t187)) (fun _ hk => hk.2) (.slice Ao42 t188.length co42)) (fun _ hk => ⟨hk.1.1.2, ⟨hk.1.1.1, hk.1.2⟩⟩)⟩
                              have n1_ : Aside0 (Kd.Q (Kd.int .i64) 3 (((w38.setCell ⟨gb193, 0, none⟩ (.int .i64 t186)).setCell ⟨gb193, 1, none⟩ (.int .i64 t187)).setCell ⟨gb193, 2, none⟩ (.slice Ao42 t188.length co42)) w.heap.size (fun k_ => some k_ ≠ (u7 : Value).ownBlock ∧ some k_ ≠ (.slice Ao33 t181.length co33 : Value).ownBlock ∧ some k_ ≠ (.slice Ao42 t188.length co42 : Value).ownBlock) (.slice Ao26 x173002_2.length co26) x173002_2) := ⟨by (with_reducible repeat (first | apply Kd.Q_alloc | apply Kd.Q_drewN | apply Kd.Q_drew)); exact Kd.Q_mono (Kd.Q_far (p := ⟨gb193, 2, none⟩) (Kd.Q_far (p := ⟨gb193, 1, none⟩) (Kd.Q_far (p := ⟨gb193, 0, none⟩) (Kd.Q_types HO_173002.out BK193.out (by decide)) (fun _ hk => hk.2) (.int .i64 t186)) (fun _ hk => hk.2) (.int .i64 t187)) (fun _ hk => hk.2) (.slice Ao42 t188.length co42)) (fun _ hk => ⟨hk.1.1.2, ⟨hk.1.1.1, hk.1.2⟩⟩)⟩
                              have n2_ : Aside0 (Kd.R (Kd.int .i64) 3 (((w38.setCell ⟨gb193, 0, none⟩ (.int .i64 t186)).setCell ⟨gb193, 1, none⟩ (.int .i64 t187)).setCell ⟨gb193, 2, none⟩ (.slice Ao42 t188.length co42)) w.heap.size (fun k_ => some k_ ≠ (u7 : Value).ownBlock ∧ some k_ ≠ (.slice Ao26 x173002_2.length co26 : Value).ownBlock ∧ some k_ ≠ (.slice Ao42 t188.length co42 : Value).ownBlock) (.slice Ao33 t181.length co33) t181) := ⟨by (with_reducible repeat (first | apply Kd.R_alloc | apply Kd.R_drewN | apply Kd.R_drew)); exact Kd.R_mono (Kd.R_far (p := ⟨gb193, 2, none⟩) (Kd.R_far (p := ⟨gb193, 1, none⟩) (Kd.R_far (p := ⟨gb193, 0, none⟩) (Kd.R_types HO183.out BK193.out (by decide)) (fun _ hk => hk.2) (.int .i64 t186)) (fun _ hk => hk.2) (.int .i64 t187)) (fun _ hk => hk.2) (.slice Ao42 t188.length co42)) (fun _ hk => ⟨hk.1.1.2, ⟨hk.1.1.1, hk.1.2⟩⟩)⟩
                              have n3_ : Aside0 (Kd.Q (Kd.int .i64) 3 (((w38.setCell ⟨gb193, 0, none⟩ (.int .i64 t186)).setCell ⟨gb193, 1, none⟩ (.int .i64 t187)).setCell ⟨gb193, 2, none⟩ (.slice Ao42 t188.length co42)) w.heap.size (fun k_ => some k_ ≠ (u7 : Value).ownBlock ∧ some k_ ≠ (.slice Ao26 x173002_2.length co26 : Value).ownBlock ∧ some k_ ≠ (.slice Ao33 t181.length co33 : Value).ownBlock) (.slice Ao42 t188.length co42) t188) := ⟨by (with_reducible repeat (first | apply Kd.Q_alloc | apply Kd.Q_drewN | apply Kd.Q_drew)); exact Kd.Q_mono (Kd.Q_far (p := ⟨gb193, 2, none⟩) (Kd.Q_far (p := ⟨gb193, 1, none⟩) (Kd.Q_far (p := ⟨gb193, 0, none⟩) (Kd.Q_types HO190.out BK193.out (by decide)) (fun _ hk => hk.2) (.int .i64 t186)) (fun _ hk => hk.2) (.int .i64 t187)) (fun _ hk => hk.2) (.slice Ao42 t188.length co42)) (fun _ hk => ⟨hk.1.1.1.2, ⟨hk.1.1.2, hk.1.2⟩⟩)⟩
                              have n4_ : Aside0 ((((w38.setCell ⟨gb193, 0, none⟩ (.int .i64 t186)).setCell ⟨gb193, 1, none⟩ (.int .i64 t187)).setCell ⟨gb193, 2, none⟩ (.slice Ao42 t188.length co42)).heap[gb172]? = some (.cells #[.int .i64 x173000_2, .int .i64 x173001_2, .slice Ao26 x173002_2.length co26] 24 (0, 0))) := ⟨by (with_reducible repeat (first | refine blk_drewN ?_ _ | refine blk_drew ?_ | refine blk_alloc ?_ _)); refine blk_far ?_ NB172_193.out _; (with_reducible repeat (first | refine blk_drewN ?_ _ | refine blk_drew ?_ | refine blk_alloc ?_ _)); refine blk_far ?_ NB172_193.out _; (with_reducible repeat (first | refine blk_drewN ?_ _ | refine blk_drew ?_ | refine blk_alloc ?_ _)); refine blk_far ?_ NB172_193.out _; (with_reducible repeat (first | refine blk_drewN ?_ _ | refine blk_drew ?_ | refine blk_alloc ?_ _)); exact BK172.out⟩
                              have n5_ : Aside0 ((((w38.setCell ⟨gb193, 0, none⟩ (.int .i64 t186)).setCell ⟨gb193, 1, none⟩ (.int .i64 t187)).setCell ⟨gb193, 2, none⟩ (.slice Ao42 t188.length co42)).heap[gb185]? = some (.cells #[.int .i64 t179, .int .i64 t180, .slice Ao33 t181.length co33] 24 (0, 0))) := ⟨by (with_reducible repeat (first | refine blk_drewN ?_ _ | refine blk_drew ?_ | refine blk_alloc ?_ _)); refine blk_far ?_ NB185_193.out _; (with_reducible repeat (first | refine blk_drewN ?_ _ | refine blk_drew ?_ | refine blk_alloc ?_ _)); refine blk_far ?_ NB185_193.out _; (with_reducible repeat (first | refine blk_drewN ?_ _ | refine blk_drew ?_ | refine blk_alloc ?_ _)); refine blk_far ?_ NB185_193.out _; (with_reducible repeat (first | refine blk_drewN ?_ _ | refine blk_drew ?_ | refine blk_alloc ?_ _)); exact BK185.out⟩
                              have n6_ : Aside0 ((((w38.setCell ⟨gb193, 0, none⟩ (.int .i64 t186)).setCell ⟨gb193, 1, none⟩ (.int .i64 t187)).setCell ⟨gb193, 2, none⟩ (.slice Ao42 t188.length co42)).heap[gb193]? = some (.cells #[.int .i64 t186, .int .i64 t187, .slice Ao42 t188.length co42] 24 (0, 0))) := ⟨by (with_reducible repeat (first | refine blk_drewN ?_ _ | refine blk_drew ?_ | refine blk_alloc ?_ _)); refine blk_put (cs := #[.int .i64 t186, .int .i64 t187, .slice none 0 0]) ?_ 2 _ rfl; (with_reducible repeat (first | refine blk_drewN ?_ _ | refine blk_drew ?_ | refine blk_alloc ?_ _)); refine blk_put (cs := #[.int .i64 t186, .int .i64 0, .slice none 0 0]) ?_ 1 _ rfl; (with_reducible repeat (first | refine blk_drewN ?_ _ | refine blk_drew ?_ | refine blk_alloc ?_ _)); refine blk_put (cs := #[.int .i64 0, .int .i64 0, .slice none 0 0]) ?_ 0 _ rfl; (with_reducible repeat (first | refine blk_drewN ?_ _ | refine blk_drew ?_ | refine blk_alloc ?_ _)); exact BK193.out⟩
                              have n7_ : Aside0 (Below w.heap.size w (((w38.setCell ⟨gb193, 0, none⟩ (.int .i64 t186)).setCell ⟨gb193, 1, none⟩ (.int .i64 t187)).setCell ⟨gb193, 2, none⟩ (.slice Ao42 t188.length co42))) := ⟨by repeat (first | (with_reducible first | exact HB.out | apply below_alloc | apply pw_below_drewN | apply below_drew1 | refine below_set ?_ GE172.out | refine below_set ?_ GE185.out | refine below_set ?_ GE193.out) | exact HB.out)⟩
                              (try clear HO_7)
                              (try clear HO_173002)
                              (try clear HO183)
                              (try clear HO190)
                              (try clear BK172)
                              (try clear BK185)
                              (try clear BK193)
                              (try clear HB)
                              generalize (((w38.setCell ⟨gb193, 0, none⟩ (.int .i64 t186)).setCell ⟨gb193, 1, none⟩ (.int .i64 t187)).setCell ⟨gb193, 2, none⟩ (.slice Ao42 t188.length co42)) = w50 at n0_ n1_ n2_ n3_ n4_ n5_ n6_ n7_ ⊢
                              have HO_7 := n0_
                              have HO_173002 := n1_
                              have HO183 := n2_
                              have HO190 := n3_
                              have BK172 := n4_
                              have BK185 := n5_
                              have BK193 := n6_
                              have HB := n7_
                              clear n0_ n1_ n2_ n3_ n4_ n5_ n6_ n7_
                              have n0_ := Aside0.mk (Kd.R_drew HO_7.out)
                              have n1_ := Aside0.mk (Kd.Q_drew HO_173002.out)
                              have n2_ := Aside0.mk (Kd.R_drew HO183.out)
                              have n3_ := Aside0.mk (Kd.Q_drew HO190.out)
                              have n4_ := Aside0.mk (blk_drew BK172.out)
                              have n5_ := Aside0.mk (blk_drew BK185.out)
                              have n6_ := Aside0.mk (blk_drew BK193.out)
                              have n7_ := Aside0.mk (below_drew1 HB.out)
                              clear HO_7
                              clear HO_173002
                              clear HO183
                              clear HO190
                              clear BK172
                              clear BK185
                              clear BK193
                              clear HB
                              have HO_7 := n0_
                              have HO_173002 := n1_
                              have HO183 := n2_
                              have HO190 := n3_
                              have BK172 := n4_
                              have BK185 := n5_
                              have BK193 := n6_
                              have HB := n7_
                              clear n0_ n1_ n2_ n3_ n4_ n5_ n6_ n7_
                              refine start_ (n := 20) (S := fun w' => True) (ds := []) #[false, false, false, false, false, false, false, false, false, false, false, false, false, false, false, false, false, false, false, false] (by kernel_rfl) rfl rfl trivial (fun hHeld => ?_); refine with_tabW fourinhandlaw11_RateBest.tab15 fourinhandlaw11_RateBest.bits15 (fun HT_ HW_ => ?_)
                              generalize w50.drew = w51 at HO_7 HO_173002 HO183 HO190 BK172 BK185 BK193 HB hHeld ⊢
                              refine pure_ (i := 0) (N := some 94) (v := ?_) (a' := ?_) #[true, false, false, false, false, false, false, false, false, false, false, false, false, false, false, false, false, false, false, false] rfl rfl (any_of HT_.out (by kernel_rfl)) (fun _ _ _ h => h) (Or.inl ⟨by rfl, ?_⟩) ?_ ?_
                              rotate_left
                              · intro w'
                                go_simp
                                with_reducible rfl
                              rotate_left
                              · simp only [Act.put, List.setIfInBounds_toArray, List.set_cons_zero, List.set_cons_succ, i64_w, i32_w]
                                rfl
                              refine pure_ (i := 1) (N := some 95) (v := ?_) (a' := ?_) #[true, true, false, false, false, false, false, false, false, false, false, false, false, false, false, false, false, false, false, false] rfl rfl (any_of HT_.out (by kernel_rfl)) (fun _ _ _ h => h) (Or.inl ⟨by rfl, ?_⟩) ?_ ?_
                              rotate_left
                              · intro w'
                                go_simp
                                with_reducible rfl
                              rotate_left
                              · simp only [Act.put, List.setIfInBounds_toArray, List.set_cons_zero, List.set_cons_succ, i64_w, i32_w]
                                rfl
                              refine pure_ (i := 2) (N := some 96) (v := ?_) (a' := ?_) #[true, true, true, false, false, false, false, false, false, false, false, false, false, false, false, false, false, false, false, false] rfl rfl (any_of HT_.out (by kernel_rfl)) (fun _ _ _ h => h) (Or.inl ⟨by rfl, ?_⟩) ?_ ?_
                              rotate_left
                              · intro w'
                                go_simp
                                with_reducible rfl
                              rotate_left
                              · simp only [Act.put, List.setIfInBounds_toArray, List.set_cons_zero, List.set_cons_succ, i64_w, i32_w]
                                rfl
                              refine pure_ (i := 3) (N := some 97) (v := undef) (a' := ?_) #[true, true, true, true, false, false, false, false, false, false, false, false, false, false, false, false, false, false, false, false] rfl rfl (any_of HT_.out (by kernel_rfl)) (fun _ _ _ h => h) (Or.inr ⟨by rfl, rfl⟩) ?_ ?_
                              rotate_left
                              · simp only [Act.put, List.setIfInBounds_toArray, List.set_cons_zero, List.set_cons_succ, i64_w, i32_w]
                                rfl
                              refine pure_ (i := 4) (N := some 98) (v := undef) (a' := ?_) #[true, true, true, true, true, false, false, false, false, false, false, false, false, false, false, false, false, false, false, false] rfl rfl (any_of HT_.out (by kernel_rfl)) (fun _ _ _ h => h) (Or.inr ⟨by rfl, rfl⟩) ?_ ?_
                              rotate_left
                              · simp only [Act.put, List.setIfInBounds_toArray, List.set_cons_zero, List.set_cons_succ, i64_w, i32_w]
                                rfl
                              refine pure_ (i := 5) (N := some 99) (v := ?_) (a' := ?_) #[true, true, true, true, true, true, false, false, false, false, false, false, false, false, false, false, false, false, false, false] rfl rfl (any_of HT_.out (by kernel_rfl)) (fun _ _ _ h => h) (Or.inl ⟨by rfl, ?_⟩) ?_ ?_
                              rotate_left
                              · intro w'
                                go_simp
                                with_reducible rfl
                              rotate_left
                              · simp only [Act.put, List.setIfInBounds_toArray, List.set_cons_zero, List.set_cons_succ, i64_w, i32_w]
                                rfl
                              refine pure_ (i := 6) (N := some 100) (v := ?_) (a' := ?_) #[true, true, true, true, true, true, true, false, false, false, false, false, false, false, false, false, false, false, false, false] rfl rfl (any_of HT_.out (by kernel_rfl)) (fun _ _ _ h => h) (Or.inl ⟨by rfl, ?_⟩) ?_ ?_
                              rotate_left
                              · intro w'
                                go_simp
                                with_reducible rfl
                              rotate_left
                              · simp only [Act.put, List.setIfInBounds_toArray, List.set_cons_zero, List.set_cons_succ, i64_w, i32_w]
                                rfl
                              refine pure_ (i := 7) (N := some 101) (v := undef) (a' := ?_) #[true, true, true, true, true, true, true, true, false, false, false, false, false, false, false, false, false, false, false, false] rfl rfl (any_of HT_.out (by kernel_rfl)) (fun _ _ _ h => h) (Or.inr ⟨by rfl, rfl⟩) ?_ ?_
                              rotate_left
                              · simp only [Act.put, List.setIfInBounds_toArray, List.set_cons_zero, List.set_cons_succ, i64_w, i32_w]
                                rfl
                              refine pure_ (i := 8) (N := some 102) (v := undef) (a' := ?_) #[true, true, true, true, true, true, true, true, true, false, false, false, false, false, false, false, false, false, false, false] rfl rfl (any_of HT_.out (by kernel_rfl)) (fun _ _ _ h => h) (Or.inr ⟨by rfl, rfl⟩) ?_ ?_
                              rotate_left
                              · simp only [Act.put, List.setIfInBounds_toArray, List.set_cons_zero, List.set_cons_succ, i64_w, i32_w]
                                rfl
                              refine pure_ (i := 9) (N := some 103) (v := undef) (a' := ?_) #[true, true, true, true, true, true, true, true, true, true, false, false, false, false, false, false, false, false, false, false] rfl rfl (any_of HT_.out (by kernel_rfl)) (fun _ _ _ h => h) (Or.inr ⟨by rfl, rfl⟩) ?_ ?_
                              rotate_left
                              · simp only [Act.put, List.setIfInBounds_toArray, List.set_cons_zero, List.set_cons_succ, i64_w, i32_w]
                                rfl
                              refine pure_ (i := 10) (N := some 104) (v := undef) (a' := ?_) #[true, true, true, true, true, true, true, true, true, true, true, false, false, false, false, false, false, false, false, false] rfl rfl (any_of HT_.out (by kernel_rfl)) (fun _ _ _ h => h) (Or.inr ⟨by rfl, rfl⟩) ?_ ?_
                              rotate_left
                              · simp only [Act.put, List.setIfInBounds_toArray, List.set_cons_zero, List.set_cons_succ, i64_w, i32_w]
                                rfl
                              refine pure_ (i := 11) (N := some 105) (v := undef) (a' := ?_) #[true, true, true, true, true, true, true, true, true, true, true, true, false, false, false, false, false, false, false, false] rfl rfl (any_of HT_.out (by kernel_rfl)) (fun _ _ _ h => h) (Or.inr ⟨by rfl, rfl⟩) ?_ ?_
                              rotate_left
                              · simp only [Act.put, List.setIfInBounds_toArray, List.set_cons_zero, List.set_cons_succ, i64_w, i32_w]
                                rfl
                              refine pure_ (i := 12) (N := some 106) (v := undef) (a' := ?_) #[true, true, true, true, true, true, true, true, true, true, true, true, true, false, false, false, false, false, false, false] rfl rfl (any_of HT_.out (by kernel_rfl)) (fun _ _ _ h => h) (Or.inr ⟨by rfl, rfl⟩) ?_ ?_
                              rotate_left
                              · simp only [Act.put, List.setIfInBounds_toArray, List.set_cons_zero, List.set_cons_succ, i64_w, i32_w]
                                rfl
                              refine pure_ (i := 13) (N := some 107) (v := undef) (a' := ?_) #[true, true, true, true, true, true, true, true, true, true, true, true, true, true, false, false, false, false, false, false] rfl rfl (any_of HT_.out (by kernel_rfl)) (fun _ _ _ h => h) (Or.inr ⟨by rfl, rfl⟩) ?_ ?_
                              rotate_left
                              · simp only [Act.put, List.setIfInBounds_toArray, List.set_cons_zero, List.set_cons_succ, i64_w, i32_w]
                                rfl
                              refine pure_ (i := 14) (N := some 108) (v := undef) (a' := ?_) #[true, true, true, true, true, true, true, true, true, true, true, true, true, true, true, false, false, false, false, false] rfl rfl (any_of HT_.out (by kernel_rfl)) (fun _ _ _ h => h) (Or.inr ⟨by rfl, rfl⟩) ?_ ?_
                              rotate_left
                              · simp only [Act.put, List.setIfInBounds_toArray, List.set_cons_zero, List.set_cons_succ, i64_w, i32_w]
                                rfl
                              refine pure_ (i := 15) (N := some 109) (v := undef) (a' := ?_) #[true, true, true, true, true, true, true, true, true, true, true, true, true, true, true, true, false, false, false, false] rfl rfl (any_of HT_.out (by kernel_rfl)) (fun _ _ _ h => h) (Or.inr ⟨by rfl, rfl⟩) ?_ ?_
                              rotate_left
                              · simp only [Act.put, List.setIfInBounds_toArray, List.set_cons_zero, List.set_cons_succ, i64_w, i32_w]
                                rfl
                              refine pure_ (i := 16) (N := some 110) (v := undef) (a' := ?_) #[true, true, true, true, true, true, true, true, true, true, true, true, true, true, true, true, true, false, false, false] rfl rfl (any_of HT_.out (by kernel_rfl)) (fun _ _ _ h => h) (Or.inr ⟨by rfl, rfl⟩) ?_ ?_
                              rotate_left
                              · simp only [Act.put, List.setIfInBounds_toArray, List.set_cons_zero, List.set_cons_succ, i64_w, i32_w]
                                rfl
                              refine pure_ (i := 17) (N := some 111) (v := undef) (a' := ?_) #[true, true, true, true, true, true, true, true, true, true, true, true, true, true, true, true, true, true, false, false] rfl rfl (any_of HT_.out (by kernel_rfl)) (fun _ _ _ h => h) (Or.inr ⟨by rfl, rfl⟩) ?_ ?_
                              rotate_left
                              · simp only [Act.put, List.setIfInBounds_toArray, List.set_cons_zero, List.set_cons_succ, i64_w, i32_w]
                                rfl
                              refine pure_ (i := 18) (N := some 112) (v := undef) (a' := ?_) #[true, true, true, true, true, true, true, true, true, true, true, true, true, true, true, true, true, true, true, false] rfl rfl (any_of HT_.out (by kernel_rfl)) (fun _ _ _ h => h) (Or.inr ⟨by rfl, rfl⟩) ?_ ?_
                              rotate_left
                              · simp only [Act.put, List.setIfInBounds_toArray, List.set_cons_zero, List.set_cons_succ, i64_w, i32_w]
                                rfl
                              refine pure_ (i := 19) (N := some 113) (v := ?_) (a' := ?_) #[true, true, true, true, true, true, true, true, true, true, true, true, true, true, true, true, true, true, true, true] rfl rfl (any_of HT_.out (by kernel_rfl)) (fun _ _ _ h => h) (Or.inl ⟨by rfl, ?_⟩) ?_ ?_
                              rotate_left
                              · intro w'
                                go_simp
                                with_reducible rfl
                              rotate_left
                              · simp only [Act.put, List.setIfInBounds_toArray, List.set_cons_zero, List.set_cons_succ, i64_w, i32_w]
                                rfl
                              refine done_ (done_of HT_.out (by kernel_rfl)) ?_
                              try go_wp2
                              go_meet
                              case rel => exact ⟨_, (true), (by first | rfl | (simp; done) | (simp [*]; done)), H', ⟨by have := HJ3.out; have := HK2.out; have := HJ11.out; first | omega | exact Nat.le_refl _⟩, ⟨by (with_reducible repeat (first | apply Kd.R_alloc | apply Kd.R_drewN | apply Kd.R_drew)); exact HO_7.out⟩, ⟨by (with_reducible repeat (first | apply Kd.Q_alloc | apply Kd.Q_drewN | apply Kd.Q_drew)); exact HO_173002.out⟩, ⟨Kd.Q_of_R (by (with_reducible repeat (first | apply Kd.R_alloc | apply Kd.R_drewN | apply Kd.R_drew)); exact HO183.out)⟩, ⟨by (with_reducible repeat (first | apply Kd.Q_alloc | apply Kd.Q_drewN | apply Kd.Q_drew)); exact HO190.out⟩, ⟨by (with_reducible repeat (first | refine blk_drewN ?_ _ | refine blk_drew ?_ | refine blk_alloc ?_ _)); exact BK172.out⟩, ⟨by (with_reducible repeat (first | refine blk_drewN ?_ _ | refine blk_drew ?_ | refine blk_alloc ?_ _)); exact BK185.out⟩, ⟨by (with_reducible repeat (first | refine blk_drewN ?_ _ | refine blk_drew ?_ | refine blk_alloc ?_ _)); exact BK193.out⟩, ⟨by repeat (first | (with_reducible first | exact HB.out | apply below_alloc | apply pw_below_drewN | apply below_drew1 | refine below_set ?_ GE172.out | refine below_set ?_ GE185.out | refine below_set ?_ GE193.out) | exact HB.out)⟩⟩
                          case rest =>
                            clear HC24
                            try clear p1
                            try clear q1
                            try clear hx1
                            try clear p2
                            try clear c4
                            try clear p6
                            try clear p19
                            try clear q19
                            try clear hx19
                            try clear c43
                            try clear c43b0
                            try clear c43b1
                            try clear c44
                            try clear c44b0
                            try clear c44b1
                            try clear c45
                            try clear c45b0
                            try clear c45b1
                            try clear hx194_0
                            try clear hx195_0
                            try clear p194
                            try clear p195
                            try clear q194
                            try clear q195
                            obtain ⟨kq, x113_23, rfl, HA, HJ23, HO_7, HO_173002, HO_186002, HO_194002, BK172, BK185, BK193, HB⟩ := hcut
                            cases kq with
                            | zero => exact absurd HA.out (by simp [fourinhandlaw11_RateBest.j3])
                            | succ kj23 =>
                              have H := HA.out
                              clear HA
                              simp only [fourinhandlaw11_RateBest.j3] at H
                              by_cases c52 : x113_23 = true
                              · subst c52
                                have H1 : (some false) = some r := by rw [if_pos rfl] at H; exact H
                                clear H
                                have H := H1
                                clear H1
                                exact Bool.noConfusion ((Option.some.inj H).trans hr_.out)
                              · replace c52 := Bool.eq_false_iff.mpr c52
                                subst c52
                                have H1 : (if x7_2.length < 17592186044416 then ((some (x7_2 ++ [t191] : List Int)).bind fun y196 => (fourinhandlaw11_RateBest.l1 kj23 l0 l1 y196 x8_2 0 (wrap64 ((y196.length : Int) - 1)) t186 t187 t188)) else (none)) = some r := by rw [if_neg (show ¬ (false = true) by decide)] at H; exact H
                                clear H
                                have H := H1
                                clear H1
                                by_cases c53 : x7_2.length < 17592186044416
                                · rw [if_pos c53] at H
                                  have LMc53 := Aside0.mk c53
                                  clear c53
                                  obtain ⟨y196, hy196⟩ : ∃ y_ : List Int, y_ = (x7_2 ++ [t191]) := ⟨_, rfl⟩
                                  replace H : (fourinhandlaw11_RateBest.l1 kj23 l0 l1 y196 x8_2 0 (wrap64 ((y196.length : Int) - 1)) t186 t187 t188) = some r := by first | (rw [hy196]; with_reducible exact H) | (have H2_ := (Option.bind_some _ _).symm.trans H; rw [hy196]; with_reducible exact H2_) | (have H2_ := (Option.bind_some _ _).symm.trans H; with_reducible exact H2_) | with_reducible exact H | (rw [hy196]; exact H) | exact H
                                  have Ny196 := Aside0.mk hy196
                                  clear hy196
                                  have H' := Aside0.mk H
                                  clear H
                                  have hnb54 := NB193_172.out
                                  have hnc54 := NB172_193.out
                                  have hnb55 := NB193_185.out
                                  have hnc55 := NB185_193.out
                                  have hcz56_0 : wc.cell? ⟨gb193, 0, none⟩ = some (.int .i64 t186) := (blk_cell BK193.out 0).trans rfl
                                  have hcz56_1 : wc.cell? ⟨gb193, 1, none⟩ = some (.int .i64 t187) := (blk_cell BK193.out 1).trans rfl
                                  have hcz56_2 : wc.cell? ⟨gb193, 2, none⟩ = some (.slice Ao42 t188.length co42) := (blk_cell BK193.out 2).trans rfl
                                  have hfz56_0 := blk_frozen BK193.out 0
                                  have hfz56_1 := blk_frozen BK193.out 1
                                  have hfz56_2 := blk_frozen BK193.out 2
                                  have hnb57 := NB172_185.out
                                  have hnc57 := NB185_172.out
                                  have hcz58_0 : wc.cell? ⟨gb172, 0, none⟩ = some (.int .i64 x173000_2) := (blk_cell BK172.out 0).trans rfl
                                  have hcz58_1 : wc.cell? ⟨gb172, 1, none⟩ = some (.int .i64 x173001_2) := (blk_cell BK172.out 1).trans rfl
                                  have hcz58_2 : wc.cell? ⟨gb172, 2, none⟩ = some (.slice Ao26 x173002_2.length co26) := (blk_cell BK172.out 2).trans rfl
                                  have hfz58_0 := blk_frozen BK172.out 0
                                  have hfz58_1 := blk_frozen BK172.out 1
                                  have hfz58_2 := blk_frozen BK172.out 2
                                  go_wp2_with (first | ((with_reducible refine gate_builtin (b := .append) (xs := #[.tmp 115, .tmp 117]) rfl ?_); (try (refine gate_guard (by rfl) ?_; dsimp only)); at_builtin; refine Kd.R_append (Kd.int .i64) (w0 := w) w.heap.size rfl (.tmp 115) (.tmp 117) 22 3 (.int .i64 0) 8 rfl Try.underlying22 info3 rfl (by decide) (by omega) u7 x7_2 t191 [.int .i64 t191] (fun k_ => some k_ ≠ (.slice Ao26 x173002_2.length co26 : Value).ownBlock ∧ some k_ ≠ (.slice Ao33 t181.length co33 : Value).ownBlock ∧ some k_ ≠ (.slice Ao42 t188.length co42 : Value).ownBlock) (fun _ => False) rfl (by first | (go_simp; done) | (go_simp; rfl)) ?aP (fun _ hk => hk.elim) ?aF ?aO ?aB ?aS ?aL ?_; (case aP => exact rfl); (case aB => exact (by repeat (first | (with_reducible first | exact HB.out | apply below_alloc | apply pw_below_drewN | apply below_drew1 | refine below_set ?_ GE172.out | refine below_set ?_ GE185.out | refine below_set ?_ GE193.out) | exact HB.out))); (case aF => exact (fun k_ hk => ⟨Kd.fresh' (Kd.Q_lt (by (with_reducible repeat (first | apply Kd.Q_alloc | apply Kd.Q_drewN | apply Kd.Q_drew)); exact (Kd.Q_mono (Kd.Q_far (p := ⟨gb172, 2, none⟩) (Kd.Q_far (p := ⟨gb172, 1, none⟩) (Kd.Q_far (p := ⟨gb172, 0, none⟩) (Kd.Q_types HO_173002.out BK172.out (by decide)) (fun _ hk => hk.2) (.int .i64 t186)) (fun _ hk => hk.2) (.int .i64 t187)) (fun _ hk => hk.2) (.slice Ao42 t188.length co42)) (fun _ h_ => h_.1)))) k_ hk, Kd.fresh' (Kd.Q_lt (by (with_reducible repeat (first | apply Kd.Q_alloc | apply Kd.Q_drewN | apply Kd.Q_drew)); exact (Kd.Q_mono (Kd.Q_far (p := ⟨gb172, 2, none⟩) (Kd.Q_far (p := ⟨gb172, 1, none⟩) (Kd.Q_far (p := ⟨gb172, 0, none⟩) (Kd.Q_types HO_186002.out BK172.out (by decide)) (fun _ hk => hk.2) (.int .i64 t186)) (fun _ hk => hk.2) (.int .i64 t187)) (fun _ hk => hk.2) (.slice Ao42 t188.length co42)) (fun _ h_ => h_.1)))) k_ hk, Kd.fresh' (Kd.Q_lt (by (with_reducible repeat (first | apply Kd.Q_alloc | apply Kd.Q_drewN | apply Kd.Q_drew)); exact (Kd.Q_mono (Kd.Q_far (p := ⟨gb172, 2, none⟩) (Kd.Q_far (p := ⟨gb172, 1, none⟩) (Kd.Q_far (p := ⟨gb172, 0, none⟩) (Kd.Q_types HO_194002.out BK172.out (by decide)) (fun _ hk => hk.2) (.int .i64 t186)) (fun _ hk => hk.2) (.int .i64 t187)) (fun _ hk => hk.2) (.slice Ao42 t188.length co42)) (fun _ h_ => h_.1)))) k_ hk⟩)); (case aO => exact (by (with_reducible repeat (first | apply Kd.R_alloc | apply Kd.R_drewN | apply Kd.R_drew)); exact Kd.R_mono (Kd.R_far (p := ⟨gb172, 2, none⟩) (Kd.R_far (p := ⟨gb172, 1, none⟩) (Kd.R_far (p := ⟨gb172, 0, none⟩) (Kd.R_types HO_7.out BK172.out (by decide)) (fun _ hk => hk.2) (.int .i64 t186)) (fun _ hk => hk.2) (.int .i64 t187)) (fun _ hk => hk.2) (.slice Ao42 t188.length co42)) (fun _ hk => ⟨hk.1.1, ⟨hk.1.2.1, hk.1.2.2⟩⟩))); (case aS => exact (below_size (by repeat (first | (with_reducible first | exact HB.out | apply below_alloc | apply pw_below_drewN | apply below_drew1 | refine below_set ?_ GE172.out | refine below_set ?_ GE185.out | refine below_set ?_ GE193.out) | exact HB.out)))); (case aL => have := LMc53.out; omega); intro v197 w59 ho hb hg hat; rw [← Ny196.out] at ho; have n0_ := Aside0.mk (Kd.Q_after (ok := (fun k_ => some k_ ≠ (.slice Ao33 t181.length co33 : Value).ownBlock ∧ some k_ ≠ (.slice Ao42 t188.length co42 : Value).ownBlock)) (by (with_reducible repeat (first | apply Kd.Q_alloc | apply Kd.Q_drewN | apply Kd.Q_drew)); exact Kd.Q_mono (Kd.Q_far (p := ⟨gb172, 2, none⟩) (Kd.Q_far (p := ⟨gb172, 1, none⟩) (Kd.Q_far (p := ⟨gb172, 0, none⟩) (Kd.Q_types HO_173002.out BK172.out (by decide)) (fun _ hk => hk.2) (.int .i64 t186)) (fun _ hk => hk.2) (.int .i64 t187)) (fun _ hk => hk.2) (.slice Ao42 t188.length co42)) (fun _ hk => ⟨⟨hk.1.2.1, hk.1.2.2⟩, hk.1.1⟩)) hg hat); have n1_ := Aside0.mk (Kd.Q_after (ok := (fun k_ => some k_ ≠ (.slice Ao26 x173002_2.length co26 : Value).ownBlock ∧ some k_ ≠ (.slice Ao42 t188.length co42 : Value).ownBlock)) (by (with_reducible repeat (first | apply Kd.Q_alloc | apply Kd.Q_drewN | apply Kd.Q_drew)); exact Kd.Q_mono (Kd.Q_far (p := ⟨gb172, 2, none⟩) (Kd.Q_far (p := ⟨gb172, 1, none⟩) (Kd.Q_far (p := ⟨gb172, 0, none⟩) (Kd.Q_types HO_186002.out BK172.out (by decide)) (fun _ hk => hk.2) (.int .i64 t186)) (fun _ hk => hk.2) (.int .i64 t187)) (fun _ hk => hk.2) (.slice Ao42 t188.length co42)) (fun _ hk => ⟨⟨hk.1.2.1, hk.1.2.2⟩, hk.1.1⟩)) hg hat); have n2_ := Aside0.mk (Kd.Q_after (ok := (fun k_ => some k_ ≠ (.slice Ao26 x173002_2.length co26 : Value).ownBlock ∧ some k_ ≠ (.slice Ao33 t181.length co33 : Value).ownBlock)) (by (with_reducible repeat (first | apply Kd.Q_alloc | apply Kd.Q_drewN | apply Kd.Q_drew)); exact Kd.Q_mono (Kd.Q_far (p := ⟨gb172, 2, none⟩) (Kd.Q_far (p := ⟨gb172, 1, none⟩) (Kd.Q_far (p := ⟨gb172, 0, none⟩) (Kd.Q_types HO_194002.out BK172.out (by decide)) (fun _ hk => hk.2) (.int .i64 t186)) (fun _ hk => hk.2) (.int .i64 t187)) (fun _ hk => hk.2) (.slice Ao42 t188.length co42)) (fun _ hk => ⟨⟨hk.1.2.1, hk.1.2.2⟩, hk.1.1⟩)) hg hat); have n3_ := Aside0.mk (blk_grown (g := gb172) (o := .cells #[.int .i64 t186, .int .i64 t187, .slice Ao42 t188.length co42] 24 (0, 0)) (by (with_reducible repeat (first | refine blk_drewN ?_ _ | refine blk_drew ?_ | refine blk_alloc ?_ _)); refine blk_put (cs := #[.int .i64 t186, .int .i64 t187, .slice Ao26 x173002_2.length co26]) ?_ 2 _ rfl; (with_reducible repeat (first | refine blk_drewN ?_ _ | refine blk_drew ?_ | refine blk_alloc ?_ _)); refine blk_put (cs := #[.int .i64 t186, .int .i64 x173001_2, .slice Ao26 x173002_2.length co26]) ?_ 1 _ rfl; (with_reducible repeat (first | refine blk_drewN ?_ _ | refine blk_drew ?_ | refine blk_alloc ?_ _)); refine blk_put (cs := #[.int .i64 x173000_2, .int .i64 x173001_2, .slice Ao26 x173002_2.length co26]) ?_ 0 _ rfl; (with_reducible repeat (first | refine blk_drewN ?_ _ | refine blk_drew ?_ | refine blk_alloc ?_ _)); exact BK172.out) hg (Kd.R_ne HO_7.out BK172.out (by decide))); have n4_ := Aside0.mk (blk_grown (g := gb185) (o := .cells #[.int .i64 t179, .int .i64 t180, .slice Ao33 t181.length co33] 24 (0, 0)) (by (with_reducible repeat (first | refine blk_drewN ?_ _ | refine blk_drew ?_ | refine blk_alloc ?_ _)); refine blk_far ?_ NB185_172.out _; (with_reducible repeat (first | refine blk_drewN ?_ _ | refine blk_drew ?_ | refine blk_alloc ?_ _)); refine blk_far ?_ NB185_172.out _; (with_reducible repeat (first | refine blk_drewN ?_ _ | refine blk_drew ?_ | refine blk_alloc ?_ _)); refine blk_far ?_ NB185_172.out _; (with_reducible repeat (first | refine blk_drewN ?_ _ | refine blk_drew ?_ | refine blk_alloc ?_ _)); exact BK185.out) hg (Kd.R_ne HO_7.out BK185.out (by decide))); have n5_ := Aside0.mk (blk_grown (g := gb193) (o := .cells #[.int .i64 t186, .int .i64 t187, .slice Ao42 t188.length co42] 24 (0, 0)) (by (with_reducible repeat (first | refine blk_drewN ?_ _ | refine blk_drew ?_ | refine blk_alloc ?_ _)); refine blk_far ?_ NB193_172.out _; (with_reducible repeat (first | refine blk_drewN ?_ _ | refine blk_drew ?_ | refine blk_alloc ?_ _)); refine blk_far ?_ NB193_172.out _; (with_reducible repeat (first | refine blk_drewN ?_ _ | refine blk_drew ?_ | refine blk_alloc ?_ _)); refine blk_far ?_ NB193_172.out _; (with_reducible repeat (first | refine blk_drewN ?_ _ | refine blk_drew ?_ | refine blk_alloc ?_ _)); exact BK193.out) hg (Kd.R_ne HO_7.out BK193.out (by decide))); have n6_ := Aside0.mk (hb); have n7_ := Aside0.mk (ho); clear HO_173002; clear HO_186002; clear HO_194002; clear BK172; clear BK185; clear BK193; clear HB; clear HO_7; have HO_173002 := n0_; have HO_186002 := n1_; have HO_194002 := n2_; have BK172 := n3_; have BK185 := n4_; have BK193 := n5_; have HB := n6_; have HO198 := n7_; clear n0_ n1_ n2_ n3_ n4_ n5_ n6_ n7_; clear ho hb hg hat; obtain ⟨Ao60, co60, eo60⟩ := Kd.R_slice HO198.out; subst eo60))
                                  go_loopg [16, 17] kj23 (fun kq v16 v17 w' => ∃ (x16_5 : Int) (x17_5 : Int), v16 = .int .i64 x16_5 ∧ v17 = .int .i64 x17_5 ∧ Aside0 (fourinhandlaw11_RateBest.l1 kq l0 l1 y196 x8_2 x16_5 x17_5 t186 t187 t188 = some r) ∧ Aside0 (kq ≤ kj23) ∧ Aside0 (Kd.R (Kd.int .i64) 3 w' w.heap.size (fun k_ => some k_ ≠ ((.slice Ao42 t188.length co42) : Value).ownBlock ∧ some k_ ≠ ((.slice Ao33 t181.length co33) : Value).ownBlock ∧ some k_ ≠ ((.slice Ao42 t188.length co42) : Value).ownBlock) (.slice Ao60 y196.length co60) y196) ∧ Aside0 (Kd.Q (Kd.int .i64) 3 w' w.heap.size (fun k_ => some k_ ≠ ((.slice Ao60 y196.length co60) : Value).ownBlock ∧ some k_ ≠ ((.slice Ao33 t181.length co33) : Value).ownBlock) (.slice Ao42 t188.length co42) t188) ∧ Aside0 (Kd.Q (Kd.int .i64) 3 w' w.heap.size (fun k_ => some k_ ≠ ((.slice Ao60 y196.length co60) : Value).ownBlock ∧ some k_ ≠ ((.slice Ao42 t188.length co42) : Value).ownBlock ∧ some k_ ≠ ((.slice Ao42 t188.length co42) : Value).ownBlock) (.slice Ao33 t181.length co33) t181) ∧ Aside0 (Kd.Q (Kd.int .i64) 3 w' w.heap.size (fun k_ => some k_ ≠ ((.slice Ao60 y196.length co60) : Value).ownBlock ∧ some k_ ≠ ((.slice Ao33 t181.length co33) : Value).ownBlock) (.slice Ao42 t188.length co42) t188) ∧ Aside0 (w'.heap[gb172]? = some (.cells #[.int .i64 t186, .int .i64 t187, (.slice Ao42 t188.length co42)] 24 (0, 0))) ∧ Aside0 (w'.heap[gb185]? = some (.cells #[.int .i64 t179, .int .i64 t180, (.slice Ao33 t181.length co33)] 24 (0, 0))) ∧ Aside0 (w'.heap[gb193]? = some (.cells #[.int .i64 t186, .int .i64 t187, (.slice Ao42 t188.length co42)] 24 (0, 0))) ∧ Aside0 (Below w.heap.size w w'))
                                  case atStart => exact ⟨(0), (wrap64 ((y196.length : Int) - 1)), (by first | rfl | (simp; done) | (simp [*]; done)), (by first | rfl | (simp; done) | (simp [*]; done)), H', ⟨Nat.le_refl _⟩, ⟨by (with_reducible repeat (first | apply Kd.R_alloc | apply Kd.R_drewN | apply Kd.R_drew)); exact Kd.R_mono HO198.out (fun _ hk => ⟨hk.2.2, ⟨hk.2.1, hk.2.2⟩⟩)⟩, ⟨by (with_reducible repeat (first | apply Kd.Q_alloc | apply Kd.Q_drewN | apply Kd.Q_drew)); exact Kd.Q_mono HO_194002.out (fun _ hk => ⟨hk.2, hk.1.2⟩)⟩, ⟨by (with_reducible repeat (first | apply Kd.Q_alloc | apply Kd.Q_drewN | apply Kd.Q_drew)); exact Kd.Q_mono HO_186002.out (fun _ hk => ⟨hk.2, ⟨hk.1.2, hk.1.2⟩⟩)⟩, ⟨by (with_reducible repeat (first | apply Kd.Q_alloc | apply Kd.Q_drewN | apply Kd.Q_drew)); exact Kd.Q_mono HO_194002.out (fun _ hk => ⟨hk.2, hk.1.2⟩)⟩, ⟨by (with_reducible repeat (first | refine blk_drewN ?_ _ | refine blk_drew ?_ | refine blk_alloc ?_ _)); exact BK172.out⟩, ⟨by (with_reducible repeat (first | refine blk_drewN ?_ _ | refine blk_drew ?_ | refine blk_alloc ?_ _)); exact BK185.out⟩, ⟨by (with_reducible repeat (first | refine blk_drewN ?_ _ | refine blk_drew ?_ | refine blk_alloc ?_ _)); exact BK193.out⟩, ⟨by repeat (first | (with_reducible first | exact HB.out | apply below_alloc | apply pw_below_drewN | apply below_drew1 | refine below_set ?_ GE172.out | refine below_set ?_ GE185.out | refine below_set ?_ GE193.out) | exact HB.out)⟩⟩
                                  case round =>
                                    clear H'
                                    try clear p1
                                    try clear q1
                                    try clear hx1
                                    try clear p2
                                    try clear c4
                                    try clear c5
                                    try clear p6
                                    try clear p19
                                    try clear q19
                                    try clear hx19
                                    try clear c43
                                    try clear c43b0
                                    try clear c43b1
                                    try clear c44
                                    try clear c44b0
                                    try clear c44b1
                                    try clear c45
                                    try clear c45b0
                                    try clear c45b1
                                    try clear c52
                                    try clear c53
                                    try clear c54
                                    try clear c55
                                    try clear c57
                                    try clear hcz56_0
                                    try clear hcz56_1
                                    try clear hcz56_2
                                    try clear hcz58_0
                                    try clear hcz58_1
                                    try clear hcz58_2
                                    try clear hfz56_0
                                    try clear hfz56_1
                                    try clear hfz56_2
                                    try clear hfz58_0
                                    try clear hfz58_1
                                    try clear hfz58_2
                                    try clear hx194_0
                                    try clear hx195_0
                                    try clear p1
                                    try clear p19
                                    try clear p194
                                    try clear p195
                                    try clear p2
                                    try clear p6
                                    try clear q1
                                    try clear q19
                                    try clear q194
                                    try clear q195
                                    obtain ⟨x16_5, x17_5, rfl, rfl, HA, HK5, HO_7, HO_173002, HO_186002, HO_194002, BK172, BK185, BK193, HB⟩ := hrel
                                    cases gk with
                                    | zero => exact absurd HA.out (by simp [fourinhandlaw11_RateBest.l1])
                                    | succ k5 =>
                                      have H := HA.out
                                      clear HA
                                      simp only [fourinhandlaw11_RateBest.l1] at H
                                      have HC61 := Aside0.mk H
                                      clear H
                                      go_upto_region 21 with (fail)
                                      go_cut [130] (fun v130 wc => ∃ (kq : Nat) (x130_60 : Bool), v130 = .bool x130_60 ∧ Aside0 (fourinhandlaw11_RateBest.j5 kq l0 l1 y196 x8_2 x16_5 x17_5 x130_60 t186 t187 t188 = some r) ∧ Aside0 (kq ≤ k5) ∧ Aside0 (Kd.R (Kd.int .i64) 3 wc w.heap.size (fun k_ => some k_ ≠ ((.slice Ao42 t188.length co42) : Value).ownBlock ∧ some k_ ≠ ((.slice Ao33 t181.length co33) : Value).ownBlock ∧ some k_ ≠ ((.slice Ao42 t188.length co42) : Value).ownBlock) (.slice Ao60 y196.length co60) y196) ∧ Aside0 (Kd.Q (Kd.int .i64) 3 wc w.heap.size (fun k_ => some k_ ≠ ((.slice Ao60 y196.length co60) : Value).ownBlock ∧ some k_ ≠ ((.slice Ao33 t181.length co33) : Value).ownBlock) (.slice Ao42 t188.length co42) t188) ∧ Aside0 (Kd.Q (Kd.int .i64) 3 wc w.heap.size (fun k_ => some k_ ≠ ((.slice Ao60 y196.length co60) : Value).ownBlock ∧ some k_ ≠ ((.slice Ao42 t188.length co42) : Value).ownBlock ∧ some k_ ≠ ((.slice Ao42 t188.length co42) : Value).ownBlock) (.slice Ao33 t181.length co33) t181) ∧ Aside0 (Kd.Q (Kd.int .i64) 3 wc w.heap.size (fun k_ => some k_ ≠ ((.slice Ao60 y196.length co60) : Value).ownBlock ∧ some k_ ≠ ((.slice Ao33 t181.length co33) : Value).ownBlock) (.slice Ao42 t188.length co42) t188) ∧ Aside0 (wc.heap[gb172]? = some (.cells #[.int .i64 t186, .int .i64 t187, (.slice Ao42 t188.length co42)] 24 (0, 0))) ∧ Aside0 (wc.heap[gb185]? = some (.cells #[.int .i64 t179, .int .i64 t180, (.slice Ao33 t181.length co33)] 24 (0, 0))) ∧ Aside0 (wc.heap[gb193]? = some (.cells #[.int .i64 t186, .int .i64 t187, (.slice Ao42 t188.length co42)] 24 (0, 0))) ∧ Aside0 (Below w.heap.size w wc))
                                      case first =>
                                        have H := HC61.out
                                        clear HC61
                                        by_cases c62 : x17_5 ≥ 0
                                        · rw [if_pos c62] at H
                                          have c62b0 : decide (0 ≤ x17_5) = true := decide_eq_true c62
                                          clear c62
                                          (first | rw [c62b0] | (simp only [i64_w, i32_w]; rw [c62b0]) | skip)
                                          have H' := Aside0.mk H
                                          clear H
                                          go_wp2
                                          go_meet
                                          case rel => exact ⟨_, (decide (x17_5 ≥ (wrap64 ((y196.length : Int) - 10)))), (by first | rfl | (simp; done) | (simp [*]; done)), H', ⟨by have := HJ3.out; have := HK2.out; have := HJ11.out; have := HJ23.out; have := HK5.out; first | omega | exact Nat.le_refl _⟩, ⟨by (with_reducible repeat (first | apply Kd.R_alloc | apply Kd.R_drewN | apply Kd.R_drew)); exact HO_7.out⟩, ⟨by (with_reducible repeat (first | apply Kd.Q_alloc | apply Kd.Q_drewN | apply Kd.Q_drew)); exact HO_173002.out⟩, ⟨by (with_reducible repeat (first | apply Kd.Q_alloc | apply Kd.Q_drewN | apply Kd.Q_drew)); exact HO_186002.out⟩, ⟨by (with_reducible repeat (first | apply Kd.Q_alloc | apply Kd.Q_drewN | apply Kd.Q_drew)); exact HO_194002.out⟩, ⟨by (with_reducible repeat (first | refine blk_drewN ?_ _ | refine blk_drew ?_ | refine blk_alloc ?_ _)); exact BK172.out⟩, ⟨by (with_reducible repeat (first | refine blk_drewN ?_ _ | refine blk_drew ?_ | refine blk_alloc ?_ _)); exact BK185.out⟩, ⟨by (with_reducible repeat (first | refine blk_drewN ?_ _ | refine blk_drew ?_ | refine blk_alloc ?_ _)); exact BK193.out⟩, ⟨by repeat (first | (with_reducible first | exact HB.out | apply below_alloc | apply pw_below_drewN | apply below_drew1 | refine below_set ?_ GE172.out | refine below_set ?_ GE185.out | refine below_set ?_ GE193.out) | exact HB.out)⟩⟩
                                        · rw [if_neg c62] at H
                                          have c62b0 : decide (0 ≤ x17_5) = false := decide_eq_false c62
                                          clear c62
                                          (first | rw [c62b0] | (simp only [i64_w, i32_w]; rw [c62b0]) | skip)
                                          have H' := Aside0.mk H
                                          clear H
                                          go_wp2
                                          go_meet
                                          case rel => exact ⟨_, (false), (by first | rfl | (simp; done) | (simp [*]; done)), H', ⟨by have := HJ3.out; have := HK2.out; have := HJ11.out; have := HJ23.out; have := HK5.out; first | omega | exact Nat.le_refl _⟩, ⟨by (with_reducible repeat (first | apply Kd.R_alloc | apply Kd.R_drewN | apply Kd.R_drew)); exact HO_7.out⟩, ⟨by (with_reducible repeat (first | apply Kd.Q_alloc | apply Kd.Q_drewN | apply Kd.Q_drew)); exact HO_173002.out⟩, ⟨by (with_reducible repeat (first | apply Kd.Q_alloc | apply Kd.Q_drewN | apply Kd.Q_drew)); exact HO_186002.out⟩, ⟨by (with_reducible repeat (first | apply Kd.Q_alloc | apply Kd.Q_drewN | apply Kd.Q_drew)); exact HO_194002.out⟩, ⟨by (with_reducible repeat (first | refine blk_drewN ?_ _ | refine blk_drew ?_ | refine blk_alloc ?_ _)); exact BK172.out⟩, ⟨by (with_reducible repeat (first | refine blk_drewN ?_ _ | refine blk_drew ?_ | refine blk_alloc ?_ _)); exact BK185.out⟩, ⟨by (with_reducible repeat (first | refine blk_drewN ?_ _ | refine blk_drew ?_ | refine blk_alloc ?_ _)); exact BK193.out⟩, ⟨by repeat (first | (with_reducible first | exact HB.out | apply below_alloc | apply pw_below_drewN | apply below_drew1 | refine below_set ?_ GE172.out | refine below_set ?_ GE185.out | refine below_set ?_ GE193.out) | exact HB.out)⟩⟩
                                      case rest =>
                                        clear HC61
                                        try clear p1
                                        try clear q1
                                        try clear hx1
                                        try clear p2
                                        try clear c4
                                        try clear c5
                                        try clear c6
                                        try clear p6
                                        try clear p19
                                        try clear q19
                                        try clear hx19
                                        try clear c43
                                        try clear c43b0
                                        try clear c43b1
                                        try clear c44
                                        try clear c44b0
                                        try clear c44b1
                                        try clear c45
                                        try clear c45b0
                                        try clear c45b1
                                        try clear c52
                                        try clear c53
                                        try clear c54
                                        try clear c55
                                        try clear c57
                                        try clear c62
                                        try clear c62b0
                                        try clear hcz56_0
                                        try clear hcz56_1
                                        try clear hcz56_2
                                        try clear hcz58_0
                                        try clear hcz58_1
                                        try clear hcz58_2
                                        try clear hfz56_0
                                        try clear hfz56_1
                                        try clear hfz56_2
                                        try clear hfz58_0
                                        try clear hfz58_1
                                        try clear hfz58_2
                                        try clear hx194_0
                                        try clear hx195_0
                                        try clear p1
                                        try clear p19
                                        try clear p194
                                        try clear p195
                                        try clear p2
                                        try clear p6
                                        try clear q1
                                        try clear q19
                                        try clear q194
                                        try clear q195
                                        obtain ⟨kq, x130_60, rfl, HA, HJ60, HO_7, HO_173002, HO_186002, HO_194002, BK172, BK185, BK193, HB⟩ := hcut
                                        cases kq with
                                        | zero => exact absurd HA.out (by simp [fourinhandlaw11_RateBest.j5])
                                        | succ kj60 =>
                                          have H := HA.out
                                          clear HA
                                          simp only [fourinhandlaw11_RateBest.j5] at H
                                          by_cases c63 : x130_60 = true
                                          · subst c63
                                            have H1 : (if 0 ≤ x17_5 then (if x17_5 < (y196.length : Int) then (if (rd y196 x17_5) > x16_5 then (fourinhandlaw11_RateBest.l1 kj60 l0 l1 y196 x8_2 (rd y196 x17_5) (wrap64 (x17_5 - 1)) t186 t187 t188) else (fourinhandlaw11_RateBest.l1 kj60 l0 l1 y196 x8_2 x16_5 (wrap64 (x17_5 - 1)) t186 t187 t188)) else (none)) else (none)) = some r := by rw [if_pos rfl] at H; exact H
                                            clear H
                                            have H := H1
                                            clear H1
                                            by_cases c64 : 0 ≤ x17_5
                                            · rw [if_pos c64] at H
                                              have c64b0 : decide (0 ≤ x17_5) = true := decide_eq_true c64
                                              clear c64
                                              by_cases c65 : x17_5 < (y196.length : Int)
                                              · rw [if_pos c65] at H
                                                have c65b0 : decide (x17_5 < (y196.length : Int)) = true := decide_eq_true c65
                                                clear c65
                                                by_cases c66 : (rd y196 x17_5) > x16_5
                                                · rw [if_pos c66] at H
                                                  have c66b0 : decide (x16_5 < (rd y196 x17_5)) = true := decide_eq_true c66
                                                  clear c66
                                                  have H' := Aside0.mk H
                                                  clear H
                                                  have p199 : 0 ≤ (x17_5 : Int) := of_decide_eq_true (by first | (with_reducible assumption) | assumption)
                                                  have q199 : x17_5 < (y196.length : Int) := of_decide_eq_true (by first | (with_reducible assumption) | assumption)
                                                  obtain ⟨ad199, e199, hx199_0⟩ := Kd.at_int (Kd.R_reads' HO_7.out).2.2 x17_5 p199 q199
                                                  cases e199
                                                  replace p199 := eq_true p199
                                                  replace q199 := eq_true q199
                                                  have p200 : 0 ≤ (x17_5 : Int) := of_decide_eq_true (by first | (with_reducible assumption) | assumption)
                                                  have q200 : x17_5 < (y196.length : Int) := of_decide_eq_true (by first | (with_reducible assumption) | assumption)
                                                  obtain ⟨ad200, e200, hx200_0⟩ := Kd.at_int (Kd.R_reads' HO_7.out).2.2 x17_5 p200 q200
                                                  obtain rfl : ad199 = ad200 := (by injection e200)
                                                  replace p200 := eq_true p200
                                                  replace q200 := eq_true q200
                                                  go_wp2
                                                  go_roundg kj60
                                                  case measure => have := HJ3.out; have := HK2.out; have := HJ11.out; have := HJ23.out; have := HK5.out; have := HJ60.out; omega
                                                  case rel => exact ⟨(rd y196 x17_5), (wrap64 (x17_5 - 1)), (by first | rfl | (simp; done) | (simp [*]; done)), (by first | rfl | (simp; done) | (simp [*]; done)), H', ⟨by have := HJ3.out; have := HK2.out; have := HJ11.out; have := HJ23.out; have := HK5.out; have := HJ60.out; omega⟩, ⟨by (with_reducible repeat (first | apply Kd.R_alloc | apply Kd.R_drewN | apply Kd.R_drew)); exact HO_7.out⟩, ⟨by (with_reducible repeat (first | apply Kd.Q_alloc | apply Kd.Q_drewN | apply Kd.Q_drew)); exact HO_173002.out⟩, ⟨by (with_reducible repeat (first | apply Kd.Q_alloc | apply Kd.Q_drewN | apply Kd.Q_drew)); exact HO_186002.out⟩, ⟨by (with_reducible repeat (first | apply Kd.Q_alloc | apply Kd.Q_drewN | apply Kd.Q_drew)); exact HO_194002.out⟩, ⟨by (with_reducible repeat (first | refine blk_drewN ?_ _ | refine blk_drew ?_ | refine blk_alloc ?_ _)); exact BK172.out⟩, ⟨by (with_reducible repeat (first | refine blk_drewN ?_ _ | refine blk_drew ?_ | refine blk_alloc ?_ _)); exact BK185.out⟩, ⟨by (with_reducible repeat (first | refine blk_drewN ?_ _ | refine blk_drew ?_ | refine blk_alloc ?_ _)); exact BK193.out⟩, ⟨by repeat (first | (with_reducible first | exact HB.out | apply below_alloc | apply pw_below_drewN | apply below_drew1 | refine below_set ?_ GE172.out | refine below_set ?_ GE185.out | refine below_set ?_ GE193.out) | exact HB.out)⟩⟩
                                                · rw [if_neg c66] at H
                                                  have c66b0 : decide (x16_5 < (rd y196 x17_5)) = false := decide_eq_false c66
                                                  clear c66
                                                  have H' := Aside0.mk H
                                                  clear H
                                                  have p199 : 0 ≤ (x17_5 : Int) := of_decide_eq_true (by first | (with_reducible assumption) | assumption)
                                                  have q199 : x17_5 < (y196.length : Int) := of_decide_eq_true (by first | (with_reducible assumption) | assumption)
                                                  obtain ⟨ad199, e199, hx199_0⟩ := Kd.at_int (Kd.R_reads' HO_7.out).2.2 x17_5 p199 q199
                                                  cases e199
                                                  replace p199 := eq_true p199
                                                  replace q199 := eq_true q199
                                                  go_wp2
                                                  go_roundg kj60
                                                  case measure => have := HJ3.out; have := HK2.out; have := HJ11.out; have := HJ23.out; have := HK5.out; have := HJ60.out; omega
                                                  case rel => exact ⟨(x16_5), (wrap64 (x17_5 - 1)), (by first | rfl | (simp; done) | (simp [*]; done)), (by first | rfl | (simp; done) | (simp [*]; done)), H', ⟨by have := HJ3.out; have := HK2.out; have := HJ11.out; have := HJ23.out; have := HK5.out; have := HJ60.out; omega⟩, ⟨by (with_reducible repeat (first | apply Kd.R_alloc | apply Kd.R_drewN | apply Kd.R_drew)); exact HO_7.out⟩, ⟨by (with_reducible repeat (first | apply Kd.Q_alloc | apply Kd.Q_drewN | apply Kd.Q_drew)); exact HO_173002.out⟩, ⟨by (with_reducible repeat (first | apply Kd.Q_alloc | apply Kd.Q_drewN | apply Kd.Q_drew)); exact HO_186002.out⟩, ⟨by (with_reducible repeat (first | apply Kd.Q_alloc | apply Kd.Q_drewN | apply Kd.Q_drew)); exact HO_194002.out⟩, ⟨by (with_reducible repeat (first | refine blk_drewN ?_ _ | refine blk_drew ?_ | refine blk_alloc ?_ _)); exact BK172.out⟩, ⟨by (with_reducible repeat (first | refine blk_drewN ?_ _ | refine blk_drew ?_ | refine blk_alloc ?_ _)); exact BK185.out⟩, ⟨by (with_reducible repeat (first | refine blk_drewN ?_ _ | refine blk_drew ?_ | refine blk_alloc ?_ _)); exact BK193.out⟩, ⟨by repeat (first | (with_reducible first | exact HB.out | apply below_alloc | apply pw_below_drewN | apply below_drew1 | refine below_set ?_ GE172.out | refine below_set ?_ GE185.out | refine below_set ?_ GE193.out) | exact HB.out)⟩⟩
                                              · rw [if_neg c65] at H
                                                exact absurd H (by simp)
                                            · rw [if_neg c64] at H
                                              exact absurd H (by simp)
                                          · replace c63 := Bool.eq_false_iff.mpr c63
                                            subst c63
                                            have H1 : ((rate_Best.f kj60 t186 t187 t188).bind fun t201 => (if t201 = x16_5 then ((rate_May.f kj60 t186 t187 t188).bind fun t202 => (if t202 = true then (fourinhandlaw11_RateBest.l0 kj60 l0 l1 y196 (wrap64 (x8_2 + 1)) t186 t187 t188) else (some false))) else (some false))) = some r := by rw [if_neg (show ¬ (false = true) by decide)] at H; exact H
                                            clear H
                                            have H := H1
                                            clear H1
                                            replace H := Option.bind_eq_some_iff.mp H
                                            obtain ⟨t201, A670, H⟩ := H
                                            replace H : (if t201 = x16_5 then ((rate_May.f kj60 t186 t187 t188).bind fun t202 => (if t202 = true then (fourinhandlaw11_RateBest.l0 kj60 l0 l1 y196 (wrap64 (x8_2 + 1)) t186 t187 t188) else (some false))) else (some false)) = some r := H
                                            have A67 := Aside0.mk A670
                                            clear A670
                                            by_cases c68 : t201 = x16_5
                                            · rw [if_pos c68] at H
                                              have c68b0 : (t201 == x16_5) = true := beq_iff_eq.mpr c68
                                              have c68b1 : (t201 != x16_5) = false := bne_eq_false_iff_eq.mpr c68
                                              clear c68
                                              replace H := Option.bind_eq_some_iff.mp H
                                              obtain ⟨t202, A690, H⟩ := H
                                              replace H : (if t202 = true then (fourinhandlaw11_RateBest.l0 kj60 l0 l1 y196 (wrap64 (x8_2 + 1)) t186 t187 t188) else (some false)) = some r := H
                                              have A69 := Aside0.mk A690
                                              clear A690
                                              by_cases c70 : t202 = true
                                              · subst c70
                                                have H1 : (fourinhandlaw11_RateBest.l0 kj60 l0 l1 y196 (wrap64 (x8_2 + 1)) t186 t187 t188) = some r := by rw [if_pos rfl] at H; exact H
                                                clear H
                                                have H := H1
                                                clear H1
                                                have H' := Aside0.mk H
                                                clear H
                                                have hnb71 := NB172_185.out
                                                have hnc71 := NB185_172.out
                                                have hnb72 := NB172_193.out
                                                have hnc72 := NB193_172.out
                                                have hcz73_0 : wc.cell? ⟨gb172, 0, none⟩ = some (.int .i64 t186) := (blk_cell BK172.out 0).trans rfl
                                                have hcz73_1 : wc.cell? ⟨gb172, 1, none⟩ = some (.int .i64 t187) := (blk_cell BK172.out 1).trans rfl
                                                have hcz73_2 : wc.cell? ⟨gb172, 2, none⟩ = some (.slice Ao42 t188.length co42) := (blk_cell BK172.out 2).trans rfl
                                                have hfz73_0 := blk_frozen BK172.out 0
                                                have hfz73_1 := blk_frozen BK172.out 1
                                                have hfz73_2 := blk_frozen BK172.out 2
                                                go_wp2_with (first | ((with_reducible refine gate_callee (f := 15) rfl ?_); refine goesL_ (some 144) rfl rfl Try.func15 (by kernel_rfl) rfl #[.agg #[.int .i64 t186, .int .i64 t187, .slice Ao42 t188.length co42]] rfl (by (try simp only [List.map_toArray, List.map_cons, List.map_nil]); first | done | rfl | (simp only [List.length_drop, List.length_take]; rfl)) ?_; (with_reducible refine (rate_Best.calls kj60 t186 t187 _ _ t188 t201 _ ?side1 ?side2 A67.out).mono ?_); (case side1 => repeat (first | exact (Kd.Q_reads' HO_173002.out).2.2 | (with_reducible refine Kd.C_alloc ?_ _) | (with_reducible refine Kd.C_drewN ?_ _) | (with_reducible refine Kd.C_drew ?_))); (case side2 => exact (Kd.Q_reads' HO_173002.out).2.1); rintro e w74 ⟨rfl, hb⟩; refine ⟨_, rfl, ?_⟩; have n0_ := Aside0.mk (Kd.R_below (by (with_reducible repeat (first | apply Kd.R_alloc | apply Kd.R_drewN | apply Kd.R_drew)); exact HO_7.out) hb); have n1_ := Aside0.mk (Kd.Q_below (by (with_reducible repeat (first | apply Kd.Q_alloc | apply Kd.Q_drewN | apply Kd.Q_drew)); exact HO_173002.out) hb); have n2_ := Aside0.mk (Kd.Q_below (by (with_reducible repeat (first | apply Kd.Q_alloc | apply Kd.Q_drewN | apply Kd.Q_drew)); exact HO_186002.out) hb); have n3_ := Aside0.mk (Kd.Q_below (by (with_reducible repeat (first | apply Kd.Q_alloc | apply Kd.Q_drewN | apply Kd.Q_drew)); exact HO_194002.out) hb); have n4_ := Aside0.mk (blk_below (g := gb172) (o := .cells #[.int .i64 t186, .int .i64 t187, .slice Ao42 t188.length co42] 24 (0, 0)) (by (with_reducible repeat (first | refine blk_drewN ?_ _ | refine blk_drew ?_ | refine blk_alloc ?_ _)); exact BK172.out) hb); have n5_ := Aside0.mk (blk_below (g := gb185) (o := .cells #[.int .i64 t179, .int .i64 t180, .slice Ao33 t181.length co33] 24 (0, 0)) (by (with_reducible repeat (first | refine blk_drewN ?_ _ | refine blk_drew ?_ | refine blk_alloc ?_ _)); exact BK185.out) hb); have n6_ := Aside0.mk (blk_below (g := gb193) (o := .cells #[.int .i64 t186, .int .i64 t187, .slice Ao42 t188.length co42] 24 (0, 0)) (by (with_reducible repeat (first | refine blk_drewN ?_ _ | refine blk_drew ?_ | refine blk_alloc ?_ _)); exact BK193.out) hb); have n7_ := Aside0.mk (below_step (by repeat (first | (with_reducible first | exact HB.out | apply below_alloc | apply pw_below_drewN | apply below_drew1 | refine below_set ?_ GE172.out | refine below_set ?_ GE185.out | refine below_set ?_ GE193.out) | exact HB.out)) hb); clear HO_7; clear HO_173002; clear HO_186002; clear HO_194002; clear BK172; clear BK185; clear BK193; clear HB; have HO_7 := n0_; have HO_173002 := n1_; have HO_186002 := n2_; have HO_194002 := n3_; have BK172 := n4_; have BK185 := n5_; have BK193 := n6_; have HB := n7_; clear n0_ n1_ n2_ n3_ n4_ n5_ n6_ n7_; (try clear hb); (try clear hb2); (try clear hk); (try clear hi); have hcz75_0 : w74.cell? ⟨gb172, 0, none⟩ = some (.int .i64 t186) := (blk_cell BK172.out 0).trans rfl; have hcz75_1 : w74.cell? ⟨gb172, 1, none⟩ = some (.int .i64 t187) := (blk_cell BK172.out 1).trans rfl; have hcz75_2 : w74.cell? ⟨gb172, 2, none⟩ = some (.slice Ao42 t188.length co42) := (blk_cell BK172.out 2).trans rfl; have hfz75_0 := blk_frozen BK172.out 0; have hfz75_1 := blk_frozen BK172.out 1; have hfz75_2 := blk_frozen BK172.out 2) | (go_at_call 17; (with_reducible refine (rate_May.calls kj60 t186 t187 _ _ t188 true _ ?side1 ?side2 A69.out).mono ?_); (case side1 => repeat (first | exact (Kd.Q_reads' HO_173002.out).2.2 | (with_reducible refine Kd.C_alloc ?_ _) | (with_reducible refine Kd.C_drewN ?_ _) | (with_reducible refine Kd.C_drew ?_))); (case side2 => exact (Kd.Q_reads' HO_173002.out).2.1); rintro e w76 ⟨rfl, hb⟩; have n0_ := Aside0.mk (Kd.R_below (by (with_reducible repeat (first | apply Kd.R_alloc | apply Kd.R_drewN | apply Kd.R_drew)); exact HO_7.out) hb); have n1_ := Aside0.mk (Kd.Q_below (by (with_reducible repeat (first | apply Kd.Q_alloc | apply Kd.Q_drewN | apply Kd.Q_drew)); exact HO_173002.out) hb); have n2_ := Aside0.mk (Kd.Q_below (by (with_reducible repeat (first | apply Kd.Q_alloc | apply Kd.Q_drewN | apply Kd.Q_drew)); exact HO_186002.out) hb); have n3_ := Aside0.mk (Kd.Q_below (by (with_reducible repeat (first | apply Kd.Q_alloc | apply Kd.Q_drewN | apply Kd.Q_drew)); exact HO_194002.out) hb); have n4_ := Aside0.mk (blk_below (g := gb172) (o := .cells #[.int .i64 t186, .int .i64 t187, .slice Ao42 t188.length co42] 24 (0, 0)) (by (with_reducible repeat (first | refine blk_drewN ?_ _ | refine blk_drew ?_ | refine blk_alloc ?_ _)); exact BK172.out) hb); have n5_ := Aside0.mk (blk_below (g := gb185) (o := .cells #[.int .i64 t179, .int .i64 t180, .slice Ao33 t181.length co33] 24 (0, 0)) (by (with_reducible repeat (first | refine blk_drewN ?_ _ | refine blk_drew ?_ | refine blk_alloc ?_ _)); exact BK185.out) hb); have n6_ := Aside0.mk (blk_below (g := gb193) (o := .cells #[.int .i64 t186, .int .i64 t187, .slice Ao42 t188.length co42] 24 (0, 0)) (by (with_reducible repeat (first | refine blk_drewN ?_ _ | refine blk_drew ?_ | refine blk_alloc ?_ _)); exact BK193.out) hb); have n7_ := Aside0.mk (below_step (by repeat (first | (with_reducible first | exact HB.out | apply below_alloc | apply pw_below_drewN | apply below_drew1 | refine below_set ?_ GE172.out | refine below_set ?_ GE185.out | refine below_set ?_ GE193.out) | exact HB.out)) hb); clear HO_7; clear HO_173002; clear HO_186002; clear HO_194002; clear BK172; clear BK185; clear BK193; clear HB; have HO_7 := n0_; have HO_173002 := n1_; have HO_186002 := n2_; have HO_194002 := n3_; have BK172 := n4_; have BK185 := n5_; have BK193 := n6_; have HB := n7_; clear n0_ n1_ n2_ n3_ n4_ n5_ n6_ n7_; (try clear hb); (try clear hb2); (try clear hk); (try clear hi)))
                                                go_roundg kj60
                                                case measure => have := HJ3.out; have := HK2.out; have := HJ11.out; have := HJ23.out; have := HK5.out; have := HJ60.out; omega
                                                case rel => exact ⟨(y196), (wrap64 (x8_2 + 1)), (t186), (t187), (t188), (.slice Ao42 t188.length co42), (by first | rfl | (simp; done) | (simp [*]; done)), H', ⟨by have := HJ3.out; have := HK2.out; have := HJ11.out; have := HJ23.out; have := HK5.out; have := HJ60.out; omega⟩, ⟨by (with_reducible repeat (first | apply Kd.R_alloc | apply Kd.R_drewN | apply Kd.R_drew)); exact Kd.R_mono HO_7.out (fun _ hk => hk.1)⟩, ⟨by (with_reducible repeat (first | apply Kd.Q_alloc | apply Kd.Q_drewN | apply Kd.Q_drew)); exact Kd.Q_mono HO_173002.out (fun _ hk => hk.1)⟩, ⟨by (with_reducible repeat (first | refine blk_drewN ?_ _ | refine blk_drew ?_ | refine blk_alloc ?_ _)); exact BK172.out⟩, ⟨by repeat (first | (with_reducible first | exact HB.out | apply below_alloc | apply pw_below_drewN | apply below_drew1 | refine below_set ?_ GE172.out | refine below_set ?_ GE185.out | refine below_set ?_ GE193.out) | exact HB.out)⟩⟩
                                              · replace c70 := Bool.eq_false_iff.mpr c70
                                                subst c70
                                                have H1 : (some false) = some r := by rw [if_neg (show ¬ (false = true) by decide)] at H; exact H
                                                clear H
                                                have H := H1
                                                clear H1
                                                exact Bool.noConfusion ((Option.some.inj H).trans hr_.out)
                                            · rw [if_neg c68] at H
                                              have c68b0 : (t201 == x16_5) = false := beq_eq_false_iff_ne.mpr c68
                                              have c68b1 : (t201 != x16_5) = true := bne_iff_ne.mpr c68
                                              exact Bool.noConfusion ((Option.some.inj H).trans hr_.out)
                                · rw [if_neg c53] at H
                                  exact absurd H (by simp)
                        · rw [if_neg c21] at H
                          exact absurd H (by simp)
                      · rw [if_neg c20] at H
                        exact absurd H (by simp)
                    · rw [if_neg c19] at H
                      exact absurd H (by simp)
            · rw [if_neg c11] at H
              have c11b0 : decide (x8_2 < (l0.length : Int)) = false := decide_eq_false c11
              clear c11
              obtain rfl := Option.some.inj H
              go_wp2
              go_ret
              exact ⟨by first | rfl | (simp [errW_none, errW_some] <;> rfl) | (simp [*, errW_none, errW_some] <;> rfl), by repeat (first | (with_reducible first | exact HB.out | apply below_alloc | apply pw_below_drewN | apply below_drew1 | refine below_set ?_ GE172.out) | exact HB.out)⟩

/-- THE ONE PURE STATEMENT of fourinhandlaw11_RateBest: yours. -/
def fourinhandlaw11_RateBest.Pure : Prop := ∀ (l0 : List Int) (l1 : List Int), l0.length ≤ maxLen → l0.length * 8 ≤ 140737488351232 → (∀ x ∈ l0, (Lit.int .i64 x).wf = true) → l1.length ≤ maxLen → l1.length * 8 ≤ 140737488351232 → (∀ x ∈ l1, (Lit.int .i64 x).wf = true) → ∃ k, fourinhandlaw11_RateBest.f k l0 l1 = some true
theorem fourinhandlaw11_RateBest.walk (P : fourinhandlaw11_RateBest.Pure) (a0 : Option Addr) (len0 cap0 : Nat) (z0 : List Int) (a1 : Option Addr) (len1 cap1 : Nat) (z1 : List Int) (w : World) (w0 : (a0 = none ∧ len0 = 0 ∧ cap0 = 0 ∧ z0 = []) ∨ ∃ x, a0 = some x ∧ len0 ≤ cap0 ∧ cap0 ≤ maxLen ∧ z0.length = cap0 ∧ (∀ i, i < z0.length → w.cell? (x.add i) = some (.int .i64 (z0.getD i 0))) ∧ ∀ n ∈ z0, (Lit.int .i64 n).wf = true) (y0 : len0 * 8 ≤ 140737488351232) (w1 : (a1 = none ∧ len1 = 0 ∧ cap1 = 0 ∧ z1 = []) ∨ ∃ x, a1 = some x ∧ len1 ≤ cap1 ∧ cap1 ≤ maxLen ∧ z1.length = cap1 ∧ (∀ i, i < z1.length → w.cell? (x.add i) = some (.int .i64 (z1.getD i 0))) ∧ ∀ n ∈ z1, (Lit.int .i64 n).wf = true) (y1 : len1 * 8 ≤ 140737488351232) :
    Calls Try.prog 4 #[.slice a0 len0 cap0, .slice a1 len1 cap1] w fun e w' => e = .returned (.bool true) ∧ Below w.heap.size w w' := by
  obtain ⟨l0, rfl, hr0, hm0, hw0, hc0⟩ := ReadsInt.ofRowC w0
  obtain ⟨l1, rfl, hr1, hm1, hw1, hc1⟩ := ReadsInt.ofRowC w1
  obtain ⟨k, h⟩ := P l0 l1 hm0 y0 hw0 hm1 y1 hw1
  refine (fourinhandlaw11_RateBest.calls k _ _ l0 _ _ l1 true ⟨rfl⟩ w (Kd.C_of_reads (d := (0 : Int)) (h1 := fun _ => rfl) hr0) hc0 (Kd.C_of_reads (d := (0 : Int)) (h1 := fun _ => rfl) hr1) hc1 h).mono ?_
  rintro e w' ⟨rfl, hd⟩
  exact ⟨rfl, hd⟩

end Go.Proofs.Ytfdaaodpbaikdaa.PRateBest
