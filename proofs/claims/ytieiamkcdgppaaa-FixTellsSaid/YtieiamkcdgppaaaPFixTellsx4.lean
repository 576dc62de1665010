-- Written by a program of this session (wip/hprint.py), over the kit's print.py: the walk of one law. Lean checks it.
import Derived.Test.YtieiamkcdgppaaaPFixTellsx0
import Derived.Test.YtieiamkcdgppaaaPFixTellsx1
import Derived.Test.YtieiamkcdgppaaaPFixTellsx2
import Derived.Test.YtieiamkcdgppaaaPFixTellsx3
namespace Go.Proofs.Ytieiamkcdgppaaa.PFixTells
open Go.RowKit Go.Proofs.YtieiamkcdgppaaaW.PrintWords Go.Proofs.YtieiamkcdgppaaaW.PrintLast Go.Proofs.YtieiamkcdgppaaaW.PrintMore
attribute [local go_sem] max2_int min2_int max_two min_two max_three min_three max_four min_four   -- for this text's walks alone
set_option linter.unusedVariables false
set_option linter.unusedSimpArgs false

/-! ### fourinhandlaw01_FixTells: function 10 -/
mutual
def fourinhandlaw01_FixTells.j0 : Nat → Int → Int → Int → Bool → Int → Bool → Int → Bool → Int → Bool → Int → Bool → Int → Bool → Int → Bool → Bool → Option (Bool)
  | 0, _, _, _, _, _, _, _, _, _, _, _, _, _, _, _, _, _ => none
  | k + 1, x0, x1, x2, x7, x20, x21, x22, x23, x24, x25, x26, x27, x28, x29, x30, x31, x32 => if x20 = x22 then (if (x21 == x23) = true then (if x24 = x26 then (if (x25 == x27) = true then (if x28 = x30 then (fourinhandlaw01_FixTells.j1 k x0 x1 x2 x7 x32 (x29 == x31)) else (fourinhandlaw01_FixTells.j1 k x0 x1 x2 x7 x32 false)) else (fourinhandlaw01_FixTells.j1 k x0 x1 x2 x7 x32 false)) else (fourinhandlaw01_FixTells.j1 k x0 x1 x2 x7 x32 false)) else (fourinhandlaw01_FixTells.j1 k x0 x1 x2 x7 x32 false)) else (fourinhandlaw01_FixTells.j1 k x0 x1 x2 x7 x32 false)
def fourinhandlaw01_FixTells.j1 : Nat → Int → Int → Int → Bool → Bool → Bool → Option (Bool)
  | 0, _, _, _, _, _, _ => none
  | k + 1, x0, x1, x2, x7, x32, x33 => if x7 = true then (if x32 = true then (if x33 = true then ((fix_Clamp.f x0 x1 x2).bind fun t175 => ((fourinhandref01_Clamp.f k x0 x1 x2).bind fun t176 => (if t175 = t176 then ((fix_In.f x0).bind fun t177 => ((fourinhandref01_In.f x0).bind fun t178 => (some (t177 == t178)))) else (some false)))) else (some false)) else (some false)) else (some false)
end
def fourinhandlaw01_FixTells.f (k : Nat) (a0 : Int) (a1 : Int) (a2 : Int) : Option (Bool) := (fourinhandlaw01_awake.f k).bind fun t150 => ((fix_Add.f a0 a1).bind fun bt151 => ((fourinhandref01_Add.f a0 a1).bind fun bt153 => ((fix_MulDiv.f k a0 a1 a2).bind fun bt155 => ((fourinhandref01_MulDiv.f k a0 a1 a2).bind fun bt157 => ((fix_Mul.f k a0 a1).bind fun bt159 => ((fourinhandref01_Mul.f k a0 a1).bind fun bt161 => ((fix_Div.f k a0 a1).bind fun bt163 => ((fourinhandref01_Div.f k a0 a1).bind fun bt165 => ((fix_Sqrt.f k a0).bind fun bt167 => ((fourinhandref01_Sqrt.f k a0).bind fun bt169 => ((fix_Ewma.f a0 a1 a2).bind fun bt171 => ((fourinhandref01_Ewma.f k a0 a1 a2).bind fun bt173 => (if bt151.1 = bt153.1 then (if (bt151.2 == bt153.2) = true then (if bt155.1 = bt157.1 then (if (bt155.2 == bt157.2) = true then (if bt159.1 = bt161.1 then (fourinhandlaw01_FixTells.j0 k a0 a1 a2 t150 bt163.1 bt163.2 bt165.1 bt165.2 bt167.1 bt167.2 bt169.1 bt169.2 bt171.1 bt171.2 bt173.1 bt173.2 (bt159.2 == bt161.2)) else (fourinhandlaw01_FixTells.j0 k a0 a1 a2 t150 bt163.1 bt163.2 bt165.1 bt165.2 bt167.1 bt167.2 bt169.1 bt169.2 bt171.1 bt171.2 bt173.1 bt173.2 false)) else (fourinhandlaw01_FixTells.j0 k a0 a1 a2 t150 bt163.1 bt163.2 bt165.1 bt165.2 bt167.1 bt167.2 bt169.1 bt169.2 bt171.1 bt171.2 bt173.1 bt173.2 false)) else (fourinhandlaw01_FixTells.j0 k a0 a1 a2 t150 bt163.1 bt163.2 bt165.1 bt165.2 bt167.1 bt167.2 bt169.1 bt169.2 bt171.1 bt171.2 bt173.1 bt173.2 false)) else (fourinhandlaw01_FixTells.j0 k a0 a1 a2 t150 bt163.1 bt163.2 bt165.1 bt165.2 bt167.1 bt167.2 bt169.1 bt169.2 bt171.1 bt171.2 bt173.1 bt173.2 false)) else (fourinhandlaw01_FixTells.j0 k a0 a1 a2 t150 bt163.1 bt163.2 bt165.1 bt165.2 bt167.1 bt167.2 bt169.1 bt169.2 bt171.1 bt171.2 bt173.1 bt173.2 false))))))))))))))
theorem fourinhandlaw01_FixTells.mono_l : ∀ k, (∀ y0 y1 y2 y3 y4 y5 y6 y7 y8 y9 y10 y11 y12 y13 y14 y15 y16, LeO (fourinhandlaw01_FixTells.j0 k y0 y1 y2 y3 y4 y5 y6 y7 y8 y9 y10 y11 y12 y13 y14 y15 y16) (fourinhandlaw01_FixTells.j0 (k + 1) y0 y1 y2 y3 y4 y5 y6 y7 y8 y9 y10 y11 y12 y13 y14 y15 y16)) ∧ (∀ y0 y1 y2 y3 y4 y5, LeO (fourinhandlaw01_FixTells.j1 k y0 y1 y2 y3 y4 y5) (fourinhandlaw01_FixTells.j1 (k + 1) y0 y1 y2 y3 y4 y5))
  | 0 => ⟨fun _ _ _ _ _ _ _ _ _ _ _ _ _ _ _ _ _ r h => by simp [fourinhandlaw01_FixTells.j0] at h, fun _ _ _ _ _ _ r h => by simp [fourinhandlaw01_FixTells.j1] at h⟩
  | k + 1 => by
    obtain ⟨ih0, ih1⟩ := fourinhandlaw01_FixTells.mono_l k
    refine ⟨?_, ?_⟩
    · intro y0 y1 y2 y3 y4 y5 y6 y7 y8 y9 y10 y11 y12 y13 y14 y15 y16
      unfold fourinhandlaw01_FixTells.j0
      repeat' first
      | (with_reducible exact ih0 _ _ _ _ _ _ _ _ _ _ _ _ _ _ _ _ _)
      | (with_reducible exact ih1 _ _ _ _ _ _)
      | (with_reducible exact fix_Div.mono _ _ _)
      | (with_reducible exact fix_Mul.mono _ _ _)
      | (with_reducible exact fix_MulDiv.mono _ _ _ _)
      | (with_reducible exact fix_Sqrt.mono _ _)
      | (with_reducible exact fourinhandlaw01_awake.mono _)
      | (with_reducible exact fourinhandref01_Clamp.mono _ _ _ _)
      | (with_reducible exact fourinhandref01_Div.mono _ _ _)
      | (with_reducible exact fourinhandref01_Ewma.mono _ _ _ _)
      | (with_reducible exact fourinhandref01_Mul.mono _ _ _)
      | (with_reducible exact fourinhandref01_MulDiv.mono _ _ _ _)
      | (with_reducible exact fourinhandref01_Sqrt.mono _ _)
      | (with_reducible exact LeO.refl _)
      | (with_reducible exact LeO.none _)
      | (with_reducible refine LeO.ite ?_ ?_)
      | (with_reducible refine LeO.bind ?_ (fun _ => ?_))
      | exact ih0 _ _ _ _ _ _ _ _ _ _ _ _ _ _ _ _ _
      | exact ih1 _ _ _ _ _ _
      | exact fix_Div.mono _ _ _
      | exact fix_Mul.mono _ _ _
      | exact fix_MulDiv.mono _ _ _ _
      | exact fix_Sqrt.mono _ _
      | exact fourinhandlaw01_awake.mono _
      | exact fourinhandref01_Clamp.mono _ _ _ _
      | exact fourinhandref01_Div.mono _ _ _
      | exact fourinhandref01_Ewma.mono _ _ _ _
      | exact fourinhandref01_Mul.mono _ _ _
      | exact fourinhandref01_MulDiv.mono _ _ _ _
      | exact fourinhandref01_Sqrt.mono _ _
      | exact LeO.none _
      | refine LeO.ite ?_ ?_
      | refine LeO.bind ?_ (fun _ => ?_)
    · intro y0 y1 y2 y3 y4 y5
      unfold fourinhandlaw01_FixTells.j1
      repeat' first
      | (with_reducible exact ih0 _ _ _ _ _ _ _ _ _ _ _ _ _ _ _ _ _)
      | (with_reducible exact ih1 _ _ _ _ _ _)
      | (with_reducible exact fix_Div.mono _ _ _)
      | (with_reducible exact fix_Mul.mono _ _ _)
      | (with_reducible exact fix_MulDiv.mono _ _ _ _)
      | (with_reducible exact fix_Sqrt.mono _ _)
      | (with_reducible exact fourinhandlaw01_awake.mono _)
      | (with_reducible exact fourinhandref01_Clamp.mono _ _ _ _)
      | (with_reducible exact fourinhandref01_Div.mono _ _ _)
      | (with_reducible exact fourinhandref01_Ewma.mono _ _ _ _)
      | (with_reducible exact fourinhandref01_Mul.mono _ _ _)
      | (with_reducible exact fourinhandref01_MulDiv.mono _ _ _ _)
      | (with_reducible exact fourinhandref01_Sqrt.mono _ _)
      | (with_reducible exact LeO.refl _)
      | (with_reducible exact LeO.none _)
      | (with_reducible refine LeO.ite ?_ ?_)
      | (with_reducible refine LeO.bind ?_ (fun _ => ?_))
      | exact ih0 _ _ _ _ _ _ _ _ _ _ _ _ _ _ _ _ _
      | exact ih1 _ _ _ _ _ _
      | exact fix_Div.mono _ _ _
      | exact fix_Mul.mono _ _ _
      | exact fix_MulDiv.mono _ _ _ _
      | exact fix_Sqrt.mono _ _
      | exact fourinhandlaw01_awake.mono _
      | exact fourinhandref01_Clamp.mono _ _ _ _
      | exact fourinhandref01_Div.mono _ _ _
      | exact fourinhandref01_Ewma.mono _ _ _ _
      | exact fourinhandref01_Mul.mono _ _ _
      | exact fourinhandref01_MulDiv.mono _ _ _ _
      | exact fourinhandref01_Sqrt.mono _ _
      | exact LeO.none _
      | refine LeO.ite ?_ ?_
      | refine LeO.bind ?_ (fun _ => ?_)
theorem fourinhandlaw01_FixTells.mono : ∀ a0 a1 a2 k, LeO (fourinhandlaw01_FixTells.f k a0 a1 a2) (fourinhandlaw01_FixTells.f (k + 1) a0 a1 a2) := by
  intro a0 a1 a2 k
  obtain ⟨ih0, ih1⟩ := fourinhandlaw01_FixTells.mono_l k
  unfold fourinhandlaw01_FixTells.f
  repeat' first
      | (with_reducible exact ih0 _ _ _ _ _ _ _ _ _ _ _ _ _ _ _ _ _)
      | (with_reducible exact ih1 _ _ _ _ _ _)
      | (with_reducible exact fix_Div.mono _ _ _)
      | (with_reducible exact fix_Mul.mono _ _ _)
      | (with_reducible exact fix_MulDiv.mono _ _ _ _)
      | (with_reducible exact fix_Sqrt.mono _ _)
      | (with_reducible exact fourinhandlaw01_awake.mono _)
      | (with_reducible exact fourinhandref01_Clamp.mono _ _ _ _)
      | (with_reducible exact fourinhandref01_Div.mono _ _ _)
      | (with_reducible exact fourinhandref01_Ewma.mono _ _ _ _)
      | (with_reducible exact fourinhandref01_Mul.mono _ _ _)
      | (with_reducible exact fourinhandref01_MulDiv.mono _ _ _ _)
      | (with_reducible exact fourinhandref01_Sqrt.mono _ _)
      | (with_reducible exact LeO.refl _)
      | (with_reducible exact LeO.none _)
      | (with_reducible refine LeO.ite ?_ ?_)
      | (with_reducible refine LeO.bind ?_ (fun _ => ?_))
      | exact ih0 _ _ _ _ _ _ _ _ _ _ _ _ _ _ _ _ _
      | exact ih1 _ _ _ _ _ _
      | exact fix_Div.mono _ _ _
      | exact fix_Mul.mono _ _ _
      | exact fix_MulDiv.mono _ _ _ _
      | exact fix_Sqrt.mono _ _
      | exact fourinhandlaw01_awake.mono _
      | exact fourinhandref01_Clamp.mono _ _ _ _
      | exact fourinhandref01_Div.mono _ _ _
      | exact fourinhandref01_Ewma.mono _ _ _ _
      | exact fourinhandref01_Mul.mono _ _ _
      | exact fourinhandref01_MulDiv.mono _ _ _ _
      | exact fourinhandref01_Sqrt.mono _ _
      | exact LeO.none _
      | refine LeO.ite ?_ ?_
      | refine LeO.bind ?_ (fun _ => ?_)
set_option maxHeartbeats 8000000 in
set_option maxRecDepth 100000 in
theorem fourinhandlaw01_FixTells.calls (k : Nat) (a0 : Int) (a1 : Int) (a2 : Int) (r : Bool) (hr_ : Aside0 (r = true)) (w : World) (h : fourinhandlaw01_FixTells.f k a0 a1 a2 = some r) :
    Calls Try.prog 10 #[.int .i64 a0, .int .i64 a1, .int .i64 a2] w fun e w' => e = .returned (.bool r) ∧ Below w.heap.size w w' := by
  have HB := Aside0.mk (Below.refl w.heap.size w)
  have H : ((fourinhandlaw01_awake.f k).bind fun t150 => ((fix_Add.f a0 a1).bind fun bt151 => ((fourinhandref01_Add.f a0 a1).bind fun bt153 => ((fix_MulDiv.f k a0 a1 a2).bind fun bt155 => ((fourinhandref01_MulDiv.f k a0 a1 a2).bind fun bt157 => ((fix_Mul.f k a0 a1).bind fun bt159 => ((fourinhandref01_Mul.f k a0 a1).bind fun bt161 => ((fix_Div.f k a0 a1).bind fun bt163 => ((fourinhandref01_Div.f k a0 a1).bind fun bt165 => ((fix_Sqrt.f k a0).bind fun bt167 => ((fourinhandref01_Sqrt.f k a0).bind fun bt169 => ((fix_Ewma.f a0 a1 a2).bind fun bt171 => ((fourinhandref01_Ewma.f k a0 a1 a2).bind fun bt173 => (if bt151.1 = bt153.1 then (if (bt151.2 == bt153.2) = true then (if bt155.1 = bt157.1 then (if (bt155.2 == bt157.2) = true then (if bt159.1 = bt161.1 then (fourinhandlaw01_FixTells.j0 k a0 a1 a2 t150 bt163.1 bt163.2 bt165.1 bt165.2 bt167.1 bt167.2 bt169.1 bt169.2 bt171.1 bt171.2 bt173.1 bt173.2 (bt159.2 == bt161.2)) else (fourinhandlaw01_FixTells.j0 k a0 a1 a2 t150 bt163.1 bt163.2 bt165.1 bt165.2 bt167.1 bt167.2 bt169.1 bt169.2 bt171.1 bt171.2 bt173.1 bt173.2 false)) else (fourinhandlaw01_FixTells.j0 k a0 a1 a2 t150 bt163.1 bt163.2 bt165.1 bt165.2 bt167.1 bt167.2 bt169.1 bt169.2 bt171.1 bt171.2 bt173.1 bt173.2 false)) else (fourinhandlaw01_FixTells.j0 k a0 a1 a2 t150 bt163.1 bt163.2 bt165.1 bt165.2 bt167.1 bt167.2 bt169.1 bt169.2 bt171.1 bt171.2 bt173.1 bt173.2 false)) else (fourinhandlaw01_FixTells.j0 k a0 a1 a2 t150 bt163.1 bt163.2 bt165.1 bt165.2 bt167.1 bt167.2 bt169.1 bt169.2 bt171.1 bt171.2 bt173.1 bt173.2 false)) else (fourinhandlaw01_FixTells.j0 k a0 a1 a2 t150 bt163.1 bt163.2 bt165.1 bt165.2 bt167.1 bt167.2 bt169.1 bt169.2 bt171.1 bt171.2 bt173.1 bt173.2 false))))))))))))))) = some r := h
  clear h
  replace H := Option.bind_eq_some_iff.mp H
  obtain ⟨t150, A40, H⟩ := H
  replace H : ((fix_Add.f a0 a1).bind fun bt151 => ((fourinhandref01_Add.f a0 a1).bind fun bt153 => ((fix_MulDiv.f k a0 a1 a2).bind fun bt155 => ((fourinhandref01_MulDiv.f k a0 a1 a2).bind fun bt157 => ((fix_Mul.f k a0 a1).bind fun bt159 => ((fourinhandref01_Mul.f k a0 a1).bind fun bt161 => ((fix_Div.f k a0 a1).bind fun bt163 => ((fourinhandref01_Div.f k a0 a1).bind fun bt165 => ((fix_Sqrt.f k a0).bind fun bt167 => ((fourinhandref01_Sqrt.f k a0).bind fun bt169 => ((fix_Ewma.f a0 a1 a2).bind fun bt171 => ((fourinhandref01_Ewma.f k a0 a1 a2).bind fun bt173 => (if bt151.1 = bt153.1 then (if (bt151.2 == bt153.2) = true then (if bt155.1 = bt157.1 then (if (bt155.2 == bt157.2) = true then (if bt159.1 = bt161.1 then (fourinhandlaw01_FixTells.j0 k a0 a1 a2 t150 bt163.1 bt163.2 bt165.1 bt165.2 bt167.1 bt167.2 bt169.1 bt169.2 bt171.1 bt171.2 bt173.1 bt173.2 (bt159.2 == bt161.2)) else (fourinhandlaw01_FixTells.j0 k a0 a1 a2 t150 bt163.1 bt163.2 bt165.1 bt165.2 bt167.1 bt167.2 bt169.1 bt169.2 bt171.1 bt171.2 bt173.1 bt173.2 false)) else (fourinhandlaw01_FixTells.j0 k a0 a1 a2 t150 bt163.1 bt163.2 bt165.1 bt165.2 bt167.1 bt167.2 bt169.1 bt169.2 bt171.1 bt171.2 bt173.1 bt173.2 false)) else (fourinhandlaw01_FixTells.j0 k a0 a1 a2 t150 bt163.1 bt163.2 bt165.1 bt165.2 bt167.1 bt167.2 bt169.1 bt169.2 bt171.1 bt171.2 bt173.1 bt173.2 false)) else (fourinhandlaw01_FixTells.j0 k a0 a1 a2 t150 bt163.1 bt163.2 bt165.1 bt165.2 bt167.1 bt167.2 bt169.1 bt169.2 bt171.1 bt171.2 bt173.1 bt173.2 false)) else (fourinhandlaw01_FixTells.j0 k a0 a1 a2 t150 bt163.1 bt163.2 bt165.1 bt165.2 bt167.1 bt167.2 bt169.1 bt169.2 bt171.1 bt171.2 bt173.1 bt173.2 false)))))))))))))) = some r := H
  have A4 := Aside0.mk A40
  clear A40
  replace H := Option.bind_eq_some_iff.mp H
  obtain ⟨⟨t151, t152⟩, A50, H⟩ := H
  replace H : ((fourinhandref01_Add.f a0 a1).bind fun bt153 => ((fix_MulDiv.f k a0 a1 a2).bind fun bt155 => ((fourinhandref01_MulDiv.f k a0 a1 a2).bind fun bt157 => ((fix_Mul.f k a0 a1).bind fun bt159 => ((fourinhandref01_Mul.f k a0 a1).bind fun bt161 => ((fix_Div.f k a0 a1).bind fun bt163 => ((fourinhandref01_Div.f k a0 a1).bind fun bt165 => ((fix_Sqrt.f k a0).bind fun bt167 => ((fourinhandref01_Sqrt.f k a0).bind fun bt169 => ((fix_Ewma.f a0 a1 a2).bind fun bt171 => ((fourinhandref01_Ewma.f k a0 a1 a2).bind fun bt173 => (if t151 = bt153.1 then (if (t152 == bt153.2) = true then (if bt155.1 = bt157.1 then (if (bt155.2 == bt157.2) = true then (if bt159.1 = bt161.1 then (fourinhandlaw01_FixTells.j0 k a0 a1 a2 t150 bt163.1 bt163.2 bt165.1 bt165.2 bt167.1 bt167.2 bt169.1 bt169.2 bt171.1 bt171.2 bt173.1 bt173.2 (bt159.2 == bt161.2)) else (fourinhandlaw01_FixTells.j0 k a0 a1 a2 t150 bt163.1 bt163.2 bt165.1 bt165.2 bt167.1 bt167.2 bt169.1 bt169.2 bt171.1 bt171.2 bt173.1 bt173.2 false)) else (fourinhandlaw01_FixTells.j0 k a0 a1 a2 t150 bt163.1 bt163.2 bt165.1 bt165.2 bt167.1 bt167.2 bt169.1 bt169.2 bt171.1 bt171.2 bt173.1 bt173.2 false)) else (fourinhandlaw01_FixTells.j0 k a0 a1 a2 t150 bt163.1 bt163.2 bt165.1 bt165.2 bt167.1 bt167.2 bt169.1 bt169.2 bt171.1 bt171.2 bt173.1 bt173.2 false)) else (fourinhandlaw01_FixTells.j0 k a0 a1 a2 t150 bt163.1 bt163.2 bt165.1 bt165.2 bt167.1 bt167.2 bt169.1 bt169.2 bt171.1 bt171.2 bt173.1 bt173.2 false)) else (fourinhandlaw01_FixTells.j0 k a0 a1 a2 t150 bt163.1 bt163.2 bt165.1 bt165.2 bt167.1 bt167.2 bt169.1 bt169.2 bt171.1 bt171.2 bt173.1 bt173.2 false))))))))))))) = some r := H
  have A5 := Aside0.mk A50
  clear A50
  replace H := Option.bind_eq_some_iff.mp H
  obtain ⟨⟨t153, t154⟩, A60, H⟩ := H
  replace H : ((fix_MulDiv.f k a0 a1 a2).bind fun bt155 => ((fourinhandref01_MulDiv.f k a0 a1 a2).bind fun bt157 => ((fix_Mul.f k a0 a1).bind fun bt159 => ((fourinhandref01_Mul.f k a0 a1).bind fun bt161 => ((fix_Div.f k a0 a1).bind fun bt163 => ((fourinhandref01_Div.f k a0 a1).bind fun bt165 => ((fix_Sqrt.f k a0).bind fun bt167 => ((fourinhandref01_Sqrt.f k a0).bind fun bt169 => ((fix_Ewma.f a0 a1 a2).bind fun bt171 => ((fourinhandref01_Ewma.f k a0 a1 a2).bind fun bt173 => (if t151 = t153 then (if (t152 == t154) = true then (if bt155.1 = bt157.1 then (if (bt155.2 == bt157.2) = true then (if bt159.1 = bt161.1 then (fourinhandlaw01_FixTells.j0 k a0 a1 a2 t150 bt163.1 bt163.2 bt165.1 bt165.2 bt167.1 bt167.2 bt169.1 bt169.2 bt171.1 bt171.2 bt173.1 bt173.2 (bt159.2 == bt161.2)) else (fourinhandlaw01_FixTells.j0 k a0 a1 a2 t150 bt163.1 bt163.2 bt165.1 bt165.2 bt167.1 bt167.2 bt169.1 bt169.2 bt171.1 bt171.2 bt173.1 bt173.2 false)) else (fourinhandlaw01_FixTells.j0 k a0 a1 a2 t150 bt163.1 bt163.2 bt165.1 bt165.2 bt167.1 bt167.2 bt169.1 bt169.2 bt171.1 bt171.2 bt173.1 bt173.2 false)) else (fourinhandlaw01_FixTells.j0 k a0 a1 a2 t150 bt163.1 bt163.2 bt165.1 bt165.2 bt167.1 bt167.2 bt169.1 bt169.2 bt171.1 bt171.2 bt173.1 bt173.2 false)) else (fourinhandlaw01_FixTells.j0 k a0 a1 a2 t150 bt163.1 bt163.2 bt165.1 bt165.2 bt167.1 bt167.2 bt169.1 bt169.2 bt171.1 bt171.2 bt173.1 bt173.2 false)) else (fourinhandlaw01_FixTells.j0 k a0 a1 a2 t150 bt163.1 bt163.2 bt165.1 bt165.2 bt167.1 bt167.2 bt169.1 bt169.2 bt171.1 bt171.2 bt173.1 bt173.2 false)))))))))))) = some r := H
  have A6 := Aside0.mk A60
  clear A60
  replace H := Option.bind_eq_some_iff.mp H
  obtain ⟨⟨t155, t156⟩, A70, H⟩ := H
  replace H : ((fourinhandref01_MulDiv.f k a0 a1 a2).bind fun bt157 => ((fix_Mul.f k a0 a1).bind fun bt159 => ((fourinhandref01_Mul.f k a0 a1).bind fun bt161 => ((fix_Div.f k a0 a1).bind fun bt163 => ((fourinhandref01_Div.f k a0 a1).bind fun bt165 => ((fix_Sqrt.f k a0).bind fun bt167 => ((fourinhandref01_Sqrt.f k a0).bind fun bt169 => ((fix_Ewma.f a0 a1 a2).bind fun bt171 => ((fourinhandref01_Ewma.f k a0 a1 a2).bind fun bt173 => (if t151 = t153 then (if (t152 == t154) = true then (if t155 = bt157.1 then (if (t156 == bt157.2) = true then (if bt159.1 = bt161.1 then (fourinhandlaw01_FixTells.j0 k a0 a1 a2 t150 bt163.1 bt163.2 bt165.1 bt165.2 bt167.1 bt167.2 bt169.1 bt169.2 bt171.1 bt171.2 bt173.1 bt173.2 (bt159.2 == bt161.2)) else (fourinhandlaw01_FixTells.j0 k a0 a1 a2 t150 bt163.1 bt163.2 bt165.1 bt165.2 bt167.1 bt167.2 bt169.1 bt169.2 bt171.1 bt171.2 bt173.1 bt173.2 false)) else (fourinhandlaw01_FixTells.j0 k a0 a1 a2 t150 bt163.1 bt163.2 bt165.1 bt165.2 bt167.1 bt167.2 bt169.1 bt169.2 bt171.1 bt171.2 bt173.1 bt173.2 false)) else (fourinhandlaw01_FixTells.j0 k a0 a1 a2 t150 bt163.1 bt163.2 bt165.1 bt165.2 bt167.1 bt167.2 bt169.1 bt169.2 bt171.1 bt171.2 bt173.1 bt173.2 false)) else (fourinhandlaw01_FixTells.j0 k a0 a1 a2 t150 bt163.1 bt163.2 bt165.1 bt165.2 bt167.1 bt167.2 bt169.1 bt169.2 bt171.1 bt171.2 bt173.1 bt173.2 false)) else (fourinhandlaw01_FixTells.j0 k a0 a1 a2 t150 bt163.1 bt163.2 bt165.1 bt165.2 bt167.1 bt167.2 bt169.1 bt169.2 bt171.1 bt171.2 bt173.1 bt173.2 false))))))))))) = some r := H
  have A7 := Aside0.mk A70
  clear A70
  replace H := Option.bind_eq_some_iff.mp H
  obtain ⟨⟨t157, t158⟩, A80, H⟩ := H
  replace H : ((fix_Mul.f k a0 a1).bind fun bt159 => ((fourinhandref01_Mul.f k a0 a1).bind fun bt161 => ((fix_Div.f k a0 a1).bind fun bt163 => ((fourinhandref01_Div.f k a0 a1).bind fun bt165 => ((fix_Sqrt.f k a0).bind fun bt167 => ((fourinhandref01_Sqrt.f k a0).bind fun bt169 => ((fix_Ewma.f a0 a1 a2).bind fun bt171 => ((fourinhandref01_Ewma.f k a0 a1 a2).bind fun bt173 => (if t151 = t153 then (if (t152 == t154) = true then (if t155 = t157 then (if (t156 == t158) = true then (if bt159.1 = bt161.1 then (fourinhandlaw01_FixTells.j0 k a0 a1 a2 t150 bt163.1 bt163.2 bt165.1 bt165.2 bt167.1 bt167.2 bt169.1 bt169.2 bt171.1 bt171.2 bt173.1 bt173.2 (bt159.2 == bt161.2)) else (fourinhandlaw01_FixTells.j0 k a0 a1 a2 t150 bt163.1 bt163.2 bt165.1 bt165.2 bt167.1 bt167.2 bt169.1 bt169.2 bt171.1 bt171.2 bt173.1 bt173.2 false)) else (fourinhandlaw01_FixTells.j0 k a0 a1 a2 t150 bt163.1 bt163.2 bt165.1 bt165.2 bt167.1 bt167.2 bt169.1 bt169.2 bt171.1 bt171.2 bt173.1 bt173.2 false)) else (fourinhandlaw01_FixTells.j0 k a0 a1 a2 t150 bt163.1 bt163.2 bt165.1 bt165.2 bt167.1 bt167.2 bt169.1 bt169.2 bt171.1 bt171.2 bt173.1 bt173.2 false)) else (fourinhandlaw01_FixTells.j0 k a0 a1 a2 t150 bt163.1 bt163.2 bt165.1 bt165.2 bt167.1 bt167.2 bt169.1 bt169.2 bt171.1 bt171.2 bt173.1 bt173.2 false)) else (fourinhandlaw01_FixTells.j0 k a0 a1 a2 t150 bt163.1 bt163.2 bt165.1 bt165.2 bt167.1 bt167.2 bt169.1 bt169.2 bt171.1 bt171.2 bt173.1 bt173.2 false)))))))))) = some r := H
  have A8 := Aside0.mk A80
  clear A80
  replace H := Option.bind_eq_some_iff.mp H
  obtain ⟨⟨t159, t160⟩, A90, H⟩ := H
  replace H : ((fourinhandref01_Mul.f k a0 a1).bind fun bt161 => ((fix_Div.f k a0 a1).bind fun bt163 => ((fourinhandref01_Div.f k a0 a1).bind fun bt165 => ((fix_Sqrt.f k a0).bind fun bt167 => ((fourinhandref01_Sqrt.f k a0).bind fun bt169 => ((fix_Ewma.f a0 a1 a2).bind fun bt171 => ((fourinhandref01_Ewma.f k a0 a1 a2).bind fun bt173 => (if t151 = t153 then (if (t152 == t154) = true then (if t155 = t157 then (if (t156 == t158) = true then (if t159 = bt161.1 then (fourinhandlaw01_FixTells.j0 k a0 a1 a2 t150 bt163.1 bt163.2 bt165.1 bt165.2 bt167.1 bt167.2 bt169.1 bt169.2 bt171.1 bt171.2 bt173.1 bt173.2 (t160 == bt161.2)) else (fourinhandlaw01_FixTells.j0 k a0 a1 a2 t150 bt163.1 bt163.2 bt165.1 bt165.2 bt167.1 bt167.2 bt169.1 bt169.2 bt171.1 bt171.2 bt173.1 bt173.2 false)) else (fourinhandlaw01_FixTells.j0 k a0 a1 a2 t150 bt163.1 bt163.2 bt165.1 bt165.2 bt167.1 bt167.2 bt169.1 bt169.2 bt171.1 bt171.2 bt173.1 bt173.2 false)) else (fourinhandlaw01_FixTells.j0 k a0 a1 a2 t150 bt163.1 bt163.2 bt165.1 bt165.2 bt167.1 bt167.2 bt169.1 bt169.2 bt171.1 bt171.2 bt173.1 bt173.2 false)) else (fourinhandlaw01_FixTells.j0 k a0 a1 a2 t150 bt163.1 bt163.2 bt165.1 bt165.2 bt167.1 bt167.2 bt169.1 bt169.2 bt171.1 bt171.2 bt173.1 bt173.2 false)) else (fourinhandlaw01_FixTells.j0 k a0 a1 a2 t150 bt163.1 bt163.2 bt165.1 bt165.2 bt167.1 bt167.2 bt169.1 bt169.2 bt171.1 bt171.2 bt173.1 bt173.2 false))))))))) = some r := H
  have A9 := Aside0.mk A90
  clear A90
  replace H := Option.bind_eq_some_iff.mp H
  obtain ⟨⟨t161, t162⟩, A100, H⟩ := H
  replace H : ((fix_Div.f k a0 a1).bind fun bt163 => ((fourinhandref01_Div.f k a0 a1).bind fun bt165 => ((fix_Sqrt.f k a0).bind fun bt167 => ((fourinhandref01_Sqrt.f k a0).bind fun bt169 => ((fix_Ewma.f a0 a1 a2).bind fun bt171 => ((fourinhandref01_Ewma.f k a0 a1 a2).bind fun bt173 => (if t151 = t153 then (if (t152 == t154) = true then (if t155 = t157 then (if (t156 == t158) = true then (if t159 = t161 then (fourinhandlaw01_FixTells.j0 k a0 a1 a2 t150 bt163.1 bt163.2 bt165.1 bt165.2 bt167.1 bt167.2 bt169.1 bt169.2 bt171.1 bt171.2 bt173.1 bt173.2 (t160 == t162)) else (fourinhandlaw01_FixTells.j0 k a0 a1 a2 t150 bt163.1 bt163.2 bt165.1 bt165.2 bt167.1 bt167.2 bt169.1 bt169.2 bt171.1 bt171.2 bt173.1 bt173.2 false)) else (fourinhandlaw01_FixTells.j0 k a0 a1 a2 t150 bt163.1 bt163.2 bt165.1 bt165.2 bt167.1 bt167.2 bt169.1 bt169.2 bt171.1 bt171.2 bt173.1 bt173.2 false)) else (fourinhandlaw01_FixTells.j0 k a0 a1 a2 t150 bt163.1 bt163.2 bt165.1 bt165.2 bt167.1 bt167.2 bt169.1 bt169.2 bt171.1 bt171.2 bt173.1 bt173.2 false)) else (fourinhandlaw01_FixTells.j0 k a0 a1 a2 t150 bt163.1 bt163.2 bt165.1 bt165.2 bt167.1 bt167.2 bt169.1 bt169.2 bt171.1 bt171.2 bt173.1 bt173.2 false)) else (fourinhandlaw01_FixTells.j0 k a0 a1 a2 t150 bt163.1 bt163.2 bt165.1 bt165.2 bt167.1 bt167.2 bt169.1 bt169.2 bt171.1 bt171.2 bt173.1 bt173.2 false)))))))) = some r := H
  have A10 := Aside0.mk A100
  clear A100
  replace H := Option.bind_eq_some_iff.mp H
  obtain ⟨⟨t163, t164⟩, A110, H⟩ := H
  replace H : ((fourinhandref01_Div.f k a0 a1).bind fun bt165 => ((fix_Sqrt.f k a0).bind fun bt167 => ((fourinhandref01_Sqrt.f k a0).bind fun bt169 => ((fix_Ewma.f a0 a1 a2).bind fun bt171 => ((fourinhandref01_Ewma.f k a0 a1 a2).bind fun bt173 => (if t151 = t153 then (if (t152 == t154) = true then (if t155 = t157 then (if (t156 == t158) = true then (if t159 = t161 then (fourinhandlaw01_FixTells.j0 k a0 a1 a2 t150 t163 t164 bt165.1 bt165.2 bt167.1 bt167.2 bt169.1 bt169.2 bt171.1 bt171.2 bt173.1 bt173.2 (t160 == t162)) else (fourinhandlaw01_FixTells.j0 k a0 a1 a2 t150 t163 t164 bt165.1 bt165.2 bt167.1 bt167.2 bt169.1 bt169.2 bt171.1 bt171.2 bt173.1 bt173.2 false)) else (fourinhandlaw01_FixTells.j0 k a0 a1 a2 t150 t163 t164 bt165.1 bt165.2 bt167.1 bt167.2 bt169.1 bt169.2 bt171.1 bt171.2 bt173.1 bt173.2 false)) else (fourinhandlaw01_FixTells.j0 k a0 a1 a2 t150 t163 t164 bt165.1 bt165.2 bt167.1 bt167.2 bt169.1 bt169.2 bt171.1 bt171.2 bt173.1 bt173.2 false)) else (fourinhandlaw01_FixTells.j0 k a0 a1 a2 t150 t163 t164 bt165.1 bt165.2 bt167.1 bt167.2 bt169.1 bt169.2 bt171.1 bt171.2 bt173.1 bt173.2 false)) else (fourinhandlaw01_FixTells.j0 k a0 a1 a2 t150 t163 t164 bt165.1 bt165.2 bt167.1 bt167.2 bt169.1 bt169.2 bt171.1 bt171.2 bt173.1 bt173.2 false))))))) = some r := H
  have A11 := Aside0.mk A110
  clear A110
  replace H := Option.bind_eq_some_iff.mp H
  obtain ⟨⟨t165, t166⟩, A120, H⟩ := H
  replace H : ((fix_Sqrt.f k a0).bind fun bt167 => ((fourinhandref01_Sqrt.f k a0).bind fun bt169 => ((fix_Ewma.f a0 a1 a2).bind fun bt171 => ((fourinhandref01_Ewma.f k a0 a1 a2).bind fun bt173 => (if t151 = t153 then (if (t152 == t154) = true then (if t155 = t157 then (if (t156 == t158) = true then (if t159 = t161 then (fourinhandlaw01_FixTells.j0 k a0 a1 a2 t150 t163 t164 t165 t166 bt167.1 bt167.2 bt169.1 bt169.2 bt171.1 bt171.2 bt173.1 bt173.2 (t160 == t162)) else (fourinhandlaw01_FixTells.j0 k a0 a1 a2 t150 t163 t164 t165 t166 bt167.1 bt167.2 bt169.1 bt169.2 bt171.1 bt171.2 bt173.1 bt173.2 false)) else (fourinhandlaw01_FixTells.j0 k a0 a1 a2 t150 t163 t164 t165 t166 bt167.1 bt167.2 bt169.1 bt169.2 bt171.1 bt171.2 bt173.1 bt173.2 false)) else (fourinhandlaw01_FixTells.j0 k a0 a1 a2 t150 t163 t164 t165 t166 bt167.1 bt167.2 bt169.1 bt169.2 bt171.1 bt171.2 bt173.1 bt173.2 false)) else (fourinhandlaw01_FixTells.j0 k a0 a1 a2 t150 t163 t164 t165 t166 bt167.1 bt167.2 bt169.1 bt169.2 bt171.1 bt171.2 bt173.1 bt173.2 false)) else (fourinhandlaw01_FixTells.j0 k a0 a1 a2 t150 t163 t164 t165 t166 bt167.1 bt167.2 bt169.1 bt169.2 bt171.1 bt171.2 bt173.1 bt173.2 false)))))) = some r := H
  have A12 := Aside0.mk A120
  clear A120
  replace H := Option.bind_eq_some_iff.mp H
  obtain ⟨⟨t167, t168⟩, A130, H⟩ := H
  replace H : ((fourinhandref01_Sqrt.f k a0).bind fun bt169 => ((fix_Ewma.f a0 a1 a2).bind fun bt171 => ((fourinhandref01_Ewma.f k a0 a1 a2).bind fun bt173 => (if t151 = t153 then (if (t152 == t154) = true then (if t155 = t157 then (if (t156 == t158) = true then (if t159 = t161 then (fourinhandlaw01_FixTells.j0 k a0 a1 a2 t150 t163 t164 t165 t166 t167 t168 bt169.1 bt169.2 bt171.1 bt171.2 bt173.1 bt173.2 (t160 == t162)) else (fourinhandlaw01_FixTells.j0 k a0 a1 a2 t150 t163 t164 t165 t166 t167 t168 bt169.1 bt169.2 bt171.1 bt171.2 bt173.1 bt173.2 false)) else (fourinhandlaw01_FixTells.j0 k a0 a1 a2 t150 t163 t164 t165 t166 t167 t168 bt169.1 bt169.2 bt171.1 bt171.2 bt173.1 bt173.2 false)) else (fourinhandlaw01_FixTells.j0 k a0 a1 a2 t150 t163 t164 t165 t166 t167 t168 bt169.1 bt169.2 bt171.1 bt171.2 bt173.1 bt173.2 false)) else (fourinhandlaw01_FixTells.j0 k a0 a1 a2 t150 t163 t164 t165 t166 t167 t168 bt169.1 bt169.2 bt171.1 bt171.2 bt173.1 bt173.2 false)) else (fourinhandlaw01_FixTells.j0 k a0 a1 a2 t150 t163 t164 t165 t166 t167 t168 bt169.1 bt169.2 bt171.1 bt171.2 bt173.1 bt173.2 false))))) = some r := H
  have A13 := Aside0.mk A130
  clear A130
  replace H := Option.bind_eq_some_iff.mp H
  obtain ⟨⟨t169, t170⟩, A140, H⟩ := H
  replace H : ((fix_Ewma.f a0 a1 a2).bind fun bt171 => ((fourinhandref01_Ewma.f k a0 a1 a2).bind fun bt173 => (if t151 = t153 then (if (t152 == t154) = true then (if t155 = t157 then (if (t156 == t158) = true then (if t159 = t161 then (fourinhandlaw01_FixTells.j0 k a0 a1 a2 t150 t163 t164 t165 t166 t167 t168 t169 t170 bt171.1 bt171.2 bt173.1 bt173.2 (t160 == t162)) else (fourinhandlaw01_FixTells.j0 k a0 a1 a2 t150 t163 t164 t165 t166 t167 t168 t169 t170 bt171.1 bt171.2 bt173.1 bt173.2 false)) else (fourinhandlaw01_FixTells.j0 k a0 a1 a2 t150 t163 t164 t165 t166 t167 t168 t169 t170 bt171.1 bt171.2 bt173.1 bt173.2 false)) else (fourinhandlaw01_FixTells.j0 k a0 a1 a2 t150 t163 t164 t165 t166 t167 t168 t169 t170 bt171.1 bt171.2 bt173.1 bt173.2 false)) else (fourinhandlaw01_FixTells.j0 k a0 a1 a2 t150 t163 t164 t165 t166 t167 t168 t169 t170 bt171.1 bt171.2 bt173.1 bt173.2 false)) else (fourinhandlaw01_FixTells.j0 k a0 a1 a2 t150 t163 t164 t165 t166 t167 t168 t169 t170 bt171.1 bt171.2 bt173.1 bt173.2 false)))) = some r := H
  have A14 := Aside0.mk A140
  clear A140
  replace H := Option.bind_eq_some_iff.mp H
  obtain ⟨⟨t171, t172⟩, A150, H⟩ := H
  replace H : ((fourinhandref01_Ewma.f k a0 a1 a2).bind fun bt173 => (if t151 = t153 then (if (t152 == t154) = true then (if t155 = t157 then (if (t156 == t158) = true then (if t159 = t161 then (fourinhandlaw01_FixTells.j0 k a0 a1 a2 t150 t163 t164 t165 t166 t167 t168 t169 t170 t171 t172 bt173.1 bt173.2 (t160 == t162)) else (fourinhandlaw01_FixTells.j0 k a0 a1 a2 t150 t163 t164 t165 t166 t167 t168 t169 t170 t171 t172 bt173.1 bt173.2 false)) else (fourinhandlaw01_FixTells.j0 k a0 a1 a2 t150 t163 t164 t165 t166 t167 t168 t169 t170 t171 t172 bt173.1 bt173.2 false)) else (fourinhandlaw01_FixTells.j0 k a0 a1 a2 t150 t163 t164 t165 t166 t167 t168 t169 t170 t171 t172 bt173.1 bt173.2 false)) else (fourinhandlaw01_FixTells.j0 k a0 a1 a2 t150 t163 t164 t165 t166 t167 t168 t169 t170 t171 t172 bt173.1 bt173.2 false)) else (fourinhandlaw01_FixTells.j0 k a0 a1 a2 t150 t163 t164 t165 t166 t167 t168 t169 t170 t171 t172 bt173.1 bt173.2 false))) = some r := H
  have A15 := Aside0.mk A150
  clear A150
  replace H := Option.bind_eq_some_iff.mp H
  obtain ⟨⟨t173, t174⟩, A160, H⟩ := H
  replace H : (if t151 = t153 then (if (t152 == t154) = true then (if t155 = t157 then (if (t156 == t158) = true then (if t159 = t161 then (fourinhandlaw01_FixTells.j0 k a0 a1 a2 t150 t163 t164 t165 t166 t167 t168 t169 t170 t171 t172 t173 t174 (t160 == t162)) else (fourinhandlaw01_FixTells.j0 k a0 a1 a2 t150 t163 t164 t165 t166 t167 t168 t169 t170 t171 t172 t173 t174 false)) else (fourinhandlaw01_FixTells.j0 k a0 a1 a2 t150 t163 t164 t165 t166 t167 t168 t169 t170 t171 t172 t173 t174 false)) else (fourinhandlaw01_FixTells.j0 k a0 a1 a2 t150 t163 t164 t165 t166 t167 t168 t169 t170 t171 t172 t173 t174 false)) else (fourinhandlaw01_FixTells.j0 k a0 a1 a2 t150 t163 t164 t165 t166 t167 t168 t169 t170 t171 t172 t173 t174 false)) else (fourinhandlaw01_FixTells.j0 k a0 a1 a2 t150 t163 t164 t165 t166 t167 t168 t169 t170 t171 t172 t173 t174 false)) = some r := H
  have A16 := Aside0.mk A160
  clear A160
  have HC17 := Aside0.mk H
  clear H
  go_enter Try.func10, Try.ntmps10
  go_upto_region 14 with (first | ((with_reducible refine gate_callee (f := 11) rfl ?_); refine goesL_ (some 34) rfl rfl Try.func11 (by kernel_rfl) rfl #[] rfl (by (try simp only [List.map_toArray, List.map_cons, List.map_nil]); first | done | rfl | (simp only [List.length_drop, List.length_take]; rfl)) ?_; (with_reducible refine (fourinhandlaw01_awake.calls k  t150 _ A4.out).mono ?_); rintro e w18 ⟨rfl, hb⟩; refine ⟨_, rfl, ?_⟩; have n0_ := Aside0.mk (below_step (by repeat (first | (with_reducible first | exact HB.out | apply below_alloc | apply pw_below_drewN | apply below_drew1) | exact HB.out)) hb); clear HB; have HB := n0_; clear n0_; (try clear hb); (try clear hb2); (try clear hk); (try clear hi)) | ((with_reducible refine gate_callee (f := 17) rfl ?_); refine goesL_ (some 38) rfl rfl Try.func17 (by kernel_rfl) rfl #[.int .i64 a0, .int .i64 a1] rfl (by (try simp only [List.map_toArray, List.map_cons, List.map_nil]); first | done | rfl | (simp only [List.length_drop, List.length_take]; rfl)) ?_; (with_reducible refine (fix_Add.calls a0 a1 t151 t152 _ A5.out).mono ?_); rintro e w19 ⟨rfl, hb⟩; refine ⟨_, rfl, ?_⟩; have n0_ := Aside0.mk (below_step (by repeat (first | (with_reducible first | exact HB.out | apply below_alloc | apply pw_below_drewN | apply below_drew1) | exact HB.out)) hb); clear HB; have HB := n0_; clear n0_; (try clear hb); (try clear hb2); (try clear hk); (try clear hi)) | ((with_reducible refine gate_callee (f := 20) rfl ?_); refine goesL_ (some 44) rfl rfl Try.func20 (by kernel_rfl) rfl #[.int .i64 a0, .int .i64 a1] rfl (by (try simp only [List.map_toArray, List.map_cons, List.map_nil]); first | done | rfl | (simp only [List.length_drop, List.length_take]; rfl)) ?_; (with_reducible refine (fourinhandref01_Add.calls a0 a1 t153 t154 _ A6.out).mono ?_); rintro e w' ⟨rfl, ⟨nd, rfl⟩⟩; refine ⟨_, rfl, ?_⟩) | ((with_reducible refine gate_callee (f := 13) rfl ?_); refine goesL_ (some 51) rfl rfl Try.func13 (by kernel_rfl) rfl #[.int .i64 a0, .int .i64 a1, .int .i64 a2] rfl (by (try simp only [List.map_toArray, List.map_cons, List.map_nil]); first | done | rfl | (simp only [List.length_drop, List.length_take]; rfl)) ?_; (with_reducible refine (fix_MulDiv.calls k a0 a1 a2 t155 t156 _ A7.out).mono ?_); rintro e w20 ⟨rfl, hb⟩; refine ⟨_, rfl, ?_⟩; have n0_ := Aside0.mk (below_step (by repeat (first | (with_reducible first | exact HB.out | apply below_alloc | apply pw_below_drewN | apply below_drew1) | exact HB.out)) hb); clear HB; have HB := n0_; clear n0_; (try clear hb); (try clear hb2); (try clear hk); (try clear hi)) | ((with_reducible refine gate_callee (f := 21) rfl ?_); refine goesL_ (some 58) rfl rfl Try.func21 (by kernel_rfl) rfl #[.int .i64 a0, .int .i64 a1, .int .i64 a2] rfl (by (try simp only [List.map_toArray, List.map_cons, List.map_nil]); first | done | rfl | (simp only [List.length_drop, List.length_take]; rfl)) ?_; (with_reducible refine (fourinhandref01_MulDiv.calls k a0 a1 a2 t157 t158 _ A8.out).mono ?_); rintro e w' ⟨rfl, ⟨nd, rfl⟩⟩; refine ⟨_, rfl, ?_⟩) | ((with_reducible refine gate_callee (f := 12) rfl ?_); refine goesL_ (some 64) rfl rfl Try.func12 (by kernel_rfl) rfl #[.int .i64 a0, .int .i64 a1] rfl (by (try simp only [List.map_toArray, List.map_cons, List.map_nil]); first | done | rfl | (simp only [List.length_drop, List.length_take]; rfl)) ?_; (with_reducible refine (fix_Mul.calls k a0 a1 t159 t160 _ A9.out).mono ?_); rintro e w21 ⟨rfl, hb⟩; refine ⟨_, rfl, ?_⟩; have n0_ := Aside0.mk (below_step (by repeat (first | (with_reducible first | exact HB.out | apply below_alloc | apply pw_below_drewN | apply below_drew1) | exact HB.out)) hb); clear HB; have HB := n0_; clear n0_; (try clear hb); (try clear hb2); (try clear hk); (try clear hi)) | ((with_reducible refine gate_callee (f := 22) rfl ?_); refine goesL_ (some 70) rfl rfl Try.func22 (by kernel_rfl) rfl #[.int .i64 a0, .int .i64 a1] rfl (by (try simp only [List.map_toArray, List.map_cons, List.map_nil]); first | done | rfl | (simp only [List.length_drop, List.length_take]; rfl)) ?_; (with_reducible refine (fourinhandref01_Mul.calls k a0 a1 t161 t162 _ A10.out).mono ?_); rintro e w' ⟨rfl, ⟨nd, rfl⟩⟩; refine ⟨_, rfl, ?_⟩) | ((with_reducible refine gate_callee (f := 15) rfl ?_); refine goesL_ (some 76) rfl rfl Try.func15 (by kernel_rfl) rfl #[.int .i64 a0, .int .i64 a1] rfl (by (try simp only [List.map_toArray, List.map_cons, List.map_nil]); first | done | rfl | (simp only [List.length_drop, List.length_take]; rfl)) ?_; (with_reducible refine (fix_Div.calls k a0 a1 t163 t164 _ A11.out).mono ?_); rintro e w22 ⟨rfl, hb⟩; refine ⟨_, rfl, ?_⟩; have n0_ := Aside0.mk (below_step (by repeat (first | (with_reducible first | exact HB.out | apply below_alloc | apply pw_below_drewN | apply below_drew1) | exact HB.out)) hb); clear HB; have HB := n0_; clear n0_; (try clear hb); (try clear hb2); (try clear hk); (try clear hi)) | ((with_reducible refine gate_callee (f := 23) rfl ?_); refine goesL_ (some 82) rfl rfl Try.func23 (by kernel_rfl) rfl #[.int .i64 a0, .int .i64 a1] rfl (by (try simp only [List.map_toArray, List.map_cons, List.map_nil]); first | done | rfl | (simp only [List.length_drop, List.length_take]; rfl)) ?_; (with_reducible refine (fourinhandref01_Div.calls k a0 a1 t165 t166 _ A12.out).mono ?_); rintro e w' ⟨rfl, ⟨nd, rfl⟩⟩; refine ⟨_, rfl, ?_⟩) | ((with_reducible refine gate_callee (f := 18) rfl ?_); refine goesL_ (some 87) rfl rfl Try.func18 (by kernel_rfl) rfl #[.int .i64 a0] rfl (by (try simp only [List.map_toArray, List.map_cons, List.map_nil]); first | done | rfl | (simp only [List.length_drop, List.length_take]; rfl)) ?_; (with_reducible refine (fix_Sqrt.calls k a0 t167 t168 _ A13.out).mono ?_); rintro e w' ⟨rfl, ⟨nd, rfl⟩⟩; refine ⟨_, rfl, ?_⟩) | ((with_reducible refine gate_callee (f := 24) rfl ?_); refine goesL_ (some 92) rfl rfl Try.func24 (by kernel_rfl) rfl #[.int .i64 a0] rfl (by (try simp only [List.map_toArray, List.map_cons, List.map_nil]); first | done | rfl | (simp only [List.length_drop, List.length_take]; rfl)) ?_; (with_reducible refine (fourinhandref01_Sqrt.calls k a0 t169 t170 _ A14.out).mono ?_); rintro e w' ⟨rfl, ⟨nd, rfl⟩⟩; refine ⟨_, rfl, ?_⟩) | ((with_reducible refine gate_callee (f := 19) rfl ?_); refine goesL_ (some 99) rfl rfl Try.func19 (by kernel_rfl) rfl #[.int .i64 a0, .int .i64 a1, .int .i64 a2] rfl (by (try simp only [List.map_toArray, List.map_cons, List.map_nil]); first | done | rfl | (simp only [List.length_drop, List.length_take]; rfl)) ?_; (with_reducible refine (fix_Ewma.calls a0 a1 a2 t171 t172 _ A15.out).mono ?_); rintro e w23 ⟨rfl, hb⟩; refine ⟨_, rfl, ?_⟩; have n0_ := Aside0.mk (below_step (by repeat (first | (with_reducible first | exact HB.out | apply below_alloc | apply pw_below_drewN | apply below_drew1) | exact HB.out)) hb); clear HB; have HB := n0_; clear n0_; (try clear hb); (try clear hb2); (try clear hk); (try clear hi)) | ((with_reducible refine gate_callee (f := 25) rfl ?_); refine goesL_ (some 106) rfl rfl Try.func25 (by kernel_rfl) rfl #[.int .i64 a0, .int .i64 a1, .int .i64 a2] rfl (by (try simp only [List.map_toArray, List.map_cons, List.map_nil]); first | done | rfl | (simp only [List.length_drop, List.length_take]; rfl)) ?_; (with_reducible refine (fourinhandref01_Ewma.calls k a0 a1 a2 t173 t174 _ A16.out).mono ?_); rintro e w' ⟨rfl, ⟨nd, rfl⟩⟩; refine ⟨_, rfl, ?_⟩))
  (try simp only [Act.put, List.setIfInBounds_toArray, List.set_cons_zero, List.set_cons_succ])
  go_cut [32] (fun v32 wc => ∃ (kq : Nat) (x32_16 : Bool), v32 = .bool x32_16 ∧ Aside0 (fourinhandlaw01_FixTells.j0 kq a0 a1 a2 t150 t163 t164 t165 t166 t167 t168 t169 t170 t171 t172 t173 t174 x32_16 = some r) ∧ Aside0 (kq ≤ k) ∧ Aside0 (Below w.heap.size w wc))
  case first =>
    have H := HC17.out
    clear HC17
    by_cases c24 : t151 = t153
    · rw [if_pos c24] at H
      have c24b0 : (t151 == t153) = true := beq_iff_eq.mpr c24
      have c24b1 : (t151 != t153) = false := bne_eq_false_iff_eq.mpr c24
      clear c24
      (first | rw [c24b0] | (simp only [i64_w, i32_w]; rw [c24b0]) | skip)
      by_cases c25 : (t152 == t154) = true
      · rw [if_pos c25] at H
        have c25b0 : (t152 == t154) = true := c25
        (try (have c25b1 : decide (t152 = t154) = true := by simpa using c25))
        (try (have c25b2 : (t152 == t154) = true := by simpa using c25))
        clear c25
        by_cases c26 : t155 = t157
        · rw [if_pos c26] at H
          have c26b0 : (t155 == t157) = true := beq_iff_eq.mpr c26
          have c26b1 : (t155 != t157) = false := bne_eq_false_iff_eq.mpr c26
          clear c26
          by_cases c27 : (t156 == t158) = true
          · rw [if_pos c27] at H
            have c27b0 : (t156 == t158) = true := c27
            (try (have c27b1 : decide (t156 = t158) = true := by simpa using c27))
            (try (have c27b2 : (t156 == t158) = true := by simpa using c27))
            clear c27
            by_cases c28 : t159 = t161
            · rw [if_pos c28] at H
              have c28b0 : (t159 == t161) = true := beq_iff_eq.mpr c28
              have c28b1 : (t159 != t161) = false := bne_eq_false_iff_eq.mpr c28
              clear c28
              have H' := Aside0.mk H
              clear H
              go_wp2
              go_meet
              case rel => exact ⟨_, ((t160 == t162)), (by first | rfl | (simp; done) | (simp [*]; done)), H', ⟨by first | omega | exact Nat.le_refl _⟩, ⟨by repeat (first | (with_reducible first | exact HB.out | apply below_alloc | apply pw_below_drewN | apply below_drew1) | exact HB.out)⟩⟩
            · rw [if_neg c28] at H
              have c28b0 : (t159 == t161) = false := beq_eq_false_iff_ne.mpr c28
              have c28b1 : (t159 != t161) = true := bne_iff_ne.mpr c28
              have H' := Aside0.mk H
              clear H
              go_wp2
              go_meet
              case rel => exact ⟨_, (false), (by first | rfl | (simp; done) | (simp [*]; done)), H', ⟨by first | omega | exact Nat.le_refl _⟩, ⟨by repeat (first | (with_reducible first | exact HB.out | apply below_alloc | apply pw_below_drewN | apply below_drew1) | exact HB.out)⟩⟩
          · rw [if_neg c27] at H
            have c27b0 : (t156 == t158) = false := by simpa using c27
            (try (have c27b1 : decide (t156 = t158) = false := by simpa using c27))
            (try (have c27b2 : (t156 == t158) = false := by simpa using c27))
            (try (have c27b3 : ¬ (t156 = t158) := by simpa using c27))
            clear c27
            have H' := Aside0.mk H
            clear H
            go_wp2
            go_meet
            case rel => exact ⟨_, (false), (by first | rfl | (simp; done) | (simp [*]; done)), H', ⟨by first | omega | exact Nat.le_refl _⟩, ⟨by repeat (first | (with_reducible first | exact HB.out | apply below_alloc | apply pw_below_drewN | apply below_drew1) | exact HB.out)⟩⟩
        · rw [if_neg c26] at H
          have c26b0 : (t155 == t157) = false := beq_eq_false_iff_ne.mpr c26
          have c26b1 : (t155 != t157) = true := bne_iff_ne.mpr c26
          have H' := Aside0.mk H
          clear H
          go_wp2
          go_meet
          case rel => exact ⟨_, (false), (by first | rfl | (simp; done) | (simp [*]; done)), H', ⟨by first | omega | exact Nat.le_refl _⟩, ⟨by repeat (first | (with_reducible first | exact HB.out | apply below_alloc | apply pw_below_drewN | apply below_drew1) | exact HB.out)⟩⟩
      · rw [if_neg c25] at H
        have c25b0 : (t152 == t154) = false := by simpa using c25
        (try (have c25b1 : decide (t152 = t154) = false := by simpa using c25))
        (try (have c25b2 : (t152 == t154) = false := by simpa using c25))
        (try (have c25b3 : ¬ (t152 = t154) := by simpa using c25))
        clear c25
        have H' := Aside0.mk H
        clear H
        go_wp2
        go_meet
        case rel => exact ⟨_, (false), (by first | rfl | (simp; done) | (simp [*]; done)), H', ⟨by first | omega | exact Nat.le_refl _⟩, ⟨by repeat (first | (with_reducible first | exact HB.out | apply below_alloc | apply pw_below_drewN | apply below_drew1) | exact HB.out)⟩⟩
    · rw [if_neg c24] at H
      have c24b0 : (t151 == t153) = false := beq_eq_false_iff_ne.mpr c24
      have c24b1 : (t151 != t153) = true := bne_iff_ne.mpr c24
      (first | rw [c24b0] | (simp only [i64_w, i32_w]; rw [c24b0]) | skip)
      have H' := Aside0.mk H
      clear H
      go_wp2
      go_meet
      case rel => exact ⟨_, (false), (by first | rfl | (simp; done) | (simp [*]; done)), H', ⟨by first | omega | exact Nat.le_refl _⟩, ⟨by repeat (first | (with_reducible first | exact HB.out | apply below_alloc | apply pw_below_drewN | apply below_drew1) | exact HB.out)⟩⟩
  case rest =>
    clear HC17
    try clear c1
    try clear c2
    try clear p2
    try clear c10
    try clear c11
    try clear c12
    try clear c13
    try clear c15
    try clear c17
    try clear c18
    try clear c19
    try clear c20
    try clear c21
    try clear c22
    try clear c23
    try clear c24
    try clear c24b0
    try clear c24b1
    try clear c25
    try clear c25b0
    try clear c25b1
    try clear c25b2
    try clear c26
    try clear c26b0
    try clear c26b1
    try clear c27
    try clear c27b0
    try clear c27b1
    try clear c27b2
    try clear c28
    try clear c28b0
    try clear c28b1
    obtain ⟨kq, x32_16, rfl, HA, HJ16, HB⟩ := hcut
    cases kq with
    | zero => exact absurd HA.out (by simp [fourinhandlaw01_FixTells.j0])
    | succ kj16 =>
      have H := HA.out
      clear HA
      simp only [fourinhandlaw01_FixTells.j0] at H
      have HC29 := Aside0.mk H
      clear H
      go_upto_region 15 with (fail)
      go_cut [33] (fun v33 wc => ∃ (kq : Nat) (x33_28 : Bool), v33 = .bool x33_28 ∧ Aside0 (fourinhandlaw01_FixTells.j1 kq a0 a1 a2 t150 x32_16 x33_28 = some r) ∧ Aside0 (kq ≤ kj16) ∧ Aside0 (Below w.heap.size w wc))
      case first =>
        have H := HC29.out
        clear HC29
        by_cases c30 : t163 = t165
        · rw [if_pos c30] at H
          have c30b0 : (t163 == t165) = true := beq_iff_eq.mpr c30
          have c30b1 : (t163 != t165) = false := bne_eq_false_iff_eq.mpr c30
          clear c30
          (first | rw [c30b0] | (simp only [i64_w, i32_w]; rw [c30b0]) | skip)
          by_cases c31 : (t164 == t166) = true
          · rw [if_pos c31] at H
            have c31b0 : (t164 == t166) = true := c31
            (try (have c31b1 : decide (t164 = t166) = true := by simpa using c31))
            (try (have c31b2 : (t164 == t166) = true := by simpa using c31))
            clear c31
            by_cases c32 : t167 = t169
            · rw [if_pos c32] at H
              have c32b0 : (t167 == t169) = true := beq_iff_eq.mpr c32
              have c32b1 : (t167 != t169) = false := bne_eq_false_iff_eq.mpr c32
              clear c32
              by_cases c33 : (t168 == t170) = true
              · rw [if_pos c33] at H
                have c33b0 : (t168 == t170) = true := c33
                (try (have c33b1 : decide (t168 = t170) = true := by simpa using c33))
                (try (have c33b2 : (t168 == t170) = true := by simpa using c33))
                clear c33
                by_cases c34 : t171 = t173
                · rw [if_pos c34] at H
                  have c34b0 : (t171 == t173) = true := beq_iff_eq.mpr c34
                  have c34b1 : (t171 != t173) = false := bne_eq_false_iff_eq.mpr c34
                  clear c34
                  have H' := Aside0.mk H
                  clear H
                  go_wp2
                  go_meet
                  case rel => exact ⟨_, ((t172 == t174)), (by first | rfl | (simp; done) | (simp [*]; done)), H', ⟨by have := HJ16.out; first | omega | exact Nat.le_refl _⟩, ⟨by repeat (first | (with_reducible first | exact HB.out | apply below_alloc | apply pw_below_drewN | apply below_drew1) | exact HB.out)⟩⟩
                · rw [if_neg c34] at H
                  have c34b0 : (t171 == t173) = false := beq_eq_false_iff_ne.mpr c34
                  have c34b1 : (t171 != t173) = true := bne_iff_ne.mpr c34
                  have H' := Aside0.mk H
                  clear H
                  go_wp2
                  go_meet
                  case rel => exact ⟨_, (false), (by first | rfl | (simp; done) | (simp [*]; done)), H', ⟨by have := HJ16.out; first | omega | exact Nat.le_refl _⟩, ⟨by repeat (first | (with_reducible first | exact HB.out | apply below_alloc | apply pw_below_drewN | apply below_drew1) | exact HB.out)⟩⟩
              · rw [if_neg c33] at H
                have c33b0 : (t168 == t170) = false := by simpa using c33
                (try (have c33b1 : decide (t168 = t170) = false := by simpa using c33))
                (try (have c33b2 : (t168 == t170) = false := by simpa using c33))
                (try (have c33b3 : ¬ (t168 = t170) := by simpa using c33))
                clear c33
                have H' := Aside0.mk H
                clear H
                go_wp2
                go_meet
                case rel => exact ⟨_, (false), (by first | rfl | (simp; done) | (simp [*]; done)), H', ⟨by have := HJ16.out; first | omega | exact Nat.le_refl _⟩, ⟨by repeat (first | (with_reducible first | exact HB.out | apply below_alloc | apply pw_below_drewN | apply below_drew1) | exact HB.out)⟩⟩
            · rw [if_neg c32] at H
              have c32b0 : (t167 == t169) = false := beq_eq_false_iff_ne.mpr c32
              have c32b1 : (t167 != t169) = true := bne_iff_ne.mpr c32
              have H' := Aside0.mk H
              clear H
              go_wp2
              go_meet
              case rel => exact ⟨_, (false), (by first | rfl | (simp; done) | (simp [*]; done)), H', ⟨by have := HJ16.out; first | omega | exact Nat.le_refl _⟩, ⟨by repeat (first | (with_reducible first | exact HB.out | apply below_alloc | apply pw_below_drewN | apply below_drew1) | exact HB.out)⟩⟩
          · rw [if_neg c31] at H
            have c31b0 : (t164 == t166) = false := by simpa using c31
            (try (have c31b1 : decide (t164 = t166) = false := by simpa using c31))
            (try (have c31b2 : (t164 == t166) = false := by simpa using c31))
            (try (have c31b3 : ¬ (t164 = t166) := by simpa using c31))
            clear c31
            have H' := Aside0.mk H
            clear H
            go_wp2
            go_meet
            case rel => exact ⟨_, (false), (by first | rfl | (simp; done) | (simp [*]; done)), H', ⟨by have := HJ16.out; first | omega | exact Nat.le_refl _⟩, ⟨by repeat (first | (with_reducible first | exact HB.out | apply below_alloc | apply pw_below_drewN | apply below_drew1) | exact HB.out)⟩⟩
        · rw [if_neg c30] at H
          have c30b0 : (t163 == t165) = false := beq_eq_false_iff_ne.mpr c30
          have c30b1 : (t163 != t165) = true := bne_iff_ne.mpr c30
          (first | rw [c30b0] | (simp only [i64_w, i32_w]; rw [c30b0]) | skip)
          have H' := Aside0.mk H
          clear H
          go_wp2
          go_meet
          case rel => exact ⟨_, (false), (by first | rfl | (simp; done) | (simp [*]; done)), H', ⟨by have := HJ16.out; first | omega | exact Nat.le_refl _⟩, ⟨by repeat (first | (with_reducible first | exact HB.out | apply below_alloc | apply pw_below_drewN | apply below_drew1) | exact HB.out)⟩⟩
      case rest =>
        clear HC29
        try clear c1
        try clear c2
        try clear p2
        try clear c3
        try clear c10
        try clear c11
        try clear c12
        try clear c13
        try clear c15
        try clear c17
        try clear c18
        try clear c19
        try clear c20
        try clear c21
        try clear c22
        try clear c23
        try clear c24
        try clear c24b0
        try clear c24b1
        try clear c25
        try clear c25b0
        try clear c25b1
        try clear c25b2
        try clear c26
        try clear c26b0
        try clear c26b1
        try clear c27
        try clear c27b0
        try clear c27b1
        try clear c27b2
        try clear c28
        try clear c28b0
        try clear c28b1
        try clear c30
        try clear c30b0
        try clear c30b1
        try clear c31
        try clear c31b0
        try clear c31b1
        try clear c31b2
        try clear c32
        try clear c32b0
        try clear c32b1
        try clear c33
        try clear c33b0
        try clear c33b1
        try clear c33b2
        try clear c34
        try clear c34b0
        try clear c34b1
        try clear p2
        obtain ⟨kq, x33_28, rfl, HA, HJ28, HB⟩ := hcut
        cases kq with
        | zero => exact absurd HA.out (by simp [fourinhandlaw01_FixTells.j1])
        | succ kj28 =>
          have H := HA.out
          clear HA
          simp only [fourinhandlaw01_FixTells.j1] at H
          by_cases c35 : t150 = true
          · subst c35
            have H1 : (if x32_16 = true then (if x33_28 = true then ((fix_Clamp.f a0 a1 a2).bind fun t175 => ((fourinhandref01_Clamp.f kj28 a0 a1 a2).bind fun t176 => (if t175 = t176 then ((fix_In.f a0).bind fun t177 => ((fourinhandref01_In.f a0).bind fun t178 => (some (t177 == t178)))) else (some false)))) else (some false)) else (some false)) = some r := by rw [if_pos rfl] at H; exact H
            clear H
            have H := H1
            clear H1
            by_cases c36 : x32_16 = true
            · subst c36
              have H1 : (if x33_28 = true then ((fix_Clamp.f a0 a1 a2).bind fun t175 => ((fourinhandref01_Clamp.f kj28 a0 a1 a2).bind fun t176 => (if t175 = t176 then ((fix_In.f a0).bind fun t177 => ((fourinhandref01_In.f a0).bind fun t178 => (some (t177 == t178)))) else (some false)))) else (some false)) = some r := by rw [if_pos rfl] at H; exact H
              clear H
              have H := H1
              clear H1
              by_cases c37 : x33_28 = true
              · subst c37
                have H1 : ((fix_Clamp.f a0 a1 a2).bind fun t175 => ((fourinhandref01_Clamp.f kj28 a0 a1 a2).bind fun t176 => (if t175 = t176 then ((fix_In.f a0).bind fun t177 => ((fourinhandref01_In.f a0).bind fun t178 => (some (t177 == t178)))) else (some false)))) = some r := by rw [if_pos rfl] at H; exact H
                clear H
                have H := H1
                clear H1
                replace H := Option.bind_eq_some_iff.mp H
                obtain ⟨t175, A380, H⟩ := H
                replace H : ((fourinhandref01_Clamp.f kj28 a0 a1 a2).bind fun t176 => (if t175 = t176 then ((fix_In.f a0).bind fun t177 => ((fourinhandref01_In.f a0).bind fun t178 => (some (t177 == t178)))) else (some false))) = some r := H
                have A38 := Aside0.mk A380
                clear A380
                replace H := Option.bind_eq_some_iff.mp H
                obtain ⟨t176, A390, H⟩ := H
                replace H : (if t175 = t176 then ((fix_In.f a0).bind fun t177 => ((fourinhandref01_In.f a0).bind fun t178 => (some (t177 == t178)))) else (some false)) = some r := H
                have A39 := Aside0.mk A390
                clear A390
                by_cases c40 : t175 = t176
                · rw [if_pos c40] at H
                  have c40b0 : (t175 == t176) = true := beq_iff_eq.mpr c40
                  have c40b1 : (t175 != t176) = false := bne_eq_false_iff_eq.mpr c40
                  clear c40
                  replace H := Option.bind_eq_some_iff.mp H
                  obtain ⟨t177, A410, H⟩ := H
                  replace H : ((fourinhandref01_In.f a0).bind fun t178 => (some (t177 == t178))) = some r := H
                  have A41 := Aside0.mk A410
                  clear A410
                  replace H := Option.bind_eq_some_iff.mp H
                  obtain ⟨t178, A420, H⟩ := H
                  replace H : (some (t177 == t178)) = some r := H
                  have A42 := Aside0.mk A420
                  clear A420
                  obtain rfl := Option.some.inj H
                  go_wp2_with (first | (go_at_call 16; (with_reducible refine (fix_Clamp.calls a0 a1 a2 t175 _ A38.out).mono ?_); rintro e w43 ⟨rfl, hb⟩; have n0_ := Aside0.mk (below_step (by repeat (first | (with_reducible first | exact HB.out | apply below_alloc | apply pw_below_drewN | apply below_drew1) | exact HB.out)) hb); clear HB; have HB := n0_; clear n0_; (try clear hb); (try clear hb2); (try clear hk); (try clear hi)) | (go_at_call 26; (with_reducible refine (fourinhandref01_Clamp.calls kj28 a0 a1 a2 t176 _ A39.out).mono ?_); rintro e w' ⟨rfl, ⟨nd, rfl⟩⟩) | (go_at_call 14; (with_reducible refine (fix_In.calls a0 t177 _ A41.out).mono ?_); rintro e w' ⟨rfl, ⟨nd, rfl⟩⟩) | (go_at_call 27; (with_reducible refine (fourinhandref01_In.calls a0 t178 _ A42.out).mono ?_); rintro e w' ⟨rfl, ⟨nd, rfl⟩⟩))
                  go_ret
                  exact ⟨by first | rfl | (simp [errW_none, errW_some] <;> rfl) | (simp [*, errW_none, errW_some] <;> rfl), by repeat (first | (with_reducible first | exact HB.out | apply below_alloc | apply pw_below_drewN | apply below_drew1) | exact HB.out)⟩
                · rw [if_neg c40] at H
                  have c40b0 : (t175 == t176) = false := beq_eq_false_iff_ne.mpr c40
                  have c40b1 : (t175 != t176) = true := bne_iff_ne.mpr c40
                  exact Bool.noConfusion ((Option.some.inj H).trans hr_.out)
              · replace c37 := Bool.eq_false_iff.mpr c37
                subst c37
                have H1 : (some false) = some r := by rw [if_neg (show ¬ (false = true) by decide)] at H; exact H
                clear H
                have H := H1
                clear H1
                exact Bool.noConfusion ((Option.some.inj H).trans hr_.out)
            · replace c36 := Bool.eq_false_iff.mpr c36
              subst c36
              have H1 : (some false) = some r := by rw [if_neg (show ¬ (false = true) by decide)] at H; exact H
              clear H
              have H := H1
              clear H1
              exact Bool.noConfusion ((Option.some.inj H).trans hr_.out)
          · replace c35 := Bool.eq_false_iff.mpr c35
            subst c35
            have H1 : (some false) = some r := by rw [if_neg (show ¬ (false = true) by decide)] at H; exact H
            clear H
            have H := H1
            clear H1
            exact Bool.noConfusion ((Option.some.inj H).trans hr_.out)

/-- THE ONE PURE STATEMENT of fourinhandlaw01_FixTells: yours. -/
def fourinhandlaw01_FixTells.Pure : Prop := ∀ (a0 : Int) (a1 : Int) (a2 : Int), (Lit.int .i64 a0).wf = true → (Lit.int .i64 a1).wf = true → (Lit.int .i64 a2).wf = true → ∃ k, fourinhandlaw01_FixTells.f k a0 a1 a2 = some true
theorem fourinhandlaw01_FixTells.walk (P : fourinhandlaw01_FixTells.Pure) (a0 : Int) (a1 : Int) (a2 : Int) (w : World) (w0 : (Lit.int .i64 a0).wf = true) (w1 : (Lit.int .i64 a1).wf = true) (w2 : (Lit.int .i64 a2).wf = true) :
    Calls Try.prog 10 #[.int .i64 a0, .int .i64 a1, .int .i64 a2] w fun e w' => e = .returned (.bool true) ∧ Below w.heap.size w w' := by
  obtain ⟨k, h⟩ := P a0 a1 a2 w0 w1 w2
  refine (fourinhandlaw01_FixTells.calls k a0 a1 a2 true ⟨rfl⟩ w h).mono ?_
  rintro e w' ⟨rfl, hd⟩
  exact ⟨rfl, hd⟩

end Go.Proofs.Ytieiamkcdgppaaa.PFixTells
