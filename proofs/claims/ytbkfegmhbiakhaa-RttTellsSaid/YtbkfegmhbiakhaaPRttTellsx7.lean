-- Written by a program of this session (wip/hprint.py), over the kit's print.py: the walk of one law. Lean checks it.
import Derived.Test.YtbkfegmhbiakhaaPRttTellsx0
import Derived.Test.YtbkfegmhbiakhaaPRttTellsx1
import Derived.Test.YtbkfegmhbiakhaaPRttTellsx2
import Derived.Test.YtbkfegmhbiakhaaPRttTellsx3
import Derived.Test.YtbkfegmhbiakhaaPRttTellsx4
import Derived.Test.YtbkfegmhbiakhaaPRttTellsx5
import Derived.Test.YtbkfegmhbiakhaaPRttTellsx6
namespace Go.Proofs.Ytbkfegmhbiakhaa.PRttTells
open Go.RowKit Go.Proofs.YtbkfegmhbiakhaaW.PrintWords Go.Proofs.YtbkfegmhbiakhaaW.PrintLast Go.Proofs.YtbkfegmhbiakhaaW.PrintMore
attribute [local go_sem] max2_int min2_int max_two min_two max_three min_three max_four min_four   -- for this text's walks alone
set_option linter.unusedVariables false
set_option linter.unusedSimpArgs false

attribute [local go_sem high] eqA23
/-! ### fourinhandlaw08_RttTells: function 7 -/
def fourinhandlaw08_RttTells.f (k : Nat) (a0_0 : Bool) (a0_1 : Int) (a0_2 : Int) (a0_3 : Int) (a0_4 : Int) (a1 : Int) (a2 : Int) (a3 : Int) : Option (Bool) := (fourinhandlaw08_awake.f k).bind fun t184 => ((rtt_Sample.f k a0_0 a0_1 a0_2 a0_3 a0_4 a1 a2 a3).bind fun bt185 => ((fourinhandref08_Sample.f k a0_0 a0_1 a0_2 a0_3 a0_4 a1 a2 a3).bind fun bt192 => ((rtt_Double.f k a0_0 a0_1 a0_2 a0_3 a0_4).bind fun bt199 => ((fourinhandref08_Double.f k a0_0 a0_1 a0_2 a0_3 a0_4).bind fun bt206 => (if t184 = true then (if (bt185.1 == bt192.1 && (bt185.2.1 == bt192.2.1 && (bt185.2.2.1 == bt192.2.2.1 && (bt185.2.2.2.1 == bt192.2.2.2.1 && (bt185.2.2.2.2.1 == bt192.2.2.2.2.1))))) = true then (if bt185.2.2.2.2.2 = bt192.2.2.2.2.2 then (if (bt199.1 == bt206.1 && (bt199.2.1 == bt206.2.1 && (bt199.2.2.1 == bt206.2.2.1 && (bt199.2.2.2.1 == bt206.2.2.2.1 && (bt199.2.2.2.2.1 == bt206.2.2.2.2.1))))) = true then (if bt199.2.2.2.2.2 = bt206.2.2.2.2.2 then ((rtt_Wait.f k a0_0 a0_1 a0_2 a0_3 a0_4 a3).bind fun t213 => ((fourinhandref08_Wait.f k a0_0 a0_1 a0_2 a0_3 a0_4 a3).bind fun t214 => (if t213 = t214 then ((rtt_May.f k a0_0 a0_1 a0_2 a0_3 a0_4).bind fun t215 => ((fourinhandref08_May.f a0_0 a0_1 a0_2 a0_3 a0_4).bind fun t216 => (some (t215 == t216)))) else (some false)))) else (some false)) else (some false)) else (some false)) else (some false)) else (some false))))))
theorem fourinhandlaw08_RttTells.mono : ∀ a0 a1 a2 a3 a4 a5 a6 a7 k, LeO (fourinhandlaw08_RttTells.f k a0 a1 a2 a3 a4 a5 a6 a7) (fourinhandlaw08_RttTells.f (k + 1) a0 a1 a2 a3 a4 a5 a6 a7) := by
  intro a0 a1 a2 a3 a4 a5 a6 a7 k
  unfold fourinhandlaw08_RttTells.f
  repeat' first
      | (with_reducible exact fourinhandlaw08_awake.mono _)
      | (with_reducible exact fourinhandref08_Double.mono _ _ _ _ _ _)
      | (with_reducible exact fourinhandref08_Sample.mono _ _ _ _ _ _ _ _ _)
      | (with_reducible exact fourinhandref08_Wait.mono _ _ _ _ _ _ _)
      | (with_reducible exact rtt_Double.mono _ _ _ _ _ _)
      | (with_reducible exact rtt_May.mono _ _ _ _ _ _)
      | (with_reducible exact rtt_Sample.mono _ _ _ _ _ _ _ _ _)
      | (with_reducible exact rtt_Wait.mono _ _ _ _ _ _ _)
      | (with_reducible exact LeO.refl _)
      | (with_reducible exact LeO.none _)
      | (with_reducible refine LeO.ite ?_ ?_)
      | (with_reducible refine LeO.bind ?_ (fun _ => ?_))
      | exact fourinhandlaw08_awake.mono _
      | exact fourinhandref08_Double.mono _ _ _ _ _ _
      | exact fourinhandref08_Sample.mono _ _ _ _ _ _ _ _ _
      | exact fourinhandref08_Wait.mono _ _ _ _ _ _ _
      | exact rtt_Double.mono _ _ _ _ _ _
      | exact rtt_May.mono _ _ _ _ _ _
      | exact rtt_Sample.mono _ _ _ _ _ _ _ _ _
      | exact rtt_Wait.mono _ _ _ _ _ _ _
      | exact LeO.none _
      | refine LeO.ite ?_ ?_
      | refine LeO.bind ?_ (fun _ => ?_)
def fourinhandlaw08_RttTells.T6 : Bool × List (List Nat × List Nat) := (true, [([], []), ([0], [0]), ([1], [1]), ([1], [1]), ([2, 3, 1], [1, 2, 3]), ([1, 4], [1, 4]), ([5, 1], [5]), ([6], [6]), ([6], [6]), ([7, 8, 6], [6, 7, 8]), ([6, 9], [6, 9]), ([10, 6], [10]), ([11], [11]), ([11], [11]), ([12, 13, 11], [11, 12, 13]), ([11, 14], [11, 14]), ([15, 11], [15]), ([16], [16]), ([16], [16]), ([17, 18, 16], [16, 17, 18]), ([16, 19], [16, 19]), ([20, 16], [20]), ([21], [21]), ([21], [21]), ([22, 23, 21, 21], [21, 22, 23]), ([21], [21]), ([21], [21]), ([25, 26, 24, 21], [21, 25, 26]), ([24, 27, 21], [21, 24, 27]), ([21, 28], [21, 28]), ([29, 27], [29]), ([30], [30]), ([31, 30, 30], [30, 31]), ([30], [30]), ([33, 32, 30], [30, 33]), ([32, 34, 30], [30, 32, 34]), ([30, 35], [30, 35]), ([36, 34, 0, 1, 2, 3, 4, 5, 6, 7, 8, 9, 10, 11, 12, 13, 14, 15, 16, 17, 18, 19, 20, 21, 22, 23, 24, 25, 26, 27, 28, 29, 30, 31, 32, 33, 34, 35, 36], [36])])
def fourinhandlaw08_RttTells.B6 : List Nat := [0, 1, 3, 3, 15, 31, 63, 127, 127, 511, 1023, 2047, 4095, 4095, 16383, 32767, 65535, 131071, 131071, 524287, 1048575, 2097151, 4194303, 4194303, 16777215, 4194303, 4194303, 134217727, 268435455, 536870911, 1073741823, 2147483647, 4294967295, 2147483647, 17179869183, 34359738367, 68719476735, 137438953471]
theorem fourinhandlaw08_RttTells.tab6 : rtab .any (opsOf Try.f7 6) = fourinhandlaw08_RttTells.T6 := by kernel_rfl
theorem fourinhandlaw08_RttTells.bits6 : waitsOk fourinhandlaw08_RttTells.T6.2 fourinhandlaw08_RttTells.B6 = true := by kernel_rfl
set_option maxHeartbeats 8000000 in
set_option maxRecDepth 100000 in
theorem fourinhandlaw08_RttTells.calls (k : Nat) (a0_0 : Bool) (a0_1 : Int) (a0_2 : Int) (a0_3 : Int) (a0_4 : Int) (a1 : Int) (a2 : Int) (a3 : Int) (r : Bool) (hr_ : Aside0 (r = true)) (w : World) (h : fourinhandlaw08_RttTells.f k a0_0 a0_1 a0_2 a0_3 a0_4 a1 a2 a3 = some r) :
    Calls Try.prog 7 #[.agg #[.bool a0_0, .int .i64 a0_1, .int .i64 a0_2, .int .i64 a0_3, .int .i64 a0_4], .int .i64 a1, .int .i64 a2, .int .i64 a3] w fun e w' => e = .returned (.bool r) ∧ Below w.heap.size w w' := by
  have hu23 := Try.underlying23
  have HB := Aside0.mk (Below.refl w.heap.size w)
  have H : ((fourinhandlaw08_awake.f k).bind fun t184 => ((rtt_Sample.f k a0_0 a0_1 a0_2 a0_3 a0_4 a1 a2 a3).bind fun bt185 => ((fourinhandref08_Sample.f k a0_0 a0_1 a0_2 a0_3 a0_4 a1 a2 a3).bind fun bt192 => ((rtt_Double.f k a0_0 a0_1 a0_2 a0_3 a0_4).bind fun bt199 => ((fourinhandref08_Double.f k a0_0 a0_1 a0_2 a0_3 a0_4).bind fun bt206 => (if t184 = true then (if (bt185.1 == bt192.1 && (bt185.2.1 == bt192.2.1 && (bt185.2.2.1 == bt192.2.2.1 && (bt185.2.2.2.1 == bt192.2.2.2.1 && (bt185.2.2.2.2.1 == bt192.2.2.2.2.1))))) = true then (if bt185.2.2.2.2.2 = bt192.2.2.2.2.2 then (if (bt199.1 == bt206.1 && (bt199.2.1 == bt206.2.1 && (bt199.2.2.1 == bt206.2.2.1 && (bt199.2.2.2.1 == bt206.2.2.2.1 && (bt199.2.2.2.2.1 == bt206.2.2.2.2.1))))) = true then (if bt199.2.2.2.2.2 = bt206.2.2.2.2.2 then ((rtt_Wait.f k a0_0 a0_1 a0_2 a0_3 a0_4 a3).bind fun t213 => ((fourinhandref08_Wait.f k a0_0 a0_1 a0_2 a0_3 a0_4 a3).bind fun t214 => (if t213 = t214 then ((rtt_May.f k a0_0 a0_1 a0_2 a0_3 a0_4).bind fun t215 => ((fourinhandref08_May.f a0_0 a0_1 a0_2 a0_3 a0_4).bind fun t216 => (some (t215 == t216)))) else (some false)))) else (some false)) else (some false)) else (some false)) else (some false)) else (some false))))))) = some r := h
  clear h
  replace H := Option.bind_eq_some_iff.mp H
  obtain ⟨t184, A50, H⟩ := H
  replace H : ((rtt_Sample.f k a0_0 a0_1 a0_2 a0_3 a0_4 a1 a2 a3).bind fun bt185 => ((fourinhandref08_Sample.f k a0_0 a0_1 a0_2 a0_3 a0_4 a1 a2 a3).bind fun bt192 => ((rtt_Double.f k a0_0 a0_1 a0_2 a0_3 a0_4).bind fun bt199 => ((fourinhandref08_Double.f k a0_0 a0_1 a0_2 a0_3 a0_4).bind fun bt206 => (if t184 = true then (if (bt185.1 == bt192.1 && (bt185.2.1 == bt192.2.1 && (bt185.2.2.1 == bt192.2.2.1 && (bt185.2.2.2.1 == bt192.2.2.2.1 && (bt185.2.2.2.2.1 == bt192.2.2.2.2.1))))) = true then (if bt185.2.2.2.2.2 = bt192.2.2.2.2.2 then (if (bt199.1 == bt206.1 && (bt199.2.1 == bt206.2.1 && (bt199.2.2.1 == bt206.2.2.1 && (bt199.2.2.2.1 == bt206.2.2.2.1 && (bt199.2.2.2.2.1 == bt206.2.2.2.2.1))))) = true then (if bt199.2.2.2.2.2 = bt206.2.2.2.2.2 then ((rtt_Wait.f k a0_0 a0_1 a0_2 a0_3 a0_4 a3).bind fun t213 => ((fourinhandref08_Wait.f k a0_0 a0_1 a0_2 a0_3 a0_4 a3).bind fun t214 => (if t213 = t214 then ((rtt_May.f k a0_0 a0_1 a0_2 a0_3 a0_4).bind fun t215 => ((fourinhandref08_May.f a0_0 a0_1 a0_2 a0_3 a0_4).bind fun t216 => (some (t215 == t216)))) else (some false)))) else (some false)) else (some false)) else (some false)) else (some false)) else (some false)))))) = some r := H
  have A5 := Aside0.mk A50
  clear A50
  replace H := Option.bind_eq_some_iff.mp H
  obtain ⟨⟨t185, t186, t187, t188, t189, t190⟩, A60, H⟩ := H
  replace H : ((fourinhandref08_Sample.f k a0_0 a0_1 a0_2 a0_3 a0_4 a1 a2 a3).bind fun bt192 => ((rtt_Double.f k a0_0 a0_1 a0_2 a0_3 a0_4).bind fun bt199 => ((fourinhandref08_Double.f k a0_0 a0_1 a0_2 a0_3 a0_4).bind fun bt206 => (if t184 = true then (if (t185 == bt192.1 && (t186 == bt192.2.1 && (t187 == bt192.2.2.1 && (t188 == bt192.2.2.2.1 && (t189 == bt192.2.2.2.2.1))))) = true then (if t190 = bt192.2.2.2.2.2 then (if (bt199.1 == bt206.1 && (bt199.2.1 == bt206.2.1 && (bt199.2.2.1 == bt206.2.2.1 && (bt199.2.2.2.1 == bt206.2.2.2.1 && (bt199.2.2.2.2.1 == bt206.2.2.2.2.1))))) = true then (if bt199.2.2.2.2.2 = bt206.2.2.2.2.2 then ((rtt_Wait.f k a0_0 a0_1 a0_2 a0_3 a0_4 a3).bind fun t213 => ((fourinhandref08_Wait.f k a0_0 a0_1 a0_2 a0_3 a0_4 a3).bind fun t214 => (if t213 = t214 then ((rtt_May.f k a0_0 a0_1 a0_2 a0_3 a0_4).bind fun t215 => ((fourinhandref08_May.f a0_0 a0_1 a0_2 a0_3 a0_4).bind fun t216 => (some (t215 == t216)))) else (some false)))) else (some false)) else (some false)) else (some false)) else (some false)) else (some false))))) = some r := H
  have A6 := Aside0.mk A60
  clear A60
  replace H := Option.bind_eq_some_iff.mp H
  obtain ⟨⟨t192, t193, t194, t195, t196, t197⟩, A70, H⟩ := H
  replace H : ((rtt_Double.f k a0_0 a0_1 a0_2 a0_3 a0_4).bind fun bt199 => ((fourinhandref08_Double.f k a0_0 a0_1 a0_2 a0_3 a0_4).bind fun bt206 => (if t184 = true then (if (t185 == t192 && (t186 == t193 && (t187 == t194 && (t188 == t195 && (t189 == t196))))) = true then (if t190 = t197 then (if (bt199.1 == bt206.1 && (bt199.2.1 == bt206.2.1 && (bt199.2.2.1 == bt206.2.2.1 && (bt199.2.2.2.1 == bt206.2.2.2.1 && (bt199.2.2.2.2.1 == bt206.2.2.2.2.1))))) = true then (if bt199.2.2.2.2.2 = bt206.2.2.2.2.2 then ((rtt_Wait.f k a0_0 a0_1 a0_2 a0_3 a0_4 a3).bind fun t213 => ((fourinhandref08_Wait.f k a0_0 a0_1 a0_2 a0_3 a0_4 a3).bind fun t214 => (if t213 = t214 then ((rtt_May.f k a0_0 a0_1 a0_2 a0_3 a0_4).bind fun t215 => ((fourinhandref08_May.f a0_0 a0_1 a0_2 a0_3 a0_4).bind fun t216 => (some (t215 == t216)))) else (some false)))) else (some false)) else (some false)) else (some false)) else (some false)) else (some false)))) = some r := H
  have A7 := Aside0.mk A70
  clear A70
  replace H := Option.bind_eq_some_iff.mp H
  obtain ⟨⟨t199, t200, t201, t202, t203, t204⟩, A80, H⟩ := H
  replace H : ((fourinhandref08_Double.f k a0_0 a0_1 a0_2 a0_3 a0_4).bind fun bt206 => (if t184 = true then (if (t185 == t192 && (t186 == t193 && (t187 == t194 && (t188 == t195 && (t189 == t196))))) = true then (if t190 = t197 then (if (t199 == bt206.1 && (t200 == bt206.2.1 && (t201 == bt206.2.2.1 && (t202 == bt206.2.2.2.1 && (t203 == bt206.2.2.2.2.1))))) = true then (if t204 = bt206.2.2.2.2.2 then ((rtt_Wait.f k a0_0 a0_1 a0_2 a0_3 a0_4 a3).bind fun t213 => ((fourinhandref08_Wait.f k a0_0 a0_1 a0_2 a0_3 a0_4 a3).bind fun t214 => (if t213 = t214 then ((rtt_May.f k a0_0 a0_1 a0_2 a0_3 a0_4).bind fun t215 => ((fourinhandref08_May.f a0_0 a0_1 a0_2 a0_3 a0_4).bind fun t216 => (some (t215 == t216)))) else (some false)))) else (some false)) else (some false)) else (some false)) else (some false)) else (some false))) = some r := H
  have A8 := Aside0.mk A80
  clear A80
  replace H := Option.bind_eq_some_iff.mp H
  obtain ⟨⟨t206, t207, t208, t209, t210, t211⟩, A90, H⟩ := H
  replace H : (if t184 = true then (if (t185 == t192 && (t186 == t193 && (t187 == t194 && (t188 == t195 && (t189 == t196))))) = true then (if t190 = t197 then (if (t199 == t206 && (t200 == t207 && (t201 == t208 && (t202 == t209 && (t203 == t210))))) = true then (if t204 = t211 then ((rtt_Wait.f k a0_0 a0_1 a0_2 a0_3 a0_4 a3).bind fun t213 => ((fourinhandref08_Wait.f k a0_0 a0_1 a0_2 a0_3 a0_4 a3).bind fun t214 => (if t213 = t214 then ((rtt_May.f k a0_0 a0_1 a0_2 a0_3 a0_4).bind fun t215 => ((fourinhandref08_May.f a0_0 a0_1 a0_2 a0_3 a0_4).bind fun t216 => (some (t215 == t216)))) else (some false)))) else (some false)) else (some false)) else (some false)) else (some false)) else (some false)) = some r := H
  have A9 := Aside0.mk A90
  clear A90
  by_cases c10 : t184 = true
  · subst c10
    have H1 : (if (t185 == t192 && (t186 == t193 && (t187 == t194 && (t188 == t195 && (t189 == t196))))) = true then (if t190 = t197 then (if (t199 == t206 && (t200 == t207 && (t201 == t208 && (t202 == t209 && (t203 == t210))))) = true then (if t204 = t211 then ((rtt_Wait.f k a0_0 a0_1 a0_2 a0_3 a0_4 a3).bind fun t213 => ((fourinhandref08_Wait.f k a0_0 a0_1 a0_2 a0_3 a0_4 a3).bind fun t214 => (if t213 = t214 then ((rtt_May.f k a0_0 a0_1 a0_2 a0_3 a0_4).bind fun t215 => ((fourinhandref08_May.f a0_0 a0_1 a0_2 a0_3 a0_4).bind fun t216 => (some (t215 == t216)))) else (some false)))) else (some false)) else (some false)) else (some false)) else (some false)) = some r := by rw [if_pos rfl] at H; exact H
    clear H
    have H := H1
    clear H1
    by_cases c11 : (t185 == t192 && (t186 == t193 && (t187 == t194 && (t188 == t195 && (t189 == t196))))) = true
    · rw [if_pos c11] at H
      have c11b0 : (t185 == t192 && (t186 == t193 && (t187 == t194 && (t188 == t195 && (t189 == t196))))) = true := c11
      (try (have c11b1 : decide (t185 = t192 && (t186 == t193 && (t187 == t194 && (t188 == t195 && (t189 == t196))))) = true := by simpa using c11))
      (try (have c11b2 : (t185 == t192 && (t186 == t193 && (t187 == t194 && (t188 == t195 && (t189 == t196))))) = true := by simpa using c11))
      clear c11
      by_cases c12 : t190 = t197
      · rw [if_pos c12] at H
        have c12b0 : (t190 == t197) = true := beq_iff_eq.mpr c12
        have c12b1 : (t190 != t197) = false := bne_eq_false_iff_eq.mpr c12
        clear c12
        by_cases c13 : (t199 == t206 && (t200 == t207 && (t201 == t208 && (t202 == t209 && (t203 == t210))))) = true
        · rw [if_pos c13] at H
          have c13b0 : (t199 == t206 && (t200 == t207 && (t201 == t208 && (t202 == t209 && (t203 == t210))))) = true := c13
          (try (have c13b1 : decide (t199 = t206 && (t200 == t207 && (t201 == t208 && (t202 == t209 && (t203 == t210))))) = true := by simpa using c13))
          (try (have c13b2 : (t199 == t206 && (t200 == t207 && (t201 == t208 && (t202 == t209 && (t203 == t210))))) = true := by simpa using c13))
          clear c13
          by_cases c14 : t204 = t211
          · rw [if_pos c14] at H
            have c14b0 : (t204 == t211) = true := beq_iff_eq.mpr c14
            have c14b1 : (t204 != t211) = false := bne_eq_false_iff_eq.mpr c14
            clear c14
            replace H := Option.bind_eq_some_iff.mp H
            obtain ⟨t213, A150, H⟩ := H
            replace H : ((fourinhandref08_Wait.f k a0_0 a0_1 a0_2 a0_3 a0_4 a3).bind fun t214 => (if t213 = t214 then ((rtt_May.f k a0_0 a0_1 a0_2 a0_3 a0_4).bind fun t215 => ((fourinhandref08_May.f a0_0 a0_1 a0_2 a0_3 a0_4).bind fun t216 => (some (t215 == t216)))) else (some false))) = some r := H
            have A15 := Aside0.mk A150
            clear A150
            replace H := Option.bind_eq_some_iff.mp H
            obtain ⟨t214, A160, H⟩ := H
            replace H : (if t213 = t214 then ((rtt_May.f k a0_0 a0_1 a0_2 a0_3 a0_4).bind fun t215 => ((fourinhandref08_May.f a0_0 a0_1 a0_2 a0_3 a0_4).bind fun t216 => (some (t215 == t216)))) else (some false)) = some r := H
            have A16 := Aside0.mk A160
            clear A160
            by_cases c17 : t213 = t214
            · rw [if_pos c17] at H
              have c17b0 : (t213 == t214) = true := beq_iff_eq.mpr c17
              have c17b1 : (t213 != t214) = false := bne_eq_false_iff_eq.mpr c17
              clear c17
              replace H := Option.bind_eq_some_iff.mp H
              obtain ⟨t215, A180, H⟩ := H
              replace H : ((fourinhandref08_May.f a0_0 a0_1 a0_2 a0_3 a0_4).bind fun t216 => (some (t215 == t216))) = some r := H
              have A18 := Aside0.mk A180
              clear A180
              replace H := Option.bind_eq_some_iff.mp H
              obtain ⟨t216, A190, H⟩ := H
              replace H : (some (t215 == t216)) = some r := H
              have A19 := Aside0.mk A190
              clear A190
              obtain rfl := Option.some.inj H
              go_enter Try.func7, Try.ntmps7
              try go_wp2_with (first | ((with_reducible refine gate_dst (N := 4) rfl ?_); refine box_event ?hg (N := 4) ?hd (cs := #[.bool a0_0, .int .i64 a0_1, .int .i64 a0_2, .int .i64 a0_3, .int .i64 a0_4]) (t := 23) ?hr ?_; (case hd => rfl); (case hg => rfl); (case hr => first | (go_simp; done) | (go_simp; rfl)); intro gb183 hg w20 hbox hb; have n0_ := Aside0.mk (below_step (by repeat (first | (with_reducible first | exact HB.out | apply below_alloc | apply pw_below_drewN | apply below_drew1) | exact HB.out)) hb); have n1_ := Aside0.mk (hbox); have n2_ := Aside0.mk ((by rw [hg]; exact (below_size (by repeat (first | (with_reducible first | exact HB.out | apply below_alloc | apply pw_below_drewN | apply below_drew1) | exact HB.out))) : w.heap.size ≤ gb183)); have n3_ := Aside0.mk ((by rw [hg]; exact (below_size (by repeat (first | (with_reducible first | exact HB.out | apply below_alloc | apply pw_below_drewN | apply below_drew1) | exact HB.out))) : w.heap.size ≤ gb183)); clear HB; have HB := n0_; have BK183 := n1_; have GW183 := n2_; have GE183 := n3_; clear n0_ n1_ n2_ n3_; clear hb hbox hg) | ((with_reducible refine gate_callee (f := 9) rfl ?_); refine goesL_ (some 18) rfl rfl Try.func9 (by kernel_rfl) rfl #[] rfl (by (try simp only [List.map_toArray, List.map_cons, List.map_nil]); first | done | rfl | (simp only [List.length_drop, List.length_take]; rfl)) ?_; (with_reducible refine (fourinhandlaw08_awake.calls k  true _ A5.out).mono ?_); rintro e w21 ⟨rfl, hb⟩; refine ⟨_, rfl, ?_⟩; have n0_ := Aside0.mk (blk_below (g := gb183) (o := .cells #[.bool a0_0, .int .i64 a0_1, .int .i64 a0_2, .int .i64 a0_3, .int .i64 a0_4] 23 (0, 0)) (by (with_reducible repeat (first | refine blk_drewN ?_ _ | refine blk_drew ?_ | refine blk_alloc ?_ _)); exact BK183.out) hb); have n1_ := Aside0.mk (below_step (by repeat (first | (with_reducible first | exact HB.out | apply below_alloc | apply pw_below_drewN | apply below_drew1 | refine below_set ?_ GE183.out) | exact HB.out)) hb); clear BK183; clear HB; have BK183 := n0_; have HB := n1_; clear n0_ n1_; (try clear hb); (try clear hb2); (try clear hk); (try clear hi); have hcz22_0 : w21.cell? ⟨gb183, 0, none⟩ = some (.bool a0_0) := (blk_cell BK183.out 0).trans rfl; have hcz22_1 : w21.cell? ⟨gb183, 1, none⟩ = some (.int .i64 a0_1) := (blk_cell BK183.out 1).trans rfl; have hcz22_2 : w21.cell? ⟨gb183, 2, none⟩ = some (.int .i64 a0_2) := (blk_cell BK183.out 2).trans rfl; have hcz22_3 : w21.cell? ⟨gb183, 3, none⟩ = some (.int .i64 a0_3) := (blk_cell BK183.out 3).trans rfl; have hcz22_4 : w21.cell? ⟨gb183, 4, none⟩ = some (.int .i64 a0_4) := (blk_cell BK183.out 4).trans rfl; have hfz22_0 := blk_frozen BK183.out 0; have hfz22_1 := blk_frozen BK183.out 1; have hfz22_2 := blk_frozen BK183.out 2; have hfz22_3 := blk_frozen BK183.out 3; have hfz22_4 := blk_frozen BK183.out 4) | ((with_reducible refine gate_callee (f := 10) rfl ?_); refine goesL_ (some 24) rfl rfl Try.func10 (by kernel_rfl) rfl #[.agg #[.bool a0_0, .int .i64 a0_1, .int .i64 a0_2, .int .i64 a0_3, .int .i64 a0_4], .int .i64 a1, .int .i64 a2, .int .i64 a3] rfl (by (try simp only [List.map_toArray, List.map_cons, List.map_nil]); first | done | rfl | (simp only [List.length_drop, List.length_take]; rfl)) ?_; (with_reducible refine (rtt_Sample.calls k a0_0 a0_1 a0_2 a0_3 a0_4 a1 a2 a3 t185 t186 t187 t188 t189 t190 _ A6.out).mono ?_); rintro e w23 ⟨rfl, hb⟩; refine ⟨_, rfl, ?_⟩; have n0_ := Aside0.mk (blk_below (g := gb183) (o := .cells #[.bool a0_0, .int .i64 a0_1, .int .i64 a0_2, .int .i64 a0_3, .int .i64 a0_4] 23 (0, 0)) (by (with_reducible repeat (first | refine blk_drewN ?_ _ | refine blk_drew ?_ | refine blk_alloc ?_ _)); exact BK183.out) hb); have n1_ := Aside0.mk (below_step (by repeat (first | (with_reducible first | exact HB.out | apply below_alloc | apply pw_below_drewN | apply below_drew1 | refine below_set ?_ GE183.out) | exact HB.out)) hb); clear BK183; clear HB; have BK183 := n0_; have HB := n1_; clear n0_ n1_; (try clear hb); (try clear hb2); (try clear hk); (try clear hi)) | ((with_reducible refine gate_dst (N := 10) rfl ?_); refine box_event ?hg (N := 10) ?hd (cs := #[.bool false, .int .i64 0, .int .i64 0, .int .i64 0, .int .i64 0]) (t := 23) ?hr ?_; (case hd => rfl); (case hg => rfl); (case hr => first | (go_simp; done) | (go_simp; rfl)); intro gb191 hg w24 hbox hb; have n0_ := Aside0.mk (blk_below (g := gb183) (o := .cells #[.bool a0_0, .int .i64 a0_1, .int .i64 a0_2, .int .i64 a0_3, .int .i64 a0_4] 23 (0, 0)) (by (with_reducible repeat (first | refine blk_drewN ?_ _ | refine blk_drew ?_ | refine blk_alloc ?_ _)); exact BK183.out) hb); have n1_ := Aside0.mk (below_step (by repeat (first | (with_reducible first | exact HB.out | apply below_alloc | apply pw_below_drewN | apply below_drew1 | refine below_set ?_ GE183.out) | exact HB.out)) hb); have n2_ := Aside0.mk (hbox); have n3_ := Aside0.mk ((by rw [hg]; exact (below_size (by repeat (first | (with_reducible first | exact HB.out | apply below_alloc | apply pw_below_drewN | apply below_drew1 | refine below_set ?_ GE183.out) | exact HB.out))) : w.heap.size ≤ gb191)); have n4_ := Aside0.mk ((by rw [hg]; exact (below_size (by repeat (first | (with_reducible first | exact HB.out | apply below_alloc | apply pw_below_drewN | apply below_drew1 | refine below_set ?_ GE183.out) | exact HB.out))) : w.heap.size ≤ gb191)); have n5_ := Aside0.mk ((by rw [hg]; exact Nat.ne_of_lt (blk_lt (g := gb183) (o := .cells #[.bool a0_0, .int .i64 a0_1, .int .i64 a0_2, .int .i64 a0_3, .int .i64 a0_4] 23 (0, 0)) (by (with_reducible repeat (first | refine blk_drewN ?_ _ | refine blk_drew ?_ | refine blk_alloc ?_ _)); exact BK183.out)) : gb183 ≠ gb191)); have n6_ := Aside0.mk ((by rw [hg]; exact Nat.ne_of_gt (blk_lt (g := gb183) (o := .cells #[.bool a0_0, .int .i64 a0_1, .int .i64 a0_2, .int .i64 a0_3, .int .i64 a0_4] 23 (0, 0)) (by (with_reducible repeat (first | refine blk_drewN ?_ _ | refine blk_drew ?_ | refine blk_alloc ?_ _)); exact BK183.out)) : gb191 ≠ gb183)); clear BK183; clear HB; have BK183 := n0_; have HB := n1_; have BK191 := n2_; have GW191 := n3_; have GE191 := n4_; have NB183_191 := n5_; have NB191_183 := n6_; clear n0_ n1_ n2_ n3_ n4_ n5_ n6_; clear hb hbox hg; have hnb25 := NB191_183.out; have hnc25 := NB183_191.out; have hcz26_0 : w24.cell? ⟨gb191, 0, none⟩ = some (.bool false) := (blk_cell BK191.out 0).trans rfl; have hcz26_1 : w24.cell? ⟨gb191, 1, none⟩ = some (.int .i64 0) := (blk_cell BK191.out 1).trans rfl; have hcz26_2 : w24.cell? ⟨gb191, 2, none⟩ = some (.int .i64 0) := (blk_cell BK191.out 2).trans rfl; have hcz26_3 : w24.cell? ⟨gb191, 3, none⟩ = some (.int .i64 0) := (blk_cell BK191.out 3).trans rfl; have hcz26_4 : w24.cell? ⟨gb191, 4, none⟩ = some (.int .i64 0) := (blk_cell BK191.out 4).trans rfl; have hfz26_0 := blk_frozen BK191.out 0; have hfz26_1 := blk_frozen BK191.out 1; have hfz26_2 := blk_frozen BK191.out 2; have hfz26_3 := blk_frozen BK191.out 3; have hfz26_4 := blk_frozen BK191.out 4; have hcz27_0 : w24.cell? ⟨gb183, 0, none⟩ = some (.bool a0_0) := (blk_cell BK183.out 0).trans rfl; have hcz27_1 : w24.cell? ⟨gb183, 1, none⟩ = some (.int .i64 a0_1) := (blk_cell BK183.out 1).trans rfl; have hcz27_2 : w24.cell? ⟨gb183, 2, none⟩ = some (.int .i64 a0_2) := (blk_cell BK183.out 2).trans rfl; have hcz27_3 : w24.cell? ⟨gb183, 3, none⟩ = some (.int .i64 a0_3) := (blk_cell BK183.out 3).trans rfl; have hcz27_4 : w24.cell? ⟨gb183, 4, none⟩ = some (.int .i64 a0_4) := (blk_cell BK183.out 4).trans rfl; have hfz27_0 := blk_frozen BK183.out 0; have hfz27_1 := blk_frozen BK183.out 1; have hfz27_2 := blk_frozen BK183.out 2; have hfz27_3 := blk_frozen BK183.out 3; have hfz27_4 := blk_frozen BK183.out 4) | ((with_reducible refine gate_callee (f := 13) rfl ?_); refine goesL_ (some 32) rfl rfl Try.func13 (by kernel_rfl) rfl #[.agg #[.bool a0_0, .int .i64 a0_1, .int .i64 a0_2, .int .i64 a0_3, .int .i64 a0_4], .int .i64 a1, .int .i64 a2, .int .i64 a3] rfl (by (try simp only [List.map_toArray, List.map_cons, List.map_nil]); first | done | rfl | (simp only [List.length_drop, List.length_take]; rfl)) ?_; (with_reducible refine (fourinhandref08_Sample.calls k a0_0 a0_1 a0_2 a0_3 a0_4 a1 a2 a3 t192 t193 t194 t195 t196 t197 _ A7.out).mono ?_); rintro e w28 ⟨rfl, hb⟩; refine ⟨_, rfl, ?_⟩; have n0_ := Aside0.mk (blk_below (g := gb183) (o := .cells #[.bool a0_0, .int .i64 a0_1, .int .i64 a0_2, .int .i64 a0_3, .int .i64 a0_4] 23 (0, 0)) (by (with_reducible repeat (first | refine blk_drewN ?_ _ | refine blk_drew ?_ | refine blk_alloc ?_ _)); refine blk_far ?_ NB183_191.out _; (with_reducible repeat (first | refine blk_drewN ?_ _ | refine blk_drew ?_ | refine blk_alloc ?_ _)); refine blk_far ?_ NB183_191.out _; (with_reducible repeat (first | refine blk_drewN ?_ _ | refine blk_drew ?_ | refine blk_alloc ?_ _)); refine blk_far ?_ NB183_191.out _; (with_reducible repeat (first | refine blk_drewN ?_ _ | refine blk_drew ?_ | refine blk_alloc ?_ _)); refine blk_far ?_ NB183_191.out _; (with_reducible repeat (first | refine blk_drewN ?_ _ | refine blk_drew ?_ | refine blk_alloc ?_ _)); refine blk_far ?_ NB183_191.out _; (with_reducible repeat (first | refine blk_drewN ?_ _ | refine blk_drew ?_ | refine blk_alloc ?_ _)); exact BK183.out) hb); have n1_ := Aside0.mk (blk_below (g := gb191) (o := .cells #[.bool t185, .int .i64 t186, .int .i64 t187, .int .i64 t188, .int .i64 t189] 23 (0, 0)) (by (with_reducible repeat (first | refine blk_drewN ?_ _ | refine blk_drew ?_ | refine blk_alloc ?_ _)); refine blk_put (cs := #[.bool t185, .int .i64 t186, .int .i64 t187, .int .i64 t188, .int .i64 0]) ?_ 4 _ rfl; (with_reducible repeat (first | refine blk_drewN ?_ _ | refine blk_drew ?_ | refine blk_alloc ?_ _)); refine blk_put (cs := #[.bool t185, .int .i64 t186, .int .i64 t187, .int .i64 0, .int .i64 0]) ?_ 3 _ rfl; (with_reducible repeat (first | refine blk_drewN ?_ _ | refine blk_drew ?_ | refine blk_alloc ?_ _)); refine blk_put (cs := #[.bool t185, .int .i64 t186, .int .i64 0, .int .i64 0, .int .i64 0]) ?_ 2 _ rfl; (with_reducible repeat (first | refine blk_drewN ?_ _ | refine blk_drew ?_ | refine blk_alloc ?_ _)); refine blk_put (cs := #[.bool t185, .int .i64 0, .int .i64 0, .int .i64 0, .int .i64 0]) ?_ 1 _ rfl; (with_reducible repeat (first | refine blk_drewN ?_ _ | refine blk_drew ?_ | refine blk_alloc ?_ _)); refine blk_put (cs := #[.bool false, .int .i64 0, .int .i64 0, .int .i64 0, .int .i64 0]) ?_ 0 _ rfl; (with_reducible repeat (first | refine blk_drewN ?_ _ | refine blk_drew ?_ | refine blk_alloc ?_ _)); exact BK191.out) hb); have n2_ := Aside0.mk (below_step (by repeat (first | (with_reducible first | exact HB.out | apply below_alloc | apply pw_below_drewN | apply below_drew1 | refine below_set ?_ GE183.out | refine below_set ?_ GE191.out) | exact HB.out)) hb); clear BK183; clear BK191; clear HB; have BK183 := n0_; have BK191 := n1_; have HB := n2_; clear n0_ n1_ n2_; (try clear hb); (try clear hb2); (try clear hk); (try clear hi)) | ((with_reducible refine gate_dst (N := 12) rfl ?_); refine box_event ?hg (N := 12) ?hd (cs := #[.bool false, .int .i64 0, .int .i64 0, .int .i64 0, .int .i64 0]) (t := 23) ?hr ?_; (case hd => rfl); (case hg => rfl); (case hr => first | (go_simp; done) | (go_simp; rfl)); intro gb198 hg w29 hbox hb; have n0_ := Aside0.mk (blk_below (g := gb183) (o := .cells #[.bool a0_0, .int .i64 a0_1, .int .i64 a0_2, .int .i64 a0_3, .int .i64 a0_4] 23 (0, 0)) (by (with_reducible repeat (first | refine blk_drewN ?_ _ | refine blk_drew ?_ | refine blk_alloc ?_ _)); exact BK183.out) hb); have n1_ := Aside0.mk (blk_below (g := gb191) (o := .cells #[.bool t185, .int .i64 t186, .int .i64 t187, .int .i64 t188, .int .i64 t189] 23 (0, 0)) (by (with_reducible repeat (first | refine blk_drewN ?_ _ | refine blk_drew ?_ | refine blk_alloc ?_ _)); exact BK191.out) hb); have n2_ := Aside0.mk (below_step (by repeat (first | (with_reducible first | exact HB.out | apply below_alloc | apply pw_below_drewN | apply below_drew1 | refine below_set ?_ GE183.out | refine below_set ?_ GE191.out) | exact HB.out)) hb); have n3_ := Aside0.mk (hbox); have n4_ := Aside0.mk ((by rw [hg]; exact (below_size (by repeat (first | (with_reducible first | exact HB.out | apply below_alloc | apply pw_below_drewN | apply below_drew1 | refine below_set ?_ GE183.out | refine below_set ?_ GE191.out) | exact HB.out))) : w.heap.size ≤ gb198)); have n5_ := Aside0.mk ((by rw [hg]; exact (below_size (by repeat (first | (with_reducible first | exact HB.out | apply below_alloc | apply pw_below_drewN | apply below_drew1 | refine below_set ?_ GE183.out | refine below_set ?_ GE191.out) | exact HB.out))) : w.heap.size ≤ gb198)); have n6_ := Aside0.mk ((by rw [hg]; exact Nat.ne_of_lt (blk_lt (g := gb183) (o := .cells #[.bool a0_0, .int .i64 a0_1, .int .i64 a0_2, .int .i64 a0_3, .int .i64 a0_4] 23 (0, 0)) (by (with_reducible repeat (first | refine blk_drewN ?_ _ | refine blk_drew ?_ | refine blk_alloc ?_ _)); exact BK183.out)) : gb183 ≠ gb198)); have n7_ := Aside0.mk ((by rw [hg]; exact Nat.ne_of_gt (blk_lt (g := gb183) (o := .cells #[.bool a0_0, .int .i64 a0_1, .int .i64 a0_2, .int .i64 a0_3, .int .i64 a0_4] 23 (0, 0)) (by (with_reducible repeat (first | refine blk_drewN ?_ _ | refine blk_drew ?_ | refine blk_alloc ?_ _)); exact BK183.out)) : gb198 ≠ gb183)); have n8_ := Aside0.mk ((by rw [hg]; exact Nat.ne_of_lt (blk_lt (g := gb191) (o := .cells #[.bool t185, .int .i64 t186, .int .i64 t187, .int .i64 t188, .int .i64 t189] 23 (0, 0)) (by (with_reducible repeat (first | refine blk_drewN ?_ _ | refine blk_drew ?_ | refine blk_alloc ?_ _)); exact BK191.out)) : gb191 ≠ gb198)); have n9_ := Aside0.mk ((by rw [hg]; exact Nat.ne_of_gt (blk_lt (g := gb191) (o := .cells #[.bool t185, .int .i64 t186, .int .i64 t187, .int .i64 t188, .int .i64 t189] 23 (0, 0)) (by (with_reducible repeat (first | refine blk_drewN ?_ _ | refine blk_drew ?_ | refine blk_alloc ?_ _)); exact BK191.out)) : gb198 ≠ gb191)); clear BK183; clear BK191; clear HB; have BK183 := n0_; have BK191 := n1_; have HB := n2_; have BK198 := n3_; have GW198 := n4_; have GE198 := n5_; have NB183_198 := n6_; have NB198_183 := n7_; have NB191_198 := n8_; have NB198_191 := n9_; clear n0_ n1_ n2_ n3_ n4_ n5_ n6_ n7_ n8_ n9_; clear hb hbox hg; have hnb30 := NB198_183.out; have hnc30 := NB183_198.out; have hnb31 := NB198_191.out; have hnc31 := NB191_198.out; have hcz32_0 : w29.cell? ⟨gb198, 0, none⟩ = some (.bool false) := (blk_cell BK198.out 0).trans rfl; have hcz32_1 : w29.cell? ⟨gb198, 1, none⟩ = some (.int .i64 0) := (blk_cell BK198.out 1).trans rfl; have hcz32_2 : w29.cell? ⟨gb198, 2, none⟩ = some (.int .i64 0) := (blk_cell BK198.out 2).trans rfl; have hcz32_3 : w29.cell? ⟨gb198, 3, none⟩ = some (.int .i64 0) := (blk_cell BK198.out 3).trans rfl; have hcz32_4 : w29.cell? ⟨gb198, 4, none⟩ = some (.int .i64 0) := (blk_cell BK198.out 4).trans rfl; have hfz32_0 := blk_frozen BK198.out 0; have hfz32_1 := blk_frozen BK198.out 1; have hfz32_2 := blk_frozen BK198.out 2; have hfz32_3 := blk_frozen BK198.out 3; have hfz32_4 := blk_frozen BK198.out 4; have hcz33_0 : w29.cell? ⟨gb183, 0, none⟩ = some (.bool a0_0) := (blk_cell BK183.out 0).trans rfl; have hcz33_1 : w29.cell? ⟨gb183, 1, none⟩ = some (.int .i64 a0_1) := (blk_cell BK183.out 1).trans rfl; have hcz33_2 : w29.cell? ⟨gb183, 2, none⟩ = some (.int .i64 a0_2) := (blk_cell BK183.out 2).trans rfl; have hcz33_3 : w29.cell? ⟨gb183, 3, none⟩ = some (.int .i64 a0_3) := (blk_cell BK183.out 3).trans rfl; have hcz33_4 : w29.cell? ⟨gb183, 4, none⟩ = some (.int .i64 a0_4) := (blk_cell BK183.out 4).trans rfl; have hfz33_0 := blk_frozen BK183.out 0; have hfz33_1 := blk_frozen BK183.out 1; have hfz33_2 := blk_frozen BK183.out 2; have hfz33_3 := blk_frozen BK183.out 3; have hfz33_4 := blk_frozen BK183.out 4) | ((with_reducible refine gate_callee (f := 14) rfl ?_); refine goesL_ (some 37) rfl rfl Try.func14 (by kernel_rfl) rfl #[.agg #[.bool a0_0, .int .i64 a0_1, .int .i64 a0_2, .int .i64 a0_3, .int .i64 a0_4]] rfl (by (try simp only [List.map_toArray, List.map_cons, List.map_nil]); first | done | rfl | (simp only [List.length_drop, List.length_take]; rfl)) ?_; (with_reducible refine (rtt_Double.calls k a0_0 a0_1 a0_2 a0_3 a0_4 t199 t200 t201 t202 t203 t204 _ A8.out).mono ?_); rintro e w34 ⟨rfl, hb⟩; refine ⟨_, rfl, ?_⟩; have n0_ := Aside0.mk (blk_below (g := gb183) (o := .cells #[.bool a0_0, .int .i64 a0_1, .int .i64 a0_2, .int .i64 a0_3, .int .i64 a0_4] 23 (0, 0)) (by (with_reducible repeat (first | refine blk_drewN ?_ _ | refine blk_drew ?_ | refine blk_alloc ?_ _)); refine blk_far ?_ NB183_198.out _; (with_reducible repeat (first | refine blk_drewN ?_ _ | refine blk_drew ?_ | refine blk_alloc ?_ _)); refine blk_far ?_ NB183_198.out _; (with_reducible repeat (first | refine blk_drewN ?_ _ | refine blk_drew ?_ | refine blk_alloc ?_ _)); refine blk_far ?_ NB183_198.out _; (with_reducible repeat (first | refine blk_drewN ?_ _ | refine blk_drew ?_ | refine blk_alloc ?_ _)); refine blk_far ?_ NB183_198.out _; (with_reducible repeat (first | refine blk_drewN ?_ _ | refine blk_drew ?_ | refine blk_alloc ?_ _)); refine blk_far ?_ NB183_198.out _; (with_reducible repeat (first | refine blk_drewN ?_ _ | refine blk_drew ?_ | refine blk_alloc ?_ _)); exact BK183.out) hb); have n1_ := Aside0.mk (blk_below (g := gb191) (o := .cells #[.bool t185, .int .i64 t186, .int .i64 t187, .int .i64 t188, .int .i64 t189] 23 (0, 0)) (by (with_reducible repeat (first | refine blk_drewN ?_ _ | refine blk_drew ?_ | refine blk_alloc ?_ _)); refine blk_far ?_ NB191_198.out _; (with_reducible repeat (first | refine blk_drewN ?_ _ | refine blk_drew ?_ | refine blk_alloc ?_ _)); refine blk_far ?_ NB191_198.out _; (with_reducible repeat (first | refine blk_drewN ?_ _ | refine blk_drew ?_ | refine blk_alloc ?_ _)); refine blk_far ?_ NB191_198.out _; (with_reducible repeat (first | refine blk_drewN ?_ _ | refine blk_drew ?_ | refine blk_alloc ?_ _)); refine blk_far ?_ NB191_198.out _; (with_reducible repeat (first | refine blk_drewN ?_ _ | refine blk_drew ?_ | refine blk_alloc ?_ _)); refine blk_far ?_ NB191_198.out _; (with_reducible repeat (first | refine blk_drewN ?_ _ | refine blk_drew ?_ | refine blk_alloc ?_ _)); exact BK191.out) hb); have n2_ := Aside0.mk (blk_below (g := gb198) (o := .cells #[.bool t192, .int .i64 t193, .int .i64 t194, .int .i64 t195, .int .i64 t196] 23 (0, 0)) (by (with_reducible repeat (first | refine blk_drewN ?_ _ | refine blk_drew ?_ | refine blk_alloc ?_ _)); refine blk_put (cs := #[.bool t192, .int .i64 t193, .int .i64 t194, .int .i64 t195, .int .i64 0]) ?_ 4 _ rfl; (with_reducible repeat (first | refine blk_drewN ?_ _ | refine blk_drew ?_ | refine blk_alloc ?_ _)); refine blk_put (cs := #[.bool t192, .int .i64 t193, .int .i64 t194, .int .i64 0, .int .i64 0]) ?_ 3 _ rfl; (with_reducible repeat (first | refine blk_drewN ?_ _ | refine blk_drew ?_ | refine blk_alloc ?_ _)); refine blk_put (cs := #[.bool t192, .int .i64 t193, .int .i64 0, .int .i64 0, .int .i64 0]) ?_ 2 _ rfl; (with_reducible repeat (first | refine blk_drewN ?_ _ | refine blk_drew ?_ | refine blk_alloc ?_ _)); refine blk_put (cs := #[.bool t192, .int .i64 0, .int .i64 0, .int .i64 0, .int .i64 0]) ?_ 1 _ rfl; (with_reducible repeat (first | refine blk_drewN ?_ _ | refine blk_drew ?_ | refine blk_alloc ?_ _)); refine blk_put (cs := #[.bool false, .int .i64 0, .int .i64 0, .int .i64 0, .int .i64 0]) ?_ 0 _ rfl; (with_reducible repeat (first | refine blk_drewN ?_ _ | refine blk_drew ?_ | refine blk_alloc ?_ _)); exact BK198.out) hb); have n3_ := Aside0.mk (below_step (by repeat (first | (with_reducible first | exact HB.out | apply below_alloc | apply pw_below_drewN | apply below_drew1 | refine below_set ?_ GE183.out | refine below_set ?_ GE191.out | refine below_set ?_ GE198.out) | exact HB.out)) hb); clear BK183; clear BK191; clear BK198; clear HB; have BK183 := n0_; have BK191 := n1_; have BK198 := n2_; have HB := n3_; clear n0_ n1_ n2_ n3_; (try clear hb); (try clear hb2); (try clear hk); (try clear hi)) | ((with_reducible refine gate_dst (N := 14) rfl ?_); refine box_event ?hg (N := 14) ?hd (cs := #[.bool false, .int .i64 0, .int .i64 0, .int .i64 0, .int .i64 0]) (t := 23) ?hr ?_; (case hd => rfl); (case hg => rfl); (case hr => first | (go_simp; done) | (go_simp; rfl)); intro gb205 hg w35 hbox hb; have n0_ := Aside0.mk (blk_below (g := gb183) (o := .cells #[.bool a0_0, .int .i64 a0_1, .int .i64 a0_2, .int .i64 a0_3, .int .i64 a0_4] 23 (0, 0)) (by (with_reducible repeat (first | refine blk_drewN ?_ _ | refine blk_drew ?_ | refine blk_alloc ?_ _)); exact BK183.out) hb); have n1_ := Aside0.mk (blk_below (g := gb191) (o := .cells #[.bool t185, .int .i64 t186, .int .i64 t187, .int .i64 t188, .int .i64 t189] 23 (0, 0)) (by (with_reducible repeat (first | refine blk_drewN ?_ _ | refine blk_drew ?_ | refine blk_alloc ?_ _)); exact BK191.out) hb); have n2_ := Aside0.mk (blk_below (g := gb198) (o := .cells #[.bool t192, .int .i64 t193, .int .i64 t194, .int .i64 t195, .int .i64 t196] 23 (0, 0)) (by (with_reducible repeat (first | refine blk_drewN ?_ _ | refine blk_drew ?_ | refine blk_alloc ?_ _)); exact BK198.out) hb); have n3_ := Aside0.mk (below_step (by repeat (first | (with_reducible first | exact HB.out | apply below_alloc | apply pw_below_drewN | apply below_drew1 | refine below_set ?_ GE183.out | refine below_set ?_ GE191.out | refine below_set ?_ GE198.out) | exact HB.out)) hb); have n4_ := Aside0.mk (hbox); have n5_ := Aside0.mk ((by rw [hg]; exact (below_size (by repeat (first | (with_reducible first | exact HB.out | apply below_alloc | apply pw_below_drewN | apply below_drew1 | refine below_set ?_ GE183.out | refine below_set ?_ GE191.out | refine below_set ?_ GE198.out) | exact HB.out))) : w.heap.size ≤ gb205)); have n6_ := Aside0.mk ((by rw [hg]; exact (below_size (by repeat (first | (with_reducible first | exact HB.out | apply below_alloc | apply pw_below_drewN | apply below_drew1 | refine below_set ?_ GE183.out | refine below_set ?_ GE191.out | refine below_set ?_ GE198.out) | exact HB.out))) : w.heap.size ≤ gb205)); have n7_ := Aside0.mk ((by rw [hg]; exact Nat.ne_of_lt (blk_lt (g := gb183) (o := .cells #[.bool a0_0, .int .i64 a0_1, .int .i64 a0_2, .int .i64 a0_3, .int .i64 a0_4] 23 (0, 0)) (by (with_reducible repeat (first | refine blk_drewN ?_ _ | refine blk_drew ?_ | refine blk_alloc ?_ _)); exact BK183.out)) : gb183 ≠ gb205)); have n8_ := Aside0.mk ((by rw [hg]; exact Nat.ne_of_gt (blk_lt (g := gb183) (o := .cells #[.bool a0_0, .int .i64 a0_1, .int .i64 a0_2, .int .i64 a0_3, .int .i64 a0_4] 23 (0, 0)) (by (with_reducible repeat (first | refine blk_drewN ?_ _ | refine blk_drew ?_ | refine blk_alloc ?_ _)); exact BK183.out)) : gb205 ≠ gb183)); have n9_ := Aside0.mk ((by rw [hg]; exact Nat.ne_of_lt (blk_lt (g := gb191) (o := .cells #[.bool t185, .int .i64 t186, .int .i64 t187, .int .i64 t188, .int .i64 t189] 23 (0, 0)) (by (with_reducible repeat (first | refine blk_drewN ?_ _ | refine blk_drew ?_ | refine blk_alloc ?_ _)); exact BK191.out)) : gb191 ≠ gb205)); have n10_ := Aside0.mk ((by rw [hg]; exact Nat.ne_of_gt (blk_lt (g := gb191) (o := .cells #[.bool t185, .int .i64 t186, .int .i64 t187, .int .i64 t188, .int .i64 t189] 23 (0, 0)) (by (with_reducible repeat (first | refine blk_drewN ?_ _ | refine blk_drew ?_ | refine blk_alloc ?_ _)); exact BK191.out)) : gb205 ≠ gb191)); have n11_ := Aside0.mk ((by rw [hg]; exact Nat.ne_of_lt (blk_lt (g := gb198) (o := .cells #[.bool t192, .int .i64 t193, .int .i64 t194, .int .i64 t195, .int .i64 t196] 23 (0, 0)) (by (with_reducible repeat (first | refine blk_drewN ?_ _ | refine blk_drew ?_ | refine blk_alloc ?_ _)); exact BK198.out)) : gb198 ≠ gb205)); have n12_ := Aside0.mk ((by rw [hg]; exact Nat.ne_of_gt (blk_lt (g := gb198) (o := .cells #[.bool t192, .int .i64 t193, .int .i64 t194, .int .i64 t195, .int .i64 t196] 23 (0, 0)) (by (with_reducible repeat (first | refine blk_drewN ?_ _ | refine blk_drew ?_ | refine blk_alloc ?_ _)); exact BK198.out)) : gb205 ≠ gb198)); clear BK183; clear BK191; clear BK198; clear HB; have BK183 := n0_; have BK191 := n1_; have BK198 := n2_; have HB := n3_; have BK205 := n4_; have GW205 := n5_; have GE205 := n6_; have NB183_205 := n7_; have NB205_183 := n8_; have NB191_205 := n9_; have NB205_191 := n10_; have NB198_205 := n11_; have NB205_198 := n12_; clear n0_ n1_ n2_ n3_ n4_ n5_ n6_ n7_ n8_ n9_ n10_ n11_ n12_; clear hb hbox hg; have hnb36 := NB205_183.out; have hnc36 := NB183_205.out; have hnb37 := NB205_191.out; have hnc37 := NB191_205.out; have hnb38 := NB205_198.out; have hnc38 := NB198_205.out; have hcz39_0 : w35.cell? ⟨gb205, 0, none⟩ = some (.bool false) := (blk_cell BK205.out 0).trans rfl; have hcz39_1 : w35.cell? ⟨gb205, 1, none⟩ = some (.int .i64 0) := (blk_cell BK205.out 1).trans rfl; have hcz39_2 : w35.cell? ⟨gb205, 2, none⟩ = some (.int .i64 0) := (blk_cell BK205.out 2).trans rfl; have hcz39_3 : w35.cell? ⟨gb205, 3, none⟩ = some (.int .i64 0) := (blk_cell BK205.out 3).trans rfl; have hcz39_4 : w35.cell? ⟨gb205, 4, none⟩ = some (.int .i64 0) := (blk_cell BK205.out 4).trans rfl; have hfz39_0 := blk_frozen BK205.out 0; have hfz39_1 := blk_frozen BK205.out 1; have hfz39_2 := blk_frozen BK205.out 2; have hfz39_3 := blk_frozen BK205.out 3; have hfz39_4 := blk_frozen BK205.out 4; have hcz40_0 : w35.cell? ⟨gb183, 0, none⟩ = some (.bool a0_0) := (blk_cell BK183.out 0).trans rfl; have hcz40_1 : w35.cell? ⟨gb183, 1, none⟩ = some (.int .i64 a0_1) := (blk_cell BK183.out 1).trans rfl; have hcz40_2 : w35.cell? ⟨gb183, 2, none⟩ = some (.int .i64 a0_2) := (blk_cell BK183.out 2).trans rfl; have hcz40_3 : w35.cell? ⟨gb183, 3, none⟩ = some (.int .i64 a0_3) := (blk_cell BK183.out 3).trans rfl; have hcz40_4 : w35.cell? ⟨gb183, 4, none⟩ = some (.int .i64 a0_4) := (blk_cell BK183.out 4).trans rfl; have hfz40_0 := blk_frozen BK183.out 0; have hfz40_1 := blk_frozen BK183.out 1; have hfz40_2 := blk_frozen BK183.out 2; have hfz40_3 := blk_frozen BK183.out 3; have hfz40_4 := blk_frozen BK183.out 4) | ((with_reducible refine gate_callee (f := 15) rfl ?_); refine goesL_ (some 42) rfl rfl Try.func15 (by kernel_rfl) rfl #[.agg #[.bool a0_0, .int .i64 a0_1, .int .i64 a0_2, .int .i64 a0_3, .int .i64 a0_4]] rfl (by (try simp only [List.map_toArray, List.map_cons, List.map_nil]); first | done | rfl | (simp only [List.length_drop, List.length_take]; rfl)) ?_; (with_reducible refine (fourinhandref08_Double.calls k a0_0 a0_1 a0_2 a0_3 a0_4 t206 t207 t208 t209 t210 t211 _ A9.out).mono ?_); rintro e w41 ⟨rfl, hb⟩; refine ⟨_, rfl, ?_⟩; have n0_ := Aside0.mk (blk_below (g := gb183) (o := .cells #[.bool a0_0, .int .i64 a0_1, .int .i64 a0_2, .int .i64 a0_3, .int .i64 a0_4] 23 (0, 0)) (by (with_reducible repeat (first | refine blk_drewN ?_ _ | refine blk_drew ?_ | refine blk_alloc ?_ _)); refine blk_far ?_ NB183_205.out _; (with_reducible repeat (first | refine blk_drewN ?_ _ | refine blk_drew ?_ | refine blk_alloc ?_ _)); refine blk_far ?_ NB183_205.out _; (with_reducible repeat (first | refine blk_drewN ?_ _ | refine blk_drew ?_ | refine blk_alloc ?_ _)); refine blk_far ?_ NB183_205.out _; (with_reducible repeat (first | refine blk_drewN ?_ _ | refine blk_drew ?_ | refine blk_alloc ?_ _)); refine blk_far ?_ NB183_205.out _; (with_reducible repeat (first | refine blk_drewN ?_ _ | refine blk_drew ?_ | refine blk_alloc ?_ _)); refine blk_far ?_ NB183_205.out _; (with_reducible repeat (first | refine blk_drewN ?_ _ | refine blk_drew ?_ | refine blk_alloc ?_ _)); exact BK183.out) hb); have n1_ := Aside0.mk (blk_below (g := gb191) (o := .cells #[.bool t185, .int .i64 t186, .int .i64 t187, .int .i64 t188, .int .i64 t189] 23 (0, 0)) (by (with_reducible repeat (first | refine blk_drewN ?_ _ | refine blk_drew ?_ | refine blk_alloc ?_ _)); refine blk_far ?_ NB191_205.out _; (with_reducible repeat (first | refine blk_drewN ?_ _ | refine blk_drew ?_ | refine blk_alloc ?_ _)); refine blk_far ?_ NB191_205.out _; (with_reducible repeat (first | refine blk_drewN ?_ _ | refine blk_drew ?_ | refine blk_alloc ?_ _)); refine blk_far ?_ NB191_205.out _; (with_reducible repeat (first | refine blk_drewN ?_ _ | refine blk_drew ?_ | refine blk_alloc ?_ _)); refine blk_far ?_ NB191_205.out _; (with_reducible repeat (first | refine blk_drewN ?_ _ | refine blk_drew ?_ | refine blk_alloc ?_ _)); refine blk_far ?_ NB191_205.out _; (with_reducible repeat (first | refine blk_drewN ?_ _ | refine blk_drew ?_ | refine blk_alloc ?_ _)); exact BK191.out) hb); have n2_ := Aside0.mk (blk_below (g := gb198) (o := .cells #[.bool t192, .int .i64 t193, .int .i64 t194, .int .i64 t195, .int .i64 t196] 23 (0, 0)) (by (with_reducible repeat (first | refine blk_drewN ?_ _ | refine blk_drew ?_ | refine blk_alloc ?_ _)); refine blk_far ?_ NB198_205.out _; (with_reducible repeat (first | refine blk_drewN ?_ _ | refine blk_drew ?_ | refine blk_alloc ?_ _)); refine blk_far ?_ NB198_205.out _; (with_reducible repeat (first | refine blk_drewN ?_ _ | refine blk_drew ?_ | refine blk_alloc ?_ _)); refine blk_far ?_ NB198_205.out _; (with_reducible repeat (first | refine blk_drewN ?_ _ | refine blk_drew ?_ | refine blk_alloc ?_ _)); refine blk_far ?_ NB198_205.out _; (with_reducible repeat (first | refine blk_drewN ?_ _ | refine blk_drew ?_ | refine blk_alloc ?_ _)); refine blk_far ?_ NB198_205.out _; (with_reducible repeat (first | refine blk_drewN ?_ _ | refine blk_drew ?_ | refine blk_alloc ?_ _)); exact BK198.out) hb); have n3_ := Aside0.mk (blk_below (g := gb205) (o := .cells #[.bool t199, .int .i64 t200, .int .i64 t201, .int .i64 t202, .int .i64 t203] 23 (0, 0)) (by (with_reducible repeat (first | refine blk_drewN ?_ _ | refine blk_drew ?_ | refine blk_alloc ?_ _)); refine blk_put (cs := #[.bool t199, .int .i64 t200, .int .i64 t201, .int .i64 t202, .int .i64 0]) ?_ 4 _ rfl; (with_reducible repeat (first | refine blk_drewN ?_ _ | refine blk_drew ?_ | refine blk_alloc ?_ _)); refine blk_put (cs := #[.bool t199, .int .i64 t200, .int .i64 t201, .int .i64 0, .int .i64 0]) ?_ 3 _ rfl; (with_reducible repeat (first | refine blk_drewN ?_ _ | refine blk_drew ?_ | refine blk_alloc ?_ _)); refine blk_put (cs := #[.bool t199, .int .i64 t200, .int .i64 0, .int .i64 0, .int .i64 0]) ?_ 2 _ rfl; (with_reducible repeat (first | refine blk_drewN ?_ _ | refine blk_drew ?_ | refine blk_alloc ?_ _)); refine blk_put (cs := #[.bool t199, .int .i64 0, .int .i64 0, .int .i64 0, .int .i64 0]) ?_ 1 _ rfl; (with_reducible repeat (first | refine blk_drewN ?_ _ | refine blk_drew ?_ | refine blk_alloc ?_ _)); refine blk_put (cs := #[.bool false, .int .i64 0, .int .i64 0, .int .i64 0, .int .i64 0]) ?_ 0 _ rfl; (with_reducible repeat (first | refine blk_drewN ?_ _ | refine blk_drew ?_ | refine blk_alloc ?_ _)); exact BK205.out) hb); have n4_ := Aside0.mk (below_step (by repeat (first | (with_reducible first | exact HB.out | apply below_alloc | apply pw_below_drewN | apply below_drew1 | refine below_set ?_ GE183.out | refine below_set ?_ GE191.out | refine below_set ?_ GE198.out | refine below_set ?_ GE205.out) | exact HB.out)) hb); clear BK183; clear BK191; clear BK198; clear BK205; clear HB; have BK183 := n0_; have BK191 := n1_; have BK198 := n2_; have BK205 := n3_; have HB := n4_; clear n0_ n1_ n2_ n3_ n4_; (try clear hb); (try clear hb2); (try clear hk); (try clear hi)) | ((with_reducible refine gate_dst (N := 16) rfl ?_); refine box_event ?hg (N := 16) ?hd (cs := #[.bool false, .int .i64 0, .int .i64 0, .int .i64 0, .int .i64 0]) (t := 23) ?hr ?_; (case hd => rfl); (case hg => rfl); (case hr => first | (go_simp; done) | (go_simp; rfl)); intro gb212 hg w42 hbox hb; have n0_ := Aside0.mk (blk_below (g := gb183) (o := .cells #[.bool a0_0, .int .i64 a0_1, .int .i64 a0_2, .int .i64 a0_3, .int .i64 a0_4] 23 (0, 0)) (by (with_reducible repeat (first | refine blk_drewN ?_ _ | refine blk_drew ?_ | refine blk_alloc ?_ _)); exact BK183.out) hb); have n1_ := Aside0.mk (blk_below (g := gb191) (o := .cells #[.bool t185, .int .i64 t186, .int .i64 t187, .int .i64 t188, .int .i64 t189] 23 (0, 0)) (by (with_reducible repeat (first | refine blk_drewN ?_ _ | refine blk_drew ?_ | refine blk_alloc ?_ _)); exact BK191.out) hb); have n2_ := Aside0.mk (blk_below (g := gb198) (o := .cells #[.bool t192, .int .i64 t193, .int .i64 t194, .int .i64 t195, .int .i64 t196] 23 (0, 0)) (by (with_reducible repeat (first | refine blk_drewN ?_ _ | refine blk_drew ?_ | refine blk_alloc ?_ _)); exact BK198.out) hb); have n3_ := Aside0.mk (blk_below (g := gb205) (o := .cells #[.bool t199, .int .i64 t200, .int .i64 t201, .int .i64 t202, .int .i64 t203] 23 (0, 0)) (by (with_reducible repeat (first | refine blk_drewN ?_ _ | refine blk_drew ?_ | refine blk_alloc ?_ _)); exact BK205.out) hb); have n4_ := Aside0.mk (below_step (by repeat (first | (with_reducible first | exact HB.out | apply below_alloc | apply pw_below_drewN | apply below_drew1 | refine below_set ?_ GE183.out | refine below_set ?_ GE191.out | refine below_set ?_ GE198.out | refine below_set ?_ GE205.out) | exact HB.out)) hb); have n5_ := Aside0.mk (hbox); have n6_ := Aside0.mk ((by rw [hg]; exact (below_size (by repeat (first | (with_reducible first | exact HB.out | apply below_alloc | apply pw_below_drewN | apply below_drew1 | refine below_set ?_ GE183.out | refine below_set ?_ GE191.out | refine below_set ?_ GE198.out | refine below_set ?_ GE205.out) | exact HB.out))) : w.heap.size ≤ gb212)); have n7_ := Aside0.mk ((by rw [hg]; exact (below_size (by repeat (first | (with_reducible first | exact HB.out | apply below_alloc | apply pw_below_drewN | apply below_drew1 | refine below_set ?_ GE183.out | refine below_set ?_ GE191.out | refine below_set ?_ GE198.out | refine below_set ?_ GE205.out) | exact HB.out))) : w.heap.size ≤ gb212)); have n8_ := Aside0.mk ((by rw [hg]; exact Nat.ne_of_lt (blk_lt (g := gb183) (o := .cells #[.bool a0_0, .int .i64 a0_1, .int .i64 a0_2, .int .i64 a0_3, .int .i64 a0_4] 23 (0, 0)) (by (with_reducible repeat (first | refine blk_drewN ?_ _ | refine blk_drew ?_ | refine blk_alloc ?_ _)); exact BK183.out)) : gb183 ≠ gb212)); have n9_ := Aside0.mk ((by rw [hg]; exact Nat.ne_of_gt (blk_lt (g := gb183) (o := .cells #[.bool a0_0, .int .i64 a0_1, .int .i64 a0_2, .int .i64 a0_3, .int .i64 a0_4] 23 (0, 0)) (by (with_reducible repeat (first | refine blk_drewN ?_ _ | refine blk_drew ?_ | refine blk_alloc ?_ _)); exact BK183.out)) : gb212 ≠ gb183)); have n10_ := Aside0.mk ((by rw [hg]; exact Nat.ne_of_lt (blk_lt (g := gb191) (o := .cells #[.bool t185, .int .i64 t186, .int .i64 t187, .int .i64 t188, .int .i64 t189] 23 (0, 0)) (by (with_reducible repeat (first | refine blk_drewN ?_ _ | refine blk_drew ?_ | refine blk_alloc ?_ _)); exact BK191.out)) : gb191 ≠ gb212)); have n11_ := Aside0.mk ((by rw [hg]; exact Nat.ne_of_gt (blk_lt (g := gb191) (o := .cells #[.bool t185, .int .i64 t186, .int .i64 t187, .int .i64 t188, .int .i64 t189] 23 (0, 0)) (by (with_reducible repeat (first | refine blk_drewN ?_ _ | refine blk_drew ?_ | refine blk_alloc ?_ _)); exact BK191.out)) : gb212 ≠ gb191)); have n12_ := Aside0.mk ((by rw [hg]; exact Nat.ne_of_lt (blk_lt (g := gb198) (o := .cells #[.bool t192, .int .i64 t193, .int .i64 t194, .int .i64 t195, .int .i64 t196] 23 (0, 0)) (by (with_reducible repeat (first | refine blk_drewN ?_ _ | refine blk_drew ?_ | refine blk_alloc ?_ _)); exact BK198.out)) : gb198 ≠ gb212)); have n13_ := Aside0.mk ((by rw [hg]; exact Nat.ne_of_gt (blk_lt (g := gb198) (o := .cells #[.bool t192, .int .i64 t193, .int .i64 t194, .int .i64 t195, .int .i64 t196] 23 (0, 0)) (by (with_reducible repeat (first | refine blk_drewN ?_ _ | refine blk_drew ?_ | refine blk_alloc ?_ _)); exact BK198.out)) : gb212 ≠ gb198)); have n14_ := Aside0.mk ((by rw [hg]; exact Nat.ne_of_lt (blk_lt (g := gb205) (o := .cells #[.bool t199, .int .i64 t200, .int .i64 t201, .int .i64 t202, .int .i64 t203] 23 (0, 0)) (by (with_reducible repeat (first | refine blk_drewN ?_ _ | refine blk_drew ?_ | refine blk_alloc ?_ _)); exact BK205.out)) : gb205 ≠ gb212)); have n15_ := Aside0.mk ((by rw [hg]; exact Nat.ne_of_gt (blk_lt (g := gb205) (o := .cells #[.bool t199, .int .i64 t200, .int .i64 t201, .int .i64 t202, .int .i64 t203] 23 (0, 0)) (by (with_reducible repeat (first | refine blk_drewN ?_ _ | refine blk_drew ?_ | refine blk_alloc ?_ _)); exact BK205.out)) : gb212 ≠ gb205)); clear BK183; clear BK191; clear BK198; clear BK205; clear HB; have BK183 := n0_; have BK191 := n1_; have BK198 := n2_; have BK205 := n3_; have HB := n4_; have BK212 := n5_; have GW212 := n6_; have GE212 := n7_; have NB183_212 := n8_; have NB212_183 := n9_; have NB191_212 := n10_; have NB212_191 := n11_; have NB198_212 := n12_; have NB212_198 := n13_; have NB205_212 := n14_; have NB212_205 := n15_; clear n0_ n1_ n2_ n3_ n4_ n5_ n6_ n7_ n8_ n9_ n10_ n11_ n12_ n13_ n14_ n15_; clear hb hbox hg; have hnb43 := NB212_183.out; have hnc43 := NB183_212.out; have hnb44 := NB212_191.out; have hnc44 := NB191_212.out; have hnb45 := NB212_198.out; have hnc45 := NB198_212.out; have hnb46 := NB212_205.out; have hnc46 := NB205_212.out; have hcz47_0 : w42.cell? ⟨gb212, 0, none⟩ = some (.bool false) := (blk_cell BK212.out 0).trans rfl; have hcz47_1 : w42.cell? ⟨gb212, 1, none⟩ = some (.int .i64 0) := (blk_cell BK212.out 1).trans rfl; have hcz47_2 : w42.cell? ⟨gb212, 2, none⟩ = some (.int .i64 0) := (blk_cell BK212.out 2).trans rfl; have hcz47_3 : w42.cell? ⟨gb212, 3, none⟩ = some (.int .i64 0) := (blk_cell BK212.out 3).trans rfl; have hcz47_4 : w42.cell? ⟨gb212, 4, none⟩ = some (.int .i64 0) := (blk_cell BK212.out 4).trans rfl; have hfz47_0 := blk_frozen BK212.out 0; have hfz47_1 := blk_frozen BK212.out 1; have hfz47_2 := blk_frozen BK212.out 2; have hfz47_3 := blk_frozen BK212.out 3; have hfz47_4 := blk_frozen BK212.out 4))
              have n0_ : Aside0 ((((((w42.setCell ⟨gb212, 0, none⟩ (.bool t206)).setCell ⟨gb212, 1, none⟩ (.int .i64 t207)).setCell ⟨gb212, 2, none⟩ (.int .i64 t208)).setCell ⟨gb212, 3, none⟩ (.int .i64 t209)).setCell ⟨gb212, 4, none⟩ (.int .i64 t210)).heap[gb183]? = some (.cells #[.bool a0_0, .int .i64 a0_1, .int .i64 a0_2, .int .i64 a0_3, .int .i64 a0_4] 23 (0, 0))) := ⟨by (with_reducible repeat (first | refine blk_drewN ?_ _ | refine blk_drew ?_ | refine blk_alloc ?_ _)); refine blk_far ?_ NB183_212.out _; (with_reducible repeat (first | refine blk_drewN ?_ _ | refine blk_drew ?_ | refine blk_alloc ?_ _)); refine blk_far ?_ NB183_212.out _; (with_reducible repeat (first | refine blk_drewN ?_ _ | refine blk_drew ?_ | refine blk_alloc ?_ _)); refine blk_far ?_ NB183_212.out _; (with_reducible repeat (first | refine blk_drewN ?_ _ | refine blk_drew ?_ | refine blk_alloc ?_ _)); refine blk_far ?_ NB183_212.out _; (with_reducible repeat (first | refine blk_drewN ?_ _ | refine blk_drew ?_ | refine blk_alloc ?_ _)); refine blk_far ?_ NB183_212.out _; (with_reducible repeat (first | refine blk_drewN ?_ _ | refine blk_drew ?_ | refine blk_alloc ?_ _)); exact BK183.out⟩
              have n1_ : Aside0 ((((((w42.setCell ⟨gb212, 0, none⟩ (.bool t206)).setCell ⟨gb212, 1, none⟩ (.int .i64 t207)).setCell ⟨gb212, 2, none⟩ (.int .i64 t208)).setCell ⟨gb212, 3, none⟩ (.int .i64 t209)).setCell ⟨gb212, 4, none⟩ (.int .i64 t210)).heap[gb191]? = some (.cells #[.bool t185, .int .i64 t186, .int .i64 t187, .int .i64 t188, .int .i64 t189] 23 (0, 0))) := ⟨by (with_reducible repeat (first | refine blk_drewN ?_ _ | refine blk_drew ?_ | refine blk_alloc ?_ _)); refine blk_far ?_ NB191_212.out _; (with_reducible repeat (first | refine blk_drewN ?_ _ | refine blk_drew ?_ | refine blk_alloc ?_ _)); refine blk_far ?_ NB191_212.out _; (with_reducible repeat (first | refine blk_drewN ?_ _ | refine blk_drew ?_ | refine blk_alloc ?_ _)); refine blk_far ?_ NB191_212.out _; (with_reducible repeat (first | refine blk_drewN ?_ _ | refine blk_drew ?_ | refine blk_alloc ?_ _)); refine blk_far ?_ NB191_212.out _; (with_reducible repeat (first | refine blk_drewN ?_ _ | refine blk_drew ?_ | refine blk_alloc ?_ _)); refine blk_far ?_ NB191_212.out _; (with_reducible repeat (first | refine blk_drewN ?_ _ | refine blk_drew ?_ | refine blk_alloc ?_ _)); exact BK191.out⟩
              have n2_ : Aside0 ((((((w42.setCell ⟨gb212, 0, none⟩ (.bool t206)).setCell ⟨gb212, 1, none⟩ (.int .i64 t207)).setCell ⟨gb212, 2, none⟩ (.int .i64 t208)).setCell ⟨gb212, 3, none⟩ (.int .i64 t209)).setCell ⟨gb212, 4, none⟩ (.int .i64 t210)).heap[gb198]? = some (.cells #[.bool t192, .int .i64 t193, .int .i64 t194, .int .i64 t195, .int .i64 t196] 23 (0, 0))) := ⟨by (with_reducible repeat (first | refine blk_drewN ?_ _ | refine blk_drew ?_ | refine blk_alloc ?_ _)); refine blk_far ?_ NB198_212.out _; (with_reducible repeat (first | refine blk_drewN ?_ _ | refine blk_drew ?_ | refine blk_alloc ?_ _)); refine blk_far ?_ NB198_212.out _; (with_reducible repeat (first | refine blk_drewN ?_ _ | refine blk_drew ?_ | refine blk_alloc ?_ _)); refine blk_far ?_ NB198_212.out _; (with_reducible repeat (first | refine blk_drewN ?_ _ | refine blk_drew ?_ | refine blk_alloc ?_ _)); refine blk_far ?_ NB198_212.out _; (with_reducible repeat (first | refine blk_drewN ?_ _ | refine blk_drew ?_ | refine blk_alloc ?_ _)); refine blk_far ?_ NB198_212.out _; (with_reducible repeat (first | refine blk_drewN ?_ _ | refine blk_drew ?_ | refine blk_alloc ?_ _)); exact BK198.out⟩
              have n3_ : Aside0 ((((((w42.setCell ⟨gb212, 0, none⟩ (.bool t206)).setCell ⟨gb212, 1, none⟩ (.int .i64 t207)).setCell ⟨gb212, 2, none⟩ (.int .i64 t208)).setCell ⟨gb212, 3, none⟩ (.int .i64 t209)).setCell ⟨gb212, 4, none⟩ (.int .i64 t210)).heap[gb205]? = some (.cells #[.bool t199, .int .i64 t200, .int .i64 t201, .int .i64 t202, .int .i64 t203] 23 (0, 0))) := ⟨by (with_reducible repeat (first | refine blk_drewN ?_ _ | refine blk_drew ?_ | refine blk_alloc ?_ _)); refine blk_far ?_ NB205_212.out _; (with_reducible repeat (first | refine blk_drewN ?_ _ | refine blk_drew ?_ | refine blk_alloc ?_ _)); refine blk_far ?_ NB205_212.out _; (with_reducible repeat (first | refine blk_drewN ?_ _ | refine blk_drew ?_ | refine blk_alloc ?_ _)); refine blk_far ?_ NB205_212.out _; (with_reducible repeat (first | refine blk_drewN ?_ _ | refine blk_drew ?_ | refine blk_alloc ?_ _)); refine blk_far ?_ NB205_212.out _; (with_reducible repeat (first | refine blk_drewN ?_ _ | refine blk_drew ?_ | refine blk_alloc ?_ _)); refine blk_far ?_ NB205_212.out _; (with_reducible repeat (first | refine blk_drewN ?_ _ | refine blk_drew ?_ | refine blk_alloc ?_ _)); exact BK205.out⟩
              have n4_ : Aside0 ((((((w42.setCell ⟨gb212, 0, none⟩ (.bool t206)).setCell ⟨gb212, 1, none⟩ (.int .i64 t207)).setCell ⟨gb212, 2, none⟩ (.int .i64 t208)).setCell ⟨gb212, 3, none⟩ (.int .i64 t209)).setCell ⟨gb212, 4, none⟩ (.int .i64 t210)).heap[gb212]? = some (.cells #[.bool t206, .int .i64 t207, .int .i64 t208, .int .i64 t209, .int .i64 t210] 23 (0, 0))) := ⟨by (with_reducible repeat (first | refine blk_drewN ?_ _ | refine blk_drew ?_ | refine blk_alloc ?_ _)); refine blk_put (cs := #[.bool t206, .int .i64 t207, .int .i64 t208, .int .i64 t209, .int .i64 0]) ?_ 4 _ rfl; (with_reducible repeat (first | refine blk_drewN ?_ _ | refine blk_drew ?_ | refine blk_alloc ?_ _)); refine blk_put (cs := #[.bool t206, .int .i64 t207, .int .i64 t208, .int .i64 0, .int .i64 0]) ?_ 3 _ rfl; (with_reducible repeat (first | refine blk_drewN ?_ _ | refine blk_drew ?_ | refine blk_alloc ?_ _)); refine blk_put (cs := #[.bool t206, .int .i64 t207, .int .i64 0, .int .i64 0, .int .i64 0]) ?_ 2 _ rfl; (with_reducible repeat (first | refine blk_drewN ?_ _ | refine blk_drew ?_ | refine blk_alloc ?_ _)); refine blk_put (cs := #[.bool t206, .int .i64 0, .int .i64 0, .int .i64 0, .int .i64 0]) ?_ 1 _ rfl; (with_reducible repeat (first | refine blk_drewN ?_ _ | refine blk_drew ?_ | refine blk_alloc ?_ _)); refine blk_put (cs := #[.bool false, .int .i64 0, .int .i64 0, .int .i64 0, .int .i64 0]) ?_ 0 _ rfl; (with_reducible repeat (first | refine blk_drewN ?_ _ | refine blk_drew ?_ | refine blk_alloc ?_ _)); exact BK212.out⟩
              have n5_ : Aside0 (Below w.heap.size w (((((w42.setCell ⟨gb212, 0, none⟩ (.bool t206)).setCell ⟨gb212, 1, none⟩ (.int .i64 t207)).setCell ⟨gb212, 2, none⟩ (.int .i64 t208)).setCell ⟨gb212, 3, none⟩ (.int .i64 t209)).setCell ⟨gb212, 4, none⟩ (.int .i64 t210))) := ⟨by repeat (first | (with_reducible first | exact HB.out | apply below_alloc | apply pw_below_drewN | apply below_drew1 | refine below_set ?_ GE183.out | refine below_set ?_ GE191.out | refine below_set ?_ GE198.out | refine below_set ?_ GE205.out | refine below_set ?_ GE212.out) | exact HB.out)⟩
              (try clear BK183)
              (try clear BK191)
              (try clear BK198)
              (try clear BK205)
              (try clear BK212)
              (try clear HB)
              generalize (((((w42.setCell ⟨gb212, 0, none⟩ (.bool t206)).setCell ⟨gb212, 1, none⟩ (.int .i64 t207)).setCell ⟨gb212, 2, none⟩ (.int .i64 t208)).setCell ⟨gb212, 3, none⟩ (.int .i64 t209)).setCell ⟨gb212, 4, none⟩ (.int .i64 t210)) = w48 at n0_ n1_ n2_ n3_ n4_ n5_ ⊢
              have BK183 := n0_
              have BK191 := n1_
              have BK198 := n2_
              have BK205 := n3_
              have BK212 := n4_
              have HB := n5_
              clear n0_ n1_ n2_ n3_ n4_ n5_
              have n0_ := Aside0.mk (blk_drew BK183.out)
              have n1_ := Aside0.mk (blk_drew BK191.out)
              have n2_ := Aside0.mk (blk_drew BK198.out)
              have n3_ := Aside0.mk (blk_drew BK205.out)
              have n4_ := Aside0.mk (blk_drew BK212.out)
              have n5_ := Aside0.mk (below_drew1 HB.out)
              clear BK183
              clear BK191
              clear BK198
              clear BK205
              clear BK212
              clear HB
              have BK183 := n0_
              have BK191 := n1_
              have BK198 := n2_
              have BK205 := n3_
              have BK212 := n4_
              have HB := n5_
              clear n0_ n1_ n2_ n3_ n4_ n5_
              refine start_ (n := 38) (S := fun w' => w'.cell? ⟨gb191, 0, none⟩ = some (.bool t185) ∧ w'.cell? ⟨gb191, 1, none⟩ = some (.int .i64 t186) ∧ w'.cell? ⟨gb191, 2, none⟩ = some (.int .i64 t187) ∧ w'.cell? ⟨gb191, 3, none⟩ = some (.int .i64 t188) ∧ w'.cell? ⟨gb191, 4, none⟩ = some (.int .i64 t189) ∧ w'.cell? ⟨gb198, 0, none⟩ = some (.bool t192) ∧ w'.cell? ⟨gb198, 1, none⟩ = some (.int .i64 t193) ∧ w'.cell? ⟨gb198, 2, none⟩ = some (.int .i64 t194) ∧ w'.cell? ⟨gb198, 3, none⟩ = some (.int .i64 t195) ∧ w'.cell? ⟨gb198, 4, none⟩ = some (.int .i64 t196) ∧ w'.cell? ⟨gb205, 0, none⟩ = some (.bool t199) ∧ w'.cell? ⟨gb205, 1, none⟩ = some (.int .i64 t200) ∧ w'.cell? ⟨gb205, 2, none⟩ = some (.int .i64 t201) ∧ w'.cell? ⟨gb205, 3, none⟩ = some (.int .i64 t202) ∧ w'.cell? ⟨gb205, 4, none⟩ = some (.int .i64 t203) ∧ w'.cell? ⟨gb212, 0, none⟩ = some (.bool t206) ∧ w'.cell? ⟨gb212, 1, none⟩ = some (.int .i64 t207) ∧ w'.cell? ⟨gb212, 2, none⟩ = some (.int .i64 t208) ∧ w'.cell? ⟨gb212, 3, none⟩ = some (.int .i64 t209) ∧ w'.cell? ⟨gb212, 4, none⟩ = some (.int .i64 t210) ∧ w'.cell? ⟨gb183, 0, none⟩ = some (.bool a0_0) ∧ w'.cell? ⟨gb183, 1, none⟩ = some (.int .i64 a0_1) ∧ w'.cell? ⟨gb183, 2, none⟩ = some (.int .i64 a0_2) ∧ w'.cell? ⟨gb183, 3, none⟩ = some (.int .i64 a0_3) ∧ w'.cell? ⟨gb183, 4, none⟩ = some (.int .i64 a0_4)) (ds := []) #[false, false, false, false, false, false, false, false, false, false, false, false, false, false, false, false, false, false, false, false, false, false, false, false, false, false, false, false, false, false, false, false, false, false, false, false, false, false] (by kernel_rfl) rfl rfl ⟨(blk_cell BK191.out 0).trans rfl, (blk_cell BK191.out 1).trans rfl, (blk_cell BK191.out 2).trans rfl, (blk_cell BK191.out 3).trans rfl, (blk_cell BK191.out 4).trans rfl, (blk_cell BK198.out 0).trans rfl, (blk_cell BK198.out 1).trans rfl, (blk_cell BK198.out 2).trans rfl, (blk_cell BK198.out 3).trans rfl, (blk_cell BK198.out 4).trans rfl, (blk_cell BK205.out 0).trans rfl, (blk_cell BK205.out 1).trans rfl, (blk_cell BK205.out 2).trans rfl, (blk_cell BK205.out 3).trans rfl, (blk_cell BK205.out 4).trans rfl, (blk_cell BK212.out 0).trans rfl, (blk_cell BK212.out 1).trans rfl, (blk_cell BK212.out 2).trans rfl, (blk_cell BK212.out 3).trans rfl, (blk_cell BK212.out 4).trans rfl, (blk_cell BK183.out 0).trans rfl, (blk_cell BK183.out 1).trans rfl, (blk_cell BK183.out 2).trans rfl, (blk_cell BK183.out 3).trans rfl, (blk_cell BK183.out 4).trans rfl⟩ (fun hHeld => ?_); refine with_tabW fourinhandlaw08_RttTells.tab6 fourinhandlaw08_RttTells.bits6 (fun HT_ HW_ => ?_)
              generalize w48.drew = w49 at BK183 BK191 BK198 BK205 BK212 HB hHeld ⊢
              refine pure_ (i := 0) (N := some 45) (v := ?_) (a' := ?_) #[true, false, false, false, false, false, false, false, false, false, false, false, false, false, false, false, false, false, false, false, false, false, false, false, false, false, false, false, false, false, false, false, false, false, false, false, false, false] rfl rfl (any_of HT_.out (by kernel_rfl)) (fun _ _ _ h => h) (Or.inl ⟨by rfl, ?_⟩) ?_ ?_
              rotate_left
              · intro w'
                go_simp
                with_reducible rfl
              rotate_left
              · simp only [Act.put, List.setIfInBounds_toArray, List.set_cons_zero, List.set_cons_succ, i64_w, i32_w]
                rfl
              refine pure_ (i := 1) (N := some 46) (v := ?_) (a' := ?_) #[true, true, false, false, false, false, false, false, false, false, false, false, false, false, false, false, false, false, false, false, false, false, false, false, false, false, false, false, false, false, false, false, false, false, false, false, false, false] rfl rfl (any_of HT_.out (by kernel_rfl)) (fun _ _ _ h => h) (Or.inl ⟨by rfl, ?_⟩) ?_ ?_
              rotate_left
              · intro w'
                go_simp
                with_reducible rfl
              rotate_left
              · simp only [Act.put, List.setIfInBounds_toArray, List.set_cons_zero, List.set_cons_succ, i64_w, i32_w]
                rfl
              refine take_ (i := 2) (N := some 47) (v := ?_) (a' := ?_) #[true, true, true, false, false, false, false, false, false, false, false, false, false, false, false, false, false, false, false, false, false, false, false, false, false, false, false, false, false, false, false, false, false, false, false, false, false, false] rfl rfl (take_ofW HT_.out HW_.out (by kernel_rfl)) (fun _ _ _ h => h) (Or.inl ⟨by rfl, ?_⟩) hHeld ?_ ?_
              rotate_left
              · rintro w' ⟨s0, s1, s2, s3, s4, s5, s6, s7, s8, s9, s10, s11, s12, s13, s14, s15, s16, s17, s18, s19, s20, s21, s22, s23, s24⟩
                go_simp
                with_reducible rfl
              rotate_left
              · simp only [Act.put, List.setIfInBounds_toArray, List.set_cons_zero, List.set_cons_succ, i64_w, i32_w]
                rfl
              refine take_ (i := 3) (N := some 48) (v := ?_) (a' := ?_) #[true, true, true, true, false, false, false, false, false, false, false, false, false, false, false, false, false, false, false, false, false, false, false, false, false, false, false, false, false, false, false, false, false, false, false, false, false, false] rfl rfl (take_ofW HT_.out HW_.out (by kernel_rfl)) (fun _ _ _ h => h) (Or.inl ⟨by rfl, ?_⟩) hHeld ?_ ?_
              rotate_left
              · rintro w' ⟨s0, s1, s2, s3, s4, s5, s6, s7, s8, s9, s10, s11, s12, s13, s14, s15, s16, s17, s18, s19, s20, s21, s22, s23, s24⟩
                go_simp
                with_reducible rfl
              rotate_left
              · simp only [Act.put, List.setIfInBounds_toArray, List.set_cons_zero, List.set_cons_succ, i64_w, i32_w]
                rfl
              refine pure_ (i := 4) (N := some 49) (v := ?_) (a' := ?_) #[true, true, true, true, true, false, false, false, false, false, false, false, false, false, false, false, false, false, false, false, false, false, false, false, false, false, false, false, false, false, false, false, false, false, false, false, false, false] rfl rfl (any_of HT_.out (by kernel_rfl)) (fun _ _ _ h => h) (Or.inl ⟨by rfl, ?_⟩) ?_ ?_
              rotate_left
              · intro w'
                go_simp
                with_reducible rfl
              rotate_left
              · simp only [Act.put, List.setIfInBounds_toArray, List.set_cons_zero, List.set_cons_succ, i64_w, i32_w]
                rfl
              refine pure_ (i := 5) (N := some 50) (v := ?_) (a' := ?_) #[true, true, true, true, true, true, false, false, false, false, false, false, false, false, false, false, false, false, false, false, false, false, false, false, false, false, false, false, false, false, false, false, false, false, false, false, false, false] rfl rfl (any_of HT_.out (by kernel_rfl)) (fun _ _ _ h => h) (Or.inl ⟨by rfl, ?_⟩) ?_ ?_
              rotate_left
              · intro w'
                go_simp
                with_reducible rfl
              rotate_left
              · simp only [Act.put, List.setIfInBounds_toArray, List.set_cons_zero, List.set_cons_succ, i64_w, i32_w]
                rfl
              refine pure_ (i := 6) (N := some 51) (v := ?_) (a' := ?_) #[true, true, true, true, true, true, true, false, false, false, false, false, false, false, false, false, false, false, false, false, false, false, false, false, false, false, false, false, false, false, false, false, false, false, false, false, false, false] rfl rfl (any_of HT_.out (by kernel_rfl)) (fun _ _ _ h => h) (Or.inl ⟨by rfl, ?_⟩) ?_ ?_
              rotate_left
              · intro w'
                go_simp
                with_reducible rfl
              rotate_left
              · simp only [Act.put, List.setIfInBounds_toArray, List.set_cons_zero, List.set_cons_succ, i64_w, i32_w]
                rfl
              refine pure_ (i := 7) (N := some 52) (v := ?_) (a' := ?_) #[true, true, true, true, true, true, true, true, false, false, false, false, false, false, false, false, false, false, false, false, false, false, false, false, false, false, false, false, false, false, false, false, false, false, false, false, false, false] rfl rfl (any_of HT_.out (by kernel_rfl)) (fun _ _ _ h => h) (Or.inl ⟨by rfl, ?_⟩) ?_ ?_
              rotate_left
              · intro w'
                go_simp
                with_reducible rfl
              rotate_left
              · simp only [Act.put, List.setIfInBounds_toArray, List.set_cons_zero, List.set_cons_succ, i64_w, i32_w]
                rfl
              refine pure_ (i := 8) (N := some 53) (v := ?_) (a' := ?_) #[true, true, true, true, true, true, true, true, true, false, false, false, false, false, false, false, false, false, false, false, false, false, false, false, false, false, false, false, false, false, false, false, false, false, false, false, false, false] rfl rfl (any_of HT_.out (by kernel_rfl)) (fun _ _ _ h => h) (Or.inl ⟨by rfl, ?_⟩) ?_ ?_
              rotate_left
              · intro w'
                go_simp
                with_reducible rfl
              rotate_left
              · simp only [Act.put, List.setIfInBounds_toArray, List.set_cons_zero, List.set_cons_succ, i64_w, i32_w]
                rfl
              refine pure_ (i := 9) (N := some 54) (v := ?_) (a' := ?_) #[true, true, true, true, true, true, true, true, true, true, false, false, false, false, false, false, false, false, false, false, false, false, false, false, false, false, false, false, false, false, false, false, false, false, false, false, false, false] rfl rfl (any_of HT_.out (by kernel_rfl)) (fun _ _ _ h => h) (Or.inl ⟨by rfl, ?_⟩) ?_ ?_
              rotate_left
              · intro w'
                go_simp
                with_reducible rfl
              rotate_left
              · simp only [Act.put, List.setIfInBounds_toArray, List.set_cons_zero, List.set_cons_succ, i64_w, i32_w]
                rfl
              refine pure_ (i := 10) (N := some 55) (v := ?_) (a' := ?_) #[true, true, true, true, true, true, true, true, true, true, true, false, false, false, false, false, false, false, false, false, false, false, false, false, false, false, false, false, false, false, false, false, false, false, false, false, false, false] rfl rfl (any_of HT_.out (by kernel_rfl)) (fun _ _ _ h => h) (Or.inl ⟨by rfl, ?_⟩) ?_ ?_
              rotate_left
              · intro w'
                go_simp
                with_reducible rfl
              rotate_left
              · simp only [Act.put, List.setIfInBounds_toArray, List.set_cons_zero, List.set_cons_succ, i64_w, i32_w]
                rfl
              refine pure_ (i := 11) (N := some 56) (v := ?_) (a' := ?_) #[true, true, true, true, true, true, true, true, true, true, true, true, false, false, false, false, false, false, false, false, false, false, false, false, false, false, false, false, false, false, false, false, false, false, false, false, false, false] rfl rfl (any_of HT_.out (by kernel_rfl)) (fun _ _ _ h => h) (Or.inl ⟨by rfl, ?_⟩) ?_ ?_
              rotate_left
              · intro w'
                go_simp
                with_reducible rfl
              rotate_left
              · simp only [Act.put, List.setIfInBounds_toArray, List.set_cons_zero, List.set_cons_succ, i64_w, i32_w]
                rfl
              refine take_ (i := 12) (N := some 57) (v := ?_) (a' := ?_) #[true, true, true, true, true, true, true, true, true, true, true, true, true, false, false, false, false, false, false, false, false, false, false, false, false, false, false, false, false, false, false, false, false, false, false, false, false, false] rfl rfl (take_ofW HT_.out HW_.out (by kernel_rfl)) (fun _ _ _ h => h) (Or.inl ⟨by rfl, ?_⟩) hHeld ?_ ?_
              rotate_left
              · rintro w' ⟨s0, s1, s2, s3, s4, s5, s6, s7, s8, s9, s10, s11, s12, s13, s14, s15, s16, s17, s18, s19, s20, s21, s22, s23, s24⟩
                go_simp
                with_reducible rfl
              rotate_left
              · simp only [Act.put, List.setIfInBounds_toArray, List.set_cons_zero, List.set_cons_succ, i64_w, i32_w]
                rfl
              refine take_ (i := 13) (N := some 58) (v := ?_) (a' := ?_) #[true, true, true, true, true, true, true, true, true, true, true, true, true, true, false, false, false, false, false, false, false, false, false, false, false, false, false, false, false, false, false, false, false, false, false, false, false, false] rfl rfl (take_ofW HT_.out HW_.out (by kernel_rfl)) (fun _ _ _ h => h) (Or.inl ⟨by rfl, ?_⟩) hHeld ?_ ?_
              rotate_left
              · rintro w' ⟨s0, s1, s2, s3, s4, s5, s6, s7, s8, s9, s10, s11, s12, s13, s14, s15, s16, s17, s18, s19, s20, s21, s22, s23, s24⟩
                go_simp
                with_reducible rfl
              rotate_left
              · simp only [Act.put, List.setIfInBounds_toArray, List.set_cons_zero, List.set_cons_succ, i64_w, i32_w]
                rfl
              refine pure_ (i := 14) (N := some 59) (v := ?_) (a' := ?_) #[true, true, true, true, true, true, true, true, true, true, true, true, true, true, true, false, false, false, false, false, false, false, false, false, false, false, false, false, false, false, false, false, false, false, false, false, false, false] rfl rfl (any_of HT_.out (by kernel_rfl)) (fun _ _ _ h => h) (Or.inl ⟨by rfl, ?_⟩) ?_ ?_
              rotate_left
              · intro w'
                go_simp
                with_reducible rfl
              rotate_left
              · simp only [Act.put, List.setIfInBounds_toArray, List.set_cons_zero, List.set_cons_succ, i64_w, i32_w]
                rfl
              refine pure_ (i := 15) (N := some 60) (v := ?_) (a' := ?_) #[true, true, true, true, true, true, true, true, true, true, true, true, true, true, true, true, false, false, false, false, false, false, false, false, false, false, false, false, false, false, false, false, false, false, false, false, false, false] rfl rfl (any_of HT_.out (by kernel_rfl)) (fun _ _ _ h => h) (Or.inl ⟨by rfl, ?_⟩) ?_ ?_
              rotate_left
              · intro w'
                go_simp
                with_reducible rfl
              rotate_left
              · simp only [Act.put, List.setIfInBounds_toArray, List.set_cons_zero, List.set_cons_succ, i64_w, i32_w]
                rfl
              refine pure_ (i := 16) (N := some 61) (v := ?_) (a' := ?_) #[true, true, true, true, true, true, true, true, true, true, true, true, true, true, true, true, true, false, false, false, false, false, false, false, false, false, false, false, false, false, false, false, false, false, false, false, false, false] rfl rfl (any_of HT_.out (by kernel_rfl)) (fun _ _ _ h => h) (Or.inl ⟨by rfl, ?_⟩) ?_ ?_
              rotate_left
              · intro w'
                go_simp
                with_reducible rfl
              rotate_left
              · simp only [Act.put, List.setIfInBounds_toArray, List.set_cons_zero, List.set_cons_succ, i64_w, i32_w]
                rfl
              refine pure_ (i := 17) (N := some 62) (v := ?_) (a' := ?_) #[true, true, true, true, true, true, true, true, true, true, true, true, true, true, true, true, true, true, false, false, false, false, false, false, false, false, false, false, false, false, false, false, false, false, false, false, false, false] rfl rfl (any_of HT_.out (by kernel_rfl)) (fun _ _ _ h => h) (Or.inl ⟨by rfl, ?_⟩) ?_ ?_
              rotate_left
              · intro w'
                go_simp
                with_reducible rfl
              rotate_left
              · simp only [Act.put, List.setIfInBounds_toArray, List.set_cons_zero, List.set_cons_succ, i64_w, i32_w]
                rfl
              refine pure_ (i := 18) (N := some 63) (v := ?_) (a' := ?_) #[true, true, true, true, true, true, true, true, true, true, true, true, true, true, true, true, true, true, true, false, false, false, false, false, false, false, false, false, false, false, false, false, false, false, false, false, false, false] rfl rfl (any_of HT_.out (by kernel_rfl)) (fun _ _ _ h => h) (Or.inl ⟨by rfl, ?_⟩) ?_ ?_
              rotate_left
              · intro w'
                go_simp
                with_reducible rfl
              rotate_left
              · simp only [Act.put, List.setIfInBounds_toArray, List.set_cons_zero, List.set_cons_succ, i64_w, i32_w]
                rfl
              refine pure_ (i := 19) (N := some 64) (v := ?_) (a' := ?_) #[true, true, true, true, true, true, true, true, true, true, true, true, true, true, true, true, true, true, true, true, false, false, false, false, false, false, false, false, false, false, false, false, false, false, false, false, false, false] rfl rfl (any_of HT_.out (by kernel_rfl)) (fun _ _ _ h => h) (Or.inl ⟨by rfl, ?_⟩) ?_ ?_
              rotate_left
              · intro w'
                go_simp
                with_reducible rfl
              rotate_left
              · simp only [Act.put, List.setIfInBounds_toArray, List.set_cons_zero, List.set_cons_succ, i64_w, i32_w]
                rfl
              refine pure_ (i := 20) (N := some 65) (v := ?_) (a' := ?_) #[true, true, true, true, true, true, true, true, true, true, true, true, true, true, true, true, true, true, true, true, true, false, false, false, false, false, false, false, false, false, false, false, false, false, false, false, false, false] rfl rfl (any_of HT_.out (by kernel_rfl)) (fun _ _ _ h => h) (Or.inl ⟨by rfl, ?_⟩) ?_ ?_
              rotate_left
              · intro w'
                go_simp
                with_reducible rfl
              rotate_left
              · simp only [Act.put, List.setIfInBounds_toArray, List.set_cons_zero, List.set_cons_succ, i64_w, i32_w]
                rfl
              refine pure_ (i := 21) (N := some 66) (v := ?_) (a' := ?_) #[true, true, true, true, true, true, true, true, true, true, true, true, true, true, true, true, true, true, true, true, true, true, false, false, false, false, false, false, false, false, false, false, false, false, false, false, false, false] rfl rfl (any_of HT_.out (by kernel_rfl)) (fun _ _ _ h => h) (Or.inl ⟨by rfl, ?_⟩) ?_ ?_
              rotate_left
              · intro w'
                go_simp
                with_reducible rfl
              rotate_left
              · simp only [Act.put, List.setIfInBounds_toArray, List.set_cons_zero, List.set_cons_succ, i64_w, i32_w]
                rfl
              refine pure_ (i := 23) (N := some 68) (v := ?_) (a' := ?_) #[true, true, true, true, true, true, true, true, true, true, true, true, true, true, true, true, true, true, true, true, true, true, false, true, false, false, false, false, false, false, false, false, false, false, false, false, false, false] rfl rfl (any_of HT_.out (by kernel_rfl)) (fun _ _ _ h => h) (Or.inl ⟨by rfl, ?_⟩) ?_ ?_
              rotate_left
              · intro w'
                go_simp
                with_reducible rfl
              rotate_left
              · simp only [Act.put, List.setIfInBounds_toArray, List.set_cons_zero, List.set_cons_succ, i64_w, i32_w]
                rfl
              refine pure_ (i := 26) (N := some 71) (v := ?_) (a' := ?_) #[true, true, true, true, true, true, true, true, true, true, true, true, true, true, true, true, true, true, true, true, true, true, false, true, false, false, true, false, false, false, false, false, false, false, false, false, false, false] rfl rfl (any_of HT_.out (by kernel_rfl)) (fun _ _ _ h => h) (Or.inl ⟨by rfl, ?_⟩) ?_ ?_
              rotate_left
              · intro w'
                go_simp
                with_reducible rfl
              rotate_left
              · simp only [Act.put, List.setIfInBounds_toArray, List.set_cons_zero, List.set_cons_succ, i64_w, i32_w]
                rfl
              refine take_ (i := 22) (N := some 67) (v := ?_) (a' := ?_) #[true, true, true, true, true, true, true, true, true, true, true, true, true, true, true, true, true, true, true, true, true, true, true, true, false, false, true, false, false, false, false, false, false, false, false, false, false, false] rfl rfl (take_ofW HT_.out HW_.out (by kernel_rfl)) (fun _ _ _ h => h) (Or.inl ⟨by rfl, ?_⟩) hHeld ?_ ?_
              rotate_left
              · rintro w' ⟨s0, s1, s2, s3, s4, s5, s6, s7, s8, s9, s10, s11, s12, s13, s14, s15, s16, s17, s18, s19, s20, s21, s22, s23, s24⟩
                go_simp
                with_reducible rfl
              rotate_left
              · simp only [Act.put, List.setIfInBounds_toArray, List.set_cons_zero, List.set_cons_succ, i64_w, i32_w]
                rfl
              refine take_ (i := 25) (N := some 70) (v := ?_) (a' := ?_) #[true, true, true, true, true, true, true, true, true, true, true, true, true, true, true, true, true, true, true, true, true, true, true, true, false, true, true, false, false, false, false, false, false, false, false, false, false, false] rfl rfl (take_ofW HT_.out HW_.out (by kernel_rfl)) (fun _ _ _ h => h) (Or.inl ⟨by rfl, ?_⟩) hHeld ?_ ?_
              rotate_left
              · rintro w' ⟨s0, s1, s2, s3, s4, s5, s6, s7, s8, s9, s10, s11, s12, s13, s14, s15, s16, s17, s18, s19, s20, s21, s22, s23, s24⟩
                go_simp
                with_reducible rfl
              rotate_left
              · simp only [Act.put, List.setIfInBounds_toArray, List.set_cons_zero, List.set_cons_succ, i64_w, i32_w]
                rfl
              refine one_ (i := 24) (N := some 69) #[true, true, true, true, true, true, true, true, true, true, true, true, true, true, true, true, true, true, true, true, true, true, true, true, true, true, true, false, false, false, false, false, false, false, false, false, false, false] rfl rfl (one_of HT_.out (by kernel_rfl)) (by decide) (fun K hK => ?_)
              refine goes_ Try.func11 (by kernel_rfl) rfl #[.agg #[.bool a0_0, .int .i64 a0_1, .int .i64 a0_2, .int .i64 a0_3, .int .i64 a0_4], .int .i64 a3] (by rfl) rfl rfl (by (try simp only [List.map_toArray, List.map_cons, List.map_nil]); first | done | rfl | (simp only [List.length_drop, List.length_take]; rfl)) ?_
              with_reducible refine (rtt_Wait.calls k a0_0 a0_1 a0_2 a0_3 a0_4 a3 t213 _ A15.out).mono ?_
              rintro e w50 ⟨rfl, hb⟩
              refine ⟨_, rfl, ?_⟩
              have n0_ := Aside0.mk (blk_below (g := gb183) (o := .cells #[.bool a0_0, .int .i64 a0_1, .int .i64 a0_2, .int .i64 a0_3, .int .i64 a0_4] 23 (0, 0)) (by (with_reducible repeat (first | refine blk_drewN ?_ _ | refine blk_drew ?_ | refine blk_alloc ?_ _)); exact BK183.out) hb)
              have n1_ := Aside0.mk (blk_below (g := gb191) (o := .cells #[.bool t185, .int .i64 t186, .int .i64 t187, .int .i64 t188, .int .i64 t189] 23 (0, 0)) (by (with_reducible repeat (first | refine blk_drewN ?_ _ | refine blk_drew ?_ | refine blk_alloc ?_ _)); exact BK191.out) hb)
              have n2_ := Aside0.mk (blk_below (g := gb198) (o := .cells #[.bool t192, .int .i64 t193, .int .i64 t194, .int .i64 t195, .int .i64 t196] 23 (0, 0)) (by (with_reducible repeat (first | refine blk_drewN ?_ _ | refine blk_drew ?_ | refine blk_alloc ?_ _)); exact BK198.out) hb)
              have n3_ := Aside0.mk (blk_below (g := gb205) (o := .cells #[.bool t199, .int .i64 t200, .int .i64 t201, .int .i64 t202, .int .i64 t203] 23 (0, 0)) (by (with_reducible repeat (first | refine blk_drewN ?_ _ | refine blk_drew ?_ | refine blk_alloc ?_ _)); exact BK205.out) hb)
              have n4_ := Aside0.mk (blk_below (g := gb212) (o := .cells #[.bool t206, .int .i64 t207, .int .i64 t208, .int .i64 t209, .int .i64 t210] 23 (0, 0)) (by (with_reducible repeat (first | refine blk_drewN ?_ _ | refine blk_drew ?_ | refine blk_alloc ?_ _)); exact BK212.out) hb)
              have n5_ := Aside0.mk (below_step (by repeat (first | (with_reducible first | exact HB.out | apply below_alloc | apply pw_below_drewN | apply below_drew1 | refine below_set ?_ GE183.out | refine below_set ?_ GE191.out | refine below_set ?_ GE198.out | refine below_set ?_ GE205.out | refine below_set ?_ GE212.out) | exact HB.out)) hb)
              clear BK183
              clear BK191
              clear BK198
              clear BK205
              clear BK212
              clear HB
              have BK183 := n0_
              have BK191 := n1_
              have BK198 := n2_
              have BK205 := n3_
              have BK212 := n4_
              have HB := n5_
              clear n0_ n1_ n2_ n3_ n4_ n5_
              (try clear hb)
              (try clear hb2)
              (try clear hk)
              (try clear hi)
              refine hK.out _ _ ⟨(blk_cell BK191.out 0).trans rfl, (blk_cell BK191.out 1).trans rfl, (blk_cell BK191.out 2).trans rfl, (blk_cell BK191.out 3).trans rfl, (blk_cell BK191.out 4).trans rfl, (blk_cell BK198.out 0).trans rfl, (blk_cell BK198.out 1).trans rfl, (blk_cell BK198.out 2).trans rfl, (blk_cell BK198.out 3).trans rfl, (blk_cell BK198.out 4).trans rfl, (blk_cell BK205.out 0).trans rfl, (blk_cell BK205.out 1).trans rfl, (blk_cell BK205.out 2).trans rfl, (blk_cell BK205.out 3).trans rfl, (blk_cell BK205.out 4).trans rfl, (blk_cell BK212.out 0).trans rfl, (blk_cell BK212.out 1).trans rfl, (blk_cell BK212.out 2).trans rfl, (blk_cell BK212.out 3).trans rfl, (blk_cell BK212.out 4).trans rfl, (blk_cell BK183.out 0).trans rfl, (blk_cell BK183.out 1).trans rfl, (blk_cell BK183.out 2).trans rfl, (blk_cell BK183.out 3).trans rfl, (blk_cell BK183.out 4).trans rfl⟩ (fun hHeld => ?_)
              clear hK K
              refine norm_ (a' := ?_) ?_ ?_
              rotate_left
              · show Act.put _ (some 69) _ = _
                simp only [Act.put, List.setIfInBounds_toArray, List.set_cons_zero, List.set_cons_succ, i64_w, i32_w]
                rfl
              refine one_ (i := 27) (N := some 72) #[true, true, true, true, true, true, true, true, true, true, true, true, true, true, true, true, true, true, true, true, true, true, true, true, true, true, true, true, false, false, false, false, false, false, false, false, false, false] rfl rfl (one_of HT_.out (by kernel_rfl)) (by decide) (fun K hK => ?_)
              refine goes_ Try.func16 (by kernel_rfl) rfl #[.agg #[.bool a0_0, .int .i64 a0_1, .int .i64 a0_2, .int .i64 a0_3, .int .i64 a0_4], .int .i64 a3] (by rfl) rfl rfl (by (try simp only [List.map_toArray, List.map_cons, List.map_nil]); first | done | rfl | (simp only [List.length_drop, List.length_take]; rfl)) ?_
              with_reducible refine (fourinhandref08_Wait.calls k a0_0 a0_1 a0_2 a0_3 a0_4 a3 t214 _ A16.out).mono ?_
              rintro e w51 ⟨rfl, hb⟩
              refine ⟨_, rfl, ?_⟩
              have n0_ := Aside0.mk (blk_below (g := gb183) (o := .cells #[.bool a0_0, .int .i64 a0_1, .int .i64 a0_2, .int .i64 a0_3, .int .i64 a0_4] 23 (0, 0)) (by (with_reducible repeat (first | refine blk_drewN ?_ _ | refine blk_drew ?_ | refine blk_alloc ?_ _)); exact BK183.out) hb)
              have n1_ := Aside0.mk (blk_below (g := gb191) (o := .cells #[.bool t185, .int .i64 t186, .int .i64 t187, .int .i64 t188, .int .i64 t189] 23 (0, 0)) (by (with_reducible repeat (first | refine blk_drewN ?_ _ | refine blk_drew ?_ | refine blk_alloc ?_ _)); exact BK191.out) hb)
              have n2_ := Aside0.mk (blk_below (g := gb198) (o := .cells #[.bool t192, .int .i64 t193, .int .i64 t194, .int .i64 t195, .int .i64 t196] 23 (0, 0)) (by (with_reducible repeat (first | refine blk_drewN ?_ _ | refine blk_drew ?_ | refine blk_alloc ?_ _)); exact BK198.out) hb)
              have n3_ := Aside0.mk (blk_below (g := gb205) (o := .cells #[.bool t199, .int .i64 t200, .int .i64 t201, .int .i64 t202, .int .i64 t203] 23 (0, 0)) (by (with_reducible repeat (first | refine blk_drewN ?_ _ | refine blk_drew ?_ | refine blk_alloc ?_ _)); exact BK205.out) hb)
              have n4_ := Aside0.mk (blk_below (g := gb212) (o := .cells #[.bool t206, .int .i64 t207, .int .i64 t208, .int .i64 t209, .int .i64 t210] 23 (0, 0)) (by (with_reducible repeat (first | refine blk_drewN ?_ _ | refine blk_drew ?_ | refine blk_alloc ?_ _)); exact BK212.out) hb)
              have n5_ := Aside0.mk (below_step (by repeat (first | (with_reducible first | exact HB.out | apply below_alloc | apply pw_below_drewN | apply below_drew1 | refine below_set ?_ GE183.out | refine below_set ?_ GE191.out | refine below_set ?_ GE198.out | refine below_set ?_ GE205.out | refine below_set ?_ GE212.out) | exact HB.out)) hb)
              clear BK183
              clear BK191
              clear BK198
              clear BK205
              clear BK212
              clear HB
              have BK183 := n0_
              have BK191 := n1_
              have BK198 := n2_
              have BK205 := n3_
              have BK212 := n4_
              have HB := n5_
              clear n0_ n1_ n2_ n3_ n4_ n5_
              (try clear hb)
              (try clear hb2)
              (try clear hk)
              (try clear hi)
              refine hK.out _ _ ⟨(blk_cell BK191.out 0).trans rfl, (blk_cell BK191.out 1).trans rfl, (blk_cell BK191.out 2).trans rfl, (blk_cell BK191.out 3).trans rfl, (blk_cell BK191.out 4).trans rfl, (blk_cell BK198.out 0).trans rfl, (blk_cell BK198.out 1).trans rfl, (blk_cell BK198.out 2).trans rfl, (blk_cell BK198.out 3).trans rfl, (blk_cell BK198.out 4).trans rfl, (blk_cell BK205.out 0).trans rfl, (blk_cell BK205.out 1).trans rfl, (blk_cell BK205.out 2).trans rfl, (blk_cell BK205.out 3).trans rfl, (blk_cell BK205.out 4).trans rfl, (blk_cell BK212.out 0).trans rfl, (blk_cell BK212.out 1).trans rfl, (blk_cell BK212.out 2).trans rfl, (blk_cell BK212.out 3).trans rfl, (blk_cell BK212.out 4).trans rfl, (blk_cell BK183.out 0).trans rfl, (blk_cell BK183.out 1).trans rfl, (blk_cell BK183.out 2).trans rfl, (blk_cell BK183.out 3).trans rfl, (blk_cell BK183.out 4).trans rfl⟩ (fun hHeld => ?_)
              clear hK K
              refine norm_ (a' := ?_) ?_ ?_
              rotate_left
              · show Act.put _ (some 72) _ = _
                simp only [Act.put, List.setIfInBounds_toArray, List.set_cons_zero, List.set_cons_succ, i64_w, i32_w]
                rfl
              refine pure_ (i := 28) (N := some 73) (v := ?_) (a' := ?_) #[true, true, true, true, true, true, true, true, true, true, true, true, true, true, true, true, true, true, true, true, true, true, true, true, true, true, true, true, true, false, false, false, false, false, false, false, false, false] rfl rfl (any_of HT_.out (by kernel_rfl)) (fun _ _ _ h => h) (Or.inl ⟨by rfl, ?_⟩) ?_ ?_
              rotate_left
              · intro w'
                go_simp
                with_reducible rfl
              rotate_left
              · simp only [Act.put, List.setIfInBounds_toArray, List.set_cons_zero, List.set_cons_succ, i64_w, i32_w]
                rfl
              refine pure_ (i := 29) (N := some 74) (v := ?_) (a' := ?_) #[true, true, true, true, true, true, true, true, true, true, true, true, true, true, true, true, true, true, true, true, true, true, true, true, true, true, true, true, true, true, false, false, false, false, false, false, false, false] rfl rfl (any_of HT_.out (by kernel_rfl)) (fun _ _ _ h => h) (Or.inl ⟨by rfl, ?_⟩) ?_ ?_
              rotate_left
              · intro w'
                go_simp
                with_reducible rfl
              rotate_left
              · simp only [Act.put, List.setIfInBounds_toArray, List.set_cons_zero, List.set_cons_succ, i64_w, i32_w]
                rfl
              refine pure_ (i := 30) (N := some 75) (v := ?_) (a' := ?_) #[true, true, true, true, true, true, true, true, true, true, true, true, true, true, true, true, true, true, true, true, true, true, true, true, true, true, true, true, true, true, true, false, false, false, false, false, false, false] rfl rfl (any_of HT_.out (by kernel_rfl)) (fun _ _ _ h => h) (Or.inl ⟨by rfl, ?_⟩) ?_ ?_
              rotate_left
              · intro w'
                go_simp
                with_reducible rfl
              rotate_left
              · simp only [Act.put, List.setIfInBounds_toArray, List.set_cons_zero, List.set_cons_succ, i64_w, i32_w]
                rfl
              refine take_ (i := 31) (N := some 76) (v := ?_) (a' := ?_) #[true, true, true, true, true, true, true, true, true, true, true, true, true, true, true, true, true, true, true, true, true, true, true, true, true, true, true, true, true, true, true, true, false, false, false, false, false, false] rfl rfl (take_ofW HT_.out HW_.out (by kernel_rfl)) (fun _ _ _ h => h) (Or.inl ⟨by rfl, ?_⟩) hHeld ?_ ?_
              rotate_left
              · rintro w' ⟨s0, s1, s2, s3, s4, s5, s6, s7, s8, s9, s10, s11, s12, s13, s14, s15, s16, s17, s18, s19, s20, s21, s22, s23, s24⟩
                go_simp
                with_reducible rfl
              rotate_left
              · simp only [Act.put, List.setIfInBounds_toArray, List.set_cons_zero, List.set_cons_succ, i64_w, i32_w]
                rfl
              refine take_ (i := 33) (N := some 78) (v := ?_) (a' := ?_) #[true, true, true, true, true, true, true, true, true, true, true, true, true, true, true, true, true, true, true, true, true, true, true, true, true, true, true, true, true, true, true, true, false, true, false, false, false, false] rfl rfl (take_ofW HT_.out HW_.out (by kernel_rfl)) (fun _ _ _ h => h) (Or.inl ⟨by rfl, ?_⟩) hHeld ?_ ?_
              rotate_left
              · rintro w' ⟨s0, s1, s2, s3, s4, s5, s6, s7, s8, s9, s10, s11, s12, s13, s14, s15, s16, s17, s18, s19, s20, s21, s22, s23, s24⟩
                go_simp
                with_reducible rfl
              rotate_left
              · simp only [Act.put, List.setIfInBounds_toArray, List.set_cons_zero, List.set_cons_succ, i64_w, i32_w]
                rfl
              refine one_ (i := 32) (N := some 77) #[true, true, true, true, true, true, true, true, true, true, true, true, true, true, true, true, true, true, true, true, true, true, true, true, true, true, true, true, true, true, true, true, true, true, false, false, false, false] rfl rfl (one_of HT_.out (by kernel_rfl)) (by decide) (fun K hK => ?_)
              refine goes_ Try.func12 (by kernel_rfl) rfl #[.agg #[.bool a0_0, .int .i64 a0_1, .int .i64 a0_2, .int .i64 a0_3, .int .i64 a0_4]] (by rfl) rfl rfl (by (try simp only [List.map_toArray, List.map_cons, List.map_nil]); first | done | rfl | (simp only [List.length_drop, List.length_take]; rfl)) ?_
              with_reducible refine (rtt_May.calls k a0_0 a0_1 a0_2 a0_3 a0_4 t215 _ A18.out).mono ?_
              rintro e w52 ⟨rfl, hb⟩
              refine ⟨_, rfl, ?_⟩
              have n0_ := Aside0.mk (blk_below (g := gb183) (o := .cells #[.bool a0_0, .int .i64 a0_1, .int .i64 a0_2, .int .i64 a0_3, .int .i64 a0_4] 23 (0, 0)) (by (with_reducible repeat (first | refine blk_drewN ?_ _ | refine blk_drew ?_ | refine blk_alloc ?_ _)); exact BK183.out) hb)
              have n1_ := Aside0.mk (blk_below (g := gb191) (o := .cells #[.bool t185, .int .i64 t186, .int .i64 t187, .int .i64 t188, .int .i64 t189] 23 (0, 0)) (by (with_reducible repeat (first | refine blk_drewN ?_ _ | refine blk_drew ?_ | refine blk_alloc ?_ _)); exact BK191.out) hb)
              have n2_ := Aside0.mk (blk_below (g := gb198) (o := .cells #[.bool t192, .int .i64 t193, .int .i64 t194, .int .i64 t195, .int .i64 t196] 23 (0, 0)) (by (with_reducible repeat (first | refine blk_drewN ?_ _ | refine blk_drew ?_ | refine blk_alloc ?_ _)); exact BK198.out) hb)
              have n3_ := Aside0.mk (blk_below (g := gb205) (o := .cells #[.bool t199, .int .i64 t200, .int .i64 t201, .int .i64 t202, .int .i64 t203] 23 (0, 0)) (by (with_reducible repeat (first | refine blk_drewN ?_ _ | refine blk_drew ?_ | refine blk_alloc ?_ _)); exact BK205.out) hb)
              have n4_ := Aside0.mk (blk_below (g := gb212) (o := .cells #[.bool t206, .int .i64 t207, .int .i64 t208, .int .i64 t209, .int .i64 t210] 23 (0, 0)) (by (with_reducible repeat (first | refine blk_drewN ?_ _ | refine blk_drew ?_ | refine blk_alloc ?_ _)); exact BK212.out) hb)
              have n5_ := Aside0.mk (below_step (by repeat (first | (with_reducible first | exact HB.out | apply below_alloc | apply pw_below_drewN | apply below_drew1 | refine below_set ?_ GE183.out | refine below_set ?_ GE191.out | refine below_set ?_ GE198.out | refine below_set ?_ GE205.out | refine below_set ?_ GE212.out) | exact HB.out)) hb)
              clear BK183
              clear BK191
              clear BK198
              clear BK205
              clear BK212
              clear HB
              have BK183 := n0_
              have BK191 := n1_
              have BK198 := n2_
              have BK205 := n3_
              have BK212 := n4_
              have HB := n5_
              clear n0_ n1_ n2_ n3_ n4_ n5_
              (try clear hb)
              (try clear hb2)
              (try clear hk)
              (try clear hi)
              refine hK.out _ _ ⟨(blk_cell BK191.out 0).trans rfl, (blk_cell BK191.out 1).trans rfl, (blk_cell BK191.out 2).trans rfl, (blk_cell BK191.out 3).trans rfl, (blk_cell BK191.out 4).trans rfl, (blk_cell BK198.out 0).trans rfl, (blk_cell BK198.out 1).trans rfl, (blk_cell BK198.out 2).trans rfl, (blk_cell BK198.out 3).trans rfl, (blk_cell BK198.out 4).trans rfl, (blk_cell BK205.out 0).trans rfl, (blk_cell BK205.out 1).trans rfl, (blk_cell BK205.out 2).trans rfl, (blk_cell BK205.out 3).trans rfl, (blk_cell BK205.out 4).trans rfl, (blk_cell BK212.out 0).trans rfl, (blk_cell BK212.out 1).trans rfl, (blk_cell BK212.out 2).trans rfl, (blk_cell BK212.out 3).trans rfl, (blk_cell BK212.out 4).trans rfl, (blk_cell BK183.out 0).trans rfl, (blk_cell BK183.out 1).trans rfl, (blk_cell BK183.out 2).trans rfl, (blk_cell BK183.out 3).trans rfl, (blk_cell BK183.out 4).trans rfl⟩ (fun hHeld => ?_)
              clear hK K
              refine norm_ (a' := ?_) ?_ ?_
              rotate_left
              · show Act.put _ (some 77) _ = _
                simp only [Act.put, List.setIfInBounds_toArray, List.set_cons_zero, List.set_cons_succ, i64_w, i32_w]
                rfl
              refine one_ (i := 34) (N := some 79) #[true, true, true, true, true, true, true, true, true, true, true, true, true, true, true, true, true, true, true, true, true, true, true, true, true, true, true, true, true, true, true, true, true, true, true, false, false, false] rfl rfl (one_of HT_.out (by kernel_rfl)) (by decide) (fun K hK => ?_)
              refine goes_ Try.func17 (by kernel_rfl) rfl #[.agg #[.bool a0_0, .int .i64 a0_1, .int .i64 a0_2, .int .i64 a0_3, .int .i64 a0_4]] (by rfl) rfl rfl (by (try simp only [List.map_toArray, List.map_cons, List.map_nil]); first | done | rfl | (simp only [List.length_drop, List.length_take]; rfl)) ?_
              with_reducible refine (fourinhandref08_May.calls a0_0 a0_1 a0_2 a0_3 a0_4 t216 _ A19.out).mono ?_
              rintro e w53 ⟨rfl, hb⟩
              refine ⟨_, rfl, ?_⟩
              have n0_ := Aside0.mk (blk_below (g := gb183) (o := .cells #[.bool a0_0, .int .i64 a0_1, .int .i64 a0_2, .int .i64 a0_3, .int .i64 a0_4] 23 (0, 0)) (by (with_reducible repeat (first | refine blk_drewN ?_ _ | refine blk_drew ?_ | refine blk_alloc ?_ _)); exact BK183.out) hb)
              have n1_ := Aside0.mk (blk_below (g := gb191) (o := .cells #[.bool t185, .int .i64 t186, .int .i64 t187, .int .i64 t188, .int .i64 t189] 23 (0, 0)) (by (with_reducible repeat (first | refine blk_drewN ?_ _ | refine blk_drew ?_ | refine blk_alloc ?_ _)); exact BK191.out) hb)
              have n2_ := Aside0.mk (blk_below (g := gb198) (o := .cells #[.bool t192, .int .i64 t193, .int .i64 t194, .int .i64 t195, .int .i64 t196] 23 (0, 0)) (by (with_reducible repeat (first | refine blk_drewN ?_ _ | refine blk_drew ?_ | refine blk_alloc ?_ _)); exact BK198.out) hb)
              have n3_ := Aside0.mk (blk_below (g := gb205) (o := .cells #[.bool t199, .int .i64 t200, .int .i64 t201, .int .i64 t202, .int .i64 t203] 23 (0, 0)) (by (with_reducible repeat (first | refine blk_drewN ?_ _ | refine blk_drew ?_ | refine blk_alloc ?_ _)); exact BK205.out) hb)
              have n4_ := Aside0.mk (blk_below (g := gb212) (o := .cells #[.bool t206, .int .i64 t207, .int .i64 t208, .int .i64 t209, .int .i64 t210] 23 (0, 0)) (by (with_reducible repeat (first | refine blk_drewN ?_ _ | refine blk_drew ?_ | refine blk_alloc ?_ _)); exact BK212.out) hb)
              have n5_ := Aside0.mk (below_step (by repeat (first | (with_reducible first | exact HB.out | apply below_alloc | apply pw_below_drewN | apply below_drew1 | refine below_set ?_ GE183.out | refine below_set ?_ GE191.out | refine below_set ?_ GE198.out | refine below_set ?_ GE205.out | refine below_set ?_ GE212.out) | exact HB.out)) hb)
              clear BK183
              clear BK191
              clear BK198
              clear BK205
              clear BK212
              clear HB
              have BK183 := n0_
              have BK191 := n1_
              have BK198 := n2_
              have BK205 := n3_
              have BK212 := n4_
              have HB := n5_
              clear n0_ n1_ n2_ n3_ n4_ n5_
              (try clear hb)
              (try clear hb2)
              (try clear hk)
              (try clear hi)
              refine hK.out _ _ ⟨(blk_cell BK191.out 0).trans rfl, (blk_cell BK191.out 1).trans rfl, (blk_cell BK191.out 2).trans rfl, (blk_cell BK191.out 3).trans rfl, (blk_cell BK191.out 4).trans rfl, (blk_cell BK198.out 0).trans rfl, (blk_cell BK198.out 1).trans rfl, (blk_cell BK198.out 2).trans rfl, (blk_cell BK198.out 3).trans rfl, (blk_cell BK198.out 4).trans rfl, (blk_cell BK205.out 0).trans rfl, (blk_cell BK205.out 1).trans rfl, (blk_cell BK205.out 2).trans rfl, (blk_cell BK205.out 3).trans rfl, (blk_cell BK205.out 4).trans rfl, (blk_cell BK212.out 0).trans rfl, (blk_cell BK212.out 1).trans rfl, (blk_cell BK212.out 2).trans rfl, (blk_cell BK212.out 3).trans rfl, (blk_cell BK212.out 4).trans rfl, (blk_cell BK183.out 0).trans rfl, (blk_cell BK183.out 1).trans rfl, (blk_cell BK183.out 2).trans rfl, (blk_cell BK183.out 3).trans rfl, (blk_cell BK183.out 4).trans rfl⟩ (fun hHeld => ?_)
              clear hK K
              refine norm_ (a' := ?_) ?_ ?_
              rotate_left
              · show Act.put _ (some 79) _ = _
                simp only [Act.put, List.setIfInBounds_toArray, List.set_cons_zero, List.set_cons_succ, i64_w, i32_w]
                rfl
              refine pure_ (i := 35) (N := some 80) (v := ?_) (a' := ?_) #[true, true, true, true, true, true, true, true, true, true, true, true, true, true, true, true, true, true, true, true, true, true, true, true, true, true, true, true, true, true, true, true, true, true, true, true, false, false] rfl rfl (any_of HT_.out (by kernel_rfl)) (fun _ _ _ h => h) (Or.inl ⟨by rfl, ?_⟩) ?_ ?_
              rotate_left
              · intro w'
                go_simp
                with_reducible rfl
              rotate_left
              · simp only [Act.put, List.setIfInBounds_toArray, List.set_cons_zero, List.set_cons_succ, i64_w, i32_w]
                rfl
              refine pure_ (i := 36) (N := some 81) (v := ?_) (a' := ?_) #[true, true, true, true, true, true, true, true, true, true, true, true, true, true, true, true, true, true, true, true, true, true, true, true, true, true, true, true, true, true, true, true, true, true, true, true, true, false] rfl rfl (any_of HT_.out (by kernel_rfl)) (fun _ _ _ h => h) (Or.inl ⟨by rfl, ?_⟩) ?_ ?_
              rotate_left
              · intro w'
                go_simp
                with_reducible rfl
              rotate_left
              · simp only [Act.put, List.setIfInBounds_toArray, List.set_cons_zero, List.set_cons_succ, i64_w, i32_w]
                rfl
              refine pure_ (i := 37) (N := some 8) (v := ?_) (a' := ?_) #[true, true, true, true, true, true, true, true, true, true, true, true, true, true, true, true, true, true, true, true, true, true, true, true, true, true, true, true, true, true, true, true, true, true, true, true, true, true] rfl rfl (any_of HT_.out (by kernel_rfl)) (fun _ _ _ h => h) (Or.inl ⟨by rfl, ?_⟩) ?_ ?_
              rotate_left
              · intro w'
                go_simp
                with_reducible rfl
              rotate_left
              · simp only [Act.put, List.setIfInBounds_toArray, List.set_cons_zero, List.set_cons_succ, i64_w, i32_w]
                rfl
              refine done_ (done_of HT_.out (by kernel_rfl)) ?_
              try go_wp2
              go_ret
              exact ⟨by first | rfl | (simp [errW_none, errW_some] <;> rfl) | (simp [*, errW_none, errW_some] <;> rfl), by repeat (first | (with_reducible first | exact HB.out | apply below_alloc | apply pw_below_drewN | apply below_drew1 | refine below_set ?_ GE183.out | refine below_set ?_ GE191.out | refine below_set ?_ GE198.out | refine below_set ?_ GE205.out | refine below_set ?_ GE212.out) | exact HB.out)⟩
            · rw [if_neg c17] at H
              have c17b0 : (t213 == t214) = false := beq_eq_false_iff_ne.mpr c17
              have c17b1 : (t213 != t214) = true := bne_iff_ne.mpr c17
              exact Bool.noConfusion ((Option.some.inj H).trans hr_.out)
          · rw [if_neg c14] at H
            have c14b0 : (t204 == t211) = false := beq_eq_false_iff_ne.mpr c14
            have c14b1 : (t204 != t211) = true := bne_iff_ne.mpr c14
            exact Bool.noConfusion ((Option.some.inj H).trans hr_.out)
        · rw [if_neg c13] at H
          have c13b0 : (t199 == t206 && (t200 == t207 && (t201 == t208 && (t202 == t209 && (t203 == t210))))) = false := by simpa using c13
          (try (have c13b1 : decide (t199 = t206 && (t200 == t207 && (t201 == t208 && (t202 == t209 && (t203 == t210))))) = false := by simpa using c13))
          (try (have c13b2 : (t199 == t206 && (t200 == t207 && (t201 == t208 && (t202 == t209 && (t203 == t210))))) = false := by simpa using c13))
          (try (have c13b3 : ¬ (t199 = t206 && (t200 == t207 && (t201 == t208 && (t202 == t209 && (t203 == t210))))) := by simpa using c13))
          clear c13
          exact Bool.noConfusion ((Option.some.inj H).trans hr_.out)
      · rw [if_neg c12] at H
        have c12b0 : (t190 == t197) = false := beq_eq_false_iff_ne.mpr c12
        have c12b1 : (t190 != t197) = true := bne_iff_ne.mpr c12
        exact Bool.noConfusion ((Option.some.inj H).trans hr_.out)
    · rw [if_neg c11] at H
      have c11b0 : (t185 == t192 && (t186 == t193 && (t187 == t194 && (t188 == t195 && (t189 == t196))))) = false := by simpa using c11
      (try (have c11b1 : decide (t185 = t192 && (t186 == t193 && (t187 == t194 && (t188 == t195 && (t189 == t196))))) = false := by simpa using c11))
      (try (have c11b2 : (t185 == t192 && (t186 == t193 && (t187 == t194 && (t188 == t195 && (t189 == t196))))) = false := by simpa using c11))
      (try (have c11b3 : ¬ (t185 = t192 && (t186 == t193 && (t187 == t194 && (t188 == t195 && (t189 == t196))))) := by simpa using c11))
      clear c11
      exact Bool.noConfusion ((Option.some.inj H).trans hr_.out)
  · replace c10 := Bool.eq_false_iff.mpr c10
    subst c10
    have H1 : (some false) = some r := by rw [if_neg (show ¬ (false = true) by decide)] at H; exact H
    clear H
    have H := H1
    clear H1
    exact Bool.noConfusion ((Option.some.inj H).trans hr_.out)

end Go.Proofs.Ytbkfegmhbiakhaa.PRttTells
