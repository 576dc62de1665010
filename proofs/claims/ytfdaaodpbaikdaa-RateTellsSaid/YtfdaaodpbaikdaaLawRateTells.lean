/- The row of the law RateTells: for every input the call returns true and leaves its arguments as they were. No condition. (Written by a program of this session, wip/hprint.py.) -/
import Derived.Test.YtfdaaodpbaikdaaRows
import Derived.Test.YtfdaaodpbaikdaaPRateTellsx7
import Derived.Test.YtfdaaodpbaikdaaPureRateTells
import Derived.Test.YtfdaaodpbaikdaaWOpens
import Derived.WalkKit
import Derived.ProofKit
import Derived.OpenShut
import Derived.ShutString
import Derived.ChangeOld
import Derived.Below
import Derived.SizedLaws
namespace Go.Proofs.Ytfdaaodpbaikdaa.rateTells
open Go.ChangeShapes Go.WideShapes Go.ChangeAt Go.RowKit Go.Proofs.Ytfdaaodpbaikdaa.PRateTells Go.Proofs.YtfdaaodpbaikdaaW.PrintWords Go.Proofs.YtfdaaodpbaikdaaW.PrintLast Go.Proofs.YtfdaaodpbaikdaaW.PrintMore Go.Proofs.YtfdaaodpbaikdaaW.Opens
set_option linter.unusedVariables false
theorem own : ownKnob Try.prog.godebug = none := by kernel_rfl
theorem laidOut : laidOutB Try.prog = true := by kernel_rfl
set_option maxRecDepth 100000 in
set_option maxHeartbeats 1000000 in
theorem lifted (os : Os) (started : os.Started) (H : Type) (enc : TypeId × Value → H) :
    ReturnsInHanded {} Try.checked os 3 .any (Rows.rateTellsSpec.pre6 enc Try.prog Try.f3 Rows.rateTellsRow.domain false) (Rows.rateTellsSpec.post enc Try.prog Try.f3 false true false false) := by
  refine returnsInHanded_of_change_sized (C := Try.checked) own started (by kernel_rfl) Try.func3
    (ChangeSpec.witness6 (enc := enc) (C := Try.checked) false ⟨#[], #[.agg #[.int .i64 0, .int .i64 0, .slice none 0 0], .int .i64 0, .int .i64 0, .int .i64 0, .int .i64 0], []⟩ 8 (by kernel_rfl) (by kernel_rfl) (by kernel_rfl) (by kernel_rfl)) ?_
  intro W base args ds gs before hval0 hW hcnd hsz0 _
  have hval : ∀ (j : Nat) t v, Try.f3.params[j]? = some t → args[j]? = some v → Value.okWide Try.prog W .any base t v := hval0
  have hW' := hW
  obtain ⟨p, q, hA0, hV, rfl, hfz, hnd⟩ := hW
  have hA : DataW.TrodAll enc Try.prog W 0 (fun _ => true) true Try.f3.params.toList args.toList ds p := hA0
  rw [Try.params3] at hA hval
  obtain ⟨v0, vs0, d0, ds0, p0, q0, hargs, rfl, rfl, h0, r0⟩ := trodAll_cons hA
  obtain ⟨v1, vs1, d1, ds1, p1, q1, rfl, rfl, rfl, h1, r1⟩ := trodAll_cons r0
  obtain ⟨v2, vs2, d2, ds2, p2, q2, rfl, rfl, rfl, h2, r2⟩ := trodAll_cons r1
  obtain ⟨v3, vs3, d3, ds3, p3, q3, rfl, rfl, rfl, h3, r3⟩ := trodAll_cons r2
  obtain ⟨v4, vs4, d4, ds4, p4, q4, rfl, rfl, rfl, h4, r4⟩ := trodAll_cons r3
  obtain ⟨rfl, rfl, rfl⟩ := trodAll_nil r4
  obtain rfl : args = #[v0, v1, v2, v3, v4] := by cases args; simp_all
  obtain ⟨rfl, rfl⟩ := trodVars_none hV
  have k0 := h0
  have lt0 : ∀ x ∈ p0, x.block < W.heap.size := by obtain ⟨m, hm⟩ := k0; exact DataW.trod_lt m _ _ _ hm
  obtain ⟨cs0, rfl, _⟩ := okWide_struct Try.underlying24 (hval 0 24 v0 rfl rfl)
  obtain ⟨fuel0, hf0⟩ := h0
  obtain ⟨⟨a0_0, a0_1, l0_2⟩, hK0, w0⟩ := (opens_struct Try.underlying24 (by kernel_rfl) (opensF_cons rfl (by kernel_rfl) (opens_int Try.underlying3) (opensF_cons rfl (by kernel_rfl) (opens_int Try.underlying3) (opensF_one rfl (by kernel_rfl) (opens_slice (e := 3) (d := (Kd.int .i64)) Try.underlying22 (by kernel_rfl) (opens_int Try.underlying3)))))) hf0
  obtain ⟨_, _, e0, rfl, ⟨_, _, rfl, rfl, ⟨A0_2, c0_2, rfl, hc0_2, hr0_2⟩⟩⟩ := hK0
  obtain rfl : cs0 = #[.int .i64 a0_0, .int .i64 a0_1, .slice A0_2 l0_2.length c0_2] := by cases cs0; simpa [Value.cells] using e0
  clear e0
  obtain ⟨a1, rfl, rfl, rfl, w1⟩ := open_int Try.underlying3 (hval 1 3 v1 rfl rfl) h1
  obtain ⟨a2, rfl, rfl, rfl, w2⟩ := open_int Try.underlying3 (hval 2 3 v2 rfl rfl) h2
  obtain ⟨a3, rfl, rfl, rfl, w3⟩ := open_int Try.underlying3 (hval 3 3 v3 rfl rfl) h3
  obtain ⟨a4, rfl, rfl, rfl, w4⟩ := open_int Try.underlying3 (hval 4 3 v4 rfl rfl) h4
  clear hA0 hval0 hsz0
  obtain ⟨k, hk⟩ := Pure.RateTells a0_0 a0_1 l0_2 a1 a2 a3 a4 w0 w1 w2 w3 w4
  refine (fourinhandlaw11_RateTells.calls (k := k) (a0_0 := a0_0) (a0_1 := a0_1) (A0_2 := A0_2) (c0_2 := c0_2) (l0_2 := l0_2) (a1 := a1) (a2 := a2) (a3 := a3) (a4 := a4) (r := true) (hr_ := ⟨rfl⟩) (w := W) (hr0_2 := hr0_2) (hc0_2 := hc0_2) (h := hk)).mono fun e W' ⟨he, bel⟩ => ?_
  subst he
  exact ⟨_, rfl, _, _, _, [], _, [], hW', trodAll_mk1 (shut_bool Try.underlying4 _), (trodAll_cons_mk (Below.trod laidOut (by kernel_rfl) (of_decide_eq_true (by kernel_rfl)) k0 bel lt0) (trodAll_cons_mk (shut_int Try.underlying3 w1) (trodAll_cons_mk (shut_int Try.underlying3 w2) (trodAll_cons_mk (shut_int Try.underlying3 w3) (trodAll_cons_mk (shut_int Try.underlying3 w4) trodAll_mk0))))), rfl, bel.frame _, fun h => by cases h⟩
theorem over : Rows.rateTellsRow.holds Try.pinned (OpenSpec.ofChange Rows.rateTellsSpec) :=
  OpenClaim.holds_of_wide 3 Try.f3 rfl rfl rfl rfl rfl rfl rfl ⟨rfl, rfl, rfl, rfl, rfl⟩ rfl rfl rfl rfl rfl (by kernel_rfl) Try.func3 (by kernel_rfl)
    (of_decide_eq_true (by kernel_rfl)) (by unfold Func.isWrapper; first | (rw [if_pos (by decide +kernel)]; kernel_rfl) | (rw [if_neg (by decide +kernel)]; exact ⟨rfl, rfl⟩))
    (fun os started H enc _ => lifted os started H enc)
theorem proved : Rows.RateTellsSaid := over
#print axioms proved
end Go.Proofs.Ytfdaaodpbaikdaa.rateTells
namespace Go.Proofs.Ytfdaaodpbaikdaa
/-- The row, under a short name, for the claim. -/
theorem rateTells_holds : Rows.RateTellsSaid := rateTells.proved
end Go.Proofs.Ytfdaaodpbaikdaa
