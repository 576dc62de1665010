/- The row of the law TimerFirst: for every input the call returns true and leaves its arguments as they were. No condition. (Written by a program of this session, wip/hprint.py.) -/
import Derived.Test.YtiilmjmgomcipaaRows
import Derived.Test.YtiilmjmgomcipaaPTimerFirstx7
import Derived.Test.YtiilmjmgomcipaaPureTimerFirst
import Derived.Test.YtiilmjmgomcipaaWOpens
import Derived.WalkKit
import Derived.ProofKit
import Derived.OpenShut
import Derived.ShutString
import Derived.ChangeOld
import Derived.Below
import Derived.SizedLaws
namespace Go.Proofs.Ytiilmjmgomcipaa.timerFirst
open Go.ChangeShapes Go.WideShapes Go.ChangeAt Go.RowKit Go.Proofs.Ytiilmjmgomcipaa.PTimerFirst Go.Proofs.YtiilmjmgomcipaaW.PrintWords Go.Proofs.YtiilmjmgomcipaaW.PrintLast Go.Proofs.YtiilmjmgomcipaaW.PrintMore Go.Proofs.YtiilmjmgomcipaaW.Opens
set_option linter.unusedVariables false
theorem own : ownKnob Try.prog.godebug = none := by kernel_rfl
theorem laidOut : laidOutB Try.prog = true := by kernel_rfl
instance : Inhabited S27 := ⟨z27⟩
theorem O27 : Opens Try.prog k27 27 (fun x : S27 => (Lit.int .i64 x.f0).wf = true ∧ (Lit.int .i64 x.f1).wf = true) :=
  opens_iso (fun x : S27 => (x.f0, x.f1)) (fun p => ⟨p.1, p.2⟩) (fun _ => rfl) (opens_struct Try.underlying27 (by kernel_rfl) (opensF_cons rfl (by kernel_rfl) (opens_int Try.underlying3) (opensF_one rfl (by kernel_rfl) (opens_int Try.underlying3))))
set_option maxRecDepth 100000 in
set_option maxHeartbeats 1000000 in
theorem lifted (os : Os) (started : os.Started) (H : Type) (enc : TypeId × Value → H) :
    ReturnsInHanded {} Try.checked os 7 .any (Rows.timerFirstSpec.pre6 enc Try.prog Try.f7 Rows.timerFirstRow.domain false) (Rows.timerFirstSpec.post enc Try.prog Try.f7 false true false false) := by
  refine returnsInHanded_of_change_sized (C := Try.checked) own started (by kernel_rfl) Try.func7
    (ChangeSpec.witness6 (enc := enc) (C := Try.checked) false ⟨#[], #[.slice none 0 0, .slice none 0 0], []⟩ 8 (by kernel_rfl) (by kernel_rfl) (by kernel_rfl) (by kernel_rfl)) ?_
  intro W base args ds gs before hval0 hW hcnd hsz0 _
  have hval : ∀ (j : Nat) t v, Try.f7.params[j]? = some t → args[j]? = some v → Value.okWide Try.prog W .any base t v := hval0
  have hW' := hW
  obtain ⟨p, q, hA0, hV, rfl, hfz, hnd⟩ := hW
  have hA : DataW.TrodAll enc Try.prog W 0 (fun _ => true) true Try.f7.params.toList args.toList ds p := hA0
  rw [Try.params7] at hA hval
  obtain ⟨v0, vs0, d0, ds0, p0, q0, hargs, rfl, rfl, h0, r0⟩ := trodAll_cons hA
  obtain ⟨v1, vs1, d1, ds1, p1, q1, rfl, rfl, rfl, h1, r1⟩ := trodAll_cons r0
  obtain ⟨rfl, rfl, rfl⟩ := trodAll_nil r1
  obtain rfl : args = #[v0, v1] := by cases args; simp_all
  obtain ⟨rfl, rfl⟩ := trodVars_none hV
  have k0 := h0
  have lt0 : ∀ x ∈ p0, x.block < W.heap.size := by obtain ⟨m, hm⟩ := k0; exact DataW.trod_lt m _ _ _ hm
  obtain ⟨b0, len0, cap0, rfl⟩ := okWide_slice Try.underlying36 (hval 0 36 v0 rfl rfl)
  obtain ⟨fuel0, hf0⟩ := h0
  obtain ⟨l0, ⟨A0, c0, e0, hc0, hr0⟩, w0⟩ := (opens_slice (e := 27) (d := k27) Try.underlying36 (by kernel_rfl) O27) hf0
  obtain ⟨rfl, rfl, rfl⟩ : b0 = A0 ∧ len0 = l0.length ∧ cap0 = c0 := by simpa [Value.cells] using e0
  clear e0
  have k1 := h1
  have lt1 : ∀ x ∈ p1, x.block < W.heap.size := by obtain ⟨m, hm⟩ := k1; exact DataW.trod_lt m _ _ _ hm
  obtain ⟨b1, len1, cap1, rfl⟩ := okWide_slice Try.underlying36 (hval 1 36 v1 rfl rfl)
  obtain ⟨fuel1, hf1⟩ := h1
  obtain ⟨l1, ⟨A1, c1, e1, hc1, hr1⟩, w1⟩ := (opens_slice (e := 27) (d := k27) Try.underlying36 (by kernel_rfl) O27) hf1
  obtain ⟨rfl, rfl, rfl⟩ : b1 = A1 ∧ len1 = l1.length ∧ cap1 = c1 := by simpa [Value.cells] using e1
  clear e1
  clear hA0 hval0 hsz0
  obtain ⟨k, hk⟩ := Pure.TimerFirst l0 l1 w0 w1
  refine (fourinhandlaw14_TimerFirst.calls (k := k) (A0 := b0) (c0 := cap0) (l0 := l0) (A1 := b1) (c1 := cap1) (l1 := l1) (r := true) (hr_ := ⟨rfl⟩) (w := W) (hr0 := hr0) (hc0 := hc0) (hr1 := hr1) (hc1 := hc1) (h := hk)).mono fun e W' ⟨he, bel⟩ => ?_
  subst he
  exact ⟨_, rfl, _, _, _, [], _, [], hW', trodAll_mk1 (shut_bool Try.underlying4 _), (trodAll_cons_mk (Below.trod laidOut (by kernel_rfl) (of_decide_eq_true (by kernel_rfl)) k0 bel lt0) (trodAll_cons_mk (Below.trod laidOut (by kernel_rfl) (of_decide_eq_true (by kernel_rfl)) k1 bel lt1) trodAll_mk0)), rfl, bel.frame _, fun h => by cases h⟩
theorem over : Rows.timerFirstRow.holds Try.pinned (OpenSpec.ofChange Rows.timerFirstSpec) :=
  OpenClaim.holds_of_wide 7 Try.f7 rfl rfl rfl rfl rfl rfl rfl ⟨rfl, rfl, rfl, rfl, rfl⟩ rfl rfl rfl rfl rfl (by kernel_rfl) Try.func7 (by kernel_rfl)
    (of_decide_eq_true (by kernel_rfl)) (by unfold Func.isWrapper; first | (rw [if_pos (by decide +kernel)]; kernel_rfl) | (rw [if_neg (by decide +kernel)]; exact ⟨rfl, rfl⟩))
    (fun os started H enc _ => lifted os started H enc)
theorem proved : Rows.TimerFirstSaid := over
#print axioms proved
end Go.Proofs.Ytiilmjmgomcipaa.timerFirst
namespace Go.Proofs.Ytiilmjmgomcipaa
/-- The row, under a short name, for the claim. -/
theorem timerFirst_holds : Rows.TimerFirstSaid := timerFirst.proved
end Go.Proofs.Ytiilmjmgomcipaa
