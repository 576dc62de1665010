-- Written by a program of this session (wip/hprint.py), over the kit's print.py: the walk of one law. Lean checks it.
import Derived.Test.YtjdjliaachcofaaPEcfRoomx0
import Derived.Test.YtjdjliaachcofaaPEcfRoomx1
import Derived.Test.YtjdjliaachcofaaPEcfRoomx5
namespace Go.Proofs.Ytjdjliaachcofaa.PEcfRoom
open Go.RowKit Go.Proofs.YtjdjliaachcofaaW.PrintWords Go.Proofs.YtjdjliaachcofaaW.PrintLast Go.Proofs.YtjdjliaachcofaaW.PrintMore
attribute [local go_sem] max2_int min2_int max_two min_two max_three min_three max_four min_four   -- for this text's walks alone
set_option linter.unusedVariables false
set_option linter.unusedSimpArgs false

/-! ### fourinhandlaw18_EcfRoom: function 4 -/
mutual
def fourinhandlaw18_EcfRoom.j0 : Nat → List (S28) → Int → Int → Bool → Bool → Bool → Option (Bool)
  | 0, _, _, _, _, _, _ => none
  | k + 1, x0, x1, x2, x3, x9, x22 => if x22 = true then (some x9) else ((ecf_Pick.f k x0 x1 x2 x3).bind fun bt151 => (if bt151.2 = true then (if bt151.1 = (-1) then (if bt151.1 < (-1) then (fourinhandlaw18_EcfRoom.j1 k x0 x1 x2 bt151.1 bt151.2 true) else (fourinhandlaw18_EcfRoom.j1 k x0 x1 x2 bt151.1 bt151.2 (decide (bt151.1 ≥ (x0.length : Int))))) else (fourinhandlaw18_EcfRoom.j1 k x0 x1 x2 bt151.1 bt151.2 true)) else (if bt151.1 < (-1) then (fourinhandlaw18_EcfRoom.j1 k x0 x1 x2 bt151.1 bt151.2 true) else (fourinhandlaw18_EcfRoom.j1 k x0 x1 x2 bt151.1 bt151.2 (decide (bt151.1 ≥ (x0.length : Int)))))))
def fourinhandlaw18_EcfRoom.j1 : Nat → List (S28) → Int → Int → Int → Bool → Bool → Option (Bool)
  | 0, _, _, _, _, _, _ => none
  | k + 1, x0, x1, x2, x10, x11, x46 => if x46 = true then (some false) else (if x1 < 1 then (fourinhandlaw18_EcfRoom.j2 k x0 x2 x10 x11 true) else (if x1 > 1099511627776 then (fourinhandlaw18_EcfRoom.j2 k x0 x2 x10 x11 true) else (if x2 < 1 then (fourinhandlaw18_EcfRoom.j2 k x0 x2 x10 x11 true) else (fourinhandlaw18_EcfRoom.j2 k x0 x2 x10 x11 (decide (x2 > 1460))))))
def fourinhandlaw18_EcfRoom.j2 : Nat → List (S28) → Int → Int → Bool → Bool → Option (Bool)
  | 0, _, _, _, _, _ => none
  | k + 1, x0, x2, x10, x11, x12 => fourinhandlaw18_EcfRoom.l0 k x0 x2 x10 x11 x12 0
def fourinhandlaw18_EcfRoom.l0 : Nat → List (S28) → Int → Int → Bool → Bool → Int → Option (Bool)
  | 0, _, _, _, _, _, _ => none
  | k + 1, x0, x2, x10, x11, x12, x13 => if x13 < (x0.length : Int) then (if 0 ≤ x13 then ((ecf_Room.f ((rd_T28 x0 x13).f0) ((rd_T28 x0 x13).f1) ((rd_T28 x0 x13).f2) ((rd_T28 x0 x13).f3) ((rd_T28 x0 x13).f4) x2).bind fun t154 => (if x10 ≥ 0 then (if t154 = true then (if 0 ≤ x10 then (if x10 < (x0.length : Int) then (if ((rd_T28 x0 x13).f3) < ((rd_T28 x0 x10).f3) then (some false) else (if x10 < 0 then (if x11 = true then (fourinhandlaw18_EcfRoom.l0 k x0 x2 x10 x11 x12 (wrap64 (x13 + 1))) else (if x12 = true then (fourinhandlaw18_EcfRoom.l0 k x0 x2 x10 x11 x12 (wrap64 (x13 + 1))) else (some false))) else (fourinhandlaw18_EcfRoom.l0 k x0 x2 x10 x11 x12 (wrap64 (x13 + 1))))) else (none)) else (none)) else (if x10 < 0 then (if x11 = true then (fourinhandlaw18_EcfRoom.l0 k x0 x2 x10 x11 x12 (wrap64 (x13 + 1))) else (fourinhandlaw18_EcfRoom.l0 k x0 x2 x10 x11 x12 (wrap64 (x13 + 1)))) else (fourinhandlaw18_EcfRoom.l0 k x0 x2 x10 x11 x12 (wrap64 (x13 + 1))))) else (if x10 < 0 then (if x11 = true then (fourinhandlaw18_EcfRoom.l0 k x0 x2 x10 x11 x12 (wrap64 (x13 + 1))) else (if t154 = true then (if x12 = true then (fourinhandlaw18_EcfRoom.l0 k x0 x2 x10 x11 x12 (wrap64 (x13 + 1))) else (some false)) else (fourinhandlaw18_EcfRoom.l0 k x0 x2 x10 x11 x12 (wrap64 (x13 + 1))))) else (fourinhandlaw18_EcfRoom.l0 k x0 x2 x10 x11 x12 (wrap64 (x13 + 1)))))) else (none)) else (if x10 < 0 then (some true) else (if 0 ≤ x10 then (if x10 < (x0.length : Int) then ((ecf_Room.f ((rd_T28 x0 x10).f0) ((rd_T28 x0 x10).f1) ((rd_T28 x0 x10).f2) ((rd_T28 x0 x10).f3) ((rd_T28 x0 x10).f4) x2).bind fun t158 => (if t158 = true then (some (!x12)) else (some false))) else (none)) else (none)))
end
def fourinhandlaw18_EcfRoom.f (k : Nat) (l0 : List (S28)) (a1 : Int) (a2 : Int) (a3 : Bool) : Option (Bool) := (fourinhandlaw18_awake.f k).bind fun t150 => (if t150 = true then (fourinhandlaw18_EcfRoom.j0 k l0 a1 a2 a3 t150 (decide ((l0.length : Int) > 4))) else (fourinhandlaw18_EcfRoom.j0 k l0 a1 a2 a3 t150 true))
theorem fourinhandlaw18_EcfRoom.mono_l : ∀ k, (∀ y0 y1 y2 y3 y4 y5, LeO (fourinhandlaw18_EcfRoom.j0 k y0 y1 y2 y3 y4 y5) (fourinhandlaw18_EcfRoom.j0 (k + 1) y0 y1 y2 y3 y4 y5)) ∧ (∀ y0 y1 y2 y3 y4 y5, LeO (fourinhandlaw18_EcfRoom.j1 k y0 y1 y2 y3 y4 y5) (fourinhandlaw18_EcfRoom.j1 (k + 1) y0 y1 y2 y3 y4 y5)) ∧ (∀ y0 y1 y2 y3 y4, LeO (fourinhandlaw18_EcfRoom.j2 k y0 y1 y2 y3 y4) (fourinhandlaw18_EcfRoom.j2 (k + 1) y0 y1 y2 y3 y4)) ∧ (∀ y0 y1 y2 y3 y4 y5, LeO (fourinhandlaw18_EcfRoom.l0 k y0 y1 y2 y3 y4 y5) (fourinhandlaw18_EcfRoom.l0 (k + 1) y0 y1 y2 y3 y4 y5))
  | 0 => ⟨fun _ _ _ _ _ _ r h => by simp [fourinhandlaw18_EcfRoom.j0] at h, fun _ _ _ _ _ _ r h => by simp [fourinhandlaw18_EcfRoom.j1] at h, fun _ _ _ _ _ r h => by simp [fourinhandlaw18_EcfRoom.j2] at h, fun _ _ _ _ _ _ r h => by simp [fourinhandlaw18_EcfRoom.l0] at h⟩
  | k + 1 => by
    obtain ⟨ih0, ih1, ih2, ih3⟩ := fourinhandlaw18_EcfRoom.mono_l k
    refine ⟨?_, ?_, ?_, ?_⟩
    · intro y0 y1 y2 y3 y4 y5
      unfold fourinhandlaw18_EcfRoom.j0
      repeat' first
      | (with_reducible exact ih0 _ _ _ _ _ _)
      | (with_reducible exact ih1 _ _ _ _ _ _)
      | (with_reducible exact ih2 _ _ _ _ _)
      | (with_reducible exact ih3 _ _ _ _ _ _)
      | (with_reducible exact ecf_Pick.mono _ _ _ _ _)
      | (with_reducible exact fourinhandlaw18_awake.mono _)
      | (with_reducible exact LeO.refl _)
      | (with_reducible exact LeO.none _)
      | (with_reducible refine LeO.ite ?_ ?_)
      | (with_reducible refine LeO.bind ?_ (fun _ => ?_))
      | exact ih0 _ _ _ _ _ _
      | exact ih1 _ _ _ _ _ _
      | exact ih2 _ _ _ _ _
      | exact ih3 _ _ _ _ _ _
      | exact ecf_Pick.mono _ _ _ _ _
      | exact fourinhandlaw18_awake.mono _
      | exact LeO.none _
      | refine LeO.ite ?_ ?_
      | refine LeO.bind ?_ (fun _ => ?_)
    · intro y0 y1 y2 y3 y4 y5
      unfold fourinhandlaw18_EcfRoom.j1
      repeat' first
      | (with_reducible exact ih0 _ _ _ _ _ _)
      | (with_reducible exact ih1 _ _ _ _ _ _)
      | (with_reducible exact ih2 _ _ _ _ _)
      | (with_reducible exact ih3 _ _ _ _ _ _)
      | (with_reducible exact ecf_Pick.mono _ _ _ _ _)
      | (with_reducible exact fourinhandlaw18_awake.mono _)
      | (with_reducible exact LeO.refl _)
      | (with_reducible exact LeO.none _)
      | (with_reducible refine LeO.ite ?_ ?_)
      | (with_reducible refine LeO.bind ?_ (fun _ => ?_))
      | exact ih0 _ _ _ _ _ _
      | exact ih1 _ _ _ _ _ _
      | exact ih2 _ _ _ _ _
      | exact ih3 _ _ _ _ _ _
      | exact ecf_Pick.mono _ _ _ _ _
      | exact fourinhandlaw18_awake.mono _
      | exact LeO.none _
      | refine LeO.ite ?_ ?_
      | refine LeO.bind ?_ (fun _ => ?_)
    · intro y0 y1 y2 y3 y4
      unfold fourinhandlaw18_EcfRoom.j2
      repeat' first
      | (with_reducible exact ih0 _ _ _ _ _ _)
      | (with_reducible exact ih1 _ _ _ _ _ _)
      | (with_reducible exact ih2 _ _ _ _ _)
      | (with_reducible exact ih3 _ _ _ _ _ _)
      | (with_reducible exact ecf_Pick.mono _ _ _ _ _)
      | (with_reducible exact fourinhandlaw18_awake.mono _)
      | (with_reducible exact LeO.refl _)
      | (with_reducible exact LeO.none _)
      | (with_reducible refine LeO.ite ?_ ?_)
      | (with_reducible refine LeO.bind ?_ (fun _ => ?_))
      | exact ih0 _ _ _ _ _ _
      | exact ih1 _ _ _ _ _ _
      | exact ih2 _ _ _ _ _
      | exact ih3 _ _ _ _ _ _
      | exact ecf_Pick.mono _ _ _ _ _
      | exact fourinhandlaw18_awake.mono _
      | exact LeO.none _
      | refine LeO.ite ?_ ?_
      | refine LeO.bind ?_ (fun _ => ?_)
    · intro y0 y1 y2 y3 y4 y5
      unfold fourinhandlaw18_EcfRoom.l0
      repeat' first
      | (with_reducible exact ih0 _ _ _ _ _ _)
      | (with_reducible exact ih1 _ _ _ _ _ _)
      | (with_reducible exact ih2 _ _ _ _ _)
      | (with_reducible exact ih3 _ _ _ _ _ _)
      | (with_reducible exact ecf_Pick.mono _ _ _ _ _)
      | (with_reducible exact fourinhandlaw18_awake.mono _)
      | (with_reducible exact LeO.refl _)
      | (with_reducible exact LeO.none _)
      | (with_reducible refine LeO.ite ?_ ?_)
      | (with_reducible refine LeO.bind ?_ (fun _ => ?_))
      | exact ih0 _ _ _ _ _ _
      | exact ih1 _ _ _ _ _ _
      | exact ih2 _ _ _ _ _
      | exact ih3 _ _ _ _ _ _
      | exact ecf_Pick.mono _ _ _ _ _
      | exact fourinhandlaw18_awake.mono _
      | exact LeO.none _
      | refine LeO.ite ?_ ?_
      | refine LeO.bind ?_ (fun _ => ?_)
theorem fourinhandlaw18_EcfRoom.mono : ∀ a0 a1 a2 a3 k, LeO (fourinhandlaw18_EcfRoom.f k a0 a1 a2 a3) (fourinhandlaw18_EcfRoom.f (k + 1) a0 a1 a2 a3) := by
  intro a0 a1 a2 a3 k
  obtain ⟨ih0, ih1, ih2, ih3⟩ := fourinhandlaw18_EcfRoom.mono_l k
  unfold fourinhandlaw18_EcfRoom.f
  repeat' first
      | (with_reducible exact ih0 _ _ _ _ _ _)
      | (with_reducible exact ih1 _ _ _ _ _ _)
      | (with_reducible exact ih2 _ _ _ _ _)
      | (with_reducible exact ih3 _ _ _ _ _ _)
      | (with_reducible exact ecf_Pick.mono _ _ _ _ _)
      | (with_reducible exact fourinhandlaw18_awake.mono _)
      | (with_reducible exact LeO.refl _)
      | (with_reducible exact LeO.none _)
      | (with_reducible refine LeO.ite ?_ ?_)
      | (with_reducible refine LeO.bind ?_ (fun _ => ?_))
      | exact ih0 _ _ _ _ _ _
      | exact ih1 _ _ _ _ _ _
      | exact ih2 _ _ _ _ _
      | exact ih3 _ _ _ _ _ _
      | exact ecf_Pick.mono _ _ _ _ _
      | exact fourinhandlaw18_awake.mono _
      | exact LeO.none _
      | refine LeO.ite ?_ ?_
      | refine LeO.bind ?_ (fun _ => ?_)
set_option maxHeartbeats 8000000 in
set_option maxRecDepth 100000 in
theorem fourinhandlaw18_EcfRoom.calls (k : Nat) (A0 : Option Addr) (c0 : Nat) (l0 : List (S28)) (a1 : Int) (a2 : Int) (a3 : Bool) (r : Bool) (hr_ : Aside0 (r = true)) (w : World) (hr0 : Kd.C k28 w A0 l0.length l0) (hc0 : l0.length ≤ c0) (h : fourinhandlaw18_EcfRoom.f k l0 a1 a2 a3 = some r) :
    Calls Try.prog 4 #[.slice A0 l0.length c0, .int .i64 a1, .int .i64 a2, .bool a3] w fun e w' => e = .returned (.bool r) ∧ Below w.heap.size w w' := by
  have hu28 := Try.underlying28
  have HR0 := Aside0.mk hr0
  have HC0 := Aside0.mk hc0
  clear hr0 hc0
  have HB := Aside0.mk (Below.refl w.heap.size w)
  have H : ((fourinhandlaw18_awake.f k).bind fun t150 => (if t150 = true then (fourinhandlaw18_EcfRoom.j0 k l0 a1 a2 a3 t150 (decide ((l0.length : Int) > 4))) else (fourinhandlaw18_EcfRoom.j0 k l0 a1 a2 a3 t150 true))) = some r := h
  clear h
  replace H := Option.bind_eq_some_iff.mp H
  obtain ⟨t150, A50, H⟩ := H
  replace H : (if t150 = true then (fourinhandlaw18_EcfRoom.j0 k l0 a1 a2 a3 t150 (decide ((l0.length : Int) > 4))) else (fourinhandlaw18_EcfRoom.j0 k l0 a1 a2 a3 t150 true)) = some r := H
  have A5 := Aside0.mk A50
  clear A50
  have HC6 := Aside0.mk H
  clear H
  go_enter Try.func4, Try.ntmps4
  go_upto_region 2 with (first | (go_at_call 8; (with_reducible refine (fourinhandlaw18_awake.calls k  t150 _ A5.out).mono ?_); rintro e w7 ⟨rfl, hb⟩; have n0_ := Aside0.mk (below_step (by repeat (first | (with_reducible first | exact HB.out | apply below_alloc | apply pw_below_drewN | apply below_drew1) | exact HB.out)) hb); clear HB; have HB := n0_; clear n0_; (try clear hb); (try clear hb2); (try clear hk); (try clear hi)))
  repeat (go_quiet (first | (go_at_call 8; (with_reducible refine (fourinhandlaw18_awake.calls k  t150 _ A5.out).mono ?_); rintro e w7 ⟨rfl, hb⟩; have n0_ := Aside0.mk (below_step (by repeat (first | (with_reducible first | exact HB.out | apply below_alloc | apply pw_below_drewN | apply below_drew1) | exact HB.out)) hb); clear HB; have HB := n0_; clear n0_; (try clear hb); (try clear hb2); (try clear hk); (try clear hi))); go_upto_region 2 with (first | (go_at_call 8; (with_reducible refine (fourinhandlaw18_awake.calls k  t150 _ A5.out).mono ?_); rintro e w7 ⟨rfl, hb⟩; have n0_ := Aside0.mk (below_step (by repeat (first | (with_reducible first | exact HB.out | apply below_alloc | apply pw_below_drewN | apply below_drew1) | exact HB.out)) hb); clear HB; have HB := n0_; clear n0_; (try clear hb); (try clear hb2); (try clear hk); (try clear hi))))
  (try simp only [Act.put, List.setIfInBounds_toArray, List.set_cons_zero, List.set_cons_succ])
  go_cut [22] (fun v22 wc => ∃ (kq : Nat) (x22_5 : Bool), v22 = .bool x22_5 ∧ Aside0 (fourinhandlaw18_EcfRoom.j0 kq l0 a1 a2 a3 t150 x22_5 = some r) ∧ Aside0 (kq ≤ k) ∧ Aside0 (Below w.heap.size w wc))
  case first =>
    have H := HC6.out
    clear HC6
    by_cases c8 : t150 = true
    · subst c8
      have H1 : (fourinhandlaw18_EcfRoom.j0 k l0 a1 a2 a3 true (decide ((l0.length : Int) > 4))) = some r := by rw [if_pos rfl] at H; exact H
      clear H
      have H := H1
      clear H1
      have H' := Aside0.mk H
      clear H
      go_wp2
      repeat (go_quiet (fail); try go_wp2)
      go_meet
      case rel => exact ⟨_, (decide ((l0.length : Int) > 4)), (by first | rfl | (simp; done) | (simp [*]; done)), H', ⟨by first | omega | exact Nat.le_refl _⟩, ⟨by repeat (first | (with_reducible first | exact HB.out | apply below_alloc | apply pw_below_drewN | apply below_drew1) | exact HB.out)⟩⟩
    · replace c8 := Bool.eq_false_iff.mpr c8
      subst c8
      have H1 : (fourinhandlaw18_EcfRoom.j0 k l0 a1 a2 a3 false true) = some r := by rw [if_neg (show ¬ (false = true) by decide)] at H; exact H
      clear H
      have H := H1
      clear H1
      have H' := Aside0.mk H
      clear H
      go_wp2
      repeat (go_quiet (fail); try go_wp2)
      go_meet
      case rel => exact ⟨_, (true), (by first | rfl | (simp; done) | (simp [*]; done)), H', ⟨by first | omega | exact Nat.le_refl _⟩, ⟨by repeat (first | (with_reducible first | exact HB.out | apply below_alloc | apply pw_below_drewN | apply below_drew1) | exact HB.out)⟩⟩
  case rest =>
    clear HC6
    try clear p2
    try clear c4
    try clear c8
    obtain ⟨kq, x22_5, rfl, HA, HJ5, HB⟩ := hcut
    cases kq with
    | zero => exact absurd HA.out (by simp [fourinhandlaw18_EcfRoom.j0])
    | succ kj5 =>
      have H := HA.out
      clear HA
      simp only [fourinhandlaw18_EcfRoom.j0] at H
      by_cases c9 : x22_5 = true
      · subst c9
        have H1 : (some t150) = some r := by rw [if_pos rfl] at H; exact H
        clear H
        have H := H1
        clear H1
        obtain rfl := Option.some.inj H
        go_wp2
        repeat (go_quiet (fail); try go_wp2)
        go_ret
        exact ⟨by first | rfl | (simp [errW_none, errW_some] <;> rfl) | (simp [*, errW_none, errW_some] <;> rfl), by repeat (first | (with_reducible first | exact HB.out | apply below_alloc | apply pw_below_drewN | apply below_drew1) | exact HB.out)⟩
      · replace c9 := Bool.eq_false_iff.mpr c9
        subst c9
        have H1 : ((ecf_Pick.f kj5 l0 a1 a2 a3).bind fun bt151 => (if bt151.2 = true then (if bt151.1 = (-1) then (if bt151.1 < (-1) then (fourinhandlaw18_EcfRoom.j1 kj5 l0 a1 a2 bt151.1 bt151.2 true) else (fourinhandlaw18_EcfRoom.j1 kj5 l0 a1 a2 bt151.1 bt151.2 (decide (bt151.1 ≥ (l0.length : Int))))) else (fourinhandlaw18_EcfRoom.j1 kj5 l0 a1 a2 bt151.1 bt151.2 true)) else (if bt151.1 < (-1) then (fourinhandlaw18_EcfRoom.j1 kj5 l0 a1 a2 bt151.1 bt151.2 true) else (fourinhandlaw18_EcfRoom.j1 kj5 l0 a1 a2 bt151.1 bt151.2 (decide (bt151.1 ≥ (l0.length : Int))))))) = some r := by rw [if_neg (show ¬ (false = true) by decide)] at H; exact H
        clear H
        have H := H1
        clear H1
        replace H := Option.bind_eq_some_iff.mp H
        obtain ⟨⟨t151, t152⟩, A100, H⟩ := H
        replace H : (if t152 = true then (if t151 = (-1) then (if t151 < (-1) then (fourinhandlaw18_EcfRoom.j1 kj5 l0 a1 a2 t151 t152 true) else (fourinhandlaw18_EcfRoom.j1 kj5 l0 a1 a2 t151 t152 (decide (t151 ≥ (l0.length : Int))))) else (fourinhandlaw18_EcfRoom.j1 kj5 l0 a1 a2 t151 t152 true)) else (if t151 < (-1) then (fourinhandlaw18_EcfRoom.j1 kj5 l0 a1 a2 t151 t152 true) else (fourinhandlaw18_EcfRoom.j1 kj5 l0 a1 a2 t151 t152 (decide (t151 ≥ (l0.length : Int)))))) = some r := H
        have A10 := Aside0.mk A100
        clear A100
        have HC11 := Aside0.mk H
        clear H
        go_upto_region 5 with (first | (go_at_call 9; (with_reducible refine (ecf_Pick.calls kj5 _ _ l0 a1 a2 a3 t151 t152 _ ?side1 ?side2 A10.out).mono ?_); (case side1 => repeat (first | exact (Kd.C_below HR0.out HB.out) | (with_reducible refine Kd.C_alloc ?_ _) | (with_reducible refine Kd.C_drewN ?_ _) | (with_reducible refine Kd.C_drew ?_))); (case side2 => exact HC0.out); rintro e w12 ⟨rfl, hb⟩; have n0_ := Aside0.mk (below_step (by repeat (first | (with_reducible first | exact HB.out | apply below_alloc | apply pw_below_drewN | apply below_drew1) | exact HB.out)) hb); clear HB; have HB := n0_; clear n0_; (try clear hb); (try clear hb2); (try clear hk); (try clear hi)))
        repeat (go_quiet (first | (go_at_call 9; (with_reducible refine (ecf_Pick.calls kj5 _ _ l0 a1 a2 a3 t151 t152 _ ?side1 ?side2 A10.out).mono ?_); (case side1 => repeat (first | exact (Kd.C_below HR0.out HB.out) | (with_reducible refine Kd.C_alloc ?_ _) | (with_reducible refine Kd.C_drewN ?_ _) | (with_reducible refine Kd.C_drew ?_))); (case side2 => exact HC0.out); rintro e w12 ⟨rfl, hb⟩; have n0_ := Aside0.mk (below_step (by repeat (first | (with_reducible first | exact HB.out | apply below_alloc | apply pw_below_drewN | apply below_drew1) | exact HB.out)) hb); clear HB; have HB := n0_; clear n0_; (try clear hb); (try clear hb2); (try clear hk); (try clear hi))); go_upto_region 5 with (first | (go_at_call 9; (with_reducible refine (ecf_Pick.calls kj5 _ _ l0 a1 a2 a3 t151 t152 _ ?side1 ?side2 A10.out).mono ?_); (case side1 => repeat (first | exact (Kd.C_below HR0.out HB.out) | (with_reducible refine Kd.C_alloc ?_ _) | (with_reducible refine Kd.C_drewN ?_ _) | (with_reducible refine Kd.C_drew ?_))); (case side2 => exact HC0.out); rintro e w12 ⟨rfl, hb⟩; have n0_ := Aside0.mk (below_step (by repeat (first | (with_reducible first | exact HB.out | apply below_alloc | apply pw_below_drewN | apply below_drew1) | exact HB.out)) hb); clear HB; have HB := n0_; clear n0_; (try clear hb); (try clear hb2); (try clear hk); (try clear hi))))
        (try simp only [Act.put, List.setIfInBounds_toArray, List.set_cons_zero, List.set_cons_succ])
        go_cut [46] (fun v46 wc => ∃ (kq : Nat) (x46_10 : Bool), v46 = .bool x46_10 ∧ Aside0 (fourinhandlaw18_EcfRoom.j1 kq l0 a1 a2 t151 t152 x46_10 = some r) ∧ Aside0 (kq ≤ kj5) ∧ Aside0 (Below w.heap.size w wc))
        case first =>
          have H := HC11.out
          clear HC11
          by_cases c13 : t152 = true
          · subst c13
            have H1 : (if t151 = (-1) then (if t151 < (-1) then (fourinhandlaw18_EcfRoom.j1 kj5 l0 a1 a2 t151 true true) else (fourinhandlaw18_EcfRoom.j1 kj5 l0 a1 a2 t151 true (decide (t151 ≥ (l0.length : Int))))) else (fourinhandlaw18_EcfRoom.j1 kj5 l0 a1 a2 t151 true true)) = some r := by rw [if_pos rfl] at H; exact H
            clear H
            have H := H1
            clear H1
            by_cases c14 : t151 = (-1)
            · rw [if_pos c14] at H
              have c14b0 : (t151 == (-1)) = true := beq_iff_eq.mpr c14
              have c14b1 : (t151 != (-1)) = false := bne_eq_false_iff_eq.mpr c14
              clear c14
              (first | rw [c14b0] | (simp only [i64_w, i32_w]; rw [c14b0]) | skip)
              by_cases c15 : t151 < (-1)
              · rw [if_pos c15] at H
                have c15b0 : decide (t151 < (-1)) = true := decide_eq_true c15
                clear c15
                have H' := Aside0.mk H
                clear H
                go_wp2
                repeat (go_quiet (fail); try go_wp2)
                go_meet
                case rel => exact ⟨_, (true), (by first | rfl | (simp; done) | (simp [*]; done)), H', ⟨by have := HJ5.out; first | omega | exact Nat.le_refl _⟩, ⟨by repeat (first | (with_reducible first | exact HB.out | apply below_alloc | apply pw_below_drewN | apply below_drew1) | exact HB.out)⟩⟩
              · rw [if_neg c15] at H
                have c15b0 : decide (t151 < (-1)) = false := decide_eq_false c15
                clear c15
                have H' := Aside0.mk H
                clear H
                go_wp2
                repeat (go_quiet (fail); try go_wp2)
                go_meet
                case rel => exact ⟨_, (decide (t151 ≥ (l0.length : Int))), (by first | rfl | (simp; done) | (simp [*]; done)), H', ⟨by have := HJ5.out; first | omega | exact Nat.le_refl _⟩, ⟨by repeat (first | (with_reducible first | exact HB.out | apply below_alloc | apply pw_below_drewN | apply below_drew1) | exact HB.out)⟩⟩
            · rw [if_neg c14] at H
              have c14b0 : (t151 == (-1)) = false := beq_eq_false_iff_ne.mpr c14
              have c14b1 : (t151 != (-1)) = true := bne_iff_ne.mpr c14
              (first | rw [c14b0] | (simp only [i64_w, i32_w]; rw [c14b0]) | skip)
              have H' := Aside0.mk H
              clear H
              go_wp2
              repeat (go_quiet (fail); try go_wp2)
              go_meet
              case rel => exact ⟨_, (true), (by first | rfl | (simp; done) | (simp [*]; done)), H', ⟨by have := HJ5.out; first | omega | exact Nat.le_refl _⟩, ⟨by repeat (first | (with_reducible first | exact HB.out | apply below_alloc | apply pw_below_drewN | apply below_drew1) | exact HB.out)⟩⟩
          · replace c13 := Bool.eq_false_iff.mpr c13
            subst c13
            have H1 : (if t151 < (-1) then (fourinhandlaw18_EcfRoom.j1 kj5 l0 a1 a2 t151 false true) else (fourinhandlaw18_EcfRoom.j1 kj5 l0 a1 a2 t151 false (decide (t151 ≥ (l0.length : Int))))) = some r := by rw [if_neg (show ¬ (false = true) by decide)] at H; exact H
            clear H
            have H := H1
            clear H1
            by_cases c16 : t151 < (-1)
            · rw [if_pos c16] at H
              have c16b0 : decide (t151 < (-1)) = true := decide_eq_true c16
              clear c16
              have H' := Aside0.mk H
              clear H
              go_wp2
              repeat (go_quiet (fail); try go_wp2)
              go_meet
              case rel => exact ⟨_, (true), (by first | rfl | (simp; done) | (simp [*]; done)), H', ⟨by have := HJ5.out; first | omega | exact Nat.le_refl _⟩, ⟨by repeat (first | (with_reducible first | exact HB.out | apply below_alloc | apply pw_below_drewN | apply below_drew1) | exact HB.out)⟩⟩
            · rw [if_neg c16] at H
              have c16b0 : decide (t151 < (-1)) = false := decide_eq_false c16
              clear c16
              have H' := Aside0.mk H
              clear H
              go_wp2
              repeat (go_quiet (fail); try go_wp2)
              go_meet
              case rel => exact ⟨_, (decide (t151 ≥ (l0.length : Int))), (by first | rfl | (simp; done) | (simp [*]; done)), H', ⟨by have := HJ5.out; first | omega | exact Nat.le_refl _⟩, ⟨by repeat (first | (with_reducible first | exact HB.out | apply below_alloc | apply pw_below_drewN | apply below_drew1) | exact HB.out)⟩⟩
        case rest =>
          clear HC11
          try clear c1
          try clear p2
          try clear c4
          try clear c8
          try clear c9
          try clear c13
          try clear c14
          try clear c14b0
          try clear c14b1
          try clear c15
          try clear c15b0
          try clear c16
          try clear c16b0
          try clear p2
          obtain ⟨kq, x46_10, rfl, HA, HJ10, HB⟩ := hcut
          cases kq with
          | zero => exact absurd HA.out (by simp [fourinhandlaw18_EcfRoom.j1])
          | succ kj10 =>
            have H := HA.out
            clear HA
            simp only [fourinhandlaw18_EcfRoom.j1] at H
            by_cases c17 : x46_10 = true
            · subst c17
              have H1 : (some false) = some r := by rw [if_pos rfl] at H; exact H
              clear H
              have H := H1
              clear H1
              exact Bool.noConfusion ((Option.some.inj H).trans hr_.out)
            · replace c17 := Bool.eq_false_iff.mpr c17
              subst c17
              have H1 : (if a1 < 1 then (fourinhandlaw18_EcfRoom.j2 kj10 l0 a2 t151 t152 true) else (if a1 > 1099511627776 then (fourinhandlaw18_EcfRoom.j2 kj10 l0 a2 t151 t152 true) else (if a2 < 1 then (fourinhandlaw18_EcfRoom.j2 kj10 l0 a2 t151 t152 true) else (fourinhandlaw18_EcfRoom.j2 kj10 l0 a2 t151 t152 (decide (a2 > 1460)))))) = some r := by rw [if_neg (show ¬ (false = true) by decide)] at H; exact H
              clear H
              have H := H1
              clear H1
              have HC18 := Aside0.mk H
              clear H
              go_upto_region 7 with (fail)
              repeat (go_quiet (fail); go_upto_region 7 with (fail))
              go_cut [12] (fun v12 wc => ∃ (kq : Nat) (x12_17 : Bool), v12 = .bool x12_17 ∧ Aside0 (fourinhandlaw18_EcfRoom.j2 kq l0 a2 t151 t152 x12_17 = some r) ∧ Aside0 (kq ≤ kj10) ∧ Aside0 (Below w.heap.size w wc))
              case first =>
                have H := HC18.out
                clear HC18
                by_cases c19 : a1 < 1
                · rw [if_pos c19] at H
                  have c19b0 : decide (a1 < 1) = true := decide_eq_true c19
                  clear c19
                  (first | rw [c19b0] | (simp only [i64_w, i32_w]; rw [c19b0]) | skip)
                  have H' := Aside0.mk H
                  clear H
                  go_wp2
                  repeat (go_quiet (fail); try go_wp2)
                  go_meet
                  case rel => exact ⟨_, (true), (by first | rfl | (simp; done) | (simp [*]; done)), H', ⟨by have := HJ5.out; have := HJ10.out; first | omega | exact Nat.le_refl _⟩, ⟨by repeat (first | (with_reducible first | exact HB.out | apply below_alloc | apply pw_below_drewN | apply below_drew1) | exact HB.out)⟩⟩
                · rw [if_neg c19] at H
                  have c19b0 : decide (a1 < 1) = false := decide_eq_false c19
                  clear c19
                  (first | rw [c19b0] | (simp only [i64_w, i32_w]; rw [c19b0]) | skip)
                  by_cases c20 : a1 > 1099511627776
                  · rw [if_pos c20] at H
                    have c20b0 : decide (1099511627776 < a1) = true := decide_eq_true c20
                    clear c20
                    have H' := Aside0.mk H
                    clear H
                    go_wp2
                    repeat (go_quiet (fail); try go_wp2)
                    go_meet
                    case rel => exact ⟨_, (true), (by first | rfl | (simp; done) | (simp [*]; done)), H', ⟨by have := HJ5.out; have := HJ10.out; first | omega | exact Nat.le_refl _⟩, ⟨by repeat (first | (with_reducible first | exact HB.out | apply below_alloc | apply pw_below_drewN | apply below_drew1) | exact HB.out)⟩⟩
                  · rw [if_neg c20] at H
                    have c20b0 : decide (1099511627776 < a1) = false := decide_eq_false c20
                    clear c20
                    by_cases c21 : a2 < 1
                    · rw [if_pos c21] at H
                      have c21b0 : decide (a2 < 1) = true := decide_eq_true c21
                      clear c21
                      have H' := Aside0.mk H
                      clear H
                      go_wp2
                      repeat (go_quiet (fail); try go_wp2)
                      go_meet
                      case rel => exact ⟨_, (true), (by first | rfl | (simp; done) | (simp [*]; done)), H', ⟨by have := HJ5.out; have := HJ10.out; first | omega | exact Nat.le_refl _⟩, ⟨by repeat (first | (with_reducible first | exact HB.out | apply below_alloc | apply pw_below_drewN | apply below_drew1) | exact HB.out)⟩⟩
                    · rw [if_neg c21] at H
                      have c21b0 : decide (a2 < 1) = false := decide_eq_false c21
                      clear c21
                      have H' := Aside0.mk H
                      clear H
                      go_wp2
                      repeat (go_quiet (fail); try go_wp2)
                      go_meet
                      case rel => exact ⟨_, (decide (a2 > 1460)), (by first | rfl | (simp; done) | (simp [*]; done)), H', ⟨by have := HJ5.out; have := HJ10.out; first | omega | exact Nat.le_refl _⟩, ⟨by repeat (first | (with_reducible first | exact HB.out | apply below_alloc | apply pw_below_drewN | apply below_drew1) | exact HB.out)⟩⟩
              case rest =>
                clear HC18
                try clear c1
                try clear c2
                try clear p2
                try clear c4
                try clear c8
                try clear c9
                try clear c13
                try clear c14
                try clear c14b0
                try clear c14b1
                try clear c15
                try clear c15b0
                try clear c16
                try clear c16b0
                try clear c17
                try clear c19
                try clear c19b0
                try clear c20
                try clear c20b0
                try clear c21
                try clear c21b0
                try clear p2
                obtain ⟨kq, x12_17, rfl, HA, HJ17, HB⟩ := hcut
                cases kq with
                | zero => exact absurd HA.out (by simp [fourinhandlaw18_EcfRoom.j2])
                | succ kj17 =>
                  have H := HA.out
                  clear HA
                  simp only [fourinhandlaw18_EcfRoom.j2] at H
                  have H' := Aside0.mk H
                  clear H
                  go_wp2
                  repeat (go_quiet (fail); try go_wp2)
                  go_loopg [13] kj17 (fun kq v13 w' => ∃ (x13_4 : Int), v13 = .int .i64 x13_4 ∧ Aside0 (fourinhandlaw18_EcfRoom.l0 kq l0 a2 t151 t152 x12_17 x13_4 = some r) ∧ Aside0 (kq ≤ kj17) ∧ Aside0 (Below w.heap.size w w'))
                  case atStart => exact ⟨(0), (by first | rfl | (simp; done) | (simp [*]; done)), H', ⟨Nat.le_refl _⟩, ⟨by repeat (first | (with_reducible first | exact HB.out | apply below_alloc | apply pw_below_drewN | apply below_drew1) | exact HB.out)⟩⟩
                  case round =>
                    clear H'
                    try clear c1
                    try clear c2
                    try clear p2
                    try clear c4
                    try clear c8
                    try clear c9
                    try clear c13
                    try clear c14
                    try clear c14b0
                    try clear c14b1
                    try clear c15
                    try clear c15b0
                    try clear c16
                    try clear c16b0
                    try clear c17
                    try clear c19
                    try clear c19b0
                    try clear c20
                    try clear c20b0
                    try clear c21
                    try clear c21b0
                    try clear p2
                    obtain ⟨x13_4, rfl, HA, HK4, HB⟩ := hrel
                    cases gk with
                    | zero => exact absurd HA.out (by simp [fourinhandlaw18_EcfRoom.l0])
                    | succ k4 =>
                      have H := HA.out
                      clear HA
                      simp only [fourinhandlaw18_EcfRoom.l0] at H
                      by_cases c22 : x13_4 < (l0.length : Int)
                      · rw [if_pos c22] at H
                        have c22b0 : decide (x13_4 < (l0.length : Int)) = true := decide_eq_true c22
                        clear c22
                        by_cases c23 : 0 ≤ x13_4
                        · rw [if_pos c23] at H
                          have c23b0 : decide (0 ≤ x13_4) = true := decide_eq_true c23
                          clear c23
                          replace H := Option.bind_eq_some_iff.mp H
                          obtain ⟨t154, A240, H⟩ := H
                          replace H : (if t151 ≥ 0 then (if t154 = true then (if 0 ≤ t151 then (if t151 < (l0.length : Int) then (if ((rd_T28 l0 x13_4).f3) < ((rd_T28 l0 t151).f3) then (some false) else (if t151 < 0 then (if t152 = true then (fourinhandlaw18_EcfRoom.l0 k4 l0 a2 t151 t152 x12_17 (wrap64 (x13_4 + 1))) else (if x12_17 = true then (fourinhandlaw18_EcfRoom.l0 k4 l0 a2 t151 t152 x12_17 (wrap64 (x13_4 + 1))) else (some false))) else (fourinhandlaw18_EcfRoom.l0 k4 l0 a2 t151 t152 x12_17 (wrap64 (x13_4 + 1))))) else (none)) else (none)) else (if t151 < 0 then (if t152 = true then (fourinhandlaw18_EcfRoom.l0 k4 l0 a2 t151 t152 x12_17 (wrap64 (x13_4 + 1))) else (fourinhandlaw18_EcfRoom.l0 k4 l0 a2 t151 t152 x12_17 (wrap64 (x13_4 + 1)))) else (fourinhandlaw18_EcfRoom.l0 k4 l0 a2 t151 t152 x12_17 (wrap64 (x13_4 + 1))))) else (if t151 < 0 then (if t152 = true then (fourinhandlaw18_EcfRoom.l0 k4 l0 a2 t151 t152 x12_17 (wrap64 (x13_4 + 1))) else (if t154 = true then (if x12_17 = true then (fourinhandlaw18_EcfRoom.l0 k4 l0 a2 t151 t152 x12_17 (wrap64 (x13_4 + 1))) else (some false)) else (fourinhandlaw18_EcfRoom.l0 k4 l0 a2 t151 t152 x12_17 (wrap64 (x13_4 + 1))))) else (fourinhandlaw18_EcfRoom.l0 k4 l0 a2 t151 t152 x12_17 (wrap64 (x13_4 + 1))))) = some r := H
                          have A24 := Aside0.mk A240
                          clear A240
                          by_cases c25 : t151 ≥ 0
                          · rw [if_pos c25] at H
                            have c25b0 : decide (0 ≤ t151) = true := decide_eq_true c25
                            clear c25
                            by_cases c26 : t154 = true
                            · subst c26
                              have H1 : (if 0 ≤ t151 then (if t151 < (l0.length : Int) then (if ((rd_T28 l0 x13_4).f3) < ((rd_T28 l0 t151).f3) then (some false) else (if t151 < 0 then (if t152 = true then (fourinhandlaw18_EcfRoom.l0 k4 l0 a2 t151 t152 x12_17 (wrap64 (x13_4 + 1))) else (if x12_17 = true then (fourinhandlaw18_EcfRoom.l0 k4 l0 a2 t151 t152 x12_17 (wrap64 (x13_4 + 1))) else (some false))) else (fourinhandlaw18_EcfRoom.l0 k4 l0 a2 t151 t152 x12_17 (wrap64 (x13_4 + 1))))) else (none)) else (none)) = some r := by rw [if_pos rfl] at H; exact H
                              clear H
                              have H := H1
                              clear H1
                              by_cases c27 : 0 ≤ t151
                              · rw [if_pos c27] at H
                                have c27b0 : decide (0 ≤ t151) = true := decide_eq_true c27
                                clear c27
                                by_cases c28 : t151 < (l0.length : Int)
                                · rw [if_pos c28] at H
                                  have c28b0 : decide (t151 < (l0.length : Int)) = true := decide_eq_true c28
                                  clear c28
                                  by_cases c29 : ((rd_T28 l0 x13_4).f3) < ((rd_T28 l0 t151).f3)
                                  · rw [if_pos c29] at H
                                    have c29b0 : decide (((rd_T28 l0 x13_4).f3) < ((rd_T28 l0 t151).f3)) = true := decide_eq_true c29
                                    clear c29
                                    exact Bool.noConfusion ((Option.some.inj H).trans hr_.out)
                                  · rw [if_neg c29] at H
                                    have c29b0 : decide (((rd_T28 l0 x13_4).f3) < ((rd_T28 l0 t151).f3)) = false := decide_eq_false c29
                                    clear c29
                                    by_cases c30 : t151 < 0
                                    · rw [if_pos c30] at H
                                      have c30b0 : decide (t151 < 0) = true := decide_eq_true c30
                                      clear c30
                                      by_cases c31 : t152 = true
                                      · subst c31
                                        have H1 : (fourinhandlaw18_EcfRoom.l0 k4 l0 a2 t151 true x12_17 (wrap64 (x13_4 + 1))) = some r := by rw [if_pos rfl] at H; exact H
                                        clear H
                                        have H := H1
                                        clear H1
                                        have H' := Aside0.mk H
                                        clear H
                                        have p153 : 0 ≤ (x13_4 : Int) := of_decide_eq_true (by first | (with_reducible assumption) | assumption)
                                        have q153 : x13_4 < (l0.length : Int) := of_decide_eq_true (by first | (with_reducible assumption) | assumption)
                                        obtain ⟨ad153, e153, hx153_0, hx153_1, hx153_2, hx153_3, hx153_4⟩ := at_T28 HR0.out x13_4 p153 q153
                                        cases e153
                                        replace hx153_0 := (HB.out.cell (World.block_lt_of_cell? w _ hx153_0)).trans hx153_0
                                        replace hx153_1 := (HB.out.cell (World.block_lt_of_cell? w _ hx153_1)).trans hx153_1
                                        replace hx153_2 := (HB.out.cell (World.block_lt_of_cell? w _ hx153_2)).trans hx153_2
                                        replace hx153_3 := (HB.out.cell (World.block_lt_of_cell? w _ hx153_3)).trans hx153_3
                                        replace hx153_4 := (HB.out.cell (World.block_lt_of_cell? w _ hx153_4)).trans hx153_4
                                        replace p153 := eq_true p153
                                        replace q153 := eq_true q153
                                        go_wp2_with (first | (go_at_call 13; (with_reducible refine (ecf_Room.calls ((rd_T28 l0 x13_4).f0) ((rd_T28 l0 x13_4).f1) ((rd_T28 l0 x13_4).f2) ((rd_T28 l0 x13_4).f3) ((rd_T28 l0 x13_4).f4) a2 true _ A24.out).mono ?_); rintro e w32 ⟨rfl, hb⟩; have n0_ := Aside0.mk (below_step (by repeat (first | (with_reducible first | exact HB.out | apply below_alloc | apply pw_below_drewN | apply below_drew1) | exact HB.out)) hb); clear HB; have HB := n0_; clear n0_; (try clear hb); (try clear hb2); (try clear hk); (try clear hi); have p155 : 0 ≤ (x13_4 : Int) := of_decide_eq_true (by first | (with_reducible assumption) | assumption); have q155 : x13_4 < (l0.length : Int) := of_decide_eq_true (by first | (with_reducible assumption) | assumption); obtain ⟨ad155, e155, hx155_0, hx155_1, hx155_2, hx155_3, hx155_4⟩ := at_T28 HR0.out x13_4 p155 q155; obtain rfl : ad153 = ad155 := (by injection e155); replace hx155_0 := (HB.out.cell (World.block_lt_of_cell? w _ hx155_0)).trans hx155_0; replace hx155_1 := (HB.out.cell (World.block_lt_of_cell? w _ hx155_1)).trans hx155_1; replace hx155_2 := (HB.out.cell (World.block_lt_of_cell? w _ hx155_2)).trans hx155_2; replace hx155_3 := (HB.out.cell (World.block_lt_of_cell? w _ hx155_3)).trans hx155_3; replace hx155_4 := (HB.out.cell (World.block_lt_of_cell? w _ hx155_4)).trans hx155_4; replace p155 := eq_true p155; replace q155 := eq_true q155; have p156 : 0 ≤ (t151 : Int) := of_decide_eq_true (by first | (with_reducible assumption) | assumption); have q156 : t151 < (l0.length : Int) := of_decide_eq_true (by first | (with_reducible assumption) | assumption); obtain ⟨ad156, e156, hx156_0, hx156_1, hx156_2, hx156_3, hx156_4⟩ := at_T28 HR0.out t151 p156 q156; obtain rfl : ad153 = ad156 := (by injection e156); replace hx156_0 := (HB.out.cell (World.block_lt_of_cell? w _ hx156_0)).trans hx156_0; replace hx156_1 := (HB.out.cell (World.block_lt_of_cell? w _ hx156_1)).trans hx156_1; replace hx156_2 := (HB.out.cell (World.block_lt_of_cell? w _ hx156_2)).trans hx156_2; replace hx156_3 := (HB.out.cell (World.block_lt_of_cell? w _ hx156_3)).trans hx156_3; replace hx156_4 := (HB.out.cell (World.block_lt_of_cell? w _ hx156_4)).trans hx156_4; replace p156 := eq_true p156; replace q156 := eq_true q156))
                                        repeat (go_quiet (first | (go_at_call 13; (with_reducible refine (ecf_Room.calls ((rd_T28 l0 x13_4).f0) ((rd_T28 l0 x13_4).f1) ((rd_T28 l0 x13_4).f2) ((rd_T28 l0 x13_4).f3) ((rd_T28 l0 x13_4).f4) a2 true _ A24.out).mono ?_); rintro e w32 ⟨rfl, hb⟩; have n0_ := Aside0.mk (below_step (by repeat (first | (with_reducible first | exact HB.out | apply below_alloc | apply pw_below_drewN | apply below_drew1) | exact HB.out)) hb); clear HB; have HB := n0_; clear n0_; (try clear hb); (try clear hb2); (try clear hk); (try clear hi); have p155 : 0 ≤ (x13_4 : Int) := of_decide_eq_true (by first | (with_reducible assumption) | assumption); have q155 : x13_4 < (l0.length : Int) := of_decide_eq_true (by first | (with_reducible assumption) | assumption); obtain ⟨ad155, e155, hx155_0, hx155_1, hx155_2, hx155_3, hx155_4⟩ := at_T28 HR0.out x13_4 p155 q155; obtain rfl : ad153 = ad155 := (by injection e155); replace hx155_0 := (HB.out.cell (World.block_lt_of_cell? w _ hx155_0)).trans hx155_0; replace hx155_1 := (HB.out.cell (World.block_lt_of_cell? w _ hx155_1)).trans hx155_1; replace hx155_2 := (HB.out.cell (World.block_lt_of_cell? w _ hx155_2)).trans hx155_2; replace hx155_3 := (HB.out.cell (World.block_lt_of_cell? w _ hx155_3)).trans hx155_3; replace hx155_4 := (HB.out.cell (World.block_lt_of_cell? w _ hx155_4)).trans hx155_4; replace p155 := eq_true p155; replace q155 := eq_true q155; have p156 : 0 ≤ (t151 : Int) := of_decide_eq_true (by first | (with_reducible assumption) | assumption); have q156 : t151 < (l0.length : Int) := of_decide_eq_true (by first | (with_reducible assumption) | assumption); obtain ⟨ad156, e156, hx156_0, hx156_1, hx156_2, hx156_3, hx156_4⟩ := at_T28 HR0.out t151 p156 q156; obtain rfl : ad153 = ad156 := (by injection e156); replace hx156_0 := (HB.out.cell (World.block_lt_of_cell? w _ hx156_0)).trans hx156_0; replace hx156_1 := (HB.out.cell (World.block_lt_of_cell? w _ hx156_1)).trans hx156_1; replace hx156_2 := (HB.out.cell (World.block_lt_of_cell? w _ hx156_2)).trans hx156_2; replace hx156_3 := (HB.out.cell (World.block_lt_of_cell? w _ hx156_3)).trans hx156_3; replace hx156_4 := (HB.out.cell (World.block_lt_of_cell? w _ hx156_4)).trans hx156_4; replace p156 := eq_true p156; replace q156 := eq_true q156)); try go_wp2_with (first | (go_at_call 13; (with_reducible refine (ecf_Room.calls ((rd_T28 l0 x13_4).f0) ((rd_T28 l0 x13_4).f1) ((rd_T28 l0 x13_4).f2) ((rd_T28 l0 x13_4).f3) ((rd_T28 l0 x13_4).f4) a2 true _ A24.out).mono ?_); rintro e w32 ⟨rfl, hb⟩; have n0_ := Aside0.mk (below_step (by repeat (first | (with_reducible first | exact HB.out | apply below_alloc | apply pw_below_drewN | apply below_drew1) | exact HB.out)) hb); clear HB; have HB := n0_; clear n0_; (try clear hb); (try clear hb2); (try clear hk); (try clear hi); have p155 : 0 ≤ (x13_4 : Int) := of_decide_eq_true (by first | (with_reducible assumption) | assumption); have q155 : x13_4 < (l0.length : Int) := of_decide_eq_true (by first | (with_reducible assumption) | assumption); obtain ⟨ad155, e155, hx155_0, hx155_1, hx155_2, hx155_3, hx155_4⟩ := at_T28 HR0.out x13_4 p155 q155; obtain rfl : ad153 = ad155 := (by injection e155); replace hx155_0 := (HB.out.cell (World.block_lt_of_cell? w _ hx155_0)).trans hx155_0; replace hx155_1 := (HB.out.cell (World.block_lt_of_cell? w _ hx155_1)).trans hx155_1; replace hx155_2 := (HB.out.cell (World.block_lt_of_cell? w _ hx155_2)).trans hx155_2; replace hx155_3 := (HB.out.cell (World.block_lt_of_cell? w _ hx155_3)).trans hx155_3; replace hx155_4 := (HB.out.cell (World.block_lt_of_cell? w _ hx155_4)).trans hx155_4; replace p155 := eq_true p155; replace q155 := eq_true q155; have p156 : 0 ≤ (t151 : Int) := of_decide_eq_true (by first | (with_reducible assumption) | assumption); have q156 : t151 < (l0.length : Int) := of_decide_eq_true (by first | (with_reducible assumption) | assumption); obtain ⟨ad156, e156, hx156_0, hx156_1, hx156_2, hx156_3, hx156_4⟩ := at_T28 HR0.out t151 p156 q156; obtain rfl : ad153 = ad156 := (by injection e156); replace hx156_0 := (HB.out.cell (World.block_lt_of_cell? w _ hx156_0)).trans hx156_0; replace hx156_1 := (HB.out.cell (World.block_lt_of_cell? w _ hx156_1)).trans hx156_1; replace hx156_2 := (HB.out.cell (World.block_lt_of_cell? w _ hx156_2)).trans hx156_2; replace hx156_3 := (HB.out.cell (World.block_lt_of_cell? w _ hx156_3)).trans hx156_3; replace hx156_4 := (HB.out.cell (World.block_lt_of_cell? w _ hx156_4)).trans hx156_4; replace p156 := eq_true p156; replace q156 := eq_true q156)))
                                        go_roundg k4
                                        case measure => have := HJ5.out; have := HJ10.out; have := HJ17.out; have := HK4.out; omega
                                        case rel => exact ⟨(wrap64 (x13_4 + 1)), (by first | rfl | (simp; done) | (simp [*]; done)), H', ⟨by have := HJ5.out; have := HJ10.out; have := HJ17.out; have := HK4.out; omega⟩, ⟨by repeat (first | (with_reducible first | exact HB.out | apply below_alloc | apply pw_below_drewN | apply below_drew1) | exact HB.out)⟩⟩
                                      · replace c31 := Bool.eq_false_iff.mpr c31
                                        subst c31
                                        have H1 : (if x12_17 = true then (fourinhandlaw18_EcfRoom.l0 k4 l0 a2 t151 false x12_17 (wrap64 (x13_4 + 1))) else (some false)) = some r := by rw [if_neg (show ¬ (false = true) by decide)] at H; exact H
                                        clear H
                                        have H := H1
                                        clear H1
                                        by_cases c33 : x12_17 = true
                                        · subst c33
                                          have H1 : (fourinhandlaw18_EcfRoom.l0 k4 l0 a2 t151 false true (wrap64 (x13_4 + 1))) = some r := by rw [if_pos rfl] at H; exact H
                                          clear H
                                          have H := H1
                                          clear H1
                                          have H' := Aside0.mk H
                                          clear H
                                          have p153 : 0 ≤ (x13_4 : Int) := of_decide_eq_true (by first | (with_reducible assumption) | assumption)
                                          have q153 : x13_4 < (l0.length : Int) := of_decide_eq_true (by first | (with_reducible assumption) | assumption)
                                          obtain ⟨ad153, e153, hx153_0, hx153_1, hx153_2, hx153_3, hx153_4⟩ := at_T28 HR0.out x13_4 p153 q153
                                          cases e153
                                          replace hx153_0 := (HB.out.cell (World.block_lt_of_cell? w _ hx153_0)).trans hx153_0
                                          replace hx153_1 := (HB.out.cell (World.block_lt_of_cell? w _ hx153_1)).trans hx153_1
                                          replace hx153_2 := (HB.out.cell (World.block_lt_of_cell? w _ hx153_2)).trans hx153_2
                                          replace hx153_3 := (HB.out.cell (World.block_lt_of_cell? w _ hx153_3)).trans hx153_3
                                          replace hx153_4 := (HB.out.cell (World.block_lt_of_cell? w _ hx153_4)).trans hx153_4
                                          replace p153 := eq_true p153
                                          replace q153 := eq_true q153
                                          go_wp2_with (first | (go_at_call 13; (with_reducible refine (ecf_Room.calls ((rd_T28 l0 x13_4).f0) ((rd_T28 l0 x13_4).f1) ((rd_T28 l0 x13_4).f2) ((rd_T28 l0 x13_4).f3) ((rd_T28 l0 x13_4).f4) a2 true _ A24.out).mono ?_); rintro e w34 ⟨rfl, hb⟩; have n0_ := Aside0.mk (below_step (by repeat (first | (with_reducible first | exact HB.out | apply below_alloc | apply pw_below_drewN | apply below_drew1) | exact HB.out)) hb); clear HB; have HB := n0_; clear n0_; (try clear hb); (try clear hb2); (try clear hk); (try clear hi); have p155 : 0 ≤ (x13_4 : Int) := of_decide_eq_true (by first | (with_reducible assumption) | assumption); have q155 : x13_4 < (l0.length : Int) := of_decide_eq_true (by first | (with_reducible assumption) | assumption); obtain ⟨ad155, e155, hx155_0, hx155_1, hx155_2, hx155_3, hx155_4⟩ := at_T28 HR0.out x13_4 p155 q155; obtain rfl : ad153 = ad155 := (by injection e155); replace hx155_0 := (HB.out.cell (World.block_lt_of_cell? w _ hx155_0)).trans hx155_0; replace hx155_1 := (HB.out.cell (World.block_lt_of_cell? w _ hx155_1)).trans hx155_1; replace hx155_2 := (HB.out.cell (World.block_lt_of_cell? w _ hx155_2)).trans hx155_2; replace hx155_3 := (HB.out.cell (World.block_lt_of_cell? w _ hx155_3)).trans hx155_3; replace hx155_4 := (HB.out.cell (World.block_lt_of_cell? w _ hx155_4)).trans hx155_4; replace p155 := eq_true p155; replace q155 := eq_true q155; have p156 : 0 ≤ (t151 : Int) := of_decide_eq_true (by first | (with_reducible assumption) | assumption); have q156 : t151 < (l0.length : Int) := of_decide_eq_true (by first | (with_reducible assumption) | assumption); obtain ⟨ad156, e156, hx156_0, hx156_1, hx156_2, hx156_3, hx156_4⟩ := at_T28 HR0.out t151 p156 q156; obtain rfl : ad153 = ad156 := (by injection e156); replace hx156_0 := (HB.out.cell (World.block_lt_of_cell? w _ hx156_0)).trans hx156_0; replace hx156_1 := (HB.out.cell (World.block_lt_of_cell? w _ hx156_1)).trans hx156_1; replace hx156_2 := (HB.out.cell (World.block_lt_of_cell? w _ hx156_2)).trans hx156_2; replace hx156_3 := (HB.out.cell (World.block_lt_of_cell? w _ hx156_3)).trans hx156_3; replace hx156_4 := (HB.out.cell (World.block_lt_of_cell? w _ hx156_4)).trans hx156_4; replace p156 := eq_true p156; replace q156 := eq_true q156))
                                          repeat (go_quiet (first | (go_at_call 13; (with_reducible refine (ecf_Room.calls ((rd_T28 l0 x13_4).f0) ((rd_T28 l0 x13_4).f1) ((rd_T28 l0 x13_4).f2) ((rd_T28 l0 x13_4).f3) ((rd_T28 l0 x13_4).f4) a2 true _ A24.out).mono ?_); rintro e w34 ⟨rfl, hb⟩; have n0_ := Aside0.mk (below_step (by repeat (first | (with_reducible first | exact HB.out | apply below_alloc | apply pw_below_drewN | apply below_drew1) | exact HB.out)) hb); clear HB; have HB := n0_; clear n0_; (try clear hb); (try clear hb2); (try clear hk); (try clear hi); have p155 : 0 ≤ (x13_4 : Int) := of_decide_eq_true (by first | (with_reducible assumption) | assumption); have q155 : x13_4 < (l0.length : Int) := of_decide_eq_true (by first | (with_reducible assumption) | assumption); obtain ⟨ad155, e155, hx155_0, hx155_1, hx155_2, hx155_3, hx155_4⟩ := at_T28 HR0.out x13_4 p155 q155; obtain rfl : ad153 = ad155 := (by injection e155); replace hx155_0 := (HB.out.cell (World.block_lt_of_cell? w _ hx155_0)).trans hx155_0; replace hx155_1 := (HB.out.cell (World.block_lt_of_cell? w _ hx155_1)).trans hx155_1; replace hx155_2 := (HB.out.cell (World.block_lt_of_cell? w _ hx155_2)).trans hx155_2; replace hx155_3 := (HB.out.cell (World.block_lt_of_cell? w _ hx155_3)).trans hx155_3; replace hx155_4 := (HB.out.cell (World.block_lt_of_cell? w _ hx155_4)).trans hx155_4; replace p155 := eq_true p155; replace q155 := eq_true q155; have p156 : 0 ≤ (t151 : Int) := of_decide_eq_true (by first | (with_reducible assumption) | assumption); have q156 : t151 < (l0.length : Int) := of_decide_eq_true (by first | (with_reducible assumption) | assumption); obtain ⟨ad156, e156, hx156_0, hx156_1, hx156_2, hx156_3, hx156_4⟩ := at_T28 HR0.out t151 p156 q156; obtain rfl : ad153 = ad156 := (by injection e156); replace hx156_0 := (HB.out.cell (World.block_lt_of_cell? w _ hx156_0)).trans hx156_0; replace hx156_1 := (HB.out.cell (World.block_lt_of_cell? w _ hx156_1)).trans hx156_1; replace hx156_2 := (HB.out.cell (World.block_lt_of_cell? w _ hx156_2)).trans hx156_2; replace hx156_3 := (HB.out.cell (World.block_lt_of_cell? w _ hx156_3)).trans hx156_3; replace hx156_4 := (HB.out.cell (World.block_lt_of_cell? w _ hx156_4)).trans hx156_4; replace p156 := eq_true p156; replace q156 := eq_true q156)); try go_wp2_with (first | (go_at_call 13; (with_reducible refine (ecf_Room.calls ((rd_T28 l0 x13_4).f0) ((rd_T28 l0 x13_4).f1) ((rd_T28 l0 x13_4).f2) ((rd_T28 l0 x13_4).f3) ((rd_T28 l0 x13_4).f4) a2 true _ A24.out).mono ?_); rintro e w34 ⟨rfl, hb⟩; have n0_ := Aside0.mk (below_step (by repeat (first | (with_reducible first | exact HB.out | apply below_alloc | apply pw_below_drewN | apply below_drew1) | exact HB.out)) hb); clear HB; have HB := n0_; clear n0_; (try clear hb); (try clear hb2); (try clear hk); (try clear hi); have p155 : 0 ≤ (x13_4 : Int) := of_decide_eq_true (by first | (with_reducible assumption) | assumption); have q155 : x13_4 < (l0.length : Int) := of_decide_eq_true (by first | (with_reducible assumption) | assumption); obtain ⟨ad155, e155, hx155_0, hx155_1, hx155_2, hx155_3, hx155_4⟩ := at_T28 HR0.out x13_4 p155 q155; obtain rfl : ad153 = ad155 := (by injection e155); replace hx155_0 := (HB.out.cell (World.block_lt_of_cell? w _ hx155_0)).trans hx155_0; replace hx155_1 := (HB.out.cell (World.block_lt_of_cell? w _ hx155_1)).trans hx155_1; replace hx155_2 := (HB.out.cell (World.block_lt_of_cell? w _ hx155_2)).trans hx155_2; replace hx155_3 := (HB.out.cell (World.block_lt_of_cell? w _ hx155_3)).trans hx155_3; replace hx155_4 := (HB.out.cell (World.block_lt_of_cell? w _ hx155_4)).trans hx155_4; replace p155 := eq_true p155; replace q155 := eq_true q155; have p156 : 0 ≤ (t151 : Int) := of_decide_eq_true (by first | (with_reducible assumption) | assumption); have q156 : t151 < (l0.length : Int) := of_decide_eq_true (by first | (with_reducible assumption) | assumption); obtain ⟨ad156, e156, hx156_0, hx156_1, hx156_2, hx156_3, hx156_4⟩ := at_T28 HR0.out t151 p156 q156; obtain rfl : ad153 = ad156 := (by injection e156); replace hx156_0 := (HB.out.cell (World.block_lt_of_cell? w _ hx156_0)).trans hx156_0; replace hx156_1 := (HB.out.cell (World.block_lt_of_cell? w _ hx156_1)).trans hx156_1; replace hx156_2 := (HB.out.cell (World.block_lt_of_cell? w _ hx156_2)).trans hx156_2; replace hx156_3 := (HB.out.cell (World.block_lt_of_cell? w _ hx156_3)).trans hx156_3; replace hx156_4 := (HB.out.cell (World.block_lt_of_cell? w _ hx156_4)).trans hx156_4; replace p156 := eq_true p156; replace q156 := eq_true q156)))
                                          go_roundg k4
                                          case measure => have := HJ5.out; have := HJ10.out; have := HJ17.out; have := HK4.out; omega
                                          case rel => exact ⟨(wrap64 (x13_4 + 1)), (by first | rfl | (simp; done) | (simp [*]; done)), H', ⟨by have := HJ5.out; have := HJ10.out; have := HJ17.out; have := HK4.out; omega⟩, ⟨by repeat (first | (with_reducible first | exact HB.out | apply below_alloc | apply pw_below_drewN | apply below_drew1) | exact HB.out)⟩⟩
                                        · replace c33 := Bool.eq_false_iff.mpr c33
                                          subst c33
                                          have H1 : (some false) = some r := by rw [if_neg (show ¬ (false = true) by decide)] at H; exact H
                                          clear H
                                          have H := H1
                                          clear H1
                                          exact Bool.noConfusion ((Option.some.inj H).trans hr_.out)
                                    · rw [if_neg c30] at H
                                      have c30b0 : decide (t151 < 0) = false := decide_eq_false c30
                                      clear c30
                                      have H' := Aside0.mk H
                                      clear H
                                      have p153 : 0 ≤ (x13_4 : Int) := of_decide_eq_true (by first | (with_reducible assumption) | assumption)
                                      have q153 : x13_4 < (l0.length : Int) := of_decide_eq_true (by first | (with_reducible assumption) | assumption)
                                      obtain ⟨ad153, e153, hx153_0, hx153_1, hx153_2, hx153_3, hx153_4⟩ := at_T28 HR0.out x13_4 p153 q153
                                      cases e153
                                      replace hx153_0 := (HB.out.cell (World.block_lt_of_cell? w _ hx153_0)).trans hx153_0
                                      replace hx153_1 := (HB.out.cell (World.block_lt_of_cell? w _ hx153_1)).trans hx153_1
                                      replace hx153_2 := (HB.out.cell (World.block_lt_of_cell? w _ hx153_2)).trans hx153_2
                                      replace hx153_3 := (HB.out.cell (World.block_lt_of_cell? w _ hx153_3)).trans hx153_3
                                      replace hx153_4 := (HB.out.cell (World.block_lt_of_cell? w _ hx153_4)).trans hx153_4
                                      replace p153 := eq_true p153
                                      replace q153 := eq_true q153
                                      go_wp2_with (first | (go_at_call 13; (with_reducible refine (ecf_Room.calls ((rd_T28 l0 x13_4).f0) ((rd_T28 l0 x13_4).f1) ((rd_T28 l0 x13_4).f2) ((rd_T28 l0 x13_4).f3) ((rd_T28 l0 x13_4).f4) a2 true _ A24.out).mono ?_); rintro e w35 ⟨rfl, hb⟩; have n0_ := Aside0.mk (below_step (by repeat (first | (with_reducible first | exact HB.out | apply below_alloc | apply pw_below_drewN | apply below_drew1) | exact HB.out)) hb); clear HB; have HB := n0_; clear n0_; (try clear hb); (try clear hb2); (try clear hk); (try clear hi); have p155 : 0 ≤ (x13_4 : Int) := of_decide_eq_true (by first | (with_reducible assumption) | assumption); have q155 : x13_4 < (l0.length : Int) := of_decide_eq_true (by first | (with_reducible assumption) | assumption); obtain ⟨ad155, e155, hx155_0, hx155_1, hx155_2, hx155_3, hx155_4⟩ := at_T28 HR0.out x13_4 p155 q155; obtain rfl : ad153 = ad155 := (by injection e155); replace hx155_0 := (HB.out.cell (World.block_lt_of_cell? w _ hx155_0)).trans hx155_0; replace hx155_1 := (HB.out.cell (World.block_lt_of_cell? w _ hx155_1)).trans hx155_1; replace hx155_2 := (HB.out.cell (World.block_lt_of_cell? w _ hx155_2)).trans hx155_2; replace hx155_3 := (HB.out.cell (World.block_lt_of_cell? w _ hx155_3)).trans hx155_3; replace hx155_4 := (HB.out.cell (World.block_lt_of_cell? w _ hx155_4)).trans hx155_4; replace p155 := eq_true p155; replace q155 := eq_true q155; have p156 : 0 ≤ (t151 : Int) := of_decide_eq_true (by first | (with_reducible assumption) | assumption); have q156 : t151 < (l0.length : Int) := of_decide_eq_true (by first | (with_reducible assumption) | assumption); obtain ⟨ad156, e156, hx156_0, hx156_1, hx156_2, hx156_3, hx156_4⟩ := at_T28 HR0.out t151 p156 q156; obtain rfl : ad153 = ad156 := (by injection e156); replace hx156_0 := (HB.out.cell (World.block_lt_of_cell? w _ hx156_0)).trans hx156_0; replace hx156_1 := (HB.out.cell (World.block_lt_of_cell? w _ hx156_1)).trans hx156_1; replace hx156_2 := (HB.out.cell (World.block_lt_of_cell? w _ hx156_2)).trans hx156_2; replace hx156_3 := (HB.out.cell (World.block_lt_of_cell? w _ hx156_3)).trans hx156_3; replace hx156_4 := (HB.out.cell (World.block_lt_of_cell? w _ hx156_4)).trans hx156_4; replace p156 := eq_true p156; replace q156 := eq_true q156))
                                      repeat (go_quiet (first | (go_at_call 13; (with_reducible refine (ecf_Room.calls ((rd_T28 l0 x13_4).f0) ((rd_T28 l0 x13_4).f1) ((rd_T28 l0 x13_4).f2) ((rd_T28 l0 x13_4).f3) ((rd_T28 l0 x13_4).f4) a2 true _ A24.out).mono ?_); rintro e w35 ⟨rfl, hb⟩; have n0_ := Aside0.mk (below_step (by repeat (first | (with_reducible first | exact HB.out | apply below_alloc | apply pw_below_drewN | apply below_drew1) | exact HB.out)) hb); clear HB; have HB := n0_; clear n0_; (try clear hb); (try clear hb2); (try clear hk); (try clear hi); have p155 : 0 ≤ (x13_4 : Int) := of_decide_eq_true (by first | (with_reducible assumption) | assumption); have q155 : x13_4 < (l0.length : Int) := of_decide_eq_true (by first | (with_reducible assumption) | assumption); obtain ⟨ad155, e155, hx155_0, hx155_1, hx155_2, hx155_3, hx155_4⟩ := at_T28 HR0.out x13_4 p155 q155; obtain rfl : ad153 = ad155 := (by injection e155); replace hx155_0 := (HB.out.cell (World.block_lt_of_cell? w _ hx155_0)).trans hx155_0; replace hx155_1 := (HB.out.cell (World.block_lt_of_cell? w _ hx155_1)).trans hx155_1; replace hx155_2 := (HB.out.cell (World.block_lt_of_cell? w _ hx155_2)).trans hx155_2; replace hx155_3 := (HB.out.cell (World.block_lt_of_cell? w _ hx155_3)).trans hx155_3; replace hx155_4 := (HB.out.cell (World.block_lt_of_cell? w _ hx155_4)).trans hx155_4; replace p155 := eq_true p155; replace q155 := eq_true q155; have p156 : 0 ≤ (t151 : Int) := of_decide_eq_true (by first | (with_reducible assumption) | assumption); have q156 : t151 < (l0.length : Int) := of_decide_eq_true (by first | (with_reducible assumption) | assumption); obtain ⟨ad156, e156, hx156_0, hx156_1, hx156_2, hx156_3, hx156_4⟩ := at_T28 HR0.out t151 p156 q156; obtain rfl : ad153 = ad156 := (by injection e156); replace hx156_0 := (HB.out.cell (World.block_lt_of_cell? w _ hx156_0)).trans hx156_0; replace hx156_1 := (HB.out.cell (World.block_lt_of_cell? w _ hx156_1)).trans hx156_1; replace hx156_2 := (HB.out.cell (World.block_lt_of_cell? w _ hx156_2)).trans hx156_2; replace hx156_3 := (HB.out.cell (World.block_lt_of_cell? w _ hx156_3)).trans hx156_3; replace hx156_4 := (HB.out.cell (World.block_lt_of_cell? w _ hx156_4)).trans hx156_4; replace p156 := eq_true p156; replace q156 := eq_true q156)); try go_wp2_with (first | (go_at_call 13; (with_reducible refine (ecf_Room.calls ((rd_T28 l0 x13_4).f0) ((rd_T28 l0 x13_4).f1) ((rd_T28 l0 x13_4).f2) ((rd_T28 l0 x13_4).f3) ((rd_T28 l0 x13_4).f4) a2 true _ A24.out).mono ?_); rintro e w35 ⟨rfl, hb⟩; have n0_ := Aside0.mk (below_step (by repeat (first | (with_reducible first | exact HB.out | apply below_alloc | apply pw_below_drewN | apply below_drew1) | exact HB.out)) hb); clear HB; have HB := n0_; clear n0_; (try clear hb); (try clear hb2); (try clear hk); (try clear hi); have p155 : 0 ≤ (x13_4 : Int) := of_decide_eq_true (by first | (with_reducible assumption) | assumption); have q155 : x13_4 < (l0.length : Int) := of_decide_eq_true (by first | (with_reducible assumption) | assumption); obtain ⟨ad155, e155, hx155_0, hx155_1, hx155_2, hx155_3, hx155_4⟩ := at_T28 HR0.out x13_4 p155 q155; obtain rfl : ad153 = ad155 := (by injection e155); replace hx155_0 := (HB.out.cell (World.block_lt_of_cell? w _ hx155_0)).trans hx155_0; replace hx155_1 := (HB.out.cell (World.block_lt_of_cell? w _ hx155_1)).trans hx155_1; replace hx155_2 := (HB.out.cell (World.block_lt_of_cell? w _ hx155_2)).trans hx155_2; replace hx155_3 := (HB.out.cell (World.block_lt_of_cell? w _ hx155_3)).trans hx155_3; replace hx155_4 := (HB.out.cell (World.block_lt_of_cell? w _ hx155_4)).trans hx155_4; replace p155 := eq_true p155; replace q155 := eq_true q155; have p156 : 0 ≤ (t151 : Int) := of_decide_eq_true (by first | (with_reducible assumption) | assumption); have q156 : t151 < (l0.length : Int) := of_decide_eq_true (by first | (with_reducible assumption) | assumption); obtain ⟨ad156, e156, hx156_0, hx156_1, hx156_2, hx156_3, hx156_4⟩ := at_T28 HR0.out t151 p156 q156; obtain rfl : ad153 = ad156 := (by injection e156); replace hx156_0 := (HB.out.cell (World.block_lt_of_cell? w _ hx156_0)).trans hx156_0; replace hx156_1 := (HB.out.cell (World.block_lt_of_cell? w _ hx156_1)).trans hx156_1; replace hx156_2 := (HB.out.cell (World.block_lt_of_cell? w _ hx156_2)).trans hx156_2; replace hx156_3 := (HB.out.cell (World.block_lt_of_cell? w _ hx156_3)).trans hx156_3; replace hx156_4 := (HB.out.cell (World.block_lt_of_cell? w _ hx156_4)).trans hx156_4; replace p156 := eq_true p156; replace q156 := eq_true q156)))
                                      go_roundg k4
                                      case measure => have := HJ5.out; have := HJ10.out; have := HJ17.out; have := HK4.out; omega
                                      case rel => exact ⟨(wrap64 (x13_4 + 1)), (by first | rfl | (simp; done) | (simp [*]; done)), H', ⟨by have := HJ5.out; have := HJ10.out; have := HJ17.out; have := HK4.out; omega⟩, ⟨by repeat (first | (with_reducible first | exact HB.out | apply below_alloc | apply pw_below_drewN | apply below_drew1) | exact HB.out)⟩⟩
                                · rw [if_neg c28] at H
                                  exact absurd H (by simp)
                              · rw [if_neg c27] at H
                                exact absurd H (by simp)
                            · replace c26 := Bool.eq_false_iff.mpr c26
                              subst c26
                              have H1 : (if t151 < 0 then (if t152 = true then (fourinhandlaw18_EcfRoom.l0 k4 l0 a2 t151 t152 x12_17 (wrap64 (x13_4 + 1))) else (fourinhandlaw18_EcfRoom.l0 k4 l0 a2 t151 t152 x12_17 (wrap64 (x13_4 + 1)))) else (fourinhandlaw18_EcfRoom.l0 k4 l0 a2 t151 t152 x12_17 (wrap64 (x13_4 + 1)))) = some r := by rw [if_neg (show ¬ (false = true) by decide)] at H; exact H
                              clear H
                              have H := H1
                              clear H1
                              by_cases c36 : t151 < 0
                              · rw [if_pos c36] at H
                                have c36b0 : decide (t151 < 0) = true := decide_eq_true c36
                                clear c36
                                by_cases c37 : t152 = true
                                · subst c37
                                  have H1 : (fourinhandlaw18_EcfRoom.l0 k4 l0 a2 t151 true x12_17 (wrap64 (x13_4 + 1))) = some r := by rw [if_pos rfl] at H; exact H
                                  clear H
                                  have H := H1
                                  clear H1
                                  have H' := Aside0.mk H
                                  clear H
                                  have p153 : 0 ≤ (x13_4 : Int) := of_decide_eq_true (by first | (with_reducible assumption) | assumption)
                                  have q153 : x13_4 < (l0.length : Int) := of_decide_eq_true (by first | (with_reducible assumption) | assumption)
                                  obtain ⟨ad153, e153, hx153_0, hx153_1, hx153_2, hx153_3, hx153_4⟩ := at_T28 HR0.out x13_4 p153 q153
                                  cases e153
                                  replace hx153_0 := (HB.out.cell (World.block_lt_of_cell? w _ hx153_0)).trans hx153_0
                                  replace hx153_1 := (HB.out.cell (World.block_lt_of_cell? w _ hx153_1)).trans hx153_1
                                  replace hx153_2 := (HB.out.cell (World.block_lt_of_cell? w _ hx153_2)).trans hx153_2
                                  replace hx153_3 := (HB.out.cell (World.block_lt_of_cell? w _ hx153_3)).trans hx153_3
                                  replace hx153_4 := (HB.out.cell (World.block_lt_of_cell? w _ hx153_4)).trans hx153_4
                                  replace p153 := eq_true p153
                                  replace q153 := eq_true q153
                                  go_wp2_with (first | (go_at_call 13; (with_reducible refine (ecf_Room.calls ((rd_T28 l0 x13_4).f0) ((rd_T28 l0 x13_4).f1) ((rd_T28 l0 x13_4).f2) ((rd_T28 l0 x13_4).f3) ((rd_T28 l0 x13_4).f4) a2 false _ A24.out).mono ?_); rintro e w38 ⟨rfl, hb⟩; have n0_ := Aside0.mk (below_step (by repeat (first | (with_reducible first | exact HB.out | apply below_alloc | apply pw_below_drewN | apply below_drew1) | exact HB.out)) hb); clear HB; have HB := n0_; clear n0_; (try clear hb); (try clear hb2); (try clear hk); (try clear hi)))
                                  repeat (go_quiet (first | (go_at_call 13; (with_reducible refine (ecf_Room.calls ((rd_T28 l0 x13_4).f0) ((rd_T28 l0 x13_4).f1) ((rd_T28 l0 x13_4).f2) ((rd_T28 l0 x13_4).f3) ((rd_T28 l0 x13_4).f4) a2 false _ A24.out).mono ?_); rintro e w38 ⟨rfl, hb⟩; have n0_ := Aside0.mk (below_step (by repeat (first | (with_reducible first | exact HB.out | apply below_alloc | apply pw_below_drewN | apply below_drew1) | exact HB.out)) hb); clear HB; have HB := n0_; clear n0_; (try clear hb); (try clear hb2); (try clear hk); (try clear hi))); try go_wp2_with (first | (go_at_call 13; (with_reducible refine (ecf_Room.calls ((rd_T28 l0 x13_4).f0) ((rd_T28 l0 x13_4).f1) ((rd_T28 l0 x13_4).f2) ((rd_T28 l0 x13_4).f3) ((rd_T28 l0 x13_4).f4) a2 false _ A24.out).mono ?_); rintro e w38 ⟨rfl, hb⟩; have n0_ := Aside0.mk (below_step (by repeat (first | (with_reducible first | exact HB.out | apply below_alloc | apply pw_below_drewN | apply below_drew1) | exact HB.out)) hb); clear HB; have HB := n0_; clear n0_; (try clear hb); (try clear hb2); (try clear hk); (try clear hi))))
                                  go_roundg k4
                                  case measure => have := HJ5.out; have := HJ10.out; have := HJ17.out; have := HK4.out; omega
                                  case rel => exact ⟨(wrap64 (x13_4 + 1)), (by first | rfl | (simp; done) | (simp [*]; done)), H', ⟨by have := HJ5.out; have := HJ10.out; have := HJ17.out; have := HK4.out; omega⟩, ⟨by repeat (first | (with_reducible first | exact HB.out | apply below_alloc | apply pw_below_drewN | apply below_drew1) | exact HB.out)⟩⟩
                                · replace c37 := Bool.eq_false_iff.mpr c37
                                  subst c37
                                  have H1 : (fourinhandlaw18_EcfRoom.l0 k4 l0 a2 t151 false x12_17 (wrap64 (x13_4 + 1))) = some r := by rw [if_neg (show ¬ (false = true) by decide)] at H; exact H
                                  clear H
                                  have H := H1
                                  clear H1
                                  have H' := Aside0.mk H
                                  clear H
                                  have p153 : 0 ≤ (x13_4 : Int) := of_decide_eq_true (by first | (with_reducible assumption) | assumption)
                                  have q153 : x13_4 < (l0.length : Int) := of_decide_eq_true (by first | (with_reducible assumption) | assumption)
                                  obtain ⟨ad153, e153, hx153_0, hx153_1, hx153_2, hx153_3, hx153_4⟩ := at_T28 HR0.out x13_4 p153 q153
                                  cases e153
                                  replace hx153_0 := (HB.out.cell (World.block_lt_of_cell? w _ hx153_0)).trans hx153_0
                                  replace hx153_1 := (HB.out.cell (World.block_lt_of_cell? w _ hx153_1)).trans hx153_1
                                  replace hx153_2 := (HB.out.cell (World.block_lt_of_cell? w _ hx153_2)).trans hx153_2
                                  replace hx153_3 := (HB.out.cell (World.block_lt_of_cell? w _ hx153_3)).trans hx153_3
                                  replace hx153_4 := (HB.out.cell (World.block_lt_of_cell? w _ hx153_4)).trans hx153_4
                                  replace p153 := eq_true p153
                                  replace q153 := eq_true q153
                                  go_wp2_with (first | (go_at_call 13; (with_reducible refine (ecf_Room.calls ((rd_T28 l0 x13_4).f0) ((rd_T28 l0 x13_4).f1) ((rd_T28 l0 x13_4).f2) ((rd_T28 l0 x13_4).f3) ((rd_T28 l0 x13_4).f4) a2 false _ A24.out).mono ?_); rintro e w39 ⟨rfl, hb⟩; have n0_ := Aside0.mk (below_step (by repeat (first | (with_reducible first | exact HB.out | apply below_alloc | apply pw_below_drewN | apply below_drew1) | exact HB.out)) hb); clear HB; have HB := n0_; clear n0_; (try clear hb); (try clear hb2); (try clear hk); (try clear hi)))
                                  repeat (go_quiet (first | (go_at_call 13; (with_reducible refine (ecf_Room.calls ((rd_T28 l0 x13_4).f0) ((rd_T28 l0 x13_4).f1) ((rd_T28 l0 x13_4).f2) ((rd_T28 l0 x13_4).f3) ((rd_T28 l0 x13_4).f4) a2 false _ A24.out).mono ?_); rintro e w39 ⟨rfl, hb⟩; have n0_ := Aside0.mk (below_step (by repeat (first | (with_reducible first | exact HB.out | apply below_alloc | apply pw_below_drewN | apply below_drew1) | exact HB.out)) hb); clear HB; have HB := n0_; clear n0_; (try clear hb); (try clear hb2); (try clear hk); (try clear hi))); try go_wp2_with (first | (go_at_call 13; (with_reducible refine (ecf_Room.calls ((rd_T28 l0 x13_4).f0) ((rd_T28 l0 x13_4).f1) ((rd_T28 l0 x13_4).f2) ((rd_T28 l0 x13_4).f3) ((rd_T28 l0 x13_4).f4) a2 false _ A24.out).mono ?_); rintro e w39 ⟨rfl, hb⟩; have n0_ := Aside0.mk (below_step (by repeat (first | (with_reducible first | exact HB.out | apply below_alloc | apply pw_below_drewN | apply below_drew1) | exact HB.out)) hb); clear HB; have HB := n0_; clear n0_; (try clear hb); (try clear hb2); (try clear hk); (try clear hi))))
                                  go_roundg k4
                                  case measure => have := HJ5.out; have := HJ10.out; have := HJ17.out; have := HK4.out; omega
                                  case rel => exact ⟨(wrap64 (x13_4 + 1)), (by first | rfl | (simp; done) | (simp [*]; done)), H', ⟨by have := HJ5.out; have := HJ10.out; have := HJ17.out; have := HK4.out; omega⟩, ⟨by repeat (first | (with_reducible first | exact HB.out | apply below_alloc | apply pw_below_drewN | apply below_drew1) | exact HB.out)⟩⟩
                              · rw [if_neg c36] at H
                                have c36b0 : decide (t151 < 0) = false := decide_eq_false c36
                                clear c36
                                have H' := Aside0.mk H
                                clear H
                                have p153 : 0 ≤ (x13_4 : Int) := of_decide_eq_true (by first | (with_reducible assumption) | assumption)
                                have q153 : x13_4 < (l0.length : Int) := of_decide_eq_true (by first | (with_reducible assumption) | assumption)
                                obtain ⟨ad153, e153, hx153_0, hx153_1, hx153_2, hx153_3, hx153_4⟩ := at_T28 HR0.out x13_4 p153 q153
                                cases e153
                                replace hx153_0 := (HB.out.cell (World.block_lt_of_cell? w _ hx153_0)).trans hx153_0
                                replace hx153_1 := (HB.out.cell (World.block_lt_of_cell? w _ hx153_1)).trans hx153_1
                                replace hx153_2 := (HB.out.cell (World.block_lt_of_cell? w _ hx153_2)).trans hx153_2
                                replace hx153_3 := (HB.out.cell (World.block_lt_of_cell? w _ hx153_3)).trans hx153_3
                                replace hx153_4 := (HB.out.cell (World.block_lt_of_cell? w _ hx153_4)).trans hx153_4
                                replace p153 := eq_true p153
                                replace q153 := eq_true q153
                                go_wp2_with (first | (go_at_call 13; (with_reducible refine (ecf_Room.calls ((rd_T28 l0 x13_4).f0) ((rd_T28 l0 x13_4).f1) ((rd_T28 l0 x13_4).f2) ((rd_T28 l0 x13_4).f3) ((rd_T28 l0 x13_4).f4) a2 false _ A24.out).mono ?_); rintro e w40 ⟨rfl, hb⟩; have n0_ := Aside0.mk (below_step (by repeat (first | (with_reducible first | exact HB.out | apply below_alloc | apply pw_below_drewN | apply below_drew1) | exact HB.out)) hb); clear HB; have HB := n0_; clear n0_; (try clear hb); (try clear hb2); (try clear hk); (try clear hi)))
                                repeat (go_quiet (first | (go_at_call 13; (with_reducible refine (ecf_Room.calls ((rd_T28 l0 x13_4).f0) ((rd_T28 l0 x13_4).f1) ((rd_T28 l0 x13_4).f2) ((rd_T28 l0 x13_4).f3) ((rd_T28 l0 x13_4).f4) a2 false _ A24.out).mono ?_); rintro e w40 ⟨rfl, hb⟩; have n0_ := Aside0.mk (below_step (by repeat (first | (with_reducible first | exact HB.out | apply below_alloc | apply pw_below_drewN | apply below_drew1) | exact HB.out)) hb); clear HB; have HB := n0_; clear n0_; (try clear hb); (try clear hb2); (try clear hk); (try clear hi))); try go_wp2_with (first | (go_at_call 13; (with_reducible refine (ecf_Room.calls ((rd_T28 l0 x13_4).f0) ((rd_T28 l0 x13_4).f1) ((rd_T28 l0 x13_4).f2) ((rd_T28 l0 x13_4).f3) ((rd_T28 l0 x13_4).f4) a2 false _ A24.out).mono ?_); rintro e w40 ⟨rfl, hb⟩; have n0_ := Aside0.mk (below_step (by repeat (first | (with_reducible first | exact HB.out | apply below_alloc | apply pw_below_drewN | apply below_drew1) | exact HB.out)) hb); clear HB; have HB := n0_; clear n0_; (try clear hb); (try clear hb2); (try clear hk); (try clear hi))))
                                go_roundg k4
                                case measure => have := HJ5.out; have := HJ10.out; have := HJ17.out; have := HK4.out; omega
                                case rel => exact ⟨(wrap64 (x13_4 + 1)), (by first | rfl | (simp; done) | (simp [*]; done)), H', ⟨by have := HJ5.out; have := HJ10.out; have := HJ17.out; have := HK4.out; omega⟩, ⟨by repeat (first | (with_reducible first | exact HB.out | apply below_alloc | apply pw_below_drewN | apply below_drew1) | exact HB.out)⟩⟩
                          · rw [if_neg c25] at H
                            have c25b0 : decide (0 ≤ t151) = false := decide_eq_false c25
                            clear c25
                            by_cases c41 : t151 < 0
                            · rw [if_pos c41] at H
                              have c41b0 : decide (t151 < 0) = true := decide_eq_true c41
                              clear c41
                              by_cases c42 : t152 = true
                              · subst c42
                                have H1 : (fourinhandlaw18_EcfRoom.l0 k4 l0 a2 t151 true x12_17 (wrap64 (x13_4 + 1))) = some r := by rw [if_pos rfl] at H; exact H
                                clear H
                                have H := H1
                                clear H1
                                have H' := Aside0.mk H
                                clear H
                                have p153 : 0 ≤ (x13_4 : Int) := of_decide_eq_true (by first | (with_reducible assumption) | assumption)
                                have q153 : x13_4 < (l0.length : Int) := of_decide_eq_true (by first | (with_reducible assumption) | assumption)
                                obtain ⟨ad153, e153, hx153_0, hx153_1, hx153_2, hx153_3, hx153_4⟩ := at_T28 HR0.out x13_4 p153 q153
                                cases e153
                                replace hx153_0 := (HB.out.cell (World.block_lt_of_cell? w _ hx153_0)).trans hx153_0
                                replace hx153_1 := (HB.out.cell (World.block_lt_of_cell? w _ hx153_1)).trans hx153_1
                                replace hx153_2 := (HB.out.cell (World.block_lt_of_cell? w _ hx153_2)).trans hx153_2
                                replace hx153_3 := (HB.out.cell (World.block_lt_of_cell? w _ hx153_3)).trans hx153_3
                                replace hx153_4 := (HB.out.cell (World.block_lt_of_cell? w _ hx153_4)).trans hx153_4
                                replace p153 := eq_true p153
                                replace q153 := eq_true q153
                                go_wp2_with (first | (go_at_call 13; (with_reducible refine (ecf_Room.calls ((rd_T28 l0 x13_4).f0) ((rd_T28 l0 x13_4).f1) ((rd_T28 l0 x13_4).f2) ((rd_T28 l0 x13_4).f3) ((rd_T28 l0 x13_4).f4) a2 t154 _ A24.out).mono ?_); rintro e w43 ⟨rfl, hb⟩; have n0_ := Aside0.mk (below_step (by repeat (first | (with_reducible first | exact HB.out | apply below_alloc | apply pw_below_drewN | apply below_drew1) | exact HB.out)) hb); clear HB; have HB := n0_; clear n0_; (try clear hb); (try clear hb2); (try clear hk); (try clear hi)))
                                repeat (go_quiet (first | (go_at_call 13; (with_reducible refine (ecf_Room.calls ((rd_T28 l0 x13_4).f0) ((rd_T28 l0 x13_4).f1) ((rd_T28 l0 x13_4).f2) ((rd_T28 l0 x13_4).f3) ((rd_T28 l0 x13_4).f4) a2 t154 _ A24.out).mono ?_); rintro e w43 ⟨rfl, hb⟩; have n0_ := Aside0.mk (below_step (by repeat (first | (with_reducible first | exact HB.out | apply below_alloc | apply pw_below_drewN | apply below_drew1) | exact HB.out)) hb); clear HB; have HB := n0_; clear n0_; (try clear hb); (try clear hb2); (try clear hk); (try clear hi))); try go_wp2_with (first | (go_at_call 13; (with_reducible refine (ecf_Room.calls ((rd_T28 l0 x13_4).f0) ((rd_T28 l0 x13_4).f1) ((rd_T28 l0 x13_4).f2) ((rd_T28 l0 x13_4).f3) ((rd_T28 l0 x13_4).f4) a2 t154 _ A24.out).mono ?_); rintro e w43 ⟨rfl, hb⟩; have n0_ := Aside0.mk (below_step (by repeat (first | (with_reducible first | exact HB.out | apply below_alloc | apply pw_below_drewN | apply below_drew1) | exact HB.out)) hb); clear HB; have HB := n0_; clear n0_; (try clear hb); (try clear hb2); (try clear hk); (try clear hi))))
                                go_roundg k4
                                case measure => have := HJ5.out; have := HJ10.out; have := HJ17.out; have := HK4.out; omega
                                case rel => exact ⟨(wrap64 (x13_4 + 1)), (by first | rfl | (simp; done) | (simp [*]; done)), H', ⟨by have := HJ5.out; have := HJ10.out; have := HJ17.out; have := HK4.out; omega⟩, ⟨by repeat (first | (with_reducible first | exact HB.out | apply below_alloc | apply pw_below_drewN | apply below_drew1) | exact HB.out)⟩⟩
                              · replace c42 := Bool.eq_false_iff.mpr c42
                                subst c42
                                have H1 : (if t154 = true then (if x12_17 = true then (fourinhandlaw18_EcfRoom.l0 k4 l0 a2 t151 false x12_17 (wrap64 (x13_4 + 1))) else (some false)) else (fourinhandlaw18_EcfRoom.l0 k4 l0 a2 t151 false x12_17 (wrap64 (x13_4 + 1)))) = some r := by rw [if_neg (show ¬ (false = true) by decide)] at H; exact H
                                clear H
                                have H := H1
                                clear H1
                                by_cases c44 : t154 = true
                                · subst c44
                                  have H1 : (if x12_17 = true then (fourinhandlaw18_EcfRoom.l0 k4 l0 a2 t151 false x12_17 (wrap64 (x13_4 + 1))) else (some false)) = some r := by rw [if_pos rfl] at H; exact H
                                  clear H
                                  have H := H1
                                  clear H1
                                  by_cases c45 : x12_17 = true
                                  · subst c45
                                    have H1 : (fourinhandlaw18_EcfRoom.l0 k4 l0 a2 t151 false true (wrap64 (x13_4 + 1))) = some r := by rw [if_pos rfl] at H; exact H
                                    clear H
                                    have H := H1
                                    clear H1
                                    have H' := Aside0.mk H
                                    clear H
                                    have p153 : 0 ≤ (x13_4 : Int) := of_decide_eq_true (by first | (with_reducible assumption) | assumption)
                                    have q153 : x13_4 < (l0.length : Int) := of_decide_eq_true (by first | (with_reducible assumption) | assumption)
                                    obtain ⟨ad153, e153, hx153_0, hx153_1, hx153_2, hx153_3, hx153_4⟩ := at_T28 HR0.out x13_4 p153 q153
                                    cases e153
                                    replace hx153_0 := (HB.out.cell (World.block_lt_of_cell? w _ hx153_0)).trans hx153_0
                                    replace hx153_1 := (HB.out.cell (World.block_lt_of_cell? w _ hx153_1)).trans hx153_1
                                    replace hx153_2 := (HB.out.cell (World.block_lt_of_cell? w _ hx153_2)).trans hx153_2
                                    replace hx153_3 := (HB.out.cell (World.block_lt_of_cell? w _ hx153_3)).trans hx153_3
                                    replace hx153_4 := (HB.out.cell (World.block_lt_of_cell? w _ hx153_4)).trans hx153_4
                                    replace p153 := eq_true p153
                                    replace q153 := eq_true q153
                                    go_wp2_with (first | (go_at_call 13; (with_reducible refine (ecf_Room.calls ((rd_T28 l0 x13_4).f0) ((rd_T28 l0 x13_4).f1) ((rd_T28 l0 x13_4).f2) ((rd_T28 l0 x13_4).f3) ((rd_T28 l0 x13_4).f4) a2 true _ A24.out).mono ?_); rintro e w46 ⟨rfl, hb⟩; have n0_ := Aside0.mk (below_step (by repeat (first | (with_reducible first | exact HB.out | apply below_alloc | apply pw_below_drewN | apply below_drew1) | exact HB.out)) hb); clear HB; have HB := n0_; clear n0_; (try clear hb); (try clear hb2); (try clear hk); (try clear hi)))
                                    repeat (go_quiet (first | (go_at_call 13; (with_reducible refine (ecf_Room.calls ((rd_T28 l0 x13_4).f0) ((rd_T28 l0 x13_4).f1) ((rd_T28 l0 x13_4).f2) ((rd_T28 l0 x13_4).f3) ((rd_T28 l0 x13_4).f4) a2 true _ A24.out).mono ?_); rintro e w46 ⟨rfl, hb⟩; have n0_ := Aside0.mk (below_step (by repeat (first | (with_reducible first | exact HB.out | apply below_alloc | apply pw_below_drewN | apply below_drew1) | exact HB.out)) hb); clear HB; have HB := n0_; clear n0_; (try clear hb); (try clear hb2); (try clear hk); (try clear hi))); try go_wp2_with (first | (go_at_call 13; (with_reducible refine (ecf_Room.calls ((rd_T28 l0 x13_4).f0) ((rd_T28 l0 x13_4).f1) ((rd_T28 l0 x13_4).f2) ((rd_T28 l0 x13_4).f3) ((rd_T28 l0 x13_4).f4) a2 true _ A24.out).mono ?_); rintro e w46 ⟨rfl, hb⟩; have n0_ := Aside0.mk (below_step (by repeat (first | (with_reducible first | exact HB.out | apply below_alloc | apply pw_below_drewN | apply below_drew1) | exact HB.out)) hb); clear HB; have HB := n0_; clear n0_; (try clear hb); (try clear hb2); (try clear hk); (try clear hi))))
                                    go_roundg k4
                                    case measure => have := HJ5.out; have := HJ10.out; have := HJ17.out; have := HK4.out; omega
                                    case rel => exact ⟨(wrap64 (x13_4 + 1)), (by first | rfl | (simp; done) | (simp [*]; done)), H', ⟨by have := HJ5.out; have := HJ10.out; have := HJ17.out; have := HK4.out; omega⟩, ⟨by repeat (first | (with_reducible first | exact HB.out | apply below_alloc | apply pw_below_drewN | apply below_drew1) | exact HB.out)⟩⟩
                                  · replace c45 := Bool.eq_false_iff.mpr c45
                                    subst c45
                                    have H1 : (some false) = some r := by rw [if_neg (show ¬ (false = true) by decide)] at H; exact H
                                    clear H
                                    have H := H1
                                    clear H1
                                    exact Bool.noConfusion ((Option.some.inj H).trans hr_.out)
                                · replace c44 := Bool.eq_false_iff.mpr c44
                                  subst c44
                                  have H1 : (fourinhandlaw18_EcfRoom.l0 k4 l0 a2 t151 false x12_17 (wrap64 (x13_4 + 1))) = some r := by rw [if_neg (show ¬ (false = true) by decide)] at H; exact H
                                  clear H
                                  have H := H1
                                  clear H1
                                  have H' := Aside0.mk H
                                  clear H
                                  have p153 : 0 ≤ (x13_4 : Int) := of_decide_eq_true (by first | (with_reducible assumption) | assumption)
                                  have q153 : x13_4 < (l0.length : Int) := of_decide_eq_true (by first | (with_reducible assumption) | assumption)
                                  obtain ⟨ad153, e153, hx153_0, hx153_1, hx153_2, hx153_3, hx153_4⟩ := at_T28 HR0.out x13_4 p153 q153
                                  cases e153
                                  replace hx153_0 := (HB.out.cell (World.block_lt_of_cell? w _ hx153_0)).trans hx153_0
                                  replace hx153_1 := (HB.out.cell (World.block_lt_of_cell? w _ hx153_1)).trans hx153_1
                                  replace hx153_2 := (HB.out.cell (World.block_lt_of_cell? w _ hx153_2)).trans hx153_2
                                  replace hx153_3 := (HB.out.cell (World.block_lt_of_cell? w _ hx153_3)).trans hx153_3
                                  replace hx153_4 := (HB.out.cell (World.block_lt_of_cell? w _ hx153_4)).trans hx153_4
                                  replace p153 := eq_true p153
                                  replace q153 := eq_true q153
                                  go_wp2_with (first | (go_at_call 13; (with_reducible refine (ecf_Room.calls ((rd_T28 l0 x13_4).f0) ((rd_T28 l0 x13_4).f1) ((rd_T28 l0 x13_4).f2) ((rd_T28 l0 x13_4).f3) ((rd_T28 l0 x13_4).f4) a2 false _ A24.out).mono ?_); rintro e w47 ⟨rfl, hb⟩; have n0_ := Aside0.mk (below_step (by repeat (first | (with_reducible first | exact HB.out | apply below_alloc | apply pw_below_drewN | apply below_drew1) | exact HB.out)) hb); clear HB; have HB := n0_; clear n0_; (try clear hb); (try clear hb2); (try clear hk); (try clear hi)))
                                  repeat (go_quiet (first | (go_at_call 13; (with_reducible refine (ecf_Room.calls ((rd_T28 l0 x13_4).f0) ((rd_T28 l0 x13_4).f1) ((rd_T28 l0 x13_4).f2) ((rd_T28 l0 x13_4).f3) ((rd_T28 l0 x13_4).f4) a2 false _ A24.out).mono ?_); rintro e w47 ⟨rfl, hb⟩; have n0_ := Aside0.mk (below_step (by repeat (first | (with_reducible first | exact HB.out | apply below_alloc | apply pw_below_drewN | apply below_drew1) | exact HB.out)) hb); clear HB; have HB := n0_; clear n0_; (try clear hb); (try clear hb2); (try clear hk); (try clear hi))); try go_wp2_with (first | (go_at_call 13; (with_reducible refine (ecf_Room.calls ((rd_T28 l0 x13_4).f0) ((rd_T28 l0 x13_4).f1) ((rd_T28 l0 x13_4).f2) ((rd_T28 l0 x13_4).f3) ((rd_T28 l0 x13_4).f4) a2 false _ A24.out).mono ?_); rintro e w47 ⟨rfl, hb⟩; have n0_ := Aside0.mk (below_step (by repeat (first | (with_reducible first | exact HB.out | apply below_alloc | apply pw_below_drewN | apply below_drew1) | exact HB.out)) hb); clear HB; have HB := n0_; clear n0_; (try clear hb); (try clear hb2); (try clear hk); (try clear hi))))
                                  go_roundg k4
                                  case measure => have := HJ5.out; have := HJ10.out; have := HJ17.out; have := HK4.out; omega
                                  case rel => exact ⟨(wrap64 (x13_4 + 1)), (by first | rfl | (simp; done) | (simp [*]; done)), H', ⟨by have := HJ5.out; have := HJ10.out; have := HJ17.out; have := HK4.out; omega⟩, ⟨by repeat (first | (with_reducible first | exact HB.out | apply below_alloc | apply pw_below_drewN | apply below_drew1) | exact HB.out)⟩⟩
                            · rw [if_neg c41] at H
                              have c41b0 : decide (t151 < 0) = false := decide_eq_false c41
                              clear c41
                              have H' := Aside0.mk H
                              clear H
                              have p153 : 0 ≤ (x13_4 : Int) := of_decide_eq_true (by first | (with_reducible assumption) | assumption)
                              have q153 : x13_4 < (l0.length : Int) := of_decide_eq_true (by first | (with_reducible assumption) | assumption)
                              obtain ⟨ad153, e153, hx153_0, hx153_1, hx153_2, hx153_3, hx153_4⟩ := at_T28 HR0.out x13_4 p153 q153
                              cases e153
                              replace hx153_0 := (HB.out.cell (World.block_lt_of_cell? w _ hx153_0)).trans hx153_0
                              replace hx153_1 := (HB.out.cell (World.block_lt_of_cell? w _ hx153_1)).trans hx153_1
                              replace hx153_2 := (HB.out.cell (World.block_lt_of_cell? w _ hx153_2)).trans hx153_2
                              replace hx153_3 := (HB.out.cell (World.block_lt_of_cell? w _ hx153_3)).trans hx153_3
                              replace hx153_4 := (HB.out.cell (World.block_lt_of_cell? w _ hx153_4)).trans hx153_4
                              replace p153 := eq_true p153
                              replace q153 := eq_true q153
                              go_wp2_with (first | (go_at_call 13; (with_reducible refine (ecf_Room.calls ((rd_T28 l0 x13_4).f0) ((rd_T28 l0 x13_4).f1) ((rd_T28 l0 x13_4).f2) ((rd_T28 l0 x13_4).f3) ((rd_T28 l0 x13_4).f4) a2 t154 _ A24.out).mono ?_); rintro e w48 ⟨rfl, hb⟩; have n0_ := Aside0.mk (below_step (by repeat (first | (with_reducible first | exact HB.out | apply below_alloc | apply pw_below_drewN | apply below_drew1) | exact HB.out)) hb); clear HB; have HB := n0_; clear n0_; (try clear hb); (try clear hb2); (try clear hk); (try clear hi)))
                              repeat (go_quiet (first | (go_at_call 13; (with_reducible refine (ecf_Room.calls ((rd_T28 l0 x13_4).f0) ((rd_T28 l0 x13_4).f1) ((rd_T28 l0 x13_4).f2) ((rd_T28 l0 x13_4).f3) ((rd_T28 l0 x13_4).f4) a2 t154 _ A24.out).mono ?_); rintro e w48 ⟨rfl, hb⟩; have n0_ := Aside0.mk (below_step (by repeat (first | (with_reducible first | exact HB.out | apply below_alloc | apply pw_below_drewN | apply below_drew1) | exact HB.out)) hb); clear HB; have HB := n0_; clear n0_; (try clear hb); (try clear hb2); (try clear hk); (try clear hi))); try go_wp2_with (first | (go_at_call 13; (with_reducible refine (ecf_Room.calls ((rd_T28 l0 x13_4).f0) ((rd_T28 l0 x13_4).f1) ((rd_T28 l0 x13_4).f2) ((rd_T28 l0 x13_4).f3) ((rd_T28 l0 x13_4).f4) a2 t154 _ A24.out).mono ?_); rintro e w48 ⟨rfl, hb⟩; have n0_ := Aside0.mk (below_step (by repeat (first | (with_reducible first | exact HB.out | apply below_alloc | apply pw_below_drewN | apply below_drew1) | exact HB.out)) hb); clear HB; have HB := n0_; clear n0_; (try clear hb); (try clear hb2); (try clear hk); (try clear hi))))
                              go_roundg k4
                              case measure => have := HJ5.out; have := HJ10.out; have := HJ17.out; have := HK4.out; omega
                              case rel => exact ⟨(wrap64 (x13_4 + 1)), (by first | rfl | (simp; done) | (simp [*]; done)), H', ⟨by have := HJ5.out; have := HJ10.out; have := HJ17.out; have := HK4.out; omega⟩, ⟨by repeat (first | (with_reducible first | exact HB.out | apply below_alloc | apply pw_below_drewN | apply below_drew1) | exact HB.out)⟩⟩
                        · rw [if_neg c23] at H
                          exact absurd H (by simp)
                      · rw [if_neg c22] at H
                        have c22b0 : decide (x13_4 < (l0.length : Int)) = false := decide_eq_false c22
                        clear c22
                        by_cases c49 : t151 < 0
                        · rw [if_pos c49] at H
                          have c49b0 : decide (t151 < 0) = true := decide_eq_true c49
                          clear c49
                          obtain rfl := Option.some.inj H
                          go_wp2
                          repeat (go_quiet (fail); try go_wp2)
                          go_ret
                          exact ⟨by first | rfl | (simp [errW_none, errW_some] <;> rfl) | (simp [*, errW_none, errW_some] <;> rfl), by repeat (first | (with_reducible first | exact HB.out | apply below_alloc | apply pw_below_drewN | apply below_drew1) | exact HB.out)⟩
                        · rw [if_neg c49] at H
                          have c49b0 : decide (t151 < 0) = false := decide_eq_false c49
                          clear c49
                          by_cases c50 : 0 ≤ t151
                          · rw [if_pos c50] at H
                            have c50b0 : decide (0 ≤ t151) = true := decide_eq_true c50
                            clear c50
                            by_cases c51 : t151 < (l0.length : Int)
                            · rw [if_pos c51] at H
                              have c51b0 : decide (t151 < (l0.length : Int)) = true := decide_eq_true c51
                              clear c51
                              replace H := Option.bind_eq_some_iff.mp H
                              obtain ⟨t158, A520, H⟩ := H
                              replace H : (if t158 = true then (some (!x12_17)) else (some false)) = some r := H
                              have A52 := Aside0.mk A520
                              clear A520
                              by_cases c53 : t158 = true
                              · subst c53
                                have H1 : (some (!x12_17)) = some r := by rw [if_pos rfl] at H; exact H
                                clear H
                                have H := H1
                                clear H1
                                obtain rfl := Option.some.inj H
                                have p157 : 0 ≤ (t151 : Int) := of_decide_eq_true (by first | (with_reducible assumption) | assumption)
                                have q157 : t151 < (l0.length : Int) := of_decide_eq_true (by first | (with_reducible assumption) | assumption)
                                obtain ⟨ad157, e157, hx157_0, hx157_1, hx157_2, hx157_3, hx157_4⟩ := at_T28 HR0.out t151 p157 q157
                                cases e157
                                replace hx157_0 := (HB.out.cell (World.block_lt_of_cell? w _ hx157_0)).trans hx157_0
                                replace hx157_1 := (HB.out.cell (World.block_lt_of_cell? w _ hx157_1)).trans hx157_1
                                replace hx157_2 := (HB.out.cell (World.block_lt_of_cell? w _ hx157_2)).trans hx157_2
                                replace hx157_3 := (HB.out.cell (World.block_lt_of_cell? w _ hx157_3)).trans hx157_3
                                replace hx157_4 := (HB.out.cell (World.block_lt_of_cell? w _ hx157_4)).trans hx157_4
                                replace p157 := eq_true p157
                                replace q157 := eq_true q157
                                go_wp2_with (first | (go_at_call 13; (with_reducible refine (ecf_Room.calls ((rd_T28 l0 t151).f0) ((rd_T28 l0 t151).f1) ((rd_T28 l0 t151).f2) ((rd_T28 l0 t151).f3) ((rd_T28 l0 t151).f4) a2 true _ A52.out).mono ?_); rintro e w54 ⟨rfl, hb⟩; have n0_ := Aside0.mk (below_step (by repeat (first | (with_reducible first | exact HB.out | apply below_alloc | apply pw_below_drewN | apply below_drew1) | exact HB.out)) hb); clear HB; have HB := n0_; clear n0_; (try clear hb); (try clear hb2); (try clear hk); (try clear hi)))
                                repeat (go_quiet (first | (go_at_call 13; (with_reducible refine (ecf_Room.calls ((rd_T28 l0 t151).f0) ((rd_T28 l0 t151).f1) ((rd_T28 l0 t151).f2) ((rd_T28 l0 t151).f3) ((rd_T28 l0 t151).f4) a2 true _ A52.out).mono ?_); rintro e w54 ⟨rfl, hb⟩; have n0_ := Aside0.mk (below_step (by repeat (first | (with_reducible first | exact HB.out | apply below_alloc | apply pw_below_drewN | apply below_drew1) | exact HB.out)) hb); clear HB; have HB := n0_; clear n0_; (try clear hb); (try clear hb2); (try clear hk); (try clear hi))); try go_wp2_with (first | (go_at_call 13; (with_reducible refine (ecf_Room.calls ((rd_T28 l0 t151).f0) ((rd_T28 l0 t151).f1) ((rd_T28 l0 t151).f2) ((rd_T28 l0 t151).f3) ((rd_T28 l0 t151).f4) a2 true _ A52.out).mono ?_); rintro e w54 ⟨rfl, hb⟩; have n0_ := Aside0.mk (below_step (by repeat (first | (with_reducible first | exact HB.out | apply below_alloc | apply pw_below_drewN | apply below_drew1) | exact HB.out)) hb); clear HB; have HB := n0_; clear n0_; (try clear hb); (try clear hb2); (try clear hk); (try clear hi))))
                                go_ret
                                exact ⟨by first | rfl | (simp [errW_none, errW_some] <;> rfl) | (simp [*, errW_none, errW_some] <;> rfl), by repeat (first | (with_reducible first | exact HB.out | apply below_alloc | apply pw_below_drewN | apply below_drew1) | exact HB.out)⟩
                              · replace c53 := Bool.eq_false_iff.mpr c53
                                subst c53
                                have H1 : (some false) = some r := by rw [if_neg (show ¬ (false = true) by decide)] at H; exact H
                                clear H
                                have H := H1
                                clear H1
                                exact Bool.noConfusion ((Option.some.inj H).trans hr_.out)
                            · rw [if_neg c51] at H
                              exact absurd H (by simp)
                          · rw [if_neg c50] at H
                            exact absurd H (by simp)

end Go.Proofs.Ytjdjliaachcofaa.PEcfRoom
