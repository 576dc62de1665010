/- With what may not be nothing comes, and no sample is taken; bytes in no time are none: for every input, without a condition. -/
import Derived.Test.YtfdaaodpbaikdaaPRateWrongx4
import Derived.Test.YtfdaaodpbaikdaaStmtRateWrong
import Derived.Laws.BitsLemmas
import Derived.Laws.Bits64
namespace Go.Proofs.Ytfdaaodpbaikdaa.Pure
open Go.RowKit Go.Proofs.Ytfdaaodpbaikdaa.PRateWrong Go.Proofs.YtfdaaodpbaikdaaW.PrintWords Go.Proofs.YtfdaaodpbaikdaaW.PrintLast Go.Proofs.YtfdaaodpbaikdaaW.PrintMore
/-! ### bits and words of 64 bits -/
theorem wraps_u64 (n : Int) (h0 : 0 ≤ n) (h1 : n < 2 ^ 64) : IntKind.u64.wrap n = n := by rw [IntKind.wrap_u64]; omega
theorem and_low32 (x : Int) (h0 : 0 ≤ x) (h1 : x < 18446744073709551616) : Go.bits .and .u64 x 4294967295 = x % 4294967296 :=
  bits_mask .u64 64 (by decide) wraps_u64 32 (by decide) x h0 h1
theorem and_one (x : Int) (h0 : 0 ≤ x) (h1 : x < 18446744073709551616) : Go.bits .and .u64 x 1 = x % 2 :=
  bits_mask .u64 64 (by decide) wraps_u64 1 (by decide) x h0 h1
theorem or_low32 (x y : Int) (h0 : 0 ≤ x) (h1 : x < 18446744073709551616) (h2 : x % 4294967296 = 0) (h3 : 0 ≤ y) (h4 : y < 4294967296) : Go.bits .or .u64 x y = x + y :=
  bits_join .u64 64 (by decide) wraps_u64 32 x y h0 h2 h1 h3 h4 (by omega)
theorem or_one (x y : Int) (h0 : 0 ≤ x) (h1 : x < 18446744073709551616) (h2 : x % 2 = 0) (h3 : 0 ≤ y) (h4 : y < 2) : Go.bits .or .u64 x y = x + y :=
  bits_join .u64 64 (by decide) wraps_u64 1 x y h0 h2 h1 h3 h4 (by omega)
theorem wrap64_id (n : Int) (h0 : -9223372036854775808 ≤ n) (h1 : n < 9223372036854775808) : wrap64 n = n := by unfold wrap64; omega

/-! ### the number's range -/
def InR (a : Int) : Prop := -4611686018427387904 ≤ a ∧ a ≤ 4611686018427387904
instance (a : Int) : Decidable (InR a) := inferInstanceAs (Decidable (_ ∧ _))
theorem In_f (a : Int) : fix_In.f a = some (decide (InR a)) := by
  unfold fix_In.f
  by_cases h : a ≥ (-4611686018427387904)
  · rw [if_pos h]; exact congrArg some (decide_eq_decide.mpr ⟨fun h' => ⟨h, h'⟩, fun h' => h'.2⟩)
  · rw [if_neg h]; exact congrArg some (decide_eq_false (fun h' => h h'.1)).symm
theorem size_f (a : Int) (h : InR a) : fix_size.f a = some (if a < 0 then -a else a, decide (a < 0)) := by
  unfold fix_size.f
  unfold InR at h
  by_cases h0 : a < 0
  · rw [if_pos h0, if_pos h0, wrap64_id _ (by omega) (by omega), wraps_u64 _ (by omega) (by omega)]; simp [h0]
  · rw [if_neg h0, if_neg h0, wraps_u64 _ (by omega) (by omega)]; simp [h0]

/-! ### the product of 128 bits -/
theorem mul_le_of (a b A B : Int) (h0 : 0 ≤ a) (h1 : a ≤ A) (h2 : 0 ≤ b) (h3 : b ≤ B) : 0 ≤ a * b ∧ a * b ≤ A * B :=
  ⟨Int.mul_nonneg h0 h2, Int.mul_le_mul h1 h3 h2 (by omega)⟩
theorem product_f (x y : Int) (hx0 : 0 ≤ x) (hx : x ≤ 4611686018427387904) (hy0 : 0 ≤ y) (hy : y ≤ 4611686018427387904) :
    fix_product.f x y = some (x * y / 18446744073709551616, x * y % 18446744073709551616) := by
  unfold fix_product.f
  rw [and_low32 x hx0 (by omega), and_low32 y hy0 (by omega)]
  obtain ⟨xh, hxh⟩ : ∃ z, x / 4294967296 = z := ⟨_, rfl⟩
  obtain ⟨xl, hxl⟩ : ∃ z, x % 4294967296 = z := ⟨_, rfl⟩
  obtain ⟨yh, hyh⟩ : ∃ z, y / 4294967296 = z := ⟨_, rfl⟩
  obtain ⟨yl, hyl⟩ : ∃ z, y % 4294967296 = z := ⟨_, rfl⟩
  rw [hxh, hxl, hyh, hyl]
  have ex : x = xh * 4294967296 + xl := by omega
  have ey : y = yh * 4294967296 + yl := by omega
  have b1 : 0 ≤ xh ∧ xh ≤ 1073741824 ∧ 0 ≤ xl ∧ xl ≤ 4294967295 := by omega
  have b2 : 0 ≤ yh ∧ yh ≤ 1073741824 ∧ 0 ≤ yl ∧ yl ≤ 4294967295 := by omega
  have exy : x * y = xh * yh * 18446744073709551616 + (xh * yl + xl * yh) * 4294967296 + xl * yl := by
    rw [ex, ey]; grind
  have bA := mul_le_of xh yh 1073741824 1073741824 b1.1 b1.2.1 b2.1 b2.2.1
  have bB := mul_le_of xh yl 1073741824 4294967295 b1.1 b1.2.1 b2.2.2.1 b2.2.2.2
  have bC := mul_le_of xl yh 4294967295 1073741824 b1.2.2.1 b1.2.2.2 b2.1 b2.2.1
  have bP := mul_le_of xl yl 4294967295 4294967295 b1.2.2.1 b1.2.2.2 b2.2.2.1 b2.2.2.2
  rw [exy]
  clear exy ex ey hxh hxl hyh hyl b1 b2
  generalize xh * yh = A at *
  generalize xh * yl = B at *
  generalize xl * yh = C at *
  generalize xl * yl = P at *
  rw [wraps_u64 A (by omega) (by omega), wraps_u64 B (by omega) (by omega), wraps_u64 C (by omega) (by omega), wraps_u64 P (by omega) (by omega)]
  rw [wraps_u64 (B + P / 4294967296) (by omega) (by omega), and_low32 (B + P / 4294967296) (by omega) (by omega), and_low32 P (by omega) (by omega)]
  rw [wraps_u64 (C + (B + P / 4294967296) % 4294967296) (by omega) (by omega)]
  rw [wraps_u64 (A + (B + P / 4294967296) / 4294967296) (by omega) (by omega)]
  rw [wraps_u64 (A + (B + P / 4294967296) / 4294967296 + (C + (B + P / 4294967296) % 4294967296) / 4294967296) (by omega) (by omega)]
  rw [IntKind.wrap_u64 ((C + (B + P / 4294967296) % 4294967296) * 4294967296)]
  rw [or_low32 _ _ (by omega) (by omega) (by omega) (by omega) (by omega)]
  simp only [Option.some.injEq, Prod.mk.injEq]
  constructor <;> omega

/-! ### the long division -/
theorem mod_two_pow_succ (m n : Nat) : m % 2 ^ (n + 1) = m / 2 ^ n % 2 * 2 ^ n + m % 2 ^ n := by
  rw [Nat.mod_pow_succ, Nat.mul_comm, Nat.add_comm]
theorem by_loop (c : Int) (hc1 : 1 ≤ c) (hc : c ≤ 4611686018427387904) (hi : Int) (m : Nat) (hm : m < 2 ^ 64) : ∀ (n : Nat), n ≤ 64 → ∀ (k : Nat), n < k → ∀ (q r : Int), 0 ≤ r → r < c → 0 ≤ q → q < 2 ^ (64 - n) →
    ∃ q' r', fix_wide_by.l0 k c q r ((n : Int) - 1) hi m = some (q', r') ∧ 0 ≤ r' ∧ r' < c ∧ 0 ≤ q' ∧ q' * c + r' = (q * c + r) * 2 ^ n + (m % 2 ^ n : Nat) := by
  intro n
  induction n with
  | zero =>
    intro _ k hk q r h0 h1 h2 h3
    obtain ⟨k, rfl⟩ : ∃ j, k = j + 1 := ⟨k - 1, by omega⟩
    refine ⟨q, r, ?_, h0, h1, h2, by simp [Nat.mod_one]⟩
    simp only [fix_wide_by.l0]
    rw [if_neg (by omega)]
  | succ n ih =>
    intro hn k hk q r h0 h1 h2 h3
    obtain ⟨k, rfl⟩ : ∃ j, k = j + 1 := ⟨k - 1, by omega⟩
    have hq2 : q * 2 + 1 < 2 ^ (64 - n) := by
      have e : (64 - n) = (64 - (n + 1)) + 1 := by omega
      rw [e, Int.pow_succ]; omega
    have hpow : (2 : Int) ^ (64 - n) ≤ 18446744073709551616 := by
      have h1 : (2 : Nat) ^ (64 - n) ≤ 18446744073709551616 := Nat.pow_le_pow_right (n := 2) (j := 64) (by decide) (by omega)
      have h2 : (2 : Int) ^ (64 - n) = ((2 ^ (64 - n) : Nat) : Int) := by simp
      rw [h2]; omega
    have e1 : ((n + 1 : Nat) : Int) - 1 = (n : Int) := by omega
    rw [e1, fix_wide_by.l0]
    rw [if_pos (by omega), if_pos (by omega)]
    have e2 : shr .u64 (m : Int) (n : Int) = ((m / 2 ^ n : Nat) : Int) := by
      unfold shr
      have : min ((n : Int)).toNat IntKind.u64.bits = n := by simp [IntKind.bits]; omega
      rw [this]; simp
    have hb : m / 2 ^ n ≤ m := Nat.div_le_self _ _
    rw [e2]
    generalize hM : m / 2 ^ n = M at *
    rw [and_one _ (by omega) (by omega)]
    have e3 : (M : Int) % 2 = ((M % 2 : Nat) : Int) := by omega
    rw [e3]
    have hs := mod_two_pow_succ m n
    rw [hM] at hs
    have hbit : M % 2 < 2 := Nat.mod_lt _ (by decide)
    generalize M % 2 = b at *
    rw [wraps_u64 (r * 2) (by omega) (by omega), wraps_u64 (q * 2) (by omega) (by omega)]
    rw [or_one (r * 2) b (by omega) (by omega) (by omega) (by omega) (by omega), or_one (q * 2) 1 (by omega) (by omega) (by omega) (by omega) (by omega)]
    rw [wrap64_id ((n : Int) - 1) (by omega) (by omega)]
    by_cases hge : r * 2 + (b : Int) ≥ c
    · rw [if_pos hge, wraps_u64 (r * 2 + b - c) (by omega) (by omega)]
      obtain ⟨q', r', he, a1, a2, a3, a4⟩ := ih (by omega) k (by omega) (q * 2 + 1) (r * 2 + b - c) (by omega) (by omega) (by omega) hq2
      refine ⟨q', r', he, a1, a2, a3, ?_⟩
      rw [a4, hs]
      simp only [Int.natCast_add, Int.natCast_mul, Int.pow_succ, Int.natCast_pow]
      grind
    · rw [if_neg hge]
      obtain ⟨q', r', he, a1, a2, a3, a4⟩ := ih (by omega) k (by omega) (q * 2) (r * 2 + b) (by omega) (by omega) (by omega) (by omega)
      refine ⟨q', r', he, a1, a2, a3, ?_⟩
      rw [a4, hs]
      simp only [Int.natCast_add, Int.natCast_mul, Int.pow_succ, Int.natCast_pow]
      grind
theorem by_f (k : Nat) (hk : 64 < k) (p c : Int) (hc1 : 1 ≤ c) (hc : c ≤ 4611686018427387904) (hp0 : 0 ≤ p) (hp : p / 18446744073709551616 < c) :
    fix_wide_by.f k (p / 18446744073709551616) (p % 18446744073709551616) c = some (p / c, p % c) := by
  obtain ⟨m, hm⟩ : ∃ m : Nat, p % 18446744073709551616 = m := ⟨(p % 18446744073709551616).toNat, by omega⟩
  have hm2 : m < 2 ^ 64 := by omega
  obtain ⟨q, r, he, a1, a2, a3, a4⟩ := by_loop c hc1 hc (p / 18446744073709551616) m hm2 64 (by omega) k hk 0 (p / 18446744073709551616) (by omega) hp (by omega) (by decide)
  unfold fix_wide_by.f
  rw [hm]
  refine he.trans ?_
  rw [Nat.mod_eq_of_lt hm2] at a4
  have e : q * c + r = p := by
    have : (2 : Int) ^ 64 = 18446744073709551616 := by decide
    rw [this] at a4
    omega
  have e2 : p / c = q := by
    rw [← e, Int.add_comm, Int.add_mul_ediv_right _ _ (by omega), Int.ediv_eq_zero_of_lt a1 a2]; omega
  have e3 : p % c = r := by
    rw [← e, Int.add_comm, Int.add_mul_emod_self_right, Int.emod_eq_of_lt a1 a2]
  rw [e2, e3]

/-! ### MulDiv -/
def MD (a b c : Int) : Int × Bool := if InR a ∧ InR b ∧ InR c ∧ 1 ≤ c ∧ InR (a * b / c) then (a * b / c, true) else (0, false)
theorem ediv_neg_floor (p c : Int) (hc : 1 ≤ c) : (-p) / c = if p % c > 0 then -(p / c + 1) else -(p / c) := by
  have h1 := Int.emod_add_mul_ediv p c
  have h2 := Int.emod_nonneg p (show c ≠ 0 by omega)
  have h3 := Int.emod_lt_of_pos p (show 0 < c by omega)
  split
  · rename_i h
    have : -p = (c - p % c) + c * (-(p / c + 1)) := by grind
    rw [this, Int.add_mul_ediv_left _ _ (by omega), Int.ediv_eq_zero_of_lt (by omega) (by omega)]; omega
  · rename_i h
    have : -p = 0 + c * (-(p / c)) := by grind
    rw [this, Int.add_mul_ediv_left _ _ (by omega)]; simp
theorem MulDiv_f (k : Nat) (hk : 100 ≤ k) (a b c : Int) : fix_MulDiv.f k a b c = some (MD a b c) := by
  obtain ⟨k, rfl⟩ : ∃ j, k = j + 4 := ⟨k - 4, by omega⟩
  unfold fix_MulDiv.f MD
  rw [In_f, In_f, In_f]
  simp only [Option.bind_some, decide_eq_true_eq]
  by_cases ha : ¬ InR a
  · rw [if_neg ha, if_neg (fun h => ha h.1)]; simp [fix_MulDiv.j0]
  by_cases hb : ¬ InR b
  · rw [if_pos (Decidable.not_not.mp ha), if_neg hb, if_neg (fun h => hb h.2.1)]; simp [fix_MulDiv.j0]
  by_cases hc : ¬ InR c
  · rw [if_pos (Decidable.not_not.mp ha), if_pos (Decidable.not_not.mp hb), if_neg hc, if_neg (fun h => hc h.2.2.1)]; simp [fix_MulDiv.j0]
  replace ha := Decidable.not_not.mp ha
  replace hb := Decidable.not_not.mp hb
  replace hc := Decidable.not_not.mp hc
  rw [if_pos ha, if_pos hb, if_pos hc]
  by_cases hc1 : c < 1
  · rw [if_neg (fun h => by omega)]; simp [fix_MulDiv.j0, hc1]
  simp only [fix_MulDiv.j0, hc1, decide_false, Bool.false_eq_true, if_false]
  rw [size_f a ha, size_f b hb]
  simp only [Option.bind_some]
  obtain ⟨x, hx⟩ : ∃ x, (if a < 0 then -a else a) = x := ⟨_, rfl⟩
  obtain ⟨y, hy⟩ : ∃ y, (if b < 0 then -b else b) = y := ⟨_, rfl⟩
  rw [hx, hy]
  unfold InR at ha hb hc
  have hx0 : 0 ≤ x ∧ x ≤ 4611686018427387904 := by split at hx <;> omega
  have hy0 : 0 ≤ y ∧ y ≤ 4611686018427387904 := by split at hy <;> omega
  rw [product_f x y hx0.1 hx0.2 hy0.1 hy0.2]
  simp only [Option.bind_some]
  rw [wraps_u64 c (by omega) (by omega)]
  have hp0 : 0 ≤ x * y := Int.mul_nonneg hx0.1 hy0.1
  -- the signed product
  have hs : a * b = if (decide (a < 0) != decide (b < 0)) = true then -(x * y) else x * y := by
    by_cases h1 : a < 0 <;> by_cases h2 : b < 0 <;> simp [h1, h2] at hx hy ⊢ <;> subst hx <;> subst hy <;> grind
  have hce : c * (x * y / c) ≤ x * y := by
    have := Int.emod_add_mul_ediv (x * y) c
    have := Int.emod_nonneg (x * y) (show c ≠ 0 by omega)
    omega
  have hq0 : 0 ≤ x * y / c := Int.ediv_nonneg hp0 (by omega)
  by_cases hbig : x * y / 18446744073709551616 ≥ c
  · rw [if_pos hbig]
    -- the quotient has more than 64 bits
    have hq : 18446744073709551616 ≤ x * y / c := by
      rw [Int.le_ediv_iff_mul_le (by omega)]
      omega
    rw [if_neg]
    rintro ⟨_, _, _, _, h⟩
    unfold InR at h
    rw [hs] at h
    split at h
    · rw [ediv_neg_floor _ _ (by omega)] at h
      split at h <;> omega
    · omega
  · rw [if_neg hbig, by_f _ (by omega) (x * y) c (by omega) (by omega) hp0 (by omega)]
    simp only [Option.bind_some]
    have hq1 : x * y / c < 18446744073709551616 := by
      rw [Int.ediv_lt_iff_lt_mul (by omega)]
      omega
    have hInR : ∀ z : Int, InR z ↔ (-4611686018427387904 ≤ z ∧ z ≤ 4611686018427387904) := fun _ => Iff.rfl
    by_cases hd : (decide (a < 0) != decide (b < 0)) = true
    · rw [if_pos hd] at hs ⊢
      rw [hs, ediv_neg_floor _ _ (by omega)]
      by_cases hr : x * y % c > 0
      · rw [if_pos hr, if_pos hr]
        simp only [fix_MulDiv.j1, fix_MulDiv.j2, hd, if_true]
        by_cases hle : x * y / c ≤ 4611686018427387904
        · rw [if_pos (by simpa using hle), wraps_u64 _ (by omega) (by omega)]
          by_cases hgt : x * y / c + 1 > 4611686018427387904
          · rw [if_pos hgt, if_neg (by simp only [hInR]; omega)]
          · rw [if_neg hgt, if_pos (by simp only [hInR]; omega), wrap64_id (x * y / c + 1) (by omega) (by omega), wrap64_id _ (by omega) (by omega)]
        · rw [if_neg (by simpa using hle), if_pos (by omega), if_neg (by simp only [hInR]; omega)]
      · rw [if_neg hr, if_neg hr]
        simp only [fix_MulDiv.j1, fix_MulDiv.j2, hd, if_true, Bool.false_eq_true, if_false]
        by_cases hgt : x * y / c > 4611686018427387904
        · rw [if_pos hgt, if_neg (by simp only [hInR]; omega)]
        · rw [if_neg hgt, if_pos (by simp only [hInR]; omega), wrap64_id (x * y / c) (by omega) (by omega), wrap64_id _ (by omega) (by omega)]
    · rw [if_neg hd] at hs ⊢
      rw [hs]
      simp only [fix_MulDiv.j1, fix_MulDiv.j2, hd, Bool.false_eq_true, if_false]
      by_cases hgt : x * y / c > 4611686018427387904
      · rw [if_pos hgt, if_neg (by simp only [hInR]; omega)]
      · rw [if_neg hgt, if_pos (by simp only [hInR]; omega), wrap64_id (x * y / c) (by omega) (by omega)]

/-! ### what MulDiv tells -/
theorem MD_yes {a b c : Int} (h : InR a ∧ InR b ∧ InR c ∧ 1 ≤ c ∧ InR (a * b / c)) : MD a b c = (a * b / c, true) := if_pos h
theorem MD_no {a b c : Int} (h : ¬ (InR a ∧ InR b ∧ InR c ∧ 1 ≤ c ∧ InR (a * b / c))) : MD a b c = (0, false) := if_neg h
theorem InR_one : InR 1 := by decide
theorem div_between (p c : Int) (hc : 1 ≤ c) : (0 ≤ p → 0 ≤ p / c ∧ p / c ≤ p) ∧ (p ≤ 0 → p ≤ p / c ∧ p / c ≤ 0) := by
  refine ⟨fun h => ⟨Int.ediv_nonneg h (by omega), Int.ediv_le_self _ h⟩, fun h => ⟨?_, ?_⟩⟩
  · rw [Int.le_ediv_iff_mul_le (by omega)]
    have := Int.mul_le_mul_of_nonpos_left h hc
    rw [Int.mul_one] at this
    exact this
  · have := Int.ediv_le_ediv (c := c) (by omega) h
    rwa [Int.zero_ediv] at this
theorem InR_div {p c : Int} (hp : InR p) (hc : 1 ≤ c) : InR (p / c) := by
  have := div_between p c hc
  unfold InR at *
  rcases Int.le_total 0 p with h | h
  · have := this.1 h; omega
  · have := this.2 h; omega
theorem div_left (p c : Int) (hc : 1 ≤ c) : p / c * c ≤ p ∧ p < p / c * c + c := by
  have h1 := Int.emod_add_mul_ediv p c
  have h2 := Int.emod_nonneg p (show c ≠ 0 by omega)
  have h3 := Int.emod_lt_of_pos p (show 0 < c by omega)
  rw [Int.mul_comm] at h1
  omega

/-! ### rates -/
def RIn (x : Int) : Prop := 0 ≤ x ∧ x ≤ 1152921504606846976
instance (x : Int) : Decidable (RIn x) := inferInstanceAs (Decidable (_ ∧ _))
def RtMay (t l : Int) (L : List Int) : Prop := RIn t ∧ RIn l ∧ L.length ≤ 10 ∧ ∀ x ∈ L, RIn x
instance (t l : Int) (L : List Int) : Decidable (RtMay t l L) := inferInstanceAs (Decidable (_ ∧ _))
theorem rin_f (a b c : Int) : rate_in.f a b c = some (decide (b ≤ a ∧ a ≤ c)) := by
  unfold rate_in.f
  by_cases h : a ≥ b
  · rw [if_pos h]; exact congrArg some (decide_eq_decide.mpr ⟨fun h' => ⟨h, h'⟩, fun h' => h'.2⟩)
  · rw [if_neg h]; exact congrArg some (decide_eq_false (fun h' => h h'.1)).symm
theorem off_f (a : Int) : rate_May_1.f a = some (!decide (RIn a)) := by
  unfold rate_May_1.f
  rw [rin_f]; rfl
theorem rd_drop (L : List Int) (n : Nat) (h : n < L.length) : L.drop n = rd L (n : Int) :: L.drop (n + 1) := by
  unfold rd
  rw [List.drop_eq_getElem_cons h]
  simp [List.getD, List.getElem?_eq_getElem h]
theorem index_loop (L : List Int) (hl : L.length ≤ 100) : ∀ (j k n : Nat), n + j = L.length → j < k → ∃ r, slices_IndexFunc_int_int.l0 k L (L.length : Int) (n : Int) = some r ∧ decide (r ≥ 0) = (L.drop n).any (fun x => !decide (RIn x)) := by
  intro j
  induction j with
  | zero =>
    intro k n hn hk
    obtain ⟨k, rfl⟩ : ∃ m, k = m + 1 := ⟨k - 1, by omega⟩
    rw [slices_IndexFunc_int_int.l0, if_neg (show ¬ (n : Int) < (L.length : Int) by omega), List.drop_eq_nil_of_le (by omega)]
    exact ⟨_, rfl, rfl⟩
  | succ j ih =>
    intro k n hn hk
    obtain ⟨k, rfl⟩ : ∃ m, k = m + 1 := ⟨k - 1, by omega⟩
    have e1 : (n : Int) + 1 = ((n + 1 : Nat) : Int) := by omega
    have c1 : (n : Int) < (L.length : Int) := by omega
    have c2 : 0 ≤ (n : Int) := by omega
    rw [slices_IndexFunc_int_int.l0]
    simp only [c1, c2, if_true, off_f, Option.bind_some]
    rw [rd_drop L n (by omega), List.any_cons]
    by_cases h : RIn (rd L (n : Int))
    · rw [decide_eq_true h, if_neg (by decide), wrap64_id ((n : Int) + 1) (by omega) (by omega), e1]
      obtain ⟨r, h1, h2⟩ := ih k (n + 1) (by omega) (by omega)
      exact ⟨r, h1, by rw [h2]; rfl⟩
    · rw [decide_eq_false h, if_pos (by decide)]
      exact ⟨_, rfl, by rw [decide_eq_true c2]; rfl⟩
theorem contains_f (k : Nat) (hk : 101 ≤ k) (L : List Int) (hl : L.length ≤ 100) : slices_ContainsFunc_int_int.f k L = some (L.any (fun x => !decide (RIn x))) := by
  unfold slices_ContainsFunc_int_int.f slices_IndexFunc_int_int.f
  obtain ⟨r, h1, h2⟩ := index_loop L hl L.length k 0 (by omega) (by omega)
  rw [show ((0 : Nat) : Int) = 0 from rfl] at h1
  rw [h1, Option.bind_some, h2]; rfl
theorem any_off (L : List Int) : (!L.any (fun x => !decide (RIn x))) = decide (∀ x ∈ L, RIn x) := by
  rw [Bool.eq_iff_iff]
  simp
theorem rtMay_f (k : Nat) (hk : 101 ≤ k) (t l : Int) (L : List Int) : rate_May.f k t l L = some (decide (RtMay t l L)) := by
  unfold rate_May.f
  rw [off_f, off_f]
  simp only [Option.bind_some]
  have no : ¬ RtMay t l L → some false = some (decide (RtMay t l L)) := fun h => congrArg some (decide_eq_false h).symm
  by_cases h1 : RIn t
  · rw [decide_eq_true h1, if_neg (by decide)]
    by_cases h2 : RIn l
    · rw [decide_eq_true h2, if_neg (by decide)]
      by_cases h3 : (L.length : Int) ≤ 10
      · rw [if_pos h3, contains_f k hk L (by omega), Option.bind_some, any_off]
        exact congrArg some (decide_eq_decide.mpr ⟨fun h => ⟨h1, h2, by omega, h⟩, fun h => h.2.2.2⟩)
      · rw [if_neg h3]; exact no (fun h => h3 (by have := h.2.2.1; omega))
    · rw [decide_eq_false h2, if_pos (by decide)]; exact no (fun h => h2 h.2.1)
  · rw [decide_eq_false h1, if_pos (by decide)]; exact no (fun h => h1 h.1)
theorem clone_f (L : List Int) (h : L.length ≤ 10) : slices_Clone_int_int.f L = some L := by
  unfold slices_Clone_int_int.f
  simp only [Option.bind_some, List.nil_append, List.length_nil]
  rw [if_pos (by omega)]
def CameFine (t l : Int) (L : List Int) (a b : Int) : Prop := RtMay t l L ∧ (l ≤ a ∧ a ≤ 1152921504606846976) ∧ (0 ≤ b ∧ b ≤ 1099511627776)
instance (t l : Int) (L : List Int) (a b : Int) : Decidable (CameFine t l L a b) := inferInstanceAs (Decidable (_ ∧ _))
theorem Came_no (k : Nat) (hk : 101 ≤ k) {t l : Int} {L : List Int} {a b : Int} (h : ¬ CameFine t l L a b) : rate_Came.f k t l L a b = some (0, 0, [], 1) := by
  obtain ⟨k, rfl⟩ : ∃ m, k = m + 1 := ⟨k - 1, by omega⟩
  unfold rate_Came.f
  have bad : rate_Came.j0 (k + 1) a b true t l L = some (0, 0, [], 1) := by rw [rate_Came.j0, if_pos rfl]
  rw [rtMay_f (k + 1) hk, rin_f, rin_f]
  simp only [Option.bind_some, decide_eq_true_eq]
  by_cases h1 : RtMay t l L
  · rw [if_pos h1]
    by_cases h2 : l ≤ a ∧ a ≤ 1152921504606846976
    · rw [if_pos h2, decide_eq_false (fun h3 => h ⟨h1, h2, h3⟩)]; exact bad
    · rw [if_neg h2, decide_eq_false h2]; exact bad
  · rw [if_neg h1, decide_eq_false h1]; exact bad
theorem Came_fine (k : Nat) (hk : 101 ≤ k) {t l : Int} {L : List Int} {a b : Int} (h : CameFine t l L a b) : rate_Came.f k t l L a b = if t + b > 1152921504606846976 then some (0, 0, [], 5) else some (t + b, a, L, 0) := by
  obtain ⟨k, rfl⟩ : ∃ m, k = m + 1 := ⟨k - 1, by omega⟩
  obtain ⟨h1, h2, h3⟩ := h
  have ht := h1.1
  unfold RIn at ht
  unfold rate_Came.f
  rw [rtMay_f (k + 1) hk, rin_f, rin_f]
  simp only [Option.bind_some, decide_eq_true_eq]
  rw [if_pos h1, if_pos h2, decide_eq_true h3, rate_Came.j0, if_neg (by decide), wrap64_id (t + b) (by omega) (by omega), clone_f L h1.2.2.1, Option.bind_some]
theorem Came_over (k : Nat) (hk : 101 ≤ k) {t l : Int} {L : List Int} {a b : Int} (h : CameFine t l L a b) (ho : t + b > 1152921504606846976) : rate_Came.f k t l L a b = some (0, 0, [], 5) := by rw [Came_fine k hk h, if_pos ho]
theorem Came_yes (k : Nat) (hk : 101 ≤ k) {t l : Int} {L : List Int} {a b : Int} (h : CameFine t l L a b) (ho : t + b ≤ 1152921504606846976) : rate_Came.f k t l L a b = some (t + b, a, L, 0) := by rw [Came_fine k hk h, if_neg (by omega)]
theorem Came_may {t l : Int} {L : List Int} {a b : Int} (h : CameFine t l L a b) (ho : t + b ≤ 1152921504606846976) : RtMay (t + b) a L := by
  obtain ⟨⟨h1, h2, h3⟩, h4, h5⟩ := h
  unfold RIn at h1 h2
  exact ⟨⟨by omega, by omega⟩, ⟨by omega, by omega⟩, h3⟩
/-- What is told of bytes in a time. -/
def rateOf (b d : Int) : Int := if b * 1000000 / d ≤ 1152921504606846976 then b * 1000000 / d else 1152921504606846976
/-- The last ten, with one more. -/
def push (L : List Int) (n : Int) : List Int := (L ++ [n]).drop ((L ++ [n]).length - 10)
theorem rateOf_in {b d : Int} (h0 : 0 ≤ b) (h1 : 1 ≤ d) : RIn (rateOf b d) := by
  have : 0 ≤ b * 1000000 / d := Int.ediv_nonneg (by omega) (by omega)
  unfold rateOf RIn
  split <;> omega
def SampFine (t l : Int) (L : List Int) (a b : Int) : Prop := RtMay t l L ∧ (0 ≤ a ∧ a ≤ t) ∧ (0 ≤ b ∧ b ≤ l)
instance (t l : Int) (L : List Int) (a b : Int) : Decidable (SampFine t l L a b) := inferInstanceAs (Decidable (_ ∧ _))
theorem Samp_no (k : Nat) (hk : 101 ≤ k) {t l : Int} {L : List Int} {a b : Int} (h : ¬ SampFine t l L a b) : rate_Sample.f k t l L a b = some (0, 0, [], 0, 1) := by
  obtain ⟨k, rfl⟩ : ∃ m, k = m + 1 := ⟨k - 1, by omega⟩
  unfold rate_Sample.f
  have bad : rate_Sample.j0 (k + 1) a b true t l L = some (0, 0, [], 0, 1) := by rw [rate_Sample.j0, if_pos rfl]
  rw [rtMay_f (k + 1) hk, rin_f, rin_f]
  simp only [Option.bind_some, decide_eq_true_eq]
  by_cases h1 : RtMay t l L
  · rw [if_pos h1]
    by_cases h2 : 0 ≤ a ∧ a ≤ t
    · rw [if_pos h2, decide_eq_false (fun h3 => h ⟨h1, h2, h3⟩)]; exact bad
    · rw [if_neg h2]; exact bad
  · rw [if_neg h1]; exact bad
theorem push_len (L : List Int) (n : Int) : (push L n).length ≤ 10 := by unfold push; simp; omega
theorem push_mem (L : List Int) (n : Int) : n ∈ push L n := by
  unfold push
  have h : (L ++ [n]).length - 10 ≤ L.length := by simp
  rw [List.drop_append_of_le_length h]
  simp
theorem push_of {L : List Int} {n x : Int} (h : x ∈ push L n) : x ∈ L ∨ x = n := by
  unfold push at h
  have := List.mem_of_mem_drop h
  simpa using this
theorem Samp_same (k : Nat) (hk : 101 ≤ k) {t l : Int} {L : List Int} {a b : Int} (h : SampFine t l L a b) (he : b = l) : rate_Sample.f k t l L a b = some (t, l, L, 0, 0) := by
  obtain ⟨k, rfl⟩ : ∃ m, k = m + 1 := ⟨k - 1, by omega⟩
  obtain ⟨h1, h2, h3⟩ := h
  unfold rate_Sample.f
  rw [rtMay_f (k + 1) hk, rin_f, rin_f]
  simp only [Option.bind_some, decide_eq_true_eq]
  rw [if_pos h1, if_pos h2, decide_eq_true h3, rate_Sample.j0, if_neg (by decide), clone_f L h1.2.2.1, Option.bind_some, if_pos he]
theorem Samp_yes (k : Nat) (hk : 102 ≤ k) {t l : Int} {L : List Int} {a b : Int} (h : SampFine t l L a b) (he : b ≠ l) : rate_Sample.f k t l L a b = some (t, l, push L (rateOf (t - a) (l - b)), rateOf (t - a) (l - b), 0) := by
  obtain ⟨k, rfl⟩ : ∃ m, k = m + 1 := ⟨k - 1, by omega⟩
  obtain ⟨h1, h2, h3⟩ := h
  obtain ⟨t1, l1, hlen, _⟩ := id h1
  unfold RIn at t1 l1
  unfold rate_Sample.f
  rw [rtMay_f (k + 1) (by omega), rin_f, rin_f]
  simp only [Option.bind_some, decide_eq_true_eq]
  rw [if_pos h1, if_pos h2, decide_eq_true h3, rate_Sample.j0, if_neg (by decide), clone_f L hlen, Option.bind_some, if_neg he, wrap64_id (t - a) (by omega) (by omega), wrap64_id (l - b) (by omega) (by omega), MulDiv_f k (by omega)]
  have cut : ∀ n : Int, (if L.length < 17592186044416 then ((some (L ++ [n] : List Int)).bind fun y => (if 0 ≤ (mx 0 (wrap64 ((y.length : Int) - 10))) then (if (mx 0 (wrap64 ((y.length : Int) - 10))) ≤ (y.length : Int) then (some (t, l, (y.drop ((mx 0 (wrap64 ((y.length : Int) - 10))) : Int).toNat), n, (0 : Int))) else (none)) else (none))) else (none)) = some (t, l, push L n, n, 0) := by
    intro n
    have hl : ((L ++ [n]).length : Int) = (L.length : Int) + 1 := by simp
    rw [if_pos (by omega), Option.bind_some, wrap64_id (((L ++ [n]).length : Int) - 10) (by omega) (by omega)]
    have hm : 0 ≤ mx 0 (((L ++ [n]).length : Int) - 10) ∧ mx 0 (((L ++ [n]).length : Int) - 10) ≤ ((L ++ [n]).length : Int) ∧ (mx 0 (((L ++ [n]).length : Int) - 10)).toNat = (L ++ [n]).length - 10 := by
      unfold mx; split <;> omega
    rw [if_pos hm.1, if_pos hm.2.1, hm.2.2]
    rfl
  have hq : 0 ≤ (t - a) * 1000000 / (l - b) := Int.ediv_nonneg (by omega) (by omega)
  rw [Option.bind_some]
  unfold rateOf
  by_cases hy : (t - a) * 1000000 / (l - b) ≤ 4611686018427387904
  · rw [MD_yes ⟨⟨by omega, by omega⟩, by decide, ⟨by omega, by omega⟩, by omega, ⟨by omega, hy⟩⟩]
    simp only [if_true]
    by_cases hz : (t - a) * 1000000 / (l - b) > 1152921504606846976
    · rw [if_pos hz, if_neg (show ¬ (t - a) * 1000000 / (l - b) ≤ 1152921504606846976 by omega)]; exact cut _
    · rw [if_neg hz, if_pos (show (t - a) * 1000000 / (l - b) ≤ 1152921504606846976 by omega)]; exact cut _
  · rw [MD_no (fun g => hy g.2.2.2.2.2), if_neg (show ¬ (t - a) * 1000000 / (l - b) ≤ 1152921504606846976 by omega)]
    simp only [Bool.false_eq_true, if_false]
    exact cut _
theorem Samp_may {t l : Int} {L : List Int} {n : Int} (h : RtMay t l L) (hn : RIn n) : RtMay t l (push L n) := by
  refine ⟨h.1, h.2.1, push_len L n, fun x hx => ?_⟩
  rcases push_of hx with hx | hx
  · exact h.2.2.2 x hx
  · rw [hx]; exact hn
/-- The greatest one, or 0. -/
def bo : List Int → Int
  | [] => 0
  | x :: L => mx x (bo L)
theorem bo_nonneg : ∀ L : List Int, 0 ≤ bo L
  | [] => by simp [bo]
  | x :: L => by have := bo_nonneg L; simp only [bo]; unfold mx; split <;> omega
theorem bo_ge : ∀ (L : List Int) (x : Int), x ∈ L → x ≤ bo L
  | y :: L, x, h => by
    simp only [bo]
    rcases List.mem_cons.mp h with rfl | h
    · unfold mx; split <;> omega
    · have := bo_ge L x h; unfold mx; split <;> omega
theorem bo_le : ∀ (L : List Int) (c : Int), 0 ≤ c → (∀ x ∈ L, x ≤ c) → bo L ≤ c
  | [], c, h, _ => h
  | y :: L, c, h, g => by
    have h1 := g y List.mem_cons_self
    have h2 := bo_le L c h (fun x hx => g x (List.mem_cons_of_mem _ hx))
    simp only [bo]; unfold mx; split <;> omega
theorem greatest_loop (L : List Int) (hl : L.length ≤ 100) : ∀ (j k n : Nat) (a : Int), n + j = L.length → j < k → 0 ≤ a → rate_greatest_int.l0 k a L (L.length : Int) (n : Int) = some (mx a (bo (L.drop n))) := by
  intro j
  induction j with
  | zero =>
    intro k n a hn hk ha
    obtain ⟨k, rfl⟩ : ∃ m, k = m + 1 := ⟨k - 1, by omega⟩
    rw [rate_greatest_int.l0, if_neg (show ¬ (n : Int) < (L.length : Int) by omega), List.drop_eq_nil_of_le (by omega)]
    simp only [bo]
    congr 1; unfold mx; split <;> omega
  | succ j ih =>
    intro k n a hn hk ha
    obtain ⟨k, rfl⟩ : ∃ m, k = m + 1 := ⟨k - 1, by omega⟩
    have e1 : (n : Int) + 1 = ((n + 1 : Nat) : Int) := by omega
    have c1 : (n : Int) < (L.length : Int) := by omega
    have c2 : 0 ≤ (n : Int) := by omega
    have ha' : 0 ≤ mx a (rd L (n : Int)) := by unfold mx; split <;> omega
    rw [rate_greatest_int.l0]
    simp only [c1, c2, if_true]
    rw [wrap64_id ((n : Int) + 1) (by omega) (by omega), e1, ih k (n + 1) _ (by omega) (by omega) ha', rd_drop L n (by omega)]
    simp only [bo]
    congr 1; unfold mx; (repeat' split) <;> omega
theorem best_f (k : Nat) (hk : 101 ≤ k) (t l : Int) (L : List Int) : rate_Best.f k t l L = some (if RtMay t l L then bo L else 0) := by
  unfold rate_Best.f rate_greatest_int.f
  rw [rtMay_f k hk]
  simp only [Option.bind_some, decide_eq_true_eq]
  by_cases h : RtMay t l L
  · have hl := h.2.2.1
    have hb := bo_nonneg L
    have h1 := greatest_loop L (by omega) L.length k 0 0 (by omega) (by omega) (by omega)
    rw [show ((0 : Nat) : Int) = 0 from rfl] at h1
    have e : mx 0 (bo (L.drop 0)) = bo L := by rw [List.drop_zero]; unfold mx; split <;> omega
    rw [if_pos h, if_pos h, h1, Option.bind_some, e]
  · rw [if_neg h, if_neg h]
theorem best_may (k : Nat) (hk : 101 ≤ k) {t l : Int} {L : List Int} (h : RtMay t l L) : rate_Best.f k t l L = some (bo L) := by rw [best_f k hk, if_pos h]

theorem awake_f (k : Nat) (hk : 102 ≤ k) : fourinhandlaw11_awake.f k = some true := by
  unfold fourinhandlaw11_awake.f
  have h1 : CameFine 0 0 [] 10000 1000 := by decide
  have h2 : SampFine (0 + 1000) 10000 [] 0 0 := by decide
  rw [Came_yes k (by omega) h1 (by omega)]
  simp only [Option.bind_some]
  rw [Samp_yes k hk h2 (by decide)]
  have e : rateOf (0 + 1000 - 0) (10000 - 0) = 100000 := by decide
  have hm : RtMay (0 + 1000) 10000 (push [] 100000) := by decide
  have hb : bo (push [] 100000) = 100000 := by decide
  rw [e]
  simp only [Option.bind_some]
  rw [best_may k (by omega) hm, rtMay_f k (by omega), decide_eq_true hm, hb]
  decide

theorem RateWrong : fourinhandlaw11_RateWrong.Pure := by
  intro t l L a b tot las _ _ _ _ _
  refine ⟨301, ?_⟩
  unfold fourinhandlaw11_RateWrong.f
  rw [awake_f 301 (by omega), Option.bind_some, if_pos rfl]
  by_cases h0 : (L.length : Int) > 40
  · rw [decide_eq_true h0, fourinhandlaw11_RateWrong.j0, if_pos rfl]
  rw [decide_eq_false h0, fourinhandlaw11_RateWrong.j0, if_neg (by decide)]
  -- the sample
  have samp : ∃ t' l' L' n e, rate_Sample.f 300 t l L tot las = some (t', l', L', n, e) ∧ ((e = 0) ↔ SampFine t l L tot las) ∧ (e = 0 → las = l → n = 0 ∧ L'.length = L.length) ∧ (e ≠ 0 → n = 0) := by
    by_cases hs : SampFine t l L tot las
    · by_cases he : las = l
      · exact ⟨_, _, _, _, _, Samp_same 300 (by omega) hs he, ⟨fun _ => hs, fun _ => rfl⟩, fun _ _ => ⟨rfl, rfl⟩, fun h => absurd rfl h⟩
      · exact ⟨_, _, _, _, _, Samp_yes 300 (by omega) hs he, ⟨fun _ => hs, fun _ => rfl⟩, fun _ h => absurd h he, fun h => absurd rfl h⟩
    · exact ⟨_, _, _, _, _, Samp_no 300 (by omega) hs, ⟨fun h => absurd h (by decide), fun h => absurd h hs⟩, fun h => absurd h (by decide), fun _ => rfl⟩
  have came : ∃ t' l' L' e, rate_Came.f 300 t l L a b = some (t', l', L', e) ∧ (e = 0 → RtMay t l L) ∧ (e ≠ 0 → L' = []) := by
    by_cases hc : CameFine t l L a b
    · by_cases ho : t + b > 1152921504606846976
      · exact ⟨_, _, _, _, Came_over 300 (by omega) hc ho, fun _ => hc.1, fun _ => rfl⟩
      · exact ⟨_, _, _, _, Came_yes 300 (by omega) hc (by omega), fun _ => hc.1, fun h => absurd rfl h⟩
    · exact ⟨_, _, _, _, Came_no 300 (by omega) hc, fun h => absurd h (by decide), fun _ => rfl⟩
  obtain ⟨t1, l1, L1, n, e, s1, s2, s3, s4⟩ := samp
  obtain ⟨t2, l2, L2, g, c1, c2, c3⟩ := came
  rw [c1]
  simp only [Option.bind_some]
  rw [s1]
  simp only [Option.bind_some]
  rw [rtMay_f 300 (by omega), Option.bind_some]
  have rest : (if e = 0 then (if las = l then (if n = 0 then (some ((L1.length : Int) == (L.length : Int))) else (some false)) else (some true)) else (if n = 0 then (some true) else (some false)) : Option Bool) = some true := by
    by_cases he : e = 0
    · rw [if_pos he]
      by_cases hl : las = l
      · obtain ⟨q1, q2⟩ := s3 he hl
        rw [if_pos hl, if_pos q1, q2]; simp
      · rw [if_neg hl]
    · rw [if_neg he, if_pos (s4 he)]
  have main : fourinhandlaw11_RateWrong.j1 300 las g n e (decide (SampFine t l L tot las)) t l L t2 l2 L2 t1 l1 L1 = some true := by
    have hx : ((e == 0) != decide (SampFine t l L tot las)) = false := by
      by_cases he : e = 0
      · rw [decide_eq_true (s2.mp he), he]; rfl
      · rw [decide_eq_false (fun h => he (s2.mpr h)), beq_eq_false_iff_ne.mpr he]; rfl
    rw [fourinhandlaw11_RateWrong.j1, hx, if_neg (by decide)]
    by_cases hg : g = 0
    · rw [if_pos hg, rtMay_f 299 (by omega), decide_eq_true (c2 hg), Option.bind_some, if_pos rfl]; exact rest
    · rw [if_neg hg, c3 hg, if_neg (by simp)]; exact rest
  by_cases g0 : RtMay t l L
  · rw [decide_eq_true g0, if_pos rfl]
    by_cases g1 : tot ≥ 0
    · rw [if_pos g1]
      by_cases g2 : tot ≤ t
      · rw [if_pos g2]
        by_cases g3 : las ≥ 0
        · rw [if_pos g3]
          have : decide (las ≤ l) = decide (SampFine t l L tot las) := decide_eq_decide.mpr ⟨fun h => ⟨g0, ⟨g1, g2⟩, g3, h⟩, fun h => h.2.2.2⟩
          rw [this]; exact main
        · rw [if_neg g3]; rw [decide_eq_false (fun h => g3 h.2.2.1)] at main; exact main
      · rw [if_neg g2]; rw [decide_eq_false (fun h => g2 h.2.1.2)] at main; exact main
    · rw [if_neg g1]; rw [decide_eq_false (fun h => g1 h.2.1.1)] at main; exact main
  · rw [decide_eq_false g0, if_neg (by decide)]; rw [decide_eq_false (fun h => g0 h.1)] at main; exact main

end Go.Proofs.Ytfdaaodpbaikdaa.Pure
