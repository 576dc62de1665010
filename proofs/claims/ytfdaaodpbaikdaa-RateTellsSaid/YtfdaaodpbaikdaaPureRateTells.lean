/- Any rate may be, or not, has bytes that come, and samples, as the document says, or it is told why not: for every input, without a condition. -/
import Derived.Test.YtfdaaodpbaikdaaPRateTellsx7
import Derived.Test.YtfdaaodpbaikdaaStmtRateTells
import Derived.Laws.BitsLemmas
import Derived.Laws.Bits64
namespace Go.Proofs.Ytfdaaodpbaikdaa.Pure
open Go.RowKit Go.Proofs.Ytfdaaodpbaikdaa.PRateTells Go.Proofs.YtfdaaodpbaikdaaW.PrintWords Go.Proofs.YtfdaaodpbaikdaaW.PrintLast Go.Proofs.YtfdaaodpbaikdaaW.PrintMore
/-! ### bits and words of 64 bits -/
theorem wraps_u64 (n : Int) (h0 : 0 ≤ n) (h1 : n < 2 ^ 64) : IntKind.u64.wrap n = n := by rw [IntKind.wrap_u64]; omega
theorem and_low32 (x : Int) (h0 : 0 ≤ x) (h1 : x < 18446744073709551616) : Go.bits .and .u64 x 4294967295 = x % 4294967296 :=
  bits_mask .u64 64 (by decide) wraps_u64 32 (by decide) x h0 h1
theorem and_one (x : Int) (h0 : 0 ≤ x) (h1 : x < 18446744073709551616) : Go.bits .and .u64 x 1 = x % 2 :=
  bits_mask .u64 64 (by decide) wraps_u64 1 (by decide) x h0 h1
theorem or_low32 (x y : Int) (h0 : 0 ≤ x) (h1 : x < 18446744073709551616) (h2 : x % 4294967296 = 0) (h3 : 0 ≤ y) (h4 : y < 4294967296) : Go.bits .or .u64 x y = x + y :=
  bits_join .u64 64 (by decide) wraps_u64 32 x y h0 h2 h1 h3 h4 (by omega)
theorem or_one (x y : Int) (h0 : 0 ≤ x) (h1 : x < 18446744073709551616) (h2 : x % 2 = 0) (h3 : 0 ≤ y) (h4 : y < 2) : Go.bits .or .u64 x y = x + y :=
  bits_join .u64 64 (by decide) wraps_u64 1 x y h0 h2 h1 h3 h4 (by omega)
theorem wrap64_id (n : Int) (h0 : -9223372036854775808 ≤ n) (h1 : n < 9223372036854775808) : wrap64 n = n := by unfold wrap64; omega

/-! ### the number's range -/
def InR (a : Int) : Prop := -4611686018427387904 ≤ a ∧ a ≤ 4611686018427387904
instance (a : Int) : Decidable (InR a) := inferInstanceAs (Decidable (_ ∧ _))
theorem In_f (a : Int) : fix_In.f a = some (decide (InR a)) := by
  unfold fix_In.f
  by_cases h : a ≥ (-4611686018427387904)
  · rw [if_pos h]; exact congrArg some (decide_eq_decide.mpr ⟨fun h' => ⟨h, h'⟩, fun h' => h'.2⟩)
  · rw [if_neg h]; exact congrArg some (decide_eq_false (fun h' => h h'.1)).symm
theorem size_f (a : Int) (h : InR a) : fix_size.f a = some (if a < 0 then -a else a, decide (a < 0)) := by
  unfold fix_size.f
  unfold InR at h
  by_cases h0 : a < 0
  · rw [if_pos h0, if_pos h0, wrap64_id _ (by omega) (by omega), wraps_u64 _ (by omega) (by omega)]; simp [h0]
  · rw [if_neg h0, if_neg h0, wraps_u64 _ (by omega) (by omega)]; simp [h0]

/-! ### the product of 128 bits -/
theorem mul_le_of (a b A B : Int) (h0 : 0 ≤ a) (h1 : a ≤ A) (h2 : 0 ≤ b) (h3 : b ≤ B) : 0 ≤ a * b ∧ a * b ≤ A * B :=
  ⟨Int.mul_nonneg h0 h2, Int.mul_le_mul h1 h3 h2 (by omega)⟩
theorem product_f (x y : Int) (hx0 : 0 ≤ x) (hx : x ≤ 4611686018427387904) (hy0 : 0 ≤ y) (hy : y ≤ 4611686018427387904) :
    fix_product.f x y = some (x * y / 18446744073709551616, x * y % 18446744073709551616) := by
  unfold fix_product.f
  rw [and_low32 x hx0 (by omega), and_low32 y hy0 (by omega)]
  obtain ⟨xh, hxh⟩ : ∃ z, x / 4294967296 = z := ⟨_, rfl⟩
  obtain ⟨xl, hxl⟩ : ∃ z, x % 4294967296 = z := ⟨_, rfl⟩
  obtain ⟨yh, hyh⟩ : ∃ z, y / 4294967296 = z := ⟨_, rfl⟩
  obtain ⟨yl, hyl⟩ : ∃ z, y % 4294967296 = z := ⟨_, rfl⟩
  rw [hxh, hxl, hyh, hyl]
  have ex : x = xh * 4294967296 + xl := by omega
  have ey : y = yh * 4294967296 + yl := by omega
  have b1 : 0 ≤ xh ∧ xh ≤ 1073741824 ∧ 0 ≤ xl ∧ xl ≤ 4294967295 := by omega
  have b2 : 0 ≤ yh ∧ yh ≤ 1073741824 ∧ 0 ≤ yl ∧ yl ≤ 4294967295 := by omega
  have exy : x * y = xh * yh * 18446744073709551616 + (xh * yl + xl * yh) * 4294967296 + xl * yl := by
    rw [ex, ey]; grind
  have bA := mul_le_of xh yh 1073741824 1073741824 b1.1 b1.2.1 b2.1 b2.2.1
  have bB := mul_le_of xh yl 1073741824 4294967295 b1.1 b1.2.1 b2.2.2.1 b2.2.2.2
  have bC := mul_le_of xl yh 4294967295 1073741824 b1.2.2.1 b1.2.2.2 b2.1 b2.2.1
  have bP := mul_le_of xl yl 4294967295 4294967295 b1.2.2.1 b1.2.2.2 b2.2.2.1 b2.2.2.2
  rw [exy]
  clear exy ex ey hxh hxl hyh hyl b1 b2
  generalize xh * yh = A at *
  generalize xh * yl = B at *
  generalize xl * yh = C at *
  generalize xl * yl = P at *
  rw [wraps_u64 A (by omega) (by omega), wraps_u64 B (by omega) (by omega), wraps_u64 C (by omega) (by omega), wraps_u64 P (by omega) (by omega)]
  rw [wraps_u64 (B + P / 4294967296) (by omega) (by omega), and_low32 (B + P / 4294967296) (by omega) (by omega), and_low32 P (by omega) (by omega)]
  rw [wraps_u64 (C + (B + P / 4294967296) % 4294967296) (by omega) (by omega)]
  rw [wraps_u64 (A + (B + P / 4294967296) / 4294967296) (by omega) (by omega)]
  rw [wraps_u64 (A + (B + P / 4294967296) / 4294967296 + (C + (B + P / 4294967296) % 4294967296) / 4294967296) (by omega) (by omega)]
  rw [IntKind.wrap_u64 ((C + (B + P / 4294967296) % 4294967296) * 4294967296)]
  rw [or_low32 _ _ (by omega) (by omega) (by omega) (by omega) (by omega)]
  simp only [Option.some.injEq, Prod.mk.injEq]
  constructor <;> omega

/-! ### the long division -/
theorem mod_two_pow_succ (m n : Nat) : m % 2 ^ (n + 1) = m / 2 ^ n % 2 * 2 ^ n + m % 2 ^ n := by
  rw [Nat.mod_pow_succ, Nat.mul_comm, Nat.add_comm]
theorem by_loop (c : Int) (hc1 : 1 ≤ c) (hc : c ≤ 4611686018427387904) (hi : Int) (m : Nat) (hm : m < 2 ^ 64) : ∀ (n : Nat), n ≤ 64 → ∀ (k : Nat), n < k → ∀ (q r : Int), 0 ≤ r → r < c → 0 ≤ q → q < 2 ^ (64 - n) →
    ∃ q' r', fix_wide_by.l0 k c q r ((n : Int) - 1) hi m = some (q', r') ∧ 0 ≤ r' ∧ r' < c ∧ 0 ≤ q' ∧ q' * c + r' = (q * c + r) * 2 ^ n + (m % 2 ^ n : Nat) := by
  intro n
  induction n with
  | zero =>
    intro _ k hk q r h0 h1 h2 h3
    obtain ⟨k, rfl⟩ : ∃ j, k = j + 1 := ⟨k - 1, by omega⟩
    refine ⟨q, r, ?_, h0, h1, h2, by simp [Nat.mod_one]⟩
    simp only [fix_wide_by.l0]
    rw [if_neg (by omega)]
  | succ n ih =>
    intro hn k hk q r h0 h1 h2 h3
    obtain ⟨k, rfl⟩ : ∃ j, k = j + 1 := ⟨k - 1, by omega⟩
    have hq2 : q * 2 + 1 < 2 ^ (64 - n) := by
      have e : (64 - n) = (64 - (n + 1)) + 1 := by omega
      rw [e, Int.pow_succ]; omega
    have hpow : (2 : Int) ^ (64 - n) ≤ 18446744073709551616 := by
      have h1 : (2 : Nat) ^ (64 - n) ≤ 18446744073709551616 := Nat.pow_le_pow_right (n := 2) (j := 64) (by decide) (by omega)
      have h2 : (2 : Int) ^ (64 - n) = ((2 ^ (64 - n) : Nat) : Int) := by simp
      rw [h2]; omega
    have e1 : ((n + 1 : Nat) : Int) - 1 = (n : Int) := by omega
    rw [e1, fix_wide_by.l0]
    rw [if_pos (by omega), if_pos (by omega)]
    have e2 : shr .u64 (m : Int) (n : Int) = ((m / 2 ^ n : Nat) : Int) := by
      unfold shr
      have : min ((n : Int)).toNat IntKind.u64.bits = n := by simp [IntKind.bits]; omega
      rw [this]; simp
    have hb : m / 2 ^ n ≤ m := Nat.div_le_self _ _
    rw [e2]
    generalize hM : m / 2 ^ n = M at *
    rw [and_one _ (by omega) (by omega)]
    have e3 : (M : Int) % 2 = ((M % 2 : Nat) : Int) := by omega
    rw [e3]
    have hs := mod_two_pow_succ m n
    rw [hM] at hs
    have hbit : M % 2 < 2 := Nat.mod_lt _ (by decide)
    generalize M % 2 = b at *
    rw [wraps_u64 (r * 2) (by omega) (by omega), wraps_u64 (q * 2) (by omega) (by omega)]
    rw [or_one (r * 2) b (by omega) (by omega) (by omega) (by omega) (by omega), or_one (q * 2) 1 (by omega) (by omega) (by omega) (by omega) (by omega)]
    rw [wrap64_id ((n : Int) - 1) (by omega) (by omega)]
    by_cases hge : r * 2 + (b : Int) ≥ c
    · rw [if_pos hge, wraps_u64 (r * 2 + b - c) (by omega) (by omega)]
      obtain ⟨q', r', he, a1, a2, a3, a4⟩ := ih (by omega) k (by omega) (q * 2 + 1) (r * 2 + b - c) (by omega) (by omega) (by omega) hq2
      refine ⟨q', r', he, a1, a2, a3, ?_⟩
      rw [a4, hs]
      simp only [Int.natCast_add, Int.natCast_mul, Int.pow_succ, Int.natCast_pow]
      grind
    · rw [if_neg hge]
      obtain ⟨q', r', he, a1, a2, a3, a4⟩ := ih (by omega) k (by omega) (q * 2) (r * 2 + b) (by omega) (by omega) (by omega) (by omega)
      refine ⟨q', r', he, a1, a2, a3, ?_⟩
      rw [a4, hs]
      simp only [Int.natCast_add, Int.natCast_mul, Int.pow_succ, Int.natCast_pow]
      grind
theorem by_f (k : Nat) (hk : 64 < k) (p c : Int) (hc1 : 1 ≤ c) (hc : c ≤ 4611686018427387904) (hp0 : 0 ≤ p) (hp : p / 18446744073709551616 < c) :
    fix_wide_by.f k (p / 18446744073709551616) (p % 18446744073709551616) c = some (p / c, p % c) := by
  obtain ⟨m, hm⟩ : ∃ m : Nat, p % 18446744073709551616 = m := ⟨(p % 18446744073709551616).toNat, by omega⟩
  have hm2 : m < 2 ^ 64 := by omega
  obtain ⟨q, r, he, a1, a2, a3, a4⟩ := by_loop c hc1 hc (p / 18446744073709551616) m hm2 64 (by omega) k hk 0 (p / 18446744073709551616) (by omega) hp (by omega) (by decide)
  unfold fix_wide_by.f
  rw [hm]
  refine he.trans ?_
  rw [Nat.mod_eq_of_lt hm2] at a4
  have e : q * c + r = p := by
    have : (2 : Int) ^ 64 = 18446744073709551616 := by decide
    rw [this] at a4
    omega
  have e2 : p / c = q := by
    rw [← e, Int.add_comm, Int.add_mul_ediv_right _ _ (by omega), Int.ediv_eq_zero_of_lt a1 a2]; omega
  have e3 : p % c = r := by
    rw [← e, Int.add_comm, Int.add_mul_emod_self_right, Int.emod_eq_of_lt a1 a2]
  rw [e2, e3]

/-! ### MulDiv -/
def MD (a b c : Int) : Int × Bool := if InR a ∧ InR b ∧ InR c ∧ 1 ≤ c ∧ InR (a * b / c) then (a * b / c, true) else (0, false)
theorem ediv_neg_floor (p c : Int) (hc : 1 ≤ c) : (-p) / c = if p % c > 0 then -(p / c + 1) else -(p / c) := by
  have h1 := Int.emod_add_mul_ediv p c
  have h2 := Int.emod_nonneg p (show c ≠ 0 by omega)
  have h3 := Int.emod_lt_of_pos p (show 0 < c by omega)
  split
  · rename_i h
    have : -p = (c - p % c) + c * (-(p / c + 1)) := by grind
    rw [this, Int.add_mul_ediv_left _ _ (by omega), Int.ediv_eq_zero_of_lt (by omega) (by omega)]; omega
  · rename_i h
    have : -p = 0 + c * (-(p / c)) := by grind
    rw [this, Int.add_mul_ediv_left _ _ (by omega)]; simp
theorem MulDiv_f (k : Nat) (hk : 100 ≤ k) (a b c : Int) : fix_MulDiv.f k a b c = some (MD a b c) := by
  obtain ⟨k, rfl⟩ : ∃ j, k = j + 4 := ⟨k - 4, by omega⟩
  unfold fix_MulDiv.f MD
  rw [In_f, In_f, In_f]
  simp only [Option.bind_some, decide_eq_true_eq]
  by_cases ha : ¬ InR a
  · rw [if_neg ha, if_neg (fun h => ha h.1)]; simp [fix_MulDiv.j0]
  by_cases hb : ¬ InR b
  · rw [if_pos (Decidable.not_not.mp ha), if_neg hb, if_neg (fun h => hb h.2.1)]; simp [fix_MulDiv.j0]
  by_cases hc : ¬ InR c
  · rw [if_pos (Decidable.not_not.mp ha), if_pos (Decidable.not_not.mp hb), if_neg hc, if_neg (fun h => hc h.2.2.1)]; simp [fix_MulDiv.j0]
  replace ha := Decidable.not_not.mp ha
  replace hb := Decidable.not_not.mp hb
  replace hc := Decidable.not_not.mp hc
  rw [if_pos ha, if_pos hb, if_pos hc]
  by_cases hc1 : c < 1
  · rw [if_neg (fun h => by omega)]; simp [fix_MulDiv.j0, hc1]
  simp only [fix_MulDiv.j0, hc1, decide_false, Bool.false_eq_true, if_false]
  rw [size_f a ha, size_f b hb]
  simp only [Option.bind_some]
  obtain ⟨x, hx⟩ : ∃ x, (if a < 0 then -a else a) = x := ⟨_, rfl⟩
  obtain ⟨y, hy⟩ : ∃ y, (if b < 0 then -b else b) = y := ⟨_, rfl⟩
  rw [hx, hy]
  unfold InR at ha hb hc
  have hx0 : 0 ≤ x ∧ x ≤ 4611686018427387904 := by split at hx <;> omega
  have hy0 : 0 ≤ y ∧ y ≤ 4611686018427387904 := by split at hy <;> omega
  rw [product_f x y hx0.1 hx0.2 hy0.1 hy0.2]
  simp only [Option.bind_some]
  rw [wraps_u64 c (by omega) (by omega)]
  have hp0 : 0 ≤ x * y := Int.mul_nonneg hx0.1 hy0.1
  -- the signed product
  have hs : a * b = if (decide (a < 0) != decide (b < 0)) = true then -(x * y) else x * y := by
    by_cases h1 : a < 0 <;> by_cases h2 : b < 0 <;> simp [h1, h2] at hx hy ⊢ <;> subst hx <;> subst hy <;> grind
  have hce : c * (x * y / c) ≤ x * y := by
    have := Int.emod_add_mul_ediv (x * y) c
    have := Int.emod_nonneg (x * y) (show c ≠ 0 by omega)
    omega
  have hq0 : 0 ≤ x * y / c := Int.ediv_nonneg hp0 (by omega)
  by_cases hbig : x * y / 18446744073709551616 ≥ c
  · rw [if_pos hbig]
    -- the quotient has more than 64 bits
    have hq : 18446744073709551616 ≤ x * y / c := by
      rw [Int.le_ediv_iff_mul_le (by omega)]
      omega
    rw [if_neg]
    rintro ⟨_, _, _, _, h⟩
    unfold InR at h
    rw [hs] at h
    split at h
    · rw [ediv_neg_floor _ _ (by omega)] at h
      split at h <;> omega
    · omega
  · rw [if_neg hbig, by_f _ (by omega) (x * y) c (by omega) (by omega) hp0 (by omega)]
    simp only [Option.bind_some]
    have hq1 : x * y / c < 18446744073709551616 := by
      rw [Int.ediv_lt_iff_lt_mul (by omega)]
      omega
    have hInR : ∀ z : Int, InR z ↔ (-4611686018427387904 ≤ z ∧ z ≤ 4611686018427387904) := fun _ => Iff.rfl
    by_cases hd : (decide (a < 0) != decide (b < 0)) = true
    · rw [if_pos hd] at hs ⊢
      rw [hs, ediv_neg_floor _ _ (by omega)]
      by_cases hr : x * y % c > 0
      · rw [if_pos hr, if_pos hr]
        simp only [fix_MulDiv.j1, fix_MulDiv.j2, hd, if_true]
        by_cases hle : x * y / c ≤ 4611686018427387904
        · rw [if_pos (by simpa using hle), wraps_u64 _ (by omega) (by omega)]
          by_cases hgt : x * y / c + 1 > 4611686018427387904
          · rw [if_pos hgt, if_neg (by simp only [hInR]; omega)]
          · rw [if_neg hgt, if_pos (by simp only [hInR]; omega), wrap64_id (x * y / c + 1) (by omega) (by omega), wrap64_id _ (by omega) (by omega)]
        · rw [if_neg (by simpa using hle), if_pos (by omega), if_neg (by simp only [hInR]; omega)]
      · rw [if_neg hr, if_neg hr]
        simp only [fix_MulDiv.j1, fix_MulDiv.j2, hd, if_true, Bool.false_eq_true, if_false]
        by_cases hgt : x * y / c > 4611686018427387904
        · rw [if_pos hgt, if_neg (by simp only [hInR]; omega)]
        · rw [if_neg hgt, if_pos (by simp only [hInR]; omega), wrap64_id (x * y / c) (by omega) (by omega), wrap64_id _ (by omega) (by omega)]
    · rw [if_neg hd] at hs ⊢
      rw [hs]
      simp only [fix_MulDiv.j1, fix_MulDiv.j2, hd, Bool.false_eq_true, if_false]
      by_cases hgt : x * y / c > 4611686018427387904
      · rw [if_pos hgt, if_neg (by simp only [hInR]; omega)]
      · rw [if_neg hgt, if_pos (by simp only [hInR]; omega), wrap64_id (x * y / c) (by omega) (by omega)]

/-! ### what MulDiv tells -/
theorem MD_yes {a b c : Int} (h : InR a ∧ InR b ∧ InR c ∧ 1 ≤ c ∧ InR (a * b / c)) : MD a b c = (a * b / c, true) := if_pos h
theorem MD_no {a b c : Int} (h : ¬ (InR a ∧ InR b ∧ InR c ∧ 1 ≤ c ∧ InR (a * b / c))) : MD a b c = (0, false) := if_neg h
theorem InR_one : InR 1 := by decide
theorem div_between (p c : Int) (hc : 1 ≤ c) : (0 ≤ p → 0 ≤ p / c ∧ p / c ≤ p) ∧ (p ≤ 0 → p ≤ p / c ∧ p / c ≤ 0) := by
  refine ⟨fun h => ⟨Int.ediv_nonneg h (by omega), Int.ediv_le_self _ h⟩, fun h => ⟨?_, ?_⟩⟩
  · rw [Int.le_ediv_iff_mul_le (by omega)]
    have := Int.mul_le_mul_of_nonpos_left h hc
    rw [Int.mul_one] at this
    exact this
  · have := Int.ediv_le_ediv (c := c) (by omega) h
    rwa [Int.zero_ediv] at this
theorem InR_div {p c : Int} (hp : InR p) (hc : 1 ≤ c) : InR (p / c) := by
  have := div_between p c hc
  unfold InR at *
  rcases Int.le_total 0 p with h | h
  · have := this.1 h; omega
  · have := this.2 h; omega
theorem div_left (p c : Int) (hc : 1 ≤ c) : p / c * c ≤ p ∧ p < p / c * c + c := by
  have h1 := Int.emod_add_mul_ediv p c
  have h2 := Int.emod_nonneg p (show c ≠ 0 by omega)
  have h3 := Int.emod_lt_of_pos p (show 0 < c by omega)
  rw [Int.mul_comm] at h1
  omega

/-! ### the document's product by a number -/
theorem rIn_f (a : Int) : fourinhandref01_In.f a = some (decide (InR a)) := by
  unfold fourinhandref01_In.f
  by_cases h : a ≥ (-4611686018427387904)
  · rw [if_pos h]; exact congrArg some (decide_eq_decide.mpr ⟨fun h' => ⟨h, h'⟩, fun h' => h'.2⟩)
  · rw [if_neg h]; exact congrArg some (decide_eq_false (fun h' => h h'.1)).symm
theorem rsize_f (a : Int) (h : InR a) : fourinhandref01_size.f a = some (if a < 0 then -a else a) := by
  unfold fourinhandref01_size.f
  unfold InR at h
  by_cases h0 : a < 0
  · rw [if_pos h0, if_pos h0, wrap64_id _ (by omega) (by omega)]
  · rw [if_neg h0, if_neg h0]
/-- The bit in hand, of n bits that are left. -/
def bitAt (n : Nat) : Int := if n = 0 then 0 else 2 ^ (n - 1)
theorem bitAt_half (n : Nat) : bitAt (n + 1) / 2 = bitAt n := by
  unfold bitAt
  cases n with
  | zero => simp
  | succ n => simp [Int.pow_succ]
theorem two_pow_le (n m : Nat) (h : n ≤ m) : (2 : Int) ^ n ≤ 2 ^ m := by
  have h1 : (2 : Nat) ^ n ≤ 2 ^ m := Nat.pow_le_pow_right (by decide) h
  have h2 : (2 : Int) ^ n = ((2 ^ n : Nat) : Int) := by simp
  have h3 : (2 : Int) ^ m = ((2 ^ m : Nat) : Int) := by simp
  rw [h2, h3]; omega
theorem two_pow_pos (n : Nat) : (1 : Int) ≤ 2 ^ n := by have h2 : (0 : Int) < 2 ^ n := Int.pow_pos (by omega); omega
theorem long_loop (b c : Int) (hc1 : 1 ≤ c) (hc : c ≤ 4611686018427387904) (hb0 : 0 ≤ b) (hb : b ≤ 4611686018427387904) : ∀ (n : Nat), n ≤ 63 → ∀ (k : Nat), 2 * n < k → ∀ (a q r : Int), 0 ≤ a → a < 2 ^ n → 0 ≤ r → r < c → 0 ≤ q → q ≤ 4611686018427387905 →
    ∃ q' r', fourinhandref01_long.l0 k a b c q r (bitAt n) = some (q', r') ∧ ((q' * c + r' = (q * c + r) * 2 ^ n + a * b ∧ 0 ≤ r' ∧ r' < c ∧ 0 ≤ q' ∧ q' ≤ 4611686018427387905) ∨ (q' = 4611686018427387905 ∧ r' = 0 ∧ 4611686018427387905 * c ≤ (q * c + r) * 2 ^ n + a * b)) := by
  intro n
  induction n with
  | zero =>
    intro _ k hk a q r ha0 ha hr0 hr hq0 hq
    obtain ⟨k, rfl⟩ : ∃ i, k = i + 1 := ⟨k - 1, by omega⟩
    have e : a = 0 := by simp at ha; omega
    refine ⟨q, r, ?_, .inl ⟨by rw [e]; simp, hr0, hr, hq0, hq⟩⟩
    rw [fourinhandref01_long.l0, if_neg (by unfold bitAt; simp)]
  | succ n ih =>
    intro hn k hk a q r ha0 ha hr0 hr hq0 hq
    obtain ⟨k, rfl⟩ : ∃ i, k = i + 2 := ⟨k - 2, by omega⟩
    have hv1 : bitAt (n + 1) = 2 ^ n := by unfold bitAt; simp
    have hhalf := bitAt_half n
    have hp1 := two_pow_pos n
    have hp2 := two_pow_le n 62 (by omega)
    have hp3 : (2 : Int) ^ 62 = 4611686018427387904 := by decide
    rw [Int.pow_succ] at ha
    rw [fourinhandref01_long.l0, if_pos (by omega)]
    have hqc : 0 ≤ q * c := Int.mul_nonneg hq0 (by omega)
    have hab : 0 ≤ a * b := Int.mul_nonneg ha0 hb0
    rw [Int.pow_succ]
    by_cases hbig : q > 2305843009213693952
    · rw [if_pos hbig]
      refine ⟨_, _, rfl, .inr ⟨rfl, rfl, ?_⟩⟩
      have h1 : 2305843009213693953 * c ≤ q * c := Int.mul_le_mul_of_nonneg_right (by omega) (by omega)
      have h2 : (q * c + r) * 1 ≤ (q * c + r) * 2 ^ n := Int.mul_le_mul_of_nonneg_left hp1 (by omega)
      generalize q * c = Q at *
      have e : (Q + r) * (2 ^ n * 2) = (Q + r) * 2 ^ n * 2 := by grind
      rw [e]
      omega
    · rw [if_neg hbig, wrap64_id (2 * q) (by omega) (by omega), wrap64_id (2 * r) (by omega) (by omega)]
      -- behind the doubling
      have key : ∀ (q2 r2 : Int), 0 ≤ r2 → r2 < c → 0 ≤ q2 → q2 ≤ 4611686018427387905 → q2 * c + r2 = 2 * (q * c + r) →
          ∃ q' r', fourinhandref01_long.j1 (k + 1) a b c q2 r2 (bitAt (n + 1)) = some (q', r') ∧ ((q' * c + r' = (q * c + r) * (2 ^ n * 2) + a * b ∧ 0 ≤ r' ∧ r' < c ∧ 0 ≤ q' ∧ q' ≤ 4611686018427387905) ∨ (q' = 4611686018427387905 ∧ r' = 0 ∧ 4611686018427387905 * c ≤ (q * c + r) * (2 ^ n * 2) + a * b)) := by
        intro q2 r2 hr20 hr2 hq20 hq2 he
        have etot : (q * c + r) * (2 ^ n * 2) = (q2 * c + r2) * 2 ^ n := by rw [he]; grind
        rw [etot, fourinhandref01_long.j1, Int.tdiv_eq_ediv_of_nonneg (by omega), wrap64_id (bitAt (n + 1) / 2) (by omega) (by omega), hhalf]
        by_cases hlt : a < bitAt (n + 1)
        · rw [if_pos hlt]
          exact ih (by omega) k (by omega) a q2 r2 ha0 (by omega) hr20 hr2 hq20 hq2
        · rw [if_neg hlt, if_neg (by omega), Int.tdiv_eq_ediv_of_nonneg hb0, Int.tmod_eq_emod_of_nonneg hb0]
          have hbc := div_between b c hc1
          have hbq := hbc.1 hb0
          have hbr := Int.emod_nonneg b (show c ≠ 0 by omega)
          have hbr2 := Int.emod_lt_of_pos b (show 0 < c by omega)
          have hbe := Int.emod_add_mul_ediv b c
          rw [wrap64_id (b / c) (by omega) (by omega), wrap64_id (4611686018427387904 - q2) (by omega) (by omega), wrap64_id (r2 + b % c) (by omega) (by omega), wrap64_id (a - bitAt (n + 1)) (by omega) (by omega)]
          have hsub : (a - bitAt (n + 1)) * b = a * b - 2 ^ n * b := by rw [hv1]; grind
          have hq2c : 0 ≤ q2 * c := Int.mul_nonneg hq20 (by omega)
          by_cases hover : b / c > 4611686018427387904 - q2
          · rw [if_pos hover]
            refine ⟨_, _, rfl, .inr ⟨rfl, rfl, ?_⟩⟩
            have h1 : (4611686018427387905 - q2) * c ≤ b / c * c := Int.mul_le_mul_of_nonneg_right (by omega) (by omega)
            have h2 : (q2 * c + r2) * 1 ≤ (q2 * c + r2) * 2 ^ n := Int.mul_le_mul_of_nonneg_left hp1 (by omega)
            have h3 : 1 * b ≤ a * b := Int.mul_le_mul_of_nonneg_right (by omega) hb0
            have h4 : (4611686018427387905 - q2) * c = 4611686018427387905 * c - q2 * c := by grind
            have h5 : c * (b / c) = b / c * c := Int.mul_comm _ _
            omega
          · rw [if_neg hover]
            have hge0 : 0 ≤ a - bitAt (n + 1) := by omega
            have hlt2 : a - bitAt (n + 1) < 2 ^ n := by omega
            by_cases hadj : r2 + b % c ≥ c
            · rw [if_pos hadj, wrap64_id (q2 + b / c) (by omega) (by omega), wrap64_id (q2 + b / c + 1) (by omega) (by omega), wrap64_id (r2 + b % c - c) (by omega) (by omega)]
              obtain ⟨q', r', h1, h2⟩ := ih (by omega) k (by omega) (a - bitAt (n + 1)) (q2 + b / c + 1) (r2 + b % c - c) hge0 hlt2 (by omega) (by omega) (by omega) (by omega)
              have e2 : ((q2 + b / c + 1) * c + (r2 + b % c - c)) * 2 ^ n + (a - bitAt (n + 1)) * b = (q2 * c + r2) * 2 ^ n + a * b := by
                have : (q2 + b / c + 1) * c + (r2 + b % c - c) = q2 * c + r2 + b := by grind
                rw [this, hsub]; grind
              rw [e2] at h2
              exact ⟨q', r', h1, h2⟩
            · rw [if_neg hadj, wrap64_id (q2 + b / c) (by omega) (by omega)]
              obtain ⟨q', r', h1, h2⟩ := ih (by omega) k (by omega) (a - bitAt (n + 1)) (q2 + b / c) (r2 + b % c) hge0 hlt2 (by omega) (by omega) (by omega) (by omega)
              have e2 : ((q2 + b / c) * c + (r2 + b % c)) * 2 ^ n + (a - bitAt (n + 1)) * b = (q2 * c + r2) * 2 ^ n + a * b := by
                have : (q2 + b / c) * c + (r2 + b % c) = q2 * c + r2 + b := by grind
                rw [this, hsub]; grind
              rw [e2] at h2
              exact ⟨q', r', h1, h2⟩
      by_cases hge : 2 * r ≥ c
      · rw [if_pos hge, wrap64_id (2 * q + 1) (by omega) (by omega), wrap64_id (2 * r - c) (by omega) (by omega)]
        exact key (2 * q + 1) (2 * r - c) (by omega) (by omega) (by omega) (by omega) (by grind)
      · rw [if_neg hge]
        exact key (2 * q) (2 * r) (by omega) (by omega) (by omega) (by omega) (by grind)
theorem long_f (k : Nat) (hk : 126 < k) (a b c : Int) (ha0 : 0 ≤ a) (ha : a ≤ 4611686018427387904) (hb0 : 0 ≤ b) (hb : b ≤ 4611686018427387904) (hc1 : 1 ≤ c) (hc : c ≤ 4611686018427387904) :
    ∃ q r, fourinhandref01_long.f k a b c = some (q, r) ∧ ((q = a * b / c ∧ r = a * b % c ∧ q ≤ 4611686018427387905) ∨ (q = 4611686018427387905 ∧ r = 0 ∧ 4611686018427387905 ≤ a * b / c)) := by
  have hv : bitAt 63 = 4611686018427387904 := by decide
  have h63 : a < 2 ^ 63 := by
    have h1 : (2 : Int) ^ 63 = 9223372036854775808 := by decide
    rw [h1]; omega
  obtain ⟨q, r, h1, h2⟩ := long_loop b c hc1 hc hb0 hb 63 (by omega) k (by omega) a 0 0 ha0 h63 (by omega) (by omega) (by omega) (by omega)
  rw [hv] at h1
  refine ⟨q, r, h1, ?_⟩
  rcases h2 with ⟨h2, h3, h4, h5, h6⟩ | ⟨h2, h3, h4⟩
  · left
    have e : a * b = r + q * c := by simp at h2; omega
    rw [e]
    refine ⟨?_, ?_, h6⟩
    · rw [Int.add_mul_ediv_right _ _ (by omega), Int.ediv_eq_zero_of_lt h3 h4]; omega
    · rw [Int.add_mul_emod_self_right, Int.emod_eq_of_lt h3 h4]
  · right
    refine ⟨h2, h3, ?_⟩
    rw [Int.le_ediv_iff_mul_le (by omega)]
    simpa using h4
theorem rMulDiv_f (k : Nat) (hk : 200 ≤ k) (a b c : Int) : fourinhandref01_MulDiv.f k a b c = some (MD a b c) := by
  obtain ⟨k, rfl⟩ : ∃ j, k = j + 1 := ⟨k - 1, by omega⟩
  unfold fourinhandref01_MulDiv.f MD
  rw [rIn_f, rIn_f, rIn_f]
  simp only [Option.bind_some, decide_eq_true_eq]
  by_cases ha : ¬ InR a
  · rw [if_neg ha, if_neg (fun h => ha h.1)]; simp [fourinhandref01_MulDiv.j0]
  by_cases hb : ¬ InR b
  · rw [if_pos (Decidable.not_not.mp ha), if_neg hb, if_neg (fun h => hb h.2.1)]; simp [fourinhandref01_MulDiv.j0]
  by_cases hc : ¬ InR c
  · rw [if_pos (Decidable.not_not.mp ha), if_pos (Decidable.not_not.mp hb), if_neg hc, if_neg (fun h => hc h.2.2.1)]; simp [fourinhandref01_MulDiv.j0]
  replace ha := Decidable.not_not.mp ha
  replace hb := Decidable.not_not.mp hb
  replace hc := Decidable.not_not.mp hc
  rw [if_pos ha, if_pos hb, if_pos hc]
  by_cases hc1 : c < 1
  · rw [if_neg (fun h => by omega)]; simp [fourinhandref01_MulDiv.j0, hc1]
  simp only [fourinhandref01_MulDiv.j0, hc1, decide_false, Bool.false_eq_true, if_false]
  rw [rsize_f a ha, rsize_f b hb]
  simp only [Option.bind_some]
  obtain ⟨x, hx⟩ : ∃ x, (if a < 0 then -a else a) = x := ⟨_, rfl⟩
  obtain ⟨y, hy⟩ : ∃ y, (if b < 0 then -b else b) = y := ⟨_, rfl⟩
  rw [hx, hy]
  have ha' := ha
  have hb' := hb
  have hc' := hc
  unfold InR at ha hb hc
  have hx0 : 0 ≤ x ∧ x ≤ 4611686018427387904 := by split at hx <;> omega
  have hy0 : 0 ≤ y ∧ y ≤ 4611686018427387904 := by split at hy <;> omega
  obtain ⟨q, r, hl, hqr⟩ := long_f k (by omega) x y c hx0.1 hx0.2 hy0.1 hy0.2 (by omega) (by omega)
  rw [hl]
  simp only [Option.bind_some]
  have hp0 : 0 ≤ x * y := Int.mul_nonneg hx0.1 hy0.1
  have hs : a * b = if (decide (a < 0) != decide (b < 0)) = true then -(x * y) else x * y := by
    by_cases h1 : a < 0 <;> by_cases h2 : b < 0 <;> simp [h1, h2] at hx hy ⊢ <;> subst hx <;> subst hy <;> grind
  have hq0 : 0 ≤ x * y / c := Int.ediv_nonneg hp0 (by omega)
  have hInR : ∀ z : Int, InR z ↔ (-4611686018427387904 ≤ z ∧ z ≤ 4611686018427387904) := fun _ => Iff.rfl
  have hr0 := Int.emod_nonneg (x * y) (show c ≠ 0 by omega)
  have hbound : 0 ≤ q ∧ (4611686018427387904 < x * y / c → 4611686018427387904 < q) := by
    rcases hqr with ⟨h1, h2, h7⟩ | ⟨h1, h2, h3⟩ <;> omega
  by_cases hd : (decide (a < 0) != decide (b < 0)) = true
  · rw [if_pos hd] at hs ⊢
    rw [hs, ediv_neg_floor _ _ (by omega), rIn_f, rIn_f]
    simp only [Option.bind_some, decide_eq_true_eq]
    rcases hqr with ⟨h1, h2, h7⟩ | ⟨h1, h2, h3⟩
    · subst h1 h2
      rw [wrap64_id (x * y / c + 1) (by omega) (by omega), wrap64_id (-(x * y / c + 1)) (by omega) (by omega), wrap64_id (-(x * y / c)) (by omega) (by omega)]
      by_cases hr : x * y % c > 0
      · rw [if_pos hr, if_pos hr]
        by_cases hi : InR (-(x * y / c + 1))
        · rw [if_pos hi, if_pos ⟨ha', hb', hc', by omega, hi⟩]
        · rw [if_neg hi, if_neg (fun h => hi h.2.2.2.2)]
      · rw [if_neg hr, if_neg hr]
        by_cases hi : InR (-(x * y / c))
        · rw [if_pos hi, if_pos ⟨ha', hb', hc', by omega, hi⟩]
        · rw [if_neg hi, if_neg (fun h => hi h.2.2.2.2)]
    · subst h1 h2
      rw [if_neg (by omega), wrap64_id (-4611686018427387905) (by omega) (by omega)]
      rw [if_neg (by rw [hInR]; omega), if_neg]
      rintro ⟨_, _, _, _, h⟩
      rw [hInR] at h
      split at h <;> omega
  · rw [if_neg hd] at hs ⊢
    rw [hs, rIn_f]
    simp only [Option.bind_some, decide_eq_true_eq]
    rcases hqr with ⟨h1, h2, h7⟩ | ⟨h1, h2, h3⟩
    · subst h1 h2
      by_cases hi : InR (x * y / c)
      · rw [if_pos hi, if_pos ⟨ha', hb', hc', by omega, hi⟩]
      · rw [if_neg hi, if_neg (fun h => hi h.2.2.2.2)]
    · subst h1 h2
      rw [if_neg (by rw [hInR]; omega), if_neg]
      rintro ⟨_, _, _, _, h⟩
      rw [hInR] at h
      omega

/-! ### rates -/
def RIn (x : Int) : Prop := 0 ≤ x ∧ x ≤ 1152921504606846976
instance (x : Int) : Decidable (RIn x) := inferInstanceAs (Decidable (_ ∧ _))
def RtMay (t l : Int) (L : List Int) : Prop := RIn t ∧ RIn l ∧ L.length ≤ 10 ∧ ∀ x ∈ L, RIn x
instance (t l : Int) (L : List Int) : Decidable (RtMay t l L) := inferInstanceAs (Decidable (_ ∧ _))
theorem rin_f (a b c : Int) : rate_in.f a b c = some (decide (b ≤ a ∧ a ≤ c)) := by
  unfold rate_in.f
  by_cases h : a ≥ b
  · rw [if_pos h]; exact congrArg some (decide_eq_decide.mpr ⟨fun h' => ⟨h, h'⟩, fun h' => h'.2⟩)
  · rw [if_neg h]; exact congrArg some (decide_eq_false (fun h' => h h'.1)).symm
theorem off_f (a : Int) : rate_May_1.f a = some (!decide (RIn a)) := by
  unfold rate_May_1.f
  rw [rin_f]; rfl
theorem rd_drop (L : List Int) (n : Nat) (h : n < L.length) : L.drop n = rd L (n : Int) :: L.drop (n + 1) := by
  unfold rd
  rw [List.drop_eq_getElem_cons h]
  simp [List.getD, List.getElem?_eq_getElem h]
theorem index_loop (L : List Int) (hl : L.length ≤ 100) : ∀ (j k n : Nat), n + j = L.length → j < k → ∃ r, slices_IndexFunc_int_int.l0 k L (L.length : Int) (n : Int) = some r ∧ decide (r ≥ 0) = (L.drop n).any (fun x => !decide (RIn x)) := by
  intro j
  induction j with
  | zero =>
    intro k n hn hk
    obtain ⟨k, rfl⟩ : ∃ m, k = m + 1 := ⟨k - 1, by omega⟩
    rw [slices_IndexFunc_int_int.l0, if_neg (show ¬ (n : Int) < (L.length : Int) by omega), List.drop_eq_nil_of_le (by omega)]
    exact ⟨_, rfl, rfl⟩
  | succ j ih =>
    intro k n hn hk
    obtain ⟨k, rfl⟩ : ∃ m, k = m + 1 := ⟨k - 1, by omega⟩
    have e1 : (n : Int) + 1 = ((n + 1 : Nat) : Int) := by omega
    have c1 : (n : Int) < (L.length : Int) := by omega
    have c2 : 0 ≤ (n : Int) := by omega
    rw [slices_IndexFunc_int_int.l0]
    simp only [c1, c2, if_true, off_f, Option.bind_some]
    rw [rd_drop L n (by omega), List.any_cons]
    by_cases h : RIn (rd L (n : Int))
    · rw [decide_eq_true h, if_neg (by decide), wrap64_id ((n : Int) + 1) (by omega) (by omega), e1]
      obtain ⟨r, h1, h2⟩ := ih k (n + 1) (by omega) (by omega)
      exact ⟨r, h1, by rw [h2]; rfl⟩
    · rw [decide_eq_false h, if_pos (by decide)]
      exact ⟨_, rfl, by rw [decide_eq_true c2]; rfl⟩
theorem contains_f (k : Nat) (hk : 101 ≤ k) (L : List Int) (hl : L.length ≤ 100) : slices_ContainsFunc_int_int.f k L = some (L.any (fun x => !decide (RIn x))) := by
  unfold slices_ContainsFunc_int_int.f slices_IndexFunc_int_int.f
  obtain ⟨r, h1, h2⟩ := index_loop L hl L.length k 0 (by omega) (by omega)
  rw [show ((0 : Nat) : Int) = 0 from rfl] at h1
  rw [h1, Option.bind_some, h2]; rfl
theorem any_off (L : List Int) : (!L.any (fun x => !decide (RIn x))) = decide (∀ x ∈ L, RIn x) := by
  rw [Bool.eq_iff_iff]
  simp
theorem rtMay_f (k : Nat) (hk : 101 ≤ k) (t l : Int) (L : List Int) : rate_May.f k t l L = some (decide (RtMay t l L)) := by
  unfold rate_May.f
  rw [off_f, off_f]
  simp only [Option.bind_some]
  have no : ¬ RtMay t l L → some false = some (decide (RtMay t l L)) := fun h => congrArg some (decide_eq_false h).symm
  by_cases h1 : RIn t
  · rw [decide_eq_true h1, if_neg (by decide)]
    by_cases h2 : RIn l
    · rw [decide_eq_true h2, if_neg (by decide)]
      by_cases h3 : (L.length : Int) ≤ 10
      · rw [if_pos h3, contains_f k hk L (by omega), Option.bind_some, any_off]
        exact congrArg some (decide_eq_decide.mpr ⟨fun h => ⟨h1, h2, by omega, h⟩, fun h => h.2.2.2⟩)
      · rw [if_neg h3]; exact no (fun h => h3 (by have := h.2.2.1; omega))
    · rw [decide_eq_false h2, if_pos (by decide)]; exact no (fun h => h2 h.2.1)
  · rw [decide_eq_false h1, if_pos (by decide)]; exact no (fun h => h1 h.1)
theorem clone_f (L : List Int) (h : L.length ≤ 10) : slices_Clone_int_int.f L = some L := by
  unfold slices_Clone_int_int.f
  simp only [Option.bind_some, List.nil_append, List.length_nil]
  rw [if_pos (by omega)]
def CameFine (t l : Int) (L : List Int) (a b : Int) : Prop := RtMay t l L ∧ (l ≤ a ∧ a ≤ 1152921504606846976) ∧ (0 ≤ b ∧ b ≤ 1099511627776)
instance (t l : Int) (L : List Int) (a b : Int) : Decidable (CameFine t l L a b) := inferInstanceAs (Decidable (_ ∧ _))
theorem Came_no (k : Nat) (hk : 101 ≤ k) {t l : Int} {L : List Int} {a b : Int} (h : ¬ CameFine t l L a b) : rate_Came.f k t l L a b = some (0, 0, [], 1) := by
  obtain ⟨k, rfl⟩ : ∃ m, k = m + 1 := ⟨k - 1, by omega⟩
  unfold rate_Came.f
  have bad : rate_Came.j0 (k + 1) a b true t l L = some (0, 0, [], 1) := by rw [rate_Came.j0, if_pos rfl]
  rw [rtMay_f (k + 1) hk, rin_f, rin_f]
  simp only [Option.bind_some, decide_eq_true_eq]
  by_cases h1 : RtMay t l L
  · rw [if_pos h1]
    by_cases h2 : l ≤ a ∧ a ≤ 1152921504606846976
    · rw [if_pos h2, decide_eq_false (fun h3 => h ⟨h1, h2, h3⟩)]; exact bad
    · rw [if_neg h2, decide_eq_false h2]; exact bad
  · rw [if_neg h1, decide_eq_false h1]; exact bad
theorem Came_fine (k : Nat) (hk : 101 ≤ k) {t l : Int} {L : List Int} {a b : Int} (h : CameFine t l L a b) : rate_Came.f k t l L a b = if t + b > 1152921504606846976 then some (0, 0, [], 5) else some (t + b, a, L, 0) := by
  obtain ⟨k, rfl⟩ : ∃ m, k = m + 1 := ⟨k - 1, by omega⟩
  obtain ⟨h1, h2, h3⟩ := h
  have ht := h1.1
  unfold RIn at ht
  unfold rate_Came.f
  rw [rtMay_f (k + 1) hk, rin_f, rin_f]
  simp only [Option.bind_some, decide_eq_true_eq]
  rw [if_pos h1, if_pos h2, decide_eq_true h3, rate_Came.j0, if_neg (by decide), wrap64_id (t + b) (by omega) (by omega), clone_f L h1.2.2.1, Option.bind_some]
theorem Came_over (k : Nat) (hk : 101 ≤ k) {t l : Int} {L : List Int} {a b : Int} (h : CameFine t l L a b) (ho : t + b > 1152921504606846976) : rate_Came.f k t l L a b = some (0, 0, [], 5) := by rw [Came_fine k hk h, if_pos ho]
theorem Came_yes (k : Nat) (hk : 101 ≤ k) {t l : Int} {L : List Int} {a b : Int} (h : CameFine t l L a b) (ho : t + b ≤ 1152921504606846976) : rate_Came.f k t l L a b = some (t + b, a, L, 0) := by rw [Came_fine k hk h, if_neg (by omega)]
theorem Came_may {t l : Int} {L : List Int} {a b : Int} (h : CameFine t l L a b) (ho : t + b ≤ 1152921504606846976) : RtMay (t + b) a L := by
  obtain ⟨⟨h1, h2, h3⟩, h4, h5⟩ := h
  unfold RIn at h1 h2
  exact ⟨⟨by omega, by omega⟩, ⟨by omega, by omega⟩, h3⟩
/-- What is told of bytes in a time. -/
def rateOf (b d : Int) : Int := if b * 1000000 / d ≤ 1152921504606846976 then b * 1000000 / d else 1152921504606846976
/-- The last ten, with one more. -/
def push (L : List Int) (n : Int) : List Int := (L ++ [n]).drop ((L ++ [n]).length - 10)
theorem rateOf_in {b d : Int} (h0 : 0 ≤ b) (h1 : 1 ≤ d) : RIn (rateOf b d) := by
  have : 0 ≤ b * 1000000 / d := Int.ediv_nonneg (by omega) (by omega)
  unfold rateOf RIn
  split <;> omega
def SampFine (t l : Int) (L : List Int) (a b : Int) : Prop := RtMay t l L ∧ (0 ≤ a ∧ a ≤ t) ∧ (0 ≤ b ∧ b ≤ l)
instance (t l : Int) (L : List Int) (a b : Int) : Decidable (SampFine t l L a b) := inferInstanceAs (Decidable (_ ∧ _))
theorem Samp_no (k : Nat) (hk : 101 ≤ k) {t l : Int} {L : List Int} {a b : Int} (h : ¬ SampFine t l L a b) : rate_Sample.f k t l L a b = some (0, 0, [], 0, 1) := by
  obtain ⟨k, rfl⟩ : ∃ m, k = m + 1 := ⟨k - 1, by omega⟩
  unfold rate_Sample.f
  have bad : rate_Sample.j0 (k + 1) a b true t l L = some (0, 0, [], 0, 1) := by rw [rate_Sample.j0, if_pos rfl]
  rw [rtMay_f (k + 1) hk, rin_f, rin_f]
  simp only [Option.bind_some, decide_eq_true_eq]
  by_cases h1 : RtMay t l L
  · rw [if_pos h1]
    by_cases h2 : 0 ≤ a ∧ a ≤ t
    · rw [if_pos h2, decide_eq_false (fun h3 => h ⟨h1, h2, h3⟩)]; exact bad
    · rw [if_neg h2]; exact bad
  · rw [if_neg h1]; exact bad
theorem push_len (L : List Int) (n : Int) : (push L n).length ≤ 10 := by unfold push; simp; omega
theorem push_mem (L : List Int) (n : Int) : n ∈ push L n := by
  unfold push
  have h : (L ++ [n]).length - 10 ≤ L.length := by simp
  rw [List.drop_append_of_le_length h]
  simp
theorem push_of {L : List Int} {n x : Int} (h : x ∈ push L n) : x ∈ L ∨ x = n := by
  unfold push at h
  have := List.mem_of_mem_drop h
  simpa using this
theorem Samp_same (k : Nat) (hk : 101 ≤ k) {t l : Int} {L : List Int} {a b : Int} (h : SampFine t l L a b) (he : b = l) : rate_Sample.f k t l L a b = some (t, l, L, 0, 0) := by
  obtain ⟨k, rfl⟩ : ∃ m, k = m + 1 := ⟨k - 1, by omega⟩
  obtain ⟨h1, h2, h3⟩ := h
  unfold rate_Sample.f
  rw [rtMay_f (k + 1) hk, rin_f, rin_f]
  simp only [Option.bind_some, decide_eq_true_eq]
  rw [if_pos h1, if_pos h2, decide_eq_true h3, rate_Sample.j0, if_neg (by decide), clone_f L h1.2.2.1, Option.bind_some, if_pos he]
theorem Samp_yes (k : Nat) (hk : 102 ≤ k) {t l : Int} {L : List Int} {a b : Int} (h : SampFine t l L a b) (he : b ≠ l) : rate_Sample.f k t l L a b = some (t, l, push L (rateOf (t - a) (l - b)), rateOf (t - a) (l - b), 0) := by
  obtain ⟨k, rfl⟩ : ∃ m, k = m + 1 := ⟨k - 1, by omega⟩
  obtain ⟨h1, h2, h3⟩ := h
  obtain ⟨t1, l1, hlen, _⟩ := id h1
  unfold RIn at t1 l1
  unfold rate_Sample.f
  rw [rtMay_f (k + 1) (by omega), rin_f, rin_f]
  simp only [Option.bind_some, decide_eq_true_eq]
  rw [if_pos h1, if_pos h2, decide_eq_true h3, rate_Sample.j0, if_neg (by decide), clone_f L hlen, Option.bind_some, if_neg he, wrap64_id (t - a) (by omega) (by omega), wrap64_id (l - b) (by omega) (by omega), MulDiv_f k (by omega)]
  have cut : ∀ n : Int, (if L.length < 17592186044416 then ((some (L ++ [n] : List Int)).bind fun y => (if 0 ≤ (mx 0 (wrap64 ((y.length : Int) - 10))) then (if (mx 0 (wrap64 ((y.length : Int) - 10))) ≤ (y.length : Int) then (some (t, l, (y.drop ((mx 0 (wrap64 ((y.length : Int) - 10))) : Int).toNat), n, (0 : Int))) else (none)) else (none))) else (none)) = some (t, l, push L n, n, 0) := by
    intro n
    have hl : ((L ++ [n]).length : Int) = (L.length : Int) + 1 := by simp
    rw [if_pos (by omega), Option.bind_some, wrap64_id (((L ++ [n]).length : Int) - 10) (by omega) (by omega)]
    have hm : 0 ≤ mx 0 (((L ++ [n]).length : Int) - 10) ∧ mx 0 (((L ++ [n]).length : Int) - 10) ≤ ((L ++ [n]).length : Int) ∧ (mx 0 (((L ++ [n]).length : Int) - 10)).toNat = (L ++ [n]).length - 10 := by
      unfold mx; split <;> omega
    rw [if_pos hm.1, if_pos hm.2.1, hm.2.2]
    rfl
  have hq : 0 ≤ (t - a) * 1000000 / (l - b) := Int.ediv_nonneg (by omega) (by omega)
  rw [Option.bind_some]
  unfold rateOf
  by_cases hy : (t - a) * 1000000 / (l - b) ≤ 4611686018427387904
  · rw [MD_yes ⟨⟨by omega, by omega⟩, by decide, ⟨by omega, by omega⟩, by omega, ⟨by omega, hy⟩⟩]
    simp only [if_true]
    by_cases hz : (t - a) * 1000000 / (l - b) > 1152921504606846976
    · rw [if_pos hz, if_neg (show ¬ (t - a) * 1000000 / (l - b) ≤ 1152921504606846976 by omega)]; exact cut _
    · rw [if_neg hz, if_pos (show (t - a) * 1000000 / (l - b) ≤ 1152921504606846976 by omega)]; exact cut _
  · rw [MD_no (fun g => hy g.2.2.2.2.2), if_neg (show ¬ (t - a) * 1000000 / (l - b) ≤ 1152921504606846976 by omega)]
    simp only [Bool.false_eq_true, if_false]
    exact cut _
theorem Samp_may {t l : Int} {L : List Int} {n : Int} (h : RtMay t l L) (hn : RIn n) : RtMay t l (push L n) := by
  refine ⟨h.1, h.2.1, push_len L n, fun x hx => ?_⟩
  rcases push_of hx with hx | hx
  · exact h.2.2.2 x hx
  · rw [hx]; exact hn
/-- The greatest one, or 0. -/
def bo : List Int → Int
  | [] => 0
  | x :: L => mx x (bo L)
theorem bo_nonneg : ∀ L : List Int, 0 ≤ bo L
  | [] => by simp [bo]
  | x :: L => by have := bo_nonneg L; simp only [bo]; unfold mx; split <;> omega
theorem bo_ge : ∀ (L : List Int) (x : Int), x ∈ L → x ≤ bo L
  | y :: L, x, h => by
    simp only [bo]
    rcases List.mem_cons.mp h with rfl | h
    · unfold mx; split <;> omega
    · have := bo_ge L x h; unfold mx; split <;> omega
theorem bo_le : ∀ (L : List Int) (c : Int), 0 ≤ c → (∀ x ∈ L, x ≤ c) → bo L ≤ c
  | [], c, h, _ => h
  | y :: L, c, h, g => by
    have h1 := g y List.mem_cons_self
    have h2 := bo_le L c h (fun x hx => g x (List.mem_cons_of_mem _ hx))
    simp only [bo]; unfold mx; split <;> omega
theorem greatest_loop (L : List Int) (hl : L.length ≤ 100) : ∀ (j k n : Nat) (a : Int), n + j = L.length → j < k → 0 ≤ a → rate_greatest_int.l0 k a L (L.length : Int) (n : Int) = some (mx a (bo (L.drop n))) := by
  intro j
  induction j with
  | zero =>
    intro k n a hn hk ha
    obtain ⟨k, rfl⟩ : ∃ m, k = m + 1 := ⟨k - 1, by omega⟩
    rw [rate_greatest_int.l0, if_neg (show ¬ (n : Int) < (L.length : Int) by omega), List.drop_eq_nil_of_le (by omega)]
    simp only [bo]
    congr 1; unfold mx; split <;> omega
  | succ j ih =>
    intro k n a hn hk ha
    obtain ⟨k, rfl⟩ : ∃ m, k = m + 1 := ⟨k - 1, by omega⟩
    have e1 : (n : Int) + 1 = ((n + 1 : Nat) : Int) := by omega
    have c1 : (n : Int) < (L.length : Int) := by omega
    have c2 : 0 ≤ (n : Int) := by omega
    have ha' : 0 ≤ mx a (rd L (n : Int)) := by unfold mx; split <;> omega
    rw [rate_greatest_int.l0]
    simp only [c1, c2, if_true]
    rw [wrap64_id ((n : Int) + 1) (by omega) (by omega), e1, ih k (n + 1) _ (by omega) (by omega) ha', rd_drop L n (by omega)]
    simp only [bo]
    congr 1; unfold mx; (repeat' split) <;> omega
theorem best_f (k : Nat) (hk : 101 ≤ k) (t l : Int) (L : List Int) : rate_Best.f k t l L = some (if RtMay t l L then bo L else 0) := by
  unfold rate_Best.f rate_greatest_int.f
  rw [rtMay_f k hk]
  simp only [Option.bind_some, decide_eq_true_eq]
  by_cases h : RtMay t l L
  · have hl := h.2.2.1
    have hb := bo_nonneg L
    have h1 := greatest_loop L (by omega) L.length k 0 0 (by omega) (by omega) (by omega)
    rw [show ((0 : Nat) : Int) = 0 from rfl] at h1
    have e : mx 0 (bo (L.drop 0)) = bo L := by rw [List.drop_zero]; unfold mx; split <;> omega
    rw [if_pos h, if_pos h, h1, Option.bind_some, e]
  · rw [if_neg h, if_neg h]
theorem best_may (k : Nat) (hk : 101 ≤ k) {t l : Int} {L : List Int} (h : RtMay t l L) : rate_Best.f k t l L = some (bo L) := by rw [best_f k hk, if_pos h]

theorem awake_f (k : Nat) (hk : 102 ≤ k) : fourinhandlaw11_awake.f k = some true := by
  unfold fourinhandlaw11_awake.f
  have h1 : CameFine 0 0 [] 10000 1000 := by decide
  have h2 : SampFine (0 + 1000) 10000 [] 0 0 := by decide
  rw [Came_yes k (by omega) h1 (by omega)]
  simp only [Option.bind_some]
  rw [Samp_yes k hk h2 (by decide)]
  have e : rateOf (0 + 1000 - 0) (10000 - 0) = 100000 := by decide
  have hm : RtMay (0 + 1000) 10000 (push [] 100000) := by decide
  have hb : bo (push [] 100000) = 100000 := by decide
  rw [e]
  simp only [Option.bind_some]
  rw [best_may k (by omega) hm, rtMay_f k (by omega), decide_eq_true hm, hb]
  decide

theorem dIn_f (a : Int) : fourinhandref11_in.f a = some (decide (RIn a)) := by
  unfold fourinhandref11_in.f RIn
  by_cases h : a ≥ 0
  · rw [if_pos h]; exact congrArg some (decide_eq_decide.mpr ⟨fun h' => ⟨h, h'⟩, fun h' => h'.2⟩)
  · rw [if_neg h]; exact congrArg some (decide_eq_false (fun h' => h h'.1)).symm
theorem dMay_loop (t l : Int) (L : List Int) (hl : L.length ≤ 40) : ∀ (j k n : Nat), n + j = L.length → j < k → fourinhandref11_May.l0 k (n : Int) t l L = some (decide ((∀ x ∈ L.drop n, RIn x) ∧ RIn t ∧ RIn l ∧ L.length ≤ 10)) := by
  intro j
  induction j with
  | zero =>
    intro k n hn hk
    obtain ⟨k, rfl⟩ : ∃ m, k = m + 1 := ⟨k - 1, by omega⟩
    rw [fourinhandref11_May.l0, if_neg (show ¬ (n : Int) < (L.length : Int) by omega), List.drop_eq_nil_of_le (by omega), dIn_f, dIn_f]
    simp only [Option.bind_some, decide_eq_true_eq]
    have hA : ∀ x ∈ ([] : List Int), RIn x := by simp
    by_cases h1 : RIn t
    · rw [if_pos h1]
      by_cases h2 : RIn l
      · rw [if_pos h2]
        exact congrArg some (decide_eq_decide.mpr ⟨fun h => ⟨hA, h1, h2, by omega⟩, fun h => by have := h.2.2.2; omega⟩)
      · rw [if_neg h2, decide_eq_false (fun h => h2 h.2.2.1)]
    · rw [if_neg h1, decide_eq_false (fun h => h1 h.2.1)]
  | succ j ih =>
    intro k n hn hk
    obtain ⟨k, rfl⟩ : ∃ m, k = m + 1 := ⟨k - 1, by omega⟩
    have e1 : (n : Int) + 1 = ((n + 1 : Nat) : Int) := by omega
    have c1 : (n : Int) < (L.length : Int) := by omega
    have c2 : 0 ≤ (n : Int) := by omega
    rw [fourinhandref11_May.l0]
    simp only [c1, c2, if_true, dIn_f, Option.bind_some, decide_eq_true_eq]
    rw [rd_drop L n (by omega)]
    by_cases h : RIn (rd L (n : Int))
    · rw [if_pos h, wrap64_id ((n : Int) + 1) (by omega) (by omega), e1, ih k (n + 1) (by omega) (by omega)]
      refine congrArg some (decide_eq_decide.mpr ⟨fun g => ⟨fun x hx => ?_, g.2⟩, fun g => ⟨fun x hx => g.1 x (List.mem_cons_of_mem _ hx), g.2⟩⟩)
      rcases List.mem_cons.mp hx with hx | hx
      · rw [hx]; exact h
      · exact g.1 x hx
    · rw [if_neg h, decide_eq_false (fun g => h (g.1 _ List.mem_cons_self))]
theorem dMay_f (k : Nat) (hk : 41 ≤ k) (t l : Int) (L : List Int) (hl : L.length ≤ 40) : fourinhandref11_May.f k t l L = some (decide (RtMay t l L)) := by
  unfold fourinhandref11_May.f
  have h := dMay_loop t l L hl L.length k 0 (by omega) (by omega)
  rw [show ((0 : Nat) : Int) = 0 from rfl] at h
  rw [h, List.drop_zero]
  exact congrArg some (decide_eq_decide.mpr ⟨fun g => ⟨g.2.1, g.2.2.1, g.2.2.2, g.1⟩, fun g => ⟨g.2.2.2, g.1, g.2.1, g.2.2.1⟩⟩)
theorem dOwn_f (t l : Int) (L : List Int) (hl : L.length ≤ 40) : fourinhandref11_Own.f t l L = some (t, l, L) := by
  unfold fourinhandref11_Own.f
  rw [if_pos (by simp; omega), List.nil_append]
theorem dCame_f (k : Nat) (hk : 101 ≤ k) (t l : Int) (L : List Int) (a b : Int) (hl : L.length ≤ 40) : ∃ x, rate_Came.f k t l L a b = some x ∧ fourinhandref11_Came.f k t l L a b = some x := by
  obtain ⟨k, rfl⟩ : ∃ m, k = m + 1 := ⟨k - 1, by omega⟩
  have bad : fourinhandref11_Came.j0 (k + 1) a b true t l L = some (0, 0, [], 1) := by rw [fourinhandref11_Came.j0, if_pos rfl]
  unfold fourinhandref11_Came.f
  rw [dMay_f (k + 1) (by omega) t l L hl, dIn_f]
  simp only [Option.bind_some, decide_eq_true_eq]
  by_cases h : CameFine t l L a b
  · obtain ⟨h1, h2, h3⟩ := id h
    obtain ⟨ht, hl0, _⟩ := id h1
    unfold RIn at ht hl0
    have ha : RIn a := ⟨by omega, by omega⟩
    have n3 : ¬ b > 1099511627776 := by omega
    rw [Came_fine (k + 1) hk h, if_pos h1, if_neg (show ¬ a < l by omega), if_pos ha, if_neg (show ¬ b < 0 by omega), decide_eq_false n3, fourinhandref11_Came.j0, if_neg (show ¬ (false = true) by decide), wrap64_id (t + b) (by omega) (by omega), dIn_f, dOwn_f t l L hl]
    simp only [Option.bind_some, decide_eq_true_eq]
    by_cases ho : t + b > 1152921504606846976
    · exact ⟨_, if_pos ho, if_neg (fun g => by have := g.2; omega)⟩
    · have hin : RIn (t + b) := ⟨by omega, by omega⟩
      rw [if_neg ho, if_pos hin]; exact ⟨_, rfl, rfl⟩
  · rw [Came_no (k + 1) hk h]
    refine ⟨_, rfl, ?_⟩
    by_cases h1 : RtMay t l L
    · rw [if_pos h1]
      by_cases h2 : a < l
      · rw [if_pos h2]; exact bad
      rw [if_neg h2]
      by_cases h3 : RIn a
      · rw [if_pos h3]
        by_cases h4 : b < 0
        · rw [if_pos h4]; exact bad
        rw [if_neg h4]
        have h5 : b > 1099511627776 := by
          by_cases h5 : b > 1099511627776
          · exact h5
          · exact absurd ⟨h1, ⟨by omega, h3.2⟩, by omega, by omega⟩ h
        rw [decide_eq_true h5]; exact bad
      · rw [if_neg h3]; exact bad
    · rw [if_neg h1]; exact bad
theorem dPush (k : Nat) (t l : Int) (L : List Int) (hL : L.length ≤ 10) (n v : Int) (big : Bool) (hv : v = if big = true then 1152921504606846976 else n) : fourinhandref11_Sample.j1 (k + 1) n big t l L = some (t, l, push L v, v, 0) := by
  have cut : ∀ n : Int, (if L.length < 17592186044416 then ((some (L ++ [n] : List Int)).bind fun y => (if (y.length : Int) > 10 then (if 1 ≤ (y.length : Int) then (some (t, l, (y.drop (1 : Int).toNat), n, (0 : Int))) else (none)) else (some (t, l, y, n, 0)))) else (none)) = some (t, l, push L n, n, 0) := by
    intro n
    have hlen : ((L ++ [n]).length : Int) = (L.length : Int) + 1 := by simp
    rw [if_pos (by omega), Option.bind_some]
    unfold push
    by_cases h : ((L ++ [n]).length : Int) > 10
    · rw [if_pos h, if_pos (by omega), show (L ++ [n]).length - 10 = (1 : Int).toNat by omega]
    · rw [if_neg h, show (L ++ [n]).length - 10 = 0 by omega, List.drop_zero]
  rw [fourinhandref11_Sample.j1]
  cases big with
  | true => rw [if_pos rfl, hv, if_pos rfl]; exact cut _
  | false => rw [hv]; simp only [Bool.false_eq_true, if_false]; exact cut _
theorem dSamp_f (k : Nat) (hk : 202 ≤ k) (t l : Int) (L : List Int) (a b : Int) (hl : L.length ≤ 40) : ∃ x, rate_Sample.f k t l L a b = some x ∧ fourinhandref11_Sample.f k t l L a b = some x := by
  obtain ⟨k, rfl⟩ : ∃ m, k = m + 2 := ⟨k - 2, by omega⟩
  have bad : fourinhandref11_Sample.j0 (k + 2) a b true t l L = some (0, 0, [], 0, 1) := by rw [fourinhandref11_Sample.j0, if_pos rfl]
  unfold fourinhandref11_Sample.f
  rw [dMay_f (k + 2) (by omega) t l L hl]
  simp only [Option.bind_some, decide_eq_true_eq]
  by_cases h : SampFine t l L a b
  · obtain ⟨h1, h2, h3⟩ := id h
    obtain ⟨ht, hl0, hlen, _⟩ := id h1
    unfold RIn at ht hl0
    have n1 : ¬ b > l := by omega
    rw [if_pos h1, if_neg (show ¬ a < 0 by omega), if_neg (show ¬ a > t by omega), if_neg (show ¬ b < 0 by omega), decide_eq_false n1, fourinhandref11_Sample.j0, if_neg (show ¬ (false = true) by decide), dOwn_f t l L hl]
    simp only [Option.bind_some]
    rw [wrap64_id (l - b) (by omega) (by omega)]
    by_cases he : b = l
    · rw [Samp_same (k + 2) (by omega) h he, if_pos (show l - b ≤ 0 by omega)]; exact ⟨_, rfl, rfl⟩
    · rw [Samp_yes (k + 2) (by omega) h he, if_neg (show ¬ l - b ≤ 0 by omega), wrap64_id (t - a) (by omega) (by omega), rMulDiv_f (k + 1) (by omega)]
      simp only [Option.bind_some]
      refine ⟨_, rfl, ?_⟩
      have hq : 0 ≤ (t - a) * 1000000 / (l - b) := Int.ediv_nonneg (by omega) (by omega)
      have hc : 1000000 * (t - a) = (t - a) * 1000000 := Int.mul_comm _ _
      by_cases hy : (t - a) * 1000000 / (l - b) ≤ 4611686018427387904
      · rw [MD_yes ⟨by decide, ⟨by omega, by omega⟩, ⟨by omega, by omega⟩, by omega, by rw [hc]; exact ⟨by omega, hy⟩⟩]
        simp only [if_true]
        rw [hc]
        refine dPush k t l L hlen _ _ _ ?_
        unfold rateOf
        by_cases hz : (t - a) * 1000000 / (l - b) > 1152921504606846976
        · rw [decide_eq_true hz, if_pos rfl, if_neg (show ¬ (t - a) * 1000000 / (l - b) ≤ 1152921504606846976 by omega)]
        · rw [decide_eq_false hz, if_pos (show (t - a) * 1000000 / (l - b) ≤ 1152921504606846976 by omega)]; simp only [Bool.false_eq_true, if_false]
      · rw [MD_no (fun g => hy (by have := g.2.2.2.2.2; rwa [hc] at this))]
        simp only [Bool.false_eq_true, if_false]
        refine dPush k t l L hlen _ _ _ ?_
        unfold rateOf
        rw [if_pos rfl, if_neg (show ¬ (t - a) * 1000000 / (l - b) ≤ 1152921504606846976 by omega)]
  · rw [Samp_no (k + 2) (by omega) h]
    refine ⟨_, rfl, ?_⟩
    by_cases h1 : RtMay t l L
    · rw [if_pos h1]
      by_cases h2 : a < 0
      · rw [if_pos h2]; exact bad
      rw [if_neg h2]
      by_cases h3 : a > t
      · rw [if_pos h3]; exact bad
      rw [if_neg h3]
      by_cases h4 : b < 0
      · rw [if_pos h4]; exact bad
      rw [if_neg h4]
      have h5 : b > l := by
        by_cases h5 : b > l
        · exact h5
        · exact absurd ⟨h1, ⟨by omega, by omega⟩, by omega, by omega⟩ h
      rw [decide_eq_true h5]; exact bad
    · rw [if_neg h1]; exact bad
theorem ints_loop (L : List Int) (hl : L.length ≤ 100) : ∀ (j k n : Nat), n + j = L.length → j < k → fourinhandref03_Ints.l0 k L L (n : Int) = some true := by
  intro j
  induction j with
  | zero =>
    intro k n hn hk
    obtain ⟨k, rfl⟩ : ∃ m, k = m + 1 := ⟨k - 1, by omega⟩
    rw [fourinhandref03_Ints.l0, if_neg (show ¬ (n : Int) < (L.length : Int) by omega)]
  | succ j ih =>
    intro k n hn hk
    obtain ⟨k, rfl⟩ : ∃ m, k = m + 1 := ⟨k - 1, by omega⟩
    have e1 : (n : Int) + 1 = ((n + 1 : Nat) : Int) := by omega
    have c1 : (n : Int) < (L.length : Int) := by omega
    have c2 : 0 ≤ (n : Int) := by omega
    rw [fourinhandref03_Ints.l0]
    simp only [c1, c2, if_true]
    rw [wrap64_id ((n : Int) + 1) (by omega) (by omega), e1]
    exact ih k (n + 1) (by omega) (by omega)
theorem same_f (k : Nat) (hk : 101 ≤ k) (t l : Int) (L : List Int) (hl : L.length ≤ 100) : fourinhandref11_Same.f k t l L t l L = some true := by
  unfold fourinhandref11_Same.f fourinhandref03_Ints.f
  have h := ints_loop L hl L.length k 0 (by omega) (by omega)
  rw [show ((0 : Nat) : Int) = 0 from rfl] at h
  rw [if_pos rfl, h, Option.bind_some, if_pos rfl, if_pos rfl]
  simp
theorem dBest_loop (t l : Int) (L : List Int) (hl : L.length ≤ 40) : ∀ (j k n : Nat) (a : Int), n + j = L.length → 2 * j + 2 ≤ k → 0 ≤ a → fourinhandref11_Best.l0 k a true (n : Int) t l L = some (mx a (bo (L.drop n))) := by
  intro j
  induction j with
  | zero =>
    intro k n a hn hk ha
    obtain ⟨k, rfl⟩ : ∃ m, k = m + 2 := ⟨k - 2, by omega⟩
    rw [fourinhandref11_Best.l0, if_neg (show ¬ (n : Int) < (L.length : Int) by omega), fourinhandref11_Best.j1, if_neg (by decide), List.drop_eq_nil_of_le (by omega)]
    simp only [bo]
    congr 1; unfold mx; split <;> omega
  | succ j ih =>
    intro k n a hn hk ha
    obtain ⟨k, rfl⟩ : ∃ m, k = m + 2 := ⟨k - 2, by omega⟩
    have e1 : (n : Int) + 1 = ((n + 1 : Nat) : Int) := by omega
    have c1 : (n : Int) < (L.length : Int) := by omega
    have c2 : 0 ≤ (n : Int) := by omega
    rw [fourinhandref11_Best.l0, if_pos c1, fourinhandref11_Best.j1, if_pos rfl]
    simp only [c1, c2, if_true]
    rw [wrap64_id ((n : Int) + 1) (by omega) (by omega), e1, rd_drop L n (by omega)]
    simp only [bo]
    by_cases h : rd L (n : Int) > a
    · rw [if_pos h, ih k (n + 1) _ (by omega) (by omega) (by omega)]
      congr 1; unfold mx; (repeat' split) <;> omega
    · rw [if_neg h, ih k (n + 1) _ (by omega) (by omega) ha]
      congr 1; unfold mx; (repeat' split) <;> omega
theorem dBest_f (k : Nat) (hk : 101 ≤ k) (t l : Int) (L : List Int) (hl : L.length ≤ 40) : fourinhandref11_Best.f k t l L = some (if RtMay t l L then bo L else 0) := by
  unfold fourinhandref11_Best.f
  rw [dMay_f k (by omega) t l L hl, Option.bind_some]
  by_cases h : RtMay t l L
  · have hb := bo_nonneg L
    have h1 := dBest_loop t l L hl L.length k 0 0 (by omega) (by omega) (by omega)
    rw [show ((0 : Nat) : Int) = 0 from rfl] at h1
    have e : mx 0 (bo (L.drop 0)) = bo L := by rw [List.drop_zero]; unfold mx; split <;> omega
    rw [decide_eq_true h, h1, if_pos h, e]
  · obtain ⟨k, rfl⟩ : ∃ m, k = m + 2 := ⟨k - 2, by omega⟩
    rw [decide_eq_false h, if_neg h, fourinhandref11_Best.l0]
    split <;> rw [fourinhandref11_Best.j1, if_neg (by decide)]
theorem came_len (k : Nat) (hk : 101 ≤ k) {t l : Int} {L : List Int} {a b : Int} {x : Int × Int × List Int × Int} (hl : L.length ≤ 40) (h : rate_Came.f k t l L a b = some x) : x.2.2.1.length ≤ 100 := by
  by_cases hc : CameFine t l L a b
  · by_cases ho : t + b > 1152921504606846976
    · rw [Came_over k hk hc ho] at h; cases h; simp
    · rw [Came_yes k hk hc (by omega)] at h; cases h; show L.length ≤ 100; omega
  · rw [Came_no k hk hc] at h; cases h; simp
theorem samp_len (k : Nat) (hk : 102 ≤ k) {t l : Int} {L : List Int} {a b : Int} {x : Int × Int × List Int × Int × Int} (hl : L.length ≤ 40) (h : rate_Sample.f k t l L a b = some x) : x.2.2.1.length ≤ 100 := by
  by_cases hs : SampFine t l L a b
  · by_cases he : b = l
    · rw [Samp_same k (by omega) hs he] at h; cases h; show L.length ≤ 100; omega
    · rw [Samp_yes k hk hs he] at h; cases h; have := push_len L (rateOf (t - a) (l - b)); show (push L _).length ≤ 100; omega
  · rw [Samp_no k (by omega) hs] at h; cases h; simp
theorem RateTells : fourinhandlaw11_RateTells.Pure := by
  intro t l L a b tot las _ _ _ _ _
  refine ⟨401, ?_⟩
  unfold fourinhandlaw11_RateTells.f
  rw [awake_f 401 (by omega), Option.bind_some, if_pos rfl]
  by_cases h0 : (L.length : Int) > 40
  · rw [decide_eq_true h0, fourinhandlaw11_RateTells.j0, if_pos rfl]
  have hl : L.length ≤ 40 := by omega
  rw [decide_eq_false h0, fourinhandlaw11_RateTells.j0, if_neg (by decide), dOwn_f t l L hl]
  obtain ⟨⟨x1, x2, x3, x4⟩, hx1, hx2⟩ := dCame_f 400 (by omega) t l L a b hl
  obtain ⟨⟨y1, y2, y3, y4, y5⟩, hy1, hy2⟩ := dSamp_f 400 (by omega) t l L tot las hl
  have g1 : x3.length ≤ 100 := came_len 400 (by omega) hl hx1
  have g2 : y3.length ≤ 100 := samp_len 400 (by omega) hl hy1
  simp only [Option.bind_some]
  rw [hx1, hx2]
  simp only [Option.bind_some]
  rw [same_f 400 (by omega) x1 x2 x3 g1, hy1, hy2]
  simp only [Option.bind_some]
  rw [same_f 400 (by omega) y1 y2 y3 g2]
  simp only [Option.bind_some, if_true, beq_self_eq_true]
  rw [fourinhandlaw11_RateTells.j1, if_pos rfl, same_f 399 (by omega) t l L (by omega), best_f 399 (by omega), dBest_f 399 (by omega) t l L hl, rtMay_f 399 (by omega), dMay_f 399 (by omega) t l L hl]
  simp only [Option.bind_some, if_true, beq_self_eq_true]

end Go.Proofs.Ytfdaaodpbaikdaa.Pure
