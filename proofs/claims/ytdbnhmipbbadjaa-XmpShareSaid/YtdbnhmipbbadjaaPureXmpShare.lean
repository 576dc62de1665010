/- A greater window's share is no less, of as long answers; one without a weight has none; in whichever order, shares are the same: for every input, without a condition. -/
import Derived.Test.YtdbnhmipbbadjaaPXmpSharex3
import Derived.Test.YtdbnhmipbbadjaaStmtXmpShare
import Derived.Laws.BitsLemmas
import Derived.Laws.Bits64
namespace Go.Proofs.Ytdbnhmipbbadjaa.Pure
open Go.RowKit Go.Proofs.Ytdbnhmipbbadjaa.PXmpShare Go.Proofs.YtdbnhmipbbadjaaW.PrintWords Go.Proofs.YtdbnhmipbbadjaaW.PrintLast Go.Proofs.YtdbnhmipbbadjaaW.PrintMore
/-! ### bits and words of 64 bits -/
theorem wraps_u64 (n : Int) (h0 : 0 ≤ n) (h1 : n < 2 ^ 64) : IntKind.u64.wrap n = n := by rw [IntKind.wrap_u64]; omega
theorem and_low32 (x : Int) (h0 : 0 ≤ x) (h1 : x < 18446744073709551616) : Go.bits .and .u64 x 4294967295 = x % 4294967296 :=
  bits_mask .u64 64 (by decide) wraps_u64 32 (by decide) x h0 h1
theorem and_one (x : Int) (h0 : 0 ≤ x) (h1 : x < 18446744073709551616) : Go.bits .and .u64 x 1 = x % 2 :=
  bits_mask .u64 64 (by decide) wraps_u64 1 (by decide) x h0 h1
theorem or_low32 (x y : Int) (h0 : 0 ≤ x) (h1 : x < 18446744073709551616) (h2 : x % 4294967296 = 0) (h3 : 0 ≤ y) (h4 : y < 4294967296) : Go.bits .or .u64 x y = x + y :=
  bits_join .u64 64 (by decide) wraps_u64 32 x y h0 h2 h1 h3 h4 (by omega)
theorem or_one (x y : Int) (h0 : 0 ≤ x) (h1 : x < 18446744073709551616) (h2 : x % 2 = 0) (h3 : 0 ≤ y) (h4 : y < 2) : Go.bits .or .u64 x y = x + y :=
  bits_join .u64 64 (by decide) wraps_u64 1 x y h0 h2 h1 h3 h4 (by omega)
theorem wrap64_id (n : Int) (h0 : -9223372036854775808 ≤ n) (h1 : n < 9223372036854775808) : wrap64 n = n := by unfold wrap64; omega

/-! ### the number's range -/
def InR (a : Int) : Prop := -4611686018427387904 ≤ a ∧ a ≤ 4611686018427387904
instance (a : Int) : Decidable (InR a) := inferInstanceAs (Decidable (_ ∧ _))
theorem In_f (a : Int) : fix_In.f a = some (decide (InR a)) := by
  unfold fix_In.f
  by_cases h : a ≥ (-4611686018427387904)
  · rw [if_pos h]; exact congrArg some (decide_eq_decide.mpr ⟨fun h' => ⟨h, h'⟩, fun h' => h'.2⟩)
  · rw [if_neg h]; exact congrArg some (decide_eq_false (fun h' => h h'.1)).symm
theorem size_f (a : Int) (h : InR a) : fix_size.f a = some (if a < 0 then -a else a, decide (a < 0)) := by
  unfold fix_size.f
  unfold InR at h
  by_cases h0 : a < 0
  · rw [if_pos h0, if_pos h0, wrap64_id _ (by omega) (by omega), wraps_u64 _ (by omega) (by omega)]; simp [h0]
  · rw [if_neg h0, if_neg h0, wraps_u64 _ (by omega) (by omega)]; simp [h0]

/-! ### the product of 128 bits -/
theorem mul_le_of (a b A B : Int) (h0 : 0 ≤ a) (h1 : a ≤ A) (h2 : 0 ≤ b) (h3 : b ≤ B) : 0 ≤ a * b ∧ a * b ≤ A * B :=
  ⟨Int.mul_nonneg h0 h2, Int.mul_le_mul h1 h3 h2 (by omega)⟩
theorem product_f (x y : Int) (hx0 : 0 ≤ x) (hx : x ≤ 4611686018427387904) (hy0 : 0 ≤ y) (hy : y ≤ 4611686018427387904) :
    fix_product.f x y = some (x * y / 18446744073709551616, x * y % 18446744073709551616) := by
  unfold fix_product.f
  rw [and_low32 x hx0 (by omega), and_low32 y hy0 (by omega)]
  obtain ⟨xh, hxh⟩ : ∃ z, x / 4294967296 = z := ⟨_, rfl⟩
  obtain ⟨xl, hxl⟩ : ∃ z, x % 4294967296 = z := ⟨_, rfl⟩
  obtain ⟨yh, hyh⟩ : ∃ z, y / 4294967296 = z := ⟨_, rfl⟩
  obtain ⟨yl, hyl⟩ : ∃ z, y % 4294967296 = z := ⟨_, rfl⟩
  rw [hxh, hxl, hyh, hyl]
  have ex : x = xh * 4294967296 + xl := by omega
  have ey : y = yh * 4294967296 + yl := by omega
  have b1 : 0 ≤ xh ∧ xh ≤ 1073741824 ∧ 0 ≤ xl ∧ xl ≤ 4294967295 := by omega
  have b2 : 0 ≤ yh ∧ yh ≤ 1073741824 ∧ 0 ≤ yl ∧ yl ≤ 4294967295 := by omega
  have exy : x * y = xh * yh * 18446744073709551616 + (xh * yl + xl * yh) * 4294967296 + xl * yl := by
    rw [ex, ey]; grind
  have bA := mul_le_of xh yh 1073741824 1073741824 b1.1 b1.2.1 b2.1 b2.2.1
  have bB := mul_le_of xh yl 1073741824 4294967295 b1.1 b1.2.1 b2.2.2.1 b2.2.2.2
  have bC := mul_le_of xl yh 4294967295 1073741824 b1.2.2.1 b1.2.2.2 b2.1 b2.2.1
  have bP := mul_le_of xl yl 4294967295 4294967295 b1.2.2.1 b1.2.2.2 b2.2.2.1 b2.2.2.2
  rw [exy]
  clear exy ex ey hxh hxl hyh hyl b1 b2
  generalize xh * yh = A at *
  generalize xh * yl = B at *
  generalize xl * yh = C at *
  generalize xl * yl = P at *
  rw [wraps_u64 A (by omega) (by omega), wraps_u64 B (by omega) (by omega), wraps_u64 C (by omega) (by omega), wraps_u64 P (by omega) (by omega)]
  rw [wraps_u64 (B + P / 4294967296) (by omega) (by omega), and_low32 (B + P / 4294967296) (by omega) (by omega), and_low32 P (by omega) (by omega)]
  rw [wraps_u64 (C + (B + P / 4294967296) % 4294967296) (by omega) (by omega)]
  rw [wraps_u64 (A + (B + P / 4294967296) / 4294967296) (by omega) (by omega)]
  rw [wraps_u64 (A + (B + P / 4294967296) / 4294967296 + (C + (B + P / 4294967296) % 4294967296) / 4294967296) (by omega) (by omega)]
  rw [IntKind.wrap_u64 ((C + (B + P / 4294967296) % 4294967296) * 4294967296)]
  rw [or_low32 _ _ (by omega) (by omega) (by omega) (by omega) (by omega)]
  simp only [Option.some.injEq, Prod.mk.injEq]
  constructor <;> omega

/-! ### the long division -/
theorem mod_two_pow_succ (m n : Nat) : m % 2 ^ (n + 1) = m / 2 ^ n % 2 * 2 ^ n + m % 2 ^ n := by
  rw [Nat.mod_pow_succ, Nat.mul_comm, Nat.add_comm]
theorem by_loop (c : Int) (hc1 : 1 ≤ c) (hc : c ≤ 4611686018427387904) (hi : Int) (m : Nat) (hm : m < 2 ^ 64) : ∀ (n : Nat), n ≤ 64 → ∀ (k : Nat), n < k → ∀ (q r : Int), 0 ≤ r → r < c → 0 ≤ q → q < 2 ^ (64 - n) →
    ∃ q' r', fix_wide_by.l0 k c q r ((n : Int) - 1) hi m = some (q', r') ∧ 0 ≤ r' ∧ r' < c ∧ 0 ≤ q' ∧ q' * c + r' = (q * c + r) * 2 ^ n + (m % 2 ^ n : Nat) := by
  intro n
  induction n with
  | zero =>
    intro _ k hk q r h0 h1 h2 h3
    obtain ⟨k, rfl⟩ : ∃ j, k = j + 1 := ⟨k - 1, by omega⟩
    refine ⟨q, r, ?_, h0, h1, h2, by simp [Nat.mod_one]⟩
    simp only [fix_wide_by.l0]
    rw [if_neg (by omega)]
  | succ n ih =>
    intro hn k hk q r h0 h1 h2 h3
    obtain ⟨k, rfl⟩ : ∃ j, k = j + 1 := ⟨k - 1, by omega⟩
    have hq2 : q * 2 + 1 < 2 ^ (64 - n) := by
      have e : (64 - n) = (64 - (n + 1)) + 1 := by omega
      rw [e, Int.pow_succ]; omega
    have hpow : (2 : Int) ^ (64 - n) ≤ 18446744073709551616 := by
      have h1 : (2 : Nat) ^ (64 - n) ≤ 18446744073709551616 := Nat.pow_le_pow_right (n := 2) (j := 64) (by decide) (by omega)
      have h2 : (2 : Int) ^ (64 - n) = ((2 ^ (64 - n) : Nat) : Int) := by simp
      rw [h2]; omega
    have e1 : ((n + 1 : Nat) : Int) - 1 = (n : Int) := by omega
    rw [e1, fix_wide_by.l0]
    rw [if_pos (by omega), if_pos (by omega)]
    have e2 : shr .u64 (m : Int) (n : Int) = ((m / 2 ^ n : Nat) : Int) := by
      unfold shr
      have : min ((n : Int)).toNat IntKind.u64.bits = n := by simp [IntKind.bits]; omega
      rw [this]; simp
    have hb : m / 2 ^ n ≤ m := Nat.div_le_self _ _
    rw [e2]
    generalize hM : m / 2 ^ n = M at *
    rw [and_one _ (by omega) (by omega)]
    have e3 : (M : Int) % 2 = ((M % 2 : Nat) : Int) := by omega
    rw [e3]
    have hs := mod_two_pow_succ m n
    rw [hM] at hs
    have hbit : M % 2 < 2 := Nat.mod_lt _ (by decide)
    generalize M % 2 = b at *
    rw [wraps_u64 (r * 2) (by omega) (by omega), wraps_u64 (q * 2) (by omega) (by omega)]
    rw [or_one (r * 2) b (by omega) (by omega) (by omega) (by omega) (by omega), or_one (q * 2) 1 (by omega) (by omega) (by omega) (by omega) (by omega)]
    rw [wrap64_id ((n : Int) - 1) (by omega) (by omega)]
    by_cases hge : r * 2 + (b : Int) ≥ c
    · rw [if_pos hge, wraps_u64 (r * 2 + b - c) (by omega) (by omega)]
      obtain ⟨q', r', he, a1, a2, a3, a4⟩ := ih (by omega) k (by omega) (q * 2 + 1) (r * 2 + b - c) (by omega) (by omega) (by omega) hq2
      refine ⟨q', r', he, a1, a2, a3, ?_⟩
      rw [a4, hs]
      simp only [Int.natCast_add, Int.natCast_mul, Int.pow_succ, Int.natCast_pow]
      grind
    · rw [if_neg hge]
      obtain ⟨q', r', he, a1, a2, a3, a4⟩ := ih (by omega) k (by omega) (q * 2) (r * 2 + b) (by omega) (by omega) (by omega) (by omega)
      refine ⟨q', r', he, a1, a2, a3, ?_⟩
      rw [a4, hs]
      simp only [Int.natCast_add, Int.natCast_mul, Int.pow_succ, Int.natCast_pow]
      grind
theorem by_f (k : Nat) (hk : 64 < k) (p c : Int) (hc1 : 1 ≤ c) (hc : c ≤ 4611686018427387904) (hp0 : 0 ≤ p) (hp : p / 18446744073709551616 < c) :
    fix_wide_by.f k (p / 18446744073709551616) (p % 18446744073709551616) c = some (p / c, p % c) := by
  obtain ⟨m, hm⟩ : ∃ m : Nat, p % 18446744073709551616 = m := ⟨(p % 18446744073709551616).toNat, by omega⟩
  have hm2 : m < 2 ^ 64 := by omega
  obtain ⟨q, r, he, a1, a2, a3, a4⟩ := by_loop c hc1 hc (p / 18446744073709551616) m hm2 64 (by omega) k hk 0 (p / 18446744073709551616) (by omega) hp (by omega) (by decide)
  unfold fix_wide_by.f
  rw [hm]
  refine he.trans ?_
  rw [Nat.mod_eq_of_lt hm2] at a4
  have e : q * c + r = p := by
    have : (2 : Int) ^ 64 = 18446744073709551616 := by decide
    rw [this] at a4
    omega
  have e2 : p / c = q := by
    rw [← e, Int.add_comm, Int.add_mul_ediv_right _ _ (by omega), Int.ediv_eq_zero_of_lt a1 a2]; omega
  have e3 : p % c = r := by
    rw [← e, Int.add_comm, Int.add_mul_emod_self_right, Int.emod_eq_of_lt a1 a2]
  rw [e2, e3]

/-! ### MulDiv -/
def MD (a b c : Int) : Int × Bool := if InR a ∧ InR b ∧ InR c ∧ 1 ≤ c ∧ InR (a * b / c) then (a * b / c, true) else (0, false)
theorem ediv_neg_floor (p c : Int) (hc : 1 ≤ c) : (-p) / c = if p % c > 0 then -(p / c + 1) else -(p / c) := by
  have h1 := Int.emod_add_mul_ediv p c
  have h2 := Int.emod_nonneg p (show c ≠ 0 by omega)
  have h3 := Int.emod_lt_of_pos p (show 0 < c by omega)
  split
  · rename_i h
    have : -p = (c - p % c) + c * (-(p / c + 1)) := by grind
    rw [this, Int.add_mul_ediv_left _ _ (by omega), Int.ediv_eq_zero_of_lt (by omega) (by omega)]; omega
  · rename_i h
    have : -p = 0 + c * (-(p / c)) := by grind
    rw [this, Int.add_mul_ediv_left _ _ (by omega)]; simp
theorem MulDiv_f (k : Nat) (hk : 100 ≤ k) (a b c : Int) : fix_MulDiv.f k a b c = some (MD a b c) := by
  obtain ⟨k, rfl⟩ : ∃ j, k = j + 4 := ⟨k - 4, by omega⟩
  unfold fix_MulDiv.f MD
  rw [In_f, In_f, In_f]
  simp only [Option.bind_some, decide_eq_true_eq]
  by_cases ha : ¬ InR a
  · rw [if_neg ha, if_neg (fun h => ha h.1)]; simp [fix_MulDiv.j0]
  by_cases hb : ¬ InR b
  · rw [if_pos (Decidable.not_not.mp ha), if_neg hb, if_neg (fun h => hb h.2.1)]; simp [fix_MulDiv.j0]
  by_cases hc : ¬ InR c
  · rw [if_pos (Decidable.not_not.mp ha), if_pos (Decidable.not_not.mp hb), if_neg hc, if_neg (fun h => hc h.2.2.1)]; simp [fix_MulDiv.j0]
  replace ha := Decidable.not_not.mp ha
  replace hb := Decidable.not_not.mp hb
  replace hc := Decidable.not_not.mp hc
  rw [if_pos ha, if_pos hb, if_pos hc]
  by_cases hc1 : c < 1
  · rw [if_neg (fun h => by omega)]; simp [fix_MulDiv.j0, hc1]
  simp only [fix_MulDiv.j0, hc1, decide_false, Bool.false_eq_true, if_false]
  rw [size_f a ha, size_f b hb]
  simp only [Option.bind_some]
  obtain ⟨x, hx⟩ : ∃ x, (if a < 0 then -a else a) = x := ⟨_, rfl⟩
  obtain ⟨y, hy⟩ : ∃ y, (if b < 0 then -b else b) = y := ⟨_, rfl⟩
  rw [hx, hy]
  unfold InR at ha hb hc
  have hx0 : 0 ≤ x ∧ x ≤ 4611686018427387904 := by split at hx <;> omega
  have hy0 : 0 ≤ y ∧ y ≤ 4611686018427387904 := by split at hy <;> omega
  rw [product_f x y hx0.1 hx0.2 hy0.1 hy0.2]
  simp only [Option.bind_some]
  rw [wraps_u64 c (by omega) (by omega)]
  have hp0 : 0 ≤ x * y := Int.mul_nonneg hx0.1 hy0.1
  -- the signed product
  have hs : a * b = if (decide (a < 0) != decide (b < 0)) = true then -(x * y) else x * y := by
    by_cases h1 : a < 0 <;> by_cases h2 : b < 0 <;> simp [h1, h2] at hx hy ⊢ <;> subst hx <;> subst hy <;> grind
  have hce : c * (x * y / c) ≤ x * y := by
    have := Int.emod_add_mul_ediv (x * y) c
    have := Int.emod_nonneg (x * y) (show c ≠ 0 by omega)
    omega
  have hq0 : 0 ≤ x * y / c := Int.ediv_nonneg hp0 (by omega)
  by_cases hbig : x * y / 18446744073709551616 ≥ c
  · rw [if_pos hbig]
    -- the quotient has more than 64 bits
    have hq : 18446744073709551616 ≤ x * y / c := by
      rw [Int.le_ediv_iff_mul_le (by omega)]
      omega
    rw [if_neg]
    rintro ⟨_, _, _, _, h⟩
    unfold InR at h
    rw [hs] at h
    split at h
    · rw [ediv_neg_floor _ _ (by omega)] at h
      split at h <;> omega
    · omega
  · rw [if_neg hbig, by_f _ (by omega) (x * y) c (by omega) (by omega) hp0 (by omega)]
    simp only [Option.bind_some]
    have hq1 : x * y / c < 18446744073709551616 := by
      rw [Int.ediv_lt_iff_lt_mul (by omega)]
      omega
    have hInR : ∀ z : Int, InR z ↔ (-4611686018427387904 ≤ z ∧ z ≤ 4611686018427387904) := fun _ => Iff.rfl
    by_cases hd : (decide (a < 0) != decide (b < 0)) = true
    · rw [if_pos hd] at hs ⊢
      rw [hs, ediv_neg_floor _ _ (by omega)]
      by_cases hr : x * y % c > 0
      · rw [if_pos hr, if_pos hr]
        simp only [fix_MulDiv.j1, fix_MulDiv.j2, hd, if_true]
        by_cases hle : x * y / c ≤ 4611686018427387904
        · rw [if_pos (by simpa using hle), wraps_u64 _ (by omega) (by omega)]
          by_cases hgt : x * y / c + 1 > 4611686018427387904
          · rw [if_pos hgt, if_neg (by simp only [hInR]; omega)]
          · rw [if_neg hgt, if_pos (by simp only [hInR]; omega), wrap64_id (x * y / c + 1) (by omega) (by omega), wrap64_id _ (by omega) (by omega)]
        · rw [if_neg (by simpa using hle), if_pos (by omega), if_neg (by simp only [hInR]; omega)]
      · rw [if_neg hr, if_neg hr]
        simp only [fix_MulDiv.j1, fix_MulDiv.j2, hd, if_true, Bool.false_eq_true, if_false]
        by_cases hgt : x * y / c > 4611686018427387904
        · rw [if_pos hgt, if_neg (by simp only [hInR]; omega)]
        · rw [if_neg hgt, if_pos (by simp only [hInR]; omega), wrap64_id (x * y / c) (by omega) (by omega), wrap64_id _ (by omega) (by omega)]
    · rw [if_neg hd] at hs ⊢
      rw [hs]
      simp only [fix_MulDiv.j1, fix_MulDiv.j2, hd, Bool.false_eq_true, if_false]
      by_cases hgt : x * y / c > 4611686018427387904
      · rw [if_pos hgt, if_neg (by simp only [hInR]; omega)]
      · rw [if_neg hgt, if_pos (by simp only [hInR]; omega), wrap64_id (x * y / c) (by omega) (by omega)]

/-! ### what MulDiv tells -/
theorem MD_yes {a b c : Int} (h : InR a ∧ InR b ∧ InR c ∧ 1 ≤ c ∧ InR (a * b / c)) : MD a b c = (a * b / c, true) := if_pos h
theorem MD_no {a b c : Int} (h : ¬ (InR a ∧ InR b ∧ InR c ∧ 1 ≤ c ∧ InR (a * b / c))) : MD a b c = (0, false) := if_neg h
theorem InR_one : InR 1 := by decide
theorem div_between (p c : Int) (hc : 1 ≤ c) : (0 ≤ p → 0 ≤ p / c ∧ p / c ≤ p) ∧ (p ≤ 0 → p ≤ p / c ∧ p / c ≤ 0) := by
  refine ⟨fun h => ⟨Int.ediv_nonneg h (by omega), Int.ediv_le_self _ h⟩, fun h => ⟨?_, ?_⟩⟩
  · rw [Int.le_ediv_iff_mul_le (by omega)]
    have := Int.mul_le_mul_of_nonpos_left h hc
    rw [Int.mul_one] at this
    exact this
  · have := Int.ediv_le_ediv (c := c) (by omega) h
    rwa [Int.zero_ediv] at this
theorem InR_div {p c : Int} (hp : InR p) (hc : 1 ≤ c) : InR (p / c) := by
  have := div_between p c hc
  unfold InR at *
  rcases Int.le_total 0 p with h | h
  · have := this.1 h; omega
  · have := this.2 h; omega
theorem div_left (p c : Int) (hc : 1 ≤ c) : p / c * c ≤ p ∧ p < p / c * c + c := by
  have h1 := Int.emod_add_mul_ediv p c
  have h2 := Int.emod_nonneg p (show c ≠ 0 by omega)
  have h3 := Int.emod_lt_of_pos p (show 0 < c by omega)
  rw [Int.mul_comm] at h1
  omega

/-! ### ways' weights, and shares -/
def wt (c s : Int) : Int := if (1 ≤ c ∧ c ≤ 1073741824) ∧ (1 ≤ s ∧ s ≤ 1099511627776) then c * 1048576 / s else 0
theorem wt_in (c s : Int) : 0 ≤ wt c s ∧ wt c s ≤ 1125899906842624 := by
  unfold wt
  split
  · rename_i h
    have := (div_between (c * 1048576) s (by omega)).1 (by omega)
    omega
  · omega
theorem MD_wt {c s : Int} (h : (1 ≤ c ∧ c ≤ 1073741824) ∧ (1 ≤ s ∧ s ≤ 1099511627776)) : MD c 1048576 s = (wt c s, true) := by
  have e : wt c s = c * 1048576 / s := if_pos h
  have hb := wt_in c s
  rw [e] at hb ⊢
  exact MD_yes ⟨⟨by omega, by omega⟩, by decide, ⟨by omega, by omega⟩, by omega, ⟨by omega, by omega⟩⟩
def wsum : List S26 → Int
  | [] => 0
  | x :: l => wt x.f0 x.f1 + wsum l
theorem wsum_in : ∀ l : List S26, 0 ≤ wsum l ∧ wsum l ≤ 1125899906842624 * l.length
  | [] => by simp [wsum]
  | x :: l => by
    have h1 := wsum_in l
    have h2 := wt_in x.f0 x.f1
    simp only [wsum, List.length_cons]
    omega
theorem wsum_append : ∀ l m : List S26, wsum (l ++ m) = wsum l + wsum m
  | [], m => by simp [wsum]
  | x :: l, m => by simp only [List.cons_append, wsum, wsum_append l m]; omega
theorem rd_drop (l : List S26) (i : Nat) (h : i < l.length) : l.drop i = rd_T26 l i :: l.drop (i + 1) := by
  unfold rd_T26
  rw [List.drop_eq_getElem_cons h]
  simp [List.getD, List.getElem?_eq_getElem h]
theorem wsum_drop (l : List S26) (i : Nat) (h : i < l.length) : wsum (l.drop i) = wt (rd_T26 l i).f0 (rd_T26 l i).f1 + wsum (l.drop (i + 1)) := by
  rw [rd_drop l i h]; rfl
theorem wt_le_wsum (l : List S26) (i : Nat) (h : i < l.length) : wt (rd_T26 l i).f0 (rd_T26 l i).f1 ≤ wsum l := by
  have h1 := wsum_append (l.take i) (l.drop i)
  rw [List.take_append_drop] at h1
  have h2 := (wsum_in (l.take i)).1
  have h3 := (wsum_in (l.drop (i + 1))).1
  have h4 := wsum_drop l i h
  omega
/-- The part of t that a weight has of all weights. -/
def share (t w s : Int) : Int := if 1 ≤ s then t * w / s else 0
theorem share_in {t w s : Int} (h0 : 0 ≤ t) (h2 : 0 ≤ w) (h3 : w ≤ s) : 0 ≤ share t w s ∧ share t w s ≤ t := by
  unfold share
  split
  · rename_i h
    have hp : 0 ≤ t * w := Int.mul_nonneg h0 h2
    refine ⟨Int.ediv_nonneg hp (by omega), ?_⟩
    have : t * w ≤ t * s := Int.mul_le_mul_of_nonneg_left h3 h0
    have h4 := Int.ediv_le_ediv (c := s) (by omega) this
    rwa [Int.mul_ediv_cancel _ (by omega)] at h4
  · omega
theorem MD_share {t w s : Int} (h0 : 0 ≤ t) (h1 : t ≤ 4611686018427387904) (h2 : 0 ≤ w) (h3 : w ≤ s) (h4 : s ≤ 4611686018427387904) : (MD t w s).1 = share t w s := by
  have hb := share_in h0 h2 h3
  by_cases h : 1 ≤ s
  · have e : share t w s = t * w / s := if_pos h
    rw [e] at hb ⊢
    rw [MD_yes ⟨⟨by omega, h1⟩, ⟨by omega, by omega⟩, ⟨by omega, h4⟩, h, ⟨by omega, by omega⟩⟩]
  · have e : share t w s = 0 := if_neg h
    rw [e, MD_no (fun h' => h h'.2.2.2.1)]
theorem share_mono_w {t w w' s : Int} (h0 : 0 ≤ t) (h : w ≤ w') : share t w s ≤ share t w' s := by
  unfold share
  split
  · exact Int.ediv_le_ediv (by omega) (Int.mul_le_mul_of_nonneg_left h h0)
  · omega
theorem share_mono_t {t t' w s : Int} (h0 : 0 ≤ w) (h : t ≤ t') : share t w s ≤ share t' w s := by
  unfold share
  split
  · exact Int.ediv_le_ediv (by omega) (Int.mul_le_mul_of_nonneg_right h h0)
  · omega
theorem share_mul (t w s : Int) : share t w s * s ≤ t * w ∨ s < 1 := by
  unfold share
  split
  · rename_i h; exact .inl (div_left (t * w) s h).1
  · right; omega
def wAt (l : List S26) (i : Int) : Int := wt (rd_T26 l i).f0 (rd_T26 l i).f1

/-! ### xmp: shares, windows -/
theorem xin_f (a b c : Int) : xmp_in.f a b c = some (decide (b ≤ a ∧ a ≤ c)) := by
  unfold xmp_in.f
  by_cases h : a ≥ b
  · rw [if_pos h]; exact congrArg some (decide_eq_decide.mpr ⟨fun h' => ⟨h, h'⟩, fun h' => h'.2⟩)
  · rw [if_neg h]; exact congrArg some (decide_eq_false (fun h' => h h'.1)).symm
theorem weight_f (k : Nat) (hk : 100 ≤ k) (c s : Int) : xmp_weight.f k c s = some (wt c s) := by
  unfold xmp_weight.f
  rw [xin_f, xin_f]
  simp only [Option.bind_some, decide_eq_true_eq]
  by_cases h1 : 1 ≤ c ∧ c ≤ 1073741824
  · rw [if_pos h1]
    by_cases h2 : 1 ≤ s ∧ s ≤ 1099511627776
    · rw [if_pos h2, MulDiv_f k hk, MD_wt ⟨h1, h2⟩]; rfl
    · rw [if_neg h2]; unfold wt; rw [if_neg (fun h => h2 h.2)]
  · rw [if_neg h1]; unfold wt; rw [if_neg (fun h => h1 h.1)]
def shareOf (l : List S26) (i m : Int) : Int := share m (wAt l i) (wsum l)
theorem wAt_le (l : List S26) (i : Int) (h0 : 0 ≤ i) (h : i < (l.length : Int)) : 0 ≤ wAt l i ∧ wAt l i ≤ wsum l := by
  have hw := wt_le_wsum l i.toNat (by omega)
  have e : ((i.toNat : Nat) : Int) = i := by omega
  rw [e] at hw
  exact ⟨(wt_in _ _).1, hw⟩
theorem share_loop (l : List S26) (hl : l.length ≤ 4) (i m : Int) (hi0 : 0 ≤ i) (hi : i < (l.length : Int)) (hm0 : 0 ≤ m) (hm : m ≤ 1460) : ∀ (j k n : Nat) (acc : Int), n + j = l.length → 110 + j < k → 0 ≤ acc → acc + wsum (l.drop n) = wsum l →
    xmp_Share.l0 k l i m acc l (l.length : Int) (n : Int) = some (shareOf l i m) := by
  intro j
  induction j with
  | zero =>
    intro k n acc hn hk h0 hs
    obtain ⟨k, rfl⟩ : ∃ m, k = m + 1 := ⟨k - 1, by omega⟩
    have e : l.drop n = [] := List.drop_eq_nil_of_le (by omega)
    rw [e] at hs
    simp only [wsum, Int.add_zero] at hs
    have hw := wAt_le l i hi0 hi
    have hb := wsum_in l
    rw [xmp_Share.l0, if_neg (by omega), if_pos hi0, if_pos hi, weight_f k (by omega)]
    simp only [Option.bind_some]
    rw [MulDiv_f k (by omega), hs]
    simp only [Option.bind_some]
    unfold wAt at hw
    rw [MD_share hm0 (by omega) hw.1 hw.2 (by omega)]
    rfl
  | succ j ih =>
    intro k n acc hn hk h0 hs
    obtain ⟨k, rfl⟩ : ∃ m, k = m + 1 := ⟨k - 1, by omega⟩
    have hd := wsum_drop l n (by omega)
    have hb := wsum_in l
    have hb2 := wsum_in (l.drop (n + 1))
    have hw0 := wt_in (rd_T26 l n).f0 (rd_T26 l n).f1
    rw [xmp_Share.l0, if_pos (by omega), if_pos (by omega), if_pos (by omega), weight_f k (by omega)]
    simp only [Option.bind_some]
    rw [wrap64_id (acc + _) (by omega) (by omega), wrap64_id ((n : Int) + 1) (by omega) (by omega)]
    have e : (n : Int) + 1 = ((n + 1 : Nat) : Int) := by omega
    rw [e]
    exact ih k (n + 1) _ (by omega) (by omega) (by omega) (by omega)
theorem Share_yes (k : Nat) (hk : 200 ≤ k) {l : List S26} {i m : Int} (hl : l.length ≤ 4) (hi0 : 0 ≤ i) (hi : i < (l.length : Int)) (hm0 : 1 ≤ m) (hm : m ≤ 1460) : xmp_Share.f k l i m = some (shareOf l i m) := by
  obtain ⟨k, rfl⟩ : ∃ m, k = m + 1 := ⟨k - 1, by omega⟩
  unfold xmp_Share.f
  rw [wrap64_id ((l.length : Int) - 1) (by omega) (by omega), xin_f, xin_f]
  have h1 : 0 ≤ i ∧ i ≤ (l.length : Int) - 1 := ⟨hi0, by omega⟩
  have h2 : 1 ≤ m ∧ m ≤ 1460 := ⟨hm0, hm⟩
  have h3 : ¬ (l.length : Int) > 4 := by omega
  simp only [Option.bind_some, h1, h2, h3, decide_true, decide_false, and_self, if_true, xmp_Share.j0, Bool.false_eq_true, if_false]
  exact share_loop l hl i m hi0 hi (by omega) hm l.length k 0 0 (by omega) (by omega) (by omega) (by simp)
theorem Share_no (k : Nat) (hk : 200 ≤ k) {l : List S26} {i m : Int} (hlen : l.length ≤ 20) (h : ¬ ((0 ≤ i ∧ i < (l.length : Int)) ∧ l.length ≤ 4 ∧ (1 ≤ m ∧ m ≤ 1460))) : xmp_Share.f k l i m = some 0 := by
  obtain ⟨k, rfl⟩ : ∃ m, k = m + 1 := ⟨k - 1, by omega⟩
  unfold xmp_Share.f
  rw [wrap64_id ((l.length : Int) - 1) (by omega) (by omega), xin_f, xin_f]
  simp only [Option.bind_some, decide_eq_true_eq]
  by_cases h1 : 1 ≤ m ∧ m ≤ 1460
  · rw [if_pos h1]
    by_cases h2 : 0 ≤ i ∧ i ≤ (l.length : Int) - 1
    · rw [if_pos h2]
      have h3 : (l.length : Int) > 4 := by
        by_cases h3 : (l.length : Int) > 4
        · exact h3
        · exact absurd ⟨⟨h2.1, by omega⟩, by omega, h1⟩ h
      simp only [h3, decide_true, xmp_Share.j0, if_true]
    · rw [if_neg h2]; simp only [xmp_Share.j0, if_true]
  · rw [if_neg h1]; simp only [xmp_Share.j0, if_true]
theorem xMay_f (c t s g : Int) : xmp_May.f c t s g = some (decide (Hand.WFine c t s g)) := by
  unfold xmp_May.f xmp_limits.f
  rw [xin_f, xin_f, xin_f, xin_f]
  simp only [Option.bind_some, decide_eq_true_eq]
  unfold Hand.WFine
  by_cases h1 : 1 ≤ s ∧ s ≤ 1460
  · by_cases h2 : s ≤ g ∧ g ≤ 1073741824
    · by_cases h3 : s ≤ c ∧ c ≤ g
      · by_cases h4 : s ≤ t ∧ t ≤ g
        · simp [h1, h2, h3, h4]
        · simp [h1, h2, h3, h4]
      · simp [h1, h2, h3]
    · simp [h1, h2]
  · simp [h1]

def cutOf (c n s : Int) : Int := mx s (c - c * n / 2048)
theorem Cut_yes {c t n s g : Int} (h : Hand.WFine c t s g) (h0 : 0 ≤ n) (h1 : n ≤ 1024) : xmp_Cut.f c t n s g = some (cutOf c n s, cutOf c n s, 0) := by
  unfold xmp_Cut.f Hand.xmp_Cut.f cutOf mx
  rw [if_pos ⟨h, h0, h1⟩]
  split <;> split <;> first | rfl | omega | (congr 3 <;> omega)
theorem Cut_no {c t n s g : Int} (h : ¬ (Hand.WFine c t s g ∧ 0 ≤ n ∧ n ≤ 1024)) : xmp_Cut.f c t n s g = some (0, 0, 1) := by
  unfold xmp_Cut.f Hand.xmp_Cut.f
  rw [if_neg h]
theorem cut_in {c n s g : Int} (h0 : 0 ≤ n) (h1 : n ≤ 1024) (h2 : 1 ≤ s) (h3 : s ≤ c) (_ : c ≤ g) : s ≤ cutOf c n s ∧ cutOf c n s ≤ c ∧ c ≤ 2 * cutOf c n s := by
  have q0 : 0 ≤ c * n := Int.mul_nonneg (by omega) h0
  have q1 : c * n ≤ c * 1024 := Int.mul_le_mul_of_nonneg_left h1 (by omega)
  unfold cutOf mx
  generalize c * n = z at *
  split <;> omega
theorem cut_mono {c n m s : Int} (hc : 0 ≤ c) (h : n ≤ m) : cutOf c m s ≤ cutOf c n s := by
  have q1 : c * n ≤ c * m := Int.mul_le_mul_of_nonneg_left h hc
  unfold cutOf mx
  generalize c * n = z at *
  generalize c * m = y at *
  (repeat' split) <;> omega

theorem awake_f (k : Nat) (hk : 200 ≤ k) : fourinhandlaw15_awake.f k = some true := by
  unfold fourinhandlaw15_awake.f
  have hf : Hand.WFine 10000 10000 100 100000 := by decide
  rw [Cut_yes hf (by omega) (by omega)]
  have e : cutOf 10000 1024 100 = 5000 := by decide
  rw [e]
  simp only [Option.bind_some]
  rw [Share_yes k hk (by simp) (by omega) (by simp) (by omega) (by omega), Share_yes k hk (by simp) (by omega) (by simp) (by omega) (by omega), xMay_f]
  decide

theorem rdW_set (l : List S26) (a b : Int) (v : S26) (ha : a.toNat < l.length) : rd_T26 (l.set a.toNat v) b = if b.toNat = a.toNat then v else rd_T26 l b := by
  unfold rd_T26
  rw [List.getD_eq_getElem?_getD, List.getD_eq_getElem?_getD, List.getElem?_set]
  by_cases h : a.toNat = b.toNat
  · rw [if_pos h, if_pos ha, if_pos h.symm]; rfl
  · rw [if_neg h, if_neg (fun g => h g.symm)]
theorem wsum_set : ∀ (l : List S26) (i : Nat) (v : S26), i < l.length → wsum (l.set i v) + wt (rd_T26 l (i : Int)).f0 (rd_T26 l (i : Int)).f1 = wsum l + wt v.f0 v.f1
  | [], i, v, h => absurd h (by simp)
  | x :: l, 0, v, h => by
    have e : rd_T26 (x :: l) ((0 : Nat) : Int) = x := rfl
    rw [e]
    simp only [List.set_cons_zero, wsum]
    omega
  | x :: l, i + 1, v, h => by
    have ih := wsum_set l i v (by simpa using h)
    have e : rd_T26 (x :: l) ((i + 1 : Nat) : Int) = rd_T26 l (i : Int) := by
      unfold rd_T26
      rw [Int.toNat_natCast, Int.toNat_natCast]; rfl
    rw [e]
    simp only [List.set_cons_succ, wsum]
    omega
def swapW (l : List S26) (i k : Int) : List S26 := (l.set i.toNat (rd_T26 l k)).set k.toNat (rd_T26 l i)
theorem swapW_length (l : List S26) (i k : Int) : (swapW l i k).length = l.length := by unfold swapW; simp
theorem swapW_sum (l : List S26) (i k : Int) (hi0 : 0 ≤ i) (hi : i < (l.length : Int)) (hk0 : 0 ≤ k) (hk : k < (l.length : Int)) : wsum (swapW l i k) = wsum l := by
  unfold swapW
  have h1 := wsum_set l i.toNat (rd_T26 l k) (by omega)
  have h2 := wsum_set (l.set i.toNat (rd_T26 l k)) k.toNat (rd_T26 l i) (by simp; omega)
  have e1 : ((i.toNat : Nat) : Int) = i := by omega
  have e2 : ((k.toNat : Nat) : Int) = k := by omega
  rw [e1] at h1
  rw [e2, rdW_set l i k _ (by omega)] at h2
  by_cases h : k.toNat = i.toNat
  · have : k = i := by omega
    subst this
    rw [if_pos rfl] at h2
    omega
  · rw [if_neg h] at h2
    omega
theorem swapW_k (l : List S26) (i k : Int) (hk : k.toNat < l.length) : rd_T26 (swapW l i k) k = rd_T26 l i := by
  unfold swapW
  rw [rdW_set _ k k _ (by simpa using hk), if_pos rfl]
theorem swapW_i (l : List S26) (i k : Int) (hi : i.toNat < l.length) (hk : k.toNat < l.length) : rd_T26 (swapW l i k) i = rd_T26 l k := by
  unfold swapW
  rw [rdW_set _ k i _ (by simpa using hk)]
  by_cases h : i.toNat = k.toNat
  · rw [if_pos h]; unfold rd_T26; rw [h]
  · rw [if_neg h, rdW_set l i i _ hi, if_pos rfl]
/-- What xmp.Share tells, of at most four ways. -/
def shr (l : List S26) (i m : Int) : Int := if 1 ≤ m ∧ m ≤ 1460 then shareOf l i m else 0
theorem Share_f (k : Nat) (hk : 200 ≤ k) (l : List S26) (i m : Int) (hl : l.length ≤ 4) (hi0 : 0 ≤ i) (hi : i < (l.length : Int)) : xmp_Share.f k l i m = some (shr l i m) := by
  unfold shr
  by_cases h : 1 ≤ m ∧ m ≤ 1460
  · rw [if_pos h, Share_yes k hk hl hi0 hi h.1 h.2]
  · rw [if_neg h, Share_no k hk (by omega) (fun g => h g.2.2)]
theorem wt_mono {c d s : Int} (h : d ≤ c) (hc : c ≤ 1073741824) : wt d s ≤ wt c s := by
  unfold wt
  by_cases h1 : (1 ≤ d ∧ d ≤ 1073741824) ∧ (1 ≤ s ∧ s ≤ 1099511627776)
  · rw [if_pos h1, if_pos ⟨⟨by omega, hc⟩, h1.2⟩]
    exact Int.ediv_le_ediv (by omega) (by omega)
  · rw [if_neg h1]
    split
    · rename_i h2
      exact Int.ediv_nonneg (by omega) (by omega)
    · omega
theorem XmpShare : fourinhandlaw15_XmpShare.Pure := by
  intro l i k m hl _ _ _
  refine ⟨402, ?_⟩
  unfold fourinhandlaw15_XmpShare.f
  rw [awake_f 402 (by omega)]
  simp only [Option.bind_some, if_true]
  have hy : fourinhandlaw15_XmpShare.j0 402 l i k m true true = some true := by rw [fourinhandlaw15_XmpShare.j0, if_pos rfl]
  by_cases h1 : (l.length : Int) > 4
  · rw [if_pos h1]; exact hy
  rw [if_neg h1]
  by_cases h2 : i < 0
  · rw [if_pos h2]; exact hy
  rw [if_neg h2]
  by_cases h3 : k < 0
  · rw [if_pos h3]; exact hy
  rw [if_neg h3]
  by_cases h4 : i ≥ (l.length : Int)
  · rw [if_pos h4]; exact hy
  rw [if_neg h4]
  by_cases h5 : k ≥ (l.length : Int)
  · rw [decide_eq_true h5]; exact hy
  rw [decide_eq_false h5, fourinhandlaw15_XmpShare.j0, if_neg (by decide)]
  have hsw : ∀ t : List S26, t = l → (t.set i.toNat (⟨(rd_T26 l k).f0, (rd_T26 l k).f1⟩ : S26)).set k.toNat (⟨(rd_T26 l i).f0, (rd_T26 l i).f1⟩ : S26) = swapW l i k := by intro t ht; rw [ht]; rfl
  have hsl := swapW_length l i k
  have hA : shr (swapW l i k) k m = shr l i m := by
    unfold shr shareOf wAt
    rw [swapW_k l i k (by omega), swapW_sum l i k (by omega) (by omega) (by omega) (by omega)]
  have hB : shr (swapW l i k) i m = shr l k m := by
    unfold shr shareOf wAt
    rw [swapW_i l i k (by omega) (by omega), swapW_sum l i k (by omega) (by omega) (by omega) (by omega)]
  rw [Share_f 401 (by omega) l i m (by omega) (by omega) (by omega), Share_f 401 (by omega) l k m (by omega) (by omega) (by omega)]
  simp only [Option.bind_some, List.nil_append]
  have c1 : 0 ≤ k := by omega
  have c2 : k < (l.length : Int) := by omega
  have c3 : 0 ≤ i := by omega
  have c4 : i < (l.length : Int) := by omega
  rw [if_pos (by simp; omega)]
  simp only [c1, c2, c3, c4, if_true]
  rw [hsw l rfl, Share_f 401 (by omega) _ k m (by omega) (by omega) (by omega), Share_f 401 (by omega) _ i m (by omega) (by omega) (by omega), hA, hB]
  simp only [Option.bind_some, if_true, bne_self_eq_false]
  rw [fourinhandlaw15_XmpShare.j1, if_neg (show ¬ (false = true) by decide)]
  simp only [c1, c2, c3, c4, if_true]
  have hz : wAt l i = 0 → shr l i m = 0 := by
    intro h
    unfold shr shareOf share
    rw [h]
    split
    · split
      · simp
      · rfl
    · rfl
  have hw : ¬ ((1 ≤ (rd_T26 l i).f0 ∧ (rd_T26 l i).f0 ≤ 1073741824) ∧ (1 ≤ (rd_T26 l i).f1 ∧ (rd_T26 l i).f1 ≤ 1099511627776)) → (some (shr l i m == 0) : Option Bool) = some true := by
    intro h
    have : wAt l i = 0 := if_neg h
    rw [hz this]; rfl
  by_cases g1 : (rd_T26 l i).f0 < 1
  · rw [if_pos g1]; exact hw (fun h => by omega)
  rw [if_neg g1]
  by_cases g2 : (rd_T26 l i).f1 < 1
  · rw [if_pos g2]; exact hw (fun h => by omega)
  rw [if_neg g2]
  by_cases g3 : (rd_T26 l i).f0 > 1073741824
  · rw [if_pos g3]; exact hw (fun h => by omega)
  rw [if_neg g3]
  by_cases g4 : (rd_T26 l i).f1 > 1099511627776
  · rw [if_pos g4]; exact hw (fun h => by omega)
  rw [if_neg g4]
  by_cases g5 : (rd_T26 l i).f1 = (rd_T26 l k).f1
  · rw [if_pos g5]
    by_cases g6 : (rd_T26 l i).f0 < (rd_T26 l k).f0
    · rw [if_pos g6]
    · rw [if_neg g6]
      have hmono : shr l k m ≤ shr l i m := by
        have hm := wt_mono (s := (rd_T26 l i).f1) (show (rd_T26 l k).f0 ≤ (rd_T26 l i).f0 by omega) (by omega)
        unfold shr
        by_cases h : 1 ≤ m ∧ m ≤ 1460
        · rw [if_pos h, if_pos h]
          unfold shareOf wAt
          refine share_mono_w (by omega) ?_
          rw [← g5]; exact hm
        · rw [if_neg h, if_neg h]; omega
      rw [if_pos hmono]
  · rw [if_neg g5]

end Go.Proofs.Ytdbnhmipbbadjaa.Pure
