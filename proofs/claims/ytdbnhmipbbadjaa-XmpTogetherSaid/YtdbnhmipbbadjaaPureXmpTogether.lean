/- What all ways' shares come to is at most mss, what a way alone has; with as great windows, and times, all have as much, and one byte of each is left over at most: for every input, without a condition. -/
import Derived.Test.YtdbnhmipbbadjaaPXmpTogetherx4
import Derived.Test.YtdbnhmipbbadjaaStmtXmpTogether
import Derived.Laws.BitsLemmas
import Derived.Laws.Bits64
namespace Go.Proofs.Ytdbnhmipbbadjaa.Pure
open Go.RowKit Go.Proofs.Ytdbnhmipbbadjaa.PXmpTogether Go.Proofs.YtdbnhmipbbadjaaW.PrintWords Go.Proofs.YtdbnhmipbbadjaaW.PrintLast Go.Proofs.YtdbnhmipbbadjaaW.PrintMore
/-! ### bits and words of 64 bits -/
theorem wraps_u64 (n : Int) (h0 : 0 ≤ n) (h1 : n < 2 ^ 64) : IntKind.u64.wrap n = n := by rw [IntKind.wrap_u64]; omega
theorem and_low32 (x : Int) (h0 : 0 ≤ x) (h1 : x < 18446744073709551616) : Go.bits .and .u64 x 4294967295 = x % 4294967296 :=
  bits_mask .u64 64 (by decide) wraps_u64 32 (by decide) x h0 h1
theorem and_one (x : Int) (h0 : 0 ≤ x) (h1 : x < 18446744073709551616) : Go.bits .and .u64 x 1 = x % 2 :=
  bits_mask .u64 64 (by decide) wraps_u64 1 (by decide) x h0 h1
theorem or_low32 (x y : Int) (h0 : 0 ≤ x) (h1 : x < 18446744073709551616) (h2 : x % 4294967296 = 0) (h3 : 0 ≤ y) (h4 : y < 4294967296) : Go.bits .or .u64 x y = x + y :=
  bits_join .u64 64 (by decide) wraps_u64 32 x y h0 h2 h1 h3 h4 (by omega)
theorem or_one (x y : Int) (h0 : 0 ≤ x) (h1 : x < 18446744073709551616) (h2 : x % 2 = 0) (h3 : 0 ≤ y) (h4 : y < 2) : Go.bits .or .u64 x y = x + y :=
  bits_join .u64 64 (by decide) wraps_u64 1 x y h0 h2 h1 h3 h4 (by omega)
theorem wrap64_id (n : Int) (h0 : -9223372036854775808 ≤ n) (h1 : n < 9223372036854775808) : wrap64 n = n := by unfold wrap64; omega

/-! ### the number's range -/
def InR (a : Int) : Prop := -4611686018427387904 ≤ a ∧ a ≤ 4611686018427387904
instance (a : Int) : Decidable (InR a) := inferInstanceAs (Decidable (_ ∧ _))
theorem In_f (a : Int) : fix_In.f a = some (decide (InR a)) := by
  unfold fix_In.f
  by_cases h : a ≥ (-4611686018427387904)
  · rw [if_pos h]; exact congrArg some (decide_eq_decide.mpr ⟨fun h' => ⟨h, h'⟩, fun h' => h'.2⟩)
  · rw [if_neg h]; exact congrArg some (decide_eq_false (fun h' => h h'.1)).symm
theorem size_f (a : Int) (h : InR a) : fix_size.f a = some (if a < 0 then -a else a, decide (a < 0)) := by
  unfold fix_size.f
  unfold InR at h
  by_cases h0 : a < 0
  · rw [if_pos h0, if_pos h0, wrap64_id _ (by omega) (by omega), wraps_u64 _ (by omega) (by omega)]; simp [h0]
  · rw [if_neg h0, if_neg h0, wraps_u64 _ (by omega) (by omega)]; simp [h0]

/-! ### the product of 128 bits -/
theorem mul_le_of (a b A B : Int) (h0 : 0 ≤ a) (h1 : a ≤ A) (h2 : 0 ≤ b) (h3 : b ≤ B) : 0 ≤ a * b ∧ a * b ≤ A * B :=
  ⟨Int.mul_nonneg h0 h2, Int.mul_le_mul h1 h3 h2 (by omega)⟩
theorem product_f (x y : Int) (hx0 : 0 ≤ x) (hx : x ≤ 4611686018427387904) (hy0 : 0 ≤ y) (hy : y ≤ 4611686018427387904) :
    fix_product.f x y = some (x * y / 18446744073709551616, x * y % 18446744073709551616) := by
  unfold fix_product.f
  rw [and_low32 x hx0 (by omega), and_low32 y hy0 (by omega)]
  obtain ⟨xh, hxh⟩ : ∃ z, x / 4294967296 = z := ⟨_, rfl⟩
  obtain ⟨xl, hxl⟩ : ∃ z, x % 4294967296 = z := ⟨_, rfl⟩
  obtain ⟨yh, hyh⟩ : ∃ z, y / 4294967296 = z := ⟨_, rfl⟩
  obtain ⟨yl, hyl⟩ : ∃ z, y % 4294967296 = z := ⟨_, rfl⟩
  rw [hxh, hxl, hyh, hyl]
  have ex : x = xh * 4294967296 + xl := by omega
  have ey : y = yh * 4294967296 + yl := by omega
  have b1 : 0 ≤ xh ∧ xh ≤ 1073741824 ∧ 0 ≤ xl ∧ xl ≤ 4294967295 := by omega
  have b2 : 0 ≤ yh ∧ yh ≤ 1073741824 ∧ 0 ≤ yl ∧ yl ≤ 4294967295 := by omega
  have exy : x * y = xh * yh * 18446744073709551616 + (xh * yl + xl * yh) * 4294967296 + xl * yl := by
    rw [ex, ey]; grind
  have bA := mul_le_of xh yh 1073741824 1073741824 b1.1 b1.2.1 b2.1 b2.2.1
  have bB := mul_le_of xh yl 1073741824 4294967295 b1.1 b1.2.1 b2.2.2.1 b2.2.2.2
  have bC := mul_le_of xl yh 4294967295 1073741824 b1.2.2.1 b1.2.2.2 b2.1 b2.2.1
  have bP := mul_le_of xl yl 4294967295 4294967295 b1.2.2.1 b1.2.2.2 b2.2.2.1 b2.2.2.2
  rw [exy]
  clear exy ex ey hxh hxl hyh hyl b1 b2
  generalize xh * yh = A at *
  generalize xh * yl = B at *
  generalize xl * yh = C at *
  generalize xl * yl = P at *
  rw [wraps_u64 A (by omega) (by omega), wraps_u64 B (by omega) (by omega), wraps_u64 C (by omega) (by omega), wraps_u64 P (by omega) (by omega)]
  rw [wraps_u64 (B + P / 4294967296) (by omega) (by omega), and_low32 (B + P / 4294967296) (by omega) (by omega), and_low32 P (by omega) (by omega)]
  rw [wraps_u64 (C + (B + P / 4294967296) % 4294967296) (by omega) (by omega)]
  rw [wraps_u64 (A + (B + P / 4294967296) / 4294967296) (by omega) (by omega)]
  rw [wraps_u64 (A + (B + P / 4294967296) / 4294967296 + (C + (B + P / 4294967296) % 4294967296) / 4294967296) (by omega) (by omega)]
  rw [IntKind.wrap_u64 ((C + (B + P / 4294967296) % 4294967296) * 4294967296)]
  rw [or_low32 _ _ (by omega) (by omega) (by omega) (by omega) (by omega)]
  simp only [Option.some.injEq, Prod.mk.injEq]
  constructor <;> omega

/-! ### the long division -/
theorem mod_two_pow_succ (m n : Nat) : m % 2 ^ (n + 1) = m / 2 ^ n % 2 * 2 ^ n + m % 2 ^ n := by
  rw [Nat.mod_pow_succ, Nat.mul_comm, Nat.add_comm]
theorem by_loop (c : Int) (hc1 : 1 ≤ c) (hc : c ≤ 4611686018427387904) (hi : Int) (m : Nat) (hm : m < 2 ^ 64) : ∀ (n : Nat), n ≤ 64 → ∀ (k : Nat), n < k → ∀ (q r : Int), 0 ≤ r → r < c → 0 ≤ q → q < 2 ^ (64 - n) →
    ∃ q' r', fix_wide_by.l0 k c q r ((n : Int) - 1) hi m = some (q', r') ∧ 0 ≤ r' ∧ r' < c ∧ 0 ≤ q' ∧ q' * c + r' = (q * c + r) * 2 ^ n + (m % 2 ^ n : Nat) := by
  intro n
  induction n with
  | zero =>
    intro _ k hk q r h0 h1 h2 h3
    obtain ⟨k, rfl⟩ : ∃ j, k = j + 1 := ⟨k - 1, by omega⟩
    refine ⟨q, r, ?_, h0, h1, h2, by simp [Nat.mod_one]⟩
    simp only [fix_wide_by.l0]
    rw [if_neg (by omega)]
  | succ n ih =>
    intro hn k hk q r h0 h1 h2 h3
    obtain ⟨k, rfl⟩ : ∃ j, k = j + 1 := ⟨k - 1, by omega⟩
    have hq2 : q * 2 + 1 < 2 ^ (64 - n) := by
      have e : (64 - n) = (64 - (n + 1)) + 1 := by omega
      rw [e, Int.pow_succ]; omega
    have hpow : (2 : Int) ^ (64 - n) ≤ 18446744073709551616 := by
      have h1 : (2 : Nat) ^ (64 - n) ≤ 18446744073709551616 := Nat.pow_le_pow_right (n := 2) (j := 64) (by decide) (by omega)
      have h2 : (2 : Int) ^ (64 - n) = ((2 ^ (64 - n) : Nat) : Int) := by simp
      rw [h2]; omega
    have e1 : ((n + 1 : Nat) : Int) - 1 = (n : Int) := by omega
    rw [e1, fix_wide_by.l0]
    rw [if_pos (by omega), if_pos (by omega)]
    have e2 : shr .u64 (m : Int) (n : Int) = ((m / 2 ^ n : Nat) : Int) := by
      unfold shr
      have : min ((n : Int)).toNat IntKind.u64.bits = n := by simp [IntKind.bits]; omega
      rw [this]; simp
    have hb : m / 2 ^ n ≤ m := Nat.div_le_self _ _
    rw [e2]
    generalize hM : m / 2 ^ n = M at *
    rw [and_one _ (by omega) (by omega)]
    have e3 : (M : Int) % 2 = ((M % 2 : Nat) : Int) := by omega
    rw [e3]
    have hs := mod_two_pow_succ m n
    rw [hM] at hs
    have hbit : M % 2 < 2 := Nat.mod_lt _ (by decide)
    generalize M % 2 = b at *
    rw [wraps_u64 (r * 2) (by omega) (by omega), wraps_u64 (q * 2) (by omega) (by omega)]
    rw [or_one (r * 2) b (by omega) (by omega) (by omega) (by omega) (by omega), or_one (q * 2) 1 (by omega) (by omega) (by omega) (by omega) (by omega)]
    rw [wrap64_id ((n : Int) - 1) (by omega) (by omega)]
    by_cases hge : r * 2 + (b : Int) ≥ c
    · rw [if_pos hge, wraps_u64 (r * 2 + b - c) (by omega) (by omega)]
      obtain ⟨q', r', he, a1, a2, a3, a4⟩ := ih (by omega) k (by omega) (q * 2 + 1) (r * 2 + b - c) (by omega) (by omega) (by omega) hq2
      refine ⟨q', r', he, a1, a2, a3, ?_⟩
      rw [a4, hs]
      simp only [Int.natCast_add, Int.natCast_mul, Int.pow_succ, Int.natCast_pow]
      grind
    · rw [if_neg hge]
      obtain ⟨q', r', he, a1, a2, a3, a4⟩ := ih (by omega) k (by omega) (q * 2) (r * 2 + b) (by omega) (by omega) (by omega) (by omega)
      refine ⟨q', r', he, a1, a2, a3, ?_⟩
      rw [a4, hs]
      simp only [Int.natCast_add, Int.natCast_mul, Int.pow_succ, Int.natCast_pow]
      grind
theorem by_f (k : Nat) (hk : 64 < k) (p c : Int) (hc1 : 1 ≤ c) (hc : c ≤ 4611686018427387904) (hp0 : 0 ≤ p) (hp : p / 18446744073709551616 < c) :
    fix_wide_by.f k (p / 18446744073709551616) (p % 18446744073709551616) c = some (p / c, p % c) := by
  obtain ⟨m, hm⟩ : ∃ m : Nat, p % 18446744073709551616 = m := ⟨(p % 18446744073709551616).toNat, by omega⟩
  have hm2 : m < 2 ^ 64 := by omega
  obtain ⟨q, r, he, a1, a2, a3, a4⟩ := by_loop c hc1 hc (p / 18446744073709551616) m hm2 64 (by omega) k hk 0 (p / 18446744073709551616) (by omega) hp (by omega) (by decide)
  unfold fix_wide_by.f
  rw [hm]
  refine he.trans ?_
  rw [Nat.mod_eq_of_lt hm2] at a4
  have e : q * c + r = p := by
    have : (2 : Int) ^ 64 = 18446744073709551616 := by decide
    rw [this] at a4
    omega
  have e2 : p / c = q := by
    rw [← e, Int.add_comm, Int.add_mul_ediv_right _ _ (by omega), Int.ediv_eq_zero_of_lt a1 a2]; omega
  have e3 : p % c = r := by
    rw [← e, Int.add_comm, Int.add_mul_emod_self_right, Int.emod_eq_of_lt a1 a2]
  rw [e2, e3]

/-! ### MulDiv -/
def MD (a b c : Int) : Int × Bool := if InR a ∧ InR b ∧ InR c ∧ 1 ≤ c ∧ InR (a * b / c) then (a * b / c, true) else (0, false)
theorem ediv_neg_floor (p c : Int) (hc : 1 ≤ c) : (-p) / c = if p % c > 0 then -(p / c + 1) else -(p / c) := by
  have h1 := Int.emod_add_mul_ediv p c
  have h2 := Int.emod_nonneg p (show c ≠ 0 by omega)
  have h3 := Int.emod_lt_of_pos p (show 0 < c by omega)
  split
  · rename_i h
    have : -p = (c - p % c) + c * (-(p / c + 1)) := by grind
    rw [this, Int.add_mul_ediv_left _ _ (by omega), Int.ediv_eq_zero_of_lt (by omega) (by omega)]; omega
  · rename_i h
    have : -p = 0 + c * (-(p / c)) := by grind
    rw [this, Int.add_mul_ediv_left _ _ (by omega)]; simp
theorem MulDiv_f (k : Nat) (hk : 100 ≤ k) (a b c : Int) : fix_MulDiv.f k a b c = some (MD a b c) := by
  obtain ⟨k, rfl⟩ : ∃ j, k = j + 4 := ⟨k - 4, by omega⟩
  unfold fix_MulDiv.f MD
  rw [In_f, In_f, In_f]
  simp only [Option.bind_some, decide_eq_true_eq]
  by_cases ha : ¬ InR a
  · rw [if_neg ha, if_neg (fun h => ha h.1)]; simp [fix_MulDiv.j0]
  by_cases hb : ¬ InR b
  · rw [if_pos (Decidable.not_not.mp ha), if_neg hb, if_neg (fun h => hb h.2.1)]; simp [fix_MulDiv.j0]
  by_cases hc : ¬ InR c
  · rw [if_pos (Decidable.not_not.mp ha), if_pos (Decidable.not_not.mp hb), if_neg hc, if_neg (fun h => hc h.2.2.1)]; simp [fix_MulDiv.j0]
  replace ha := Decidable.not_not.mp ha
  replace hb := Decidable.not_not.mp hb
  replace hc := Decidable.not_not.mp hc
  rw [if_pos ha, if_pos hb, if_pos hc]
  by_cases hc1 : c < 1
  · rw [if_neg (fun h => by omega)]; simp [fix_MulDiv.j0, hc1]
  simp only [fix_MulDiv.j0, hc1, decide_false, Bool.false_eq_true, if_false]
  rw [size_f a ha, size_f b hb]
  simp only [Option.bind_some]
  obtain ⟨x, hx⟩ : ∃ x, (if a < 0 then -a else a) = x := ⟨_, rfl⟩
  obtain ⟨y, hy⟩ : ∃ y, (if b < 0 then -b else b) = y := ⟨_, rfl⟩
  rw [hx, hy]
  unfold InR at ha hb hc
  have hx0 : 0 ≤ x ∧ x ≤ 4611686018427387904 := by split at hx <;> omega
  have hy0 : 0 ≤ y ∧ y ≤ 4611686018427387904 := by split at hy <;> omega
  rw [product_f x y hx0.1 hx0.2 hy0.1 hy0.2]
  simp only [Option.bind_some]
  rw [wraps_u64 c (by omega) (by omega)]
  have hp0 : 0 ≤ x * y := Int.mul_nonneg hx0.1 hy0.1
  -- the signed product
  have hs : a * b = if (decide (a < 0) != decide (b < 0)) = true then -(x * y) else x * y := by
    by_cases h1 : a < 0 <;> by_cases h2 : b < 0 <;> simp [h1, h2] at hx hy ⊢ <;> subst hx <;> subst hy <;> grind
  have hce : c * (x * y / c) ≤ x * y := by
    have := Int.emod_add_mul_ediv (x * y) c
    have := Int.emod_nonneg (x * y) (show c ≠ 0 by omega)
    omega
  have hq0 : 0 ≤ x * y / c := Int.ediv_nonneg hp0 (by omega)
  by_cases hbig : x * y / 18446744073709551616 ≥ c
  · rw [if_pos hbig]
    -- the quotient has more than 64 bits
    have hq : 18446744073709551616 ≤ x * y / c := by
      rw [Int.le_ediv_iff_mul_le (by omega)]
      omega
    rw [if_neg]
    rintro ⟨_, _, _, _, h⟩
    unfold InR at h
    rw [hs] at h
    split at h
    · rw [ediv_neg_floor _ _ (by omega)] at h
      split at h <;> omega
    · omega
  · rw [if_neg hbig, by_f _ (by omega) (x * y) c (by omega) (by omega) hp0 (by omega)]
    simp only [Option.bind_some]
    have hq1 : x * y / c < 18446744073709551616 := by
      rw [Int.ediv_lt_iff_lt_mul (by omega)]
      omega
    have hInR : ∀ z : Int, InR z ↔ (-4611686018427387904 ≤ z ∧ z ≤ 4611686018427387904) := fun _ => Iff.rfl
    by_cases hd : (decide (a < 0) != decide (b < 0)) = true
    · rw [if_pos hd] at hs ⊢
      rw [hs, ediv_neg_floor _ _ (by omega)]
      by_cases hr : x * y % c > 0
      · rw [if_pos hr, if_pos hr]
        simp only [fix_MulDiv.j1, fix_MulDiv.j2, hd, if_true]
        by_cases hle : x * y / c ≤ 4611686018427387904
        · rw [if_pos (by simpa using hle), wraps_u64 _ (by omega) (by omega)]
          by_cases hgt : x * y / c + 1 > 4611686018427387904
          · rw [if_pos hgt, if_neg (by simp only [hInR]; omega)]
          · rw [if_neg hgt, if_pos (by simp only [hInR]; omega), wrap64_id (x * y / c + 1) (by omega) (by omega), wrap64_id _ (by omega) (by omega)]
        · rw [if_neg (by simpa using hle), if_pos (by omega), if_neg (by simp only [hInR]; omega)]
      · rw [if_neg hr, if_neg hr]
        simp only [fix_MulDiv.j1, fix_MulDiv.j2, hd, if_true, Bool.false_eq_true, if_false]
        by_cases hgt : x * y / c > 4611686018427387904
        · rw [if_pos hgt, if_neg (by simp only [hInR]; omega)]
        · rw [if_neg hgt, if_pos (by simp only [hInR]; omega), wrap64_id (x * y / c) (by omega) (by omega), wrap64_id _ (by omega) (by omega)]
    · rw [if_neg hd] at hs ⊢
      rw [hs]
      simp only [fix_MulDiv.j1, fix_MulDiv.j2, hd, Bool.false_eq_true, if_false]
      by_cases hgt : x * y / c > 4611686018427387904
      · rw [if_pos hgt, if_neg (by simp only [hInR]; omega)]
      · rw [if_neg hgt, if_pos (by simp only [hInR]; omega), wrap64_id (x * y / c) (by omega) (by omega)]

/-! ### what MulDiv tells -/
theorem MD_yes {a b c : Int} (h : InR a ∧ InR b ∧ InR c ∧ 1 ≤ c ∧ InR (a * b / c)) : MD a b c = (a * b / c, true) := if_pos h
theorem MD_no {a b c : Int} (h : ¬ (InR a ∧ InR b ∧ InR c ∧ 1 ≤ c ∧ InR (a * b / c))) : MD a b c = (0, false) := if_neg h
theorem InR_one : InR 1 := by decide
theorem div_between (p c : Int) (hc : 1 ≤ c) : (0 ≤ p → 0 ≤ p / c ∧ p / c ≤ p) ∧ (p ≤ 0 → p ≤ p / c ∧ p / c ≤ 0) := by
  refine ⟨fun h => ⟨Int.ediv_nonneg h (by omega), Int.ediv_le_self _ h⟩, fun h => ⟨?_, ?_⟩⟩
  · rw [Int.le_ediv_iff_mul_le (by omega)]
    have := Int.mul_le_mul_of_nonpos_left h hc
    rw [Int.mul_one] at this
    exact this
  · have := Int.ediv_le_ediv (c := c) (by omega) h
    rwa [Int.zero_ediv] at this
theorem InR_div {p c : Int} (hp : InR p) (hc : 1 ≤ c) : InR (p / c) := by
  have := div_between p c hc
  unfold InR at *
  rcases Int.le_total 0 p with h | h
  · have := this.1 h; omega
  · have := this.2 h; omega
theorem div_left (p c : Int) (hc : 1 ≤ c) : p / c * c ≤ p ∧ p < p / c * c + c := by
  have h1 := Int.emod_add_mul_ediv p c
  have h2 := Int.emod_nonneg p (show c ≠ 0 by omega)
  have h3 := Int.emod_lt_of_pos p (show 0 < c by omega)
  rw [Int.mul_comm] at h1
  omega

/-! ### ways' weights, and shares -/
def wt (c s : Int) : Int := if (1 ≤ c ∧ c ≤ 1073741824) ∧ (1 ≤ s ∧ s ≤ 1099511627776) then c * 1048576 / s else 0
theorem wt_in (c s : Int) : 0 ≤ wt c s ∧ wt c s ≤ 1125899906842624 := by
  unfold wt
  split
  · rename_i h
    have := (div_between (c * 1048576) s (by omega)).1 (by omega)
    omega
  · omega
theorem MD_wt {c s : Int} (h : (1 ≤ c ∧ c ≤ 1073741824) ∧ (1 ≤ s ∧ s ≤ 1099511627776)) : MD c 1048576 s = (wt c s, true) := by
  have e : wt c s = c * 1048576 / s := if_pos h
  have hb := wt_in c s
  rw [e] at hb ⊢
  exact MD_yes ⟨⟨by omega, by omega⟩, by decide, ⟨by omega, by omega⟩, by omega, ⟨by omega, by omega⟩⟩
def wsum : List S26 → Int
  | [] => 0
  | x :: l => wt x.f0 x.f1 + wsum l
theorem wsum_in : ∀ l : List S26, 0 ≤ wsum l ∧ wsum l ≤ 1125899906842624 * l.length
  | [] => by simp [wsum]
  | x :: l => by
    have h1 := wsum_in l
    have h2 := wt_in x.f0 x.f1
    simp only [wsum, List.length_cons]
    omega
theorem wsum_append : ∀ l m : List S26, wsum (l ++ m) = wsum l + wsum m
  | [], m => by simp [wsum]
  | x :: l, m => by simp only [List.cons_append, wsum, wsum_append l m]; omega
theorem rd_drop (l : List S26) (i : Nat) (h : i < l.length) : l.drop i = rd_T26 l i :: l.drop (i + 1) := by
  unfold rd_T26
  rw [List.drop_eq_getElem_cons h]
  simp [List.getD, List.getElem?_eq_getElem h]
theorem wsum_drop (l : List S26) (i : Nat) (h : i < l.length) : wsum (l.drop i) = wt (rd_T26 l i).f0 (rd_T26 l i).f1 + wsum (l.drop (i + 1)) := by
  rw [rd_drop l i h]; rfl
theorem wt_le_wsum (l : List S26) (i : Nat) (h : i < l.length) : wt (rd_T26 l i).f0 (rd_T26 l i).f1 ≤ wsum l := by
  have h1 := wsum_append (l.take i) (l.drop i)
  rw [List.take_append_drop] at h1
  have h2 := (wsum_in (l.take i)).1
  have h3 := (wsum_in (l.drop (i + 1))).1
  have h4 := wsum_drop l i h
  omega
/-- The part of t that a weight has of all weights. -/
def share (t w s : Int) : Int := if 1 ≤ s then t * w / s else 0
theorem share_in {t w s : Int} (h0 : 0 ≤ t) (h2 : 0 ≤ w) (h3 : w ≤ s) : 0 ≤ share t w s ∧ share t w s ≤ t := by
  unfold share
  split
  · rename_i h
    have hp : 0 ≤ t * w := Int.mul_nonneg h0 h2
    refine ⟨Int.ediv_nonneg hp (by omega), ?_⟩
    have : t * w ≤ t * s := Int.mul_le_mul_of_nonneg_left h3 h0
    have h4 := Int.ediv_le_ediv (c := s) (by omega) this
    rwa [Int.mul_ediv_cancel _ (by omega)] at h4
  · omega
theorem MD_share {t w s : Int} (h0 : 0 ≤ t) (h1 : t ≤ 4611686018427387904) (h2 : 0 ≤ w) (h3 : w ≤ s) (h4 : s ≤ 4611686018427387904) : (MD t w s).1 = share t w s := by
  have hb := share_in h0 h2 h3
  by_cases h : 1 ≤ s
  · have e : share t w s = t * w / s := if_pos h
    rw [e] at hb ⊢
    rw [MD_yes ⟨⟨by omega, h1⟩, ⟨by omega, by omega⟩, ⟨by omega, h4⟩, h, ⟨by omega, by omega⟩⟩]
  · have e : share t w s = 0 := if_neg h
    rw [e, MD_no (fun h' => h h'.2.2.2.1)]
theorem share_mono_w {t w w' s : Int} (h0 : 0 ≤ t) (h : w ≤ w') : share t w s ≤ share t w' s := by
  unfold share
  split
  · exact Int.ediv_le_ediv (by omega) (Int.mul_le_mul_of_nonneg_left h h0)
  · omega
theorem share_mono_t {t t' w s : Int} (h0 : 0 ≤ w) (h : t ≤ t') : share t w s ≤ share t' w s := by
  unfold share
  split
  · exact Int.ediv_le_ediv (by omega) (Int.mul_le_mul_of_nonneg_right h h0)
  · omega
theorem share_mul (t w s : Int) : share t w s * s ≤ t * w ∨ s < 1 := by
  unfold share
  split
  · rename_i h; exact .inl (div_left (t * w) s h).1
  · right; omega
def wAt (l : List S26) (i : Int) : Int := wt (rd_T26 l i).f0 (rd_T26 l i).f1

/-! ### xmp: shares, windows -/
theorem xin_f (a b c : Int) : xmp_in.f a b c = some (decide (b ≤ a ∧ a ≤ c)) := by
  unfold xmp_in.f
  by_cases h : a ≥ b
  · rw [if_pos h]; exact congrArg some (decide_eq_decide.mpr ⟨fun h' => ⟨h, h'⟩, fun h' => h'.2⟩)
  · rw [if_neg h]; exact congrArg some (decide_eq_false (fun h' => h h'.1)).symm
theorem weight_f (k : Nat) (hk : 100 ≤ k) (c s : Int) : xmp_weight.f k c s = some (wt c s) := by
  unfold xmp_weight.f
  rw [xin_f, xin_f]
  simp only [Option.bind_some, decide_eq_true_eq]
  by_cases h1 : 1 ≤ c ∧ c ≤ 1073741824
  · rw [if_pos h1]
    by_cases h2 : 1 ≤ s ∧ s ≤ 1099511627776
    · rw [if_pos h2, MulDiv_f k hk, MD_wt ⟨h1, h2⟩]; rfl
    · rw [if_neg h2]; unfold wt; rw [if_neg (fun h => h2 h.2)]
  · rw [if_neg h1]; unfold wt; rw [if_neg (fun h => h1 h.1)]
def shareOf (l : List S26) (i m : Int) : Int := share m (wAt l i) (wsum l)
theorem wAt_le (l : List S26) (i : Int) (h0 : 0 ≤ i) (h : i < (l.length : Int)) : 0 ≤ wAt l i ∧ wAt l i ≤ wsum l := by
  have hw := wt_le_wsum l i.toNat (by omega)
  have e : ((i.toNat : Nat) : Int) = i := by omega
  rw [e] at hw
  exact ⟨(wt_in _ _).1, hw⟩
theorem share_loop (l : List S26) (hl : l.length ≤ 4) (i m : Int) (hi0 : 0 ≤ i) (hi : i < (l.length : Int)) (hm0 : 0 ≤ m) (hm : m ≤ 1460) : ∀ (j k n : Nat) (acc : Int), n + j = l.length → 110 + j < k → 0 ≤ acc → acc + wsum (l.drop n) = wsum l →
    xmp_Share.l0 k l i m acc l (l.length : Int) (n : Int) = some (shareOf l i m) := by
  intro j
  induction j with
  | zero =>
    intro k n acc hn hk h0 hs
    obtain ⟨k, rfl⟩ : ∃ m, k = m + 1 := ⟨k - 1, by omega⟩
    have e : l.drop n = [] := List.drop_eq_nil_of_le (by omega)
    rw [e] at hs
    simp only [wsum, Int.add_zero] at hs
    have hw := wAt_le l i hi0 hi
    have hb := wsum_in l
    rw [xmp_Share.l0, if_neg (by omega), if_pos hi0, if_pos hi, weight_f k (by omega)]
    simp only [Option.bind_some]
    rw [MulDiv_f k (by omega), hs]
    simp only [Option.bind_some]
    unfold wAt at hw
    rw [MD_share hm0 (by omega) hw.1 hw.2 (by omega)]
    rfl
  | succ j ih =>
    intro k n acc hn hk h0 hs
    obtain ⟨k, rfl⟩ : ∃ m, k = m + 1 := ⟨k - 1, by omega⟩
    have hd := wsum_drop l n (by omega)
    have hb := wsum_in l
    have hb2 := wsum_in (l.drop (n + 1))
    have hw0 := wt_in (rd_T26 l n).f0 (rd_T26 l n).f1
    rw [xmp_Share.l0, if_pos (by omega), if_pos (by omega), if_pos (by omega), weight_f k (by omega)]
    simp only [Option.bind_some]
    rw [wrap64_id (acc + _) (by omega) (by omega), wrap64_id ((n : Int) + 1) (by omega) (by omega)]
    have e : (n : Int) + 1 = ((n + 1 : Nat) : Int) := by omega
    rw [e]
    exact ih k (n + 1) _ (by omega) (by omega) (by omega) (by omega)
theorem Share_yes (k : Nat) (hk : 200 ≤ k) {l : List S26} {i m : Int} (hl : l.length ≤ 4) (hi0 : 0 ≤ i) (hi : i < (l.length : Int)) (hm0 : 1 ≤ m) (hm : m ≤ 1460) : xmp_Share.f k l i m = some (shareOf l i m) := by
  obtain ⟨k, rfl⟩ : ∃ m, k = m + 1 := ⟨k - 1, by omega⟩
  unfold xmp_Share.f
  rw [wrap64_id ((l.length : Int) - 1) (by omega) (by omega), xin_f, xin_f]
  have h1 : 0 ≤ i ∧ i ≤ (l.length : Int) - 1 := ⟨hi0, by omega⟩
  have h2 : 1 ≤ m ∧ m ≤ 1460 := ⟨hm0, hm⟩
  have h3 : ¬ (l.length : Int) > 4 := by omega
  simp only [Option.bind_some, h1, h2, h3, decide_true, decide_false, and_self, if_true, xmp_Share.j0, Bool.false_eq_true, if_false]
  exact share_loop l hl i m hi0 hi (by omega) hm l.length k 0 0 (by omega) (by omega) (by omega) (by simp)
theorem Share_no (k : Nat) (hk : 200 ≤ k) {l : List S26} {i m : Int} (hlen : l.length ≤ 20) (h : ¬ ((0 ≤ i ∧ i < (l.length : Int)) ∧ l.length ≤ 4 ∧ (1 ≤ m ∧ m ≤ 1460))) : xmp_Share.f k l i m = some 0 := by
  obtain ⟨k, rfl⟩ : ∃ m, k = m + 1 := ⟨k - 1, by omega⟩
  unfold xmp_Share.f
  rw [wrap64_id ((l.length : Int) - 1) (by omega) (by omega), xin_f, xin_f]
  simp only [Option.bind_some, decide_eq_true_eq]
  by_cases h1 : 1 ≤ m ∧ m ≤ 1460
  · rw [if_pos h1]
    by_cases h2 : 0 ≤ i ∧ i ≤ (l.length : Int) - 1
    · rw [if_pos h2]
      have h3 : (l.length : Int) > 4 := by
        by_cases h3 : (l.length : Int) > 4
        · exact h3
        · exact absurd ⟨⟨h2.1, by omega⟩, by omega, h1⟩ h
      simp only [h3, decide_true, xmp_Share.j0, if_true]
    · rw [if_neg h2]; simp only [xmp_Share.j0, if_true]
  · rw [if_neg h1]; simp only [xmp_Share.j0, if_true]
theorem xMay_f (c t s g : Int) : xmp_May.f c t s g = some (decide (Hand.WFine c t s g)) := by
  unfold xmp_May.f xmp_limits.f
  rw [xin_f, xin_f, xin_f, xin_f]
  simp only [Option.bind_some, decide_eq_true_eq]
  unfold Hand.WFine
  by_cases h1 : 1 ≤ s ∧ s ≤ 1460
  · by_cases h2 : s ≤ g ∧ g ≤ 1073741824
    · by_cases h3 : s ≤ c ∧ c ≤ g
      · by_cases h4 : s ≤ t ∧ t ≤ g
        · simp [h1, h2, h3, h4]
        · simp [h1, h2, h3, h4]
      · simp [h1, h2, h3]
    · simp [h1, h2]
  · simp [h1]

def cutOf (c n s : Int) : Int := mx s (c - c * n / 2048)
theorem Cut_yes {c t n s g : Int} (h : Hand.WFine c t s g) (h0 : 0 ≤ n) (h1 : n ≤ 1024) : xmp_Cut.f c t n s g = some (cutOf c n s, cutOf c n s, 0) := by
  unfold xmp_Cut.f Hand.xmp_Cut.f cutOf mx
  rw [if_pos ⟨h, h0, h1⟩]
  split <;> split <;> first | rfl | omega | (congr 3 <;> omega)
theorem Cut_no {c t n s g : Int} (h : ¬ (Hand.WFine c t s g ∧ 0 ≤ n ∧ n ≤ 1024)) : xmp_Cut.f c t n s g = some (0, 0, 1) := by
  unfold xmp_Cut.f Hand.xmp_Cut.f
  rw [if_neg h]
theorem cut_in {c n s g : Int} (h0 : 0 ≤ n) (h1 : n ≤ 1024) (h2 : 1 ≤ s) (h3 : s ≤ c) (_ : c ≤ g) : s ≤ cutOf c n s ∧ cutOf c n s ≤ c ∧ c ≤ 2 * cutOf c n s := by
  have q0 : 0 ≤ c * n := Int.mul_nonneg (by omega) h0
  have q1 : c * n ≤ c * 1024 := Int.mul_le_mul_of_nonneg_left h1 (by omega)
  unfold cutOf mx
  generalize c * n = z at *
  split <;> omega
theorem cut_mono {c n m s : Int} (hc : 0 ≤ c) (h : n ≤ m) : cutOf c m s ≤ cutOf c n s := by
  have q1 : c * n ≤ c * m := Int.mul_le_mul_of_nonneg_left h hc
  unfold cutOf mx
  generalize c * n = z at *
  generalize c * m = y at *
  (repeat' split) <;> omega

theorem awake_f (k : Nat) (hk : 200 ≤ k) : fourinhandlaw15_awake.f k = some true := by
  unfold fourinhandlaw15_awake.f
  have hf : Hand.WFine 10000 10000 100 100000 := by decide
  rw [Cut_yes hf (by omega) (by omega)]
  have e : cutOf 10000 1024 100 = 5000 := by decide
  rw [e]
  simp only [Option.bind_some]
  rw [Share_yes k hk (by simp) (by omega) (by simp) (by omega) (by omega), Share_yes k hk (by simp) (by omega) (by simp) (by omega) (by omega), xMay_f]
  decide

/-- Whether two ways are the same, and whether one may be. -/
def sameB (x y : S26) : Bool := x.f0 == y.f0 && x.f1 == y.f1
def fineB (x : S26) : Bool := decide (x.f0 ≥ 1) && (decide (x.f0 ≤ 1073741824) && (decide (x.f1 ≥ 1) && decide (x.f1 ≤ 1048576)))
theorem wAt_nat (l : List S26) (n : Nat) : wAt l n = wt (rd_T26 l n).f0 (rd_T26 l n).f1 := rfl
theorem share_low (t w s : Int) (h : 1 ≤ s) : t * w - s + 1 ≤ share t w s * s := by
  unfold share
  rw [if_pos h]
  have h2 := Int.emod_lt_of_pos (t * w) (show 0 < s by omega)
  have h3 := Int.mul_ediv_add_emod (t * w) s
  have h4 := Int.mul_comm (t * w / s) s
  omega
/-- What is known at a round: the sum, and what the weights that were met come to. -/
structure Met (l : List S26) (m sum p : Int) (same fine : Bool) (n : Nat) : Prop where
  low : 0 ≤ sum
  high : sum ≤ n * m
  rest : p + wsum (l.drop n) = wsum l
  pos : 0 ≤ p
  mul : sum * wsum l ≤ m * p
  none : wsum l < 1 → sum = 0
  much : 1 ≤ wsum l → m * p - n * wsum l + n ≤ sum * wsum l
  same : same = true → ∀ i : Nat, i < n → sameB (rd_T26 l i) (rd_T26 l 0) = true
  fine : fine = true → ∀ i : Nat, i < n → fineB (rd_T26 l i) = true
theorem fine_wt (l : List S26) (i : Nat) (h : fineB (rd_T26 l i) = true) : 1 ≤ wAt l i := by
  rw [wAt_nat]
  unfold fineB at h
  simp only [Bool.and_eq_true, decide_eq_true_eq] at h
  obtain ⟨h1, h2, h3, h4⟩ := h
  unfold wt
  rw [if_pos ⟨⟨by omega, h2⟩, by omega, by omega⟩, Int.le_ediv_iff_mul_le (by omega)]
  omega
theorem together_end (l : List S26) (hl : l.length ≤ 4) (m : Int) (hm0 : 1 ≤ m) (hm : m ≤ 1460) (k : Nat) (hk : 210 < k) (sum p : Int) (same fine : Bool) (h : Met l m sum p same fine l.length) : fourinhandlaw15_XmpTogether.l0 k l m sum same fine (l.length : Int) = some true := by
  obtain ⟨k, rfl⟩ : ∃ m, k = m + 2 := ⟨k - 2, by omega⟩
  have hp := h.rest
  rw [List.drop_eq_nil_of_le (by omega)] at hp
  simp only [wsum, Int.add_zero] at hp
  have hb := wsum_in l
  have h1 : sum ≤ m := by
    by_cases hw : wsum l < 1
    · have := h.none hw; omega
    · have := h.mul
      rw [hp] at this
      exact Int.le_of_mul_le_mul_right this (by omega)
  have j2 : fourinhandlaw15_XmpTogether.j2 (k + 1) l m same false = some true := by
    rw [fourinhandlaw15_XmpTogether.j2, if_neg (by decide)]
    cases hs : same with
    | false => rw [if_neg (by decide)]
    | true =>
      rw [if_pos rfl]
      by_cases h0 : (l.length : Int) = 0
      · rw [if_pos h0]
      · rw [if_neg h0, wrap64_id _ (by omega) (by omega), Share_yes k (by omega) hl (by omega) (by omega) hm0 hm, Share_yes k (by omega) hl (by omega) (by omega) hm0 hm]
        have hq := h.same hs (l.length - 1) (by omega)
        unfold sameB at hq
        rw [Bool.and_eq_true, beq_iff_eq, beq_iff_eq] at hq
        have e : (l.length : Int) - 1 = ((l.length - 1 : Nat) : Int) := by omega
        have e2 : wAt l ((l.length : Int) - 1) = wAt l 0 := by rw [e, wAt_nat, hq.1, hq.2]; rfl
        simp only [Option.bind_some]
        unfold shareOf
        rw [e2]
        simp
  rw [fourinhandlaw15_XmpTogether.l0, if_neg (by omega), if_neg (by omega)]
  cases hf : fine with
  | false => rw [if_neg (by decide)]; exact j2
  | true =>
    rw [if_pos rfl, wrap64_id (m - (l.length : Int)) (by omega) (by omega)]
    have hlow : 0 < (l.length : Int) → m - (l.length : Int) < sum := by
      intro h0
      have hw1 : 1 ≤ wsum l := by
        have h2 := fine_wt l 0 (h.fine hf 0 (by omega))
        have h3 := wAt_le l 0 (by omega) h0
        have e0 : wAt l ((0 : Nat) : Int) = wAt l 0 := rfl
        omega
      have h4 := h.much hw1
      rw [hp] at h4
      have h5 : (m - (l.length : Int)) * wsum l < sum * wsum l := by
        have e : (m - (l.length : Int)) * wsum l = m * wsum l - (l.length : Int) * wsum l := Int.sub_mul _ _ _
        omega
      exact Int.lt_of_mul_lt_mul_right h5 (by omega)
    have hsm : ¬ (sum < m - (l.length : Int) ∧ (l.length : Int) > 0) := fun h6 => by have := hlow h6.2; omega
    have tail : (if sum < m - (l.length : Int) then fourinhandlaw15_XmpTogether.j2 (k + 1) l m same (decide ((l.length : Int) > 0)) else fourinhandlaw15_XmpTogether.j2 (k + 1) l m same false) = some true := by
      by_cases h7 : sum < m - (l.length : Int)
      · have h8 : ¬ (l.length : Int) > 0 := fun h8 => hsm ⟨h7, h8⟩
        rw [if_pos h7, decide_eq_false h8]; exact j2
      · rw [if_neg h7]; exact j2
    by_cases h9 : (l.length : Int) = 1
    · rw [if_pos h9]
      have h10 := hlow (by omega)
      rw [if_pos (by omega)]
      exact tail
    · rw [if_neg h9]; exact tail
theorem together_loop (l : List S26) (hl : l.length ≤ 4) (m : Int) (hm0 : 1 ≤ m) (hm : m ≤ 1460) : ∀ (j k n : Nat) (sum p : Int) (same fine : Bool), n + j = l.length → 210 + j < k → Met l m sum p same fine n → fourinhandlaw15_XmpTogether.l0 k l m sum same fine (n : Int) = some true := by
  intro j
  induction j with
  | zero =>
    intro k n sum p same fine hn hk h
    have e : n = l.length := by omega
    subst e
    exact together_end l hl m hm0 hm k (by omega) sum p same fine h
  | succ j ih =>
    intro k n sum p same fine hn hk h
    obtain ⟨k, rfl⟩ : ∃ m, k = m + 1 := ⟨k - 1, by omega⟩
    rw [fourinhandlaw15_XmpTogether.l0, if_pos (by omega), Share_yes k (by omega) hl (by omega) (by omega) hm0 hm]
    simp only [Option.bind_some]
    have hwl := wAt_le l n (by omega) (by omega)
    have hs : 0 ≤ shareOf l n m ∧ shareOf l n m ≤ m := share_in (t := m) (by omega) hwl.1 hwl.2
    have hd := wsum_drop l n (by omega)
    rw [← wAt_nat] at hd
    have hh := h.high
    have hnb : (n : Int) * m ≤ 4 * 1460 := (mul_le_of n m 4 1460 (by omega) (by omega) (by omega) hm).2
    have hlo := h.low
    have e : (n : Int) + 1 = ((n + 1 : Nat) : Int) := by omega
    rw [if_neg (by omega), if_neg (by omega), wrap64_id (sum + shareOf l n m) (by omega) (by omega), wrap64_id ((n : Int) + 1) (by omega) (by omega), e]
    have next : ∀ s' f' : Bool, (s' = true → same = true ∧ sameB (rd_T26 l n) (rd_T26 l 0) = true) → (f' = true → fine = true ∧ fineB (rd_T26 l n) = true) → fourinhandlaw15_XmpTogether.l0 k l m (sum + shareOf l n m) s' f' ((n + 1 : Nat) : Int) = some true := by
      intro s' f' hs' hf'
      refine ih k (n + 1) _ (p + wAt l n) s' f' (by omega) (by omega) ⟨by omega, ?_, by have := h.rest; omega, by have := h.pos; omega, ?_, ?_, ?_, ?_, ?_⟩
      · have : ((n + 1 : Nat) : Int) * m = (n : Int) * m + m := by rw [← e]; grind
        omega
      · have hmu := h.mul
        rcases share_mul m (wAt l n) (wsum l) with h1 | h1
        · have e1 : (sum + shareOf l n m) * wsum l = sum * wsum l + share m (wAt l n) (wsum l) * wsum l := by unfold shareOf; grind
          have e2 : m * (p + wAt l n) = m * p + m * wAt l n := by grind
          omega
        · have h2 := h.none h1
          have h3 : shareOf l n m = 0 := if_neg (by omega)
          rw [h2, h3]
          have := Int.mul_nonneg (show 0 ≤ m by omega) (show 0 ≤ p + wAt l n by have := h.pos; omega)
          omega
      · intro h1
        have h2 := h.none h1
        have h3 : shareOf l n m = 0 := if_neg (by omega)
        omega
      · intro h1
        have h2 := h.much h1
        have h3 := share_low m (wAt l n) (wsum l) h1
        have e1 : (sum + shareOf l n m) * wsum l = sum * wsum l + share m (wAt l n) (wsum l) * wsum l := by unfold shareOf; grind
        have e2 : m * (p + wAt l n) = m * p + m * wAt l n := by grind
        have e3 : ((n + 1 : Nat) : Int) * wsum l = (n : Int) * wsum l + wsum l := by rw [← e]; grind
        omega
      · intro h1 i hi
        obtain ⟨h2, h3⟩ := hs' h1
        by_cases h4 : i < n
        · exact h.same h2 i h4
        · have h5 : i = n := by omega
          rw [h5]; exact h3
      · intro h1 i hi
        obtain ⟨h2, h3⟩ := hf' h1
        by_cases h4 : i < n
        · exact h.fine h2 i h4
        · have h5 : i = n := by omega
          rw [h5]; exact h3
    have hF : ∀ f' : Bool, f' = true → f' = fineB (rd_T26 l n) → fineB (rd_T26 l n) = true := fun f' a b => by rw [← b]; exact a
    cases hsm : same with
    | true =>
      rw [if_pos rfl, if_pos (by omega), if_pos (by omega)]
      cases hfi : fine with
      | true =>
        rw [if_pos rfl]
        by_cases c1 : (rd_T26 l n).f0 ≥ 1
        · rw [if_pos c1]
          by_cases c2 : (rd_T26 l n).f0 ≤ 1073741824
          · rw [if_pos c2]
            by_cases c3 : (rd_T26 l n).f1 ≥ 1
            · rw [if_pos c3]
              exact next _ _ (fun a => ⟨hsm, a⟩) (fun a => ⟨hfi, by unfold fineB; rw [decide_eq_true c1, decide_eq_true c2, decide_eq_true c3]; exact a⟩)
            · rw [if_neg c3]; exact next _ _ (fun a => ⟨hsm, a⟩) (fun a => absurd a (by decide))
          · rw [if_neg c2]; exact next _ _ (fun a => ⟨hsm, a⟩) (fun a => absurd a (by decide))
        · rw [if_neg c1]; exact next _ _ (fun a => ⟨hsm, a⟩) (fun a => absurd a (by decide))
      | false => rw [if_neg (by decide)]; exact next _ _ (fun a => ⟨hsm, a⟩) (fun a => absurd a (by decide))
    | false =>
      rw [if_neg (by decide)]
      cases hfi : fine with
      | true =>
        rw [if_pos rfl, if_pos (by omega)]
        by_cases c1 : (rd_T26 l n).f0 ≥ 1
        · rw [if_pos c1]
          by_cases c2 : (rd_T26 l n).f0 ≤ 1073741824
          · rw [if_pos c2]
            by_cases c3 : (rd_T26 l n).f1 ≥ 1
            · rw [if_pos c3]
              exact next _ _ (fun a => absurd a (by decide)) (fun a => ⟨hfi, by unfold fineB; rw [decide_eq_true c1, decide_eq_true c2, decide_eq_true c3]; exact a⟩)
            · rw [if_neg c3]; exact next _ _ (fun a => absurd a (by decide)) (fun a => absurd a (by decide))
          · rw [if_neg c2]; exact next _ _ (fun a => absurd a (by decide)) (fun a => absurd a (by decide))
        · rw [if_neg c1]; exact next _ _ (fun a => absurd a (by decide)) (fun a => absurd a (by decide))
      | false => rw [if_neg (by decide)]; exact next _ _ (fun a => absurd a (by decide)) (fun a => absurd a (by decide))
theorem XmpTogether : fourinhandlaw15_XmpTogether.Pure := by
  intro l m _ _
  refine ⟨402, ?_⟩
  unfold fourinhandlaw15_XmpTogether.f
  rw [awake_f 402 (by omega)]
  simp only [Option.bind_some, if_true]
  have hy : fourinhandlaw15_XmpTogether.j0 402 l m true true = some true := by rw [fourinhandlaw15_XmpTogether.j0, if_pos rfl]
  by_cases h1 : (l.length : Int) > 4
  · rw [if_pos h1]; exact hy
  rw [if_neg h1]
  by_cases h2 : m < 1
  · rw [if_pos h2]; exact hy
  rw [if_neg h2]
  by_cases h3 : m > 1460
  · simp only [h3, decide_true]; exact hy
  simp only [h3, decide_false, fourinhandlaw15_XmpTogether.j0, Bool.false_eq_true, if_false]
  exact together_loop l (by omega) m (by omega) (by omega) l.length 401 0 0 0 true true (by omega) (by omega) ⟨by omega, by simp, by simp, by omega, by simp, fun _ => rfl, fun _ => by simp, fun _ i hi => by omega, fun _ i hi => by omega⟩

end Go.Proofs.Ytdbnhmipbbadjaa.Pure
