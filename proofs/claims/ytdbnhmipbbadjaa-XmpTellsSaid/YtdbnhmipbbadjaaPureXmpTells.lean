/- Any windows may be, or not, grow, and shrink, and any ways have the shares, as the document says, or it is told why not: for every input, without a condition. -/
import Derived.Test.YtdbnhmipbbadjaaPXmpTellsx6
import Derived.Test.YtdbnhmipbbadjaaStmtXmpTells
import Derived.Laws.BitsLemmas
import Derived.Laws.Bits64
namespace Go.Proofs.Ytdbnhmipbbadjaa.Pure
open Go.RowKit Go.Proofs.Ytdbnhmipbbadjaa.PXmpTells Go.Proofs.YtdbnhmipbbadjaaW.PrintWords Go.Proofs.YtdbnhmipbbadjaaW.PrintLast Go.Proofs.YtdbnhmipbbadjaaW.PrintMore
/-! ### bits and words of 64 bits -/
theorem wraps_u64 (n : Int) (h0 : 0 ≤ n) (h1 : n < 2 ^ 64) : IntKind.u64.wrap n = n := by rw [IntKind.wrap_u64]; omega
theorem and_low32 (x : Int) (h0 : 0 ≤ x) (h1 : x < 18446744073709551616) : Go.bits .and .u64 x 4294967295 = x % 4294967296 :=
  bits_mask .u64 64 (by decide) wraps_u64 32 (by decide) x h0 h1
theorem and_one (x : Int) (h0 : 0 ≤ x) (h1 : x < 18446744073709551616) : Go.bits .and .u64 x 1 = x % 2 :=
  bits_mask .u64 64 (by decide) wraps_u64 1 (by decide) x h0 h1
theorem or_low32 (x y : Int) (h0 : 0 ≤ x) (h1 : x < 18446744073709551616) (h2 : x % 4294967296 = 0) (h3 : 0 ≤ y) (h4 : y < 4294967296) : Go.bits .or .u64 x y = x + y :=
  bits_join .u64 64 (by decide) wraps_u64 32 x y h0 h2 h1 h3 h4 (by omega)
theorem or_one (x y : Int) (h0 : 0 ≤ x) (h1 : x < 18446744073709551616) (h2 : x % 2 = 0) (h3 : 0 ≤ y) (h4 : y < 2) : Go.bits .or .u64 x y = x + y :=
  bits_join .u64 64 (by decide) wraps_u64 1 x y h0 h2 h1 h3 h4 (by omega)
theorem wrap64_id (n : Int) (h0 : -9223372036854775808 ≤ n) (h1 : n < 9223372036854775808) : wrap64 n = n := by unfold wrap64; omega

/-! ### the number's range -/
def InR (a : Int) : Prop := -4611686018427387904 ≤ a ∧ a ≤ 4611686018427387904
instance (a : Int) : Decidable (InR a) := inferInstanceAs (Decidable (_ ∧ _))
theorem In_f (a : Int) : fix_In.f a = some (decide (InR a)) := by
  unfold fix_In.f
  by_cases h : a ≥ (-4611686018427387904)
  · rw [if_pos h]; exact congrArg some (decide_eq_decide.mpr ⟨fun h' => ⟨h, h'⟩, fun h' => h'.2⟩)
  · rw [if_neg h]; exact congrArg some (decide_eq_false (fun h' => h h'.1)).symm
theorem size_f (a : Int) (h : InR a) : fix_size.f a = some (if a < 0 then -a else a, decide (a < 0)) := by
  unfold fix_size.f
  unfold InR at h
  by_cases h0 : a < 0
  · rw [if_pos h0, if_pos h0, wrap64_id _ (by omega) (by omega), wraps_u64 _ (by omega) (by omega)]; simp [h0]
  · rw [if_neg h0, if_neg h0, wraps_u64 _ (by omega) (by omega)]; simp [h0]

/-! ### the product of 128 bits -/
theorem mul_le_of (a b A B : Int) (h0 : 0 ≤ a) (h1 : a ≤ A) (h2 : 0 ≤ b) (h3 : b ≤ B) : 0 ≤ a * b ∧ a * b ≤ A * B :=
  ⟨Int.mul_nonneg h0 h2, Int.mul_le_mul h1 h3 h2 (by omega)⟩
theorem product_f (x y : Int) (hx0 : 0 ≤ x) (hx : x ≤ 4611686018427387904) (hy0 : 0 ≤ y) (hy : y ≤ 4611686018427387904) :
    fix_product.f x y = some (x * y / 18446744073709551616, x * y % 18446744073709551616) := by
  unfold fix_product.f
  rw [and_low32 x hx0 (by omega), and_low32 y hy0 (by omega)]
  obtain ⟨xh, hxh⟩ : ∃ z, x / 4294967296 = z := ⟨_, rfl⟩
  obtain ⟨xl, hxl⟩ : ∃ z, x % 4294967296 = z := ⟨_, rfl⟩
  obtain ⟨yh, hyh⟩ : ∃ z, y / 4294967296 = z := ⟨_, rfl⟩
  obtain ⟨yl, hyl⟩ : ∃ z, y % 4294967296 = z := ⟨_, rfl⟩
  rw [hxh, hxl, hyh, hyl]
  have ex : x = xh * 4294967296 + xl := by omega
  have ey : y = yh * 4294967296 + yl := by omega
  have b1 : 0 ≤ xh ∧ xh ≤ 1073741824 ∧ 0 ≤ xl ∧ xl ≤ 4294967295 := by omega
  have b2 : 0 ≤ yh ∧ yh ≤ 1073741824 ∧ 0 ≤ yl ∧ yl ≤ 4294967295 := by omega
  have exy : x * y = xh * yh * 18446744073709551616 + (xh * yl + xl * yh) * 4294967296 + xl * yl := by
    rw [ex, ey]; grind
  have bA := mul_le_of xh yh 1073741824 1073741824 b1.1 b1.2.1 b2.1 b2.2.1
  have bB := mul_le_of xh yl 1073741824 4294967295 b1.1 b1.2.1 b2.2.2.1 b2.2.2.2
  have bC := mul_le_of xl yh 4294967295 1073741824 b1.2.2.1 b1.2.2.2 b2.1 b2.2.1
  have bP := mul_le_of xl yl 4294967295 4294967295 b1.2.2.1 b1.2.2.2 b2.2.2.1 b2.2.2.2
  rw [exy]
  clear exy ex ey hxh hxl hyh hyl b1 b2
  generalize xh * yh = A at *
  generalize xh * yl = B at *
  generalize xl * yh = C at *
  generalize xl * yl = P at *
  rw [wraps_u64 A (by omega) (by omega), wraps_u64 B (by omega) (by omega), wraps_u64 C (by omega) (by omega), wraps_u64 P (by omega) (by omega)]
  rw [wraps_u64 (B + P / 4294967296) (by omega) (by omega), and_low32 (B + P / 4294967296) (by omega) (by omega), and_low32 P (by omega) (by omega)]
  rw [wraps_u64 (C + (B + P / 4294967296) % 4294967296) (by omega) (by omega)]
  rw [wraps_u64 (A + (B + P / 4294967296) / 4294967296) (by omega) (by omega)]
  rw [wraps_u64 (A + (B + P / 4294967296) / 4294967296 + (C + (B + P / 4294967296) % 4294967296) / 4294967296) (by omega) (by omega)]
  rw [IntKind.wrap_u64 ((C + (B + P / 4294967296) % 4294967296) * 4294967296)]
  rw [or_low32 _ _ (by omega) (by omega) (by omega) (by omega) (by omega)]
  simp only [Option.some.injEq, Prod.mk.injEq]
  constructor <;> omega

/-! ### the long division -/
theorem mod_two_pow_succ (m n : Nat) : m % 2 ^ (n + 1) = m / 2 ^ n % 2 * 2 ^ n + m % 2 ^ n := by
  rw [Nat.mod_pow_succ, Nat.mul_comm, Nat.add_comm]
theorem by_loop (c : Int) (hc1 : 1 ≤ c) (hc : c ≤ 4611686018427387904) (hi : Int) (m : Nat) (hm : m < 2 ^ 64) : ∀ (n : Nat), n ≤ 64 → ∀ (k : Nat), n < k → ∀ (q r : Int), 0 ≤ r → r < c → 0 ≤ q → q < 2 ^ (64 - n) →
    ∃ q' r', fix_wide_by.l0 k c q r ((n : Int) - 1) hi m = some (q', r') ∧ 0 ≤ r' ∧ r' < c ∧ 0 ≤ q' ∧ q' * c + r' = (q * c + r) * 2 ^ n + (m % 2 ^ n : Nat) := by
  intro n
  induction n with
  | zero =>
    intro _ k hk q r h0 h1 h2 h3
    obtain ⟨k, rfl⟩ : ∃ j, k = j + 1 := ⟨k - 1, by omega⟩
    refine ⟨q, r, ?_, h0, h1, h2, by simp [Nat.mod_one]⟩
    simp only [fix_wide_by.l0]
    rw [if_neg (by omega)]
  | succ n ih =>
    intro hn k hk q r h0 h1 h2 h3
    obtain ⟨k, rfl⟩ : ∃ j, k = j + 1 := ⟨k - 1, by omega⟩
    have hq2 : q * 2 + 1 < 2 ^ (64 - n) := by
      have e : (64 - n) = (64 - (n + 1)) + 1 := by omega
      rw [e, Int.pow_succ]; omega
    have hpow : (2 : Int) ^ (64 - n) ≤ 18446744073709551616 := by
      have h1 : (2 : Nat) ^ (64 - n) ≤ 18446744073709551616 := Nat.pow_le_pow_right (n := 2) (j := 64) (by decide) (by omega)
      have h2 : (2 : Int) ^ (64 - n) = ((2 ^ (64 - n) : Nat) : Int) := by simp
      rw [h2]; omega
    have e1 : ((n + 1 : Nat) : Int) - 1 = (n : Int) := by omega
    rw [e1, fix_wide_by.l0]
    rw [if_pos (by omega), if_pos (by omega)]
    have e2 : shr .u64 (m : Int) (n : Int) = ((m / 2 ^ n : Nat) : Int) := by
      unfold shr
      have : min ((n : Int)).toNat IntKind.u64.bits = n := by simp [IntKind.bits]; omega
      rw [this]; simp
    have hb : m / 2 ^ n ≤ m := Nat.div_le_self _ _
    rw [e2]
    generalize hM : m / 2 ^ n = M at *
    rw [and_one _ (by omega) (by omega)]
    have e3 : (M : Int) % 2 = ((M % 2 : Nat) : Int) := by omega
    rw [e3]
    have hs := mod_two_pow_succ m n
    rw [hM] at hs
    have hbit : M % 2 < 2 := Nat.mod_lt _ (by decide)
    generalize M % 2 = b at *
    rw [wraps_u64 (r * 2) (by omega) (by omega), wraps_u64 (q * 2) (by omega) (by omega)]
    rw [or_one (r * 2) b (by omega) (by omega) (by omega) (by omega) (by omega), or_one (q * 2) 1 (by omega) (by omega) (by omega) (by omega) (by omega)]
    rw [wrap64_id ((n : Int) - 1) (by omega) (by omega)]
    by_cases hge : r * 2 + (b : Int) ≥ c
    · rw [if_pos hge, wraps_u64 (r * 2 + b - c) (by omega) (by omega)]
      obtain ⟨q', r', he, a1, a2, a3, a4⟩ := ih (by omega) k (by omega) (q * 2 + 1) (r * 2 + b - c) (by omega) (by omega) (by omega) hq2
      refine ⟨q', r', he, a1, a2, a3, ?_⟩
      rw [a4, hs]
      simp only [Int.natCast_add, Int.natCast_mul, Int.pow_succ, Int.natCast_pow]
      grind
    · rw [if_neg hge]
      obtain ⟨q', r', he, a1, a2, a3, a4⟩ := ih (by omega) k (by omega) (q * 2) (r * 2 + b) (by omega) (by omega) (by omega) (by omega)
      refine ⟨q', r', he, a1, a2, a3, ?_⟩
      rw [a4, hs]
      simp only [Int.natCast_add, Int.natCast_mul, Int.pow_succ, Int.natCast_pow]
      grind
theorem by_f (k : Nat) (hk : 64 < k) (p c : Int) (hc1 : 1 ≤ c) (hc : c ≤ 4611686018427387904) (hp0 : 0 ≤ p) (hp : p / 18446744073709551616 < c) :
    fix_wide_by.f k (p / 18446744073709551616) (p % 18446744073709551616) c = some (p / c, p % c) := by
  obtain ⟨m, hm⟩ : ∃ m : Nat, p % 18446744073709551616 = m := ⟨(p % 18446744073709551616).toNat, by omega⟩
  have hm2 : m < 2 ^ 64 := by omega
  obtain ⟨q, r, he, a1, a2, a3, a4⟩ := by_loop c hc1 hc (p / 18446744073709551616) m hm2 64 (by omega) k hk 0 (p / 18446744073709551616) (by omega) hp (by omega) (by decide)
  unfold fix_wide_by.f
  rw [hm]
  refine he.trans ?_
  rw [Nat.mod_eq_of_lt hm2] at a4
  have e : q * c + r = p := by
    have : (2 : Int) ^ 64 = 18446744073709551616 := by decide
    rw [this] at a4
    omega
  have e2 : p / c = q := by
    rw [← e, Int.add_comm, Int.add_mul_ediv_right _ _ (by omega), Int.ediv_eq_zero_of_lt a1 a2]; omega
  have e3 : p % c = r := by
    rw [← e, Int.add_comm, Int.add_mul_emod_self_right, Int.emod_eq_of_lt a1 a2]
  rw [e2, e3]

/-! ### MulDiv -/
def MD (a b c : Int) : Int × Bool := if InR a ∧ InR b ∧ InR c ∧ 1 ≤ c ∧ InR (a * b / c) then (a * b / c, true) else (0, false)
theorem ediv_neg_floor (p c : Int) (hc : 1 ≤ c) : (-p) / c = if p % c > 0 then -(p / c + 1) else -(p / c) := by
  have h1 := Int.emod_add_mul_ediv p c
  have h2 := Int.emod_nonneg p (show c ≠ 0 by omega)
  have h3 := Int.emod_lt_of_pos p (show 0 < c by omega)
  split
  · rename_i h
    have : -p = (c - p % c) + c * (-(p / c + 1)) := by grind
    rw [this, Int.add_mul_ediv_left _ _ (by omega), Int.ediv_eq_zero_of_lt (by omega) (by omega)]; omega
  · rename_i h
    have : -p = 0 + c * (-(p / c)) := by grind
    rw [this, Int.add_mul_ediv_left _ _ (by omega)]; simp
theorem MulDiv_f (k : Nat) (hk : 100 ≤ k) (a b c : Int) : fix_MulDiv.f k a b c = some (MD a b c) := by
  obtain ⟨k, rfl⟩ : ∃ j, k = j + 4 := ⟨k - 4, by omega⟩
  unfold fix_MulDiv.f MD
  rw [In_f, In_f, In_f]
  simp only [Option.bind_some, decide_eq_true_eq]
  by_cases ha : ¬ InR a
  · rw [if_neg ha, if_neg (fun h => ha h.1)]; simp [fix_MulDiv.j0]
  by_cases hb : ¬ InR b
  · rw [if_pos (Decidable.not_not.mp ha), if_neg hb, if_neg (fun h => hb h.2.1)]; simp [fix_MulDiv.j0]
  by_cases hc : ¬ InR c
  · rw [if_pos (Decidable.not_not.mp ha), if_pos (Decidable.not_not.mp hb), if_neg hc, if_neg (fun h => hc h.2.2.1)]; simp [fix_MulDiv.j0]
  replace ha := Decidable.not_not.mp ha
  replace hb := Decidable.not_not.mp hb
  replace hc := Decidable.not_not.mp hc
  rw [if_pos ha, if_pos hb, if_pos hc]
  by_cases hc1 : c < 1
  · rw [if_neg (fun h => by omega)]; simp [fix_MulDiv.j0, hc1]
  simp only [fix_MulDiv.j0, hc1, decide_false, Bool.false_eq_true, if_false]
  rw [size_f a ha, size_f b hb]
  simp only [Option.bind_some]
  obtain ⟨x, hx⟩ : ∃ x, (if a < 0 then -a else a) = x := ⟨_, rfl⟩
  obtain ⟨y, hy⟩ : ∃ y, (if b < 0 then -b else b) = y := ⟨_, rfl⟩
  rw [hx, hy]
  unfold InR at ha hb hc
  have hx0 : 0 ≤ x ∧ x ≤ 4611686018427387904 := by split at hx <;> omega
  have hy0 : 0 ≤ y ∧ y ≤ 4611686018427387904 := by split at hy <;> omega
  rw [product_f x y hx0.1 hx0.2 hy0.1 hy0.2]
  simp only [Option.bind_some]
  rw [wraps_u64 c (by omega) (by omega)]
  have hp0 : 0 ≤ x * y := Int.mul_nonneg hx0.1 hy0.1
  -- the signed product
  have hs : a * b = if (decide (a < 0) != decide (b < 0)) = true then -(x * y) else x * y := by
    by_cases h1 : a < 0 <;> by_cases h2 : b < 0 <;> simp [h1, h2] at hx hy ⊢ <;> subst hx <;> subst hy <;> grind
  have hce : c * (x * y / c) ≤ x * y := by
    have := Int.emod_add_mul_ediv (x * y) c
    have := Int.emod_nonneg (x * y) (show c ≠ 0 by omega)
    omega
  have hq0 : 0 ≤ x * y / c := Int.ediv_nonneg hp0 (by omega)
  by_cases hbig : x * y / 18446744073709551616 ≥ c
  · rw [if_pos hbig]
    -- the quotient has more than 64 bits
    have hq : 18446744073709551616 ≤ x * y / c := by
      rw [Int.le_ediv_iff_mul_le (by omega)]
      omega
    rw [if_neg]
    rintro ⟨_, _, _, _, h⟩
    unfold InR at h
    rw [hs] at h
    split at h
    · rw [ediv_neg_floor _ _ (by omega)] at h
      split at h <;> omega
    · omega
  · rw [if_neg hbig, by_f _ (by omega) (x * y) c (by omega) (by omega) hp0 (by omega)]
    simp only [Option.bind_some]
    have hq1 : x * y / c < 18446744073709551616 := by
      rw [Int.ediv_lt_iff_lt_mul (by omega)]
      omega
    have hInR : ∀ z : Int, InR z ↔ (-4611686018427387904 ≤ z ∧ z ≤ 4611686018427387904) := fun _ => Iff.rfl
    by_cases hd : (decide (a < 0) != decide (b < 0)) = true
    · rw [if_pos hd] at hs ⊢
      rw [hs, ediv_neg_floor _ _ (by omega)]
      by_cases hr : x * y % c > 0
      · rw [if_pos hr, if_pos hr]
        simp only [fix_MulDiv.j1, fix_MulDiv.j2, hd, if_true]
        by_cases hle : x * y / c ≤ 4611686018427387904
        · rw [if_pos (by simpa using hle), wraps_u64 _ (by omega) (by omega)]
          by_cases hgt : x * y / c + 1 > 4611686018427387904
          · rw [if_pos hgt, if_neg (by simp only [hInR]; omega)]
          · rw [if_neg hgt, if_pos (by simp only [hInR]; omega), wrap64_id (x * y / c + 1) (by omega) (by omega), wrap64_id _ (by omega) (by omega)]
        · rw [if_neg (by simpa using hle), if_pos (by omega), if_neg (by simp only [hInR]; omega)]
      · rw [if_neg hr, if_neg hr]
        simp only [fix_MulDiv.j1, fix_MulDiv.j2, hd, if_true, Bool.false_eq_true, if_false]
        by_cases hgt : x * y / c > 4611686018427387904
        · rw [if_pos hgt, if_neg (by simp only [hInR]; omega)]
        · rw [if_neg hgt, if_pos (by simp only [hInR]; omega), wrap64_id (x * y / c) (by omega) (by omega), wrap64_id _ (by omega) (by omega)]
    · rw [if_neg hd] at hs ⊢
      rw [hs]
      simp only [fix_MulDiv.j1, fix_MulDiv.j2, hd, Bool.false_eq_true, if_false]
      by_cases hgt : x * y / c > 4611686018427387904
      · rw [if_pos hgt, if_neg (by simp only [hInR]; omega)]
      · rw [if_neg hgt, if_pos (by simp only [hInR]; omega), wrap64_id (x * y / c) (by omega) (by omega)]

/-! ### what MulDiv tells -/
theorem MD_yes {a b c : Int} (h : InR a ∧ InR b ∧ InR c ∧ 1 ≤ c ∧ InR (a * b / c)) : MD a b c = (a * b / c, true) := if_pos h
theorem MD_no {a b c : Int} (h : ¬ (InR a ∧ InR b ∧ InR c ∧ 1 ≤ c ∧ InR (a * b / c))) : MD a b c = (0, false) := if_neg h
theorem InR_one : InR 1 := by decide
theorem div_between (p c : Int) (hc : 1 ≤ c) : (0 ≤ p → 0 ≤ p / c ∧ p / c ≤ p) ∧ (p ≤ 0 → p ≤ p / c ∧ p / c ≤ 0) := by
  refine ⟨fun h => ⟨Int.ediv_nonneg h (by omega), Int.ediv_le_self _ h⟩, fun h => ⟨?_, ?_⟩⟩
  · rw [Int.le_ediv_iff_mul_le (by omega)]
    have := Int.mul_le_mul_of_nonpos_left h hc
    rw [Int.mul_one] at this
    exact this
  · have := Int.ediv_le_ediv (c := c) (by omega) h
    rwa [Int.zero_ediv] at this
theorem InR_div {p c : Int} (hp : InR p) (hc : 1 ≤ c) : InR (p / c) := by
  have := div_between p c hc
  unfold InR at *
  rcases Int.le_total 0 p with h | h
  · have := this.1 h; omega
  · have := this.2 h; omega
theorem div_left (p c : Int) (hc : 1 ≤ c) : p / c * c ≤ p ∧ p < p / c * c + c := by
  have h1 := Int.emod_add_mul_ediv p c
  have h2 := Int.emod_nonneg p (show c ≠ 0 by omega)
  have h3 := Int.emod_lt_of_pos p (show 0 < c by omega)
  rw [Int.mul_comm] at h1
  omega

/-! ### ways' weights, and shares -/
def wt (c s : Int) : Int := if (1 ≤ c ∧ c ≤ 1073741824) ∧ (1 ≤ s ∧ s ≤ 1099511627776) then c * 1048576 / s else 0
theorem wt_in (c s : Int) : 0 ≤ wt c s ∧ wt c s ≤ 1125899906842624 := by
  unfold wt
  split
  · rename_i h
    have := (div_between (c * 1048576) s (by omega)).1 (by omega)
    omega
  · omega
theorem MD_wt {c s : Int} (h : (1 ≤ c ∧ c ≤ 1073741824) ∧ (1 ≤ s ∧ s ≤ 1099511627776)) : MD c 1048576 s = (wt c s, true) := by
  have e : wt c s = c * 1048576 / s := if_pos h
  have hb := wt_in c s
  rw [e] at hb ⊢
  exact MD_yes ⟨⟨by omega, by omega⟩, by decide, ⟨by omega, by omega⟩, by omega, ⟨by omega, by omega⟩⟩
def wsum : List S26 → Int
  | [] => 0
  | x :: l => wt x.f0 x.f1 + wsum l
theorem wsum_in : ∀ l : List S26, 0 ≤ wsum l ∧ wsum l ≤ 1125899906842624 * l.length
  | [] => by simp [wsum]
  | x :: l => by
    have h1 := wsum_in l
    have h2 := wt_in x.f0 x.f1
    simp only [wsum, List.length_cons]
    omega
theorem wsum_append : ∀ l m : List S26, wsum (l ++ m) = wsum l + wsum m
  | [], m => by simp [wsum]
  | x :: l, m => by simp only [List.cons_append, wsum, wsum_append l m]; omega
theorem rd_drop (l : List S26) (i : Nat) (h : i < l.length) : l.drop i = rd_T26 l i :: l.drop (i + 1) := by
  unfold rd_T26
  rw [List.drop_eq_getElem_cons h]
  simp [List.getD, List.getElem?_eq_getElem h]
theorem wsum_drop (l : List S26) (i : Nat) (h : i < l.length) : wsum (l.drop i) = wt (rd_T26 l i).f0 (rd_T26 l i).f1 + wsum (l.drop (i + 1)) := by
  rw [rd_drop l i h]; rfl
theorem wt_le_wsum (l : List S26) (i : Nat) (h : i < l.length) : wt (rd_T26 l i).f0 (rd_T26 l i).f1 ≤ wsum l := by
  have h1 := wsum_append (l.take i) (l.drop i)
  rw [List.take_append_drop] at h1
  have h2 := (wsum_in (l.take i)).1
  have h3 := (wsum_in (l.drop (i + 1))).1
  have h4 := wsum_drop l i h
  omega
/-- The part of t that a weight has of all weights. -/
def share (t w s : Int) : Int := if 1 ≤ s then t * w / s else 0
theorem share_in {t w s : Int} (h0 : 0 ≤ t) (h2 : 0 ≤ w) (h3 : w ≤ s) : 0 ≤ share t w s ∧ share t w s ≤ t := by
  unfold share
  split
  · rename_i h
    have hp : 0 ≤ t * w := Int.mul_nonneg h0 h2
    refine ⟨Int.ediv_nonneg hp (by omega), ?_⟩
    have : t * w ≤ t * s := Int.mul_le_mul_of_nonneg_left h3 h0
    have h4 := Int.ediv_le_ediv (c := s) (by omega) this
    rwa [Int.mul_ediv_cancel _ (by omega)] at h4
  · omega
theorem MD_share {t w s : Int} (h0 : 0 ≤ t) (h1 : t ≤ 4611686018427387904) (h2 : 0 ≤ w) (h3 : w ≤ s) (h4 : s ≤ 4611686018427387904) : (MD t w s).1 = share t w s := by
  have hb := share_in h0 h2 h3
  by_cases h : 1 ≤ s
  · have e : share t w s = t * w / s := if_pos h
    rw [e] at hb ⊢
    rw [MD_yes ⟨⟨by omega, h1⟩, ⟨by omega, by omega⟩, ⟨by omega, h4⟩, h, ⟨by omega, by omega⟩⟩]
  · have e : share t w s = 0 := if_neg h
    rw [e, MD_no (fun h' => h h'.2.2.2.1)]
theorem share_mono_w {t w w' s : Int} (h0 : 0 ≤ t) (h : w ≤ w') : share t w s ≤ share t w' s := by
  unfold share
  split
  · exact Int.ediv_le_ediv (by omega) (Int.mul_le_mul_of_nonneg_left h h0)
  · omega
theorem share_mono_t {t t' w s : Int} (h0 : 0 ≤ w) (h : t ≤ t') : share t w s ≤ share t' w s := by
  unfold share
  split
  · exact Int.ediv_le_ediv (by omega) (Int.mul_le_mul_of_nonneg_right h h0)
  · omega
theorem share_mul (t w s : Int) : share t w s * s ≤ t * w ∨ s < 1 := by
  unfold share
  split
  · rename_i h; exact .inl (div_left (t * w) s h).1
  · right; omega
def wAt (l : List S26) (i : Int) : Int := wt (rd_T26 l i).f0 (rd_T26 l i).f1

/-! ### xmp: shares, windows -/
theorem xin_f (a b c : Int) : xmp_in.f a b c = some (decide (b ≤ a ∧ a ≤ c)) := by
  unfold xmp_in.f
  by_cases h : a ≥ b
  · rw [if_pos h]; exact congrArg some (decide_eq_decide.mpr ⟨fun h' => ⟨h, h'⟩, fun h' => h'.2⟩)
  · rw [if_neg h]; exact congrArg some (decide_eq_false (fun h' => h h'.1)).symm
theorem weight_f (k : Nat) (hk : 100 ≤ k) (c s : Int) : xmp_weight.f k c s = some (wt c s) := by
  unfold xmp_weight.f
  rw [xin_f, xin_f]
  simp only [Option.bind_some, decide_eq_true_eq]
  by_cases h1 : 1 ≤ c ∧ c ≤ 1073741824
  · rw [if_pos h1]
    by_cases h2 : 1 ≤ s ∧ s ≤ 1099511627776
    · rw [if_pos h2, MulDiv_f k hk, MD_wt ⟨h1, h2⟩]; rfl
    · rw [if_neg h2]; unfold wt; rw [if_neg (fun h => h2 h.2)]
  · rw [if_neg h1]; unfold wt; rw [if_neg (fun h => h1 h.1)]
def shareOf (l : List S26) (i m : Int) : Int := share m (wAt l i) (wsum l)
theorem wAt_le (l : List S26) (i : Int) (h0 : 0 ≤ i) (h : i < (l.length : Int)) : 0 ≤ wAt l i ∧ wAt l i ≤ wsum l := by
  have hw := wt_le_wsum l i.toNat (by omega)
  have e : ((i.toNat : Nat) : Int) = i := by omega
  rw [e] at hw
  exact ⟨(wt_in _ _).1, hw⟩
theorem share_loop (l : List S26) (hl : l.length ≤ 4) (i m : Int) (hi0 : 0 ≤ i) (hi : i < (l.length : Int)) (hm0 : 0 ≤ m) (hm : m ≤ 1460) : ∀ (j k n : Nat) (acc : Int), n + j = l.length → 110 + j < k → 0 ≤ acc → acc + wsum (l.drop n) = wsum l →
    xmp_Share.l0 k l i m acc l (l.length : Int) (n : Int) = some (shareOf l i m) := by
  intro j
  induction j with
  | zero =>
    intro k n acc hn hk h0 hs
    obtain ⟨k, rfl⟩ : ∃ m, k = m + 1 := ⟨k - 1, by omega⟩
    have e : l.drop n = [] := List.drop_eq_nil_of_le (by omega)
    rw [e] at hs
    simp only [wsum, Int.add_zero] at hs
    have hw := wAt_le l i hi0 hi
    have hb := wsum_in l
    rw [xmp_Share.l0, if_neg (by omega), if_pos hi0, if_pos hi, weight_f k (by omega)]
    simp only [Option.bind_some]
    rw [MulDiv_f k (by omega), hs]
    simp only [Option.bind_some]
    unfold wAt at hw
    rw [MD_share hm0 (by omega) hw.1 hw.2 (by omega)]
    rfl
  | succ j ih =>
    intro k n acc hn hk h0 hs
    obtain ⟨k, rfl⟩ : ∃ m, k = m + 1 := ⟨k - 1, by omega⟩
    have hd := wsum_drop l n (by omega)
    have hb := wsum_in l
    have hb2 := wsum_in (l.drop (n + 1))
    have hw0 := wt_in (rd_T26 l n).f0 (rd_T26 l n).f1
    rw [xmp_Share.l0, if_pos (by omega), if_pos (by omega), if_pos (by omega), weight_f k (by omega)]
    simp only [Option.bind_some]
    rw [wrap64_id (acc + _) (by omega) (by omega), wrap64_id ((n : Int) + 1) (by omega) (by omega)]
    have e : (n : Int) + 1 = ((n + 1 : Nat) : Int) := by omega
    rw [e]
    exact ih k (n + 1) _ (by omega) (by omega) (by omega) (by omega)
theorem Share_yes (k : Nat) (hk : 200 ≤ k) {l : List S26} {i m : Int} (hl : l.length ≤ 4) (hi0 : 0 ≤ i) (hi : i < (l.length : Int)) (hm0 : 1 ≤ m) (hm : m ≤ 1460) : xmp_Share.f k l i m = some (shareOf l i m) := by
  obtain ⟨k, rfl⟩ : ∃ m, k = m + 1 := ⟨k - 1, by omega⟩
  unfold xmp_Share.f
  rw [wrap64_id ((l.length : Int) - 1) (by omega) (by omega), xin_f, xin_f]
  have h1 : 0 ≤ i ∧ i ≤ (l.length : Int) - 1 := ⟨hi0, by omega⟩
  have h2 : 1 ≤ m ∧ m ≤ 1460 := ⟨hm0, hm⟩
  have h3 : ¬ (l.length : Int) > 4 := by omega
  simp only [Option.bind_some, h1, h2, h3, decide_true, decide_false, and_self, if_true, xmp_Share.j0, Bool.false_eq_true, if_false]
  exact share_loop l hl i m hi0 hi (by omega) hm l.length k 0 0 (by omega) (by omega) (by omega) (by simp)
theorem Share_no (k : Nat) (hk : 200 ≤ k) {l : List S26} {i m : Int} (hlen : l.length ≤ 20) (h : ¬ ((0 ≤ i ∧ i < (l.length : Int)) ∧ l.length ≤ 4 ∧ (1 ≤ m ∧ m ≤ 1460))) : xmp_Share.f k l i m = some 0 := by
  obtain ⟨k, rfl⟩ : ∃ m, k = m + 1 := ⟨k - 1, by omega⟩
  unfold xmp_Share.f
  rw [wrap64_id ((l.length : Int) - 1) (by omega) (by omega), xin_f, xin_f]
  simp only [Option.bind_some, decide_eq_true_eq]
  by_cases h1 : 1 ≤ m ∧ m ≤ 1460
  · rw [if_pos h1]
    by_cases h2 : 0 ≤ i ∧ i ≤ (l.length : Int) - 1
    · rw [if_pos h2]
      have h3 : (l.length : Int) > 4 := by
        by_cases h3 : (l.length : Int) > 4
        · exact h3
        · exact absurd ⟨⟨h2.1, by omega⟩, by omega, h1⟩ h
      simp only [h3, decide_true, xmp_Share.j0, if_true]
    · rw [if_neg h2]; simp only [xmp_Share.j0, if_true]
  · rw [if_neg h1]; simp only [xmp_Share.j0, if_true]
theorem xMay_f (c t s g : Int) : xmp_May.f c t s g = some (decide (Hand.WFine c t s g)) := by
  unfold xmp_May.f xmp_limits.f
  rw [xin_f, xin_f, xin_f, xin_f]
  simp only [Option.bind_some, decide_eq_true_eq]
  unfold Hand.WFine
  by_cases h1 : 1 ≤ s ∧ s ≤ 1460
  · by_cases h2 : s ≤ g ∧ g ≤ 1073741824
    · by_cases h3 : s ≤ c ∧ c ≤ g
      · by_cases h4 : s ≤ t ∧ t ≤ g
        · simp [h1, h2, h3, h4]
        · simp [h1, h2, h3, h4]
      · simp [h1, h2, h3]
    · simp [h1, h2]
  · simp [h1]

/-! ### the document's product by a number -/
theorem rIn_f (a : Int) : fourinhandref01_In.f a = some (decide (InR a)) := by
  unfold fourinhandref01_In.f
  by_cases h : a ≥ (-4611686018427387904)
  · rw [if_pos h]; exact congrArg some (decide_eq_decide.mpr ⟨fun h' => ⟨h, h'⟩, fun h' => h'.2⟩)
  · rw [if_neg h]; exact congrArg some (decide_eq_false (fun h' => h h'.1)).symm
theorem rsize_f (a : Int) (h : InR a) : fourinhandref01_size.f a = some (if a < 0 then -a else a) := by
  unfold fourinhandref01_size.f
  unfold InR at h
  by_cases h0 : a < 0
  · rw [if_pos h0, if_pos h0, wrap64_id _ (by omega) (by omega)]
  · rw [if_neg h0, if_neg h0]
/-- The bit in hand, of n bits that are left. -/
def bitAt (n : Nat) : Int := if n = 0 then 0 else 2 ^ (n - 1)
theorem bitAt_half (n : Nat) : bitAt (n + 1) / 2 = bitAt n := by
  unfold bitAt
  cases n with
  | zero => simp
  | succ n => simp [Int.pow_succ]
theorem two_pow_le (n m : Nat) (h : n ≤ m) : (2 : Int) ^ n ≤ 2 ^ m := by
  have h1 : (2 : Nat) ^ n ≤ 2 ^ m := Nat.pow_le_pow_right (by decide) h
  have h2 : (2 : Int) ^ n = ((2 ^ n : Nat) : Int) := by simp
  have h3 : (2 : Int) ^ m = ((2 ^ m : Nat) : Int) := by simp
  rw [h2, h3]; omega
theorem two_pow_pos (n : Nat) : (1 : Int) ≤ 2 ^ n := by have h2 : (0 : Int) < 2 ^ n := Int.pow_pos (by omega); omega
theorem long_loop (b c : Int) (hc1 : 1 ≤ c) (hc : c ≤ 4611686018427387904) (hb0 : 0 ≤ b) (hb : b ≤ 4611686018427387904) : ∀ (n : Nat), n ≤ 63 → ∀ (k : Nat), 2 * n < k → ∀ (a q r : Int), 0 ≤ a → a < 2 ^ n → 0 ≤ r → r < c → 0 ≤ q → q ≤ 4611686018427387905 →
    ∃ q' r', fourinhandref01_long.l0 k a b c q r (bitAt n) = some (q', r') ∧ ((q' * c + r' = (q * c + r) * 2 ^ n + a * b ∧ 0 ≤ r' ∧ r' < c ∧ 0 ≤ q' ∧ q' ≤ 4611686018427387905) ∨ (q' = 4611686018427387905 ∧ r' = 0 ∧ 4611686018427387905 * c ≤ (q * c + r) * 2 ^ n + a * b)) := by
  intro n
  induction n with
  | zero =>
    intro _ k hk a q r ha0 ha hr0 hr hq0 hq
    obtain ⟨k, rfl⟩ : ∃ i, k = i + 1 := ⟨k - 1, by omega⟩
    have e : a = 0 := by simp at ha; omega
    refine ⟨q, r, ?_, .inl ⟨by rw [e]; simp, hr0, hr, hq0, hq⟩⟩
    rw [fourinhandref01_long.l0, if_neg (by unfold bitAt; simp)]
  | succ n ih =>
    intro hn k hk a q r ha0 ha hr0 hr hq0 hq
    obtain ⟨k, rfl⟩ : ∃ i, k = i + 2 := ⟨k - 2, by omega⟩
    have hv1 : bitAt (n + 1) = 2 ^ n := by unfold bitAt; simp
    have hhalf := bitAt_half n
    have hp1 := two_pow_pos n
    have hp2 := two_pow_le n 62 (by omega)
    have hp3 : (2 : Int) ^ 62 = 4611686018427387904 := by decide
    rw [Int.pow_succ] at ha
    rw [fourinhandref01_long.l0, if_pos (by omega)]
    have hqc : 0 ≤ q * c := Int.mul_nonneg hq0 (by omega)
    have hab : 0 ≤ a * b := Int.mul_nonneg ha0 hb0
    rw [Int.pow_succ]
    by_cases hbig : q > 2305843009213693952
    · rw [if_pos hbig]
      refine ⟨_, _, rfl, .inr ⟨rfl, rfl, ?_⟩⟩
      have h1 : 2305843009213693953 * c ≤ q * c := Int.mul_le_mul_of_nonneg_right (by omega) (by omega)
      have h2 : (q * c + r) * 1 ≤ (q * c + r) * 2 ^ n := Int.mul_le_mul_of_nonneg_left hp1 (by omega)
      generalize q * c = Q at *
      have e : (Q + r) * (2 ^ n * 2) = (Q + r) * 2 ^ n * 2 := by grind
      rw [e]
      omega
    · rw [if_neg hbig, wrap64_id (2 * q) (by omega) (by omega), wrap64_id (2 * r) (by omega) (by omega)]
      -- behind the doubling
      have key : ∀ (q2 r2 : Int), 0 ≤ r2 → r2 < c → 0 ≤ q2 → q2 ≤ 4611686018427387905 → q2 * c + r2 = 2 * (q * c + r) →
          ∃ q' r', fourinhandref01_long.j1 (k + 1) a b c q2 r2 (bitAt (n + 1)) = some (q', r') ∧ ((q' * c + r' = (q * c + r) * (2 ^ n * 2) + a * b ∧ 0 ≤ r' ∧ r' < c ∧ 0 ≤ q' ∧ q' ≤ 4611686018427387905) ∨ (q' = 4611686018427387905 ∧ r' = 0 ∧ 4611686018427387905 * c ≤ (q * c + r) * (2 ^ n * 2) + a * b)) := by
        intro q2 r2 hr20 hr2 hq20 hq2 he
        have etot : (q * c + r) * (2 ^ n * 2) = (q2 * c + r2) * 2 ^ n := by rw [he]; grind
        rw [etot, fourinhandref01_long.j1, Int.tdiv_eq_ediv_of_nonneg (by omega), wrap64_id (bitAt (n + 1) / 2) (by omega) (by omega), hhalf]
        by_cases hlt : a < bitAt (n + 1)
        · rw [if_pos hlt]
          exact ih (by omega) k (by omega) a q2 r2 ha0 (by omega) hr20 hr2 hq20 hq2
        · rw [if_neg hlt, if_neg (by omega), Int.tdiv_eq_ediv_of_nonneg hb0, Int.tmod_eq_emod_of_nonneg hb0]
          have hbc := div_between b c hc1
          have hbq := hbc.1 hb0
          have hbr := Int.emod_nonneg b (show c ≠ 0 by omega)
          have hbr2 := Int.emod_lt_of_pos b (show 0 < c by omega)
          have hbe := Int.emod_add_mul_ediv b c
          rw [wrap64_id (b / c) (by omega) (by omega), wrap64_id (4611686018427387904 - q2) (by omega) (by omega), wrap64_id (r2 + b % c) (by omega) (by omega), wrap64_id (a - bitAt (n + 1)) (by omega) (by omega)]
          have hsub : (a - bitAt (n + 1)) * b = a * b - 2 ^ n * b := by rw [hv1]; grind
          have hq2c : 0 ≤ q2 * c := Int.mul_nonneg hq20 (by omega)
          by_cases hover : b / c > 4611686018427387904 - q2
          · rw [if_pos hover]
            refine ⟨_, _, rfl, .inr ⟨rfl, rfl, ?_⟩⟩
            have h1 : (4611686018427387905 - q2) * c ≤ b / c * c := Int.mul_le_mul_of_nonneg_right (by omega) (by omega)
            have h2 : (q2 * c + r2) * 1 ≤ (q2 * c + r2) * 2 ^ n := Int.mul_le_mul_of_nonneg_left hp1 (by omega)
            have h3 : 1 * b ≤ a * b := Int.mul_le_mul_of_nonneg_right (by omega) hb0
            have h4 : (4611686018427387905 - q2) * c = 4611686018427387905 * c - q2 * c := by grind
            have h5 : c * (b / c) = b / c * c := Int.mul_comm _ _
            omega
          · rw [if_neg hover]
            have hge0 : 0 ≤ a - bitAt (n + 1) := by omega
            have hlt2 : a - bitAt (n + 1) < 2 ^ n := by omega
            by_cases hadj : r2 + b % c ≥ c
            · rw [if_pos hadj, wrap64_id (q2 + b / c) (by omega) (by omega), wrap64_id (q2 + b / c + 1) (by omega) (by omega), wrap64_id (r2 + b % c - c) (by omega) (by omega)]
              obtain ⟨q', r', h1, h2⟩ := ih (by omega) k (by omega) (a - bitAt (n + 1)) (q2 + b / c + 1) (r2 + b % c - c) hge0 hlt2 (by omega) (by omega) (by omega) (by omega)
              have e2 : ((q2 + b / c + 1) * c + (r2 + b % c - c)) * 2 ^ n + (a - bitAt (n + 1)) * b = (q2 * c + r2) * 2 ^ n + a * b := by
                have : (q2 + b / c + 1) * c + (r2 + b % c - c) = q2 * c + r2 + b := by grind
                rw [this, hsub]; grind
              rw [e2] at h2
              exact ⟨q', r', h1, h2⟩
            · rw [if_neg hadj, wrap64_id (q2 + b / c) (by omega) (by omega)]
              obtain ⟨q', r', h1, h2⟩ := ih (by omega) k (by omega) (a - bitAt (n + 1)) (q2 + b / c) (r2 + b % c) hge0 hlt2 (by omega) (by omega) (by omega) (by omega)
              have e2 : ((q2 + b / c) * c + (r2 + b % c)) * 2 ^ n + (a - bitAt (n + 1)) * b = (q2 * c + r2) * 2 ^ n + a * b := by
                have : (q2 + b / c) * c + (r2 + b % c) = q2 * c + r2 + b := by grind
                rw [this, hsub]; grind
              rw [e2] at h2
              exact ⟨q', r', h1, h2⟩
      by_cases hge : 2 * r ≥ c
      · rw [if_pos hge, wrap64_id (2 * q + 1) (by omega) (by omega), wrap64_id (2 * r - c) (by omega) (by omega)]
        exact key (2 * q + 1) (2 * r - c) (by omega) (by omega) (by omega) (by omega) (by grind)
      · rw [if_neg hge]
        exact key (2 * q) (2 * r) (by omega) (by omega) (by omega) (by omega) (by grind)
theorem long_f (k : Nat) (hk : 126 < k) (a b c : Int) (ha0 : 0 ≤ a) (ha : a ≤ 4611686018427387904) (hb0 : 0 ≤ b) (hb : b ≤ 4611686018427387904) (hc1 : 1 ≤ c) (hc : c ≤ 4611686018427387904) :
    ∃ q r, fourinhandref01_long.f k a b c = some (q, r) ∧ ((q = a * b / c ∧ r = a * b % c ∧ q ≤ 4611686018427387905) ∨ (q = 4611686018427387905 ∧ r = 0 ∧ 4611686018427387905 ≤ a * b / c)) := by
  have hv : bitAt 63 = 4611686018427387904 := by decide
  have h63 : a < 2 ^ 63 := by
    have h1 : (2 : Int) ^ 63 = 9223372036854775808 := by decide
    rw [h1]; omega
  obtain ⟨q, r, h1, h2⟩ := long_loop b c hc1 hc hb0 hb 63 (by omega) k (by omega) a 0 0 ha0 h63 (by omega) (by omega) (by omega) (by omega)
  rw [hv] at h1
  refine ⟨q, r, h1, ?_⟩
  rcases h2 with ⟨h2, h3, h4, h5, h6⟩ | ⟨h2, h3, h4⟩
  · left
    have e : a * b = r + q * c := by simp at h2; omega
    rw [e]
    refine ⟨?_, ?_, h6⟩
    · rw [Int.add_mul_ediv_right _ _ (by omega), Int.ediv_eq_zero_of_lt h3 h4]; omega
    · rw [Int.add_mul_emod_self_right, Int.emod_eq_of_lt h3 h4]
  · right
    refine ⟨h2, h3, ?_⟩
    rw [Int.le_ediv_iff_mul_le (by omega)]
    simpa using h4
theorem rMulDiv_f (k : Nat) (hk : 200 ≤ k) (a b c : Int) : fourinhandref01_MulDiv.f k a b c = some (MD a b c) := by
  obtain ⟨k, rfl⟩ : ∃ j, k = j + 1 := ⟨k - 1, by omega⟩
  unfold fourinhandref01_MulDiv.f MD
  rw [rIn_f, rIn_f, rIn_f]
  simp only [Option.bind_some, decide_eq_true_eq]
  by_cases ha : ¬ InR a
  · rw [if_neg ha, if_neg (fun h => ha h.1)]; simp [fourinhandref01_MulDiv.j0]
  by_cases hb : ¬ InR b
  · rw [if_pos (Decidable.not_not.mp ha), if_neg hb, if_neg (fun h => hb h.2.1)]; simp [fourinhandref01_MulDiv.j0]
  by_cases hc : ¬ InR c
  · rw [if_pos (Decidable.not_not.mp ha), if_pos (Decidable.not_not.mp hb), if_neg hc, if_neg (fun h => hc h.2.2.1)]; simp [fourinhandref01_MulDiv.j0]
  replace ha := Decidable.not_not.mp ha
  replace hb := Decidable.not_not.mp hb
  replace hc := Decidable.not_not.mp hc
  rw [if_pos ha, if_pos hb, if_pos hc]
  by_cases hc1 : c < 1
  · rw [if_neg (fun h => by omega)]; simp [fourinhandref01_MulDiv.j0, hc1]
  simp only [fourinhandref01_MulDiv.j0, hc1, decide_false, Bool.false_eq_true, if_false]
  rw [rsize_f a ha, rsize_f b hb]
  simp only [Option.bind_some]
  obtain ⟨x, hx⟩ : ∃ x, (if a < 0 then -a else a) = x := ⟨_, rfl⟩
  obtain ⟨y, hy⟩ : ∃ y, (if b < 0 then -b else b) = y := ⟨_, rfl⟩
  rw [hx, hy]
  have ha' := ha
  have hb' := hb
  have hc' := hc
  unfold InR at ha hb hc
  have hx0 : 0 ≤ x ∧ x ≤ 4611686018427387904 := by split at hx <;> omega
  have hy0 : 0 ≤ y ∧ y ≤ 4611686018427387904 := by split at hy <;> omega
  obtain ⟨q, r, hl, hqr⟩ := long_f k (by omega) x y c hx0.1 hx0.2 hy0.1 hy0.2 (by omega) (by omega)
  rw [hl]
  simp only [Option.bind_some]
  have hp0 : 0 ≤ x * y := Int.mul_nonneg hx0.1 hy0.1
  have hs : a * b = if (decide (a < 0) != decide (b < 0)) = true then -(x * y) else x * y := by
    by_cases h1 : a < 0 <;> by_cases h2 : b < 0 <;> simp [h1, h2] at hx hy ⊢ <;> subst hx <;> subst hy <;> grind
  have hq0 : 0 ≤ x * y / c := Int.ediv_nonneg hp0 (by omega)
  have hInR : ∀ z : Int, InR z ↔ (-4611686018427387904 ≤ z ∧ z ≤ 4611686018427387904) := fun _ => Iff.rfl
  have hr0 := Int.emod_nonneg (x * y) (show c ≠ 0 by omega)
  have hbound : 0 ≤ q ∧ (4611686018427387904 < x * y / c → 4611686018427387904 < q) := by
    rcases hqr with ⟨h1, h2, h7⟩ | ⟨h1, h2, h3⟩ <;> omega
  by_cases hd : (decide (a < 0) != decide (b < 0)) = true
  · rw [if_pos hd] at hs ⊢
    rw [hs, ediv_neg_floor _ _ (by omega), rIn_f, rIn_f]
    simp only [Option.bind_some, decide_eq_true_eq]
    rcases hqr with ⟨h1, h2, h7⟩ | ⟨h1, h2, h3⟩
    · subst h1 h2
      rw [wrap64_id (x * y / c + 1) (by omega) (by omega), wrap64_id (-(x * y / c + 1)) (by omega) (by omega), wrap64_id (-(x * y / c)) (by omega) (by omega)]
      by_cases hr : x * y % c > 0
      · rw [if_pos hr, if_pos hr]
        by_cases hi : InR (-(x * y / c + 1))
        · rw [if_pos hi, if_pos ⟨ha', hb', hc', by omega, hi⟩]
        · rw [if_neg hi, if_neg (fun h => hi h.2.2.2.2)]
      · rw [if_neg hr, if_neg hr]
        by_cases hi : InR (-(x * y / c))
        · rw [if_pos hi, if_pos ⟨ha', hb', hc', by omega, hi⟩]
        · rw [if_neg hi, if_neg (fun h => hi h.2.2.2.2)]
    · subst h1 h2
      rw [if_neg (by omega), wrap64_id (-4611686018427387905) (by omega) (by omega)]
      rw [if_neg (by rw [hInR]; omega), if_neg]
      rintro ⟨_, _, _, _, h⟩
      rw [hInR] at h
      split at h <;> omega
  · rw [if_neg hd] at hs ⊢
    rw [hs, rIn_f]
    simp only [Option.bind_some, decide_eq_true_eq]
    rcases hqr with ⟨h1, h2, h7⟩ | ⟨h1, h2, h3⟩
    · subst h1 h2
      by_cases hi : InR (x * y / c)
      · rw [if_pos hi, if_pos ⟨ha', hb', hc', by omega, hi⟩]
      · rw [if_neg hi, if_neg (fun h => hi h.2.2.2.2)]
    · subst h1 h2
      rw [if_neg (by rw [hInR]; omega), if_neg]
      rintro ⟨_, _, _, _, h⟩
      rw [hInR] at h
      omega

def cutOf (c n s : Int) : Int := mx s (c - c * n / 2048)
theorem Cut_yes {c t n s g : Int} (h : Hand.WFine c t s g) (h0 : 0 ≤ n) (h1 : n ≤ 1024) : xmp_Cut.f c t n s g = some (cutOf c n s, cutOf c n s, 0) := by
  unfold xmp_Cut.f Hand.xmp_Cut.f cutOf mx
  rw [if_pos ⟨h, h0, h1⟩]
  split <;> split <;> first | rfl | omega | (congr 3 <;> omega)
theorem Cut_no {c t n s g : Int} (h : ¬ (Hand.WFine c t s g ∧ 0 ≤ n ∧ n ≤ 1024)) : xmp_Cut.f c t n s g = some (0, 0, 1) := by
  unfold xmp_Cut.f Hand.xmp_Cut.f
  rw [if_neg h]
theorem cut_in {c n s g : Int} (h0 : 0 ≤ n) (h1 : n ≤ 1024) (h2 : 1 ≤ s) (h3 : s ≤ c) (_ : c ≤ g) : s ≤ cutOf c n s ∧ cutOf c n s ≤ c ∧ c ≤ 2 * cutOf c n s := by
  have q0 : 0 ≤ c * n := Int.mul_nonneg (by omega) h0
  have q1 : c * n ≤ c * 1024 := Int.mul_le_mul_of_nonneg_left h1 (by omega)
  unfold cutOf mx
  generalize c * n = z at *
  split <;> omega
theorem cut_mono {c n m s : Int} (hc : 0 ≤ c) (h : n ≤ m) : cutOf c m s ≤ cutOf c n s := by
  have q1 : c * n ≤ c * m := Int.mul_le_mul_of_nonneg_left h hc
  unfold cutOf mx
  generalize c * n = z at *
  generalize c * m = y at *
  (repeat' split) <;> omega

theorem Slow_yes {c t n s g : Int} (h : Hand.WFine c t s g) (h0 : 0 ≤ n) (h1 : n ≤ 1099511627776) : xmp_Slow.f c t n s g = some (if c < t then (if c + n ≤ t then (c + n, t, 0) else (t, t, 0)) else (c, t, 0)) := by
  unfold xmp_Slow.f Hand.xmp_Slow.f
  rw [if_pos ⟨h, h0, h1⟩]
  (repeat' split) <;> rfl
theorem Slow_no {c t n s g : Int} (h : ¬ (Hand.WFine c t s g ∧ 0 ≤ n ∧ n ≤ 1099511627776)) : xmp_Slow.f c t n s g = some (0, 0, 1) := by
  unfold xmp_Slow.f Hand.xmp_Slow.f
  rw [if_neg h]

theorem Round_yes {c t n s g : Int} (h : Hand.WFine c t s g) (h0 : 0 ≤ n) (h1 : n ≤ s) : xmp_Round.f c t n s g = some (if c < t then (c, t, 0) else (mn (c + n) g, t, 0)) := by
  unfold xmp_Round.f Hand.xmp_Round.f mn
  rw [if_pos ⟨h, h0, h1⟩]
  split
  · rfl
  · split <;> split <;> first | rfl | omega | (congr 2; omega)
theorem Round_no {c t n s g : Int} (h : ¬ (Hand.WFine c t s g ∧ 0 ≤ n ∧ n ≤ s)) : xmp_Round.f c t n s g = some (0, 0, 1) := by
  unfold xmp_Round.f Hand.xmp_Round.f
  rw [if_neg h]

theorem Loss_yes {c t s g : Int} {all : Bool} (h : Hand.WFine c t s g) : xmp_Loss.f c t all s g = some (if all = true then s else Hand.lossThresh c s g, Hand.lossThresh c s g, 0) := by
  unfold xmp_Loss.f Hand.xmp_Loss.f
  rw [if_pos h]
theorem Loss_no {c t s g : Int} {all : Bool} (h : ¬ Hand.WFine c t s g) : xmp_Loss.f c t all s g = some (0, 0, 1) := by
  unfold xmp_Loss.f Hand.xmp_Loss.f
  rw [if_neg h]
theorem thresh_in {c t s g : Int} (h : Hand.WFine c t s g) : s ≤ Hand.lossThresh c s g ∧ Hand.lossThresh c s g ≤ g := by
  obtain ⟨h1, h2, h3, _⟩ := h
  unfold Hand.lossThresh
  (repeat' split) <;> omega

theorem awake_f (k : Nat) (hk : 200 ≤ k) : fourinhandlaw15_awake.f k = some true := by
  unfold fourinhandlaw15_awake.f
  have hf : Hand.WFine 10000 10000 100 100000 := by decide
  rw [Cut_yes hf (by omega) (by omega)]
  have e : cutOf 10000 1024 100 = 5000 := by decide
  rw [e]
  simp only [Option.bind_some]
  rw [Share_yes k hk (by simp) (by omega) (by simp) (by omega) (by omega), Share_yes k hk (by simp) (by omega) (by simp) (by omega) (by omega), xMay_f]
  decide

theorem rWeight_f (k : Nat) (hk : 200 ≤ k) (c s : Int) : fourinhandref15_Weight.f k c s = some (wt c s) := by
  unfold fourinhandref15_Weight.f
  by_cases h : (1 ≤ c ∧ c ≤ 1073741824) ∧ (1 ≤ s ∧ s ≤ 1099511627776)
  · rw [if_neg (by omega), if_neg (by omega), if_neg (by omega), if_neg (by omega), rMulDiv_f k hk]
    have e : MD 1048576 c s = MD c 1048576 s := by unfold MD; rw [Int.mul_comm 1048576 c]; congr 1; apply propext; constructor <;> (rintro ⟨h1, h2, h3⟩; exact ⟨h2, h1, h3⟩)
    rw [e, MD_wt h]; rfl
  · have e : wt c s = 0 := if_neg h
    rw [e]
    by_cases h1 : c < 1
    · rw [if_pos h1]
    rw [if_neg h1]
    by_cases h2 : c > 1073741824
    · rw [if_pos h2]
    rw [if_neg h2]
    by_cases h3 : s < 1
    · rw [if_pos h3]
    rw [if_neg h3, if_pos (by omega)]
theorem rshare_loop (l : List S26) (hl : l.length ≤ 4) (i m : Int) (hi0 : 0 ≤ i) (hi : i < (l.length : Int)) (hm0 : 0 ≤ m) (hm : m ≤ 1460) : ∀ (j k n : Nat) (acc : Int), n + j = l.length → 210 + j < k → 0 ≤ acc → acc + wsum (l.drop n) = wsum l →
    fourinhandref15_Share.l0 k l i m acc (n : Int) = some (shareOf l i m) := by
  intro j
  induction j with
  | zero =>
    intro k n acc hn hk h0 hs
    obtain ⟨k, rfl⟩ : ∃ m, k = m + 1 := ⟨k - 1, by omega⟩
    have e : l.drop n = [] := List.drop_eq_nil_of_le (by omega)
    rw [e] at hs
    simp only [wsum, Int.add_zero] at hs
    have hw := wAt_le l i hi0 hi
    have hb := wsum_in l
    rw [fourinhandref15_Share.l0, if_neg (by omega), hs]
    by_cases hp : wsum l = 0
    · rw [if_pos hp]
      have e2 : shareOf l i m = 0 := if_neg (by omega)
      rw [e2]
    · rw [if_neg hp, if_pos hi0, if_pos hi, rWeight_f k (by omega)]
      simp only [Option.bind_some]
      rw [rMulDiv_f k (by omega)]
      simp only [Option.bind_some]
      unfold wAt at hw
      rw [MD_share hm0 (by omega) hw.1 hw.2 (by omega)]
      rfl
  | succ j ih =>
    intro k n acc hn hk h0 hs
    obtain ⟨k, rfl⟩ : ∃ m, k = m + 1 := ⟨k - 1, by omega⟩
    have hd := wsum_drop l n (by omega)
    have hb := wsum_in l
    have hb2 := wsum_in (l.drop (n + 1))
    have hw0 := wt_in (rd_T26 l n).f0 (rd_T26 l n).f1
    rw [fourinhandref15_Share.l0, if_pos (by omega), if_pos (by omega), rWeight_f k (by omega)]
    simp only [Option.bind_some]
    rw [wrap64_id (acc + _) (by omega) (by omega), wrap64_id ((n : Int) + 1) (by omega) (by omega)]
    have e : (n : Int) + 1 = ((n + 1 : Nat) : Int) := by omega
    rw [e]
    exact ih k (n + 1) _ (by omega) (by omega) (by omega) (by omega)
theorem rShare_f (k : Nat) (hk : 220 ≤ k) {l : List S26} {i m : Int} (hlen : l.length ≤ 20) : ∃ x, xmp_Share.f k l i m = some x ∧ fourinhandref15_Share.f k l i m = some x := by
  by_cases h : ((0 ≤ i ∧ i < (l.length : Int)) ∧ l.length ≤ 4 ∧ (1 ≤ m ∧ m ≤ 1460))
  · obtain ⟨⟨h1, h2⟩, h3, h4, h5⟩ := h
    refine ⟨_, Share_yes k (by omega) h3 h1 h2 h4 h5, ?_⟩
    obtain ⟨k, rfl⟩ : ∃ m, k = m + 1 := ⟨k - 1, by omega⟩
    unfold fourinhandref15_Share.f
    have h6 : ¬ (l.length : Int) > 4 := by omega
    rw [if_neg (by omega), if_neg (by omega), if_neg (by omega), if_neg (by omega)]
    simp only [h6, decide_false, fourinhandref15_Share.j0, Bool.false_eq_true, if_false]
    exact rshare_loop l h3 i m h1 h2 (by omega) h5 l.length k 0 0 (by omega) (by omega) (by omega) (by simp)
  · refine ⟨0, Share_no k (by omega) hlen h, ?_⟩
    obtain ⟨k, rfl⟩ : ∃ m, k = m + 1 := ⟨k - 1, by omega⟩
    unfold fourinhandref15_Share.f
    by_cases h1 : m < 1
    · rw [if_pos h1]; simp only [fourinhandref15_Share.j0, if_true]
    rw [if_neg h1]
    by_cases h2 : m > 1460
    · rw [if_pos h2]; simp only [fourinhandref15_Share.j0, if_true]
    rw [if_neg h2]
    by_cases h3 : i < 0
    · rw [if_pos h3]; simp only [fourinhandref15_Share.j0, if_true]
    rw [if_neg h3]
    by_cases h4 : i ≥ (l.length : Int)
    · rw [if_pos h4]; simp only [fourinhandref15_Share.j0, if_true]
    rw [if_neg h4]
    have h6 : (l.length : Int) > 4 := by
      by_cases h6 : (l.length : Int) > 4
      · exact h6
      · exact absurd ⟨⟨by omega, by omega⟩, by omega, by omega, by omega⟩ h
    simp only [h6, decide_true, fourinhandref15_Share.j0, if_true]
theorem rMay_f (c t s g : Int) : fourinhandref15_May.f c t s g = some (decide (Hand.WFine c t s g)) := by
  unfold fourinhandref15_May.f fourinhandref15_Limits.f Hand.WFine
  by_cases h1 : s ≥ 1
  · by_cases h2 : s ≤ 1460
    · by_cases h3 : g ≥ s
      · by_cases h4 : g ≤ 1073741824
        · by_cases h5 : c ≥ s
          · by_cases h6 : c ≤ g
            · by_cases h7 : t ≥ s
              · have h1 : 1 ≤ s := h1
                have h3 : s ≤ g := h3
                have h5 : s ≤ c := h5
                have h7 : s ≤ t := h7
                simp [h1, h2, h3, h4, h5, h6, h7]
              · have h7' : ¬ s ≤ t := by omega
                simp [h1, h2, h3, h4, h5, h6, h7]
            · simp [h1, h2, h3, h4, h5, h6]
          · have h5' : ¬ s ≤ c := by omega
            simp [h1, h2, h3, h4, h5]
        · simp [h1, h2, h3, h4]
      · have h3' : ¬ s ≤ g := by omega
        simp [h1, h2, h3]
    · simp [h1, h2]
  · have h1' : ¬ 1 ≤ s := by omega
    simp [h1]
theorem rClamp_f (k : Nat) (hk : 1 ≤ k) (x s g : Int) (h : s ≤ g) : fourinhandref01_Clamp.f k x s g = some (mx s (mn x g)) := by
  obtain ⟨k, rfl⟩ : ∃ m, k = m + 1 := ⟨k - 1, by omega⟩
  unfold fourinhandref01_Clamp.f mx mn
  have h2 : ¬ g < s := by omega
  by_cases h1 : x < s
  · rw [if_pos h1]
    simp only [fourinhandref01_Clamp.j0, if_true]
    congr 1
    (repeat' split) <;> omega
  · rw [if_neg h1]
    simp only [fourinhandref01_Clamp.j0, h2, decide_false, Bool.false_eq_true, if_false]
    (repeat' split) <;> first | omega | (congr 1 <;> omega)
theorem clamped_f (k : Nat) (hk : 1 ≤ k) (x y s g : Int) (h : s ≤ g) : fourinhandref15_clamped.f k x y s g = some (mx s (mn x g), mx s (mn y g)) := by
  unfold fourinhandref15_clamped.f
  rw [rClamp_f k hk x s g h, rClamp_f k hk y s g h]; rfl
theorem clamp_id {x s g : Int} (h1 : s ≤ x) (h2 : x ≤ g) : mx s (mn x g) = x := by unfold mx mn; (repeat' split) <;> omega
theorem rSlow_f (k : Nat) (hk : 2 ≤ k) (c t n s g : Int) : ∃ x, xmp_Slow.f c t n s g = some x ∧ fourinhandref15_Slow.f k c t n s g = some x := by
  obtain ⟨k, rfl⟩ : ∃ m, k = m + 1 := ⟨k - 1, by omega⟩
  unfold fourinhandref15_Slow.f
  rw [rMay_f, Option.bind_some]
  simp only [decide_eq_true_eq]
  by_cases hf : ¬ Hand.WFine c t s g
  · exact ⟨_, Slow_no (fun h => hf h.1), by rw [if_neg hf]; simp only [fourinhandref15_Slow.j0, if_true]⟩
  have hf := Decidable.of_not_not hf
  rw [if_pos hf]
  obtain ⟨f1, f2, f3, f4⟩ := id hf
  by_cases h1 : n < 0
  · exact ⟨_, Slow_no (fun h => by omega), by rw [if_pos h1]; simp only [fourinhandref15_Slow.j0, if_true]⟩
  rw [if_neg h1]
  by_cases h2 : n > 1099511627776
  · exact ⟨_, Slow_no (fun h => by omega), by simp only [h2, decide_true, fourinhandref15_Slow.j0, if_true]⟩
  refine ⟨_, Slow_yes hf (by omega) (by omega), ?_⟩
  simp only [h2, decide_false, fourinhandref15_Slow.j0, Bool.false_eq_true, if_false]
  rw [wrap64_id (c + n) (by omega) (by omega)]
  by_cases h3 : c < t
  · rw [if_neg (by omega), if_pos h3]
    by_cases h4 : c + n ≤ t
    · rw [if_neg (by omega), if_pos h4, clamped_f k (by omega) _ _ s g f2.1, clamp_id (by omega) (by omega), clamp_id (by omega) (by omega)]; rfl
    · rw [if_pos (by omega), if_neg h4, clamped_f k (by omega) _ _ s g f2.1, clamp_id (by omega) (by omega)]; rfl
  · rw [if_pos (by omega), if_neg h3]
theorem rRound_f (k : Nat) (hk : 2 ≤ k) (c t n s g : Int) : ∃ x, xmp_Round.f c t n s g = some x ∧ fourinhandref15_Round.f k c t n s g = some x := by
  obtain ⟨k, rfl⟩ : ∃ m, k = m + 1 := ⟨k - 1, by omega⟩
  unfold fourinhandref15_Round.f
  rw [rMay_f, Option.bind_some]
  simp only [decide_eq_true_eq]
  by_cases hf : ¬ Hand.WFine c t s g
  · exact ⟨_, Round_no (fun h => hf h.1), by rw [if_neg hf]; simp only [fourinhandref15_Round.j0, if_true]⟩
  have hf := Decidable.of_not_not hf
  rw [if_pos hf]
  obtain ⟨f1, f2, f3, f4⟩ := id hf
  by_cases h1 : n < 0
  · exact ⟨_, Round_no (fun h => by omega), by rw [if_pos h1]; simp only [fourinhandref15_Round.j0, if_true]⟩
  rw [if_neg h1]
  by_cases h2 : n > s
  · exact ⟨_, Round_no (fun h => by omega), by simp only [h2, decide_true, fourinhandref15_Round.j0, if_true]⟩
  refine ⟨_, Round_yes hf (by omega) (by omega), ?_⟩
  simp only [h2, decide_false, fourinhandref15_Round.j0, Bool.false_eq_true, if_false]
  rw [wrap64_id (c + n) (by omega) (by omega)]
  by_cases h3 : c < t
  · rw [if_pos h3, if_pos h3]
  · rw [if_neg h3, if_neg h3, clamped_f k (by omega) _ _ s g f2.1, clamp_id (x := t) (by omega) (by omega)]
    have e : mx s (mn (c + n) g) = mn (c + n) g := by unfold mx mn; (repeat' split) <;> omega
    rw [e]; rfl
theorem rCut_f (k : Nat) (hk : 202 ≤ k) (c t n s g : Int) : ∃ x, xmp_Cut.f c t n s g = some x ∧ fourinhandref15_Cut.f k c t n s g = some x := by
  obtain ⟨k, rfl⟩ : ∃ m, k = m + 1 := ⟨k - 1, by omega⟩
  unfold fourinhandref15_Cut.f
  rw [rMay_f, Option.bind_some]
  simp only [decide_eq_true_eq]
  by_cases hf : ¬ Hand.WFine c t s g
  · exact ⟨_, Cut_no (fun h => hf h.1), by rw [if_neg hf]; simp only [fourinhandref15_Cut.j0, if_true]⟩
  have hf := Decidable.of_not_not hf
  rw [if_pos hf]
  obtain ⟨f1, f2, f3, f4⟩ := id hf
  by_cases h1 : n < 0
  · exact ⟨_, Cut_no (fun h => by omega), by rw [if_pos h1]; simp only [fourinhandref15_Cut.j0, if_true]⟩
  rw [if_neg h1]
  by_cases h2 : n > 1024
  · exact ⟨_, Cut_no (fun h => by omega), by simp only [h2, decide_true, fourinhandref15_Cut.j0, if_true]⟩
  refine ⟨_, Cut_yes hf (by omega) (by omega), ?_⟩
  simp only [h2, decide_false, fourinhandref15_Cut.j0, Bool.false_eq_true, if_false]
  have q0 : 0 ≤ c * n := Int.mul_nonneg (by omega) (by omega)
  have q1 : c * n ≤ c * 1024 := Int.mul_le_mul_of_nonneg_left (by omega) (by omega)
  rw [rMulDiv_f k (by omega), MD_yes ⟨⟨by omega, by omega⟩, ⟨by omega, by omega⟩, by decide, by omega, ⟨by omega, by omega⟩⟩]
  simp only [Option.bind_some]
  rw [wrap64_id (c - c * n / 2048) (by omega) (by omega), clamped_f k (by omega) _ _ s g f2.1]
  have e : mx s (mn (c - c * n / 2048) g) = cutOf c n s := by
    unfold cutOf
    generalize c * n = z at *
    unfold mx mn; (repeat' split) <;> omega
  rw [e]; rfl
theorem rLoss_f (k : Nat) (hk : 2 ≤ k) (c t s g : Int) (all : Bool) : ∃ x, xmp_Loss.f c t all s g = some x ∧ fourinhandref15_Loss.f k c t all s g = some x := by
  obtain ⟨k, rfl⟩ : ∃ m, k = m + 1 := ⟨k - 1, by omega⟩
  unfold fourinhandref15_Loss.f
  rw [rMay_f, Option.bind_some]
  simp only [decide_eq_true_eq]
  by_cases hf : ¬ Hand.WFine c t s g
  · exact ⟨_, Loss_no hf, by rw [if_neg hf]⟩
  have hf := Decidable.of_not_not hf
  rw [if_pos hf]
  refine ⟨_, Loss_yes hf, ?_⟩
  obtain ⟨f1, f2, f3, f4⟩ := id hf
  rw [Int.tdiv_eq_ediv_of_nonneg (by omega), wrap64_id (c / 2) (by omega) (by omega), wrap64_id (2 * s) (by omega) (by omega)]
  have hx : ∀ x, mx s (mn x g) = Hand.lossThresh c s g → fourinhandref15_Loss.j0 (k + 1) all s g x = some (if all = true then s else Hand.lossThresh c s g, Hand.lossThresh c s g, 0) := by
    intro x hx
    rw [fourinhandref15_Loss.j0]
    cases all with
    | true => rw [if_pos rfl, clamped_f k (by omega) _ _ s g f2.1, hx, clamp_id (by omega) f2.1]; rfl
    | false => rw [if_neg (by decide), clamped_f k (by omega) _ _ s g f2.1, hx]; rfl
  by_cases h : c / 2 < 2 * s
  · rw [if_pos h]; exact hx _ (by unfold Hand.lossThresh mx mn; (repeat' split) <;> omega)
  · rw [if_neg h]; exact hx _ (by unfold Hand.lossThresh mx mn; (repeat' split) <;> omega)
theorem XmpTells : fourinhandlaw15_XmpTells.Pure := by
  intro c t l i n all s g _ _ _ _ _ _
  refine ⟨402, ?_⟩
  unfold fourinhandlaw15_XmpTells.f
  rw [awake_f 402 (by omega)]
  simp only [Option.bind_some, if_true]
  by_cases h1 : (l.length : Int) > 20
  · simp only [h1, decide_true, fourinhandlaw15_XmpTells.j0, if_true]
  simp only [h1, decide_false, fourinhandlaw15_XmpTells.j0, Bool.false_eq_true, if_false]
  obtain ⟨x1, a1, b1⟩ := rSlow_f 401 (by omega) c t n s g
  obtain ⟨x2, a2, b2⟩ := rRound_f 401 (by omega) c t n s g
  obtain ⟨x3, a3, b3⟩ := rCut_f 401 (by omega) c t n s g
  obtain ⟨x4, a4, b4⟩ := rLoss_f 401 (by omega) c t s g all
  obtain ⟨x5, a5, b5⟩ := rShare_f 400 (by omega) (l := l) (i := i) (m := s) (by omega)
  rw [a1, b1, a2, b2, a3, b3, a4, b4]
  simp only [Option.bind_some, beq_self_eq_true, Bool.and_self, if_true, fourinhandlaw15_XmpTells.j1]
  rw [a5, b5, xMay_f, rMay_f]
  simp only [Option.bind_some, beq_self_eq_true, if_true]

end Go.Proofs.Ytdbnhmipbbadjaa.Pure
