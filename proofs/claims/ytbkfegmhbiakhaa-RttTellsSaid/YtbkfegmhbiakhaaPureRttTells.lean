/- Any times are told, doubled and waited for as the document says, or it is told why not: for every input, without a condition. -/
import Derived.Test.YtbkfegmhbiakhaaPRttTellsx7
import Derived.Test.YtbkfegmhbiakhaaStmtRttTells
import Derived.Laws.BitsLemmas
import Derived.Laws.Bits64
namespace Go.Proofs.Ytbkfegmhbiakhaa.Pure
open Go.RowKit Go.Proofs.Ytbkfegmhbiakhaa.PRttTells Go.Proofs.YtbkfegmhbiakhaaW.PrintWords Go.Proofs.YtbkfegmhbiakhaaW.PrintLast Go.Proofs.YtbkfegmhbiakhaaW.PrintMore
/-! ### bits and words of 64 bits -/
theorem wraps_u64 (n : Int) (h0 : 0 ≤ n) (h1 : n < 2 ^ 64) : IntKind.u64.wrap n = n := by rw [IntKind.wrap_u64]; omega
theorem and_low32 (x : Int) (h0 : 0 ≤ x) (h1 : x < 18446744073709551616) : Go.bits .and .u64 x 4294967295 = x % 4294967296 :=
  bits_mask .u64 64 (by decide) wraps_u64 32 (by decide) x h0 h1
theorem and_one (x : Int) (h0 : 0 ≤ x) (h1 : x < 18446744073709551616) : Go.bits .and .u64 x 1 = x % 2 :=
  bits_mask .u64 64 (by decide) wraps_u64 1 (by decide) x h0 h1
theorem or_low32 (x y : Int) (h0 : 0 ≤ x) (h1 : x < 18446744073709551616) (h2 : x % 4294967296 = 0) (h3 : 0 ≤ y) (h4 : y < 4294967296) : Go.bits .or .u64 x y = x + y :=
  bits_join .u64 64 (by decide) wraps_u64 32 x y h0 h2 h1 h3 h4 (by omega)
theorem or_one (x y : Int) (h0 : 0 ≤ x) (h1 : x < 18446744073709551616) (h2 : x % 2 = 0) (h3 : 0 ≤ y) (h4 : y < 2) : Go.bits .or .u64 x y = x + y :=
  bits_join .u64 64 (by decide) wraps_u64 1 x y h0 h2 h1 h3 h4 (by omega)
theorem wrap64_id (n : Int) (h0 : -9223372036854775808 ≤ n) (h1 : n < 9223372036854775808) : wrap64 n = n := by unfold wrap64; omega

/-! ### the number's range -/
def InR (a : Int) : Prop := -4611686018427387904 ≤ a ∧ a ≤ 4611686018427387904
instance (a : Int) : Decidable (InR a) := inferInstanceAs (Decidable (_ ∧ _))
theorem In_f (a : Int) : fix_In.f a = some (decide (InR a)) := by
  unfold fix_In.f
  by_cases h : a ≥ (-4611686018427387904)
  · rw [if_pos h]; exact congrArg some (decide_eq_decide.mpr ⟨fun h' => ⟨h, h'⟩, fun h' => h'.2⟩)
  · rw [if_neg h]; exact congrArg some (decide_eq_false (fun h' => h h'.1)).symm
theorem size_f (a : Int) (h : InR a) : fix_size.f a = some (if a < 0 then -a else a, decide (a < 0)) := by
  unfold fix_size.f
  unfold InR at h
  by_cases h0 : a < 0
  · rw [if_pos h0, if_pos h0, wrap64_id _ (by omega) (by omega), wraps_u64 _ (by omega) (by omega)]; simp [h0]
  · rw [if_neg h0, if_neg h0, wraps_u64 _ (by omega) (by omega)]; simp [h0]

/-! ### the product of 128 bits -/
theorem mul_le_of (a b A B : Int) (h0 : 0 ≤ a) (h1 : a ≤ A) (h2 : 0 ≤ b) (h3 : b ≤ B) : 0 ≤ a * b ∧ a * b ≤ A * B :=
  ⟨Int.mul_nonneg h0 h2, Int.mul_le_mul h1 h3 h2 (by omega)⟩
theorem product_f (x y : Int) (hx0 : 0 ≤ x) (hx : x ≤ 4611686018427387904) (hy0 : 0 ≤ y) (hy : y ≤ 4611686018427387904) :
    fix_product.f x y = some (x * y / 18446744073709551616, x * y % 18446744073709551616) := by
  unfold fix_product.f
  rw [and_low32 x hx0 (by omega), and_low32 y hy0 (by omega)]
  obtain ⟨xh, hxh⟩ : ∃ z, x / 4294967296 = z := ⟨_, rfl⟩
  obtain ⟨xl, hxl⟩ : ∃ z, x % 4294967296 = z := ⟨_, rfl⟩
  obtain ⟨yh, hyh⟩ : ∃ z, y / 4294967296 = z := ⟨_, rfl⟩
  obtain ⟨yl, hyl⟩ : ∃ z, y % 4294967296 = z := ⟨_, rfl⟩
  rw [hxh, hxl, hyh, hyl]
  have ex : x = xh * 4294967296 + xl := by omega
  have ey : y = yh * 4294967296 + yl := by omega
  have b1 : 0 ≤ xh ∧ xh ≤ 1073741824 ∧ 0 ≤ xl ∧ xl ≤ 4294967295 := by omega
  have b2 : 0 ≤ yh ∧ yh ≤ 1073741824 ∧ 0 ≤ yl ∧ yl ≤ 4294967295 := by omega
  have exy : x * y = xh * yh * 18446744073709551616 + (xh * yl + xl * yh) * 4294967296 + xl * yl := by
    rw [ex, ey]; grind
  have bA := mul_le_of xh yh 1073741824 1073741824 b1.1 b1.2.1 b2.1 b2.2.1
  have bB := mul_le_of xh yl 1073741824 4294967295 b1.1 b1.2.1 b2.2.2.1 b2.2.2.2
  have bC := mul_le_of xl yh 4294967295 1073741824 b1.2.2.1 b1.2.2.2 b2.1 b2.2.1
  have bP := mul_le_of xl yl 4294967295 4294967295 b1.2.2.1 b1.2.2.2 b2.2.2.1 b2.2.2.2
  rw [exy]
  clear exy ex ey hxh hxl hyh hyl b1 b2
  generalize xh * yh = A at *
  generalize xh * yl = B at *
  generalize xl * yh = C at *
  generalize xl * yl = P at *
  rw [wraps_u64 A (by omega) (by omega), wraps_u64 B (by omega) (by omega), wraps_u64 C (by omega) (by omega), wraps_u64 P (by omega) (by omega)]
  rw [wraps_u64 (B + P / 4294967296) (by omega) (by omega), and_low32 (B + P / 4294967296) (by omega) (by omega), and_low32 P (by omega) (by omega)]
  rw [wraps_u64 (C + (B + P / 4294967296) % 4294967296) (by omega) (by omega)]
  rw [wraps_u64 (A + (B + P / 4294967296) / 4294967296) (by omega) (by omega)]
  rw [wraps_u64 (A + (B + P / 4294967296) / 4294967296 + (C + (B + P / 4294967296) % 4294967296) / 4294967296) (by omega) (by omega)]
  rw [IntKind.wrap_u64 ((C + (B + P / 4294967296) % 4294967296) * 4294967296)]
  rw [or_low32 _ _ (by omega) (by omega) (by omega) (by omega) (by omega)]
  simp only [Option.some.injEq, Prod.mk.injEq]
  constructor <;> omega

/-! ### the long division -/
theorem mod_two_pow_succ (m n : Nat) : m % 2 ^ (n + 1) = m / 2 ^ n % 2 * 2 ^ n + m % 2 ^ n := by
  rw [Nat.mod_pow_succ, Nat.mul_comm, Nat.add_comm]
theorem by_loop (c : Int) (hc1 : 1 ≤ c) (hc : c ≤ 4611686018427387904) (hi : Int) (m : Nat) (hm : m < 2 ^ 64) : ∀ (n : Nat), n ≤ 64 → ∀ (k : Nat), n < k → ∀ (q r : Int), 0 ≤ r → r < c → 0 ≤ q → q < 2 ^ (64 - n) →
    ∃ q' r', fix_wide_by.l0 k c q r ((n : Int) - 1) hi m = some (q', r') ∧ 0 ≤ r' ∧ r' < c ∧ 0 ≤ q' ∧ q' * c + r' = (q * c + r) * 2 ^ n + (m % 2 ^ n : Nat) := by
  intro n
  induction n with
  | zero =>
    intro _ k hk q r h0 h1 h2 h3
    obtain ⟨k, rfl⟩ : ∃ j, k = j + 1 := ⟨k - 1, by omega⟩
    refine ⟨q, r, ?_, h0, h1, h2, by simp [Nat.mod_one]⟩
    simp only [fix_wide_by.l0]
    rw [if_neg (by omega)]
  | succ n ih =>
    intro hn k hk q r h0 h1 h2 h3
    obtain ⟨k, rfl⟩ : ∃ j, k = j + 1 := ⟨k - 1, by omega⟩
    have hq2 : q * 2 + 1 < 2 ^ (64 - n) := by
      have e : (64 - n) = (64 - (n + 1)) + 1 := by omega
      rw [e, Int.pow_succ]; omega
    have hpow : (2 : Int) ^ (64 - n) ≤ 18446744073709551616 := by
      have h1 : (2 : Nat) ^ (64 - n) ≤ 18446744073709551616 := Nat.pow_le_pow_right (n := 2) (j := 64) (by decide) (by omega)
      have h2 : (2 : Int) ^ (64 - n) = ((2 ^ (64 - n) : Nat) : Int) := by simp
      rw [h2]; omega
    have e1 : ((n + 1 : Nat) : Int) - 1 = (n : Int) := by omega
    rw [e1, fix_wide_by.l0]
    rw [if_pos (by omega), if_pos (by omega)]
    have e2 : shr .u64 (m : Int) (n : Int) = ((m / 2 ^ n : Nat) : Int) := by
      unfold shr
      have : min ((n : Int)).toNat IntKind.u64.bits = n := by simp [IntKind.bits]; omega
      rw [this]; simp
    have hb : m / 2 ^ n ≤ m := Nat.div_le_self _ _
    rw [e2]
    generalize hM : m / 2 ^ n = M at *
    rw [and_one _ (by omega) (by omega)]
    have e3 : (M : Int) % 2 = ((M % 2 : Nat) : Int) := by omega
    rw [e3]
    have hs := mod_two_pow_succ m n
    rw [hM] at hs
    have hbit : M % 2 < 2 := Nat.mod_lt _ (by decide)
    generalize M % 2 = b at *
    rw [wraps_u64 (r * 2) (by omega) (by omega), wraps_u64 (q * 2) (by omega) (by omega)]
    rw [or_one (r * 2) b (by omega) (by omega) (by omega) (by omega) (by omega), or_one (q * 2) 1 (by omega) (by omega) (by omega) (by omega) (by omega)]
    rw [wrap64_id ((n : Int) - 1) (by omega) (by omega)]
    by_cases hge : r * 2 + (b : Int) ≥ c
    · rw [if_pos hge, wraps_u64 (r * 2 + b - c) (by omega) (by omega)]
      obtain ⟨q', r', he, a1, a2, a3, a4⟩ := ih (by omega) k (by omega) (q * 2 + 1) (r * 2 + b - c) (by omega) (by omega) (by omega) hq2
      refine ⟨q', r', he, a1, a2, a3, ?_⟩
      rw [a4, hs]
      simp only [Int.natCast_add, Int.natCast_mul, Int.pow_succ, Int.natCast_pow]
      grind
    · rw [if_neg hge]
      obtain ⟨q', r', he, a1, a2, a3, a4⟩ := ih (by omega) k (by omega) (q * 2) (r * 2 + b) (by omega) (by omega) (by omega) (by omega)
      refine ⟨q', r', he, a1, a2, a3, ?_⟩
      rw [a4, hs]
      simp only [Int.natCast_add, Int.natCast_mul, Int.pow_succ, Int.natCast_pow]
      grind
theorem by_f (k : Nat) (hk : 64 < k) (p c : Int) (hc1 : 1 ≤ c) (hc : c ≤ 4611686018427387904) (hp0 : 0 ≤ p) (hp : p / 18446744073709551616 < c) :
    fix_wide_by.f k (p / 18446744073709551616) (p % 18446744073709551616) c = some (p / c, p % c) := by
  obtain ⟨m, hm⟩ : ∃ m : Nat, p % 18446744073709551616 = m := ⟨(p % 18446744073709551616).toNat, by omega⟩
  have hm2 : m < 2 ^ 64 := by omega
  obtain ⟨q, r, he, a1, a2, a3, a4⟩ := by_loop c hc1 hc (p / 18446744073709551616) m hm2 64 (by omega) k hk 0 (p / 18446744073709551616) (by omega) hp (by omega) (by decide)
  unfold fix_wide_by.f
  rw [hm]
  refine he.trans ?_
  rw [Nat.mod_eq_of_lt hm2] at a4
  have e : q * c + r = p := by
    have : (2 : Int) ^ 64 = 18446744073709551616 := by decide
    rw [this] at a4
    omega
  have e2 : p / c = q := by
    rw [← e, Int.add_comm, Int.add_mul_ediv_right _ _ (by omega), Int.ediv_eq_zero_of_lt a1 a2]; omega
  have e3 : p % c = r := by
    rw [← e, Int.add_comm, Int.add_mul_emod_self_right, Int.emod_eq_of_lt a1 a2]
  rw [e2, e3]

/-! ### MulDiv -/
def MD (a b c : Int) : Int × Bool := if InR a ∧ InR b ∧ InR c ∧ 1 ≤ c ∧ InR (a * b / c) then (a * b / c, true) else (0, false)
theorem ediv_neg_floor (p c : Int) (hc : 1 ≤ c) : (-p) / c = if p % c > 0 then -(p / c + 1) else -(p / c) := by
  have h1 := Int.emod_add_mul_ediv p c
  have h2 := Int.emod_nonneg p (show c ≠ 0 by omega)
  have h3 := Int.emod_lt_of_pos p (show 0 < c by omega)
  split
  · rename_i h
    have : -p = (c - p % c) + c * (-(p / c + 1)) := by grind
    rw [this, Int.add_mul_ediv_left _ _ (by omega), Int.ediv_eq_zero_of_lt (by omega) (by omega)]; omega
  · rename_i h
    have : -p = 0 + c * (-(p / c)) := by grind
    rw [this, Int.add_mul_ediv_left _ _ (by omega)]; simp
theorem MulDiv_f (k : Nat) (hk : 100 ≤ k) (a b c : Int) : fix_MulDiv.f k a b c = some (MD a b c) := by
  obtain ⟨k, rfl⟩ : ∃ j, k = j + 4 := ⟨k - 4, by omega⟩
  unfold fix_MulDiv.f MD
  rw [In_f, In_f, In_f]
  simp only [Option.bind_some, decide_eq_true_eq]
  by_cases ha : ¬ InR a
  · rw [if_neg ha, if_neg (fun h => ha h.1)]; simp [fix_MulDiv.j0]
  by_cases hb : ¬ InR b
  · rw [if_pos (Decidable.not_not.mp ha), if_neg hb, if_neg (fun h => hb h.2.1)]; simp [fix_MulDiv.j0]
  by_cases hc : ¬ InR c
  · rw [if_pos (Decidable.not_not.mp ha), if_pos (Decidable.not_not.mp hb), if_neg hc, if_neg (fun h => hc h.2.2.1)]; simp [fix_MulDiv.j0]
  replace ha := Decidable.not_not.mp ha
  replace hb := Decidable.not_not.mp hb
  replace hc := Decidable.not_not.mp hc
  rw [if_pos ha, if_pos hb, if_pos hc]
  by_cases hc1 : c < 1
  · rw [if_neg (fun h => by omega)]; simp [fix_MulDiv.j0, hc1]
  simp only [fix_MulDiv.j0, hc1, decide_false, Bool.false_eq_true, if_false]
  rw [size_f a ha, size_f b hb]
  simp only [Option.bind_some]
  obtain ⟨x, hx⟩ : ∃ x, (if a < 0 then -a else a) = x := ⟨_, rfl⟩
  obtain ⟨y, hy⟩ : ∃ y, (if b < 0 then -b else b) = y := ⟨_, rfl⟩
  rw [hx, hy]
  unfold InR at ha hb hc
  have hx0 : 0 ≤ x ∧ x ≤ 4611686018427387904 := by split at hx <;> omega
  have hy0 : 0 ≤ y ∧ y ≤ 4611686018427387904 := by split at hy <;> omega
  rw [product_f x y hx0.1 hx0.2 hy0.1 hy0.2]
  simp only [Option.bind_some]
  rw [wraps_u64 c (by omega) (by omega)]
  have hp0 : 0 ≤ x * y := Int.mul_nonneg hx0.1 hy0.1
  -- the signed product
  have hs : a * b = if (decide (a < 0) != decide (b < 0)) = true then -(x * y) else x * y := by
    by_cases h1 : a < 0 <;> by_cases h2 : b < 0 <;> simp [h1, h2] at hx hy ⊢ <;> subst hx <;> subst hy <;> grind
  have hce : c * (x * y / c) ≤ x * y := by
    have := Int.emod_add_mul_ediv (x * y) c
    have := Int.emod_nonneg (x * y) (show c ≠ 0 by omega)
    omega
  have hq0 : 0 ≤ x * y / c := Int.ediv_nonneg hp0 (by omega)
  by_cases hbig : x * y / 18446744073709551616 ≥ c
  · rw [if_pos hbig]
    -- the quotient has more than 64 bits
    have hq : 18446744073709551616 ≤ x * y / c := by
      rw [Int.le_ediv_iff_mul_le (by omega)]
      omega
    rw [if_neg]
    rintro ⟨_, _, _, _, h⟩
    unfold InR at h
    rw [hs] at h
    split at h
    · rw [ediv_neg_floor _ _ (by omega)] at h
      split at h <;> omega
    · omega
  · rw [if_neg hbig, by_f _ (by omega) (x * y) c (by omega) (by omega) hp0 (by omega)]
    simp only [Option.bind_some]
    have hq1 : x * y / c < 18446744073709551616 := by
      rw [Int.ediv_lt_iff_lt_mul (by omega)]
      omega
    have hInR : ∀ z : Int, InR z ↔ (-4611686018427387904 ≤ z ∧ z ≤ 4611686018427387904) := fun _ => Iff.rfl
    by_cases hd : (decide (a < 0) != decide (b < 0)) = true
    · rw [if_pos hd] at hs ⊢
      rw [hs, ediv_neg_floor _ _ (by omega)]
      by_cases hr : x * y % c > 0
      · rw [if_pos hr, if_pos hr]
        simp only [fix_MulDiv.j1, fix_MulDiv.j2, hd, if_true]
        by_cases hle : x * y / c ≤ 4611686018427387904
        · rw [if_pos (by simpa using hle), wraps_u64 _ (by omega) (by omega)]
          by_cases hgt : x * y / c + 1 > 4611686018427387904
          · rw [if_pos hgt, if_neg (by simp only [hInR]; omega)]
          · rw [if_neg hgt, if_pos (by simp only [hInR]; omega), wrap64_id (x * y / c + 1) (by omega) (by omega), wrap64_id _ (by omega) (by omega)]
        · rw [if_neg (by simpa using hle), if_pos (by omega), if_neg (by simp only [hInR]; omega)]
      · rw [if_neg hr, if_neg hr]
        simp only [fix_MulDiv.j1, fix_MulDiv.j2, hd, if_true, Bool.false_eq_true, if_false]
        by_cases hgt : x * y / c > 4611686018427387904
        · rw [if_pos hgt, if_neg (by simp only [hInR]; omega)]
        · rw [if_neg hgt, if_pos (by simp only [hInR]; omega), wrap64_id (x * y / c) (by omega) (by omega), wrap64_id _ (by omega) (by omega)]
    · rw [if_neg hd] at hs ⊢
      rw [hs]
      simp only [fix_MulDiv.j1, fix_MulDiv.j2, hd, Bool.false_eq_true, if_false]
      by_cases hgt : x * y / c > 4611686018427387904
      · rw [if_pos hgt, if_neg (by simp only [hInR]; omega)]
      · rw [if_neg hgt, if_pos (by simp only [hInR]; omega), wrap64_id (x * y / c) (by omega) (by omega)]

theorem Div_f (k : Nat) (hk : 100 ≤ k) (a b : Int) : fix_Div.f k a b = some (MD a 1 b) := by unfold fix_Div.f; rw [MulDiv_f k hk]; rfl

/-! ### what MulDiv tells -/
theorem MD_yes {a b c : Int} (h : InR a ∧ InR b ∧ InR c ∧ 1 ≤ c ∧ InR (a * b / c)) : MD a b c = (a * b / c, true) := if_pos h
theorem MD_no {a b c : Int} (h : ¬ (InR a ∧ InR b ∧ InR c ∧ 1 ≤ c ∧ InR (a * b / c))) : MD a b c = (0, false) := if_neg h
theorem InR_one : InR 1 := by decide
theorem div_between (p c : Int) (hc : 1 ≤ c) : (0 ≤ p → 0 ≤ p / c ∧ p / c ≤ p) ∧ (p ≤ 0 → p ≤ p / c ∧ p / c ≤ 0) := by
  refine ⟨fun h => ⟨Int.ediv_nonneg h (by omega), Int.ediv_le_self _ h⟩, fun h => ⟨?_, ?_⟩⟩
  · rw [Int.le_ediv_iff_mul_le (by omega)]
    have := Int.mul_le_mul_of_nonpos_left h hc
    rw [Int.mul_one] at this
    exact this
  · have := Int.ediv_le_ediv (c := c) (by omega) h
    rwa [Int.zero_ediv] at this
theorem InR_div {p c : Int} (hp : InR p) (hc : 1 ≤ c) : InR (p / c) := by
  have := div_between p c hc
  unfold InR at *
  rcases Int.le_total 0 p with h | h
  · have := this.1 h; omega
  · have := this.2 h; omega
theorem div_left (p c : Int) (hc : 1 ≤ c) : p / c * c ≤ p ∧ p < p / c * c + c := by
  have h1 := Int.emod_add_mul_ediv p c
  have h2 := Int.emod_nonneg p (show c ≠ 0 by omega)
  have h3 := Int.emod_lt_of_pos p (show 0 < c by omega)
  rw [Int.mul_comm] at h1
  omega

/-! ### Add -/
theorem Add_yes {a b : Int} (h : InR a) (h' : InR b) (h'' : InR (a + b)) : fix_Add.f a b = some (a + b, true) := if_pos ⟨h, h', h''⟩
theorem Add_no {a b : Int} (h : ¬ (InR a ∧ InR b ∧ InR (a + b))) : fix_Add.f a b = some (0, false) := if_neg h
theorem Add_comm (a b : Int) : fix_Add.f b a = fix_Add.f a b := by
  by_cases h : InR a ∧ InR b ∧ InR (a + b)
  · rw [Add_yes h.1 h.2.1 h.2.2, Add_yes h.2.1 h.1 (by rw [Int.add_comm]; exact h.2.2), Int.add_comm]
  · rw [Add_no h, Add_no (fun h' => h ⟨h'.2.1, h'.1, by rw [Int.add_comm]; exact h'.2.2⟩)]
theorem Add_some (a b : Int) : ∃ x y, fix_Add.f a b = some (x, y) := by
  unfold fix_Add.f; split <;> exact ⟨_, _, rfl⟩

/-! ### the document's product by a number -/
theorem rIn_f (a : Int) : fourinhandref01_In.f a = some (decide (InR a)) := by
  unfold fourinhandref01_In.f
  by_cases h : a ≥ (-4611686018427387904)
  · rw [if_pos h]; exact congrArg some (decide_eq_decide.mpr ⟨fun h' => ⟨h, h'⟩, fun h' => h'.2⟩)
  · rw [if_neg h]; exact congrArg some (decide_eq_false (fun h' => h h'.1)).symm
theorem rsize_f (a : Int) (h : InR a) : fourinhandref01_size.f a = some (if a < 0 then -a else a) := by
  unfold fourinhandref01_size.f
  unfold InR at h
  by_cases h0 : a < 0
  · rw [if_pos h0, if_pos h0, wrap64_id _ (by omega) (by omega)]
  · rw [if_neg h0, if_neg h0]
/-- The bit in hand, of n bits that are left. -/
def bitAt (n : Nat) : Int := if n = 0 then 0 else 2 ^ (n - 1)
theorem bitAt_half (n : Nat) : bitAt (n + 1) / 2 = bitAt n := by
  unfold bitAt
  cases n with
  | zero => simp
  | succ n => simp [Int.pow_succ]
theorem two_pow_le (n m : Nat) (h : n ≤ m) : (2 : Int) ^ n ≤ 2 ^ m := by
  have h1 : (2 : Nat) ^ n ≤ 2 ^ m := Nat.pow_le_pow_right (by decide) h
  have h2 : (2 : Int) ^ n = ((2 ^ n : Nat) : Int) := by simp
  have h3 : (2 : Int) ^ m = ((2 ^ m : Nat) : Int) := by simp
  rw [h2, h3]; omega
theorem two_pow_pos (n : Nat) : (1 : Int) ≤ 2 ^ n := by have h2 : (0 : Int) < 2 ^ n := Int.pow_pos (by omega); omega
theorem long_loop (b c : Int) (hc1 : 1 ≤ c) (hc : c ≤ 4611686018427387904) (hb0 : 0 ≤ b) (hb : b ≤ 4611686018427387904) : ∀ (n : Nat), n ≤ 63 → ∀ (k : Nat), 2 * n < k → ∀ (a q r : Int), 0 ≤ a → a < 2 ^ n → 0 ≤ r → r < c → 0 ≤ q → q ≤ 4611686018427387905 →
    ∃ q' r', fourinhandref01_long.l0 k a b c q r (bitAt n) = some (q', r') ∧ ((q' * c + r' = (q * c + r) * 2 ^ n + a * b ∧ 0 ≤ r' ∧ r' < c ∧ 0 ≤ q' ∧ q' ≤ 4611686018427387905) ∨ (q' = 4611686018427387905 ∧ r' = 0 ∧ 4611686018427387905 * c ≤ (q * c + r) * 2 ^ n + a * b)) := by
  intro n
  induction n with
  | zero =>
    intro _ k hk a q r ha0 ha hr0 hr hq0 hq
    obtain ⟨k, rfl⟩ : ∃ i, k = i + 1 := ⟨k - 1, by omega⟩
    have e : a = 0 := by simp at ha; omega
    refine ⟨q, r, ?_, .inl ⟨by rw [e]; simp, hr0, hr, hq0, hq⟩⟩
    rw [fourinhandref01_long.l0, if_neg (by unfold bitAt; simp)]
  | succ n ih =>
    intro hn k hk a q r ha0 ha hr0 hr hq0 hq
    obtain ⟨k, rfl⟩ : ∃ i, k = i + 2 := ⟨k - 2, by omega⟩
    have hv1 : bitAt (n + 1) = 2 ^ n := by unfold bitAt; simp
    have hhalf := bitAt_half n
    have hp1 := two_pow_pos n
    have hp2 := two_pow_le n 62 (by omega)
    have hp3 : (2 : Int) ^ 62 = 4611686018427387904 := by decide
    rw [Int.pow_succ] at ha
    rw [fourinhandref01_long.l0, if_pos (by omega)]
    have hqc : 0 ≤ q * c := Int.mul_nonneg hq0 (by omega)
    have hab : 0 ≤ a * b := Int.mul_nonneg ha0 hb0
    rw [Int.pow_succ]
    by_cases hbig : q > 2305843009213693952
    · rw [if_pos hbig]
      refine ⟨_, _, rfl, .inr ⟨rfl, rfl, ?_⟩⟩
      have h1 : 2305843009213693953 * c ≤ q * c := Int.mul_le_mul_of_nonneg_right (by omega) (by omega)
      have h2 : (q * c + r) * 1 ≤ (q * c + r) * 2 ^ n := Int.mul_le_mul_of_nonneg_left hp1 (by omega)
      generalize q * c = Q at *
      have e : (Q + r) * (2 ^ n * 2) = (Q + r) * 2 ^ n * 2 := by grind
      rw [e]
      omega
    · rw [if_neg hbig, wrap64_id (2 * q) (by omega) (by omega), wrap64_id (2 * r) (by omega) (by omega)]
      -- behind the doubling
      have key : ∀ (q2 r2 : Int), 0 ≤ r2 → r2 < c → 0 ≤ q2 → q2 ≤ 4611686018427387905 → q2 * c + r2 = 2 * (q * c + r) →
          ∃ q' r', fourinhandref01_long.j1 (k + 1) a b c q2 r2 (bitAt (n + 1)) = some (q', r') ∧ ((q' * c + r' = (q * c + r) * (2 ^ n * 2) + a * b ∧ 0 ≤ r' ∧ r' < c ∧ 0 ≤ q' ∧ q' ≤ 4611686018427387905) ∨ (q' = 4611686018427387905 ∧ r' = 0 ∧ 4611686018427387905 * c ≤ (q * c + r) * (2 ^ n * 2) + a * b)) := by
        intro q2 r2 hr20 hr2 hq20 hq2 he
        have etot : (q * c + r) * (2 ^ n * 2) = (q2 * c + r2) * 2 ^ n := by rw [he]; grind
        rw [etot, fourinhandref01_long.j1, Int.tdiv_eq_ediv_of_nonneg (by omega), wrap64_id (bitAt (n + 1) / 2) (by omega) (by omega), hhalf]
        by_cases hlt : a < bitAt (n + 1)
        · rw [if_pos hlt]
          exact ih (by omega) k (by omega) a q2 r2 ha0 (by omega) hr20 hr2 hq20 hq2
        · rw [if_neg hlt, if_neg (by omega), Int.tdiv_eq_ediv_of_nonneg hb0, Int.tmod_eq_emod_of_nonneg hb0]
          have hbc := div_between b c hc1
          have hbq := hbc.1 hb0
          have hbr := Int.emod_nonneg b (show c ≠ 0 by omega)
          have hbr2 := Int.emod_lt_of_pos b (show 0 < c by omega)
          have hbe := Int.emod_add_mul_ediv b c
          rw [wrap64_id (b / c) (by omega) (by omega), wrap64_id (4611686018427387904 - q2) (by omega) (by omega), wrap64_id (r2 + b % c) (by omega) (by omega), wrap64_id (a - bitAt (n + 1)) (by omega) (by omega)]
          have hsub : (a - bitAt (n + 1)) * b = a * b - 2 ^ n * b := by rw [hv1]; grind
          have hq2c : 0 ≤ q2 * c := Int.mul_nonneg hq20 (by omega)
          by_cases hover : b / c > 4611686018427387904 - q2
          · rw [if_pos hover]
            refine ⟨_, _, rfl, .inr ⟨rfl, rfl, ?_⟩⟩
            have h1 : (4611686018427387905 - q2) * c ≤ b / c * c := Int.mul_le_mul_of_nonneg_right (by omega) (by omega)
            have h2 : (q2 * c + r2) * 1 ≤ (q2 * c + r2) * 2 ^ n := Int.mul_le_mul_of_nonneg_left hp1 (by omega)
            have h3 : 1 * b ≤ a * b := Int.mul_le_mul_of_nonneg_right (by omega) hb0
            have h4 : (4611686018427387905 - q2) * c = 4611686018427387905 * c - q2 * c := by grind
            have h5 : c * (b / c) = b / c * c := Int.mul_comm _ _
            omega
          · rw [if_neg hover]
            have hge0 : 0 ≤ a - bitAt (n + 1) := by omega
            have hlt2 : a - bitAt (n + 1) < 2 ^ n := by omega
            by_cases hadj : r2 + b % c ≥ c
            · rw [if_pos hadj, wrap64_id (q2 + b / c) (by omega) (by omega), wrap64_id (q2 + b / c + 1) (by omega) (by omega), wrap64_id (r2 + b % c - c) (by omega) (by omega)]
              obtain ⟨q', r', h1, h2⟩ := ih (by omega) k (by omega) (a - bitAt (n + 1)) (q2 + b / c + 1) (r2 + b % c - c) hge0 hlt2 (by omega) (by omega) (by omega) (by omega)
              have e2 : ((q2 + b / c + 1) * c + (r2 + b % c - c)) * 2 ^ n + (a - bitAt (n + 1)) * b = (q2 * c + r2) * 2 ^ n + a * b := by
                have : (q2 + b / c + 1) * c + (r2 + b % c - c) = q2 * c + r2 + b := by grind
                rw [this, hsub]; grind
              rw [e2] at h2
              exact ⟨q', r', h1, h2⟩
            · rw [if_neg hadj, wrap64_id (q2 + b / c) (by omega) (by omega)]
              obtain ⟨q', r', h1, h2⟩ := ih (by omega) k (by omega) (a - bitAt (n + 1)) (q2 + b / c) (r2 + b % c) hge0 hlt2 (by omega) (by omega) (by omega) (by omega)
              have e2 : ((q2 + b / c) * c + (r2 + b % c)) * 2 ^ n + (a - bitAt (n + 1)) * b = (q2 * c + r2) * 2 ^ n + a * b := by
                have : (q2 + b / c) * c + (r2 + b % c) = q2 * c + r2 + b := by grind
                rw [this, hsub]; grind
              rw [e2] at h2
              exact ⟨q', r', h1, h2⟩
      by_cases hge : 2 * r ≥ c
      · rw [if_pos hge, wrap64_id (2 * q + 1) (by omega) (by omega), wrap64_id (2 * r - c) (by omega) (by omega)]
        exact key (2 * q + 1) (2 * r - c) (by omega) (by omega) (by omega) (by omega) (by grind)
      · rw [if_neg hge]
        exact key (2 * q) (2 * r) (by omega) (by omega) (by omega) (by omega) (by grind)
theorem long_f (k : Nat) (hk : 126 < k) (a b c : Int) (ha0 : 0 ≤ a) (ha : a ≤ 4611686018427387904) (hb0 : 0 ≤ b) (hb : b ≤ 4611686018427387904) (hc1 : 1 ≤ c) (hc : c ≤ 4611686018427387904) :
    ∃ q r, fourinhandref01_long.f k a b c = some (q, r) ∧ ((q = a * b / c ∧ r = a * b % c ∧ q ≤ 4611686018427387905) ∨ (q = 4611686018427387905 ∧ r = 0 ∧ 4611686018427387905 ≤ a * b / c)) := by
  have hv : bitAt 63 = 4611686018427387904 := by decide
  have h63 : a < 2 ^ 63 := by
    have h1 : (2 : Int) ^ 63 = 9223372036854775808 := by decide
    rw [h1]; omega
  obtain ⟨q, r, h1, h2⟩ := long_loop b c hc1 hc hb0 hb 63 (by omega) k (by omega) a 0 0 ha0 h63 (by omega) (by omega) (by omega) (by omega)
  rw [hv] at h1
  refine ⟨q, r, h1, ?_⟩
  rcases h2 with ⟨h2, h3, h4, h5, h6⟩ | ⟨h2, h3, h4⟩
  · left
    have e : a * b = r + q * c := by simp at h2; omega
    rw [e]
    refine ⟨?_, ?_, h6⟩
    · rw [Int.add_mul_ediv_right _ _ (by omega), Int.ediv_eq_zero_of_lt h3 h4]; omega
    · rw [Int.add_mul_emod_self_right, Int.emod_eq_of_lt h3 h4]
  · right
    refine ⟨h2, h3, ?_⟩
    rw [Int.le_ediv_iff_mul_le (by omega)]
    simpa using h4
theorem rMulDiv_f (k : Nat) (hk : 200 ≤ k) (a b c : Int) : fourinhandref01_MulDiv.f k a b c = some (MD a b c) := by
  obtain ⟨k, rfl⟩ : ∃ j, k = j + 1 := ⟨k - 1, by omega⟩
  unfold fourinhandref01_MulDiv.f MD
  rw [rIn_f, rIn_f, rIn_f]
  simp only [Option.bind_some, decide_eq_true_eq]
  by_cases ha : ¬ InR a
  · rw [if_neg ha, if_neg (fun h => ha h.1)]; simp [fourinhandref01_MulDiv.j0]
  by_cases hb : ¬ InR b
  · rw [if_pos (Decidable.not_not.mp ha), if_neg hb, if_neg (fun h => hb h.2.1)]; simp [fourinhandref01_MulDiv.j0]
  by_cases hc : ¬ InR c
  · rw [if_pos (Decidable.not_not.mp ha), if_pos (Decidable.not_not.mp hb), if_neg hc, if_neg (fun h => hc h.2.2.1)]; simp [fourinhandref01_MulDiv.j0]
  replace ha := Decidable.not_not.mp ha
  replace hb := Decidable.not_not.mp hb
  replace hc := Decidable.not_not.mp hc
  rw [if_pos ha, if_pos hb, if_pos hc]
  by_cases hc1 : c < 1
  · rw [if_neg (fun h => by omega)]; simp [fourinhandref01_MulDiv.j0, hc1]
  simp only [fourinhandref01_MulDiv.j0, hc1, decide_false, Bool.false_eq_true, if_false]
  rw [rsize_f a ha, rsize_f b hb]
  simp only [Option.bind_some]
  obtain ⟨x, hx⟩ : ∃ x, (if a < 0 then -a else a) = x := ⟨_, rfl⟩
  obtain ⟨y, hy⟩ : ∃ y, (if b < 0 then -b else b) = y := ⟨_, rfl⟩
  rw [hx, hy]
  have ha' := ha
  have hb' := hb
  have hc' := hc
  unfold InR at ha hb hc
  have hx0 : 0 ≤ x ∧ x ≤ 4611686018427387904 := by split at hx <;> omega
  have hy0 : 0 ≤ y ∧ y ≤ 4611686018427387904 := by split at hy <;> omega
  obtain ⟨q, r, hl, hqr⟩ := long_f k (by omega) x y c hx0.1 hx0.2 hy0.1 hy0.2 (by omega) (by omega)
  rw [hl]
  simp only [Option.bind_some]
  have hp0 : 0 ≤ x * y := Int.mul_nonneg hx0.1 hy0.1
  have hs : a * b = if (decide (a < 0) != decide (b < 0)) = true then -(x * y) else x * y := by
    by_cases h1 : a < 0 <;> by_cases h2 : b < 0 <;> simp [h1, h2] at hx hy ⊢ <;> subst hx <;> subst hy <;> grind
  have hq0 : 0 ≤ x * y / c := Int.ediv_nonneg hp0 (by omega)
  have hInR : ∀ z : Int, InR z ↔ (-4611686018427387904 ≤ z ∧ z ≤ 4611686018427387904) := fun _ => Iff.rfl
  have hr0 := Int.emod_nonneg (x * y) (show c ≠ 0 by omega)
  have hbound : 0 ≤ q ∧ (4611686018427387904 < x * y / c → 4611686018427387904 < q) := by
    rcases hqr with ⟨h1, h2, h7⟩ | ⟨h1, h2, h3⟩ <;> omega
  by_cases hd : (decide (a < 0) != decide (b < 0)) = true
  · rw [if_pos hd] at hs ⊢
    rw [hs, ediv_neg_floor _ _ (by omega), rIn_f, rIn_f]
    simp only [Option.bind_some, decide_eq_true_eq]
    rcases hqr with ⟨h1, h2, h7⟩ | ⟨h1, h2, h3⟩
    · subst h1 h2
      rw [wrap64_id (x * y / c + 1) (by omega) (by omega), wrap64_id (-(x * y / c + 1)) (by omega) (by omega), wrap64_id (-(x * y / c)) (by omega) (by omega)]
      by_cases hr : x * y % c > 0
      · rw [if_pos hr, if_pos hr]
        by_cases hi : InR (-(x * y / c + 1))
        · rw [if_pos hi, if_pos ⟨ha', hb', hc', by omega, hi⟩]
        · rw [if_neg hi, if_neg (fun h => hi h.2.2.2.2)]
      · rw [if_neg hr, if_neg hr]
        by_cases hi : InR (-(x * y / c))
        · rw [if_pos hi, if_pos ⟨ha', hb', hc', by omega, hi⟩]
        · rw [if_neg hi, if_neg (fun h => hi h.2.2.2.2)]
    · subst h1 h2
      rw [if_neg (by omega), wrap64_id (-4611686018427387905) (by omega) (by omega)]
      rw [if_neg (by rw [hInR]; omega), if_neg]
      rintro ⟨_, _, _, _, h⟩
      rw [hInR] at h
      split at h <;> omega
  · rw [if_neg hd] at hs ⊢
    rw [hs, rIn_f]
    simp only [Option.bind_some, decide_eq_true_eq]
    rcases hqr with ⟨h1, h2, h7⟩ | ⟨h1, h2, h3⟩
    · subst h1 h2
      by_cases hi : InR (x * y / c)
      · rw [if_pos hi, if_pos ⟨ha', hb', hc', by omega, hi⟩]
      · rw [if_neg hi, if_neg (fun h => hi h.2.2.2.2)]
    · subst h1 h2
      rw [if_neg (by rw [hInR]; omega), if_neg]
      rintro ⟨_, _, _, _, h⟩
      rw [hInR] at h
      omega

theorem rDiv_f (k : Nat) (hk : 200 ≤ k) (a b : Int) : fourinhandref01_Div.f k a b = some (MD a 1 b) := by unfold fourinhandref01_Div.f; rw [rMulDiv_f k hk]; rfl

/-! ### how long answers take -/
theorem rin_f (a b c : Int) : rtt_in.f a b c = some (decide (b ≤ a ∧ a ≤ c)) := by
  unfold rtt_in.f
  by_cases h : a ≥ b
  · rw [if_pos h]; exact congrArg some (decide_eq_decide.mpr ⟨fun h' => ⟨h, h'⟩, fun h' => h'.2⟩)
  · rw [if_neg h]; exact congrArg some (decide_eq_false (fun h' => h h'.1)).symm
def RMay (has : Bool) (s v t sh : Int) : Prop := (0 ≤ s ∧ s ≤ 1152921504606846976) ∧ (0 ≤ v ∧ v ≤ 1152921504606846976) ∧ (0 ≤ t ∧ t ≤ 1152921504606846976) ∧ (0 ≤ sh ∧ sh ≤ 16) ∧ (has = true ∨ (s = 0 ∧ v = 0))
instance (has : Bool) (s v t sh : Int) : Decidable (RMay has s v t sh) := inferInstanceAs (Decidable (_ ∧ _))
theorem May_f (k : Nat) (hk : 1 ≤ k) (has : Bool) (s v t sh : Int) : rtt_May.f k has s v t sh = some (decide (RMay has s v t sh)) := by
  obtain ⟨k, rfl⟩ : ∃ j, k = j + 1 := ⟨k - 1, by omega⟩
  have base : ((rtt_in.f s 0 1152921504606846976).bind fun t102 => (if t102 = true then ((rtt_in.f v 0 1152921504606846976).bind fun t103 => (if t103 = true then ((rtt_in.f t 0 1152921504606846976).bind fun t104 => (if t104 = true then ((rtt_in.f sh 0 16).bind fun t105 => (some t105)) else (some false))) else (some false))) else (some false))) = some (decide ((0 ≤ s ∧ s ≤ 1152921504606846976) ∧ (0 ≤ v ∧ v ≤ 1152921504606846976) ∧ (0 ≤ t ∧ t ≤ 1152921504606846976) ∧ (0 ≤ sh ∧ sh ≤ 16))) := by
    simp only [rin_f, Option.bind_some, decide_eq_true_eq]
    by_cases h1 : 0 ≤ s ∧ s ≤ 1152921504606846976
    · rw [if_pos h1]
      by_cases h2 : 0 ≤ v ∧ v ≤ 1152921504606846976
      · rw [if_pos h2]
        by_cases h3 : 0 ≤ t ∧ t ≤ 1152921504606846976
        · rw [if_pos h3]; simp [h1, h2, h3]
        · rw [if_neg h3]; simp [h3]
      · rw [if_neg h2]; simp [h2]
    · rw [if_neg h1]; simp [h1]
  unfold rtt_May.f
  cases has with
  | true =>
    rw [if_pos rfl, rtt_May.j0, if_neg (by decide), base]
    exact congrArg some (decide_eq_decide.mpr ⟨fun h => ⟨h.1, h.2.1, h.2.2.1, h.2.2.2, .inl rfl⟩, fun h => ⟨h.1, h.2.1, h.2.2.1, h.2.2.2.1⟩⟩)
  | false =>
    rw [if_neg (by decide), rtt_May.j0, base]
    by_cases h : s = 0 ∧ v = 0
    · obtain ⟨rfl, rfl⟩ := h
      rw [if_neg (by decide)]
      exact congrArg some (decide_eq_decide.mpr ⟨fun h => ⟨h.1, h.2.1, h.2.2.1, h.2.2.2, .inr ⟨rfl, rfl⟩⟩, fun h => ⟨h.1, h.2.1, h.2.2.1, h.2.2.2.1⟩⟩)
    · rw [if_pos]
      · exact congrArg some (decide_eq_false (fun h' => by rcases h'.2.2.2.2 with h' | h'; exact absurd h' (by decide); exact h h')).symm
      · simp only [Bool.false_or, Bool.or_eq_true, Bool.not_eq_true', beq_eq_false_iff_ne, ne_eq]
        omega

/-- What seven eighths of the smoothed time and one of the new one come to. -/
def seven8 (s took : Int) : Int := 7 * (s / 8) + (7 * (s % 8) + took) / 8
theorem seven_f (s took : Int) (h0 : 0 ≤ s) (h1 : s ≤ 1152921504606846976) (h2 : 0 ≤ took) (h3 : took ≤ 1099511627776) : rtt_seven.f s took = some (seven8 s took) := by
  unfold rtt_seven.f seven8
  rw [Int.tmod_eq_emod_of_nonneg h0, wrap64_id (7 * (s % 8)) (by omega) (by omega)]
  rw [Add_yes ⟨by omega, by omega⟩ ⟨by omega, by omega⟩ ⟨by omega, by omega⟩]
  simp only [Option.bind_some]
  rw [Int.tdiv_eq_ediv_of_nonneg h0, Int.tdiv_eq_ediv_of_nonneg (by omega), wrap64_id (s / 8) (by omega) (by omega), wrap64_id (7 * (s / 8)) (by omega) (by omega), wrap64_id ((7 * (s % 8) + took) / 8) (by omega) (by omega), wrap64_id _ (by omega) (by omega)]
def SampleFine (has : Bool) (s v t sh took least most : Int) : Prop := RMay has s v t sh ∧ (0 ≤ took ∧ took ≤ 1099511627776) ∧ (1 ≤ least ∧ least ≤ most) ∧ most ≤ 1099511627776
instance (has : Bool) (s v t sh took least most : Int) : Decidable (SampleFine has s v t sh took least most) := inferInstanceAs (Decidable (_ ∧ _))
def newSrtt (has : Bool) (s took : Int) : Int := if has = true then seven8 s took else took
def newVar (has : Bool) (s v took : Int) : Int := if has = true then (3 * v + mx (s - took) (took - s)) / 4 else took / 2
def newRto (s v least most : Int) : Int := mx least (mn (s + mx 1000 (4 * v)) most)
def newRtt (has : Bool) (s v took least most : Int) : Bool × Int × Int × Int × Int × Int := (true, newSrtt has s took, newVar has s v took, newRto (newSrtt has s took) (newVar has s v took) least most, 0, 0)
theorem Sample_yes (k : Nat) (hk : 101 ≤ k) {has : Bool} {s v t sh took least most : Int} (h : SampleFine has s v t sh took least most) : rtt_Sample.f k has s v t sh took least most = some (newRtt has s v took least most) := by
  obtain ⟨k, rfl⟩ : ∃ j, k = j + 1 := ⟨k - 1, by omega⟩
  unfold rtt_Sample.f
  rw [May_f _ (by omega), rin_f, rin_f]
  obtain ⟨hm, ht, hl, hmo⟩ := h
  have hmo' : ¬ most > 1099511627776 := by omega
  simp only [Option.bind_some, hm, ht, hl, hmo', decide_true, decide_false, and_self, if_true, rtt_Sample.j0, Bool.false_eq_true, if_false]
  obtain ⟨m1, m2, m3, m4, m5⟩ := hm
  unfold newRtt newSrtt newVar newRto
  cases has with
  | true =>
    have hmx : 0 ≤ mx (s - took) (took - s) ∧ mx (s - took) (took - s) ≤ 1152921504606846976 := by unfold mx; split <;> omega
    simp only [if_true]
    rw [wrap64_id (s - took) (by omega) (by omega), wrap64_id (took - s) (by omega) (by omega), wrap64_id (3 * v) (by omega) (by omega)]
    rw [wrap64_id (3 * v + mx (s - took) (took - s)) (by omega) (by omega), Div_f k (by omega), seven_f s took m1.1 m1.2 ht.1 ht.2]
    have hv : InR ((3 * v + mx (s - took) (took - s)) * 1 / 4) := ⟨by omega, by omega⟩
    rw [MD_yes ⟨⟨by omega, by omega⟩, InR_one, by decide, by omega, hv⟩]
    simp only [Option.bind_some, fix_Clamp.f, Int.mul_one]
    have hs : 0 ≤ seven8 s took ∧ seven8 s took ≤ 1152921504606846976 := by unfold seven8; omega
    generalize seven8 s took = x at *
    have hy : 0 ≤ (3 * v + mx (s - took) (took - s)) / 4 ∧ (3 * v + mx (s - took) (took - s)) / 4 ≤ 1152921504606846976 := by omega
    generalize (3 * v + mx (s - took) (took - s)) / 4 = y at *
    rw [wrap64_id (4 * y) (by omega) (by omega), wrap64_id (x + mx 1000 (4 * y)) (by unfold mx; split <;> omega) (by unfold mx; split <;> omega)]
  | false =>
    simp only [Bool.false_eq_true, if_false, fix_Clamp.f, Option.bind_some]
    rw [Int.tdiv_eq_ediv_of_nonneg ht.1, wrap64_id (took / 2) (by omega) (by omega), wrap64_id (4 * (took / 2)) (by omega) (by omega), wrap64_id (took + mx 1000 (4 * (took / 2))) (by unfold mx; split <;> omega) (by unfold mx; split <;> omega)]
theorem Sample_no (k : Nat) (hk : 101 ≤ k) {has : Bool} {s v t sh took least most : Int} (h : ¬ SampleFine has s v t sh took least most) : rtt_Sample.f k has s v t sh took least most = some (false, 0, 0, 0, 0, 1) := by
  obtain ⟨k, rfl⟩ : ∃ j, k = j + 1 := ⟨k - 1, by omega⟩
  unfold rtt_Sample.f
  rw [May_f _ (by omega), rin_f, rin_f]
  simp only [Option.bind_some, decide_eq_true_eq]
  by_cases h1 : RMay has s v t sh
  · rw [if_pos h1]
    by_cases h2 : 0 ≤ took ∧ took ≤ 1099511627776
    · rw [if_pos h2]
      by_cases h3 : 1 ≤ least ∧ least ≤ most
      · rw [if_pos h3]
        have h4 : most > 1099511627776 := by
          by_cases h5 : most > 1099511627776
          · exact h5
          · exact absurd ⟨h1, h2, h3, by omega⟩ h
        simp only [h4, decide_true, rtt_Sample.j0, if_true]
      · rw [if_neg h3]; simp only [rtt_Sample.j0, if_true]
    · rw [if_neg h2]; simp only [rtt_Sample.j0, if_true]
  · rw [if_neg h1]; simp only [rtt_Sample.j0, if_true]

/-- How long is waited. -/
def waited (has : Bool) (t sh most : Int) : Int := mn (mn (if has = true then t else 1000000) most * 2 ^ sh.toNat) most
theorem mn_le (a b : Int) : mn a b ≤ a ∧ mn a b ≤ b ∧ (mn a b = a ∨ mn a b = b) := by unfold mn; split <;> omega
theorem mx_ge (a b : Int) : a ≤ mx a b ∧ b ≤ mx a b ∧ (mx a b = a ∨ mx a b = b) := by unfold mx; split <;> omega
theorem two_pow_pos' (n : Nat) : (1 : Int) ≤ 2 ^ n := by have h2 : (0 : Int) < 2 ^ n := Int.pow_pos (by omega); omega
theorem two_pow_le16 (sh : Int) (h0 : 0 ≤ sh) (h : sh ≤ 16) : (2 : Int) ^ sh.toNat ≤ 65536 := by
  have h1 : (2 : Nat) ^ sh.toNat ≤ 2 ^ 16 := Nat.pow_le_pow_right (by decide) (by omega)
  have h2 : (2 : Int) ^ sh.toNat = ((2 ^ sh.toNat : Nat) : Int) := by simp
  rw [h2]; omega
theorem shl_small64 (x sh : Int) (h0 : 0 ≤ x) (h1 : x ≤ 1099511627776) (h2 : 0 ≤ sh) (h3 : sh ≤ 16) : shl .i64 x sh = x * 2 ^ sh.toNat := by
  unfold shl
  have e : min sh.toNat IntKind.i64.bits = sh.toNat := by simp [IntKind.bits]; omega
  have h := mul_le_of x (2 ^ sh.toNat) 1099511627776 65536 h0 h1 (by have := two_pow_pos' sh.toNat; omega) (two_pow_le16 sh h2 h3)
  rw [e, IntKind.wrap_i64]; omega
theorem Wait_yes (k : Nat) (hk : 2 ≤ k) {has : Bool} {s v t sh most : Int} (h : RMay has s v t sh) (h1 : 1 ≤ most) (h2 : most ≤ 1099511627776) : rtt_Wait.f k has s v t sh most = some (waited has t sh most) := by
  obtain ⟨k, rfl⟩ : ∃ j, k = j + 1 := ⟨k - 1, by omega⟩
  unfold rtt_Wait.f waited
  rw [May_f _ (by omega), rin_f]
  have hmo : 1 ≤ most ∧ most ≤ 1099511627776 := ⟨h1, h2⟩
  simp only [Option.bind_some, h, hmo, decide_true, and_self, if_true, Bool.not_true, rtt_Wait.j0, Bool.false_eq_true, if_false]
  obtain ⟨_, _, m3, m4, _⟩ := h
  cases has with
  | true =>
    have := mn_le t most
    rw [if_pos rfl, if_pos m4.1, shl_small64 _ _ (by omega) (by omega) m4.1 m4.2]; rfl
  | false =>
    have := mn_le 1000000 most
    rw [if_neg (by decide), if_pos m4.1, shl_small64 _ _ (by omega) (by omega) m4.1 m4.2]; rfl
theorem Wait_no (k : Nat) (hk : 2 ≤ k) {has : Bool} {s v t sh most : Int} (h : ¬ (RMay has s v t sh ∧ 1 ≤ most ∧ most ≤ 1099511627776)) : rtt_Wait.f k has s v t sh most = some 0 := by
  obtain ⟨k, rfl⟩ : ∃ j, k = j + 1 := ⟨k - 1, by omega⟩
  unfold rtt_Wait.f
  rw [May_f _ (by omega), rin_f]
  simp only [Option.bind_some, decide_eq_true_eq]
  by_cases h1 : RMay has s v t sh
  · rw [if_pos h1]
    have h2 : ¬ (1 ≤ most ∧ most ≤ 1099511627776) := fun h2 => h ⟨h1, h2⟩
    simp only [h2, decide_false, Bool.not_false, rtt_Wait.j0, if_true]
  · rw [if_neg h1]; simp only [rtt_Wait.j0, if_true]

/-! ### the document's answers -/
theorem rMayR_f (has : Bool) (s v t sh : Int) : fourinhandref08_May.f has s v t sh = some (decide (RMay has s v t sh)) := by
  unfold fourinhandref08_May.f
  by_cases h1 : s < 0
  · rw [if_pos h1, decide_eq_false (fun h => by have := h.1; omega)]
  rw [if_neg h1]
  by_cases h2 : s > 1152921504606846976
  · rw [if_pos h2, decide_eq_false (fun h => by have := h.1; omega)]
  rw [if_neg h2]
  by_cases h3 : v < 0
  · rw [if_pos h3, decide_eq_false (fun h => by have := h.2.1; omega)]
  rw [if_neg h3]
  by_cases h4 : v > 1152921504606846976
  · rw [if_pos h4, decide_eq_false (fun h => by have := h.2.1; omega)]
  rw [if_neg h4]
  by_cases h5 : t < 0
  · rw [if_pos h5, decide_eq_false (fun h => by have := h.2.2.1; omega)]
  rw [if_neg h5]
  by_cases h6 : t > 1152921504606846976
  · rw [if_pos h6, decide_eq_false (fun h => by have := h.2.2.1; omega)]
  rw [if_neg h6]
  by_cases h7 : ¬ sh ≥ 0
  · rw [if_neg h7, decide_eq_false (fun h => by have := h.2.2.2.1; omega)]
  have h7 := Decidable.of_not_not h7
  rw [if_pos h7]
  by_cases h8 : ¬ sh ≤ 16
  · rw [if_neg h8, decide_eq_false (fun h => by have := h.2.2.2.1; omega)]
  have h8 := Decidable.of_not_not h8
  rw [if_pos h8]
  have mk : (has = true ∨ (s = 0 ∧ v = 0)) → decide (RMay has s v t sh) = true := fun h => decide_eq_true ⟨⟨by omega, by omega⟩, ⟨by omega, by omega⟩, ⟨by omega, by omega⟩, ⟨by omega, by omega⟩, h⟩
  cases has with
  | true => rw [if_pos rfl, mk (.inl rfl)]
  | false =>
    rw [if_neg (by decide)]
    by_cases h9 : s = 0
    · rw [if_pos h9]
      by_cases h10 : v = 0
      · rw [mk (.inr ⟨h9, h10⟩)]; simp [h10]
      · rw [decide_eq_false (fun h => by rcases h.2.2.2.2 with h | h; exact absurd h (by decide); exact h10 h.2)]; simp [h10]
    · rw [if_neg h9, decide_eq_false (fun h => by rcases h.2.2.2.2 with h | h; exact absurd h (by decide); exact h9 h.1)]
theorem two_pow_succ (n : Nat) : (2 : Int) ^ (n + 1) = 2 * 2 ^ n := by rw [Int.pow_succ]; omega
theorem rwait_loop (most : Int) (h1 : 1 ≤ most) (h2 : most ≤ 1099511627776) (has : Bool) (s v t sh : Int) (h3 : 0 ≤ sh) (h4 : sh ≤ 16) : ∀ (j k n : Nat) (x : Int), (n : Int) + j = sh → j < k → 0 ≤ x → x ≤ 1152921504606846976 →
    fourinhandref08_Wait.l0 k most x (n : Int) has s v t sh = some (mn (x * 2 ^ j) most) := by
  intro j
  induction j with
  | zero =>
    intro k n x hn hk h0 hx
    obtain ⟨k, rfl⟩ : ∃ m, k = m + 1 := ⟨k - 1, by omega⟩
    rw [fourinhandref08_Wait.l0, if_neg (by omega), Int.pow_zero, Int.mul_one]
    unfold mn
    (repeat' split) <;> first | rfl | omega | (congr 1; omega)
  | succ j ih =>
    intro k n x hn hk h0 hx
    obtain ⟨k, rfl⟩ : ∃ m, k = m + 1 := ⟨k - 1, by omega⟩
    have e1 : (n : Int) + 1 = ((n + 1 : Nat) : Int) := by omega
    rw [fourinhandref08_Wait.l0, if_pos (by omega), two_pow_succ]
    by_cases h : x < most
    · rw [if_pos h, wrap64_id (2 * x) (by omega) (by omega), wrap64_id ((n : Int) + 1) (by omega) (by omega), e1, ih k (n + 1) (2 * x) (by omega) (by omega) (by omega) (by omega)]
      have : 2 * x * 2 ^ j = x * (2 * 2 ^ j) := by grind
      rw [this]
    · have h5 := two_pow_pos' j
      have h6 : x * 1 ≤ x * (2 * 2 ^ j) := Int.mul_le_mul_of_nonneg_left (by omega) h0
      rw [if_neg h]
      generalize x * (2 * 2 ^ j) = y at *
      unfold mn
      (repeat' split) <;> first | rfl | omega | (congr 1; omega)
theorem rWait_yes (k : Nat) (hk : 30 ≤ k) {has : Bool} {s v t sh most : Int} (h : RMay has s v t sh) (h1 : 1 ≤ most) (h2 : most ≤ 1099511627776) : fourinhandref08_Wait.f k has s v t sh most = some (waited has t sh most) := by
  obtain ⟨k, rfl⟩ : ∃ m, k = m + 2 := ⟨k - 2, by omega⟩
  unfold fourinhandref08_Wait.f waited
  have h3 : ¬ most > 1099511627776 := by omega
  rw [rMayR_f, decide_eq_true h, Option.bind_some, if_pos rfl, if_neg (by omega), decide_eq_false h3, fourinhandref08_Wait.j0, if_neg (by decide)]
  obtain ⟨_, _, m3, m4, _⟩ := h
  have key : ∀ x, 0 ≤ x → x ≤ 1152921504606846976 → fourinhandref08_Wait.j1 (k + 1) most x has s v t sh = some (mn (mn x most * 2 ^ sh.toNat) most) := by
    intro x hx0 hx
    rw [fourinhandref08_Wait.j1]
    have h5 := rwait_loop most h1 h2 has s v t sh m4.1 m4.2 sh.toNat k 0 x (by omega) (by omega) hx0 hx
    rw [show ((0 : Nat) : Int) = 0 from rfl] at h5
    rw [h5]
    have h6 := two_pow_pos' sh.toNat
    congr 1
    by_cases h7 : x ≤ most
    · have : mn x most = x := by unfold mn; split <;> omega
      rw [this]
    · have e : mn x most = most := by unfold mn; split <;> omega
      have g1 : x * 1 ≤ x * 2 ^ sh.toNat := Int.mul_le_mul_of_nonneg_left h6 hx0
      have g2 : most * 1 ≤ most * 2 ^ sh.toNat := Int.mul_le_mul_of_nonneg_left h6 (by omega)
      rw [e]
      generalize x * 2 ^ sh.toNat = y at *
      generalize most * 2 ^ sh.toNat = z at *
      unfold mn
      (repeat' split) <;> omega
  cases has with
  | true => rw [if_pos rfl, key t m3.1 m3.2]; rfl
  | false => rw [if_neg (by decide), key 1000000 (by omega) (by omega)]; rfl

theorem awake_f (k : Nat) (hk : 101 ≤ k) : fourinhandlaw08_awake.f k = some true := by
  unfold fourinhandlaw08_awake.f
  rw [Sample_yes k hk (by decide)]
  have e : newRtt false 0 0 80000 1 1000000 = (true, 80000, 40000, 240000, 0, 0) := by decide
  rw [e]
  simp only [Option.bind_some, if_true]
  rw [if_pos (by decide), Wait_yes k (by omega) (by decide) (by omega) (by omega), May_f k (by omega)]
  rfl

theorem rClamp_f (k : Nat) (hk : 1 ≤ k) (a b c : Int) : fourinhandref01_Clamp.f k a b c = some (mx b (mn a c)) := by
  obtain ⟨k, rfl⟩ : ∃ j, k = j + 1 := ⟨k - 1, by omega⟩
  unfold fourinhandref01_Clamp.f mx mn
  by_cases h1 : a < b <;> by_cases h2 : c < b <;> by_cases h3 : c < a <;> simp [fourinhandref01_Clamp.j0, h1, h2, h3] <;> (repeat' split) <;> omega
theorem rSample_f (k : Nat) (hk : 210 ≤ k) (has : Bool) (s v t sh took least most : Int) : fourinhandref08_Sample.f k has s v t sh took least most = rtt_Sample.f k has s v t sh took least most := by
  obtain ⟨k, rfl⟩ : ∃ j, k = j + 2 := ⟨k - 2, by omega⟩
  unfold fourinhandref08_Sample.f
  rw [rMayR_f, Option.bind_some]
  have bad : fourinhandref08_Sample.j0 (k + 2) took least most true has s v t sh = some (false, 0, 0, 0, 0, 1) := by rw [fourinhandref08_Sample.j0, if_pos rfl]
  by_cases h : SampleFine has s v t sh took least most
  · rw [Sample_yes (k + 2) (by omega) h]
    obtain ⟨hm, ht, hl, hmo⟩ := h
    have g : ¬ most > 1099511627776 := by omega
    rw [decide_eq_true hm, if_pos rfl, if_neg (by omega), if_neg (by omega), if_neg (by omega), if_neg (by omega), decide_eq_false g, fourinhandref08_Sample.j0, if_neg (by decide)]
    obtain ⟨m1, m2, m3, m4, m5⟩ := hm
    unfold newRtt newSrtt newVar newRto
    cases has with
    | true =>
      simp only [if_true]
      have key : ∀ off, off = mx (s - took) (took - s) → fourinhandref08_Sample.j1 (k + 1) took least most off true s v t sh true 0 0 0 0 = some (true, seven8 s took, (3 * v + mx (s - took) (took - s)) / 4, mx least (mn (seven8 s took + mx 1000 (4 * ((3 * v + mx (s - took) (took - s)) / 4))) most), 0, 0) := by
        intro off ho
        have hoff : 0 ≤ off ∧ off ≤ 1152921504606846976 := by rw [ho]; unfold mx; split <;> omega
        rw [← ho, fourinhandref08_Sample.j1, wrap64_id (3 * v) (by omega) (by omega), wrap64_id (3 * v + off) (by omega) (by omega), rDiv_f k (by omega), rMulDiv_f k (by omega)]
        rw [MD_yes (a := 3 * v + off) ⟨⟨by omega, by omega⟩, InR_one, by decide, by omega, ⟨by omega, by omega⟩⟩, MD_yes (a := s) ⟨⟨by omega, by omega⟩, by decide, by decide, by omega, ⟨by omega, by omega⟩⟩]
        simp only [Option.bind_some, Int.mul_one]
        have hv : 0 ≤ (3 * v + off) / 4 ∧ (3 * v + off) / 4 ≤ 1152921504606846976 := by omega
        generalize (3 * v + off) / 4 = y at *
        have e : s * 7 / 8 + (7 * (s % 8) % 8 + took) / 8 = seven8 s took := by unfold seven8; omega
        have hs : 0 ≤ seven8 s took ∧ seven8 s took ≤ 1152921504606846976 := by unfold seven8; omega
        rw [Int.tmod_eq_emod_of_nonneg m1.1, wrap64_id (7 * (s % 8)) (by omega) (by omega), Int.tmod_eq_emod_of_nonneg (by omega), wrap64_id (7 * (s % 8) % 8 + took) (by omega) (by omega), Int.tdiv_eq_ediv_of_nonneg (by omega), wrap64_id ((7 * (s % 8) % 8 + took) / 8) (by omega) (by omega), wrap64_id (s * 7 / 8 + (7 * (s % 8) % 8 + took) / 8) (by omega) (by omega), e]
        generalize seven8 s took = x at *
        rw [wrap64_id (4 * y) (by omega) (by omega), wrap64_id (x + 1000) (by omega) (by omega), wrap64_id (x + 4 * y) (by omega) (by omega), rClamp_f k (by omega), rClamp_f k (by omega)]
        by_cases h1 : 4 * y < 1000
        · have e2 : mx 1000 (4 * y) = 1000 := by unfold mx; split <;> omega
          rw [if_pos h1, e2]; rfl
        · have e2 : mx 1000 (4 * y) = 4 * y := by unfold mx; split <;> omega
          rw [if_neg h1, e2]; rfl
      rw [wrap64_id (s - took) (by omega) (by omega), wrap64_id (-(s - took)) (by omega) (by omega)]
      by_cases h1 : s - took < 0
      · rw [if_pos h1]; exact key _ (by unfold mx; split <;> omega)
      · rw [if_neg h1]; exact key _ (by unfold mx; split <;> omega)
    | false =>
      simp only [Bool.false_eq_true, if_false]
      rw [rDiv_f (k + 1) (by omega), MD_yes ⟨⟨by omega, by omega⟩, InR_one, by decide, by omega, ⟨by omega, by omega⟩⟩]
      simp only [Option.bind_some, Int.mul_one]
      rw [wrap64_id (4 * (took / 2)) (by omega) (by omega), wrap64_id (took + 1000) (by omega) (by omega), wrap64_id (took + 4 * (took / 2)) (by omega) (by omega), rClamp_f (k + 1) (by omega), rClamp_f (k + 1) (by omega)]
      by_cases h1 : 4 * (took / 2) < 1000
      · have e2 : mx 1000 (4 * (took / 2)) = 1000 := by unfold mx; split <;> omega
        rw [if_pos h1, e2]; rfl
      · have e2 : mx 1000 (4 * (took / 2)) = 4 * (took / 2) := by unfold mx; split <;> omega
        rw [if_neg h1, e2]; rfl
  · rw [Sample_no (k + 2) (by omega) h]
    by_cases h1 : RMay has s v t sh
    · rw [decide_eq_true h1, if_pos rfl]
      by_cases g1 : took < 0
      · rw [if_pos g1]; exact bad
      rw [if_neg g1]
      by_cases g2 : took > 1099511627776
      · rw [if_pos g2]; exact bad
      rw [if_neg g2]
      by_cases g3 : least < 1
      · rw [if_pos g3]; exact bad
      rw [if_neg g3]
      by_cases g4 : least > most
      · rw [if_pos g4]; exact bad
      rw [if_neg g4]
      have g5 : most > 1099511627776 := by
        by_cases g5 : most > 1099511627776
        · exact g5
        · exact absurd ⟨h1, ⟨by omega, by omega⟩, ⟨by omega, by omega⟩, by omega⟩ h
      rw [decide_eq_true g5]; exact bad
    · rw [decide_eq_false h1, if_neg (by decide)]; exact bad
theorem rDouble_f (k : Nat) (hk : 2 ≤ k) (has : Bool) (s v t sh : Int) : ∃ x, rtt_Double.f k has s v t sh = some x ∧ fourinhandref08_Double.f k has s v t sh = some x := by
  obtain ⟨k, rfl⟩ : ∃ m, k = m + 1 := ⟨k - 1, by omega⟩
  unfold rtt_Double.f fourinhandref08_Double.f
  rw [May_f (k + 1) (by omega), rMayR_f]
  simp only [Option.bind_some, decide_eq_true_eq, fourinhandref08_Double.j0]
  by_cases h : RMay has s v t sh
  · rw [if_pos h, if_pos h]
    obtain ⟨_, _, _, m4, _⟩ := h
    rw [wrap64_id (sh + 1) (by omega) (by omega)]
    refine ⟨_, rfl, ?_⟩
    by_cases h1 : sh < 16
    · have e : mn (sh + 1) 16 = sh + 1 := by unfold mn; split <;> omega
      rw [if_pos h1, e]
    · have e : mn (sh + 1) 16 = sh := by unfold mn; split <;> omega
      rw [if_neg h1, e]
  · rw [if_neg h, if_neg h]; exact ⟨_, rfl, rfl⟩
theorem rWait_no (k : Nat) (hk : 30 ≤ k) {has : Bool} {s v t sh most : Int} (h : ¬ (RMay has s v t sh ∧ 1 ≤ most ∧ most ≤ 1099511627776)) : fourinhandref08_Wait.f k has s v t sh most = some 0 := by
  obtain ⟨k, rfl⟩ : ∃ m, k = m + 1 := ⟨k - 1, by omega⟩
  unfold fourinhandref08_Wait.f
  have bad : fourinhandref08_Wait.j0 (k + 1) most true has s v t sh = some 0 := by rw [fourinhandref08_Wait.j0, if_pos rfl]
  rw [rMayR_f, Option.bind_some]
  by_cases h1 : RMay has s v t sh
  · rw [decide_eq_true h1, if_pos rfl]
    by_cases h2 : most < 1
    · rw [if_pos h2]; exact bad
    · have h3 : most > 1099511627776 := by
        by_cases h3 : most > 1099511627776
        · exact h3
        · exact absurd ⟨h1, by omega, by omega⟩ h
      rw [if_neg h2, decide_eq_true h3]; exact bad
  · rw [decide_eq_false h1, if_neg (by decide)]; exact bad
theorem RttTells : fourinhandlaw08_RttTells.Pure := by
  intro has s v t sh took least most _ _ _ _
  refine ⟨301, ?_⟩
  unfold fourinhandlaw08_RttTells.f
  rw [awake_f 301 (by omega), rSample_f 301 (by omega)]
  obtain ⟨y, hy1, hy2⟩ := rDouble_f 301 (by omega) has s v t sh
  have hS : ∃ x, rtt_Sample.f 301 has s v t sh took least most = some x := by
    by_cases h : SampleFine has s v t sh took least most
    · exact ⟨_, Sample_yes 301 (by omega) h⟩
    · exact ⟨_, Sample_no 301 (by omega) h⟩
  have hW : ∃ x, rtt_Wait.f 301 has s v t sh most = some x ∧ fourinhandref08_Wait.f 301 has s v t sh most = some x := by
    by_cases h : RMay has s v t sh ∧ 1 ≤ most ∧ most ≤ 1099511627776
    · exact ⟨_, Wait_yes 301 (by omega) h.1 h.2.1 h.2.2, rWait_yes 301 (by omega) h.1 h.2.1 h.2.2⟩
    · exact ⟨_, Wait_no 301 (by omega) h, rWait_no 301 (by omega) h⟩
  obtain ⟨x, hx⟩ := hS
  obtain ⟨z, hz1, hz2⟩ := hW
  rw [hx, hy1, hy2, hz1, hz2, May_f 301 (by omega), rMayR_f]
  simp only [Option.bind_some, if_true, beq_self_eq_true, Bool.and_self]

end Go.Proofs.Ytbkfegmhbiakhaa.Pure
