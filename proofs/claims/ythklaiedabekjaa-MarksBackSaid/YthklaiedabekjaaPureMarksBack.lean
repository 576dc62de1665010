/- Marks of packets that are told are known when they are heard: for every input, without a condition. -/
import Derived.Test.YthklaiedabekjaaPMarksBackx4
import Derived.Test.YthklaiedabekjaaStmtMarksBack
import Derived.Laws.BitsLemmas
import Derived.Laws.Bits64
namespace Go.Proofs.Ythklaiedabekjaa.Pure
open Go.RowKit Go.Proofs.Ythklaiedabekjaa.PMarksBack Go.Proofs.YthklaiedabekjaaW.PrintWords Go.Proofs.YthklaiedabekjaaW.PrintLast Go.Proofs.YthklaiedabekjaaW.PrintMore
/-! ### bits and words of 64 bits -/
theorem wraps_u64 (n : Int) (h0 : 0 ≤ n) (h1 : n < 2 ^ 64) : IntKind.u64.wrap n = n := by rw [IntKind.wrap_u64]; omega
theorem and_low32 (x : Int) (h0 : 0 ≤ x) (h1 : x < 18446744073709551616) : Go.bits .and .u64 x 4294967295 = x % 4294967296 :=
  bits_mask .u64 64 (by decide) wraps_u64 32 (by decide) x h0 h1
theorem and_one (x : Int) (h0 : 0 ≤ x) (h1 : x < 18446744073709551616) : Go.bits .and .u64 x 1 = x % 2 :=
  bits_mask .u64 64 (by decide) wraps_u64 1 (by decide) x h0 h1
theorem or_low32 (x y : Int) (h0 : 0 ≤ x) (h1 : x < 18446744073709551616) (h2 : x % 4294967296 = 0) (h3 : 0 ≤ y) (h4 : y < 4294967296) : Go.bits .or .u64 x y = x + y :=
  bits_join .u64 64 (by decide) wraps_u64 32 x y h0 h2 h1 h3 h4 (by omega)
theorem or_one (x y : Int) (h0 : 0 ≤ x) (h1 : x < 18446744073709551616) (h2 : x % 2 = 0) (h3 : 0 ≤ y) (h4 : y < 2) : Go.bits .or .u64 x y = x + y :=
  bits_join .u64 64 (by decide) wraps_u64 1 x y h0 h2 h1 h3 h4 (by omega)
theorem wrap64_id (n : Int) (h0 : -9223372036854775808 ≤ n) (h1 : n < 9223372036854775808) : wrap64 n = n := by unfold wrap64; omega

/-! ### the number's range -/
def InR (a : Int) : Prop := -4611686018427387904 ≤ a ∧ a ≤ 4611686018427387904
instance (a : Int) : Decidable (InR a) := inferInstanceAs (Decidable (_ ∧ _))
theorem In_f (a : Int) : fix_In.f a = some (decide (InR a)) := by
  unfold fix_In.f
  by_cases h : a ≥ (-4611686018427387904)
  · rw [if_pos h]; exact congrArg some (decide_eq_decide.mpr ⟨fun h' => ⟨h, h'⟩, fun h' => h'.2⟩)
  · rw [if_neg h]; exact congrArg some (decide_eq_false (fun h' => h h'.1)).symm
theorem size_f (a : Int) (h : InR a) : fix_size.f a = some (if a < 0 then -a else a, decide (a < 0)) := by
  unfold fix_size.f
  unfold InR at h
  by_cases h0 : a < 0
  · rw [if_pos h0, if_pos h0, wrap64_id _ (by omega) (by omega), wraps_u64 _ (by omega) (by omega)]; simp [h0]
  · rw [if_neg h0, if_neg h0, wraps_u64 _ (by omega) (by omega)]; simp [h0]

/-! ### the product of 128 bits -/
theorem mul_le_of (a b A B : Int) (h0 : 0 ≤ a) (h1 : a ≤ A) (h2 : 0 ≤ b) (h3 : b ≤ B) : 0 ≤ a * b ∧ a * b ≤ A * B :=
  ⟨Int.mul_nonneg h0 h2, Int.mul_le_mul h1 h3 h2 (by omega)⟩
theorem product_f (x y : Int) (hx0 : 0 ≤ x) (hx : x ≤ 4611686018427387904) (hy0 : 0 ≤ y) (hy : y ≤ 4611686018427387904) :
    fix_product.f x y = some (x * y / 18446744073709551616, x * y % 18446744073709551616) := by
  unfold fix_product.f
  rw [and_low32 x hx0 (by omega), and_low32 y hy0 (by omega)]
  obtain ⟨xh, hxh⟩ : ∃ z, x / 4294967296 = z := ⟨_, rfl⟩
  obtain ⟨xl, hxl⟩ : ∃ z, x % 4294967296 = z := ⟨_, rfl⟩
  obtain ⟨yh, hyh⟩ : ∃ z, y / 4294967296 = z := ⟨_, rfl⟩
  obtain ⟨yl, hyl⟩ : ∃ z, y % 4294967296 = z := ⟨_, rfl⟩
  rw [hxh, hxl, hyh, hyl]
  have ex : x = xh * 4294967296 + xl := by omega
  have ey : y = yh * 4294967296 + yl := by omega
  have b1 : 0 ≤ xh ∧ xh ≤ 1073741824 ∧ 0 ≤ xl ∧ xl ≤ 4294967295 := by omega
  have b2 : 0 ≤ yh ∧ yh ≤ 1073741824 ∧ 0 ≤ yl ∧ yl ≤ 4294967295 := by omega
  have exy : x * y = xh * yh * 18446744073709551616 + (xh * yl + xl * yh) * 4294967296 + xl * yl := by
    rw [ex, ey]; grind
  have bA := mul_le_of xh yh 1073741824 1073741824 b1.1 b1.2.1 b2.1 b2.2.1
  have bB := mul_le_of xh yl 1073741824 4294967295 b1.1 b1.2.1 b2.2.2.1 b2.2.2.2
  have bC := mul_le_of xl yh 4294967295 1073741824 b1.2.2.1 b1.2.2.2 b2.1 b2.2.1
  have bP := mul_le_of xl yl 4294967295 4294967295 b1.2.2.1 b1.2.2.2 b2.2.2.1 b2.2.2.2
  rw [exy]
  clear exy ex ey hxh hxl hyh hyl b1 b2
  generalize xh * yh = A at *
  generalize xh * yl = B at *
  generalize xl * yh = C at *
  generalize xl * yl = P at *
  rw [wraps_u64 A (by omega) (by omega), wraps_u64 B (by omega) (by omega), wraps_u64 C (by omega) (by omega), wraps_u64 P (by omega) (by omega)]
  rw [wraps_u64 (B + P / 4294967296) (by omega) (by omega), and_low32 (B + P / 4294967296) (by omega) (by omega), and_low32 P (by omega) (by omega)]
  rw [wraps_u64 (C + (B + P / 4294967296) % 4294967296) (by omega) (by omega)]
  rw [wraps_u64 (A + (B + P / 4294967296) / 4294967296) (by omega) (by omega)]
  rw [wraps_u64 (A + (B + P / 4294967296) / 4294967296 + (C + (B + P / 4294967296) % 4294967296) / 4294967296) (by omega) (by omega)]
  rw [IntKind.wrap_u64 ((C + (B + P / 4294967296) % 4294967296) * 4294967296)]
  rw [or_low32 _ _ (by omega) (by omega) (by omega) (by omega) (by omega)]
  simp only [Option.some.injEq, Prod.mk.injEq]
  constructor <;> omega

/-! ### the long division -/
theorem mod_two_pow_succ (m n : Nat) : m % 2 ^ (n + 1) = m / 2 ^ n % 2 * 2 ^ n + m % 2 ^ n := by
  rw [Nat.mod_pow_succ, Nat.mul_comm, Nat.add_comm]
theorem by_loop (c : Int) (hc1 : 1 ≤ c) (hc : c ≤ 4611686018427387904) (hi : Int) (m : Nat) (hm : m < 2 ^ 64) : ∀ (n : Nat), n ≤ 64 → ∀ (k : Nat), n < k → ∀ (q r : Int), 0 ≤ r → r < c → 0 ≤ q → q < 2 ^ (64 - n) →
    ∃ q' r', fix_wide_by.l0 k c q r ((n : Int) - 1) hi m = some (q', r') ∧ 0 ≤ r' ∧ r' < c ∧ 0 ≤ q' ∧ q' * c + r' = (q * c + r) * 2 ^ n + (m % 2 ^ n : Nat) := by
  intro n
  induction n with
  | zero =>
    intro _ k hk q r h0 h1 h2 h3
    obtain ⟨k, rfl⟩ : ∃ j, k = j + 1 := ⟨k - 1, by omega⟩
    refine ⟨q, r, ?_, h0, h1, h2, by simp [Nat.mod_one]⟩
    simp only [fix_wide_by.l0]
    rw [if_neg (by omega)]
  | succ n ih =>
    intro hn k hk q r h0 h1 h2 h3
    obtain ⟨k, rfl⟩ : ∃ j, k = j + 1 := ⟨k - 1, by omega⟩
    have hq2 : q * 2 + 1 < 2 ^ (64 - n) := by
      have e : (64 - n) = (64 - (n + 1)) + 1 := by omega
      rw [e, Int.pow_succ]; omega
    have hpow : (2 : Int) ^ (64 - n) ≤ 18446744073709551616 := by
      have h1 : (2 : Nat) ^ (64 - n) ≤ 18446744073709551616 := Nat.pow_le_pow_right (n := 2) (j := 64) (by decide) (by omega)
      have h2 : (2 : Int) ^ (64 - n) = ((2 ^ (64 - n) : Nat) : Int) := by simp
      rw [h2]; omega
    have e1 : ((n + 1 : Nat) : Int) - 1 = (n : Int) := by omega
    rw [e1, fix_wide_by.l0]
    rw [if_pos (by omega), if_pos (by omega)]
    have e2 : shr .u64 (m : Int) (n : Int) = ((m / 2 ^ n : Nat) : Int) := by
      unfold shr
      have : min ((n : Int)).toNat IntKind.u64.bits = n := by simp [IntKind.bits]; omega
      rw [this]; simp
    have hb : m / 2 ^ n ≤ m := Nat.div_le_self _ _
    rw [e2]
    generalize hM : m / 2 ^ n = M at *
    rw [and_one _ (by omega) (by omega)]
    have e3 : (M : Int) % 2 = ((M % 2 : Nat) : Int) := by omega
    rw [e3]
    have hs := mod_two_pow_succ m n
    rw [hM] at hs
    have hbit : M % 2 < 2 := Nat.mod_lt _ (by decide)
    generalize M % 2 = b at *
    rw [wraps_u64 (r * 2) (by omega) (by omega), wraps_u64 (q * 2) (by omega) (by omega)]
    rw [or_one (r * 2) b (by omega) (by omega) (by omega) (by omega) (by omega), or_one (q * 2) 1 (by omega) (by omega) (by omega) (by omega) (by omega)]
    rw [wrap64_id ((n : Int) - 1) (by omega) (by omega)]
    by_cases hge : r * 2 + (b : Int) ≥ c
    · rw [if_pos hge, wraps_u64 (r * 2 + b - c) (by omega) (by omega)]
      obtain ⟨q', r', he, a1, a2, a3, a4⟩ := ih (by omega) k (by omega) (q * 2 + 1) (r * 2 + b - c) (by omega) (by omega) (by omega) hq2
      refine ⟨q', r', he, a1, a2, a3, ?_⟩
      rw [a4, hs]
      simp only [Int.natCast_add, Int.natCast_mul, Int.pow_succ, Int.natCast_pow]
      grind
    · rw [if_neg hge]
      obtain ⟨q', r', he, a1, a2, a3, a4⟩ := ih (by omega) k (by omega) (q * 2) (r * 2 + b) (by omega) (by omega) (by omega) (by omega)
      refine ⟨q', r', he, a1, a2, a3, ?_⟩
      rw [a4, hs]
      simp only [Int.natCast_add, Int.natCast_mul, Int.pow_succ, Int.natCast_pow]
      grind
theorem by_f (k : Nat) (hk : 64 < k) (p c : Int) (hc1 : 1 ≤ c) (hc : c ≤ 4611686018427387904) (hp0 : 0 ≤ p) (hp : p / 18446744073709551616 < c) :
    fix_wide_by.f k (p / 18446744073709551616) (p % 18446744073709551616) c = some (p / c, p % c) := by
  obtain ⟨m, hm⟩ : ∃ m : Nat, p % 18446744073709551616 = m := ⟨(p % 18446744073709551616).toNat, by omega⟩
  have hm2 : m < 2 ^ 64 := by omega
  obtain ⟨q, r, he, a1, a2, a3, a4⟩ := by_loop c hc1 hc (p / 18446744073709551616) m hm2 64 (by omega) k hk 0 (p / 18446744073709551616) (by omega) hp (by omega) (by decide)
  unfold fix_wide_by.f
  rw [hm]
  refine he.trans ?_
  rw [Nat.mod_eq_of_lt hm2] at a4
  have e : q * c + r = p := by
    have : (2 : Int) ^ 64 = 18446744073709551616 := by decide
    rw [this] at a4
    omega
  have e2 : p / c = q := by
    rw [← e, Int.add_comm, Int.add_mul_ediv_right _ _ (by omega), Int.ediv_eq_zero_of_lt a1 a2]; omega
  have e3 : p % c = r := by
    rw [← e, Int.add_comm, Int.add_mul_emod_self_right, Int.emod_eq_of_lt a1 a2]
  rw [e2, e3]

/-! ### MulDiv -/
def MD (a b c : Int) : Int × Bool := if InR a ∧ InR b ∧ InR c ∧ 1 ≤ c ∧ InR (a * b / c) then (a * b / c, true) else (0, false)
theorem ediv_neg_floor (p c : Int) (hc : 1 ≤ c) : (-p) / c = if p % c > 0 then -(p / c + 1) else -(p / c) := by
  have h1 := Int.emod_add_mul_ediv p c
  have h2 := Int.emod_nonneg p (show c ≠ 0 by omega)
  have h3 := Int.emod_lt_of_pos p (show 0 < c by omega)
  split
  · rename_i h
    have : -p = (c - p % c) + c * (-(p / c + 1)) := by grind
    rw [this, Int.add_mul_ediv_left _ _ (by omega), Int.ediv_eq_zero_of_lt (by omega) (by omega)]; omega
  · rename_i h
    have : -p = 0 + c * (-(p / c)) := by grind
    rw [this, Int.add_mul_ediv_left _ _ (by omega)]; simp
theorem MulDiv_f (k : Nat) (hk : 100 ≤ k) (a b c : Int) : fix_MulDiv.f k a b c = some (MD a b c) := by
  obtain ⟨k, rfl⟩ : ∃ j, k = j + 4 := ⟨k - 4, by omega⟩
  unfold fix_MulDiv.f MD
  rw [In_f, In_f, In_f]
  simp only [Option.bind_some, decide_eq_true_eq]
  by_cases ha : ¬ InR a
  · rw [if_neg ha, if_neg (fun h => ha h.1)]; simp [fix_MulDiv.j0]
  by_cases hb : ¬ InR b
  · rw [if_pos (Decidable.not_not.mp ha), if_neg hb, if_neg (fun h => hb h.2.1)]; simp [fix_MulDiv.j0]
  by_cases hc : ¬ InR c
  · rw [if_pos (Decidable.not_not.mp ha), if_pos (Decidable.not_not.mp hb), if_neg hc, if_neg (fun h => hc h.2.2.1)]; simp [fix_MulDiv.j0]
  replace ha := Decidable.not_not.mp ha
  replace hb := Decidable.not_not.mp hb
  replace hc := Decidable.not_not.mp hc
  rw [if_pos ha, if_pos hb, if_pos hc]
  by_cases hc1 : c < 1
  · rw [if_neg (fun h => by omega)]; simp [fix_MulDiv.j0, hc1]
  simp only [fix_MulDiv.j0, hc1, decide_false, Bool.false_eq_true, if_false]
  rw [size_f a ha, size_f b hb]
  simp only [Option.bind_some]
  obtain ⟨x, hx⟩ : ∃ x, (if a < 0 then -a else a) = x := ⟨_, rfl⟩
  obtain ⟨y, hy⟩ : ∃ y, (if b < 0 then -b else b) = y := ⟨_, rfl⟩
  rw [hx, hy]
  unfold InR at ha hb hc
  have hx0 : 0 ≤ x ∧ x ≤ 4611686018427387904 := by split at hx <;> omega
  have hy0 : 0 ≤ y ∧ y ≤ 4611686018427387904 := by split at hy <;> omega
  rw [product_f x y hx0.1 hx0.2 hy0.1 hy0.2]
  simp only [Option.bind_some]
  rw [wraps_u64 c (by omega) (by omega)]
  have hp0 : 0 ≤ x * y := Int.mul_nonneg hx0.1 hy0.1
  -- the signed product
  have hs : a * b = if (decide (a < 0) != decide (b < 0)) = true then -(x * y) else x * y := by
    by_cases h1 : a < 0 <;> by_cases h2 : b < 0 <;> simp [h1, h2] at hx hy ⊢ <;> subst hx <;> subst hy <;> grind
  have hce : c * (x * y / c) ≤ x * y := by
    have := Int.emod_add_mul_ediv (x * y) c
    have := Int.emod_nonneg (x * y) (show c ≠ 0 by omega)
    omega
  have hq0 : 0 ≤ x * y / c := Int.ediv_nonneg hp0 (by omega)
  by_cases hbig : x * y / 18446744073709551616 ≥ c
  · rw [if_pos hbig]
    -- the quotient has more than 64 bits
    have hq : 18446744073709551616 ≤ x * y / c := by
      rw [Int.le_ediv_iff_mul_le (by omega)]
      omega
    rw [if_neg]
    rintro ⟨_, _, _, _, h⟩
    unfold InR at h
    rw [hs] at h
    split at h
    · rw [ediv_neg_floor _ _ (by omega)] at h
      split at h <;> omega
    · omega
  · rw [if_neg hbig, by_f _ (by omega) (x * y) c (by omega) (by omega) hp0 (by omega)]
    simp only [Option.bind_some]
    have hq1 : x * y / c < 18446744073709551616 := by
      rw [Int.ediv_lt_iff_lt_mul (by omega)]
      omega
    have hInR : ∀ z : Int, InR z ↔ (-4611686018427387904 ≤ z ∧ z ≤ 4611686018427387904) := fun _ => Iff.rfl
    by_cases hd : (decide (a < 0) != decide (b < 0)) = true
    · rw [if_pos hd] at hs ⊢
      rw [hs, ediv_neg_floor _ _ (by omega)]
      by_cases hr : x * y % c > 0
      · rw [if_pos hr, if_pos hr]
        simp only [fix_MulDiv.j1, fix_MulDiv.j2, hd, if_true]
        by_cases hle : x * y / c ≤ 4611686018427387904
        · rw [if_pos (by simpa using hle), wraps_u64 _ (by omega) (by omega)]
          by_cases hgt : x * y / c + 1 > 4611686018427387904
          · rw [if_pos hgt, if_neg (by simp only [hInR]; omega)]
          · rw [if_neg hgt, if_pos (by simp only [hInR]; omega), wrap64_id (x * y / c + 1) (by omega) (by omega), wrap64_id _ (by omega) (by omega)]
        · rw [if_neg (by simpa using hle), if_pos (by omega), if_neg (by simp only [hInR]; omega)]
      · rw [if_neg hr, if_neg hr]
        simp only [fix_MulDiv.j1, fix_MulDiv.j2, hd, if_true, Bool.false_eq_true, if_false]
        by_cases hgt : x * y / c > 4611686018427387904
        · rw [if_pos hgt, if_neg (by simp only [hInR]; omega)]
        · rw [if_neg hgt, if_pos (by simp only [hInR]; omega), wrap64_id (x * y / c) (by omega) (by omega), wrap64_id _ (by omega) (by omega)]
    · rw [if_neg hd] at hs ⊢
      rw [hs]
      simp only [fix_MulDiv.j1, fix_MulDiv.j2, hd, Bool.false_eq_true, if_false]
      by_cases hgt : x * y / c > 4611686018427387904
      · rw [if_pos hgt, if_neg (by simp only [hInR]; omega)]
      · rw [if_neg hgt, if_pos (by simp only [hInR]; omega), wrap64_id (x * y / c) (by omega) (by omega)]

/-! ### what MulDiv tells -/
theorem MD_yes {a b c : Int} (h : InR a ∧ InR b ∧ InR c ∧ 1 ≤ c ∧ InR (a * b / c)) : MD a b c = (a * b / c, true) := if_pos h
theorem MD_no {a b c : Int} (h : ¬ (InR a ∧ InR b ∧ InR c ∧ 1 ≤ c ∧ InR (a * b / c))) : MD a b c = (0, false) := if_neg h
theorem InR_one : InR 1 := by decide
theorem div_between (p c : Int) (hc : 1 ≤ c) : (0 ≤ p → 0 ≤ p / c ∧ p / c ≤ p) ∧ (p ≤ 0 → p ≤ p / c ∧ p / c ≤ 0) := by
  refine ⟨fun h => ⟨Int.ediv_nonneg h (by omega), Int.ediv_le_self _ h⟩, fun h => ⟨?_, ?_⟩⟩
  · rw [Int.le_ediv_iff_mul_le (by omega)]
    have := Int.mul_le_mul_of_nonpos_left h hc
    rw [Int.mul_one] at this
    exact this
  · have := Int.ediv_le_ediv (c := c) (by omega) h
    rwa [Int.zero_ediv] at this
theorem InR_div {p c : Int} (hp : InR p) (hc : 1 ≤ c) : InR (p / c) := by
  have := div_between p c hc
  unfold InR at *
  rcases Int.le_total 0 p with h | h
  · have := this.1 h; omega
  · have := this.2 h; omega
theorem div_left (p c : Int) (hc : 1 ≤ c) : p / c * c ≤ p ∧ p < p / c * c + c := by
  have h1 := Int.emod_add_mul_ediv p c
  have h2 := Int.emod_nonneg p (show c ≠ 0 by omega)
  have h3 := Int.emod_lt_of_pos p (show 0 < c by omega)
  rw [Int.mul_comm] at h1
  omega

/-! ### the average -/
theorem Ewma_yes {a b s : Int} (h : InR a) (h' : InR b) (h'' : InR (b - a)) (h0 : 0 ≤ s) (h1 : s ≤ 30) : fix_Ewma.f a b s = some (a + (b - a) / 2 ^ s.toNat, true) := if_pos ⟨h, h', h'', h0, h1⟩
theorem Ewma_no {a b s : Int} (h : ¬ (InR a ∧ InR b ∧ InR (b - a) ∧ 0 ≤ s ∧ s ≤ 30)) : fix_Ewma.f a b s = some (0, false) := if_neg h

/-! ### marks -/
theorem mMay_f (p b c m q : Int) : marks_May.f p b c m q = some (decide (Hand.MMay p b c m q)) := (show marks_May.f p b c m q = PHand.marks_May.f p b c m q from rfl).trans (Hand.MMay_f p b c m q)
def newPart (c m q : Int) : Int := if 1 ≤ c then q + (1024 * m / c - q) / 16 else q
theorem part_of {c m : Int} (h0 : 0 ≤ m) (h1 : m ≤ c) (h2 : 1 ≤ c) : 0 ≤ 1024 * m / c ∧ 1024 * m / c ≤ 1024 := by
  refine ⟨Int.ediv_nonneg (by omega) (by omega), ?_⟩
  have h := Int.ediv_le_ediv (c := c) (by omega) (show 1024 * m ≤ 1024 * c by omega)
  rwa [Int.mul_ediv_cancel _ (by omega)] at h
theorem Round_yes (k : Nat) (hk : 100 ≤ k) {p b c m q : Int} (h : Hand.MMay p b c m q) : marks_Round.f k p b c m q = some (p, b, 0, 0, newPart c m q, 0) := by
  unfold marks_Round.f
  rw [mMay_f, MulDiv_f k hk]
  have h' := h
  obtain ⟨h1, h2, h3, h4, h5⟩ := h'
  simp only [Option.bind_some, h, decide_true, if_true]
  by_cases hc : 1 ≤ c
  · have hp := part_of h4.1 h4.2 hc
    rw [MD_yes ⟨by decide, ⟨by omega, by omega⟩, ⟨by omega, by omega⟩, hc, ⟨by omega, by omega⟩⟩]
    simp only [if_true]
    rw [Ewma_yes ⟨by omega, by omega⟩ ⟨by omega, by omega⟩ ⟨by omega, by omega⟩ (by omega) (by omega)]
    have e : newPart c m q = q + (1024 * m / c - q) / 16 := if_pos hc
    have e2 : (2 : Int) ^ (4 : Int).toNat = 16 := by decide
    simp only [Option.bind_some]
    rw [if_neg (by simp; omega), e, e2]
  · have e : newPart c m q = q := if_neg hc
    have e1 : c = 0 := by omega
    have e2 : m = 0 := by omega
    subst e1 e2
    rw [MD_no (fun h => by omega), e]
    simp
theorem Round_no (k : Nat) {p b c m q : Int} (h : ¬ Hand.MMay p b c m q) : marks_Round.f k p b c m q = some (0, 0, 0, 0, 0, 1) := by
  unfold marks_Round.f
  rw [mMay_f]
  simp only [Option.bind_some, h, decide_false, Bool.false_eq_true, if_false]
theorem Told_yes {p b c m q : Int} (h : Hand.MMay p b c m q) : marks_Told.f p b c m q = some (p % 8, b % 16777216) := by
  unfold marks_Told.f
  rw [mMay_f]
  have h' := h
  obtain ⟨h1, h2, _⟩ := h'
  simp only [Option.bind_some, h, decide_true, if_true]
  rw [Int.tmod_eq_emod_of_nonneg h1.1, Int.tmod_eq_emod_of_nonneg h2.1]
  have e : b % 16777216 % 4294967296 = b % 16777216 := by omega
  rw [e]
theorem Told_no {p b c m q : Int} (h : ¬ Hand.MMay p b c m q) : marks_Told.f p b c m q = some (0, 0) := by
  unfold marks_Told.f
  rw [mMay_f]
  simp only [Option.bind_some, h, decide_false, Bool.false_eq_true, if_false]
theorem Heard_no {p b c m q ace ce pk by_ : Int} (h : ¬ Hand.HeardFine p b c m q ace ce pk by_) : marks_Heard.f p b c m q ace ce pk by_ = some (0, 0, 0, 0, 0, 0, 1) := by
  unfold marks_Heard.f Hand.marks_Heard.f
  rw [if_neg h]
theorem Heard_over {p b c m q ace ce pk by_ : Int} (h : Hand.HeardFine p b c m q ace ce pk by_) (h0 : 0 ≤ ce) (h' : ¬ Hand.MMay (p + Hand.heardN p b ace ce pk) (b + (ce - b) % 16777216) (c + by_) (m + Hand.heardM b ce by_) q) : marks_Heard.f p b c m q ace ce pk by_ = some (0, 0, 0, 0, 0, 0, 5) := by
  unfold marks_Heard.f Hand.marks_Heard.f
  rw [if_pos h, if_pos h0, if_neg h']
theorem Heard_yes {p b c m q ace ce pk by_ : Int} (h : Hand.HeardFine p b c m q ace ce pk by_) (h0 : 0 ≤ ce) (h' : Hand.MMay (p + Hand.heardN p b ace ce pk) (b + (ce - b) % 16777216) (c + by_) (m + Hand.heardM b ce by_) q) :
    marks_Heard.f p b c m q ace ce pk by_ = some (p + Hand.heardN p b ace ce pk, b + (ce - b) % 16777216, c + by_, m + Hand.heardM b ce by_, q, Hand.heardN p b ace ce pk, 0) := by
  unfold marks_Heard.f Hand.marks_Heard.f
  rw [if_pos h, if_pos h0, if_pos h']

theorem awake_f (k : Nat) (hk : 100 ≤ k) : fourinhandlaw10_awake.f k = some true := by
  unfold fourinhandlaw10_awake.f
  have e1 : marks_Heard.f 6 0 0 0 0 1 0 3 10 = some (9, 0, 10, 0, 0, 3, 0) := (Heard_yes (by decide) (by decide) (by decide)).trans rfl
  rw [e1, Round_yes k hk (by decide)]
  have e2 : newPart 100 50 0 = 32 := by decide
  rw [e2]
  simp only [Option.bind_some, if_true]
  rw [mMay_f]
  rfl

theorem MarksBack : fourinhandlaw10_MarksBack.Pure := by
  intro p b c m q packets more size _ _ _ _
  refine ⟨301, ?_⟩
  unfold fourinhandlaw10_MarksBack.f
  rw [awake_f 301 (by omega), mMay_f]
  simp only [Option.bind_some, if_true, decide_eq_true_eq]
  have hy : fourinhandlaw10_MarksBack.j0 301 packets more size true true p b c m q = some true := by rw [fourinhandlaw10_MarksBack.j0, if_pos rfl]
  by_cases h0 : ¬ Hand.MMay p b c m q
  · rw [if_neg h0]; exact hy
  replace h0 := Decidable.not_not.mp h0
  rw [if_pos h0]
  by_cases h1 : p > 1000000000000
  · rw [if_pos h1]; exact hy
  rw [if_neg h1]
  by_cases h2 : b > 1000000000000
  · rw [if_pos h2]; exact hy
  rw [if_neg h2]
  by_cases h3 : c > 1000000000000
  · rw [if_pos h3]; exact hy
  rw [if_neg h3]
  by_cases h4 : packets < 0
  · rw [if_pos h4]; exact hy
  rw [if_neg h4]
  by_cases h5 : packets > 1000000
  · rw [if_pos h5]; exact hy
  rw [if_neg h5]
  by_cases h6 : more < 0
  · rw [if_pos h6]; exact hy
  rw [if_neg h6]
  by_cases h7 : more > packets
  · rw [if_pos h7]; exact hy
  rw [if_neg h7]
  by_cases h8 : size < 1
  · rw [if_pos h8]; exact hy
  rw [if_neg h8]
  by_cases h9 : size > 1000000
  · rw [if_pos h9]; exact hy
  rw [if_neg h9]
  have hA := mul_le_of more size 1000000 1000000 (by omega) (by omega) (by omega) (by omega)
  have hB := mul_le_of packets size 1000000 1000000 (by omega) (by omega) (by omega) (by omega)
  have hAB : more * size ≤ packets * size := Int.mul_le_mul_of_nonneg_right (by omega) (by omega)
  have hA0 : 0 < more → more ≤ more * size := by
    intro h
    have := Int.mul_le_mul_of_nonneg_left (show 1 ≤ size by omega) (show 0 ≤ more by omega)
    omega
  have hAz : more = 0 → more * size = 0 := by intro h; subst h; simp
  rw [wrap64_id (more * size) (by omega) (by omega), wrap64_id (packets * size) (by omega) (by omega)]
  by_cases h10 : more * size ≥ 16777216
  · rw [if_pos h10]; exact hy
  rw [if_neg h10]
  by_cases h11 : packets * size > 1000000000000
  · simp only [h11, decide_true]; exact hy
  simp only [h11, decide_false, fourinhandlaw10_MarksBack.j0, Bool.false_eq_true, if_false]
  have skip : fourinhandlaw10_MarksBack.j1 300 packets more size true p b c m q = some true := by rw [fourinhandlaw10_MarksBack.j1, if_pos rfl]
  -- heard
  have main : (packets ≥ 8 → packets - more ≤ 7) → fourinhandlaw10_MarksBack.j1 300 packets more size false p b c m q = some true := by
    intro hj
    have h0' := h0
    obtain ⟨g1, g2, g3, g4, g5⟩ := h0'
    rw [fourinhandlaw10_MarksBack.j1, if_neg (by decide), wrap64_id (more * size) (by omega) (by omega), wrap64_id (packets * size) (by omega) (by omega), wrap64_id (p + more) (by omega) (by omega), wrap64_id (b + more * size) (by omega) (by omega)]
    generalize more * size = A at *
    generalize packets * size = B at *
    have hm1 : Hand.MMay (p + more) (b + A) c m q := ⟨by omega, by omega, g3, g4, g5⟩
    rw [Told_yes hm1]
    simp only [Option.bind_some]
    have hbb : ((b + A) % 16777216 - b) % 16777216 = A := by omega
    have hn : Hand.heardN p b ((p + more) % 8) ((b + A) % 16777216) packets = more := by
      unfold Hand.heardN
      rw [hbb]
      by_cases hp : 8 ≤ packets
      · have := hj hp
        by_cases hz : 0 < A
        · rw [if_pos ⟨hp, hz⟩]; omega
        · have : more = 0 := by
            by_cases hmz : more = 0
            · exact hmz
            · have := hA0 (by omega); omega
          omega
      · rw [if_neg (fun h => hp h.1)]; omega
    have hk : Hand.heardM b ((b + A) % 16777216) B = A := by
      unfold Hand.heardM
      rw [hbb, if_pos hAB]
    have hf : Hand.HeardFine p b c m q ((p + more) % 8) ((b + A) % 16777216) packets B := ⟨h0, by omega, by omega, by omega, by omega, by omega⟩
    have hm2 : Hand.MMay (p + more) (b + A) (c + B) (m + A) q := ⟨by omega, by omega, by omega, by omega, g5⟩
    rw [Heard_yes hf (by omega) (by rw [hn, hk, hbb]; exact hm2), hn, hk, hbb]
    simp only [Option.bind_some, if_true]
    rw [wrap64_id (m + A - m) (by omega) (by omega)]
    have e : m + A - m = A := by omega
    rw [e]; simp
  by_cases h12 : packets ≥ 8
  · rw [if_pos h12, wrap64_id (packets - more) (by omega) (by omega)]
    by_cases h13 : packets - more > 7
    · simp only [h13, decide_true]; exact skip
    · simp only [h13, decide_false]; exact main (fun _ => by omega)
  · rw [if_neg h12]; exact main (fun h => absurd h h12)

end Go.Proofs.Ythklaiedabekjaa.Pure
