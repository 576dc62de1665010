/- Any marks may be, or not, are told, and heard, and have a round that ends, as the document says, or it is told why not: for every input, without a condition. -/
import Derived.Test.YthklaiedabekjaaPMarksTellx6
import Derived.Test.YthklaiedabekjaaStmtMarksTell
import Derived.Laws.BitsLemmas
import Derived.Laws.Bits64
namespace Go.Proofs.Ythklaiedabekjaa.Pure
open Go.RowKit Go.Proofs.Ythklaiedabekjaa.PMarksTell Go.Proofs.YthklaiedabekjaaW.PrintWords Go.Proofs.YthklaiedabekjaaW.PrintLast Go.Proofs.YthklaiedabekjaaW.PrintMore
/-! ### bits and words of 64 bits -/
theorem wraps_u64 (n : Int) (h0 : 0 ≤ n) (h1 : n < 2 ^ 64) : IntKind.u64.wrap n = n := by rw [IntKind.wrap_u64]; omega
theorem and_low32 (x : Int) (h0 : 0 ≤ x) (h1 : x < 18446744073709551616) : Go.bits .and .u64 x 4294967295 = x % 4294967296 :=
  bits_mask .u64 64 (by decide) wraps_u64 32 (by decide) x h0 h1
theorem and_one (x : Int) (h0 : 0 ≤ x) (h1 : x < 18446744073709551616) : Go.bits .and .u64 x 1 = x % 2 :=
  bits_mask .u64 64 (by decide) wraps_u64 1 (by decide) x h0 h1
theorem or_low32 (x y : Int) (h0 : 0 ≤ x) (h1 : x < 18446744073709551616) (h2 : x % 4294967296 = 0) (h3 : 0 ≤ y) (h4 : y < 4294967296) : Go.bits .or .u64 x y = x + y :=
  bits_join .u64 64 (by decide) wraps_u64 32 x y h0 h2 h1 h3 h4 (by omega)
theorem or_one (x y : Int) (h0 : 0 ≤ x) (h1 : x < 18446744073709551616) (h2 : x % 2 = 0) (h3 : 0 ≤ y) (h4 : y < 2) : Go.bits .or .u64 x y = x + y :=
  bits_join .u64 64 (by decide) wraps_u64 1 x y h0 h2 h1 h3 h4 (by omega)
theorem wrap64_id (n : Int) (h0 : -9223372036854775808 ≤ n) (h1 : n < 9223372036854775808) : wrap64 n = n := by unfold wrap64; omega

/-! ### the number's range -/
def InR (a : Int) : Prop := -4611686018427387904 ≤ a ∧ a ≤ 4611686018427387904
instance (a : Int) : Decidable (InR a) := inferInstanceAs (Decidable (_ ∧ _))
theorem In_f (a : Int) : fix_In.f a = some (decide (InR a)) := by
  unfold fix_In.f
  by_cases h : a ≥ (-4611686018427387904)
  · rw [if_pos h]; exact congrArg some (decide_eq_decide.mpr ⟨fun h' => ⟨h, h'⟩, fun h' => h'.2⟩)
  · rw [if_neg h]; exact congrArg some (decide_eq_false (fun h' => h h'.1)).symm
theorem size_f (a : Int) (h : InR a) : fix_size.f a = some (if a < 0 then -a else a, decide (a < 0)) := by
  unfold fix_size.f
  unfold InR at h
  by_cases h0 : a < 0
  · rw [if_pos h0, if_pos h0, wrap64_id _ (by omega) (by omega), wraps_u64 _ (by omega) (by omega)]; simp [h0]
  · rw [if_neg h0, if_neg h0, wraps_u64 _ (by omega) (by omega)]; simp [h0]

/-! ### the product of 128 bits -/
theorem mul_le_of (a b A B : Int) (h0 : 0 ≤ a) (h1 : a ≤ A) (h2 : 0 ≤ b) (h3 : b ≤ B) : 0 ≤ a * b ∧ a * b ≤ A * B :=
  ⟨Int.mul_nonneg h0 h2, Int.mul_le_mul h1 h3 h2 (by omega)⟩
theorem product_f (x y : Int) (hx0 : 0 ≤ x) (hx : x ≤ 4611686018427387904) (hy0 : 0 ≤ y) (hy : y ≤ 4611686018427387904) :
    fix_product.f x y = some (x * y / 18446744073709551616, x * y % 18446744073709551616) := by
  unfold fix_product.f
  rw [and_low32 x hx0 (by omega), and_low32 y hy0 (by omega)]
  obtain ⟨xh, hxh⟩ : ∃ z, x / 4294967296 = z := ⟨_, rfl⟩
  obtain ⟨xl, hxl⟩ : ∃ z, x % 4294967296 = z := ⟨_, rfl⟩
  obtain ⟨yh, hyh⟩ : ∃ z, y / 4294967296 = z := ⟨_, rfl⟩
  obtain ⟨yl, hyl⟩ : ∃ z, y % 4294967296 = z := ⟨_, rfl⟩
  rw [hxh, hxl, hyh, hyl]
  have ex : x = xh * 4294967296 + xl := by omega
  have ey : y = yh * 4294967296 + yl := by omega
  have b1 : 0 ≤ xh ∧ xh ≤ 1073741824 ∧ 0 ≤ xl ∧ xl ≤ 4294967295 := by omega
  have b2 : 0 ≤ yh ∧ yh ≤ 1073741824 ∧ 0 ≤ yl ∧ yl ≤ 4294967295 := by omega
  have exy : x * y = xh * yh * 18446744073709551616 + (xh * yl + xl * yh) * 4294967296 + xl * yl := by
    rw [ex, ey]; grind
  have bA := mul_le_of xh yh 1073741824 1073741824 b1.1 b1.2.1 b2.1 b2.2.1
  have bB := mul_le_of xh yl 1073741824 4294967295 b1.1 b1.2.1 b2.2.2.1 b2.2.2.2
  have bC := mul_le_of xl yh 4294967295 1073741824 b1.2.2.1 b1.2.2.2 b2.1 b2.2.1
  have bP := mul_le_of xl yl 4294967295 4294967295 b1.2.2.1 b1.2.2.2 b2.2.2.1 b2.2.2.2
  rw [exy]
  clear exy ex ey hxh hxl hyh hyl b1 b2
  generalize xh * yh = A at *
  generalize xh * yl = B at *
  generalize xl * yh = C at *
  generalize xl * yl = P at *
  rw [wraps_u64 A (by omega) (by omega), wraps_u64 B (by omega) (by omega), wraps_u64 C (by omega) (by omega), wraps_u64 P (by omega) (by omega)]
  rw [wraps_u64 (B + P / 4294967296) (by omega) (by omega), and_low32 (B + P / 4294967296) (by omega) (by omega), and_low32 P (by omega) (by omega)]
  rw [wraps_u64 (C + (B + P / 4294967296) % 4294967296) (by omega) (by omega)]
  rw [wraps_u64 (A + (B + P / 4294967296) / 4294967296) (by omega) (by omega)]
  rw [wraps_u64 (A + (B + P / 4294967296) / 4294967296 + (C + (B + P / 4294967296) % 4294967296) / 4294967296) (by omega) (by omega)]
  rw [IntKind.wrap_u64 ((C + (B + P / 4294967296) % 4294967296) * 4294967296)]
  rw [or_low32 _ _ (by omega) (by omega) (by omega) (by omega) (by omega)]
  simp only [Option.some.injEq, Prod.mk.injEq]
  constructor <;> omega

/-! ### the long division -/
theorem mod_two_pow_succ (m n : Nat) : m % 2 ^ (n + 1) = m / 2 ^ n % 2 * 2 ^ n + m % 2 ^ n := by
  rw [Nat.mod_pow_succ, Nat.mul_comm, Nat.add_comm]
theorem by_loop (c : Int) (hc1 : 1 ≤ c) (hc : c ≤ 4611686018427387904) (hi : Int) (m : Nat) (hm : m < 2 ^ 64) : ∀ (n : Nat), n ≤ 64 → ∀ (k : Nat), n < k → ∀ (q r : Int), 0 ≤ r → r < c → 0 ≤ q → q < 2 ^ (64 - n) →
    ∃ q' r', fix_wide_by.l0 k c q r ((n : Int) - 1) hi m = some (q', r') ∧ 0 ≤ r' ∧ r' < c ∧ 0 ≤ q' ∧ q' * c + r' = (q * c + r) * 2 ^ n + (m % 2 ^ n : Nat) := by
  intro n
  induction n with
  | zero =>
    intro _ k hk q r h0 h1 h2 h3
    obtain ⟨k, rfl⟩ : ∃ j, k = j + 1 := ⟨k - 1, by omega⟩
    refine ⟨q, r, ?_, h0, h1, h2, by simp [Nat.mod_one]⟩
    simp only [fix_wide_by.l0]
    rw [if_neg (by omega)]
  | succ n ih =>
    intro hn k hk q r h0 h1 h2 h3
    obtain ⟨k, rfl⟩ : ∃ j, k = j + 1 := ⟨k - 1, by omega⟩
    have hq2 : q * 2 + 1 < 2 ^ (64 - n) := by
      have e : (64 - n) = (64 - (n + 1)) + 1 := by omega
      rw [e, Int.pow_succ]; omega
    have hpow : (2 : Int) ^ (64 - n) ≤ 18446744073709551616 := by
      have h1 : (2 : Nat) ^ (64 - n) ≤ 18446744073709551616 := Nat.pow_le_pow_right (n := 2) (j := 64) (by decide) (by omega)
      have h2 : (2 : Int) ^ (64 - n) = ((2 ^ (64 - n) : Nat) : Int) := by simp
      rw [h2]; omega
    have e1 : ((n + 1 : Nat) : Int) - 1 = (n : Int) := by omega
    rw [e1, fix_wide_by.l0]
    rw [if_pos (by omega), if_pos (by omega)]
    have e2 : shr .u64 (m : Int) (n : Int) = ((m / 2 ^ n : Nat) : Int) := by
      unfold shr
      have : min ((n : Int)).toNat IntKind.u64.bits = n := by simp [IntKind.bits]; omega
      rw [this]; simp
    have hb : m / 2 ^ n ≤ m := Nat.div_le_self _ _
    rw [e2]
    generalize hM : m / 2 ^ n = M at *
    rw [and_one _ (by omega) (by omega)]
    have e3 : (M : Int) % 2 = ((M % 2 : Nat) : Int) := by omega
    rw [e3]
    have hs := mod_two_pow_succ m n
    rw [hM] at hs
    have hbit : M % 2 < 2 := Nat.mod_lt _ (by decide)
    generalize M % 2 = b at *
    rw [wraps_u64 (r * 2) (by omega) (by omega), wraps_u64 (q * 2) (by omega) (by omega)]
    rw [or_one (r * 2) b (by omega) (by omega) (by omega) (by omega) (by omega), or_one (q * 2) 1 (by omega) (by omega) (by omega) (by omega) (by omega)]
    rw [wrap64_id ((n : Int) - 1) (by omega) (by omega)]
    by_cases hge : r * 2 + (b : Int) ≥ c
    · rw [if_pos hge, wraps_u64 (r * 2 + b - c) (by omega) (by omega)]
      obtain ⟨q', r', he, a1, a2, a3, a4⟩ := ih (by omega) k (by omega) (q * 2 + 1) (r * 2 + b - c) (by omega) (by omega) (by omega) hq2
      refine ⟨q', r', he, a1, a2, a3, ?_⟩
      rw [a4, hs]
      simp only [Int.natCast_add, Int.natCast_mul, Int.pow_succ, Int.natCast_pow]
      grind
    · rw [if_neg hge]
      obtain ⟨q', r', he, a1, a2, a3, a4⟩ := ih (by omega) k (by omega) (q * 2) (r * 2 + b) (by omega) (by omega) (by omega) (by omega)
      refine ⟨q', r', he, a1, a2, a3, ?_⟩
      rw [a4, hs]
      simp only [Int.natCast_add, Int.natCast_mul, Int.pow_succ, Int.natCast_pow]
      grind
theorem by_f (k : Nat) (hk : 64 < k) (p c : Int) (hc1 : 1 ≤ c) (hc : c ≤ 4611686018427387904) (hp0 : 0 ≤ p) (hp : p / 18446744073709551616 < c) :
    fix_wide_by.f k (p / 18446744073709551616) (p % 18446744073709551616) c = some (p / c, p % c) := by
  obtain ⟨m, hm⟩ : ∃ m : Nat, p % 18446744073709551616 = m := ⟨(p % 18446744073709551616).toNat, by omega⟩
  have hm2 : m < 2 ^ 64 := by omega
  obtain ⟨q, r, he, a1, a2, a3, a4⟩ := by_loop c hc1 hc (p / 18446744073709551616) m hm2 64 (by omega) k hk 0 (p / 18446744073709551616) (by omega) hp (by omega) (by decide)
  unfold fix_wide_by.f
  rw [hm]
  refine he.trans ?_
  rw [Nat.mod_eq_of_lt hm2] at a4
  have e : q * c + r = p := by
    have : (2 : Int) ^ 64 = 18446744073709551616 := by decide
    rw [this] at a4
    omega
  have e2 : p / c = q := by
    rw [← e, Int.add_comm, Int.add_mul_ediv_right _ _ (by omega), Int.ediv_eq_zero_of_lt a1 a2]; omega
  have e3 : p % c = r := by
    rw [← e, Int.add_comm, Int.add_mul_emod_self_right, Int.emod_eq_of_lt a1 a2]
  rw [e2, e3]

/-! ### MulDiv -/
def MD (a b c : Int) : Int × Bool := if InR a ∧ InR b ∧ InR c ∧ 1 ≤ c ∧ InR (a * b / c) then (a * b / c, true) else (0, false)
theorem ediv_neg_floor (p c : Int) (hc : 1 ≤ c) : (-p) / c = if p % c > 0 then -(p / c + 1) else -(p / c) := by
  have h1 := Int.emod_add_mul_ediv p c
  have h2 := Int.emod_nonneg p (show c ≠ 0 by omega)
  have h3 := Int.emod_lt_of_pos p (show 0 < c by omega)
  split
  · rename_i h
    have : -p = (c - p % c) + c * (-(p / c + 1)) := by grind
    rw [this, Int.add_mul_ediv_left _ _ (by omega), Int.ediv_eq_zero_of_lt (by omega) (by omega)]; omega
  · rename_i h
    have : -p = 0 + c * (-(p / c)) := by grind
    rw [this, Int.add_mul_ediv_left _ _ (by omega)]; simp
theorem MulDiv_f (k : Nat) (hk : 100 ≤ k) (a b c : Int) : fix_MulDiv.f k a b c = some (MD a b c) := by
  obtain ⟨k, rfl⟩ : ∃ j, k = j + 4 := ⟨k - 4, by omega⟩
  unfold fix_MulDiv.f MD
  rw [In_f, In_f, In_f]
  simp only [Option.bind_some, decide_eq_true_eq]
  by_cases ha : ¬ InR a
  · rw [if_neg ha, if_neg (fun h => ha h.1)]; simp [fix_MulDiv.j0]
  by_cases hb : ¬ InR b
  · rw [if_pos (Decidable.not_not.mp ha), if_neg hb, if_neg (fun h => hb h.2.1)]; simp [fix_MulDiv.j0]
  by_cases hc : ¬ InR c
  · rw [if_pos (Decidable.not_not.mp ha), if_pos (Decidable.not_not.mp hb), if_neg hc, if_neg (fun h => hc h.2.2.1)]; simp [fix_MulDiv.j0]
  replace ha := Decidable.not_not.mp ha
  replace hb := Decidable.not_not.mp hb
  replace hc := Decidable.not_not.mp hc
  rw [if_pos ha, if_pos hb, if_pos hc]
  by_cases hc1 : c < 1
  · rw [if_neg (fun h => by omega)]; simp [fix_MulDiv.j0, hc1]
  simp only [fix_MulDiv.j0, hc1, decide_false, Bool.false_eq_true, if_false]
  rw [size_f a ha, size_f b hb]
  simp only [Option.bind_some]
  obtain ⟨x, hx⟩ : ∃ x, (if a < 0 then -a else a) = x := ⟨_, rfl⟩
  obtain ⟨y, hy⟩ : ∃ y, (if b < 0 then -b else b) = y := ⟨_, rfl⟩
  rw [hx, hy]
  unfold InR at ha hb hc
  have hx0 : 0 ≤ x ∧ x ≤ 4611686018427387904 := by split at hx <;> omega
  have hy0 : 0 ≤ y ∧ y ≤ 4611686018427387904 := by split at hy <;> omega
  rw [product_f x y hx0.1 hx0.2 hy0.1 hy0.2]
  simp only [Option.bind_some]
  rw [wraps_u64 c (by omega) (by omega)]
  have hp0 : 0 ≤ x * y := Int.mul_nonneg hx0.1 hy0.1
  -- the signed product
  have hs : a * b = if (decide (a < 0) != decide (b < 0)) = true then -(x * y) else x * y := by
    by_cases h1 : a < 0 <;> by_cases h2 : b < 0 <;> simp [h1, h2] at hx hy ⊢ <;> subst hx <;> subst hy <;> grind
  have hce : c * (x * y / c) ≤ x * y := by
    have := Int.emod_add_mul_ediv (x * y) c
    have := Int.emod_nonneg (x * y) (show c ≠ 0 by omega)
    omega
  have hq0 : 0 ≤ x * y / c := Int.ediv_nonneg hp0 (by omega)
  by_cases hbig : x * y / 18446744073709551616 ≥ c
  · rw [if_pos hbig]
    -- the quotient has more than 64 bits
    have hq : 18446744073709551616 ≤ x * y / c := by
      rw [Int.le_ediv_iff_mul_le (by omega)]
      omega
    rw [if_neg]
    rintro ⟨_, _, _, _, h⟩
    unfold InR at h
    rw [hs] at h
    split at h
    · rw [ediv_neg_floor _ _ (by omega)] at h
      split at h <;> omega
    · omega
  · rw [if_neg hbig, by_f _ (by omega) (x * y) c (by omega) (by omega) hp0 (by omega)]
    simp only [Option.bind_some]
    have hq1 : x * y / c < 18446744073709551616 := by
      rw [Int.ediv_lt_iff_lt_mul (by omega)]
      omega
    have hInR : ∀ z : Int, InR z ↔ (-4611686018427387904 ≤ z ∧ z ≤ 4611686018427387904) := fun _ => Iff.rfl
    by_cases hd : (decide (a < 0) != decide (b < 0)) = true
    · rw [if_pos hd] at hs ⊢
      rw [hs, ediv_neg_floor _ _ (by omega)]
      by_cases hr : x * y % c > 0
      · rw [if_pos hr, if_pos hr]
        simp only [fix_MulDiv.j1, fix_MulDiv.j2, hd, if_true]
        by_cases hle : x * y / c ≤ 4611686018427387904
        · rw [if_pos (by simpa using hle), wraps_u64 _ (by omega) (by omega)]
          by_cases hgt : x * y / c + 1 > 4611686018427387904
          · rw [if_pos hgt, if_neg (by simp only [hInR]; omega)]
          · rw [if_neg hgt, if_pos (by simp only [hInR]; omega), wrap64_id (x * y / c + 1) (by omega) (by omega), wrap64_id _ (by omega) (by omega)]
        · rw [if_neg (by simpa using hle), if_pos (by omega), if_neg (by simp only [hInR]; omega)]
      · rw [if_neg hr, if_neg hr]
        simp only [fix_MulDiv.j1, fix_MulDiv.j2, hd, if_true, Bool.false_eq_true, if_false]
        by_cases hgt : x * y / c > 4611686018427387904
        · rw [if_pos hgt, if_neg (by simp only [hInR]; omega)]
        · rw [if_neg hgt, if_pos (by simp only [hInR]; omega), wrap64_id (x * y / c) (by omega) (by omega), wrap64_id _ (by omega) (by omega)]
    · rw [if_neg hd] at hs ⊢
      rw [hs]
      simp only [fix_MulDiv.j1, fix_MulDiv.j2, hd, Bool.false_eq_true, if_false]
      by_cases hgt : x * y / c > 4611686018427387904
      · rw [if_pos hgt, if_neg (by simp only [hInR]; omega)]
      · rw [if_neg hgt, if_pos (by simp only [hInR]; omega), wrap64_id (x * y / c) (by omega) (by omega)]

/-! ### what MulDiv tells -/
theorem MD_yes {a b c : Int} (h : InR a ∧ InR b ∧ InR c ∧ 1 ≤ c ∧ InR (a * b / c)) : MD a b c = (a * b / c, true) := if_pos h
theorem MD_no {a b c : Int} (h : ¬ (InR a ∧ InR b ∧ InR c ∧ 1 ≤ c ∧ InR (a * b / c))) : MD a b c = (0, false) := if_neg h
theorem InR_one : InR 1 := by decide
theorem div_between (p c : Int) (hc : 1 ≤ c) : (0 ≤ p → 0 ≤ p / c ∧ p / c ≤ p) ∧ (p ≤ 0 → p ≤ p / c ∧ p / c ≤ 0) := by
  refine ⟨fun h => ⟨Int.ediv_nonneg h (by omega), Int.ediv_le_self _ h⟩, fun h => ⟨?_, ?_⟩⟩
  · rw [Int.le_ediv_iff_mul_le (by omega)]
    have := Int.mul_le_mul_of_nonpos_left h hc
    rw [Int.mul_one] at this
    exact this
  · have := Int.ediv_le_ediv (c := c) (by omega) h
    rwa [Int.zero_ediv] at this
theorem InR_div {p c : Int} (hp : InR p) (hc : 1 ≤ c) : InR (p / c) := by
  have := div_between p c hc
  unfold InR at *
  rcases Int.le_total 0 p with h | h
  · have := this.1 h; omega
  · have := this.2 h; omega
theorem div_left (p c : Int) (hc : 1 ≤ c) : p / c * c ≤ p ∧ p < p / c * c + c := by
  have h1 := Int.emod_add_mul_ediv p c
  have h2 := Int.emod_nonneg p (show c ≠ 0 by omega)
  have h3 := Int.emod_lt_of_pos p (show 0 < c by omega)
  rw [Int.mul_comm] at h1
  omega

/-! ### the average -/
theorem Ewma_yes {a b s : Int} (h : InR a) (h' : InR b) (h'' : InR (b - a)) (h0 : 0 ≤ s) (h1 : s ≤ 30) : fix_Ewma.f a b s = some (a + (b - a) / 2 ^ s.toNat, true) := if_pos ⟨h, h', h'', h0, h1⟩
theorem Ewma_no {a b s : Int} (h : ¬ (InR a ∧ InR b ∧ InR (b - a) ∧ 0 ≤ s ∧ s ≤ 30)) : fix_Ewma.f a b s = some (0, false) := if_neg h

/-! ### the document's product by a number -/
theorem rIn_f (a : Int) : fourinhandref01_In.f a = some (decide (InR a)) := by
  unfold fourinhandref01_In.f
  by_cases h : a ≥ (-4611686018427387904)
  · rw [if_pos h]; exact congrArg some (decide_eq_decide.mpr ⟨fun h' => ⟨h, h'⟩, fun h' => h'.2⟩)
  · rw [if_neg h]; exact congrArg some (decide_eq_false (fun h' => h h'.1)).symm
theorem rsize_f (a : Int) (h : InR a) : fourinhandref01_size.f a = some (if a < 0 then -a else a) := by
  unfold fourinhandref01_size.f
  unfold InR at h
  by_cases h0 : a < 0
  · rw [if_pos h0, if_pos h0, wrap64_id _ (by omega) (by omega)]
  · rw [if_neg h0, if_neg h0]
/-- The bit in hand, of n bits that are left. -/
def bitAt (n : Nat) : Int := if n = 0 then 0 else 2 ^ (n - 1)
theorem bitAt_half (n : Nat) : bitAt (n + 1) / 2 = bitAt n := by
  unfold bitAt
  cases n with
  | zero => simp
  | succ n => simp [Int.pow_succ]
theorem two_pow_le (n m : Nat) (h : n ≤ m) : (2 : Int) ^ n ≤ 2 ^ m := by
  have h1 : (2 : Nat) ^ n ≤ 2 ^ m := Nat.pow_le_pow_right (by decide) h
  have h2 : (2 : Int) ^ n = ((2 ^ n : Nat) : Int) := by simp
  have h3 : (2 : Int) ^ m = ((2 ^ m : Nat) : Int) := by simp
  rw [h2, h3]; omega
theorem two_pow_pos (n : Nat) : (1 : Int) ≤ 2 ^ n := by have h2 : (0 : Int) < 2 ^ n := Int.pow_pos (by omega); omega
theorem long_loop (b c : Int) (hc1 : 1 ≤ c) (hc : c ≤ 4611686018427387904) (hb0 : 0 ≤ b) (hb : b ≤ 4611686018427387904) : ∀ (n : Nat), n ≤ 63 → ∀ (k : Nat), 2 * n < k → ∀ (a q r : Int), 0 ≤ a → a < 2 ^ n → 0 ≤ r → r < c → 0 ≤ q → q ≤ 4611686018427387905 →
    ∃ q' r', fourinhandref01_long.l0 k a b c q r (bitAt n) = some (q', r') ∧ ((q' * c + r' = (q * c + r) * 2 ^ n + a * b ∧ 0 ≤ r' ∧ r' < c ∧ 0 ≤ q' ∧ q' ≤ 4611686018427387905) ∨ (q' = 4611686018427387905 ∧ r' = 0 ∧ 4611686018427387905 * c ≤ (q * c + r) * 2 ^ n + a * b)) := by
  intro n
  induction n with
  | zero =>
    intro _ k hk a q r ha0 ha hr0 hr hq0 hq
    obtain ⟨k, rfl⟩ : ∃ i, k = i + 1 := ⟨k - 1, by omega⟩
    have e : a = 0 := by simp at ha; omega
    refine ⟨q, r, ?_, .inl ⟨by rw [e]; simp, hr0, hr, hq0, hq⟩⟩
    rw [fourinhandref01_long.l0, if_neg (by unfold bitAt; simp)]
  | succ n ih =>
    intro hn k hk a q r ha0 ha hr0 hr hq0 hq
    obtain ⟨k, rfl⟩ : ∃ i, k = i + 2 := ⟨k - 2, by omega⟩
    have hv1 : bitAt (n + 1) = 2 ^ n := by unfold bitAt; simp
    have hhalf := bitAt_half n
    have hp1 := two_pow_pos n
    have hp2 := two_pow_le n 62 (by omega)
    have hp3 : (2 : Int) ^ 62 = 4611686018427387904 := by decide
    rw [Int.pow_succ] at ha
    rw [fourinhandref01_long.l0, if_pos (by omega)]
    have hqc : 0 ≤ q * c := Int.mul_nonneg hq0 (by omega)
    have hab : 0 ≤ a * b := Int.mul_nonneg ha0 hb0
    rw [Int.pow_succ]
    by_cases hbig : q > 2305843009213693952
    · rw [if_pos hbig]
      refine ⟨_, _, rfl, .inr ⟨rfl, rfl, ?_⟩⟩
      have h1 : 2305843009213693953 * c ≤ q * c := Int.mul_le_mul_of_nonneg_right (by omega) (by omega)
      have h2 : (q * c + r) * 1 ≤ (q * c + r) * 2 ^ n := Int.mul_le_mul_of_nonneg_left hp1 (by omega)
      generalize q * c = Q at *
      have e : (Q + r) * (2 ^ n * 2) = (Q + r) * 2 ^ n * 2 := by grind
      rw [e]
      omega
    · rw [if_neg hbig, wrap64_id (2 * q) (by omega) (by omega), wrap64_id (2 * r) (by omega) (by omega)]
      -- behind the doubling
      have key : ∀ (q2 r2 : Int), 0 ≤ r2 → r2 < c → 0 ≤ q2 → q2 ≤ 4611686018427387905 → q2 * c + r2 = 2 * (q * c + r) →
          ∃ q' r', fourinhandref01_long.j1 (k + 1) a b c q2 r2 (bitAt (n + 1)) = some (q', r') ∧ ((q' * c + r' = (q * c + r) * (2 ^ n * 2) + a * b ∧ 0 ≤ r' ∧ r' < c ∧ 0 ≤ q' ∧ q' ≤ 4611686018427387905) ∨ (q' = 4611686018427387905 ∧ r' = 0 ∧ 4611686018427387905 * c ≤ (q * c + r) * (2 ^ n * 2) + a * b)) := by
        intro q2 r2 hr20 hr2 hq20 hq2 he
        have etot : (q * c + r) * (2 ^ n * 2) = (q2 * c + r2) * 2 ^ n := by rw [he]; grind
        rw [etot, fourinhandref01_long.j1, Int.tdiv_eq_ediv_of_nonneg (by omega), wrap64_id (bitAt (n + 1) / 2) (by omega) (by omega), hhalf]
        by_cases hlt : a < bitAt (n + 1)
        · rw [if_pos hlt]
          exact ih (by omega) k (by omega) a q2 r2 ha0 (by omega) hr20 hr2 hq20 hq2
        · rw [if_neg hlt, if_neg (by omega), Int.tdiv_eq_ediv_of_nonneg hb0, Int.tmod_eq_emod_of_nonneg hb0]
          have hbc := div_between b c hc1
          have hbq := hbc.1 hb0
          have hbr := Int.emod_nonneg b (show c ≠ 0 by omega)
          have hbr2 := Int.emod_lt_of_pos b (show 0 < c by omega)
          have hbe := Int.emod_add_mul_ediv b c
          rw [wrap64_id (b / c) (by omega) (by omega), wrap64_id (4611686018427387904 - q2) (by omega) (by omega), wrap64_id (r2 + b % c) (by omega) (by omega), wrap64_id (a - bitAt (n + 1)) (by omega) (by omega)]
          have hsub : (a - bitAt (n + 1)) * b = a * b - 2 ^ n * b := by rw [hv1]; grind
          have hq2c : 0 ≤ q2 * c := Int.mul_nonneg hq20 (by omega)
          by_cases hover : b / c > 4611686018427387904 - q2
          · rw [if_pos hover]
            refine ⟨_, _, rfl, .inr ⟨rfl, rfl, ?_⟩⟩
            have h1 : (4611686018427387905 - q2) * c ≤ b / c * c := Int.mul_le_mul_of_nonneg_right (by omega) (by omega)
            have h2 : (q2 * c + r2) * 1 ≤ (q2 * c + r2) * 2 ^ n := Int.mul_le_mul_of_nonneg_left hp1 (by omega)
            have h3 : 1 * b ≤ a * b := Int.mul_le_mul_of_nonneg_right (by omega) hb0
            have h4 : (4611686018427387905 - q2) * c = 4611686018427387905 * c - q2 * c := by grind
            have h5 : c * (b / c) = b / c * c := Int.mul_comm _ _
            omega
          · rw [if_neg hover]
            have hge0 : 0 ≤ a - bitAt (n + 1) := by omega
            have hlt2 : a - bitAt (n + 1) < 2 ^ n := by omega
            by_cases hadj : r2 + b % c ≥ c
            · rw [if_pos hadj, wrap64_id (q2 + b / c) (by omega) (by omega), wrap64_id (q2 + b / c + 1) (by omega) (by omega), wrap64_id (r2 + b % c - c) (by omega) (by omega)]
              obtain ⟨q', r', h1, h2⟩ := ih (by omega) k (by omega) (a - bitAt (n + 1)) (q2 + b / c + 1) (r2 + b % c - c) hge0 hlt2 (by omega) (by omega) (by omega) (by omega)
              have e2 : ((q2 + b / c + 1) * c + (r2 + b % c - c)) * 2 ^ n + (a - bitAt (n + 1)) * b = (q2 * c + r2) * 2 ^ n + a * b := by
                have : (q2 + b / c + 1) * c + (r2 + b % c - c) = q2 * c + r2 + b := by grind
                rw [this, hsub]; grind
              rw [e2] at h2
              exact ⟨q', r', h1, h2⟩
            · rw [if_neg hadj, wrap64_id (q2 + b / c) (by omega) (by omega)]
              obtain ⟨q', r', h1, h2⟩ := ih (by omega) k (by omega) (a - bitAt (n + 1)) (q2 + b / c) (r2 + b % c) hge0 hlt2 (by omega) (by omega) (by omega) (by omega)
              have e2 : ((q2 + b / c) * c + (r2 + b % c)) * 2 ^ n + (a - bitAt (n + 1)) * b = (q2 * c + r2) * 2 ^ n + a * b := by
                have : (q2 + b / c) * c + (r2 + b % c) = q2 * c + r2 + b := by grind
                rw [this, hsub]; grind
              rw [e2] at h2
              exact ⟨q', r', h1, h2⟩
      by_cases hge : 2 * r ≥ c
      · rw [if_pos hge, wrap64_id (2 * q + 1) (by omega) (by omega), wrap64_id (2 * r - c) (by omega) (by omega)]
        exact key (2 * q + 1) (2 * r - c) (by omega) (by omega) (by omega) (by omega) (by grind)
      · rw [if_neg hge]
        exact key (2 * q) (2 * r) (by omega) (by omega) (by omega) (by omega) (by grind)
theorem long_f (k : Nat) (hk : 126 < k) (a b c : Int) (ha0 : 0 ≤ a) (ha : a ≤ 4611686018427387904) (hb0 : 0 ≤ b) (hb : b ≤ 4611686018427387904) (hc1 : 1 ≤ c) (hc : c ≤ 4611686018427387904) :
    ∃ q r, fourinhandref01_long.f k a b c = some (q, r) ∧ ((q = a * b / c ∧ r = a * b % c ∧ q ≤ 4611686018427387905) ∨ (q = 4611686018427387905 ∧ r = 0 ∧ 4611686018427387905 ≤ a * b / c)) := by
  have hv : bitAt 63 = 4611686018427387904 := by decide
  have h63 : a < 2 ^ 63 := by
    have h1 : (2 : Int) ^ 63 = 9223372036854775808 := by decide
    rw [h1]; omega
  obtain ⟨q, r, h1, h2⟩ := long_loop b c hc1 hc hb0 hb 63 (by omega) k (by omega) a 0 0 ha0 h63 (by omega) (by omega) (by omega) (by omega)
  rw [hv] at h1
  refine ⟨q, r, h1, ?_⟩
  rcases h2 with ⟨h2, h3, h4, h5, h6⟩ | ⟨h2, h3, h4⟩
  · left
    have e : a * b = r + q * c := by simp at h2; omega
    rw [e]
    refine ⟨?_, ?_, h6⟩
    · rw [Int.add_mul_ediv_right _ _ (by omega), Int.ediv_eq_zero_of_lt h3 h4]; omega
    · rw [Int.add_mul_emod_self_right, Int.emod_eq_of_lt h3 h4]
  · right
    refine ⟨h2, h3, ?_⟩
    rw [Int.le_ediv_iff_mul_le (by omega)]
    simpa using h4
theorem rMulDiv_f (k : Nat) (hk : 200 ≤ k) (a b c : Int) : fourinhandref01_MulDiv.f k a b c = some (MD a b c) := by
  obtain ⟨k, rfl⟩ : ∃ j, k = j + 1 := ⟨k - 1, by omega⟩
  unfold fourinhandref01_MulDiv.f MD
  rw [rIn_f, rIn_f, rIn_f]
  simp only [Option.bind_some, decide_eq_true_eq]
  by_cases ha : ¬ InR a
  · rw [if_neg ha, if_neg (fun h => ha h.1)]; simp [fourinhandref01_MulDiv.j0]
  by_cases hb : ¬ InR b
  · rw [if_pos (Decidable.not_not.mp ha), if_neg hb, if_neg (fun h => hb h.2.1)]; simp [fourinhandref01_MulDiv.j0]
  by_cases hc : ¬ InR c
  · rw [if_pos (Decidable.not_not.mp ha), if_pos (Decidable.not_not.mp hb), if_neg hc, if_neg (fun h => hc h.2.2.1)]; simp [fourinhandref01_MulDiv.j0]
  replace ha := Decidable.not_not.mp ha
  replace hb := Decidable.not_not.mp hb
  replace hc := Decidable.not_not.mp hc
  rw [if_pos ha, if_pos hb, if_pos hc]
  by_cases hc1 : c < 1
  · rw [if_neg (fun h => by omega)]; simp [fourinhandref01_MulDiv.j0, hc1]
  simp only [fourinhandref01_MulDiv.j0, hc1, decide_false, Bool.false_eq_true, if_false]
  rw [rsize_f a ha, rsize_f b hb]
  simp only [Option.bind_some]
  obtain ⟨x, hx⟩ : ∃ x, (if a < 0 then -a else a) = x := ⟨_, rfl⟩
  obtain ⟨y, hy⟩ : ∃ y, (if b < 0 then -b else b) = y := ⟨_, rfl⟩
  rw [hx, hy]
  have ha' := ha
  have hb' := hb
  have hc' := hc
  unfold InR at ha hb hc
  have hx0 : 0 ≤ x ∧ x ≤ 4611686018427387904 := by split at hx <;> omega
  have hy0 : 0 ≤ y ∧ y ≤ 4611686018427387904 := by split at hy <;> omega
  obtain ⟨q, r, hl, hqr⟩ := long_f k (by omega) x y c hx0.1 hx0.2 hy0.1 hy0.2 (by omega) (by omega)
  rw [hl]
  simp only [Option.bind_some]
  have hp0 : 0 ≤ x * y := Int.mul_nonneg hx0.1 hy0.1
  have hs : a * b = if (decide (a < 0) != decide (b < 0)) = true then -(x * y) else x * y := by
    by_cases h1 : a < 0 <;> by_cases h2 : b < 0 <;> simp [h1, h2] at hx hy ⊢ <;> subst hx <;> subst hy <;> grind
  have hq0 : 0 ≤ x * y / c := Int.ediv_nonneg hp0 (by omega)
  have hInR : ∀ z : Int, InR z ↔ (-4611686018427387904 ≤ z ∧ z ≤ 4611686018427387904) := fun _ => Iff.rfl
  have hr0 := Int.emod_nonneg (x * y) (show c ≠ 0 by omega)
  have hbound : 0 ≤ q ∧ (4611686018427387904 < x * y / c → 4611686018427387904 < q) := by
    rcases hqr with ⟨h1, h2, h7⟩ | ⟨h1, h2, h3⟩ <;> omega
  by_cases hd : (decide (a < 0) != decide (b < 0)) = true
  · rw [if_pos hd] at hs ⊢
    rw [hs, ediv_neg_floor _ _ (by omega), rIn_f, rIn_f]
    simp only [Option.bind_some, decide_eq_true_eq]
    rcases hqr with ⟨h1, h2, h7⟩ | ⟨h1, h2, h3⟩
    · subst h1 h2
      rw [wrap64_id (x * y / c + 1) (by omega) (by omega), wrap64_id (-(x * y / c + 1)) (by omega) (by omega), wrap64_id (-(x * y / c)) (by omega) (by omega)]
      by_cases hr : x * y % c > 0
      · rw [if_pos hr, if_pos hr]
        by_cases hi : InR (-(x * y / c + 1))
        · rw [if_pos hi, if_pos ⟨ha', hb', hc', by omega, hi⟩]
        · rw [if_neg hi, if_neg (fun h => hi h.2.2.2.2)]
      · rw [if_neg hr, if_neg hr]
        by_cases hi : InR (-(x * y / c))
        · rw [if_pos hi, if_pos ⟨ha', hb', hc', by omega, hi⟩]
        · rw [if_neg hi, if_neg (fun h => hi h.2.2.2.2)]
    · subst h1 h2
      rw [if_neg (by omega), wrap64_id (-4611686018427387905) (by omega) (by omega)]
      rw [if_neg (by rw [hInR]; omega), if_neg]
      rintro ⟨_, _, _, _, h⟩
      rw [hInR] at h
      split at h <;> omega
  · rw [if_neg hd] at hs ⊢
    rw [hs, rIn_f]
    simp only [Option.bind_some, decide_eq_true_eq]
    rcases hqr with ⟨h1, h2, h7⟩ | ⟨h1, h2, h3⟩
    · subst h1 h2
      by_cases hi : InR (x * y / c)
      · rw [if_pos hi, if_pos ⟨ha', hb', hc', by omega, hi⟩]
      · rw [if_neg hi, if_neg (fun h => hi h.2.2.2.2)]
    · subst h1 h2
      rw [if_neg (by rw [hInR]; omega), if_neg]
      rintro ⟨_, _, _, _, h⟩
      rw [hInR] at h
      omega

theorem rDiv_f (k : Nat) (hk : 200 ≤ k) (a b : Int) : fourinhandref01_Div.f k a b = some (MD a 1 b) := by unfold fourinhandref01_Div.f; rw [rMulDiv_f k hk]; rfl

/-! ### marks -/
theorem mMay_f (p b c m q : Int) : marks_May.f p b c m q = some (decide (Hand.MMay p b c m q)) := (show marks_May.f p b c m q = PHand.marks_May.f p b c m q from rfl).trans (Hand.MMay_f p b c m q)
def newPart (c m q : Int) : Int := if 1 ≤ c then q + (1024 * m / c - q) / 16 else q
theorem part_of {c m : Int} (h0 : 0 ≤ m) (h1 : m ≤ c) (h2 : 1 ≤ c) : 0 ≤ 1024 * m / c ∧ 1024 * m / c ≤ 1024 := by
  refine ⟨Int.ediv_nonneg (by omega) (by omega), ?_⟩
  have h := Int.ediv_le_ediv (c := c) (by omega) (show 1024 * m ≤ 1024 * c by omega)
  rwa [Int.mul_ediv_cancel _ (by omega)] at h
theorem Round_yes (k : Nat) (hk : 100 ≤ k) {p b c m q : Int} (h : Hand.MMay p b c m q) : marks_Round.f k p b c m q = some (p, b, 0, 0, newPart c m q, 0) := by
  unfold marks_Round.f
  rw [mMay_f, MulDiv_f k hk]
  have h' := h
  obtain ⟨h1, h2, h3, h4, h5⟩ := h'
  simp only [Option.bind_some, h, decide_true, if_true]
  by_cases hc : 1 ≤ c
  · have hp := part_of h4.1 h4.2 hc
    rw [MD_yes ⟨by decide, ⟨by omega, by omega⟩, ⟨by omega, by omega⟩, hc, ⟨by omega, by omega⟩⟩]
    simp only [if_true]
    rw [Ewma_yes ⟨by omega, by omega⟩ ⟨by omega, by omega⟩ ⟨by omega, by omega⟩ (by omega) (by omega)]
    have e : newPart c m q = q + (1024 * m / c - q) / 16 := if_pos hc
    have e2 : (2 : Int) ^ (4 : Int).toNat = 16 := by decide
    simp only [Option.bind_some]
    rw [if_neg (by simp; omega), e, e2]
  · have e : newPart c m q = q := if_neg hc
    have e1 : c = 0 := by omega
    have e2 : m = 0 := by omega
    subst e1 e2
    rw [MD_no (fun h => by omega), e]
    simp
theorem Round_no (k : Nat) {p b c m q : Int} (h : ¬ Hand.MMay p b c m q) : marks_Round.f k p b c m q = some (0, 0, 0, 0, 0, 1) := by
  unfold marks_Round.f
  rw [mMay_f]
  simp only [Option.bind_some, h, decide_false, Bool.false_eq_true, if_false]
theorem Told_yes {p b c m q : Int} (h : Hand.MMay p b c m q) : marks_Told.f p b c m q = some (p % 8, b % 16777216) := by
  unfold marks_Told.f
  rw [mMay_f]
  have h' := h
  obtain ⟨h1, h2, _⟩ := h'
  simp only [Option.bind_some, h, decide_true, if_true]
  rw [Int.tmod_eq_emod_of_nonneg h1.1, Int.tmod_eq_emod_of_nonneg h2.1]
  have e : b % 16777216 % 4294967296 = b % 16777216 := by omega
  rw [e]
theorem Told_no {p b c m q : Int} (h : ¬ Hand.MMay p b c m q) : marks_Told.f p b c m q = some (0, 0) := by
  unfold marks_Told.f
  rw [mMay_f]
  simp only [Option.bind_some, h, decide_false, Bool.false_eq_true, if_false]
theorem Heard_no {p b c m q ace ce pk by_ : Int} (h : ¬ Hand.HeardFine p b c m q ace ce pk by_) : marks_Heard.f p b c m q ace ce pk by_ = some (0, 0, 0, 0, 0, 0, 1) := by
  unfold marks_Heard.f Hand.marks_Heard.f
  rw [if_neg h]
theorem Heard_over {p b c m q ace ce pk by_ : Int} (h : Hand.HeardFine p b c m q ace ce pk by_) (h0 : 0 ≤ ce) (h' : ¬ Hand.MMay (p + Hand.heardN p b ace ce pk) (b + (ce - b) % 16777216) (c + by_) (m + Hand.heardM b ce by_) q) : marks_Heard.f p b c m q ace ce pk by_ = some (0, 0, 0, 0, 0, 0, 5) := by
  unfold marks_Heard.f Hand.marks_Heard.f
  rw [if_pos h, if_pos h0, if_neg h']
theorem Heard_yes {p b c m q ace ce pk by_ : Int} (h : Hand.HeardFine p b c m q ace ce pk by_) (h0 : 0 ≤ ce) (h' : Hand.MMay (p + Hand.heardN p b ace ce pk) (b + (ce - b) % 16777216) (c + by_) (m + Hand.heardM b ce by_) q) :
    marks_Heard.f p b c m q ace ce pk by_ = some (p + Hand.heardN p b ace ce pk, b + (ce - b) % 16777216, c + by_, m + Hand.heardM b ce by_, q, Hand.heardN p b ace ce pk, 0) := by
  unfold marks_Heard.f Hand.marks_Heard.f
  rw [if_pos h, if_pos h0, if_pos h']

theorem awake_f (k : Nat) (hk : 100 ≤ k) : fourinhandlaw10_awake.f k = some true := by
  unfold fourinhandlaw10_awake.f
  have e1 : marks_Heard.f 6 0 0 0 0 1 0 3 10 = some (9, 0, 10, 0, 0, 3, 0) := (Heard_yes (by decide) (by decide) (by decide)).trans rfl
  rw [e1, Round_yes k hk (by decide)]
  have e2 : newPart 100 50 0 = 32 := by decide
  rw [e2]
  simp only [Option.bind_some, if_true]
  rw [mMay_f]
  rfl

theorem wf_u32 {n : Int} (h : (Lit.int .u32 n).wf = true) : 0 ≤ n ∧ n ≤ 4294967295 := by
  simp [Lit.wf] at h
  have h1 : IntKind.u32.min = 0 := by decide
  have h2 : IntKind.u32.max = 4294967295 := by decide
  omega
theorem rin_f (a : Int) : fourinhandref10_in.f a = some (decide (0 ≤ a ∧ a ≤ 1152921504606846976)) := by
  unfold fourinhandref10_in.f
  by_cases h : a ≥ 0
  · rw [if_pos h]; exact congrArg some (decide_eq_decide.mpr ⟨fun h' => ⟨h, h'⟩, fun h' => h'.2⟩)
  · rw [if_neg h]; exact congrArg some (decide_eq_false (fun h' => h h'.1)).symm
theorem rMay_f (p b c m q : Int) : fourinhandref10_May.f p b c m q = some (decide (Hand.MMay p b c m q)) := by
  unfold fourinhandref10_May.f
  rw [rin_f, rin_f, rin_f]
  simp only [Option.bind_some, decide_eq_true_eq]
  by_cases h1 : ¬ (0 ≤ p ∧ p ≤ 1152921504606846976)
  · rw [if_neg h1, decide_eq_false (fun h => h1 h.1)]
  replace h1 := Decidable.of_not_not h1
  rw [if_pos h1]
  by_cases h2 : ¬ (0 ≤ b ∧ b ≤ 1152921504606846976)
  · rw [if_neg h2, decide_eq_false (fun h => h2 h.2.1)]
  replace h2 := Decidable.of_not_not h2
  rw [if_pos h2]
  by_cases h3 : ¬ (0 ≤ c ∧ c ≤ 1152921504606846976)
  · rw [if_neg h3, decide_eq_false (fun h => h3 h.2.2.1)]
  replace h3 := Decidable.of_not_not h3
  rw [if_pos h3]
  by_cases h4 : ¬ m ≥ 0
  · rw [if_neg h4, decide_eq_false (fun h => h4 h.2.2.2.1.1)]
  replace h4 := Decidable.of_not_not h4
  rw [if_pos h4]
  by_cases h5 : ¬ m ≤ c
  · rw [if_neg h5, decide_eq_false (fun h => h5 h.2.2.2.1.2)]
  replace h5 := Decidable.of_not_not h5
  rw [if_pos h5]
  by_cases h6 : ¬ q ≥ 0
  · rw [if_neg h6, decide_eq_false (fun h => h6 h.2.2.2.2.1)]
  replace h6 := Decidable.of_not_not h6
  rw [if_pos h6]
  exact congrArg some (decide_eq_decide.mpr ⟨fun h => ⟨h1, h2, h3, ⟨h4, h5⟩, ⟨h6, h⟩⟩, fun h => h.2.2.2.2.2⟩)
theorem rAdd_yes {a b : Int} (ha : InR a) (hb : InR b) (hs : InR (a + b)) : fourinhandref01_Add.f a b = some (a + b, true) := by
  unfold fourinhandref01_Add.f
  have hs' := hs
  unfold InR at hs'
  rw [wrap64_id (a + b) (by omega) (by omega), rIn_f, rIn_f, rIn_f, decide_eq_true ha, decide_eq_true hb, decide_eq_true hs]
  rfl
theorem shl_four : shl .i64 1 4 = 16 := by decide
theorem rEwma4 (k : Nat) (hk : 202 ≤ k) (q n : Int) (hq : 0 ≤ q ∧ q ≤ 1024) (hn : 0 ≤ n ∧ n ≤ 1024) : fourinhandref01_Ewma.f k q n 4 = some (q + (n - q) / 16, true) := by
  obtain ⟨k, rfl⟩ : ∃ j, k = j + 1 := ⟨k - 1, by omega⟩
  unfold fourinhandref01_Ewma.f
  have h1 : InR q := ⟨by omega, by omega⟩
  have h2 : InR n := ⟨by omega, by omega⟩
  have h3 : InR (n - q) := ⟨by omega, by omega⟩
  have h4 : InR ((n - q) * 1 / 16) := ⟨by omega, by omega⟩
  have h5 : InR (q + (n - q) / 16) := ⟨by omega, by omega⟩
  have h6 : ¬ (4 : Int) > 30 := by decide
  rw [wrap64_id (n - q) (by omega) (by omega), rIn_f, rIn_f, rIn_f, decide_eq_true h1, decide_eq_true h2, decide_eq_true h3]
  simp only [Option.bind_some, if_true, h6, decide_false]
  rw [if_neg (by decide), fourinhandref01_Ewma.j0, if_neg (by decide), if_pos (by decide), wrap64_id (n - q) (by omega) (by omega), shl_four, rDiv_f k (by omega), MD_yes ⟨h3, InR_one, by decide, by decide, h4⟩]
  simp only [Option.bind_some, if_true, Int.mul_one]
  rw [rAdd_yes h1 (by rw [Int.mul_one] at h4; exact h4) h5]
  rfl
theorem rRound_f (k : Nat) (hk : 202 ≤ k) (p b c m q : Int) : fourinhandref10_Round.f k p b c m q = marks_Round.f k p b c m q := by
  unfold fourinhandref10_Round.f
  rw [rMay_f]
  by_cases h : ¬ Hand.MMay p b c m q
  · rw [Round_no k h, decide_eq_false h]; rfl
  replace h := Decidable.of_not_not h
  rw [Round_yes k (by omega) h, decide_eq_true h, Option.bind_some, if_pos rfl]
  obtain ⟨h1, h2, h3, h4, h5⟩ := h
  by_cases hc : c > 0
  · have hp := part_of h4.1 h4.2 (show 1 ≤ c by omega)
    have e : newPart c m q = q + (1024 * m / c - q) / 16 := if_pos (by omega)
    rw [if_pos hc, rMulDiv_f k (by omega), MD_yes ⟨by decide, ⟨by omega, by omega⟩, ⟨by omega, by omega⟩, by omega, ⟨by omega, by omega⟩⟩]
    simp only [Option.bind_some]
    rw [rEwma4 k hk q _ h5 hp, e]; rfl
  · have e : newPart c m q = q := if_neg (by omega)
    rw [if_neg hc, e]
theorem rTold_f (p b c m q : Int) : fourinhandref10_Told.f p b c m q = marks_Told.f p b c m q := by
  unfold fourinhandref10_Told.f marks_Told.f
  rw [rMay_f, mMay_f]
/-- What is heard, by the document, behind the count. -/
def heardOf (p b c m q ce by_ n : Int) : Int × Int × Int × Int × Int × Int × Int :=
  if Hand.MMay (p + n) (b + (ce - b) % 16777216) (c + by_) (m + Hand.heardM b ce by_) q then (p + n, b + (ce - b) % 16777216, c + by_, m + Hand.heardM b ce by_, q, n, 0) else (0, 0, 0, 0, 0, 0, 5)
theorem rHeard_j4 (k : Nat) (hk : 2 ≤ k) {p b c m q ce by_ n : Int} (h : Hand.MMay p b c m q) (hb : 0 ≤ by_ ∧ by_ ≤ 1099511627776) (hn : 0 ≤ n ∧ n ≤ 1099511627776) : fourinhandref10_Heard.j4 k by_ n ((ce - b) % 16777216) p b c m q = some (heardOf p b c m q ce by_ n) := by
  obtain ⟨k, rfl⟩ : ∃ j, k = j + 2 := ⟨k - 2, by omega⟩
  obtain ⟨h1, h2, h3, h4, h5⟩ := h
  have hM : Hand.heardM b ce by_ = (if (ce - b) % 16777216 ≤ by_ then (ce - b) % 16777216 else by_) := rfl
  have hr : 0 ≤ (ce - b) % 16777216 ∧ (ce - b) % 16777216 < 16777216 := by omega
  unfold heardOf
  generalize (ce - b) % 16777216 = d at *
  rw [fourinhandref10_Heard.j4, wrap64_id (p + n) (by omega) (by omega), wrap64_id (b + d) (by omega) (by omega), wrap64_id (c + by_) (by omega) (by omega), rin_f, rin_f, rin_f]
  simp only [Option.bind_some, decide_eq_true_eq]
  have bad : fourinhandref10_Heard.j5 (k + 1) by_ n d true p b c m q = some (0, 0, 0, 0, 0, 0, 5) := by rw [fourinhandref10_Heard.j5, if_pos rfl]
  have hm : 0 ≤ m + Hand.heardM b ce by_ ∧ m + Hand.heardM b ce by_ ≤ c + by_ := by rw [hM]; split <;> omega
  by_cases g1 : ¬ (0 ≤ p + n ∧ p + n ≤ 1152921504606846976)
  · rw [if_neg g1, if_neg (fun h => g1 h.1)]; exact bad
  replace g1 := Decidable.of_not_not g1
  rw [if_pos g1]
  by_cases g2 : ¬ (0 ≤ b + d ∧ b + d ≤ 1152921504606846976)
  · rw [if_neg g2, if_neg (fun h => g2 h.2.1)]; exact bad
  replace g2 := Decidable.of_not_not g2
  rw [if_pos g2]
  by_cases g3 : ¬ (0 ≤ c + by_ ∧ c + by_ ≤ 1152921504606846976)
  · rw [decide_eq_false g3, if_neg (fun h => g3 h.2.2.1)]; exact bad
  replace g3 := Decidable.of_not_not g3
  rw [decide_eq_true g3, if_pos ⟨g1, g2, g3, hm, h5⟩, Bool.not_true, fourinhandref10_Heard.j5, if_neg (by decide)]
  rw [wrap64_id (p + n) (by omega) (by omega), wrap64_id (b + d) (by omega) (by omega), wrap64_id (c + by_) (by omega) (by omega)]
  by_cases g4 : by_ < d
  · have e : Hand.heardM b ce by_ = by_ := by rw [hM, if_neg (by omega)]
    rw [if_pos g4, e, wrap64_id (m + by_) (by omega) (by omega)]
  · have e : Hand.heardM b ce by_ = d := by rw [hM, if_pos (by omega)]
    rw [if_neg g4, e, wrap64_id (m + d) (by omega) (by omega)]
theorem rHeard_loop {p b c m q ace ce pk by_ : Int} (h : Hand.MMay p b c m q) (ha : 0 ≤ ace ∧ ace ≤ 7) (hc : 0 ≤ ce ∧ ce < 16777216) (hp : 0 ≤ pk ∧ pk ≤ 1099511627776) (hb : 0 ≤ by_ ∧ by_ ≤ 1099511627776) : ∀ (j k : Nat) (n : Int), 0 ≤ n → n + j = (ace - p) % 8 → j + 10 < k → fourinhandref10_Heard.l0 k ace ce pk by_ n p b c m q = some (heardOf p b c m q ce by_ (Hand.heardN p b ace ce pk)) := by
  intro j
  induction j with
  | zero =>
    intro k n h0 hn hk
    obtain ⟨k, rfl⟩ : ∃ j, k = j + 3 := ⟨k - 3, by omega⟩
    have h' := h
    obtain ⟨h1, h2, _⟩ := h'
    have hN : Hand.heardN p b ace ce pk = (if 8 ≤ pk ∧ 0 < (ce - b) % 16777216 then pk - (pk - (ace - p) % 8) % 8 else (ace - p) % 8) := rfl
    rw [fourinhandref10_Heard.l0, Int.tmod_eq_emod_of_nonneg h1.1, wrap64_id (p % 8 + n) (by omega) (by omega), Int.tmod_eq_emod_of_nonneg (by omega), if_pos (by omega), Int.tmod_eq_emod_of_nonneg h2.1, wrap64_id ce (by omega) (by omega), wrap64_id (ce - b % 16777216) (by omega) (by omega)]
    have j2 : fourinhandref10_Heard.j2 (k + 2) pk by_ n ((ce - b) % 16777216) p b c m q = some (heardOf p b c m q ce by_ (Hand.heardN p b ace ce pk)) := by
      rw [fourinhandref10_Heard.j2]
      have hj3 : fourinhandref10_Heard.j3 (k + 1) pk by_ n ((ce - b) % 16777216) false p b c m q = some (heardOf p b c m q ce by_ n) := by
        rw [fourinhandref10_Heard.j3, if_neg (by decide), rHeard_j4 k (by omega) h hb (by omega)]
      by_cases g1 : pk ≥ 8
      · rw [if_pos g1]
        by_cases g2 : (ce - b) % 16777216 > 0
        · rw [decide_eq_true g2, fourinhandref10_Heard.j3, if_pos rfl, hN, if_pos ⟨g1, g2⟩, wrap64_id (pk - n) (by omega) (by omega), Int.tdiv_eq_ediv_of_nonneg (by omega), wrap64_id ((pk - n) / 8) (by omega) (by omega), wrap64_id ((pk - n) / 8 * 8) (by omega) (by omega), wrap64_id (n + (pk - n) / 8 * 8) (by omega) (by omega), rHeard_j4 k (by omega) h hb (by omega)]
          have e : n + (pk - n) / 8 * 8 = pk - (pk - (ace - p) % 8) % 8 := by omega
          rw [e]
        · rw [decide_eq_false g2, hj3, hN, if_neg (fun h => g2 h.2)]
          have e : n = (ace - p) % 8 := by omega
          rw [e]
      · rw [if_neg g1, hj3, hN, if_neg (fun h => g1 h.1)]
        have e : n = (ace - p) % 8 := by omega
        rw [e]
    by_cases g : ce - b % 16777216 < 0
    · rw [if_pos g, wrap64_id (ce - b % 16777216 + 16777216) (by omega) (by omega)]
      have e : ce - b % 16777216 + 16777216 = (ce - b) % 16777216 := by omega
      rw [e]; exact j2
    · rw [if_neg g]
      have e : ce - b % 16777216 = (ce - b) % 16777216 := by omega
      rw [e]; exact j2
  | succ j ih =>
    intro k n h0 hn hk
    obtain ⟨k, rfl⟩ : ∃ j, k = j + 1 := ⟨k - 1, by omega⟩
    have h' := h
    obtain ⟨h1, h2, _⟩ := h'
    rw [fourinhandref10_Heard.l0, Int.tmod_eq_emod_of_nonneg h1.1, wrap64_id (p % 8 + n) (by omega) (by omega), Int.tmod_eq_emod_of_nonneg (by omega), if_neg (by omega), wrap64_id (n + 1) (by omega) (by omega)]
    exact ih k (n + 1) (by omega) (by omega) (by omega)
theorem rHeard_f (k : Nat) (hk : 30 ≤ k) {p b c m q ace ce pk by_ : Int} (hce : 0 ≤ ce) : fourinhandref10_Heard.f k p b c m q ace ce pk by_ = marks_Heard.f p b c m q ace ce pk by_ := by
  obtain ⟨k, rfl⟩ : ∃ j, k = j + 1 := ⟨k - 1, by omega⟩
  unfold fourinhandref10_Heard.f
  rw [rMay_f, Option.bind_some]
  have hj : fourinhandref10_Heard.j0 (k + 1) ace ce pk by_ true p b c m q = some (0, 0, 0, 0, 0, 0, 1) := by rw [fourinhandref10_Heard.j0, if_pos rfl]
  by_cases hf : Hand.HeardFine p b c m q ace ce pk by_
  · obtain ⟨h1, h2, h3, h4, h5⟩ := id hf
    have g : ¬ by_ > 1099511627776 := by omega
    rw [decide_eq_true h1, if_pos rfl, if_neg (by omega), if_neg (by omega), if_neg (by omega), if_neg (by omega), if_neg (by omega), if_neg (by omega), decide_eq_false g, fourinhandref10_Heard.j0, if_neg (by decide)]
    obtain ⟨N, hN⟩ : ∃ N : Nat, (N : Int) = (ace - p) % 8 := ⟨((ace - p) % 8).toNat, by omega⟩
    rw [rHeard_loop h1 h2 ⟨hce, by omega⟩ h4 h5 N k 0 (by omega) (by omega) (by omega)]
    unfold heardOf
    split
    · rename_i h; rw [Heard_yes hf hce h]
    · rename_i h; rw [Heard_over hf hce h]
  · rw [Heard_no hf]
    by_cases h1 : Hand.MMay p b c m q
    · rw [decide_eq_true h1, if_pos rfl]
      by_cases g1 : ace < 0
      · rw [if_pos g1]; exact hj
      rw [if_neg g1]
      by_cases g2 : ace > 7
      · rw [if_pos g2]; exact hj
      rw [if_neg g2]
      by_cases g3 : ce ≥ 16777216
      · rw [if_pos g3]; exact hj
      rw [if_neg g3]
      by_cases g4 : pk < 0
      · rw [if_pos g4]; exact hj
      rw [if_neg g4]
      by_cases g5 : pk > 1099511627776
      · rw [if_pos g5]; exact hj
      rw [if_neg g5]
      by_cases g6 : by_ < 0
      · rw [if_pos g6]; exact hj
      rw [if_neg g6]
      have g7 : by_ > 1099511627776 := by
        by_cases g7 : by_ > 1099511627776
        · exact g7
        · exact absurd ⟨h1, ⟨by omega, by omega⟩, by omega, ⟨by omega, by omega⟩, ⟨by omega, by omega⟩⟩ hf
      rw [decide_eq_true g7]; exact hj
    · rw [decide_eq_false h1, if_neg (by decide)]; exact hj
theorem MarksTell : fourinhandlaw10_MarksTell.Pure := by
  intro p b c m q ace ce pk by_ _ _ hce _ _
  have hce0 := (wf_u32 hce).1
  refine ⟨301, ?_⟩
  unfold fourinhandlaw10_MarksTell.f
  rw [awake_f 301 (by omega), rHeard_f 301 (by omega) hce0, rRound_f 301 (by omega), rTold_f]
  have hH : ∃ x, marks_Heard.f p b c m q ace ce pk by_ = some x := by
    by_cases hf : Hand.HeardFine p b c m q ace ce pk by_
    · by_cases h : Hand.MMay (p + Hand.heardN p b ace ce pk) (b + (ce - b) % 16777216) (c + by_) (m + Hand.heardM b ce by_) q
      · exact ⟨_, Heard_yes hf hce0 h⟩
      · exact ⟨_, Heard_over hf hce0 h⟩
    · exact ⟨_, Heard_no hf⟩
  have hR : ∃ x, marks_Round.f 301 p b c m q = some x := by
    by_cases h : Hand.MMay p b c m q
    · exact ⟨_, Round_yes 301 (by omega) h⟩
    · exact ⟨_, Round_no 301 h⟩
  have hT : ∃ x, marks_Told.f p b c m q = some x := by
    by_cases h : Hand.MMay p b c m q
    · exact ⟨_, Told_yes h⟩
    · exact ⟨_, Told_no h⟩
  obtain ⟨x, hx⟩ := hH
  obtain ⟨y, hy⟩ := hR
  obtain ⟨z, hz⟩ := hT
  rw [hx, hy, hz, mMay_f, rMay_f]
  simp only [Option.bind_some, if_true, beq_self_eq_true, Bool.and_self]

end Go.Proofs.Ythklaiedabekjaa.Pure
