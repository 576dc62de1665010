/- Any choices may be, or not, have room, and the one is picked that the document says, or it is waited: for every input, without a condition. -/
import Derived.Test.YtjdjliaachcofaaPEcfTellsx8
import Derived.Test.YtjdjliaachcofaaStmtEcfTells
import Derived.Laws.BitsLemmas
import Derived.Laws.Bits64
namespace Go.Proofs.Ytjdjliaachcofaa.Pure
open Go.RowKit Go.Proofs.Ytjdjliaachcofaa.PEcfTells Go.Proofs.YtjdjliaachcofaaW.PrintWords Go.Proofs.YtjdjliaachcofaaW.PrintLast Go.Proofs.YtjdjliaachcofaaW.PrintMore
/-! ### bits and words of 64 bits -/
theorem wraps_u64 (n : Int) (h0 : 0 ≤ n) (h1 : n < 2 ^ 64) : IntKind.u64.wrap n = n := by rw [IntKind.wrap_u64]; omega
theorem and_low32 (x : Int) (h0 : 0 ≤ x) (h1 : x < 18446744073709551616) : Go.bits .and .u64 x 4294967295 = x % 4294967296 :=
  bits_mask .u64 64 (by decide) wraps_u64 32 (by decide) x h0 h1
theorem and_one (x : Int) (h0 : 0 ≤ x) (h1 : x < 18446744073709551616) : Go.bits .and .u64 x 1 = x % 2 :=
  bits_mask .u64 64 (by decide) wraps_u64 1 (by decide) x h0 h1
theorem or_low32 (x y : Int) (h0 : 0 ≤ x) (h1 : x < 18446744073709551616) (h2 : x % 4294967296 = 0) (h3 : 0 ≤ y) (h4 : y < 4294967296) : Go.bits .or .u64 x y = x + y :=
  bits_join .u64 64 (by decide) wraps_u64 32 x y h0 h2 h1 h3 h4 (by omega)
theorem or_one (x y : Int) (h0 : 0 ≤ x) (h1 : x < 18446744073709551616) (h2 : x % 2 = 0) (h3 : 0 ≤ y) (h4 : y < 2) : Go.bits .or .u64 x y = x + y :=
  bits_join .u64 64 (by decide) wraps_u64 1 x y h0 h2 h1 h3 h4 (by omega)
theorem wrap64_id (n : Int) (h0 : -9223372036854775808 ≤ n) (h1 : n < 9223372036854775808) : wrap64 n = n := by unfold wrap64; omega

/-! ### the number's range -/
def InR (a : Int) : Prop := -4611686018427387904 ≤ a ∧ a ≤ 4611686018427387904
instance (a : Int) : Decidable (InR a) := inferInstanceAs (Decidable (_ ∧ _))
theorem In_f (a : Int) : fix_In.f a = some (decide (InR a)) := by
  unfold fix_In.f
  by_cases h : a ≥ (-4611686018427387904)
  · rw [if_pos h]; exact congrArg some (decide_eq_decide.mpr ⟨fun h' => ⟨h, h'⟩, fun h' => h'.2⟩)
  · rw [if_neg h]; exact congrArg some (decide_eq_false (fun h' => h h'.1)).symm
theorem size_f (a : Int) (h : InR a) : fix_size.f a = some (if a < 0 then -a else a, decide (a < 0)) := by
  unfold fix_size.f
  unfold InR at h
  by_cases h0 : a < 0
  · rw [if_pos h0, if_pos h0, wrap64_id _ (by omega) (by omega), wraps_u64 _ (by omega) (by omega)]; simp [h0]
  · rw [if_neg h0, if_neg h0, wraps_u64 _ (by omega) (by omega)]; simp [h0]

/-! ### the product of 128 bits -/
theorem mul_le_of (a b A B : Int) (h0 : 0 ≤ a) (h1 : a ≤ A) (h2 : 0 ≤ b) (h3 : b ≤ B) : 0 ≤ a * b ∧ a * b ≤ A * B :=
  ⟨Int.mul_nonneg h0 h2, Int.mul_le_mul h1 h3 h2 (by omega)⟩
theorem product_f (x y : Int) (hx0 : 0 ≤ x) (hx : x ≤ 4611686018427387904) (hy0 : 0 ≤ y) (hy : y ≤ 4611686018427387904) :
    fix_product.f x y = some (x * y / 18446744073709551616, x * y % 18446744073709551616) := by
  unfold fix_product.f
  rw [and_low32 x hx0 (by omega), and_low32 y hy0 (by omega)]
  obtain ⟨xh, hxh⟩ : ∃ z, x / 4294967296 = z := ⟨_, rfl⟩
  obtain ⟨xl, hxl⟩ : ∃ z, x % 4294967296 = z := ⟨_, rfl⟩
  obtain ⟨yh, hyh⟩ : ∃ z, y / 4294967296 = z := ⟨_, rfl⟩
  obtain ⟨yl, hyl⟩ : ∃ z, y % 4294967296 = z := ⟨_, rfl⟩
  rw [hxh, hxl, hyh, hyl]
  have ex : x = xh * 4294967296 + xl := by omega
  have ey : y = yh * 4294967296 + yl := by omega
  have b1 : 0 ≤ xh ∧ xh ≤ 1073741824 ∧ 0 ≤ xl ∧ xl ≤ 4294967295 := by omega
  have b2 : 0 ≤ yh ∧ yh ≤ 1073741824 ∧ 0 ≤ yl ∧ yl ≤ 4294967295 := by omega
  have exy : x * y = xh * yh * 18446744073709551616 + (xh * yl + xl * yh) * 4294967296 + xl * yl := by
    rw [ex, ey]; grind
  have bA := mul_le_of xh yh 1073741824 1073741824 b1.1 b1.2.1 b2.1 b2.2.1
  have bB := mul_le_of xh yl 1073741824 4294967295 b1.1 b1.2.1 b2.2.2.1 b2.2.2.2
  have bC := mul_le_of xl yh 4294967295 1073741824 b1.2.2.1 b1.2.2.2 b2.1 b2.2.1
  have bP := mul_le_of xl yl 4294967295 4294967295 b1.2.2.1 b1.2.2.2 b2.2.2.1 b2.2.2.2
  rw [exy]
  clear exy ex ey hxh hxl hyh hyl b1 b2
  generalize xh * yh = A at *
  generalize xh * yl = B at *
  generalize xl * yh = C at *
  generalize xl * yl = P at *
  rw [wraps_u64 A (by omega) (by omega), wraps_u64 B (by omega) (by omega), wraps_u64 C (by omega) (by omega), wraps_u64 P (by omega) (by omega)]
  rw [wraps_u64 (B + P / 4294967296) (by omega) (by omega), and_low32 (B + P / 4294967296) (by omega) (by omega), and_low32 P (by omega) (by omega)]
  rw [wraps_u64 (C + (B + P / 4294967296) % 4294967296) (by omega) (by omega)]
  rw [wraps_u64 (A + (B + P / 4294967296) / 4294967296) (by omega) (by omega)]
  rw [wraps_u64 (A + (B + P / 4294967296) / 4294967296 + (C + (B + P / 4294967296) % 4294967296) / 4294967296) (by omega) (by omega)]
  rw [IntKind.wrap_u64 ((C + (B + P / 4294967296) % 4294967296) * 4294967296)]
  rw [or_low32 _ _ (by omega) (by omega) (by omega) (by omega) (by omega)]
  simp only [Option.some.injEq, Prod.mk.injEq]
  constructor <;> omega

/-! ### the long division -/
theorem mod_two_pow_succ (m n : Nat) : m % 2 ^ (n + 1) = m / 2 ^ n % 2 * 2 ^ n + m % 2 ^ n := by
  rw [Nat.mod_pow_succ, Nat.mul_comm, Nat.add_comm]
theorem by_loop (c : Int) (hc1 : 1 ≤ c) (hc : c ≤ 4611686018427387904) (hi : Int) (m : Nat) (hm : m < 2 ^ 64) : ∀ (n : Nat), n ≤ 64 → ∀ (k : Nat), n < k → ∀ (q r : Int), 0 ≤ r → r < c → 0 ≤ q → q < 2 ^ (64 - n) →
    ∃ q' r', fix_wide_by.l0 k c q r ((n : Int) - 1) hi m = some (q', r') ∧ 0 ≤ r' ∧ r' < c ∧ 0 ≤ q' ∧ q' * c + r' = (q * c + r) * 2 ^ n + (m % 2 ^ n : Nat) := by
  intro n
  induction n with
  | zero =>
    intro _ k hk q r h0 h1 h2 h3
    obtain ⟨k, rfl⟩ : ∃ j, k = j + 1 := ⟨k - 1, by omega⟩
    refine ⟨q, r, ?_, h0, h1, h2, by simp [Nat.mod_one]⟩
    simp only [fix_wide_by.l0]
    rw [if_neg (by omega)]
  | succ n ih =>
    intro hn k hk q r h0 h1 h2 h3
    obtain ⟨k, rfl⟩ : ∃ j, k = j + 1 := ⟨k - 1, by omega⟩
    have hq2 : q * 2 + 1 < 2 ^ (64 - n) := by
      have e : (64 - n) = (64 - (n + 1)) + 1 := by omega
      rw [e, Int.pow_succ]; omega
    have hpow : (2 : Int) ^ (64 - n) ≤ 18446744073709551616 := by
      have h1 : (2 : Nat) ^ (64 - n) ≤ 18446744073709551616 := Nat.pow_le_pow_right (n := 2) (j := 64) (by decide) (by omega)
      have h2 : (2 : Int) ^ (64 - n) = ((2 ^ (64 - n) : Nat) : Int) := by simp
      rw [h2]; omega
    have e1 : ((n + 1 : Nat) : Int) - 1 = (n : Int) := by omega
    rw [e1, fix_wide_by.l0]
    rw [if_pos (by omega), if_pos (by omega)]
    have e2 : shr .u64 (m : Int) (n : Int) = ((m / 2 ^ n : Nat) : Int) := by
      unfold shr
      have : min ((n : Int)).toNat IntKind.u64.bits = n := by simp [IntKind.bits]; omega
      rw [this]; simp
    have hb : m / 2 ^ n ≤ m := Nat.div_le_self _ _
    rw [e2]
    generalize hM : m / 2 ^ n = M at *
    rw [and_one _ (by omega) (by omega)]
    have e3 : (M : Int) % 2 = ((M % 2 : Nat) : Int) := by omega
    rw [e3]
    have hs := mod_two_pow_succ m n
    rw [hM] at hs
    have hbit : M % 2 < 2 := Nat.mod_lt _ (by decide)
    generalize M % 2 = b at *
    rw [wraps_u64 (r * 2) (by omega) (by omega), wraps_u64 (q * 2) (by omega) (by omega)]
    rw [or_one (r * 2) b (by omega) (by omega) (by omega) (by omega) (by omega), or_one (q * 2) 1 (by omega) (by omega) (by omega) (by omega) (by omega)]
    rw [wrap64_id ((n : Int) - 1) (by omega) (by omega)]
    by_cases hge : r * 2 + (b : Int) ≥ c
    · rw [if_pos hge, wraps_u64 (r * 2 + b - c) (by omega) (by omega)]
      obtain ⟨q', r', he, a1, a2, a3, a4⟩ := ih (by omega) k (by omega) (q * 2 + 1) (r * 2 + b - c) (by omega) (by omega) (by omega) hq2
      refine ⟨q', r', he, a1, a2, a3, ?_⟩
      rw [a4, hs]
      simp only [Int.natCast_add, Int.natCast_mul, Int.pow_succ, Int.natCast_pow]
      grind
    · rw [if_neg hge]
      obtain ⟨q', r', he, a1, a2, a3, a4⟩ := ih (by omega) k (by omega) (q * 2) (r * 2 + b) (by omega) (by omega) (by omega) (by omega)
      refine ⟨q', r', he, a1, a2, a3, ?_⟩
      rw [a4, hs]
      simp only [Int.natCast_add, Int.natCast_mul, Int.pow_succ, Int.natCast_pow]
      grind
theorem by_f (k : Nat) (hk : 64 < k) (p c : Int) (hc1 : 1 ≤ c) (hc : c ≤ 4611686018427387904) (hp0 : 0 ≤ p) (hp : p / 18446744073709551616 < c) :
    fix_wide_by.f k (p / 18446744073709551616) (p % 18446744073709551616) c = some (p / c, p % c) := by
  obtain ⟨m, hm⟩ : ∃ m : Nat, p % 18446744073709551616 = m := ⟨(p % 18446744073709551616).toNat, by omega⟩
  have hm2 : m < 2 ^ 64 := by omega
  obtain ⟨q, r, he, a1, a2, a3, a4⟩ := by_loop c hc1 hc (p / 18446744073709551616) m hm2 64 (by omega) k hk 0 (p / 18446744073709551616) (by omega) hp (by omega) (by decide)
  unfold fix_wide_by.f
  rw [hm]
  refine he.trans ?_
  rw [Nat.mod_eq_of_lt hm2] at a4
  have e : q * c + r = p := by
    have : (2 : Int) ^ 64 = 18446744073709551616 := by decide
    rw [this] at a4
    omega
  have e2 : p / c = q := by
    rw [← e, Int.add_comm, Int.add_mul_ediv_right _ _ (by omega), Int.ediv_eq_zero_of_lt a1 a2]; omega
  have e3 : p % c = r := by
    rw [← e, Int.add_comm, Int.add_mul_emod_self_right, Int.emod_eq_of_lt a1 a2]
  rw [e2, e3]

/-! ### MulDiv -/
def MD (a b c : Int) : Int × Bool := if InR a ∧ InR b ∧ InR c ∧ 1 ≤ c ∧ InR (a * b / c) then (a * b / c, true) else (0, false)
theorem ediv_neg_floor (p c : Int) (hc : 1 ≤ c) : (-p) / c = if p % c > 0 then -(p / c + 1) else -(p / c) := by
  have h1 := Int.emod_add_mul_ediv p c
  have h2 := Int.emod_nonneg p (show c ≠ 0 by omega)
  have h3 := Int.emod_lt_of_pos p (show 0 < c by omega)
  split
  · rename_i h
    have : -p = (c - p % c) + c * (-(p / c + 1)) := by grind
    rw [this, Int.add_mul_ediv_left _ _ (by omega), Int.ediv_eq_zero_of_lt (by omega) (by omega)]; omega
  · rename_i h
    have : -p = 0 + c * (-(p / c)) := by grind
    rw [this, Int.add_mul_ediv_left _ _ (by omega)]; simp
theorem MulDiv_f (k : Nat) (hk : 100 ≤ k) (a b c : Int) : fix_MulDiv.f k a b c = some (MD a b c) := by
  obtain ⟨k, rfl⟩ : ∃ j, k = j + 4 := ⟨k - 4, by omega⟩
  unfold fix_MulDiv.f MD
  rw [In_f, In_f, In_f]
  simp only [Option.bind_some, decide_eq_true_eq]
  by_cases ha : ¬ InR a
  · rw [if_neg ha, if_neg (fun h => ha h.1)]; simp [fix_MulDiv.j0]
  by_cases hb : ¬ InR b
  · rw [if_pos (Decidable.not_not.mp ha), if_neg hb, if_neg (fun h => hb h.2.1)]; simp [fix_MulDiv.j0]
  by_cases hc : ¬ InR c
  · rw [if_pos (Decidable.not_not.mp ha), if_pos (Decidable.not_not.mp hb), if_neg hc, if_neg (fun h => hc h.2.2.1)]; simp [fix_MulDiv.j0]
  replace ha := Decidable.not_not.mp ha
  replace hb := Decidable.not_not.mp hb
  replace hc := Decidable.not_not.mp hc
  rw [if_pos ha, if_pos hb, if_pos hc]
  by_cases hc1 : c < 1
  · rw [if_neg (fun h => by omega)]; simp [fix_MulDiv.j0, hc1]
  simp only [fix_MulDiv.j0, hc1, decide_false, Bool.false_eq_true, if_false]
  rw [size_f a ha, size_f b hb]
  simp only [Option.bind_some]
  obtain ⟨x, hx⟩ : ∃ x, (if a < 0 then -a else a) = x := ⟨_, rfl⟩
  obtain ⟨y, hy⟩ : ∃ y, (if b < 0 then -b else b) = y := ⟨_, rfl⟩
  rw [hx, hy]
  unfold InR at ha hb hc
  have hx0 : 0 ≤ x ∧ x ≤ 4611686018427387904 := by split at hx <;> omega
  have hy0 : 0 ≤ y ∧ y ≤ 4611686018427387904 := by split at hy <;> omega
  rw [product_f x y hx0.1 hx0.2 hy0.1 hy0.2]
  simp only [Option.bind_some]
  rw [wraps_u64 c (by omega) (by omega)]
  have hp0 : 0 ≤ x * y := Int.mul_nonneg hx0.1 hy0.1
  -- the signed product
  have hs : a * b = if (decide (a < 0) != decide (b < 0)) = true then -(x * y) else x * y := by
    by_cases h1 : a < 0 <;> by_cases h2 : b < 0 <;> simp [h1, h2] at hx hy ⊢ <;> subst hx <;> subst hy <;> grind
  have hce : c * (x * y / c) ≤ x * y := by
    have := Int.emod_add_mul_ediv (x * y) c
    have := Int.emod_nonneg (x * y) (show c ≠ 0 by omega)
    omega
  have hq0 : 0 ≤ x * y / c := Int.ediv_nonneg hp0 (by omega)
  by_cases hbig : x * y / 18446744073709551616 ≥ c
  · rw [if_pos hbig]
    -- the quotient has more than 64 bits
    have hq : 18446744073709551616 ≤ x * y / c := by
      rw [Int.le_ediv_iff_mul_le (by omega)]
      omega
    rw [if_neg]
    rintro ⟨_, _, _, _, h⟩
    unfold InR at h
    rw [hs] at h
    split at h
    · rw [ediv_neg_floor _ _ (by omega)] at h
      split at h <;> omega
    · omega
  · rw [if_neg hbig, by_f _ (by omega) (x * y) c (by omega) (by omega) hp0 (by omega)]
    simp only [Option.bind_some]
    have hq1 : x * y / c < 18446744073709551616 := by
      rw [Int.ediv_lt_iff_lt_mul (by omega)]
      omega
    have hInR : ∀ z : Int, InR z ↔ (-4611686018427387904 ≤ z ∧ z ≤ 4611686018427387904) := fun _ => Iff.rfl
    by_cases hd : (decide (a < 0) != decide (b < 0)) = true
    · rw [if_pos hd] at hs ⊢
      rw [hs, ediv_neg_floor _ _ (by omega)]
      by_cases hr : x * y % c > 0
      · rw [if_pos hr, if_pos hr]
        simp only [fix_MulDiv.j1, fix_MulDiv.j2, hd, if_true]
        by_cases hle : x * y / c ≤ 4611686018427387904
        · rw [if_pos (by simpa using hle), wraps_u64 _ (by omega) (by omega)]
          by_cases hgt : x * y / c + 1 > 4611686018427387904
          · rw [if_pos hgt, if_neg (by simp only [hInR]; omega)]
          · rw [if_neg hgt, if_pos (by simp only [hInR]; omega), wrap64_id (x * y / c + 1) (by omega) (by omega), wrap64_id _ (by omega) (by omega)]
        · rw [if_neg (by simpa using hle), if_pos (by omega), if_neg (by simp only [hInR]; omega)]
      · rw [if_neg hr, if_neg hr]
        simp only [fix_MulDiv.j1, fix_MulDiv.j2, hd, if_true, Bool.false_eq_true, if_false]
        by_cases hgt : x * y / c > 4611686018427387904
        · rw [if_pos hgt, if_neg (by simp only [hInR]; omega)]
        · rw [if_neg hgt, if_pos (by simp only [hInR]; omega), wrap64_id (x * y / c) (by omega) (by omega), wrap64_id _ (by omega) (by omega)]
    · rw [if_neg hd] at hs ⊢
      rw [hs]
      simp only [fix_MulDiv.j1, fix_MulDiv.j2, hd, Bool.false_eq_true, if_false]
      by_cases hgt : x * y / c > 4611686018427387904
      · rw [if_pos hgt, if_neg (by simp only [hInR]; omega)]
      · rw [if_neg hgt, if_pos (by simp only [hInR]; omega), wrap64_id (x * y / c) (by omega) (by omega)]

/-! ### what MulDiv tells -/
theorem MD_yes {a b c : Int} (h : InR a ∧ InR b ∧ InR c ∧ 1 ≤ c ∧ InR (a * b / c)) : MD a b c = (a * b / c, true) := if_pos h
theorem MD_no {a b c : Int} (h : ¬ (InR a ∧ InR b ∧ InR c ∧ 1 ≤ c ∧ InR (a * b / c))) : MD a b c = (0, false) := if_neg h
theorem InR_one : InR 1 := by decide
theorem div_between (p c : Int) (hc : 1 ≤ c) : (0 ≤ p → 0 ≤ p / c ∧ p / c ≤ p) ∧ (p ≤ 0 → p ≤ p / c ∧ p / c ≤ 0) := by
  refine ⟨fun h => ⟨Int.ediv_nonneg h (by omega), Int.ediv_le_self _ h⟩, fun h => ⟨?_, ?_⟩⟩
  · rw [Int.le_ediv_iff_mul_le (by omega)]
    have := Int.mul_le_mul_of_nonpos_left h hc
    rw [Int.mul_one] at this
    exact this
  · have := Int.ediv_le_ediv (c := c) (by omega) h
    rwa [Int.zero_ediv] at this
theorem InR_div {p c : Int} (hp : InR p) (hc : 1 ≤ c) : InR (p / c) := by
  have := div_between p c hc
  unfold InR at *
  rcases Int.le_total 0 p with h | h
  · have := this.1 h; omega
  · have := this.2 h; omega
theorem div_left (p c : Int) (hc : 1 ≤ c) : p / c * c ≤ p ∧ p < p / c * c + c := by
  have h1 := Int.emod_add_mul_ediv p c
  have h2 := Int.emod_nonneg p (show c ≠ 0 by omega)
  have h3 := Int.emod_lt_of_pos p (show 0 < c by omega)
  rw [Int.mul_comm] at h1
  omega

theorem Mul_f (k : Nat) (hk : 100 ≤ k) (a b : Int) : fix_Mul.f k a b = some (MD a b 1) := by unfold fix_Mul.f; rw [MulDiv_f k hk]; rfl

/-! ### choices -/
theorem ein_f (a b c : Int) : ecf_in.f a b c = some (decide (b ≤ a ∧ a ≤ c)) := by
  unfold ecf_in.f
  by_cases h : a ≥ b
  · rw [if_pos h]; exact congrArg some (decide_eq_decide.mpr ⟨fun h' => ⟨h, h'⟩, fun h' => h'.2⟩)
  · rw [if_neg h]; exact congrArg some (decide_eq_false (fun h' => h h'.1)).symm
/-- May a choice be? -/
def CMay (x : S28) : Prop := x.f0 = true ∧ (1 ≤ x.f1 ∧ x.f1 ≤ 1073741824) ∧ (0 ≤ x.f2 ∧ x.f2 ≤ 1099511627776) ∧ (0 ≤ x.f3 ∧ x.f3 ≤ 1099511627776) ∧ (0 ≤ x.f4 ∧ x.f4 ≤ 1099511627776)
instance (x : S28) : Decidable (CMay x) := inferInstanceAs (Decidable (_ ∧ _))
/-- Has it room? -/
def CRoom (m : Int) (x : S28) : Prop := CMay x ∧ (1 ≤ m ∧ m ≤ 1460) ∧ x.f2 + m ≤ x.f1
instance (m : Int) (x : S28) : Decidable (CRoom m x) := inferInstanceAs (Decidable (_ ∧ _))
def mayB (x : S28) : Bool := decide (CMay x)
def roomB (m : Int) (x : S28) : Bool := decide (CRoom m x)
theorem mayB_iff {x : S28} : mayB x = true ↔ CMay x := decide_eq_true_iff
theorem roomB_iff {m : Int} {x : S28} : roomB m x = true ↔ CRoom m x := decide_eq_true_iff
theorem cmay_f (x : S28) : ecf_May.f x.f0 x.f1 x.f2 x.f3 x.f4 = some (mayB x) := by
  unfold ecf_May.f
  simp only [ein_f, Option.bind_some, decide_eq_true_eq]
  have no : ¬ CMay x → some false = some (mayB x) := fun h => congrArg some (decide_eq_false h).symm
  by_cases h0 : x.f0 = true
  · rw [if_pos h0]
    by_cases h1 : 1 ≤ x.f1 ∧ x.f1 ≤ 1073741824
    · rw [if_pos h1]
      by_cases h2 : 0 ≤ x.f2 ∧ x.f2 ≤ 1099511627776
      · rw [if_pos h2]
        by_cases h3 : 0 ≤ x.f3 ∧ x.f3 ≤ 1099511627776
        · rw [if_pos h3]
          exact congrArg some (decide_eq_decide.mpr ⟨fun h => ⟨h0, h1, h2, h3, h⟩, fun h => h.2.2.2.2⟩)
        · rw [if_neg h3]; exact no (fun h => h3 h.2.2.2.1)
      · rw [if_neg h2]; exact no (fun h => h2 h.2.2.1)
    · rw [if_neg h1]; exact no (fun h => h1 h.2.1)
  · rw [if_neg h0]; exact no (fun h => h0 h.1)
theorem croom_f (x : S28) (m : Int) : ecf_Room.f x.f0 x.f1 x.f2 x.f3 x.f4 m = some (roomB m x) := by
  unfold ecf_Room.f
  rw [cmay_f, Option.bind_some, ein_f]
  simp only [Option.bind_some, decide_eq_true_eq]
  have no : ¬ CRoom m x → some false = some (roomB m x) := fun h => congrArg some (decide_eq_false h).symm
  by_cases h0 : mayB x = true
  · rw [if_pos h0]
    have h0 := mayB_iff.mp h0
    by_cases h1 : 1 ≤ m ∧ m ≤ 1460
    · have h2 := h0.2.2.1
      rw [if_pos h1, wrap64_id (x.f2 + m) (by omega) (by omega)]
      exact congrArg some (decide_eq_decide.mpr ⟨fun h => ⟨h0, h1, h⟩, fun h => h.2.2⟩)
    · rw [if_neg h1]; exact no (fun h => h1 h.2.1)
  · rw [if_neg h0]; exact no (fun h => h0 (mayB_iff.mpr h.1))
theorem cpick1_f (x : S28) (m : Int) : ecf_Pick1.f m x.f0 x.f1 x.f2 x.f3 x.f4 = some (roomB m x) := croom_f x m
theorem room_may {m : Int} {x : S28} (h : roomB m x = true) : mayB x = true := mayB_iff.mpr (roomB_iff.mp h).1
/-- The first one of the least time, of the first n, of which P holds; or -1. -/
def IsFast (P : S28 → Bool) (L : List S28) (n a : Int) : Prop :=
  (a = -1 ∧ ∀ i, 0 ≤ i → i < n → P (rd_T28 L i) = false) ∨
  (0 ≤ a ∧ a < n ∧ P (rd_T28 L a) = true ∧ (∀ i, 0 ≤ i → i < n → P (rd_T28 L i) = true → (rd_T28 L a).f3 ≤ (rd_T28 L i).f3) ∧ ∀ i, 0 ≤ i → i < a → P (rd_T28 L i) = true → (rd_T28 L a).f3 < (rd_T28 L i).f3)
theorem IsFast.zero (P : S28 → Bool) (L : List S28) : IsFast P L 0 (-1) := .inl ⟨rfl, fun i h0 h1 => by omega⟩
theorem IsFast.range {P : S28 → Bool} {L : List S28} {n a : Int} (h : IsFast P L n a) : a = -1 ∨ (0 ≤ a ∧ a < n) := by
  rcases h with h | h
  · exact .inl h.1
  · exact .inr ⟨h.1, h.2.1⟩
theorem IsFast.skip {P : S28 → Bool} {L : List S28} {n a : Int} (h : IsFast P L n a) (hp : P (rd_T28 L n) = false) : IsFast P L (n + 1) a := by
  rcases h with ⟨h1, h2⟩ | ⟨h1, h2, h3, h4, h5⟩
  · refine .inl ⟨h1, fun i i0 i1 => ?_⟩
    by_cases e : i = n
    · rw [e]; exact hp
    · exact h2 i i0 (by omega)
  · refine .inr ⟨h1, by omega, h3, fun i i0 i1 hi => ?_, h5⟩
    by_cases e : i = n
    · rw [e, hp] at hi; exact absurd hi (by decide)
    · exact h4 i i0 (by omega) hi
theorem IsFast.first {P : S28 → Bool} {L : List S28} {n : Int} (hn : 0 ≤ n) (h : IsFast P L n (-1)) (hp : P (rd_T28 L n) = true) : IsFast P L (n + 1) n := by
  rcases h with ⟨_, h2⟩ | ⟨h1, _⟩
  · refine .inr ⟨hn, by omega, hp, fun i i0 i1 hi => ?_, fun i i0 i1 hi => ?_⟩
    · by_cases e : i = n
      · rw [e]; omega
      · rw [h2 i i0 (by omega)] at hi; exact absurd hi (by decide)
    · rw [h2 i i0 (by omega)] at hi; exact absurd hi (by decide)
  · omega
theorem IsFast.less {P : S28 → Bool} {L : List S28} {n a : Int} (hn : 0 ≤ n) (ha : a ≠ -1) (h : IsFast P L n a) (hp : P (rd_T28 L n) = true) (hl : (rd_T28 L n).f3 < (rd_T28 L a).f3) : IsFast P L (n + 1) n := by
  rcases h with ⟨h1, _⟩ | ⟨h1, h2, h3, h4, h5⟩
  · exact absurd h1 ha
  · refine .inr ⟨hn, by omega, hp, fun i i0 i1 hi => ?_, fun i i0 i1 hi => ?_⟩
    · by_cases e : i = n
      · rw [e]; omega
      · have := h4 i i0 (by omega) hi; omega
    · have := h4 i i0 (by omega) hi; omega
theorem IsFast.more {P : S28 → Bool} {L : List S28} {n a : Int} (ha : a ≠ -1) (h : IsFast P L n a) (hl : ¬ (rd_T28 L n).f3 < (rd_T28 L a).f3) : IsFast P L (n + 1) a := by
  rcases h with ⟨h1, _⟩ | ⟨h1, h2, h3, h4, h5⟩
  · exact absurd h1 ha
  · refine .inr ⟨h1, by omega, h3, fun i i0 i1 hi => ?_, h5⟩
    by_cases e : i = n
    · rw [e]; omega
    · exact h4 i i0 (by omega) hi
theorem IsFast.one {P : S28 → Bool} {L : List S28} {n a b : Int} (h : IsFast P L n a) (g : IsFast P L n b) : a = b := by
  rcases h with ⟨h1, h2⟩ | ⟨h1, h2, h3, h4, h5⟩
  · rcases g with ⟨g1, g2⟩ | ⟨g1, g2, g3, g4, g5⟩
    · omega
    · rw [h2 b g1 g2] at g3; exact absurd g3 (by decide)
  · rcases g with ⟨g1, g2⟩ | ⟨g1, g2, g3, g4, g5⟩
    · rw [g2 a h1 h2] at h3; exact absurd h3 (by decide)
    · have x1 := h4 b g1 g2 g3
      have x2 := g4 a h1 h2 h3
      by_cases e : a < b
      · have := g5 a h1 e h3; omega
      · by_cases e2 : b < a
        · have := h5 b g1 e2 g3; omega
        · omega
theorem fastM_loop (L : List S28) (hl : L.length ≤ 1000) : ∀ (j k n : Nat) (a : Int), n + j = L.length → j < k → IsFast mayB L n a → ∃ b, ecf_fastestM.l0 k L a (L.length : Int) (n : Int) = some b ∧ IsFast mayB L L.length b := by
  intro j
  induction j with
  | zero =>
    intro k n a hn hk ha
    obtain ⟨k, rfl⟩ : ∃ m, k = m + 1 := ⟨k - 1, by omega⟩
    have e : (n : Int) = (L.length : Int) := by omega
    rw [ecf_fastestM.l0, if_neg (by omega)]
    exact ⟨a, rfl, e ▸ ha⟩
  | succ j ih =>
    intro k n a hn hk ha
    obtain ⟨k, rfl⟩ : ∃ m, k = m + 1 := ⟨k - 1, by omega⟩
    have e1 : (n : Int) + 1 = ((n + 1 : Nat) : Int) := by omega
    have c1 : (n : Int) < (L.length : Int) := by omega
    have c2 : 0 ≤ (n : Int) := by omega
    rw [ecf_fastestM.l0]
    simp only [c1, c2, if_true, cmay_f, Option.bind_some]
    rw [wrap64_id ((n : Int) + 1) (by omega) (by omega), e1]
    by_cases hp : mayB (rd_T28 L n) = true
    · rw [if_pos hp]
      by_cases ha1 : a = -1
      · rw [if_pos ha1]
        subst ha1
        have := ha.first c2 hp
        rw [e1] at this
        exact ih k (n + 1) _ (by omega) (by omega) this
      · rw [if_neg ha1]
        have hr := ha.range
        have c3 : 0 ≤ a := by omega
        have c4 : a < (L.length : Int) := by omega
        simp only [c3, c4, if_true]
        by_cases hlt : (rd_T28 L n).f3 < (rd_T28 L a).f3
        · rw [if_pos hlt]
          have := ha.less c2 ha1 hp hlt
          rw [e1] at this
          exact ih k (n + 1) _ (by omega) (by omega) this
        · rw [if_neg hlt]
          have := ha.more ha1 hlt
          rw [e1] at this
          exact ih k (n + 1) _ (by omega) (by omega) this
    · rw [if_neg hp]
      have := ha.skip (Bool.eq_false_iff.mpr hp)
      rw [e1] at this
      exact ih k (n + 1) _ (by omega) (by omega) this
theorem fastM_f (k : Nat) (hk : 1001 ≤ k) (L : List S28) (hl : L.length ≤ 1000) : ∃ b, ecf_fastestM.f k L = some b ∧ IsFast mayB L L.length b :=
  fastM_loop L hl L.length k 0 (-1) (by omega) (by omega) (IsFast.zero _ _)
theorem fastR_loop (m : Int) (L : List S28) (hl : L.length ≤ 1000) : ∀ (j k n : Nat) (a : Int), n + j = L.length → j < k → IsFast (roomB m) L n a → ∃ b, ecf_fastestR.l0 m k L a (L.length : Int) (n : Int) = some b ∧ IsFast (roomB m) L L.length b := by
  intro j
  induction j with
  | zero =>
    intro k n a hn hk ha
    obtain ⟨k, rfl⟩ : ∃ m, k = m + 1 := ⟨k - 1, by omega⟩
    have e : (n : Int) = (L.length : Int) := by omega
    rw [ecf_fastestR.l0, if_neg (by omega)]
    exact ⟨a, rfl, e ▸ ha⟩
  | succ j ih =>
    intro k n a hn hk ha
    obtain ⟨k, rfl⟩ : ∃ m, k = m + 1 := ⟨k - 1, by omega⟩
    have e1 : (n : Int) + 1 = ((n + 1 : Nat) : Int) := by omega
    have c1 : (n : Int) < (L.length : Int) := by omega
    have c2 : 0 ≤ (n : Int) := by omega
    rw [ecf_fastestR.l0]
    simp only [c1, c2, if_true, cpick1_f, Option.bind_some]
    rw [wrap64_id ((n : Int) + 1) (by omega) (by omega), e1]
    by_cases hp : roomB m (rd_T28 L n) = true
    · rw [if_pos hp]
      by_cases ha1 : a = -1
      · rw [if_pos ha1]
        subst ha1
        have := ha.first c2 hp
        rw [e1] at this
        exact ih k (n + 1) _ (by omega) (by omega) this
      · rw [if_neg ha1]
        have hr := ha.range
        have c3 : 0 ≤ a := by omega
        have c4 : a < (L.length : Int) := by omega
        simp only [c3, c4, if_true]
        by_cases hlt : (rd_T28 L n).f3 < (rd_T28 L a).f3
        · rw [if_pos hlt]
          have := ha.less c2 ha1 hp hlt
          rw [e1] at this
          exact ih k (n + 1) _ (by omega) (by omega) this
        · rw [if_neg hlt]
          have := ha.more ha1 hlt
          rw [e1] at this
          exact ih k (n + 1) _ (by omega) (by omega) this
    · rw [if_neg hp]
      have := ha.skip (Bool.eq_false_iff.mpr hp)
      rw [e1] at this
      exact ih k (n + 1) _ (by omega) (by omega) this
theorem fastR_f (m : Int) (k : Nat) (hk : 1001 ≤ k) (L : List S28) (hl : L.length ≤ 1000) : ∃ b, ecf_fastestR.f m k L = some b ∧ IsFast (roomB m) L L.length b :=
  fastR_loop m L hl L.length k 0 (-1) (by omega) (by omega) (IsFast.zero _ _)
/-- A product, or the greatest number. -/
def tm (a b : Int) : Int := if a * b ≤ 4611686018427387904 then a * b else 4611686018427387904
theorem times_f (k : Nat) (hk : 100 ≤ k) (a b : Int) (a0 : 0 ≤ a) (a1 : a ≤ 4611686018427387904) (b0 : 0 ≤ b) (b1 : b ≤ 4611686018427387904) : ecf_times.f k a b = some (tm a b) := by
  unfold ecf_times.f tm
  rw [Mul_f k hk]
  have h0 := Int.mul_nonneg a0 b0
  by_cases h : a * b ≤ 4611686018427387904
  · rw [MD_yes ⟨⟨by omega, a1⟩, ⟨by omega, b1⟩, InR_one, by decide, by rw [Int.ediv_one]; exact ⟨by omega, h⟩⟩, if_pos h]
    simp
  · rw [MD_no (fun g => h (by have := g.2.2.2.2.2; rwa [Int.ediv_one] at this)), if_neg h]
    simp
def waitB (f s : S28) (b : Int) (w : Bool) : Bool :=
  decide (tm (4 * (1 + b / f.f1)) f.f3 < tm (if w = true then 5 else 4) (s.f3 + mx f.f4 s.f4)) && decide (2 * f.f3 + mx f.f4 s.f4 ≤ tm (b / s.f1 + 1) s.f3)
theorem waited_f (k : Nat) (hk : 100 ≤ k) (f s : S28) (b : Int) (w : Bool) (hf : CMay f) (hs : CMay s) (b0 : 1 ≤ b) (b1 : b ≤ 1099511627776) :
    ecf_waited.f k f.f0 f.f1 f.f2 f.f3 f.f4 s.f0 s.f1 s.f2 s.f3 s.f4 b w = some (waitB f s b w) := by
  obtain ⟨_, f1, _, f3, f4⟩ := hf
  obtain ⟨_, s1, _, s3, s4⟩ := hs
  have hd : 0 ≤ mx f.f4 s.f4 ∧ mx f.f4 s.f4 ≤ 1099511627776 := by unfold mx; split <;> omega
  have q1 := (div_between b f.f1 f1.1).1 (by omega)
  have q2 := (div_between b s.f1 s1.1).1 (by omega)
  unfold ecf_waited.f waitB
  rw [Int.tdiv_eq_ediv_of_nonneg (show 0 ≤ b by omega), Int.tdiv_eq_ediv_of_nonneg (show 0 ≤ b by omega)]
  generalize mx f.f4 s.f4 = d at *
  generalize b / f.f1 = x at *
  generalize b / s.f1 = y at *
  have n1 : ¬ f.f1 = 0 := by omega
  have n2 : ¬ s.f1 = 0 := by omega
  rw [wrap64_id x (by omega) (by omega), wrap64_id (1 + x) (by omega) (by omega), wrap64_id (4 * (1 + x)) (by omega) (by omega), wrap64_id y (by omega) (by omega), wrap64_id (y + 1) (by omega) (by omega), wrap64_id (s.f3 + d) (by omega) (by omega), wrap64_id (2 * f.f3) (by omega) (by omega), wrap64_id (2 * f.f3 + d) (by omega) (by omega)]
  rw [times_f k hk (4 * (1 + x)) f.f3 (by omega) (by omega) (by omega) (by omega), times_f k hk (y + 1) s.f3 (by omega) (by omega) (by omega) (by omega), times_f k hk (4 + 1) (s.f3 + d) (by omega) (by omega) (by omega) (by omega), times_f k hk 4 (s.f3 + d) (by omega) (by omega) (by omega) (by omega)]
  simp only [n1, n2, if_false, Option.bind_some]
  have e5 : (4 : Int) + 1 = 5 := rfl
  cases w with
  | true =>
    rw [if_pos rfl, if_pos rfl, e5]
    by_cases h : tm (4 * (1 + x)) f.f3 < tm 5 (s.f3 + d)
    · rw [if_pos h, decide_eq_true h]; rfl
    · rw [if_neg h, decide_eq_false h]; rfl
  | false =>
    simp only [Bool.false_eq_true, if_false]
    by_cases h : tm (4 * (1 + x)) f.f3 < tm 4 (s.f3 + d)
    · rw [if_pos h, decide_eq_true h]; rfl
    · rw [if_neg h, decide_eq_false h]; rfl
/-- May these be picked of? -/
def PFine (L : List S28) (b m : Int) : Prop := L.length ≤ 4 ∧ (1 ≤ b ∧ b ≤ 1099511627776) ∧ (1 ≤ m ∧ m ≤ 1460)
instance (L : List S28) (b m : Int) : Decidable (PFine L b m) := inferInstanceAs (Decidable (_ ∧ _))
/-- What is picked, of the fastest one and the fastest one with room. -/
def pickOf (L : List S28) (b m : Int) (w : Bool) (f s : Int) : Int × Bool :=
  if s = -1 then (-1, false) else if roomB m (rd_T28 L f) = true then (s, false) else if waitB (rd_T28 L f) (rd_T28 L s) b w = true then (-1, true) else (s, false)
theorem Pick_no (k : Nat) (hk : 1 ≤ k) (L : List S28) (b m : Int) (w : Bool) (h : ¬ PFine L b m) : ecf_Pick.f k L b m w = some (-1, false) := by
  obtain ⟨k, rfl⟩ : ∃ m, k = m + 1 := ⟨k - 1, by omega⟩
  unfold ecf_Pick.f
  have bad : ecf_Pick.j0 (k + 1) L b w m true = some (-1, false) := by rw [ecf_Pick.j0, if_pos rfl]
  rw [ein_f, ein_f]
  simp only [Option.bind_some, decide_eq_true_eq]
  by_cases h1 : (L.length : Int) > 4
  · rw [if_pos h1]; exact bad
  rw [if_neg h1]
  by_cases h2 : 1 ≤ b ∧ b ≤ 1099511627776
  · rw [if_pos h2]
    have h3 : ¬ (1 ≤ m ∧ m ≤ 1460) := fun h3 => h ⟨by omega, h2, h3⟩
    rw [decide_eq_false h3]; exact bad
  · rw [if_neg h2]; exact bad
theorem may_of_room {m : Int} {L : List S28} {n f s : Int} (hf : IsFast mayB L n f) (hs : IsFast (roomB m) L n s) (h : s ≠ -1) : f ≠ -1 ∧ mayB (rd_T28 L f) = true ∧ roomB m (rd_T28 L s) = true ∧ (0 ≤ f ∧ f < n) ∧ (0 ≤ s ∧ s < n) := by
  rcases hs with ⟨h1, _⟩ | ⟨h1, h2, h3, _⟩
  · exact absurd h1 h
  · rcases hf with ⟨g1, g2⟩ | ⟨g1, g2, g3, _⟩
    · have := g2 s h1 h2
      rw [room_may h3] at this
      exact absurd this (by decide)
    · exact ⟨by omega, g3, h3, ⟨g1, g2⟩, ⟨h1, h2⟩⟩
theorem Pick_yes (k : Nat) (hk : 1003 ≤ k) (L : List S28) (b m : Int) (w : Bool) (h : PFine L b m) : ∃ f s, IsFast mayB L L.length f ∧ IsFast (roomB m) L L.length s ∧ ecf_Pick.f k L b m w = some (pickOf L b m w f s) := by
  obtain ⟨k, rfl⟩ : ∃ m, k = m + 2 := ⟨k - 2, by omega⟩
  obtain ⟨hl, hb, hm⟩ := h
  obtain ⟨f, hf1, hf⟩ := fastM_f (k + 1) (by omega) L (by omega)
  obtain ⟨s, hs1, hs⟩ := fastR_f m (k + 1) (by omega) L (by omega)
  refine ⟨f, s, hf, hs, ?_⟩
  unfold ecf_Pick.f
  rw [ein_f, ein_f]
  simp only [Option.bind_some, decide_eq_true_eq]
  rw [if_neg (show ¬ (L.length : Int) > 4 by omega), if_pos hb, decide_eq_true hm, ecf_Pick.j0, if_neg (show ¬ ((!true) = true) by decide), hf1, hs1]
  simp only [Option.bind_some]
  unfold pickOf
  by_cases h1 : s = -1
  · rw [if_pos h1, if_pos h1, ecf_Pick.j1, if_pos (by rw [h1]; rfl), h1]
  · obtain ⟨_, hfm, hsr, hfr, hsr2⟩ := may_of_room hf hs h1
    have c1 := hfr.1
    have c2 := hfr.2
    have c3 := hsr2.1
    have c4 := hsr2.2
    rw [if_neg h1, if_neg h1]
    simp only [c1, c2, if_true, croom_f, Option.bind_some]
    rw [ecf_Pick.j1]
    by_cases h2 : roomB m (rd_T28 L f) = true
    · rw [if_pos h2, if_pos h2]
    · rw [if_neg h2, if_neg h2]
      simp only [c1, c2, c3, c4, if_true]
      rw [waited_f k (by omega) _ _ b w (mayB_iff.mp hfm) (mayB_iff.mp (room_may hsr)) hb.1 hb.2, Option.bind_some]
      by_cases h3 : waitB (rd_T28 L f) (rd_T28 L s) b w = true
      · rw [if_pos h3, if_pos h3]
      · rw [if_neg h3, if_neg h3]
/-- What Pick tells: one of three. -/
theorem pickOf_or (L : List S28) (b m : Int) (w : Bool) (f s : Int) : pickOf L b m w f s = (s, false) ∨ (pickOf L b m w f s = (-1, true) ∧ s ≠ -1 ∧ ¬ roomB m (rd_T28 L f) = true ∧ waitB (rd_T28 L f) (rd_T28 L s) b w = true) := by
  unfold pickOf
  by_cases h1 : s = -1
  · rw [if_pos h1, h1]; exact .inl rfl
  · rw [if_neg h1]
    by_cases h2 : roomB m (rd_T28 L f) = true
    · rw [if_pos h2]; exact .inl rfl
    · rw [if_neg h2]
      by_cases h3 : waitB (rd_T28 L f) (rd_T28 L s) b w = true
      · rw [if_pos h3]; exact .inr ⟨rfl, h1, h2, h3⟩
      · rw [if_neg h3]; exact .inl rfl

theorem fast_of {P : S28 → Bool} {L : List S28} {n a b : Int} (h : IsFast P L n a) (g : IsFast P L n b) : a = b := h.one g
theorem awake_f (k : Nat) (hk : 1003 ≤ k) : fourinhandlaw18_awake.f k = some true := by
  unfold fourinhandlaw18_awake.f
  obtain ⟨f, s, hf, hs, hp⟩ := Pick_yes k hk [(⟨true, 1000, 0, 10, 0⟩ : S28)] 5 100 false (by decide)
  obtain ⟨f2, s2, hf2, hs2, hp2⟩ := Pick_yes k hk [(⟨true, 1000, 1000, 10, 0⟩ : S28), ⟨true, 1000, 0, 1000, 0⟩] 5 100 false (by decide)
  have one : ∀ i : Int, 0 ≤ i → i < 1 → i = 0 := fun i h0 h1 => by omega
  have two : ∀ i : Int, 0 ≤ i → i < 2 → i = 0 ∨ i = 1 := fun i h0 h1 => by omega
  have e1 : f = 0 := hf.one (.inr ⟨by decide, by decide, by decide, fun i h0 h1 _ => by rw [one i h0 h1]; omega, fun i h0 h1 _ => by omega⟩)
  have e2 : s = 0 := hs.one (.inr ⟨by decide, by decide, by decide, fun i h0 h1 _ => by rw [one i h0 h1]; omega, fun i h0 h1 _ => by omega⟩)
  have e3 : f2 = 0 := hf2.one (.inr ⟨by decide, by decide, by decide, fun i h0 h1 _ => by rcases two i h0 h1 with h | h <;> rw [h] <;> decide, fun i h0 h1 _ => by omega⟩)
  have e4 : s2 = 1 := hs2.one (.inr ⟨by decide, by decide, by decide, fun i h0 h1 hi => by
    rcases two i h0 h1 with h | h
    · rw [h] at hi; exact absurd hi (by decide)
    · rw [h]; omega, fun i h0 h1 hi => by
      have : i = 0 := by omega
      rw [this] at hi; exact absurd hi (by decide)⟩)
  have r1 : pickOf [(⟨true, 1000, 0, 10, 0⟩ : S28)] 5 100 false f s = (0, false) := by rw [e1, e2]; decide
  have r2 : pickOf [(⟨true, 1000, 1000, 10, 0⟩ : S28), ⟨true, 1000, 0, 1000, 0⟩] 5 100 false f2 s2 = (-1, true) := by rw [e3, e4]; decide
  have q1 : ecf_May.f true 1000 0 10 0 = some true := (cmay_f ⟨true, 1000, 0, 10, 0⟩).trans (by decide)
  have q2 : ecf_Room.f true 1000 0 10 0 1000 = some true := (croom_f ⟨true, 1000, 0, 10, 0⟩ 1000).trans (by decide)
  rw [hp, hp2, r1, r2]
  simp only [Option.bind_some, q1, q2]
  rfl

theorem dbrief_f (a : Int) : fourinhandref18_brief.f a = some (decide (0 ≤ a ∧ a ≤ 1099511627776)) := by
  unfold fourinhandref18_brief.f
  by_cases h : a ≥ 0
  · rw [if_pos h]; exact congrArg some (decide_eq_decide.mpr ⟨fun h' => ⟨h, h'⟩, fun h' => h'.2⟩)
  · rw [if_neg h]; exact congrArg some (decide_eq_false (fun h' => h h'.1)).symm
theorem dcmay_f (x : S28) : fourinhandref18_May.f x.f0 x.f1 x.f2 x.f3 x.f4 = some (mayB x) := by
  unfold fourinhandref18_May.f
  simp only [dbrief_f, Option.bind_some, decide_eq_true_eq]
  have no : ¬ CMay x → some false = some (mayB x) := fun h => congrArg some (decide_eq_false h).symm
  by_cases h0 : x.f0 = true
  · rw [if_pos h0]
    by_cases h1 : x.f1 ≥ 1
    · rw [if_pos h1]
      by_cases h1' : x.f1 ≤ 1073741824
      · rw [if_pos h1']
        by_cases h2 : 0 ≤ x.f2 ∧ x.f2 ≤ 1099511627776
        · rw [if_pos h2]
          by_cases h3 : 0 ≤ x.f3 ∧ x.f3 ≤ 1099511627776
          · rw [if_pos h3]
            exact congrArg some (decide_eq_decide.mpr ⟨fun h => ⟨h0, ⟨h1, h1'⟩, h2, h3, h⟩, fun h => h.2.2.2.2⟩)
          · rw [if_neg h3]; exact no (fun h => h3 h.2.2.2.1)
        · rw [if_neg h2]; exact no (fun h => h2 h.2.2.1)
      · rw [if_neg h1']; exact no (fun h => h1' h.2.1.2)
    · rw [if_neg h1]; exact no (fun h => h1 h.2.1.1)
  · rw [if_neg h0]; exact no (fun h => h0 h.1)
theorem dcroom_f (x : S28) (m : Int) : fourinhandref18_Room.f x.f0 x.f1 x.f2 x.f3 x.f4 m = some (roomB m x) := by
  unfold fourinhandref18_Room.f
  rw [dcmay_f, Option.bind_some]
  have no : ¬ CRoom m x → some false = some (roomB m x) := fun h => congrArg some (decide_eq_false h).symm
  by_cases h0 : mayB x = true
  · rw [if_pos h0]
    have h0 := mayB_iff.mp h0
    by_cases h1 : m ≥ 1
    · rw [if_pos h1]
      by_cases h1' : m ≤ 1460
      · have h2 := h0.2.2.1
        rw [if_pos h1', wrap64_id (x.f2 + m) (by omega) (by omega)]
        exact congrArg some (decide_eq_decide.mpr ⟨fun h => ⟨h0, ⟨h1, h1'⟩, h⟩, fun h => h.2.2⟩)
      · rw [if_neg h1']; exact no (fun h => h1' h.2.1.2)
    · rw [if_neg h1]; exact no (fun h => h1 h.2.1.1)
  · rw [if_neg h0]; exact no (fun h => h0 (mayB_iff.mpr h.1))
theorem prod_split (p q r s : Int) : (4194304 * p + q) * (4194304 * r + s) = 17592186044416 * (p * r) + 4194304 * (p * s + q * r) + q * s := by grind
theorem highlow_f (a b : Int) (a0 : 0 ≤ a) (a1 : a ≤ 8796093022208) (b0 : 0 ≤ b) (b1 : b ≤ 8796093022208) : fourinhandref18_high.f a b = some (a * b / 17592186044416) ∧ fourinhandref18_low.f a b = some (a * b % 17592186044416) := by
  unfold fourinhandref18_high.f fourinhandref18_low.f
  rw [Int.tdiv_eq_ediv_of_nonneg a0, Int.tdiv_eq_ediv_of_nonneg b0, Int.tmod_eq_emod_of_nonneg a0, Int.tmod_eq_emod_of_nonneg b0]
  have e1 : a = 4194304 * (a / 4194304) + a % 4194304 := by omega
  have e2 : b = 4194304 * (b / 4194304) + b % 4194304 := by omega
  have hx := prod_split (a / 4194304) (a % 4194304) (b / 4194304) (b % 4194304)
  rw [← e1, ← e2] at hx
  have g1 := mul_le_of (a / 4194304) (b / 4194304) 2097152 2097152 (by omega) (by omega) (by omega) (by omega)
  have g2 := mul_le_of (a / 4194304) (b % 4194304) 2097152 4194303 (by omega) (by omega) (by omega) (by omega)
  have g3 := mul_le_of (a % 4194304) (b / 4194304) 4194303 2097152 (by omega) (by omega) (by omega) (by omega)
  have g4 := mul_le_of (a % 4194304) (b % 4194304) 4194303 4194303 (by omega) (by omega) (by omega) (by omega)
  rw [hx]
  have w1 : wrap64 (a / 4194304) = a / 4194304 := wrap64_id _ (by omega) (by omega)
  have w2 : wrap64 (b / 4194304) = b / 4194304 := wrap64_id _ (by omega) (by omega)
  rw [w1, w2]
  generalize a / 4194304 * (b / 4194304) = PR at *
  generalize a / 4194304 * (b % 4194304) = PS at *
  generalize a % 4194304 * (b / 4194304) = QR at *
  generalize a % 4194304 * (b % 4194304) = QS at *
  rw [wrap64_id PR (by omega) (by omega), wrap64_id PS (by omega) (by omega), wrap64_id QR (by omega) (by omega), wrap64_id QS (by omega) (by omega), wrap64_id (PS + QR) (by omega) (by omega), Int.tdiv_eq_ediv_of_nonneg (show 0 ≤ PS + QR by omega), Int.tmod_eq_emod_of_nonneg (show 0 ≤ PS + QR by omega)]
  rw [wrap64_id ((PS + QR) / 4194304) (by omega) (by omega), wrap64_id ((PS + QR) % 4194304 * 4194304) (by omega) (by omega), wrap64_id (QS + (PS + QR) % 4194304 * 4194304) (by omega) (by omega), Int.tdiv_eq_ediv_of_nonneg (show 0 ≤ QS + (PS + QR) % 4194304 * 4194304 by omega), Int.tmod_eq_emod_of_nonneg (show 0 ≤ QS + (PS + QR) % 4194304 * 4194304 by omega)]
  rw [wrap64_id ((QS + (PS + QR) % 4194304 * 4194304) / 17592186044416) (by omega) (by omega), wrap64_id (PR + (PS + QR) / 4194304) (by omega) (by omega), wrap64_id (PR + (PS + QR) / 4194304 + (QS + (PS + QR) % 4194304 * 4194304) / 17592186044416) (by omega) (by omega)]
  exact ⟨congrArg some (by omega), congrArg some (by omega)⟩
theorem below_f (a b c d : Int) (a0 : 0 ≤ a) (a1 : a ≤ 8796093022208) (b0 : 0 ≤ b) (b1 : b ≤ 8796093022208) (c0 : 0 ≤ c) (c1 : c ≤ 8796093022208) (d0 : 0 ≤ d) (d1 : d ≤ 8796093022208) : fourinhandref18_below.f a b c d = some (decide (a * b < c * d)) := by
  unfold fourinhandref18_below.f
  have h1 := highlow_f a b a0 a1 b0 b1
  have h2 := highlow_f c d c0 c1 d0 d1
  rw [h1.1, h2.1, h1.2, h2.2]
  simp only [Option.bind_some]
  generalize a * b = X
  generalize c * d = Y
  by_cases h : X / 17592186044416 = Y / 17592186044416
  · rw [if_pos h]; exact congrArg some (decide_eq_decide.mpr ⟨fun g => by omega, fun g => by omega⟩)
  · rw [if_neg h]; exact congrArg some (decide_eq_decide.mpr ⟨fun g => by omega, fun g => by omega⟩)
theorem tm_lt {a b y : Int} (hy : y ≤ 4000000000000000000) : tm a b < y ↔ a * b < y := by
  unfold tm
  split <;> omega
theorem tm_small {a b : Int} (h : a * b ≤ 4000000000000000000) : tm a b = a * b := by
  unfold tm; rw [if_pos (by omega)]
theorem dend (k : Nat) (hk : 4 ≤ k) (L : List S28) (b m : Int) (w : Bool) (f s : Int) (hb0 : 1 ≤ b) (hb1 : b ≤ 1099511627776) (hf : IsFast mayB L L.length f) (hs : IsFast (roomB m) L L.length s) : fourinhandref18_Pick.l0 k L b m w f s (L.length : Int) = some (pickOf L b m w f s) := by
  obtain ⟨k, rfl⟩ : ∃ j, k = j + 4 := ⟨k - 4, by omega⟩
  rw [fourinhandref18_Pick.l0, if_neg (show ¬ (L.length : Int) < (L.length : Int) by omega)]
  by_cases h1 : s = -1
  · rw [if_pos (show s < 0 by omega)]; unfold pickOf; rw [if_pos h1]
  · obtain ⟨_, hfm, hsr, hfr, hsr2⟩ := may_of_room hf hs h1
    have c1 := hfr.1
    have c2 := hfr.2
    have c3 := hsr2.1
    have c4 := hsr2.2
    unfold pickOf
    rw [if_neg (show ¬ s < 0 by omega), if_neg h1]
    simp only [c1, c2, if_true, dcroom_f, Option.bind_some]
    by_cases h2 : roomB m (rd_T28 L f) = true
    · rw [if_pos h2, if_pos h2]
    · rw [if_neg h2, if_neg h2]
      simp only [c3, c4, if_true]
      obtain ⟨_, f1, _, f3, f4⟩ := mayB_iff.mp hfm
      obtain ⟨_, s1, _, s3, s4⟩ := mayB_iff.mp (room_may hsr)
      have hw : ∀ (d : Int), d = mx (rd_T28 L f).f4 (rd_T28 L s).f4 → fourinhandref18_Pick.j5 (k + 3) L b w f s d = some (if waitB (rd_T28 L f) (rd_T28 L s) b w = true then (-1, true) else (s, false)) := by
        intro d hd
        have hd1 : 0 ≤ d ∧ d ≤ 1099511627776 := by rw [hd]; unfold mx; split <;> omega
        unfold waitB
        rw [← hd]
        generalize hF : rd_T28 L f = F at *
        generalize hS : rd_T28 L s = S at *
        have q1 := (div_between b F.f1 f1.1).1 (by omega)
        have q2 := (div_between b S.f1 s1.1).1 (by omega)
        have n1 : ¬ F.f1 = 0 := by omega
        have n2 : ¬ S.f1 = 0 := by omega
        have hj7 : ∀ p : Int, 4 ≤ p → p ≤ 5 → fourinhandref18_Pick.j6 (k + 2) L b f s d p = some (if (decide (tm (4 * (1 + b / F.f1)) F.f3 < tm p (S.f3 + d)) && decide (2 * F.f3 + d ≤ tm (b / S.f1 + 1) S.f3)) = true then (-1, true) else (s, false)) := by
          intro p p0 p1
          rw [fourinhandref18_Pick.j6]
          simp only [c1, c2, c3, c4, if_true, hF, hS, n1, n2, if_false]
          rw [Int.tdiv_eq_ediv_of_nonneg (show 0 ≤ b by omega), Int.tdiv_eq_ediv_of_nonneg (show 0 ≤ b by omega)]
          generalize b / F.f1 = x at *
          generalize b / S.f1 = y at *
          have hc : y + 1 = 1 + y := by omega
          rw [hc, wrap64_id x (by omega) (by omega), wrap64_id (1 + x) (by omega) (by omega), wrap64_id (4 * (1 + x)) (by omega) (by omega), wrap64_id y (by omega) (by omega), wrap64_id (1 + y) (by omega) (by omega), wrap64_id (S.f3 + d) (by omega) (by omega), wrap64_id (2 * F.f3) (by omega) (by omega), wrap64_id (2 * F.f3 + d) (by omega) (by omega)]
          rw [below_f (4 * (1 + x)) F.f3 p (S.f3 + d) (by omega) (by omega) (by omega) (by omega) (by omega) (by omega) (by omega) (by omega), below_f (1 + y) S.f3 1 (2 * F.f3 + d) (by omega) (by omega) (by omega) (by omega) (by omega) (by omega) (by omega) (by omega)]
          simp only [Option.bind_some, decide_eq_true_eq, Bool.and_eq_true, Int.one_mul]
          have hp : p * (S.f3 + d) ≤ 4000000000000000000 := by
            have := Int.mul_le_mul_of_nonneg_right p1 (show 0 ≤ S.f3 + d by omega)
            omega
          rw [tm_small hp]
          have k1 := tm_lt (a := 4 * (1 + x)) (b := F.f3) hp
          have k2 := tm_lt (a := 1 + y) (b := S.f3) (y := 2 * F.f3 + d) (by omega)
          by_cases z1 : 4 * (1 + x) * F.f3 < p * (S.f3 + d)
          · rw [if_pos z1, fourinhandref18_Pick.j7]
            by_cases z2 : (1 + y) * S.f3 < 2 * F.f3 + d
            · have z3 : ¬ (2 * F.f3 + d ≤ tm (1 + y) S.f3) := by have := k2.mpr z2; omega
              rw [decide_eq_true z2, if_neg (by decide), if_neg (fun h => z3 h.2)]
            · have z3 : 2 * F.f3 + d ≤ tm (1 + y) S.f3 := by
                by_cases z4 : tm (1 + y) S.f3 < 2 * F.f3 + d
                · exact absurd (k2.mp z4) z2
                · omega
              rw [decide_eq_false z2, if_pos (by decide), if_pos ⟨k1.mpr z1, z3⟩]
          · rw [if_neg z1, fourinhandref18_Pick.j7, if_neg (by decide), if_neg (fun h => z1 (k1.mp h.1))]
        rw [fourinhandref18_Pick.j5]
        cases w with
        | true => rw [if_pos rfl, hj7 5 (by omega) (by omega)]; rfl
        | false => rw [if_neg (by decide), hj7 4 (by omega) (by omega)]; rfl
      by_cases h3 : (rd_T28 L s).f4 > (rd_T28 L f).f4
      · rw [if_pos h3, hw _ (by unfold mx; rw [if_pos (by omega)])]
      · rw [if_neg h3, hw _ (by unfold mx; split <;> omega)]
theorem dpick_loop (L : List S28) (b m : Int) (w : Bool) (hb0 : 1 ≤ b) (hb1 : b ≤ 1099511627776) (hlen : L.length ≤ 4) : ∀ (j k n : Nat) (f s : Int), n + j = L.length → 5 * j + 4 ≤ k → IsFast mayB L n f → IsFast (roomB m) L n s → ∃ f' s', IsFast mayB L L.length f' ∧ IsFast (roomB m) L L.length s' ∧ fourinhandref18_Pick.l0 k L b m w f s (n : Int) = some (pickOf L b m w f' s') := by
  intro j
  induction j with
  | zero =>
    intro k n f s hn hk hf hs
    have e : (n : Int) = (L.length : Int) := by omega
    rw [e] at hf hs ⊢
    exact ⟨f, s, hf, hs, dend k (by omega) L b m w f s hb0 hb1 hf hs⟩
  | succ j ih =>
    intro k n f s hn hk hf hs
    obtain ⟨k, rfl⟩ : ∃ j, k = j + 5 := ⟨k - 5, by omega⟩
    have e1 : (n : Int) + 1 = ((n + 1 : Nat) : Int) := by omega
    have c1 : (n : Int) < (L.length : Int) := by omega
    have c2 : 0 ≤ (n : Int) := by omega
    have last : ∀ f' s' : Int, IsFast mayB L ((n : Int) + 1) f' → IsFast (roomB m) L ((n : Int) + 1) s' → ∃ f'' s'', IsFast mayB L L.length f'' ∧ IsFast (roomB m) L L.length s'' ∧ fourinhandref18_Pick.l0 (k + 1) L b m w f' s' (wrap64 ((n : Int) + 1)) = some (pickOf L b m w f'' s'') := by
      intro f' s' h1 h2
      rw [wrap64_id ((n : Int) + 1) (by omega) (by omega)]
      rw [e1] at h1 h2 ⊢
      exact ih (k + 1) (n + 1) f' s' (by omega) (by omega) h1 h2
    have two : ∀ f' : Int, IsFast mayB L ((n : Int) + 1) f' → ∃ f'' s'', IsFast mayB L L.length f'' ∧ IsFast (roomB m) L L.length s'' ∧ fourinhandref18_Pick.j3 (k + 3) L b m w f' s (n : Int) (roomB m (rd_T28 L n)) = some (pickOf L b m w f'' s'') := by
      intro f' h1
      rw [fourinhandref18_Pick.j3]
      by_cases hp : roomB m (rd_T28 L n) = true
      · rw [if_pos hp]
        by_cases hs1 : s < 0
        · have : s = -1 := by rcases hs.range with h | h <;> omega
          subst this
          rw [if_pos hs1, fourinhandref18_Pick.j4, if_pos rfl]
          exact last f' _ h1 (hs.first c2 hp)
        · have hr := hs.range
          have c3 : 0 ≤ s := by omega
          have c4 : s < (L.length : Int) := by omega
          rw [if_neg hs1]
          simp only [c1, c2, c3, c4, if_true]
          by_cases hlt : (rd_T28 L n).f3 < (rd_T28 L s).f3
          · rw [decide_eq_true hlt, fourinhandref18_Pick.j4, if_pos rfl]
            exact last f' _ h1 (hs.less c2 (by omega) hp hlt)
          · rw [decide_eq_false hlt, fourinhandref18_Pick.j4, if_neg (by decide)]
            exact last f' _ h1 (hs.more (by omega) hlt)
      · rw [if_neg hp, fourinhandref18_Pick.j4, if_neg (by decide)]
        exact last f' _ h1 (hs.skip (Bool.eq_false_iff.mpr hp))
    rw [fourinhandref18_Pick.l0]
    simp only [c1, c2, if_true, dcmay_f, dcroom_f, Option.bind_some]
    by_cases hp : mayB (rd_T28 L n) = true
    · rw [if_pos hp]
      by_cases hf1 : f < 0
      · have : f = -1 := by rcases hf.range with h | h <;> omega
        subst this
        rw [if_pos hf1, fourinhandref18_Pick.j2, if_pos rfl]
        exact two _ (hf.first c2 hp)
      · have hr := hf.range
        have c3 : 0 ≤ f := by omega
        have c4 : f < (L.length : Int) := by omega
        rw [if_neg hf1]
        simp only [c3, c4, if_true]
        by_cases hlt : (rd_T28 L n).f3 < (rd_T28 L f).f3
        · rw [decide_eq_true hlt, fourinhandref18_Pick.j2, if_pos rfl]
          exact two _ (hf.less c2 (by omega) hp hlt)
        · rw [decide_eq_false hlt, fourinhandref18_Pick.j2, if_neg (by decide)]
          exact two _ (hf.more (by omega) hlt)
    · rw [if_neg hp, fourinhandref18_Pick.j2, if_neg (by decide)]
      exact two _ (hf.skip (Bool.eq_false_iff.mpr hp))
theorem dPick_no (k : Nat) (hk : 1 ≤ k) (L : List S28) (b m : Int) (w : Bool) (h : ¬ PFine L b m) : fourinhandref18_Pick.f k L b m w = some (-1, false) := by
  obtain ⟨k, rfl⟩ : ∃ m, k = m + 1 := ⟨k - 1, by omega⟩
  unfold fourinhandref18_Pick.f
  have bad : fourinhandref18_Pick.j0 (k + 1) L b m w true = some (-1, false) := by rw [fourinhandref18_Pick.j0, if_pos rfl]
  rw [dbrief_f]
  simp only [Option.bind_some, decide_eq_true_eq]
  by_cases h1 : (L.length : Int) > 4
  · rw [if_pos h1]; exact bad
  rw [if_neg h1]
  by_cases h2 : b < 1
  · rw [if_pos h2]; exact bad
  rw [if_neg h2]
  by_cases h3 : 0 ≤ b ∧ b ≤ 1099511627776
  · rw [if_pos h3]
    by_cases h4 : m < 1
    · rw [if_pos h4]; exact bad
    rw [if_neg h4]
    have h5 : m > 1460 := by
      by_cases h5 : m > 1460
      · exact h5
      · exact absurd ⟨by omega, by omega, by omega⟩ h
    rw [decide_eq_true h5]; exact bad
  · rw [if_neg h3]; exact bad
theorem dPick_yes (k : Nat) (hk : 100 ≤ k) (L : List S28) (b m : Int) (w : Bool) (h : PFine L b m) : ∃ f s, IsFast mayB L L.length f ∧ IsFast (roomB m) L L.length s ∧ fourinhandref18_Pick.f k L b m w = some (pickOf L b m w f s) := by
  obtain ⟨k, rfl⟩ : ∃ m, k = m + 1 := ⟨k - 1, by omega⟩
  obtain ⟨hl, hb, hm⟩ := h
  have n1 : ¬ m > 1460 := by omega
  unfold fourinhandref18_Pick.f
  rw [dbrief_f]
  simp only [Option.bind_some, decide_eq_true_eq]
  rw [if_neg (show ¬ (L.length : Int) > 4 by omega), if_neg (show ¬ b < 1 by omega), if_pos (show 0 ≤ b ∧ b ≤ 1099511627776 by omega), if_neg (show ¬ m < 1 by omega), decide_eq_false n1, fourinhandref18_Pick.j0, if_neg (show ¬ (false = true) by decide)]
  exact dpick_loop L b m w hb.1 hb.2 hl L.length k 0 (-1) (-1) (by omega) (by omega) (IsFast.zero _ _) (IsFast.zero _ _)
theorem tells_loop (L : List S28) (hl : L.length ≤ 20) (m a : Int) (x : Bool) : ∀ (j k n : Nat), n + j = L.length → j < k → fourinhandlaw18_EcfTells.l0 k L m a x a x (n : Int) = some true := by
  intro j
  induction j with
  | zero =>
    intro k n hn hk
    obtain ⟨k, rfl⟩ : ∃ m, k = m + 1 := ⟨k - 1, by omega⟩
    rw [fourinhandlaw18_EcfTells.l0, if_neg (show ¬ (n : Int) < (L.length : Int) by omega), if_pos rfl]
    simp
  | succ j ih =>
    intro k n hn hk
    obtain ⟨k, rfl⟩ : ∃ m, k = m + 1 := ⟨k - 1, by omega⟩
    have e1 : (n : Int) + 1 = ((n + 1 : Nat) : Int) := by omega
    have c1 : (n : Int) < (L.length : Int) := by omega
    have c2 : 0 ≤ (n : Int) := by omega
    rw [fourinhandlaw18_EcfTells.l0]
    simp only [c1, c2, if_true, cmay_f, croom_f, dcmay_f, dcroom_f, Option.bind_some, bne_self_eq_false, Bool.false_eq_true, if_false]
    rw [wrap64_id ((n : Int) + 1) (by omega) (by omega), e1]
    exact ih k (n + 1) (by omega) (by omega)
theorem EcfTells : fourinhandlaw18_EcfTells.Pure := by
  intro L b m w _ _ _
  obtain ⟨K, hK⟩ : ∃ K : Nat, K = 1102 := ⟨_, rfl⟩
  refine ⟨K + 1, ?_⟩
  unfold fourinhandlaw18_EcfTells.f
  rw [awake_f (K + 1) (by omega), Option.bind_some, if_pos rfl]
  by_cases h0 : (L.length : Int) > 20
  · rw [decide_eq_true h0, fourinhandlaw18_EcfTells.j0, if_pos rfl]
  rw [decide_eq_false h0, fourinhandlaw18_EcfTells.j0, if_neg (by decide)]
  have key : ∃ x, ecf_Pick.f K L b m w = some x ∧ fourinhandref18_Pick.f K L b m w = some x := by
    by_cases hp : PFine L b m
    · obtain ⟨f, s, hf, hs, hq⟩ := Pick_yes K (by omega) L b m w hp
      obtain ⟨f', s', hf', hs', hq'⟩ := dPick_yes K (by omega) L b m w hp
      obtain rfl := hf.one hf'
      obtain rfl := hs.one hs'
      exact ⟨_, hq, hq'⟩
    · exact ⟨_, Pick_no K (by omega) L b m w hp, dPick_no K (by omega) L b m w hp⟩
  obtain ⟨x, h1, h2⟩ := key
  rw [h1, h2]
  simp only [Option.bind_some]
  exact tells_loop L (by omega) m x.1 x.2 L.length K 0 (by omega) (by omega)

end Go.Proofs.Ytjdjliaachcofaa.Pure
