/- Of no timers none is the first; of one that may be that is; of two lists it is the first of both's first ones: for every input, without a condition. -/
import Derived.Test.YtiilmjmgomcipaaPTimerFirstx7
import Derived.Test.YtiilmjmgomcipaaStmtTimerFirst
import Derived.Laws.BitsLemmas
import Derived.Laws.Bits64
namespace Go.Proofs.Ytiilmjmgomcipaa.Pure
open Go.RowKit Go.Proofs.Ytiilmjmgomcipaa.PTimerFirst Go.Proofs.YtiilmjmgomcipaaW.PrintWords Go.Proofs.YtiilmjmgomcipaaW.PrintLast Go.Proofs.YtiilmjmgomcipaaW.PrintMore
theorem wrap64_id (n : Int) (h0 : -9223372036854775808 ≤ n) (h1 : n < 9223372036854775808) : wrap64 n = n := by unfold wrap64; omega
theorem mul_le_of (a b A B : Int) (h0 : 0 ≤ a) (h1 : a ≤ A) (h2 : 0 ≤ b) (h3 : b ≤ B) : 0 ≤ a * b ∧ a * b ≤ A * B :=
  ⟨Int.mul_nonneg h0 h2, Int.mul_le_mul h1 h3 h2 (by omega)⟩

/-! ### how long answers take -/
theorem rin_f (a b c : Int) : rtt_in.f a b c = some (decide (b ≤ a ∧ a ≤ c)) := by
  unfold rtt_in.f
  by_cases h : a ≥ b
  · rw [if_pos h]; exact congrArg some (decide_eq_decide.mpr ⟨fun h' => ⟨h, h'⟩, fun h' => h'.2⟩)
  · rw [if_neg h]; exact congrArg some (decide_eq_false (fun h' => h h'.1)).symm
def RMay (has : Bool) (s v t sh : Int) : Prop := (0 ≤ s ∧ s ≤ 1152921504606846976) ∧ (0 ≤ v ∧ v ≤ 1152921504606846976) ∧ (0 ≤ t ∧ t ≤ 1152921504606846976) ∧ (0 ≤ sh ∧ sh ≤ 16) ∧ (has = true ∨ (s = 0 ∧ v = 0))
instance (has : Bool) (s v t sh : Int) : Decidable (RMay has s v t sh) := inferInstanceAs (Decidable (_ ∧ _))
theorem May_f (k : Nat) (hk : 1 ≤ k) (has : Bool) (s v t sh : Int) : rtt_May.f k has s v t sh = some (decide (RMay has s v t sh)) := by
  obtain ⟨k, rfl⟩ : ∃ j, k = j + 1 := ⟨k - 1, by omega⟩
  have base : ((rtt_in.f s 0 1152921504606846976).bind fun t102 => (if t102 = true then ((rtt_in.f v 0 1152921504606846976).bind fun t103 => (if t103 = true then ((rtt_in.f t 0 1152921504606846976).bind fun t104 => (if t104 = true then ((rtt_in.f sh 0 16).bind fun t105 => (some t105)) else (some false))) else (some false))) else (some false))) = some (decide ((0 ≤ s ∧ s ≤ 1152921504606846976) ∧ (0 ≤ v ∧ v ≤ 1152921504606846976) ∧ (0 ≤ t ∧ t ≤ 1152921504606846976) ∧ (0 ≤ sh ∧ sh ≤ 16))) := by
    simp only [rin_f, Option.bind_some, decide_eq_true_eq]
    by_cases h1 : 0 ≤ s ∧ s ≤ 1152921504606846976
    · rw [if_pos h1]
      by_cases h2 : 0 ≤ v ∧ v ≤ 1152921504606846976
      · rw [if_pos h2]
        by_cases h3 : 0 ≤ t ∧ t ≤ 1152921504606846976
        · rw [if_pos h3]; simp [h1, h2, h3]
        · rw [if_neg h3]; simp [h3]
      · rw [if_neg h2]; simp [h2]
    · rw [if_neg h1]; simp [h1]
  unfold rtt_May.f
  cases has with
  | true =>
    rw [if_pos rfl, rtt_May.j0, if_neg (by decide), base]
    exact congrArg some (decide_eq_decide.mpr ⟨fun h => ⟨h.1, h.2.1, h.2.2.1, h.2.2.2, .inl rfl⟩, fun h => ⟨h.1, h.2.1, h.2.2.1, h.2.2.2.1⟩⟩)
  | false =>
    rw [if_neg (by decide), rtt_May.j0, base]
    by_cases h : s = 0 ∧ v = 0
    · obtain ⟨rfl, rfl⟩ := h
      rw [if_neg (by decide)]
      exact congrArg some (decide_eq_decide.mpr ⟨fun h => ⟨h.1, h.2.1, h.2.2.1, h.2.2.2, .inr ⟨rfl, rfl⟩⟩, fun h => ⟨h.1, h.2.1, h.2.2.1, h.2.2.2.1⟩⟩)
    · rw [if_pos]
      · exact congrArg some (decide_eq_false (fun h' => by rcases h'.2.2.2.2 with h' | h'; exact absurd h' (by decide); exact h h')).symm
      · simp only [Bool.false_or, Bool.or_eq_true, Bool.not_eq_true', beq_eq_false_iff_ne, ne_eq]
        omega

/-- How long is waited. -/
def waited (has : Bool) (t sh most : Int) : Int := mn (mn (if has = true then t else 1000000) most * 2 ^ sh.toNat) most
theorem mn_le (a b : Int) : mn a b ≤ a ∧ mn a b ≤ b ∧ (mn a b = a ∨ mn a b = b) := by unfold mn; split <;> omega
theorem mx_ge (a b : Int) : a ≤ mx a b ∧ b ≤ mx a b ∧ (mx a b = a ∨ mx a b = b) := by unfold mx; split <;> omega
theorem two_pow_pos' (n : Nat) : (1 : Int) ≤ 2 ^ n := by have h2 : (0 : Int) < 2 ^ n := Int.pow_pos (by omega); omega
theorem two_pow_le16 (sh : Int) (h0 : 0 ≤ sh) (h : sh ≤ 16) : (2 : Int) ^ sh.toNat ≤ 65536 := by
  have h1 : (2 : Nat) ^ sh.toNat ≤ 2 ^ 16 := Nat.pow_le_pow_right (by decide) (by omega)
  have h2 : (2 : Int) ^ sh.toNat = ((2 ^ sh.toNat : Nat) : Int) := by simp
  rw [h2]; omega
theorem shl_small64 (x sh : Int) (h0 : 0 ≤ x) (h1 : x ≤ 1099511627776) (h2 : 0 ≤ sh) (h3 : sh ≤ 16) : shl .i64 x sh = x * 2 ^ sh.toNat := by
  unfold shl
  have e : min sh.toNat IntKind.i64.bits = sh.toNat := by simp [IntKind.bits]; omega
  have h := mul_le_of x (2 ^ sh.toNat) 1099511627776 65536 h0 h1 (by have := two_pow_pos' sh.toNat; omega) (two_pow_le16 sh h2 h3)
  rw [e, IntKind.wrap_i64]; omega
theorem Wait_yes (k : Nat) (hk : 2 ≤ k) {has : Bool} {s v t sh most : Int} (h : RMay has s v t sh) (h1 : 1 ≤ most) (h2 : most ≤ 1099511627776) : rtt_Wait.f k has s v t sh most = some (waited has t sh most) := by
  obtain ⟨k, rfl⟩ : ∃ j, k = j + 1 := ⟨k - 1, by omega⟩
  unfold rtt_Wait.f waited
  rw [May_f _ (by omega), rin_f]
  have hmo : 1 ≤ most ∧ most ≤ 1099511627776 := ⟨h1, h2⟩
  simp only [Option.bind_some, h, hmo, decide_true, and_self, if_true, Bool.not_true, rtt_Wait.j0, Bool.false_eq_true, if_false]
  obtain ⟨_, _, m3, m4, _⟩ := h
  cases has with
  | true =>
    have := mn_le t most
    rw [if_pos rfl, if_pos m4.1, shl_small64 _ _ (by omega) (by omega) m4.1 m4.2]; rfl
  | false =>
    have := mn_le 1000000 most
    rw [if_neg (by decide), if_pos m4.1, shl_small64 _ _ (by omega) (by omega) m4.1 m4.2]; rfl
theorem Wait_no (k : Nat) (hk : 2 ≤ k) {has : Bool} {s v t sh most : Int} (h : ¬ (RMay has s v t sh ∧ 1 ≤ most ∧ most ≤ 1099511627776)) : rtt_Wait.f k has s v t sh most = some 0 := by
  obtain ⟨k, rfl⟩ : ∃ j, k = j + 1 := ⟨k - 1, by omega⟩
  unfold rtt_Wait.f
  rw [May_f _ (by omega), rin_f]
  simp only [Option.bind_some, decide_eq_true_eq]
  by_cases h1 : RMay has s v t sh
  · rw [if_pos h1]
    have h2 : ¬ (1 ≤ most ∧ most ≤ 1099511627776) := fun h2 => h ⟨h1, h2⟩
    simp only [h2, decide_false, Bool.not_false, rtt_Wait.j0, if_true]
  · rw [if_neg h1]; simp only [rtt_Wait.j0, if_true]

/-! ### timers: what was sent, when a timer goes off -/
def oneB (x : S32) : Bool := Hand.inB x.f0 0 1152921504606846976 && (Hand.inB x.f2 0 1152921504606846976 && (Hand.inB x.f3 0 1152921504606846976 && (Hand.inB x.f7 0 1152921504606846976 && (Hand.inB x.f8 0 1152921504606846976 && (Hand.inB x.f1 1 1460 && (Hand.inB x.f4 1 1000 && !(x.f5 && x.f6)))))))
theorem one_f (x : S32) : sent_one.f x.f0 x.f1 x.f2 x.f3 x.f4 x.f5 x.f6 x.f7 x.f8 = some (oneB x) := rfl
def linkB : Option S32 → S32 → Bool
  | none, _ => true
  | some p, x => decide (x.f0 = wrap64 (p.f0 + p.f1))
def chainB : Option S32 → List S32 → Bool
  | _, [] => true
  | p, x :: l => oneB x && (linkB p x && chainB (some x) l)
def prev (L : List S32) (n : Nat) : Option S32 := if n = 0 then none else some (rd_T32 L ((n : Int) - 1))
theorem prev_succ (L : List S32) (n : Nat) : prev L (n + 1) = some (rd_T32 L n) := by
  unfold prev
  rw [if_neg (by omega)]
  have e : ((n + 1 : Nat) : Int) - 1 = n := by omega
  rw [e]
theorem rd_drop (l : List S32) (i : Nat) (h : i < l.length) : l.drop i = rd_T32 l i :: l.drop (i + 1) := by
  unfold rd_T32
  rw [List.drop_eq_getElem_cons h]
  simp [List.getD, List.getElem?_eq_getElem h]
theorem chain_loop (L : List S32) (hl : L.length ≤ 520) : ∀ (j k n : Nat), n + j = L.length → j < k → sent_chain.l0 k L L (L.length : Int) (n : Int) = some (chainB (prev L n) (L.drop n)) := by
  intro j
  induction j with
  | zero =>
    intro k n hn hk
    obtain ⟨k, rfl⟩ : ∃ m, k = m + 1 := ⟨k - 1, by omega⟩
    rw [sent_chain.l0, if_neg (by omega), List.drop_eq_nil_of_le (by omega)]
    rfl
  | succ j ih =>
    intro k n hn hk
    obtain ⟨k, rfl⟩ : ∃ m, k = m + 1 := ⟨k - 1, by omega⟩
    rw [sent_chain.l0, if_pos (by omega), if_pos (by omega), if_pos (by omega), one_f, Option.bind_some, rd_drop L n (by omega)]
    simp only [chainB]
    cases ho : oneB (rd_T32 L n) with
    | false => rw [if_neg (by decide)]; rfl
    | true =>
    rw [if_pos rfl, wrap64_id ((n : Int) + 1) (by omega) (by omega)]
    have e1 : (n : Int) + 1 = ((n + 1 : Nat) : Int) := by omega
    rw [e1, ih k (n + 1) (by omega) (by omega), prev_succ]
    by_cases h0 : (n : Int) > 0
    · rw [if_pos h0, wrap64_id ((n : Int) - 1) (by omega) (by omega), if_pos (by omega), if_pos (by omega)]
      have ep : prev L n = some (rd_T32 L ((n : Int) - 1)) := by unfold prev; rw [if_neg (by omega)]
      rw [ep]
      simp only [sent_end.f, Option.bind_some, linkB]
      by_cases h1 : (rd_T32 L n).f0 = wrap64 ((rd_T32 L ((n : Int) - 1)).f0 + (rd_T32 L ((n : Int) - 1)).f1)
      · rw [if_pos h1, decide_eq_true h1]; rfl
      · rw [if_neg h1, decide_eq_false h1]; rfl
    · rw [if_neg h0]
      have ep : prev L n = none := by unfold prev; rw [if_pos (by omega)]
      rw [ep]; rfl
def lmayB (l : List S32) : Bool := decide (l.length ≤ 500) && chainB none l
theorem lmay_f (k : Nat) (hk : 521 ≤ k) (l : List S32) (hl : l.length ≤ 520) : sent_May.f k l = some (lmayB l) := by
  unfold sent_May.f lmayB
  by_cases h : (l.length : Int) ≤ 500
  · rw [if_pos h]
    unfold sent_chain.f
    have h2 := chain_loop l hl l.length k 0 (by omega) (by omega)
    rw [show ((0 : Nat) : Int) = 0 from rfl] at h2
    have h3 : l.length ≤ 500 := by omega
    rw [h2, Option.bind_some, decide_eq_true h3]
    rfl
  · rw [if_neg h]
    have h3 : ¬ l.length ≤ 500 := by omega
    rw [decide_eq_false h3]; rfl
theorem tin_f (a b c : Int) : timer_in.f a b c = some (decide (b ≤ a ∧ a ≤ c)) := by
  unfold timer_in.f
  by_cases h : a ≥ b
  · rw [if_pos h]; exact congrArg some (decide_eq_decide.mpr ⟨fun h' => ⟨h, h'⟩, fun h' => h'.2⟩)
  · rw [if_neg h]; exact congrArg some (decide_eq_false (fun h' => h h'.1)).symm
/-- When the last part that waits was sent, and whether one waits. -/
def lastAt : List S32 → Int → Bool → Int × Bool
  | [], a, b => (a, b)
  | x :: l, a, b => if x.f5 = true then lastAt l a b else if x.f6 = true then lastAt l a b else lastAt l (mx a x.f3) true
theorem last_loop (L : List S32) (hl : L.length ≤ 520) : ∀ (j k n : Nat) (a : Int) (b : Bool), n + j = L.length → j < k → timer_last.l0 k a b L (L.length : Int) (n : Int) = some (lastAt (L.drop n) a b) := by
  intro j
  induction j with
  | zero =>
    intro k n a b hn hk
    obtain ⟨k, rfl⟩ : ∃ m, k = m + 1 := ⟨k - 1, by omega⟩
    rw [timer_last.l0, if_neg (by omega), List.drop_eq_nil_of_le (by omega)]
    rfl
  | succ j ih =>
    intro k n a b hn hk
    obtain ⟨k, rfl⟩ : ∃ m, k = m + 1 := ⟨k - 1, by omega⟩
    have e1 : (n : Int) + 1 = ((n + 1 : Nat) : Int) := by omega
    rw [timer_last.l0, if_pos (by omega), if_pos (by omega), if_pos (by omega), rd_drop L n (by omega), wrap64_id ((n : Int) + 1) (by omega) (by omega), e1]
    simp only [lastAt]
    rw [ih k (n + 1) a b (by omega) (by omega), ih k (n + 1) _ true (by omega) (by omega)]
    split
    · rfl
    · split <;> rfl
theorem last_f (k : Nat) (hk : 521 ≤ k) (l : List S32) (hl : l.length ≤ 520) : timer_last.f k l = some (lastAt l 0 false) :=
  last_loop l hl l.length k 0 0 false (by omega) (by omega)
def waitB (x : S32) : Bool := !x.f5 && !x.f6
theorem lastAt_two : ∀ (l : List S32) (a : Int) (b : Bool), (lastAt l a b).2 = (b || l.any waitB)
  | [], a, b => by simp [lastAt]
  | x :: l, a, b => by
    simp only [lastAt, List.any_cons, waitB]
    cases h5 : x.f5 <;> cases h6 : x.f6 <;> simp [lastAt_two l]
theorem lastAt_ge : ∀ (l : List S32) (a : Int) (b : Bool), a ≤ (lastAt l a b).1
  | [], a, b => by simp [lastAt]
  | x :: l, a, b => by
    simp only [lastAt]
    have h1 := lastAt_ge l a b
    have h2 := lastAt_ge l (mx a x.f3) true
    have h3 := mx_ge a x.f3
    split
    · exact h1
    · split
      · exact h1
      · omega
def SetFine (has : Bool) (s v t sh : Int) (l : List S32) (now most : Int) : Prop := RMay has s v t sh ∧ lmayB l = true ∧ (0 ≤ now ∧ now ≤ 1152921504606846976) ∧ (1 ≤ most ∧ most ≤ 1099511627776)
instance (has : Bool) (s v t sh : Int) (l : List S32) (now most : Int) : Decidable (SetFine has s v t sh l now most) := inferInstanceAs (Decidable (_ ∧ _))
def setOf (has : Bool) (s t sh : Int) (l : List S32) (probed : Bool) (now most : Int) : Int × Int × Int :=
  if (lastAt l 0 false).2 = true then (if has = true then (if probed = true then (2, mn (lastAt l 0 false).1 now + waited has t sh most, 0) else (1, mn (lastAt l 0 false).1 now + mn (waited has t sh most) (mx (2 * s) 1000), 0)) else (2, mn (lastAt l 0 false).1 now + waited has t sh most, 0)) else (0, 0, 0)
theorem waited_in {has : Bool} {s v t sh most : Int} (h : RMay has s v t sh) (h1 : 1 ≤ most) : 0 ≤ waited has t sh most ∧ waited has t sh most ≤ most := by
  unfold waited
  obtain ⟨_, _, m3, m4, _⟩ := h
  have h3 := mn_le (mn (if has = true then t else 1000000) most * 2 ^ sh.toNat) most
  have h4 := mn_le (if has = true then t else 1000000) most
  have h5 : 0 ≤ (if has = true then t else 1000000) := by split <;> omega
  have h6 : 0 ≤ mn (if has = true then t else 1000000) most * 2 ^ sh.toNat := Int.mul_nonneg (by omega) (by have := two_pow_pos' sh.toNat; omega)
  omega
theorem Set_yes (k : Nat) (hk : 600 ≤ k) {has : Bool} {s v t sh : Int} {l : List S32} {probed : Bool} {now most : Int} (h : SetFine has s v t sh l now most) : timer_Set.f k has s v t sh l probed now most = some (setOf has s t sh l probed now most) := by
  obtain ⟨k, rfl⟩ : ∃ j, k = j + 1 := ⟨k - 1, by omega⟩
  obtain ⟨hm, hl, hn, ho⟩ := h
  have hlen : l.length ≤ 520 := by
    unfold lmayB at hl
    rw [Bool.and_eq_true, decide_eq_true_eq] at hl
    omega
  unfold timer_Set.f
  rw [May_f _ (by omega), lmay_f _ (by omega) l hlen, tin_f, tin_f]
  simp only [Option.bind_some, hm, hl, hn, ho, decide_true, and_self, if_true, Bool.not_true, timer_Set.j0, Bool.false_eq_true, if_false]
  rw [last_f k (by omega) l hlen, Wait_yes k (by omega) hm ho.1 ho.2]
  simp only [Option.bind_some]
  have hw := waited_in hm ho.1
  have hg := lastAt_ge l 0 false
  unfold setOf
  generalize waited has t sh most = w at *
  generalize lastAt l 0 false = la at *
  have hmn := mn_le la.1 now
  have hmx := mx_ge (2 * s) 1000
  have hmn2 := mn_le w (mx (2 * s) 1000)
  have hs := hm.1
  rw [wrap64_id (2 * s) (by omega) (by omega), wrap64_id (mn la.1 now + w) (by omega) (by omega), wrap64_id (mn la.1 now + mn w (mx (2 * s) 1000)) (by omega) (by omega)]
  (repeat' split) <;> rfl
theorem Set_no (k : Nat) (hk : 600 ≤ k) {has : Bool} {s v t sh : Int} {l : List S32} {probed : Bool} {now most : Int} (hlen : l.length ≤ 520) (h : ¬ SetFine has s v t sh l now most) : timer_Set.f k has s v t sh l probed now most = some (0, 0, 1) := by
  obtain ⟨k, rfl⟩ : ∃ j, k = j + 1 := ⟨k - 1, by omega⟩
  unfold timer_Set.f
  rw [May_f _ (by omega), lmay_f _ (by omega) l hlen, tin_f, tin_f]
  simp only [Option.bind_some, decide_eq_true_eq]
  by_cases h1 : RMay has s v t sh
  · rw [if_pos h1]
    by_cases h2 : lmayB l = true
    · rw [if_pos h2]
      by_cases h3 : 0 ≤ now ∧ now ≤ 1152921504606846976
      · rw [if_pos h3]
        have h4 : ¬ (1 ≤ most ∧ most ≤ 1099511627776) := fun h4 => h ⟨h1, h2, h3, h4⟩
        simp only [h4, decide_false, Bool.not_false, timer_Set.j0, if_true]
      · rw [if_neg h3]; simp only [timer_Set.j0, if_true]
    · rw [if_neg h2]; simp only [timer_Set.j0, if_true]
  · rw [if_neg h1]; simp only [timer_Set.j0, if_true]
def tmayB (a b : Int) : Bool := decide (0 ≤ a ∧ a ≤ 2) && (decide (0 ≤ b ∧ b ≤ 2305843009213693952) && (decide (a ≠ 0) || decide (b = 0)))
theorem tmay_f (a b : Int) : timer_May.f a b = some (tmayB a b) := by
  unfold timer_May.f tmayB
  rw [tin_f, tin_f]
  simp only [Option.bind_some, decide_eq_true_eq]
  by_cases h1 : 0 ≤ a ∧ a ≤ 2
  · rw [if_pos h1, decide_eq_true h1]
    by_cases h2 : 0 ≤ b ∧ b ≤ 2305843009213693952
    · rw [if_pos h2, decide_eq_true h2]
      by_cases h3 : a = 0
      · rw [if_pos h3, decide_eq_false (fun h => h h3)]; rfl
      · rw [if_neg h3]; simp [h3]
    · rw [if_neg h2, decide_eq_false h2]; rfl
  · rw [if_neg h1, decide_eq_false h1]; rfl
def dueOf (a b now : Int) : Int := if tmayB a b = true then (if b > now then 0 else a) else 0
theorem due_f (a b now : Int) : timer_Due.f a b now = some (dueOf a b now) := by
  unfold timer_Due.f dueOf
  rw [tmay_f, Option.bind_some]
  split
  · split <;> rfl
  · rfl

/-! ### the first of timers -/
theorem rdT_drop (l : List S27) (i : Nat) (h : i < l.length) : l.drop i = rd_T27 l i :: l.drop (i + 1) := by
  unfold rd_T27
  rw [List.drop_eq_getElem_cons h]
  simp [List.getD, List.getElem?_eq_getElem h]
def stepT (x : S27) (o : Int × Int) : Int × Int := if tmayB x.f0 x.f1 = true ∧ x.f0 ≠ 0 ∧ (o.1 = 0 ∨ x.f1 < o.2) then (x.f0, x.f1) else o
def firstOf : List S27 → Int × Int → Int × Int
  | [], o => o
  | x :: l, o => firstOf l (stepT x o)
theorem first_loop (L : List S27) (hl : L.length ≤ 1000) : ∀ (j k n : Nat) (o1 o2 : Int), n + j = L.length → j < k → timer_First.l0 k L (L.length : Int) (n : Int) o1 o2 = some (firstOf (L.drop n) (o1, o2)) := by
  intro j
  induction j with
  | zero =>
    intro k n o1 o2 hn hk
    obtain ⟨k, rfl⟩ : ∃ m, k = m + 1 := ⟨k - 1, by omega⟩
    rw [timer_First.l0, if_neg (by omega), List.drop_eq_nil_of_le (by omega)]
    rfl
  | succ j ih =>
    intro k n o1 o2 hn hk
    obtain ⟨k, rfl⟩ : ∃ m, k = m + 1 := ⟨k - 1, by omega⟩
    have e1 : (n : Int) + 1 = ((n + 1 : Nat) : Int) := by omega
    rw [timer_First.l0, if_pos (by omega), if_pos (by omega), if_pos (by omega), rdT_drop L n (by omega), wrap64_id ((n : Int) + 1) (by omega) (by omega), e1, tmay_f, Option.bind_some]
    simp only [firstOf]
    rw [ih k (n + 1) o1 o2 (by omega) (by omega), ih k (n + 1) _ _ (by omega) (by omega)]
    unfold stepT
    by_cases h1 : tmayB (rd_T27 L n).f0 (rd_T27 L n).f1 = true
    · rw [if_pos h1]
      by_cases h2 : (rd_T27 L n).f0 = 0
      · rw [if_pos h2, if_neg (fun h => h.2.1 h2)]
      · rw [if_neg h2]
        by_cases h3 : o1 = 0
        · rw [if_pos h3, if_pos ⟨h1, h2, .inl h3⟩]
        · rw [if_neg h3]
          by_cases h4 : (rd_T27 L n).f1 < o2
          · rw [if_pos h4, if_pos ⟨h1, h2, .inr h4⟩]
          · rw [if_neg h4, if_neg (fun h => h.2.2.elim h3 h4)]
    · rw [if_neg h1, if_neg (fun h => h1 h.1)]
theorem first_f (k : Nat) (hk : 1001 ≤ k) (l : List S27) (hl : l.length ≤ 1000) : timer_First.f k l = some (firstOf l (0, 0)) :=
  first_loop l hl l.length k 0 0 0 (by omega) (by omega)
def Good (o : Int × Int) : Prop := tmayB o.1 o.2 = true
theorem good_zero : Good (0, 0) := by unfold Good; decide
theorem stepT_good (x : S27) (o : Int × Int) (h : Good o) : Good (stepT x o) := by
  unfold stepT
  split
  · rename_i h1; exact h1.1
  · exact h
theorem firstOf_good : ∀ (l : List S27) (o : Int × Int), Good o → Good (firstOf l o)
  | [], _, h => h
  | x :: l, o, h => firstOf_good l _ (stepT_good x o h)
/-- One is as early as another one. -/
def Ahead (a b : Int × Int) : Prop := a.1 ≠ 0 ∧ a.2 ≤ b.2
theorem stepT_ahead (x : S27) (o : Int × Int) (h : o.1 ≠ 0) : Ahead (stepT x o) o := by
  unfold stepT
  split
  · rename_i h1
    obtain ⟨h1, h2, h3⟩ := h1
    exact ⟨h2, by rcases h3 with h3 | h3; exact absurd h3 h; show x.f1 ≤ o.2; omega⟩
  · exact ⟨h, by omega⟩
theorem firstOf_ahead : ∀ (l : List S27) (o : Int × Int), o.1 ≠ 0 → Ahead (firstOf l o) o
  | [], _, h => ⟨h, by simp [firstOf]⟩
  | x :: l, o, h => by
    have h1 := stepT_ahead x o h
    have h2 := firstOf_ahead l (stepT x o) h1.1
    exact ⟨h2.1, by have := h2.2; have := h1.2; simp only [firstOf]; omega⟩
theorem firstOf_mem : ∀ (l : List S27) (o : Int × Int) (x : S27), x ∈ l → tmayB x.f0 x.f1 = true → x.f0 ≠ 0 → Ahead (firstOf l o) (x.f0, x.f1)
  | y :: l, o, x, hx, h1, h2 => by
    simp only [firstOf]
    rcases List.mem_cons.mp hx with rfl | hx
    · have hs : (stepT x o).1 ≠ 0 ∧ (stepT x o).2 ≤ x.f1 := by
        unfold stepT
        split
        · exact ⟨h2, by simp⟩
        · rename_i h3
          have h4 : ¬ (o.1 = 0 ∨ x.f1 < o.2) := fun h4 => h3 ⟨h1, h2, h4⟩
          omega
      have h5 := firstOf_ahead l (stepT x o) hs.1
      exact ⟨h5.1, by have := h5.2; show _ ≤ x.f1; omega⟩
    · exact firstOf_mem l _ x hx h1 h2
theorem firstOf_one : ∀ (l : List S27) (o : Int × Int), firstOf l o = o ∨ ∃ x ∈ l, tmayB x.f0 x.f1 = true ∧ x.f0 ≠ 0 ∧ firstOf l o = (x.f0, x.f1)
  | [], _ => .inl rfl
  | y :: l, o => by
    simp only [firstOf]
    rcases firstOf_one l (stepT y o) with h | ⟨x, hx, h⟩
    · rw [h]
      unfold stepT
      split
      · rename_i h1; exact .inr ⟨y, List.mem_cons_self, h1.1, h1.2.1, rfl⟩
      · exact .inl rfl
    · exact .inr ⟨x, List.mem_cons_of_mem _ hx, h⟩
theorem rdT_mem (l : List S27) (n : Nat) (h : n < l.length) : rd_T27 l n ∈ l := by
  unfold rd_T27
  have : l.getD ((n : Nat) : Int).toNat z27 = l[n] := by simp [List.getD, List.getElem?_eq_getElem h]
  rw [this]
  exact List.getElem_mem h

theorem awake_f (k : Nat) (hk : 600 ≤ k) : fourinhandlaw14_awake.f k = some true := by
  unfold fourinhandlaw14_awake.f
  simp only [Option.bind_some]
  rw [Set_yes k hk (by decide), Set_yes k hk (by decide)]
  have e : setOf true 80000 240000 0 [⟨0, 1, 0, 100, 1, false, false, 0, 0⟩] false 100 1000000 = (1, 160100, 0) := by decide
  have e2 : setOf true 80000 240000 0 [⟨0, 1, 0, 100, 1, false, false, 0, 0⟩] true 100 1000000 = (2, 240100, 0) := by decide
  rw [e, e2]
  simp only [Option.bind_some, tmay_f, due_f]
  decide

theorem stepT_zero (x : S27) : stepT x (0, 0) = if tmayB x.f0 x.f1 = true ∧ x.f0 ≠ 0 then (x.f0, x.f1) else (0, 0) := by
  unfold stepT
  by_cases h : tmayB x.f0 x.f1 = true ∧ x.f0 ≠ 0
  · rw [if_pos h, if_pos ⟨h.1, h.2, .inl rfl⟩]
  · rw [if_neg h, if_neg (fun g => h ⟨g.1, g.2.1⟩)]
theorem stepT_of (x : S27) (o : Int × Int) (h : tmayB x.f0 x.f1 = true ∧ x.f0 ≠ 0) : stepT x o = if o.1 = 0 ∨ x.f1 < o.2 then (x.f0, x.f1) else o := by
  unfold stepT
  by_cases g : o.1 = 0 ∨ x.f1 < o.2
  · rw [if_pos g, if_pos ⟨h.1, h.2, g⟩]
  · rw [if_neg g, if_neg (fun q => g q.2.2)]
theorem stepT_not (x : S27) (o : Int × Int) (h : ¬ (tmayB x.f0 x.f1 = true ∧ x.f0 ≠ 0)) : stepT x o = o := by
  unfold stepT
  rw [if_neg (fun g => h ⟨g.1, g.2.1⟩)]
def asT (o : Int × Int) : S27 := ⟨o.1, o.2⟩
theorem stepT_two (F y : S27) (o : Int × Int) : stepT F (stepT y o) = stepT (asT (stepT F (stepT y (0, 0)))) o := by
  by_cases vy : tmayB y.f0 y.f1 = true ∧ y.f0 ≠ 0
  · have e0 : stepT y (0, 0) = (y.f0, y.f1) := by rw [stepT_zero, if_pos vy]
    rw [e0, stepT_of y o vy]
    by_cases vF : tmayB F.f0 F.f1 = true ∧ F.f0 ≠ 0
    · rw [stepT_of F (y.f0, y.f1) vF]
      by_cases g : F.f1 < y.f1
      · rw [if_pos (.inr g : (y.f0, y.f1).1 = 0 ∨ F.f1 < (y.f0, y.f1).2), stepT_of (asT (F.f0, F.f1)) o vF]
        show _ = if o.1 = 0 ∨ F.f1 < o.2 then (F.f0, F.f1) else o
        by_cases g2 : o.1 = 0 ∨ y.f1 < o.2
        · rw [if_pos g2, stepT_of F _ vF, if_pos (.inr g : (y.f0, y.f1).1 = 0 ∨ F.f1 < (y.f0, y.f1).2), if_pos (by omega)]
        · rw [if_neg g2, stepT_of F o vF]
      · rw [if_neg (fun h : (y.f0, y.f1).1 = 0 ∨ F.f1 < (y.f0, y.f1).2 => h.elim vy.2 g), stepT_of (asT (y.f0, y.f1)) o vy]
        show _ = if o.1 = 0 ∨ y.f1 < o.2 then (y.f0, y.f1) else o
        by_cases g2 : o.1 = 0 ∨ y.f1 < o.2
        · rw [if_pos g2, stepT_of F _ vF, if_neg (fun h : (y.f0, y.f1).1 = 0 ∨ F.f1 < (y.f0, y.f1).2 => h.elim vy.2 g)]
        · rw [if_neg g2, stepT_of F o vF, if_neg (by omega)]
    · rw [stepT_not F _ vF, stepT_not F _ vF, stepT_of (asT (y.f0, y.f1)) o vy]
      rfl
  · rw [stepT_not y o vy, stepT_not y (0, 0) vy]
    by_cases vF : tmayB F.f0 F.f1 = true ∧ F.f0 ≠ 0
    · rw [stepT_zero, if_pos vF]; rfl
    · rw [stepT_not F o vF, stepT_zero, if_neg vF, stepT_not (asT (0, 0)) o (fun h => h.2 rfl)]
theorem firstOf_step : ∀ (l : List S27) (o : Int × Int), firstOf l o = stepT (asT (firstOf l (0, 0))) o
  | [], o => by rw [firstOf, firstOf, stepT_not (asT (0, 0)) o (fun h => h.2 rfl)]
  | y :: l, o => by
    simp only [firstOf]
    rw [firstOf_step l (stepT y o), firstOf_step l (stepT y (0, 0)), stepT_two]
theorem firstOf_append : ∀ (a b : List S27) (o : Int × Int), firstOf (a ++ b) o = firstOf b (firstOf a o)
  | [], _, _ => rfl
  | _ :: a, b, o => firstOf_append a b _
theorem good_self (o : Int × Int) (h : Good o) : stepT (asT o) (0, 0) = o := by
  rw [stepT_zero]
  by_cases g : tmayB (asT o).f0 (asT o).f1 = true ∧ (asT o).f0 ≠ 0
  · rw [if_pos g]; rfl
  · rw [if_neg g]
    obtain ⟨a, b⟩ := o
    have h' : tmayB a b = true := h
    have ha : a = 0 := by
      by_cases ha : a = 0
      · exact ha
      · exact absurd ⟨h', ha⟩ g
    subst ha
    unfold tmayB at h'
    simp at h'
    rw [h'.2]
theorem first_both (a b : List S27) : firstOf (a ++ b) (0, 0) = firstOf [asT (firstOf a (0, 0)), asT (firstOf b (0, 0))] (0, 0) := by
  rw [firstOf_append, firstOf_step b]
  simp only [firstOf]
  rw [good_self _ (firstOf_good a _ good_zero)]
theorem TimerFirst : fourinhandlaw14_TimerFirst.Pure := by
  intro a b ha hb
  refine ⟨1301, ?_⟩
  unfold fourinhandlaw14_TimerFirst.f
  rw [awake_f 1301 (by omega), Option.bind_some, if_pos rfl]
  have hy : fourinhandlaw14_TimerFirst.j0 1301 a b true true = some true := by rw [fourinhandlaw14_TimerFirst.j0, if_pos rfl]
  by_cases h1 : (a.length : Int) > 50
  · rw [if_pos h1]; exact hy
  rw [if_neg h1]
  by_cases h2 : (b.length : Int) > 50
  · rw [decide_eq_true h2]; exact hy
  rw [decide_eq_false h2, fourinhandlaw14_TimerFirst.j0, if_neg (by decide)]
  rw [first_f 1300 (by omega) a (by omega), first_f 1300 (by omega) b (by omega), first_f 1300 (by omega) [] (by simp)]
  simp only [Option.bind_some]
  rw [if_pos (show ([] : List S27).length + a.length < 8796093022208 by simp; omega), if_pos (by simp; omega), first_f 1300 (by omega) _ (by simp; omega), Option.bind_some]
  have hx := firstOf_good a (0, 0) good_zero
  have hfb := first_both a b
  have hone : ∀ (x : S27), a = [x] → tmayB x.f0 x.f1 = true → firstOf a (0, 0) = (x.f0, x.f1) := by
    intro x hx h
    rw [hx]
    exact good_self (x.f0, x.f1) h
  have hnil : a = [] → firstOf a (0, 0) = (0, 0) := by intro h; rw [h]; rfl
  rw [List.nil_append, hfb]
  generalize firstOf b (0, 0) = q at *
  generalize hp : firstOf a (0, 0) = p at *
  have rest : fourinhandlaw14_TimerFirst.j1 1300 a false p.1 p.2 q.1 q.2 (firstOf [asT p, asT q] (0, 0)).1 (firstOf [asT p, asT q] (0, 0)).2 (firstOf [] (0, 0)).1 (firstOf [] (0, 0)).2 = some true := by
    rw [fourinhandlaw14_TimerFirst.j1, if_neg (by decide), first_f 1299 (by omega) _ (by simp), Option.bind_some]
    have e : firstOf [(⟨p.1, p.2⟩ : S27), ⟨q.1, q.2⟩] (0, 0) = firstOf [asT p, asT q] (0, 0) := rfl
    rw [e, if_pos (by simp), if_pos (by rfl)]
    by_cases h3 : (a.length : Int) > 0
    · rw [if_pos h3]
    · have : a = [] := List.eq_nil_of_length_eq_zero (by omega)
      rw [if_neg h3, hnil this]; rfl
  by_cases h3 : (a.length : Int) = 1
  · rw [if_pos h3, if_pos (by omega), tmay_f, Option.bind_some]
    by_cases h4 : tmayB (rd_T27 a 0).f0 (rd_T27 a 0).f1 = true
    · rw [if_pos h4]
      obtain ⟨x, hx1⟩ : ∃ x, a = [x] := List.length_eq_one_iff.mp (by omega)
      have hx2 : rd_T27 a 0 = x := by rw [hx1]; rfl
      rw [hx2] at h4 ⊢
      have hx3 := hone x hx1 h4
      rw [hx3] at rest ⊢
      simpa using rest
    · rw [if_neg h4]; exact rest
  · rw [if_neg h3]; exact rest

end Go.Proofs.Ytiilmjmgomcipaa.Pure
