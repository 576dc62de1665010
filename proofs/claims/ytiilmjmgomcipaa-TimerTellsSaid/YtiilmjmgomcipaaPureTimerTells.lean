/- Any timer may be, or not, is set, due, and the first one, as the document says, or it is told why not: for every input, without a condition. -/
import Derived.Test.YtiilmjmgomcipaaPTimerTellsx11
import Derived.Test.YtiilmjmgomcipaaStmtTimerTells
import Derived.Laws.BitsLemmas
import Derived.Laws.Bits64
namespace Go.Proofs.Ytiilmjmgomcipaa.Pure
open Go.RowKit Go.Proofs.Ytiilmjmgomcipaa.PTimerTells Go.Proofs.YtiilmjmgomcipaaW.PrintWords Go.Proofs.YtiilmjmgomcipaaW.PrintLast Go.Proofs.YtiilmjmgomcipaaW.PrintMore
theorem wrap64_id (n : Int) (h0 : -9223372036854775808 ≤ n) (h1 : n < 9223372036854775808) : wrap64 n = n := by unfold wrap64; omega
theorem mul_le_of (a b A B : Int) (h0 : 0 ≤ a) (h1 : a ≤ A) (h2 : 0 ≤ b) (h3 : b ≤ B) : 0 ≤ a * b ∧ a * b ≤ A * B :=
  ⟨Int.mul_nonneg h0 h2, Int.mul_le_mul h1 h3 h2 (by omega)⟩

/-! ### how long answers take -/
theorem rin_f (a b c : Int) : rtt_in.f a b c = some (decide (b ≤ a ∧ a ≤ c)) := by
  unfold rtt_in.f
  by_cases h : a ≥ b
  · rw [if_pos h]; exact congrArg some (decide_eq_decide.mpr ⟨fun h' => ⟨h, h'⟩, fun h' => h'.2⟩)
  · rw [if_neg h]; exact congrArg some (decide_eq_false (fun h' => h h'.1)).symm
def RMay (has : Bool) (s v t sh : Int) : Prop := (0 ≤ s ∧ s ≤ 1152921504606846976) ∧ (0 ≤ v ∧ v ≤ 1152921504606846976) ∧ (0 ≤ t ∧ t ≤ 1152921504606846976) ∧ (0 ≤ sh ∧ sh ≤ 16) ∧ (has = true ∨ (s = 0 ∧ v = 0))
instance (has : Bool) (s v t sh : Int) : Decidable (RMay has s v t sh) := inferInstanceAs (Decidable (_ ∧ _))
theorem May_f (k : Nat) (hk : 1 ≤ k) (has : Bool) (s v t sh : Int) : rtt_May.f k has s v t sh = some (decide (RMay has s v t sh)) := by
  obtain ⟨k, rfl⟩ : ∃ j, k = j + 1 := ⟨k - 1, by omega⟩
  have base : ((rtt_in.f s 0 1152921504606846976).bind fun t102 => (if t102 = true then ((rtt_in.f v 0 1152921504606846976).bind fun t103 => (if t103 = true then ((rtt_in.f t 0 1152921504606846976).bind fun t104 => (if t104 = true then ((rtt_in.f sh 0 16).bind fun t105 => (some t105)) else (some false))) else (some false))) else (some false))) = some (decide ((0 ≤ s ∧ s ≤ 1152921504606846976) ∧ (0 ≤ v ∧ v ≤ 1152921504606846976) ∧ (0 ≤ t ∧ t ≤ 1152921504606846976) ∧ (0 ≤ sh ∧ sh ≤ 16))) := by
    simp only [rin_f, Option.bind_some, decide_eq_true_eq]
    by_cases h1 : 0 ≤ s ∧ s ≤ 1152921504606846976
    · rw [if_pos h1]
      by_cases h2 : 0 ≤ v ∧ v ≤ 1152921504606846976
      · rw [if_pos h2]
        by_cases h3 : 0 ≤ t ∧ t ≤ 1152921504606846976
        · rw [if_pos h3]; simp [h1, h2, h3]
        · rw [if_neg h3]; simp [h3]
      · rw [if_neg h2]; simp [h2]
    · rw [if_neg h1]; simp [h1]
  unfold rtt_May.f
  cases has with
  | true =>
    rw [if_pos rfl, rtt_May.j0, if_neg (by decide), base]
    exact congrArg some (decide_eq_decide.mpr ⟨fun h => ⟨h.1, h.2.1, h.2.2.1, h.2.2.2, .inl rfl⟩, fun h => ⟨h.1, h.2.1, h.2.2.1, h.2.2.2.1⟩⟩)
  | false =>
    rw [if_neg (by decide), rtt_May.j0, base]
    by_cases h : s = 0 ∧ v = 0
    · obtain ⟨rfl, rfl⟩ := h
      rw [if_neg (by decide)]
      exact congrArg some (decide_eq_decide.mpr ⟨fun h => ⟨h.1, h.2.1, h.2.2.1, h.2.2.2, .inr ⟨rfl, rfl⟩⟩, fun h => ⟨h.1, h.2.1, h.2.2.1, h.2.2.2.1⟩⟩)
    · rw [if_pos]
      · exact congrArg some (decide_eq_false (fun h' => by rcases h'.2.2.2.2 with h' | h'; exact absurd h' (by decide); exact h h')).symm
      · simp only [Bool.false_or, Bool.or_eq_true, Bool.not_eq_true', beq_eq_false_iff_ne, ne_eq]
        omega

/-- How long is waited. -/
def waited (has : Bool) (t sh most : Int) : Int := mn (mn (if has = true then t else 1000000) most * 2 ^ sh.toNat) most
theorem mn_le (a b : Int) : mn a b ≤ a ∧ mn a b ≤ b ∧ (mn a b = a ∨ mn a b = b) := by unfold mn; split <;> omega
theorem mx_ge (a b : Int) : a ≤ mx a b ∧ b ≤ mx a b ∧ (mx a b = a ∨ mx a b = b) := by unfold mx; split <;> omega
theorem two_pow_pos' (n : Nat) : (1 : Int) ≤ 2 ^ n := by have h2 : (0 : Int) < 2 ^ n := Int.pow_pos (by omega); omega
theorem two_pow_le16 (sh : Int) (h0 : 0 ≤ sh) (h : sh ≤ 16) : (2 : Int) ^ sh.toNat ≤ 65536 := by
  have h1 : (2 : Nat) ^ sh.toNat ≤ 2 ^ 16 := Nat.pow_le_pow_right (by decide) (by omega)
  have h2 : (2 : Int) ^ sh.toNat = ((2 ^ sh.toNat : Nat) : Int) := by simp
  rw [h2]; omega
theorem shl_small64 (x sh : Int) (h0 : 0 ≤ x) (h1 : x ≤ 1099511627776) (h2 : 0 ≤ sh) (h3 : sh ≤ 16) : shl .i64 x sh = x * 2 ^ sh.toNat := by
  unfold shl
  have e : min sh.toNat IntKind.i64.bits = sh.toNat := by simp [IntKind.bits]; omega
  have h := mul_le_of x (2 ^ sh.toNat) 1099511627776 65536 h0 h1 (by have := two_pow_pos' sh.toNat; omega) (two_pow_le16 sh h2 h3)
  rw [e, IntKind.wrap_i64]; omega
theorem Wait_yes (k : Nat) (hk : 2 ≤ k) {has : Bool} {s v t sh most : Int} (h : RMay has s v t sh) (h1 : 1 ≤ most) (h2 : most ≤ 1099511627776) : rtt_Wait.f k has s v t sh most = some (waited has t sh most) := by
  obtain ⟨k, rfl⟩ : ∃ j, k = j + 1 := ⟨k - 1, by omega⟩
  unfold rtt_Wait.f waited
  rw [May_f _ (by omega), rin_f]
  have hmo : 1 ≤ most ∧ most ≤ 1099511627776 := ⟨h1, h2⟩
  simp only [Option.bind_some, h, hmo, decide_true, and_self, if_true, Bool.not_true, rtt_Wait.j0, Bool.false_eq_true, if_false]
  obtain ⟨_, _, m3, m4, _⟩ := h
  cases has with
  | true =>
    have := mn_le t most
    rw [if_pos rfl, if_pos m4.1, shl_small64 _ _ (by omega) (by omega) m4.1 m4.2]; rfl
  | false =>
    have := mn_le 1000000 most
    rw [if_neg (by decide), if_pos m4.1, shl_small64 _ _ (by omega) (by omega) m4.1 m4.2]; rfl
theorem Wait_no (k : Nat) (hk : 2 ≤ k) {has : Bool} {s v t sh most : Int} (h : ¬ (RMay has s v t sh ∧ 1 ≤ most ∧ most ≤ 1099511627776)) : rtt_Wait.f k has s v t sh most = some 0 := by
  obtain ⟨k, rfl⟩ : ∃ j, k = j + 1 := ⟨k - 1, by omega⟩
  unfold rtt_Wait.f
  rw [May_f _ (by omega), rin_f]
  simp only [Option.bind_some, decide_eq_true_eq]
  by_cases h1 : RMay has s v t sh
  · rw [if_pos h1]
    have h2 : ¬ (1 ≤ most ∧ most ≤ 1099511627776) := fun h2 => h ⟨h1, h2⟩
    simp only [h2, decide_false, Bool.not_false, rtt_Wait.j0, if_true]
  · rw [if_neg h1]; simp only [rtt_Wait.j0, if_true]

/-! ### timers: what was sent, when a timer goes off -/
def oneB (x : S32) : Bool := Hand.inB x.f0 0 1152921504606846976 && (Hand.inB x.f2 0 1152921504606846976 && (Hand.inB x.f3 0 1152921504606846976 && (Hand.inB x.f7 0 1152921504606846976 && (Hand.inB x.f8 0 1152921504606846976 && (Hand.inB x.f1 1 1460 && (Hand.inB x.f4 1 1000 && !(x.f5 && x.f6)))))))
theorem one_f (x : S32) : sent_one.f x.f0 x.f1 x.f2 x.f3 x.f4 x.f5 x.f6 x.f7 x.f8 = some (oneB x) := rfl
def linkB : Option S32 → S32 → Bool
  | none, _ => true
  | some p, x => decide (x.f0 = wrap64 (p.f0 + p.f1))
def chainB : Option S32 → List S32 → Bool
  | _, [] => true
  | p, x :: l => oneB x && (linkB p x && chainB (some x) l)
def prev (L : List S32) (n : Nat) : Option S32 := if n = 0 then none else some (rd_T32 L ((n : Int) - 1))
theorem prev_succ (L : List S32) (n : Nat) : prev L (n + 1) = some (rd_T32 L n) := by
  unfold prev
  rw [if_neg (by omega)]
  have e : ((n + 1 : Nat) : Int) - 1 = n := by omega
  rw [e]
theorem rd_drop (l : List S32) (i : Nat) (h : i < l.length) : l.drop i = rd_T32 l i :: l.drop (i + 1) := by
  unfold rd_T32
  rw [List.drop_eq_getElem_cons h]
  simp [List.getD, List.getElem?_eq_getElem h]
theorem chain_loop (L : List S32) (hl : L.length ≤ 520) : ∀ (j k n : Nat), n + j = L.length → j < k → sent_chain.l0 k L L (L.length : Int) (n : Int) = some (chainB (prev L n) (L.drop n)) := by
  intro j
  induction j with
  | zero =>
    intro k n hn hk
    obtain ⟨k, rfl⟩ : ∃ m, k = m + 1 := ⟨k - 1, by omega⟩
    rw [sent_chain.l0, if_neg (by omega), List.drop_eq_nil_of_le (by omega)]
    rfl
  | succ j ih =>
    intro k n hn hk
    obtain ⟨k, rfl⟩ : ∃ m, k = m + 1 := ⟨k - 1, by omega⟩
    rw [sent_chain.l0, if_pos (by omega), if_pos (by omega), if_pos (by omega), one_f, Option.bind_some, rd_drop L n (by omega)]
    simp only [chainB]
    cases ho : oneB (rd_T32 L n) with
    | false => rw [if_neg (by decide)]; rfl
    | true =>
    rw [if_pos rfl, wrap64_id ((n : Int) + 1) (by omega) (by omega)]
    have e1 : (n : Int) + 1 = ((n + 1 : Nat) : Int) := by omega
    rw [e1, ih k (n + 1) (by omega) (by omega), prev_succ]
    by_cases h0 : (n : Int) > 0
    · rw [if_pos h0, wrap64_id ((n : Int) - 1) (by omega) (by omega), if_pos (by omega), if_pos (by omega)]
      have ep : prev L n = some (rd_T32 L ((n : Int) - 1)) := by unfold prev; rw [if_neg (by omega)]
      rw [ep]
      simp only [sent_end.f, Option.bind_some, linkB]
      by_cases h1 : (rd_T32 L n).f0 = wrap64 ((rd_T32 L ((n : Int) - 1)).f0 + (rd_T32 L ((n : Int) - 1)).f1)
      · rw [if_pos h1, decide_eq_true h1]; rfl
      · rw [if_neg h1, decide_eq_false h1]; rfl
    · rw [if_neg h0]
      have ep : prev L n = none := by unfold prev; rw [if_pos (by omega)]
      rw [ep]; rfl
def lmayB (l : List S32) : Bool := decide (l.length ≤ 500) && chainB none l
theorem lmay_f (k : Nat) (hk : 521 ≤ k) (l : List S32) (hl : l.length ≤ 520) : sent_May.f k l = some (lmayB l) := by
  unfold sent_May.f lmayB
  by_cases h : (l.length : Int) ≤ 500
  · rw [if_pos h]
    unfold sent_chain.f
    have h2 := chain_loop l hl l.length k 0 (by omega) (by omega)
    rw [show ((0 : Nat) : Int) = 0 from rfl] at h2
    have h3 : l.length ≤ 500 := by omega
    rw [h2, Option.bind_some, decide_eq_true h3]
    rfl
  · rw [if_neg h]
    have h3 : ¬ l.length ≤ 500 := by omega
    rw [decide_eq_false h3]; rfl
theorem tin_f (a b c : Int) : timer_in.f a b c = some (decide (b ≤ a ∧ a ≤ c)) := by
  unfold timer_in.f
  by_cases h : a ≥ b
  · rw [if_pos h]; exact congrArg some (decide_eq_decide.mpr ⟨fun h' => ⟨h, h'⟩, fun h' => h'.2⟩)
  · rw [if_neg h]; exact congrArg some (decide_eq_false (fun h' => h h'.1)).symm
/-- When the last part that waits was sent, and whether one waits. -/
def lastAt : List S32 → Int → Bool → Int × Bool
  | [], a, b => (a, b)
  | x :: l, a, b => if x.f5 = true then lastAt l a b else if x.f6 = true then lastAt l a b else lastAt l (mx a x.f3) true
theorem last_loop (L : List S32) (hl : L.length ≤ 520) : ∀ (j k n : Nat) (a : Int) (b : Bool), n + j = L.length → j < k → timer_last.l0 k a b L (L.length : Int) (n : Int) = some (lastAt (L.drop n) a b) := by
  intro j
  induction j with
  | zero =>
    intro k n a b hn hk
    obtain ⟨k, rfl⟩ : ∃ m, k = m + 1 := ⟨k - 1, by omega⟩
    rw [timer_last.l0, if_neg (by omega), List.drop_eq_nil_of_le (by omega)]
    rfl
  | succ j ih =>
    intro k n a b hn hk
    obtain ⟨k, rfl⟩ : ∃ m, k = m + 1 := ⟨k - 1, by omega⟩
    have e1 : (n : Int) + 1 = ((n + 1 : Nat) : Int) := by omega
    rw [timer_last.l0, if_pos (by omega), if_pos (by omega), if_pos (by omega), rd_drop L n (by omega), wrap64_id ((n : Int) + 1) (by omega) (by omega), e1]
    simp only [lastAt]
    rw [ih k (n + 1) a b (by omega) (by omega), ih k (n + 1) _ true (by omega) (by omega)]
    split
    · rfl
    · split <;> rfl
theorem last_f (k : Nat) (hk : 521 ≤ k) (l : List S32) (hl : l.length ≤ 520) : timer_last.f k l = some (lastAt l 0 false) :=
  last_loop l hl l.length k 0 0 false (by omega) (by omega)
def waitB (x : S32) : Bool := !x.f5 && !x.f6
theorem lastAt_two : ∀ (l : List S32) (a : Int) (b : Bool), (lastAt l a b).2 = (b || l.any waitB)
  | [], a, b => by simp [lastAt]
  | x :: l, a, b => by
    simp only [lastAt, List.any_cons, waitB]
    cases h5 : x.f5 <;> cases h6 : x.f6 <;> simp [lastAt_two l]
theorem lastAt_ge : ∀ (l : List S32) (a : Int) (b : Bool), a ≤ (lastAt l a b).1
  | [], a, b => by simp [lastAt]
  | x :: l, a, b => by
    simp only [lastAt]
    have h1 := lastAt_ge l a b
    have h2 := lastAt_ge l (mx a x.f3) true
    have h3 := mx_ge a x.f3
    split
    · exact h1
    · split
      · exact h1
      · omega
def SetFine (has : Bool) (s v t sh : Int) (l : List S32) (now most : Int) : Prop := RMay has s v t sh ∧ lmayB l = true ∧ (0 ≤ now ∧ now ≤ 1152921504606846976) ∧ (1 ≤ most ∧ most ≤ 1099511627776)
instance (has : Bool) (s v t sh : Int) (l : List S32) (now most : Int) : Decidable (SetFine has s v t sh l now most) := inferInstanceAs (Decidable (_ ∧ _))
def setOf (has : Bool) (s t sh : Int) (l : List S32) (probed : Bool) (now most : Int) : Int × Int × Int :=
  if (lastAt l 0 false).2 = true then (if has = true then (if probed = true then (2, mn (lastAt l 0 false).1 now + waited has t sh most, 0) else (1, mn (lastAt l 0 false).1 now + mn (waited has t sh most) (mx (2 * s) 1000), 0)) else (2, mn (lastAt l 0 false).1 now + waited has t sh most, 0)) else (0, 0, 0)
theorem waited_in {has : Bool} {s v t sh most : Int} (h : RMay has s v t sh) (h1 : 1 ≤ most) : 0 ≤ waited has t sh most ∧ waited has t sh most ≤ most := by
  unfold waited
  obtain ⟨_, _, m3, m4, _⟩ := h
  have h3 := mn_le (mn (if has = true then t else 1000000) most * 2 ^ sh.toNat) most
  have h4 := mn_le (if has = true then t else 1000000) most
  have h5 : 0 ≤ (if has = true then t else 1000000) := by split <;> omega
  have h6 : 0 ≤ mn (if has = true then t else 1000000) most * 2 ^ sh.toNat := Int.mul_nonneg (by omega) (by have := two_pow_pos' sh.toNat; omega)
  omega
theorem Set_yes (k : Nat) (hk : 600 ≤ k) {has : Bool} {s v t sh : Int} {l : List S32} {probed : Bool} {now most : Int} (h : SetFine has s v t sh l now most) : timer_Set.f k has s v t sh l probed now most = some (setOf has s t sh l probed now most) := by
  obtain ⟨k, rfl⟩ : ∃ j, k = j + 1 := ⟨k - 1, by omega⟩
  obtain ⟨hm, hl, hn, ho⟩ := h
  have hlen : l.length ≤ 520 := by
    unfold lmayB at hl
    rw [Bool.and_eq_true, decide_eq_true_eq] at hl
    omega
  unfold timer_Set.f
  rw [May_f _ (by omega), lmay_f _ (by omega) l hlen, tin_f, tin_f]
  simp only [Option.bind_some, hm, hl, hn, ho, decide_true, and_self, if_true, Bool.not_true, timer_Set.j0, Bool.false_eq_true, if_false]
  rw [last_f k (by omega) l hlen, Wait_yes k (by omega) hm ho.1 ho.2]
  simp only [Option.bind_some]
  have hw := waited_in hm ho.1
  have hg := lastAt_ge l 0 false
  unfold setOf
  generalize waited has t sh most = w at *
  generalize lastAt l 0 false = la at *
  have hmn := mn_le la.1 now
  have hmx := mx_ge (2 * s) 1000
  have hmn2 := mn_le w (mx (2 * s) 1000)
  have hs := hm.1
  rw [wrap64_id (2 * s) (by omega) (by omega), wrap64_id (mn la.1 now + w) (by omega) (by omega), wrap64_id (mn la.1 now + mn w (mx (2 * s) 1000)) (by omega) (by omega)]
  (repeat' split) <;> rfl
theorem Set_no (k : Nat) (hk : 600 ≤ k) {has : Bool} {s v t sh : Int} {l : List S32} {probed : Bool} {now most : Int} (hlen : l.length ≤ 520) (h : ¬ SetFine has s v t sh l now most) : timer_Set.f k has s v t sh l probed now most = some (0, 0, 1) := by
  obtain ⟨k, rfl⟩ : ∃ j, k = j + 1 := ⟨k - 1, by omega⟩
  unfold timer_Set.f
  rw [May_f _ (by omega), lmay_f _ (by omega) l hlen, tin_f, tin_f]
  simp only [Option.bind_some, decide_eq_true_eq]
  by_cases h1 : RMay has s v t sh
  · rw [if_pos h1]
    by_cases h2 : lmayB l = true
    · rw [if_pos h2]
      by_cases h3 : 0 ≤ now ∧ now ≤ 1152921504606846976
      · rw [if_pos h3]
        have h4 : ¬ (1 ≤ most ∧ most ≤ 1099511627776) := fun h4 => h ⟨h1, h2, h3, h4⟩
        simp only [h4, decide_false, Bool.not_false, timer_Set.j0, if_true]
      · rw [if_neg h3]; simp only [timer_Set.j0, if_true]
    · rw [if_neg h2]; simp only [timer_Set.j0, if_true]
  · rw [if_neg h1]; simp only [timer_Set.j0, if_true]
def tmayB (a b : Int) : Bool := decide (0 ≤ a ∧ a ≤ 2) && (decide (0 ≤ b ∧ b ≤ 2305843009213693952) && (decide (a ≠ 0) || decide (b = 0)))
theorem tmay_f (a b : Int) : timer_May.f a b = some (tmayB a b) := by
  unfold timer_May.f tmayB
  rw [tin_f, tin_f]
  simp only [Option.bind_some, decide_eq_true_eq]
  by_cases h1 : 0 ≤ a ∧ a ≤ 2
  · rw [if_pos h1, decide_eq_true h1]
    by_cases h2 : 0 ≤ b ∧ b ≤ 2305843009213693952
    · rw [if_pos h2, decide_eq_true h2]
      by_cases h3 : a = 0
      · rw [if_pos h3, decide_eq_false (fun h => h h3)]; rfl
      · rw [if_neg h3]; simp [h3]
    · rw [if_neg h2, decide_eq_false h2]; rfl
  · rw [if_neg h1, decide_eq_false h1]; rfl
def dueOf (a b now : Int) : Int := if tmayB a b = true then (if b > now then 0 else a) else 0
theorem due_f (a b now : Int) : timer_Due.f a b now = some (dueOf a b now) := by
  unfold timer_Due.f dueOf
  rw [tmay_f, Option.bind_some]
  split
  · split <;> rfl
  · rfl

/-! ### the first of timers -/
theorem rdT_drop (l : List S27) (i : Nat) (h : i < l.length) : l.drop i = rd_T27 l i :: l.drop (i + 1) := by
  unfold rd_T27
  rw [List.drop_eq_getElem_cons h]
  simp [List.getD, List.getElem?_eq_getElem h]
def stepT (x : S27) (o : Int × Int) : Int × Int := if tmayB x.f0 x.f1 = true ∧ x.f0 ≠ 0 ∧ (o.1 = 0 ∨ x.f1 < o.2) then (x.f0, x.f1) else o
def firstOf : List S27 → Int × Int → Int × Int
  | [], o => o
  | x :: l, o => firstOf l (stepT x o)
theorem first_loop (L : List S27) (hl : L.length ≤ 1000) : ∀ (j k n : Nat) (o1 o2 : Int), n + j = L.length → j < k → timer_First.l0 k L (L.length : Int) (n : Int) o1 o2 = some (firstOf (L.drop n) (o1, o2)) := by
  intro j
  induction j with
  | zero =>
    intro k n o1 o2 hn hk
    obtain ⟨k, rfl⟩ : ∃ m, k = m + 1 := ⟨k - 1, by omega⟩
    rw [timer_First.l0, if_neg (by omega), List.drop_eq_nil_of_le (by omega)]
    rfl
  | succ j ih =>
    intro k n o1 o2 hn hk
    obtain ⟨k, rfl⟩ : ∃ m, k = m + 1 := ⟨k - 1, by omega⟩
    have e1 : (n : Int) + 1 = ((n + 1 : Nat) : Int) := by omega
    rw [timer_First.l0, if_pos (by omega), if_pos (by omega), if_pos (by omega), rdT_drop L n (by omega), wrap64_id ((n : Int) + 1) (by omega) (by omega), e1, tmay_f, Option.bind_some]
    simp only [firstOf]
    rw [ih k (n + 1) o1 o2 (by omega) (by omega), ih k (n + 1) _ _ (by omega) (by omega)]
    unfold stepT
    by_cases h1 : tmayB (rd_T27 L n).f0 (rd_T27 L n).f1 = true
    · rw [if_pos h1]
      by_cases h2 : (rd_T27 L n).f0 = 0
      · rw [if_pos h2, if_neg (fun h => h.2.1 h2)]
      · rw [if_neg h2]
        by_cases h3 : o1 = 0
        · rw [if_pos h3, if_pos ⟨h1, h2, .inl h3⟩]
        · rw [if_neg h3]
          by_cases h4 : (rd_T27 L n).f1 < o2
          · rw [if_pos h4, if_pos ⟨h1, h2, .inr h4⟩]
          · rw [if_neg h4, if_neg (fun h => h.2.2.elim h3 h4)]
    · rw [if_neg h1, if_neg (fun h => h1 h.1)]
theorem first_f (k : Nat) (hk : 1001 ≤ k) (l : List S27) (hl : l.length ≤ 1000) : timer_First.f k l = some (firstOf l (0, 0)) :=
  first_loop l hl l.length k 0 0 0 (by omega) (by omega)
def Good (o : Int × Int) : Prop := tmayB o.1 o.2 = true
theorem good_zero : Good (0, 0) := by unfold Good; decide
theorem stepT_good (x : S27) (o : Int × Int) (h : Good o) : Good (stepT x o) := by
  unfold stepT
  split
  · rename_i h1; exact h1.1
  · exact h
theorem firstOf_good : ∀ (l : List S27) (o : Int × Int), Good o → Good (firstOf l o)
  | [], _, h => h
  | x :: l, o, h => firstOf_good l _ (stepT_good x o h)
/-- One is as early as another one. -/
def Ahead (a b : Int × Int) : Prop := a.1 ≠ 0 ∧ a.2 ≤ b.2
theorem stepT_ahead (x : S27) (o : Int × Int) (h : o.1 ≠ 0) : Ahead (stepT x o) o := by
  unfold stepT
  split
  · rename_i h1
    obtain ⟨h1, h2, h3⟩ := h1
    exact ⟨h2, by rcases h3 with h3 | h3; exact absurd h3 h; show x.f1 ≤ o.2; omega⟩
  · exact ⟨h, by omega⟩
theorem firstOf_ahead : ∀ (l : List S27) (o : Int × Int), o.1 ≠ 0 → Ahead (firstOf l o) o
  | [], _, h => ⟨h, by simp [firstOf]⟩
  | x :: l, o, h => by
    have h1 := stepT_ahead x o h
    have h2 := firstOf_ahead l (stepT x o) h1.1
    exact ⟨h2.1, by have := h2.2; have := h1.2; simp only [firstOf]; omega⟩
theorem firstOf_mem : ∀ (l : List S27) (o : Int × Int) (x : S27), x ∈ l → tmayB x.f0 x.f1 = true → x.f0 ≠ 0 → Ahead (firstOf l o) (x.f0, x.f1)
  | y :: l, o, x, hx, h1, h2 => by
    simp only [firstOf]
    rcases List.mem_cons.mp hx with rfl | hx
    · have hs : (stepT x o).1 ≠ 0 ∧ (stepT x o).2 ≤ x.f1 := by
        unfold stepT
        split
        · exact ⟨h2, by simp⟩
        · rename_i h3
          have h4 : ¬ (o.1 = 0 ∨ x.f1 < o.2) := fun h4 => h3 ⟨h1, h2, h4⟩
          omega
      have h5 := firstOf_ahead l (stepT x o) hs.1
      exact ⟨h5.1, by have := h5.2; show _ ≤ x.f1; omega⟩
    · exact firstOf_mem l _ x hx h1 h2
theorem firstOf_one : ∀ (l : List S27) (o : Int × Int), firstOf l o = o ∨ ∃ x ∈ l, tmayB x.f0 x.f1 = true ∧ x.f0 ≠ 0 ∧ firstOf l o = (x.f0, x.f1)
  | [], _ => .inl rfl
  | y :: l, o => by
    simp only [firstOf]
    rcases firstOf_one l (stepT y o) with h | ⟨x, hx, h⟩
    · rw [h]
      unfold stepT
      split
      · rename_i h1; exact .inr ⟨y, List.mem_cons_self, h1.1, h1.2.1, rfl⟩
      · exact .inl rfl
    · exact .inr ⟨x, List.mem_cons_of_mem _ hx, h⟩
theorem rdT_mem (l : List S27) (n : Nat) (h : n < l.length) : rd_T27 l n ∈ l := by
  unfold rd_T27
  have : l.getD ((n : Nat) : Int).toNat z27 = l[n] := by simp [List.getD, List.getElem?_eq_getElem h]
  rw [this]
  exact List.getElem_mem h

theorem awake_f (k : Nat) (hk : 600 ≤ k) : fourinhandlaw14_awake.f k = some true := by
  unfold fourinhandlaw14_awake.f
  simp only [Option.bind_some]
  rw [Set_yes k hk (by decide), Set_yes k hk (by decide)]
  have e : setOf true 80000 240000 0 [⟨0, 1, 0, 100, 1, false, false, 0, 0⟩] false 100 1000000 = (1, 160100, 0) := by decide
  have e2 : setOf true 80000 240000 0 [⟨0, 1, 0, 100, 1, false, false, 0, 0⟩] true 100 1000000 = (2, 240100, 0) := by decide
  rw [e, e2]
  simp only [Option.bind_some, tmay_f, due_f]
  decide

/-! ### the document's answers -/
theorem rMayR_f (has : Bool) (s v t sh : Int) : fourinhandref08_May.f has s v t sh = some (decide (RMay has s v t sh)) := by
  unfold fourinhandref08_May.f
  by_cases h1 : s < 0
  · rw [if_pos h1, decide_eq_false (fun h => by have := h.1; omega)]
  rw [if_neg h1]
  by_cases h2 : s > 1152921504606846976
  · rw [if_pos h2, decide_eq_false (fun h => by have := h.1; omega)]
  rw [if_neg h2]
  by_cases h3 : v < 0
  · rw [if_pos h3, decide_eq_false (fun h => by have := h.2.1; omega)]
  rw [if_neg h3]
  by_cases h4 : v > 1152921504606846976
  · rw [if_pos h4, decide_eq_false (fun h => by have := h.2.1; omega)]
  rw [if_neg h4]
  by_cases h5 : t < 0
  · rw [if_pos h5, decide_eq_false (fun h => by have := h.2.2.1; omega)]
  rw [if_neg h5]
  by_cases h6 : t > 1152921504606846976
  · rw [if_pos h6, decide_eq_false (fun h => by have := h.2.2.1; omega)]
  rw [if_neg h6]
  by_cases h7 : ¬ sh ≥ 0
  · rw [if_neg h7, decide_eq_false (fun h => by have := h.2.2.2.1; omega)]
  have h7 := Decidable.of_not_not h7
  rw [if_pos h7]
  by_cases h8 : ¬ sh ≤ 16
  · rw [if_neg h8, decide_eq_false (fun h => by have := h.2.2.2.1; omega)]
  have h8 := Decidable.of_not_not h8
  rw [if_pos h8]
  have mk : (has = true ∨ (s = 0 ∧ v = 0)) → decide (RMay has s v t sh) = true := fun h => decide_eq_true ⟨⟨by omega, by omega⟩, ⟨by omega, by omega⟩, ⟨by omega, by omega⟩, ⟨by omega, by omega⟩, h⟩
  cases has with
  | true => rw [if_pos rfl, mk (.inl rfl)]
  | false =>
    rw [if_neg (by decide)]
    by_cases h9 : s = 0
    · rw [if_pos h9]
      by_cases h10 : v = 0
      · rw [mk (.inr ⟨h9, h10⟩)]; simp [h10]
      · rw [decide_eq_false (fun h => by rcases h.2.2.2.2 with h | h; exact absurd h (by decide); exact h10 h.2)]; simp [h10]
    · rw [if_neg h9, decide_eq_false (fun h => by rcases h.2.2.2.2 with h | h; exact absurd h (by decide); exact h9 h.1)]
theorem two_pow_succ (n : Nat) : (2 : Int) ^ (n + 1) = 2 * 2 ^ n := by rw [Int.pow_succ]; omega
theorem rwait_loop (most : Int) (h1 : 1 ≤ most) (h2 : most ≤ 1099511627776) (has : Bool) (s v t sh : Int) (h3 : 0 ≤ sh) (h4 : sh ≤ 16) : ∀ (j k n : Nat) (x : Int), (n : Int) + j = sh → j < k → 0 ≤ x → x ≤ 1152921504606846976 →
    fourinhandref08_Wait.l0 k most x (n : Int) has s v t sh = some (mn (x * 2 ^ j) most) := by
  intro j
  induction j with
  | zero =>
    intro k n x hn hk h0 hx
    obtain ⟨k, rfl⟩ : ∃ m, k = m + 1 := ⟨k - 1, by omega⟩
    rw [fourinhandref08_Wait.l0, if_neg (by omega), Int.pow_zero, Int.mul_one]
    unfold mn
    (repeat' split) <;> first | rfl | omega | (congr 1; omega)
  | succ j ih =>
    intro k n x hn hk h0 hx
    obtain ⟨k, rfl⟩ : ∃ m, k = m + 1 := ⟨k - 1, by omega⟩
    have e1 : (n : Int) + 1 = ((n + 1 : Nat) : Int) := by omega
    rw [fourinhandref08_Wait.l0, if_pos (by omega), two_pow_succ]
    by_cases h : x < most
    · rw [if_pos h, wrap64_id (2 * x) (by omega) (by omega), wrap64_id ((n : Int) + 1) (by omega) (by omega), e1, ih k (n + 1) (2 * x) (by omega) (by omega) (by omega) (by omega)]
      have : 2 * x * 2 ^ j = x * (2 * 2 ^ j) := by grind
      rw [this]
    · have h5 := two_pow_pos' j
      have h6 : x * 1 ≤ x * (2 * 2 ^ j) := Int.mul_le_mul_of_nonneg_left (by omega) h0
      rw [if_neg h]
      generalize x * (2 * 2 ^ j) = y at *
      unfold mn
      (repeat' split) <;> first | rfl | omega | (congr 1; omega)
theorem rWait_yes (k : Nat) (hk : 30 ≤ k) {has : Bool} {s v t sh most : Int} (h : RMay has s v t sh) (h1 : 1 ≤ most) (h2 : most ≤ 1099511627776) : fourinhandref08_Wait.f k has s v t sh most = some (waited has t sh most) := by
  obtain ⟨k, rfl⟩ : ∃ m, k = m + 2 := ⟨k - 2, by omega⟩
  unfold fourinhandref08_Wait.f waited
  have h3 : ¬ most > 1099511627776 := by omega
  rw [rMayR_f, decide_eq_true h, Option.bind_some, if_pos rfl, if_neg (by omega), decide_eq_false h3, fourinhandref08_Wait.j0, if_neg (by decide)]
  obtain ⟨_, _, m3, m4, _⟩ := h
  have key : ∀ x, 0 ≤ x → x ≤ 1152921504606846976 → fourinhandref08_Wait.j1 (k + 1) most x has s v t sh = some (mn (mn x most * 2 ^ sh.toNat) most) := by
    intro x hx0 hx
    rw [fourinhandref08_Wait.j1]
    have h5 := rwait_loop most h1 h2 has s v t sh m4.1 m4.2 sh.toNat k 0 x (by omega) (by omega) hx0 hx
    rw [show ((0 : Nat) : Int) = 0 from rfl] at h5
    rw [h5]
    have h6 := two_pow_pos' sh.toNat
    congr 1
    by_cases h7 : x ≤ most
    · have : mn x most = x := by unfold mn; split <;> omega
      rw [this]
    · have e : mn x most = most := by unfold mn; split <;> omega
      have g1 : x * 1 ≤ x * 2 ^ sh.toNat := Int.mul_le_mul_of_nonneg_left h6 hx0
      have g2 : most * 1 ≤ most * 2 ^ sh.toNat := Int.mul_le_mul_of_nonneg_left h6 (by omega)
      rw [e]
      generalize x * 2 ^ sh.toNat = y at *
      generalize most * 2 ^ sh.toNat = z at *
      unfold mn
      (repeat' split) <;> omega
  cases has with
  | true => rw [if_pos rfl, key t m3.1 m3.2]; rfl
  | false => rw [if_neg (by decide), key 1000000 (by omega) (by omega)]; rfl

theorem r12in_f (a : Int) : fourinhandref12_in.f a = some (Hand.inB a 0 1152921504606846976) := by
  unfold fourinhandref12_in.f Hand.inB
  by_cases h : a ≥ 0
  · have h' : 0 ≤ a := h
    rw [if_pos h, decide_eq_true h', Bool.true_and]
  · have h' : ¬ 0 ≤ a := h
    rw [if_neg h, decide_eq_false h', Bool.false_and]
theorem r12one_f (x : S32) : fourinhandref12_One.f x.f0 x.f1 x.f2 x.f3 x.f4 x.f5 x.f6 x.f7 x.f8 = some (oneB x) := by
  unfold fourinhandref12_One.f oneB
  rw [r12in_f, r12in_f, r12in_f, r12in_f, r12in_f]
  simp only [Option.bind_some]
  have hI : ∀ a b c : Int, Hand.inB a b c = (decide (a ≥ b) && decide (a ≤ c)) := fun a b c => rfl
  rw [hI x.f1, hI x.f4]
  have tail : (if x.f1 ≥ 1 then (if x.f1 ≤ 1460 then (if x.f4 ≥ 1 then (some (decide (x.f4 ≤ 1000))) else (some false)) else (some false)) else (some false)) = some ((decide (x.f1 ≥ 1) && decide (x.f1 ≤ 1460)) && (decide (x.f4 ≥ 1) && decide (x.f4 ≤ 1000))) := by
    by_cases q1 : x.f1 ≥ 1 <;> by_cases q2 : x.f1 ≤ 1460 <;> by_cases q3 : x.f4 ≥ 1 <;> simp only [q1, q2, q3, if_true, if_false, decide_true, decide_false, Bool.true_and, Bool.false_and, Bool.and_false]
  rw [tail]
  generalize (decide (x.f1 ≥ 1) && decide (x.f1 ≤ 1460)) = p
  generalize (decide (x.f4 ≥ 1) && decide (x.f4 ≤ 1000)) = q
  cases Hand.inB x.f0 0 1152921504606846976 <;> cases Hand.inB x.f2 0 1152921504606846976 <;> cases Hand.inB x.f3 0 1152921504606846976 <;> cases Hand.inB x.f7 0 1152921504606846976 <;> cases Hand.inB x.f8 0 1152921504606846976 <;> cases x.f5 <;> cases x.f6 <;> cases p <;> cases q <;> rfl
theorem rchain_loop (L : List S32) (hl : L.length ≤ 520) : ∀ (j k n : Nat), n + j = L.length → j < k → fourinhandref12_Chain.l0 k L (n : Int) = some (chainB (prev L n) (L.drop n)) := by
  intro j
  induction j with
  | zero =>
    intro k n hn hk
    obtain ⟨k, rfl⟩ : ∃ m, k = m + 1 := ⟨k - 1, by omega⟩
    rw [fourinhandref12_Chain.l0, if_neg (by omega), List.drop_eq_nil_of_le (by omega)]
    rfl
  | succ j ih =>
    intro k n hn hk
    obtain ⟨k, rfl⟩ : ∃ m, k = m + 1 := ⟨k - 1, by omega⟩
    rw [fourinhandref12_Chain.l0, if_pos (by omega), if_pos (by omega), r12one_f, Option.bind_some, rd_drop L n (by omega)]
    simp only [chainB]
    cases ho : oneB (rd_T32 L n) with
    | false => rw [if_neg (by decide)]; rfl
    | true =>
    rw [if_pos rfl, wrap64_id ((n : Int) + 1) (by omega) (by omega)]
    have e1 : (n : Int) + 1 = ((n + 1 : Nat) : Int) := by omega
    rw [e1, ih k (n + 1) (by omega) (by omega), prev_succ]
    by_cases h0 : (n : Int) > 0
    · rw [if_pos h0, wrap64_id ((n : Int) - 1) (by omega) (by omega), if_pos (by omega), if_pos (by omega)]
      have ep : prev L n = some (rd_T32 L ((n : Int) - 1)) := by unfold prev; rw [if_neg (by omega)]
      rw [ep]
      simp only [linkB]
      by_cases h1 : (rd_T32 L n).f0 = wrap64 ((rd_T32 L ((n : Int) - 1)).f0 + (rd_T32 L ((n : Int) - 1)).f1)
      · rw [if_pos h1, decide_eq_true h1]; rfl
      · rw [if_neg h1, decide_eq_false h1]; rfl
    · rw [if_neg h0]
      have ep : prev L n = none := by unfold prev; rw [if_pos (by omega)]
      rw [ep]; rfl
theorem rlmay_f (k : Nat) (hk : 521 ≤ k) (l : List S32) (hl : l.length ≤ 520) : fourinhandref12_May.f k l = some (lmayB l) := by
  unfold fourinhandref12_May.f lmayB
  by_cases h : (l.length : Int) ≤ 500
  · rw [if_pos h]
    unfold fourinhandref12_Chain.f
    have h2 := rchain_loop l hl l.length k 0 (by omega) (by omega)
    rw [show ((0 : Nat) : Int) = 0 from rfl] at h2
    have h3 : l.length ≤ 500 := by omega
    rw [h2, Option.bind_some, decide_eq_true h3]
    rfl
  · rw [if_neg h]
    have h3 : ¬ l.length ≤ 500 := by omega
    rw [decide_eq_false h3]; rfl
/-- When the last part that waits was sent, or -1. -/
def lastR : List S32 → Int → Int
  | [], a => a
  | x :: l, a => if x.f5 = true then lastR l a else if x.f6 = true then lastR l a else lastR l (mx a x.f3)
theorem lastR_at : ∀ (l : List S32) (a : Int) (b : Bool) (c : Int), (∀ x ∈ l, 0 ≤ x.f3) → (b = true → c = a ∧ 0 ≤ a) → (b = false → c = -1 ∧ a = 0) →
    ((lastAt l a b).2 = true → lastR l c = (lastAt l a b).1 ∧ 0 ≤ lastR l c) ∧ ((lastAt l a b).2 = false → lastR l c = -1)
  | [], a, b, c, _, ht, hf => by
    simp only [lastAt, lastR]
    exact ⟨fun h => by have := ht h; omega, fun h => (hf h).1⟩
  | x :: l, a, b, c, h, ht, hf => by
    simp only [lastAt, lastR]
    have hl : ∀ y ∈ l, 0 ≤ y.f3 := fun y hy => h y (List.mem_cons_of_mem _ hy)
    have hx := h x List.mem_cons_self
    by_cases h5 : x.f5 = true
    · rw [if_pos h5, if_pos h5]; exact lastR_at l a b c hl ht hf
    · by_cases h6 : x.f6 = true
      · rw [if_neg h5, if_neg h5, if_pos h6, if_pos h6]; exact lastR_at l a b c hl ht hf
      · rw [if_neg h5, if_neg h5, if_neg h6, if_neg h6]
        refine lastR_at l _ true _ hl (fun _ => ?_) (fun h => absurd h (by decide))
        have g1 := mx_ge a x.f3
        have g2 := mx_ge c x.f3
        cases b with
        | true => have := ht rfl; omega
        | false => have := hf rfl; omega
theorem rset_loop (L : List S32) (hl : L.length ≤ 520) (x2 : Bool) (x3 x4 : Int) (h : Bool) (s v t sh : Int) (res : Option (Int × Int × Int)) (z : Int) (K : Nat)
    (hfin : ∀ k, K ≤ k → fourinhandref14_Set.l0 k L x2 x3 x4 z (L.length : Int) h s v t sh = res) : ∀ (j k n : Nat) (a : Int), n + j = L.length → K + j ≤ k → lastR (L.drop n) a = z → fourinhandref14_Set.l0 k L x2 x3 x4 a (n : Int) h s v t sh = res := by
  intro j
  induction j with
  | zero =>
    intro k n a hn hk ha
    have e : n = L.length := by omega
    subst e
    rw [List.drop_eq_nil_of_le (by omega)] at ha
    simp only [lastR] at ha
    rw [ha]; exact hfin k (by omega)
  | succ j ih =>
    intro k n a hn hk ha
    obtain ⟨k, rfl⟩ : ∃ m, k = m + 1 := ⟨k - 1, by omega⟩
    have e1 : (n : Int) + 1 = ((n + 1 : Nat) : Int) := by omega
    rw [rd_drop L n (by omega)] at ha
    simp only [lastR] at ha
    rw [fourinhandref14_Set.l0, if_pos (by omega), if_pos (by omega), wrap64_id ((n : Int) + 1) (by omega) (by omega), e1]
    by_cases h5 : (rd_T32 L n).f5 = true
    · rw [if_pos h5] at ha ⊢
      exact ih k (n + 1) a (by omega) (by omega) ha
    · rw [if_neg h5] at ha ⊢
      by_cases h6 : (rd_T32 L n).f6 = true
      · rw [if_pos h6] at ha ⊢
        exact ih k (n + 1) a (by omega) (by omega) ha
      · rw [if_neg h6] at ha ⊢
        by_cases h7 : (rd_T32 L n).f3 > a
        · have e : mx a (rd_T32 L n).f3 = (rd_T32 L n).f3 := by unfold mx; split <;> omega
          rw [e] at ha
          rw [if_pos h7]; exact ih k (n + 1) _ (by omega) (by omega) ha
        · have e : mx a (rd_T32 L n).f3 = a := by unfold mx; split <;> omega
          rw [e] at ha
          rw [if_neg h7]; exact ih k (n + 1) _ (by omega) (by omega) ha
theorem chainB_one (l : List S32) : ∀ p : Option S32, chainB p l = true → ∀ x ∈ l, oneB x = true := by
  induction l with
  | nil => intro p h x hx; exact absurd hx List.not_mem_nil
  | cons y l ih =>
    intro p h x hx
    rw [chainB, Bool.and_eq_true, Bool.and_eq_true] at h
    rcases List.mem_cons.mp hx with e | hx
    · rw [e]; exact h.1
    · exact ih _ h.2.2 x hx
theorem oneB_at (x : S32) (h : oneB x = true) : 0 ≤ x.f3 := by
  unfold oneB Hand.inB at h
  simp only [Bool.and_eq_true, decide_eq_true_eq] at h
  omega
theorem rSet_f (k : Nat) (hk : 1300 ≤ k) {has : Bool} {s v t sh : Int} {l : List S32} {probed : Bool} {now most : Int} (hlen : l.length ≤ 520) : fourinhandref14_Set.f k has s v t sh l probed now most = timer_Set.f k has s v t sh l probed now most := by
  by_cases hf : SetFine has s v t sh l now most
  · rw [Set_yes k (by omega) hf]
    obtain ⟨k, rfl⟩ : ∃ m, k = m + 1 := ⟨k - 1, by omega⟩
    obtain ⟨hm, hl, hn, ho⟩ := id hf
    unfold fourinhandref14_Set.f
    have h3 : ¬ most > 1099511627776 := by omega
    rw [rMayR_f, rlmay_f _ (by omega) l hlen, hl, decide_eq_true hm]
    simp only [Option.bind_some, if_true]
    rw [if_neg (by omega), if_neg (by omega), if_neg (by omega), decide_eq_false h3, fourinhandref14_Set.j0, if_neg (by decide)]
    have hl2 : chainB none l = true := by unfold lmayB at hl; rw [Bool.and_eq_true] at hl; exact hl.2
    have hone := chainB_one l none hl2
    obtain ⟨g1, g2⟩ := lastR_at l 0 false (-1) (fun x hx => oneB_at x (hone x hx)) (fun h => absurd h (by decide)) (fun _ => ⟨rfl, rfl⟩)
    have hloop := rset_loop l hlen probed now most has s v t sh (some (setOf has s t sh l probed now most)) (lastR l (-1)) 100 ?_ l.length k 0 (-1) (by omega) (by omega) rfl
    · rw [show ((0 : Nat) : Int) = 0 from rfl] at hloop
      exact hloop
    intro k hk
    obtain ⟨k, rfl⟩ : ∃ m, k = m + 3 := ⟨k - 3, by omega⟩
    have hw := waited_in hm ho.1
    have hs := hm.1
    rw [fourinhandref14_Set.l0, if_neg (by omega)]
    unfold setOf
    have j3 : ∀ x : Int, 0 ≤ x → x ≤ 1152921504606846976 → fourinhandref14_Set.j2 (k + 2) probed most x has s v t sh = some (if has = true then (if probed = true then (2, x + waited has t sh most, 0) else (1, x + mn (waited has t sh most) (mx (2 * s) 1000), 0)) else (2, x + waited has t sh most, 0)) := by
      intro x hx0 hx
      rw [fourinhandref14_Set.j2, rWait_yes (k + 1) (by omega) hm ho.1 ho.2, Option.bind_some]
      generalize waited has t sh most = w at *
      have e2 : wrap64 (x + w) = x + w := wrap64_id _ (by omega) (by omega)
      cases probed with
      | true =>
        rw [if_pos rfl, fourinhandref14_Set.j3, if_pos rfl, e2]
        cases has <;> rfl
      | false =>
        rw [if_neg (by decide), fourinhandref14_Set.j3]
        cases has with
        | false => simp only [Bool.not_false, if_true, e2, Bool.false_eq_true, if_false]
        | true =>
          simp only [Bool.not_true, Bool.false_eq_true, if_false, if_true]
          rw [wrap64_id (2 * s) (by omega) (by omega), wrap64_id (x + 1000) (by omega) (by omega)]
          unfold mn mx
          by_cases q1 : 2 * s < 1000
          · rw [if_pos q1]
            by_cases q2 : 1000 < w
            · rw [if_pos q2]; (repeat' split) <;> first | rfl | omega | (congr 3; omega)
            · rw [if_neg q2, e2]; (repeat' split) <;> first | rfl | omega | (congr 3; omega)
          · rw [if_neg q1]
            by_cases q2 : 2 * s < w
            · rw [if_pos q2, wrap64_id (x + 2 * s) (by omega) (by omega)]; (repeat' split) <;> first | rfl | omega | (congr 3; omega)
            · rw [if_neg q2, e2]; (repeat' split) <;> first | rfl | omega | (congr 3; omega)
    cases hW : (lastAt l 0 false).2 with
    | false =>
      rw [g2 hW, if_pos (by omega), if_neg (by decide)]
    | true =>
      obtain ⟨g3, g4⟩ := g1 hW
      rw [if_neg (by omega), if_pos rfl, ← g3]
      generalize lastR l (-1) = z at *
      by_cases q : z > now
      · have e : mn z now = now := by unfold mn; split <;> omega
        rw [if_pos q, j3 now hn.1 hn.2, e]
      · have e : mn z now = z := by unfold mn; split <;> omega
        rw [if_neg q, j3 z g4 (by omega), e]
  · rw [Set_no k (by omega) hlen hf]
    obtain ⟨k, rfl⟩ : ∃ m, k = m + 1 := ⟨k - 1, by omega⟩
    unfold fourinhandref14_Set.f
    rw [rMayR_f, rlmay_f _ (by omega) l hlen]
    simp only [Option.bind_some]
    have hj : fourinhandref14_Set.j0 (k + 1) l probed now most true has s v t sh = some (0, 0, 1) := by rw [fourinhandref14_Set.j0, if_pos rfl]
    by_cases h1 : RMay has s v t sh
    · rw [decide_eq_true h1, if_pos rfl]
      by_cases h2 : lmayB l = true
      · rw [if_pos h2]
        by_cases h3 : now < 0
        · rw [if_pos h3]; exact hj
        rw [if_neg h3]
        by_cases h4 : now > 1152921504606846976
        · rw [if_pos h4]; exact hj
        rw [if_neg h4]
        by_cases h5 : most < 1
        · rw [if_pos h5]; exact hj
        rw [if_neg h5]
        have h6 : most > 1099511627776 := by
          by_cases h6 : most > 1099511627776
          · exact h6
          · exact absurd ⟨h1, h2, ⟨by omega, by omega⟩, ⟨by omega, by omega⟩⟩ hf
        rw [decide_eq_true h6]; exact hj
      · rw [if_neg h2]; exact hj
    · rw [decide_eq_false h1, if_neg (by decide)]; exact hj
theorem rtmay_f (a b : Int) : fourinhandref14_May.f a b = some (tmayB a b) := by
  unfold fourinhandref14_May.f tmayB
  by_cases h1 : a < 0
  · rw [if_pos h1, decide_eq_false (fun h => by omega)]; rfl
  rw [if_neg h1]
  by_cases h2 : a > 2
  · rw [if_pos h2, decide_eq_false (fun h => by omega)]; rfl
  rw [if_neg h2, decide_eq_true (show 0 ≤ a ∧ a ≤ 2 from ⟨by omega, by omega⟩), Bool.true_and]
  by_cases h3 : b < 0
  · rw [if_pos h3, decide_eq_false (fun h => by omega)]; rfl
  rw [if_neg h3]
  by_cases h4 : b > 2305843009213693952
  · rw [if_pos h4, decide_eq_false (fun h => by omega)]; rfl
  rw [if_neg h4, decide_eq_true (show 0 ≤ b ∧ b ≤ 2305843009213693952 from ⟨by omega, by omega⟩), Bool.true_and]
  by_cases h5 : a > 0
  · have h6 : a ≠ 0 := by omega
    rw [if_pos h5, decide_eq_true h6]; rfl
  · have h6 : ¬ a ≠ 0 := by omega
    rw [if_neg h5, decide_eq_false h6, Bool.false_or]
    rfl
theorem rdue_f (a b now : Int) : fourinhandref14_Due.f a b now = some (dueOf a b now) := by
  unfold fourinhandref14_Due.f dueOf
  rw [rtmay_f, Option.bind_some]
  split
  · by_cases h : b ≤ now
    · rw [if_pos h, if_neg (by omega)]
    · rw [if_neg h, if_pos (by omega)]
  · rfl
/-- The first one, met from behind. -/
def firstR : List S27 → Int × Int
  | [] => (0, 0)
  | x :: l => if tmayB x.f0 x.f1 = true ∧ x.f0 > 0 ∧ ((firstR l).1 = 0 ∨ x.f1 ≤ (firstR l).2) then (x.f0, x.f1) else firstR l
def both (o r : Int × Int) : Int × Int := if r.1 = 0 then o else if o.1 = 0 then r else if r.2 < o.2 then r else o
theorem firstR_zero : ∀ l : List S27, (firstR l).1 = 0 → firstR l = (0, 0)
  | [], _ => rfl
  | x :: l, h => by
    simp only [firstR] at h ⊢
    split at h
    · rename_i h1; have := h1.2.1; simp only at h; omega
    · rename_i h1; rw [if_neg h1]; exact firstR_zero l h
theorem first_both : ∀ (l : List S27) (o : Int × Int), firstOf l o = both o (firstR l)
  | [], o => by simp [firstOf, firstR, both]
  | x :: l, o => by
    simp only [firstOf, firstR]
    rw [first_both l (stepT x o)]
    unfold stepT
    by_cases h1 : tmayB x.f0 x.f1 = true
    · have hpos : x.f0 ≠ 0 ↔ x.f0 > 0 := by
        unfold tmayB at h1
        simp only [Bool.and_eq_true, decide_eq_true_eq] at h1
        omega
      by_cases h2 : x.f0 > 0
      · have h2' : x.f0 ≠ 0 := hpos.mpr h2
        simp only [h1, h2, h2', true_and, ne_eq, not_false_eq_true]
        generalize firstR l = r
        unfold both
        by_cases q1 : o.1 = 0 <;> by_cases q2 : x.f1 < o.2 <;> by_cases q3 : r.1 = 0 <;> by_cases q4 : x.f1 ≤ r.2 <;> simp only [q1, q2, q3, q4, h2', if_true, if_false, or_true, or_self, or_false] <;> (repeat' split) <;> first | rfl | omega
      · have h2' : ¬ x.f0 ≠ 0 := fun h => h2 (hpos.mp h)
        rw [if_neg (fun h => h2' h.2.1), if_neg (fun h => h2 h.2.1)]
    · rw [if_neg (fun h => h1 h.1), if_neg (fun h => h1 h.1)]
theorem first_R (l : List S27) : firstOf l (0, 0) = firstR l := by
  rw [first_both]
  unfold both
  by_cases h : (firstR l).1 = 0
  · rw [if_pos h, firstR_zero l h]
  · rw [if_neg h, if_pos rfl]
theorem rfirst_loop (L : List S27) (hl : L.length ≤ 1000) : ∀ (n k : Nat) (o : Int × Int), n ≤ L.length → n < k → firstR (L.drop n) = o → fourinhandref14_First.l0 k L ((n : Int) - 1) o.1 o.2 = some (firstR L) := by
  intro n
  induction n with
  | zero =>
    intro k o hn hk ho
    obtain ⟨k, rfl⟩ : ∃ m, k = m + 1 := ⟨k - 1, by omega⟩
    rw [List.drop_zero] at ho
    rw [fourinhandref14_First.l0, if_neg (by omega), ho]
  | succ n ih =>
    intro k o hn hk ho
    obtain ⟨k, rfl⟩ : ∃ m, k = m + 1 := ⟨k - 1, by omega⟩
    have e : ((n + 1 : Nat) : Int) - 1 = n := by omega
    rw [e, fourinhandref14_First.l0, if_pos (by omega), if_pos (by omega), if_pos (by omega), rtmay_f, Option.bind_some, wrap64_id ((n : Int) - 1) (by omega) (by omega)]
    have hd := rdT_drop L n (by omega)
    have hst : firstR (L.drop n) = if tmayB (rd_T27 L n).f0 (rd_T27 L n).f1 = true ∧ (rd_T27 L n).f0 > 0 ∧ (o.1 = 0 ∨ (rd_T27 L n).f1 ≤ o.2) then ((rd_T27 L n).f0, (rd_T27 L n).f1) else o := by
      rw [hd, ← ho]; rfl
    have step := fun o' (ho' : firstR (L.drop n) = o') => ih k o' (by omega) (by omega) ho'
    by_cases h1 : tmayB (rd_T27 L n).f0 (rd_T27 L n).f1 = true
    · rw [if_pos h1]
      by_cases h2 : (rd_T27 L n).f0 > 0
      · rw [if_pos h2]
        by_cases h3 : o.1 = 0
        · rw [if_pos h3]
          rw [if_pos ⟨h1, h2, .inl h3⟩] at hst
          exact step _ hst
        · rw [if_neg h3]
          by_cases h4 : (rd_T27 L n).f1 ≤ o.2
          · rw [if_pos h4]
            rw [if_pos ⟨h1, h2, .inr h4⟩] at hst
            exact step _ hst
          · rw [if_neg h4]
            rw [if_neg (fun h => h.2.2.elim h3 h4)] at hst
            exact step _ hst
      · rw [if_neg h2]
        rw [if_neg (fun h => h2 h.2.1)] at hst
        exact step _ hst
    · rw [if_neg h1]
      rw [if_neg (fun h => h1 h.1)] at hst
      exact step _ hst
theorem rfirst_f (k : Nat) (hk : 1001 ≤ k) (l : List S27) (hl : l.length ≤ 1000) : fourinhandref14_First.f k l = some (firstOf l (0, 0)) := by
  unfold fourinhandref14_First.f
  rw [wrap64_id ((l.length : Int) - 1) (by omega) (by omega), first_R]
  exact rfirst_loop l hl l.length k (0, 0) (by omega) (by omega) (by rw [List.drop_eq_nil_of_le (by omega)]; rfl)
theorem tells_loop (L : List S27) (hl : L.length ≤ 50) (now e a1 a2 : Int) : ∀ (j k n : Nat), n + j = L.length → 1100 + j < k → fourinhandlaw14_TimerTells.l0 k now L e e (n : Int) a1 a2 a1 a2 = some true := by
  intro j
  induction j with
  | zero =>
    intro k n hn hk
    obtain ⟨k, rfl⟩ : ∃ m, k = m + 1 := ⟨k - 1, by omega⟩
    rw [fourinhandlaw14_TimerTells.l0, if_neg (by omega), if_pos (by simp), if_pos rfl, first_f k (by omega) L (by omega), rfirst_f k (by omega) L (by omega)]
    simp
  | succ j ih =>
    intro k n hn hk
    obtain ⟨k, rfl⟩ : ∃ m, k = m + 1 := ⟨k - 1, by omega⟩
    have e1 : (n : Int) + 1 = ((n + 1 : Nat) : Int) := by omega
    rw [fourinhandlaw14_TimerTells.l0, if_pos (by omega), if_pos (by omega), tmay_f, rtmay_f]
    simp only [Option.bind_some]
    rw [bne_self_eq_false, if_neg (by decide), due_f, rdue_f]
    simp only [Option.bind_some, if_true]
    rw [wrap64_id ((n : Int) + 1) (by omega) (by omega), e1]
    exact ih k (n + 1) (by omega) (by omega)
theorem tells_core (K : Nat) (hK : 2000 ≤ K) (has : Bool) (s v t sh : Int) (l : List S32) (probed : Bool) (now most : Int) (T : List S27) : fourinhandlaw14_TimerTells.f (K + 1) has s v t sh l probed now most T = some true := by
  unfold fourinhandlaw14_TimerTells.f
  rw [awake_f (K + 1) (by omega)]
  simp only [Option.bind_some, if_true]
  have hy : fourinhandlaw14_TimerTells.j0 (K + 1) l probed now most T true true has s v t sh = some true := by rw [fourinhandlaw14_TimerTells.j0, if_pos rfl]
  by_cases h1 : (l.length : Int) > 520
  · rw [if_pos h1]; exact hy
  rw [if_neg h1]
  by_cases h2 : (T.length : Int) > 50
  · rw [decide_eq_true h2]; exact hy
  rw [decide_eq_false h2, fourinhandlaw14_TimerTells.j0, if_neg (by decide), rSet_f K (by omega) (by omega)]
  have hx : ∃ x, timer_Set.f K has s v t sh l probed now most = some x := by
    by_cases hf : SetFine has s v t sh l now most
    · exact ⟨_, Set_yes K (by omega) hf⟩
    · exact ⟨_, Set_no K (by omega) (by omega) hf⟩
  obtain ⟨x, hx⟩ := hx
  rw [hx]
  simp only [Option.bind_some]
  exact tells_loop T (by omega) now _ _ _ T.length K 0 (by omega) (by omega)
theorem TimerTells : fourinhandlaw14_TimerTells.Pure := by
  intro has s v t sh l probed now most T _ _ _ _ _
  exact ⟨2000 + 1, tells_core 2000 (by omega) has s v t sh l probed now most T⟩

end Go.Proofs.Ytiilmjmgomcipaa.Pure
