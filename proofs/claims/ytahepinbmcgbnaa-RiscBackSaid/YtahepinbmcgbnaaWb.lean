/- Bits of words, and Un's closed form. No condition. -/
import Derived.Test.YtahepinbmcgbnaaPAx0
import Derived.Test.YtahepinbmcgbnaaPAx6
import Derived.Test.YtahepinbmcgbnaaWl
import Derived.Laws.BitsAllLaws
set_option linter.unusedVariables false
set_option linter.unusedSimpArgs false
namespace Go.Proofs.Ytahepinbmcgbnaa.Wd
open Go.RowKit Go.Proofs.Ytahepinbmcgbnaa.PA Go.Proofs.YtahepinbmcgbnaaW.PrintWords Go.Proofs.YtahepinbmcgbnaaW.PrintMore

/-- Has a kind an operation of one word? -/
def hasU (op k : Int) : Bool := (op == 1 && (wh k || k == 10)) || (op == 2 && k == 1) || (op == 3 && wh k)
/-- One word reckoned with. -/
def un (op k x : Int) : Int × Int :=
  if hasU op k = false then (0, 10) else if is k x = false then (0, 11) else if op = 2 then (Go.bits .xor .u64 x 1, 0) else if k = 10 then (Go.bits .xor .u64 x 9223372036854775808, 0)
  else if op = 1 then (cn k (-x), 0) else (cn k (Go.bits .xor .u64 18446744073709551615 x), 0)
theorem Un_eq (k : Nat) (op a x : Int) : word_Un.f (k + 7) op a x = some (un op a x) := by
  have j2 : ∀ n, word_Un.j2 (n + 5) op a x = some (if is a x = false then (0, 11) else if op = 2 then (Go.bits .xor .u64 x 1, 0) else if a = 10 then (Go.bits .xor .u64 x 9223372036854775808, 0)
      else if op = 1 then (cn a (-x), 0) else (cn a (Go.bits .xor .u64 18446744073709551615 x), 0)) := by
    intro n
    simp only [word_Un.j2, Is_eq, Option.bind_some, Canon_eq, cn_wrap]
    cases is a x with
    | false => simp
    | true =>
      simp only [if_true, Bool.true_eq_false, if_false]
      split
      · rfl
      split
      · rfl
      split <;> rfl
  unfold word_Un.f un
  by_cases h1 : op = 1
  · subst h1
    rw [if_pos rfl, whole_eq]
    simp only [Option.bind_some]
    cases hw : wh a with
    | true =>
      simp only [if_true, word_Un.j0, j2]
      simp [hasU, hw]
    | false =>
      simp only [Bool.false_eq_true, if_false]
      by_cases h10 : a = 10
      · subst h10
        simp only [word_Un.j0, beq_self_eq_true, if_true, j2]
        simp [hasU, hw]
      · have : (a == 10) = false := by simp [h10]
        rw [this]
        simp [word_Un.j0, word_Un.j1, hasU, hw, h10]
  · rw [if_neg h1]
    simp only [word_Un.j0, Bool.false_eq_true, if_false]
    by_cases h2 : op = 2
    · subst h2
      rw [if_pos rfl]
      by_cases ha : a = 1
      · subst ha
        simp only [word_Un.j1, beq_self_eq_true, if_true, j2]
        simp [hasU]
      · have : (a == 1) = false := by simp [ha]
        rw [this]
        simp [word_Un.j1, hasU, ha]
    · rw [if_neg h2]
      simp only [word_Un.j1, Bool.false_eq_true, if_false]
      by_cases h3 : op = 3
      · subst h3
        rw [if_pos rfl, whole_eq]
        simp only [Option.bind_some]
        cases hw : wh a with
        | true =>
          simp only [if_true, j2]
          simp [hasU, hw]
        | false => simp [hasU, hw]
      · rw [if_neg h3]
        simp [hasU, h1, h2, h3]
theorem un_ev (op a x : Int) : Ev (fun k => word_Un.f k op a x) (un op a x) := ⟨7, fun k hk => by obtain ⟨n, rfl⟩ : ∃ n, k = n + 7 := ⟨k - 7, by omega⟩; exact Un_eq n op a x⟩

/-! Bits -/
theorem xor_ones (x m : Nat) (h : x < 2 ^ m) : x ^^^ (2 ^ m - (x + 1)) = 2 ^ m - 1 := by
  apply Nat.eq_of_testBit_eq
  intro i
  rw [Nat.testBit_xor, Nat.testBit_two_pow_sub_succ h, Nat.testBit_two_pow_sub_one]
  by_cases hi : i < m
  · simp [hi]
  · have : x.testBit i = false := Nat.testBit_lt_two_pow (Nat.lt_of_lt_of_le h (Nat.pow_le_pow_right (by omega) (by omega)))
    simp [hi, this]
theorem and_compl (x m : Nat) (h : x < 2 ^ m) : x &&& (2 ^ m - (x + 1)) = 0 := by
  apply Nat.eq_of_testBit_eq
  intro i
  rw [Nat.testBit_and, Nat.testBit_two_pow_sub_succ h, Nat.zero_testBit]
  cases x.testBit i <;> simp
theorem compl_xor (x m : Nat) (h : x < 2 ^ m) : (2 ^ m - 1) ^^^ x = 2 ^ m - (x + 1) := by
  apply Nat.eq_of_testBit_eq
  intro i
  rw [Nat.testBit_xor, Nat.testBit_two_pow_sub_succ h, Nat.testBit_two_pow_sub_one]
  by_cases hi : i < m
  · simp [hi]
  · have : x.testBit i = false := Nat.testBit_lt_two_pow (Nat.lt_of_lt_of_le h (Nat.pow_le_pow_right (by omega) (by omega)))
    simp [hi, this]
theorem and_or_xor (x y : Nat) : (x &&& y) ||| (x ^^^ y) = x ||| y := by
  apply Nat.eq_of_testBit_eq
  intro i
  rw [Nat.testBit_or, Nat.testBit_and, Nat.testBit_xor, Nat.testBit_or]
  cases x.testBit i <;> cases y.testBit i <;> rfl

/-- From bit n on, all bits are one and the same: a number of a signed kind of n + 1 bits. -/
def Ext (n : Nat) (x : Nat) : Prop := x < 2 ^ 64 ∧ ∀ i, n ≤ i → i < 64 → x.testBit i = x.testBit n
theorem ext_of {n x : Nat} (hn : n < 64) (h : x < 2 ^ n ∨ (2 ^ 64 - 2 ^ n ≤ x ∧ x < 2 ^ 64)) : Ext n x := by
  have hp : (2 : Nat) ^ n ≤ 2 ^ 64 := Nat.pow_le_pow_right (by omega) (by omega)
  rcases h with h | ⟨h1, h2⟩
  · refine ⟨by omega, fun i hi _ => ?_⟩
    rw [Nat.testBit_lt_two_pow (Nat.lt_of_lt_of_le h (Nat.pow_le_pow_right (by omega) hi)), Nat.testBit_lt_two_pow h]
  · obtain ⟨y, hy, rfl⟩ : ∃ y, y < 2 ^ n ∧ x = 2 ^ 64 - (y + 1) := ⟨2 ^ 64 - 1 - x, by omega, by omega⟩
    refine ⟨h2, fun i hi hi2 => ?_⟩
    rw [Nat.testBit_two_pow_sub_succ (by omega), Nat.testBit_two_pow_sub_succ (by omega), Nat.testBit_lt_two_pow (Nat.lt_of_lt_of_le hy (Nat.pow_le_pow_right (by omega) hi)), Nat.testBit_lt_two_pow hy]
    simp [hi2, hn]
theorem of_ext {n x : Nat} (hn : n < 64) (h : Ext n x) : x < 2 ^ n ∨ (2 ^ 64 - 2 ^ n ≤ x ∧ x < 2 ^ 64) := by
  have hp : (2 : Nat) ^ n ≤ 2 ^ 64 := Nat.pow_le_pow_right (by omega) (by omega)
  cases hb : x.testBit n with
  | false =>
    left
    refine Nat.lt_pow_two_of_testBit x fun i hi => ?_
    by_cases h64 : i < 64
    · rw [h.2 i hi h64, hb]
    · exact Nat.testBit_lt_two_pow (Nat.lt_of_lt_of_le h.1 (Nat.pow_le_pow_right (by omega) (by omega)))
  | true =>
    right
    refine ⟨?_, h.1⟩
    have : 2 ^ 64 - (x + 1) < 2 ^ n := by
      refine Nat.lt_pow_two_of_testBit _ fun i hi => ?_
      rw [Nat.testBit_two_pow_sub_succ h.1]
      by_cases h64 : i < 64
      · rw [h.2 i hi h64, hb]; simp
      · simp [h64]
    have := h.1
    omega
theorem ext_and {n x y : Nat} (hx : Ext n x) (hy : Ext n y) : Ext n (x &&& y) := ⟨Nat.and_lt_two_pow _ hy.1, fun i h1 h2 => by rw [Nat.testBit_and, Nat.testBit_and, hx.2 i h1 h2, hy.2 i h1 h2]⟩
theorem ext_or {n x y : Nat} (hx : Ext n x) (hy : Ext n y) : Ext n (x ||| y) := ⟨Nat.or_lt_two_pow hx.1 hy.1, fun i h1 h2 => by rw [Nat.testBit_or, Nat.testBit_or, hx.2 i h1 h2, hy.2 i h1 h2]⟩
theorem ext_xor {n x y : Nat} (hx : Ext n x) (hy : Ext n y) : Ext n (x ^^^ y) := ⟨Nat.xor_lt_two_pow hx.1 hy.1, fun i h1 h2 => by rw [Nat.testBit_xor, Nat.testBit_xor, hx.2 i h1 h2, hy.2 i h1 h2]⟩

/-- A kind of words is closed under an operation on bits. -/
def Fits (k : Int) (x : Nat) : Prop :=
  if k = 2 then Ext 7 x else if k = 3 then Ext 15 x else if k = 4 then Ext 31 x else if k = 6 then x < 2 ^ 8 else if k = 7 then x < 2 ^ 16 else if k = 8 then x < 2 ^ 32 else x < 2 ^ 64
theorem fits_iff {k : Int} (hk : 2 ≤ k ∧ k ≤ 9) (x : Nat) : Fits k x ↔ cn k (x : Int) = x := by
  rcases whole_kinds hk with rfl | rfl | rfl | rfl | rfl | rfl | rfl | rfl <;> simp only [Fits, cn, Int.reduceEq, if_true, if_false, or_false, false_or, or_true, true_or]
  · exact ⟨fun h => by have := of_ext (by decide) h; omega, fun h => ext_of (by decide) (by omega)⟩
  · exact ⟨fun h => by have := of_ext (by decide) h; omega, fun h => ext_of (by decide) (by omega)⟩
  · exact ⟨fun h => by have := of_ext (by decide) h; omega, fun h => ext_of (by decide) (by omega)⟩
  all_goals omega
theorem fits_and {k : Int} {x y : Nat} (hx : Fits k x) (hy : Fits k y) : Fits k (x &&& y) := by
  unfold Fits at *
  repeat' split at *
  all_goals first | exact ext_and hx hy | exact Nat.and_lt_two_pow _ hy | skip
  all_goals (simp_all; done)
theorem fits_or {k : Int} {x y : Nat} (hx : Fits k x) (hy : Fits k y) : Fits k (x ||| y) := by
  unfold Fits at *
  repeat' split at *
  all_goals first | exact ext_or hx hy | exact Nat.or_lt_two_pow hx hy | skip
  all_goals (simp_all; done)
theorem fits_xor {k : Int} {x y : Nat} (hx : Fits k x) (hy : Fits k y) : Fits k (x ^^^ y) := by
  unfold Fits at *
  repeat' split at *
  all_goals first | exact ext_xor hx hy | exact Nat.xor_lt_two_pow hx hy | skip
  all_goals (simp_all; done)
theorem fits_is {k : Int} (hk : 2 ≤ k ∧ k ≤ 9) {x : Int} (h : is k x = true) : Fits k x.toNat ∧ (x.toNat : Int) = x := by
  have hr := is_range hk h
  have e : (x.toNat : Int) = x := by omega
  exact ⟨(fits_iff hk _).2 (by rw [e]; exact is_cn h), e⟩
/-- On words of a kind the operations on bits need no cut. -/
theorem cn_and {k : Int} (hk : 2 ≤ k ∧ k ≤ 9) {x y : Int} (hx : is k x = true) (hy : is k y = true) : cn k (Go.bits .and .u64 x y) = ((x.toNat &&& y.toNat : Nat) : Int) := by
  have rx := is_range hk hx
  have ry := is_range hk hy
  rw [u64_and x y rx.1 (by omega) ry.1 (by omega)]
  exact (fits_iff hk _).1 (fits_and (fits_is hk hx).1 (fits_is hk hy).1)
theorem cn_or {k : Int} (hk : 2 ≤ k ∧ k ≤ 9) {x y : Int} (hx : is k x = true) (hy : is k y = true) : cn k (Go.bits .or .u64 x y) = ((x.toNat ||| y.toNat : Nat) : Int) := by
  have rx := is_range hk hx
  have ry := is_range hk hy
  rw [u64_or x y rx.1 (by omega) ry.1 (by omega)]
  exact (fits_iff hk _).1 (fits_or (fits_is hk hx).1 (fits_is hk hy).1)
theorem cn_xor {k : Int} (hk : 2 ≤ k ∧ k ≤ 9) {x y : Int} (hx : is k x = true) (hy : is k y = true) : cn k (Go.bits .xor .u64 x y) = ((x.toNat ^^^ y.toNat : Nat) : Int) := by
  have rx := is_range hk hx
  have ry := is_range hk hy
  rw [u64_xor x y rx.1 (by omega) ry.1 (by omega)]
  exact (fits_iff hk _).1 (fits_xor (fits_is hk hx).1 (fits_is hk hy).1)
/-- Each bit the other one: what is left of all ones. -/
theorem com_val {k : Int} (hk : 2 ≤ k ∧ k ≤ 9) {x : Int} (hx : is k x = true) : cn k (Go.bits .xor .u64 18446744073709551615 x) = cn k 18446744073709551615 - x ∧ 0 ≤ cn k 18446744073709551615 - x := by
  have rx := is_range hk hx
  rw [u64_xor _ x (by decide) (by decide) rx.1 (by omega)]
  have e : (18446744073709551615 : Int).toNat ^^^ x.toNat = 2 ^ 64 - (x.toNat + 1) := compl_xor x.toNat 64 (by omega)
  rw [e]
  have e2 : ((2 ^ 64 - (x.toNat + 1) : Nat) : Int) = 18446744073709551615 - x := by omega
  rw [e2]
  have hc := is_cn hx
  rcases whole_kinds hk with rfl | rfl | rfl | rfl | rfl | rfl | rfl | rfl <;> (simp [cn] at hc ⊢; try omega)
/-- .. whose bits and the word's are all ones, and have none in common. -/
theorem com_bits {k : Int} (hk : 2 ≤ k ∧ k ≤ 9) {x : Int} (hx : is k x = true) : ((x.toNat ^^^ (cn k 18446744073709551615 - x).toNat : Nat) : Int) = cn k 18446744073709551615 ∧ x.toNat &&& (cn k 18446744073709551615 - x).toNat = 0 := by
  have rx := is_range hk hx
  have hc := is_cn hx
  have key : ∀ m : Nat, cn k 18446744073709551615 = ((2 ^ m - 1 : Nat) : Int) → x.toNat < 2 ^ m → ((x.toNat ^^^ (cn k 18446744073709551615 - x).toNat : Nat) : Int) = cn k 18446744073709551615 ∧ x.toNat &&& (cn k 18446744073709551615 - x).toNat = 0 := by
    intro m hm hlt
    have hp : 0 < 2 ^ m := Nat.two_pow_pos m
    rw [hm]
    have e : (((2 ^ m - 1 : Nat) : Int) - x).toNat = 2 ^ m - (x.toNat + 1) := by omega
    rw [e]
    exact ⟨by rw [xor_ones _ _ hlt], and_compl _ _ hlt⟩
  rcases whole_kinds hk with rfl | rfl | rfl | rfl | rfl | rfl | rfl | rfl
  · exact key 64 (by decide) (by omega)
  · exact key 64 (by decide) (by omega)
  · exact key 64 (by decide) (by omega)
  · exact key 64 (by decide) (by omega)
  · exact key 8 (by decide) (by simp [cn] at hc; omega)
  · exact key 16 (by decide) (by simp [cn] at hc; omega)
  · exact key 32 (by decide) (by simp [cn] at hc; omega)
  · exact key 64 (by decide) (by omega)
end Go.Proofs.Ytahepinbmcgbnaa.Wd
