/- Numbers and their bytes: the plain laws' arithmetic. No condition. -/
import Derived.Test.YtahepinbmcgbnaaVc15
set_option linter.unusedVariables false
set_option linter.unusedSimpArgs false
namespace Go.Proofs.Ytahepinbmcgbnaa.Vm
open Go.RowKit Go.Proofs.Ytahepinbmcgbnaa.PZ Go.Proofs.Ytahepinbmcgbnaa.Wd Go.Proofs.YtahepinbmcgbnaaW.PrintWords
/-- The value of bytes, from the lowest on. -/
def val (l : List Int) (p : Nat) : Nat → Int
  | 0 => 0
  | n + 1 => val l p n + l.getD (p + n) 0 * 256 ^ n
theorem getD_rng {l : List Int} (h : ∀ (k : Nat) (q : k < l.length), 0 ≤ l[k] ∧ l[k] ≤ 255) (k : Nat) : 0 ≤ l.getD k 0 ∧ l.getD k 0 ≤ 255 := by
  by_cases q : k < l.length
  · rw [gd l k q]; exact h k q
  · have : l.getD k 0 = 0 := by simp [List.getD, List.getElem?_eq_none (Nat.le_of_not_lt q)]
    rw [this]; omega
theorem val_rng {l : List Int} (h : ∀ (k : Nat) (q : k < l.length), 0 ≤ l[k] ∧ l[k] ≤ 255) (p : Nat) : ∀ n, 0 ≤ val l p n ∧ val l p n < 256 ^ n
  | 0 => by simp [val]
  | n + 1 => by
    obtain ⟨a, b⟩ := val_rng h p n
    obtain ⟨c, d⟩ := getD_rng h (p + n)
    have e : (0 : Int) < 256 ^ n := Int.pow_pos (by decide)
    unfold val
    have m1 : 0 ≤ l.getD (p + n) 0 * 256 ^ n := Int.mul_nonneg c (by omega)
    have m2 : l.getD (p + n) 0 * 256 ^ n ≤ 255 * 256 ^ n := Int.mul_le_mul_of_nonneg_right d (by omega)
    rw [Int.pow_succ]
    omega
theorem or_add (b x : Nat) (i : Nat) (hx : x < 2 ^ i) : b * 2 ^ i ||| x = b * 2 ^ i + x := by
  rw [Nat.mul_comm, ← Nat.two_pow_add_eq_or_of_lt hx]
theorem bv_or (x y : Nat) (hx : x < 2 ^ 64) (hy : y < 2 ^ 64) : (BitVec.ofInt 64 (x : Int) ||| BitVec.ofInt 64 (y : Int)).toNat = x ||| y := by
  rw [BitVec.toNat_or]
  have a : ∀ z : Nat, z < 2 ^ 64 → (BitVec.ofInt 64 (z : Int)).toNat = z := fun z hz => by
    rw [BitVec.toNat_ofInt]
    have : ((z : Int) % ((2 ^ 64 : Nat) : Int)) = (z : Int) := Int.emod_eq_of_lt (by omega) (by exact_mod_cast hz)
    rw [this]; simp
  rw [a x hx, a y hy]
/-- High part and low part, laid together. -/
theorem bv_hl (hi lo : Int) (i : Nat) (h0 : 0 ≤ hi) (l0 : 0 ≤ lo) (l1 : lo < 2 ^ i) (h1 : hi * 2 ^ i + lo < 18446744073709551616) :
    (((BitVec.ofInt 64 lo ||| BitVec.ofInt 64 (hi * 2 ^ i)).toNat : Nat) : Int) = hi * 2 ^ i + lo ∧ (((BitVec.ofInt 64 (hi * 2 ^ i) ||| BitVec.ofInt 64 lo).toNat : Nat) : Int) = hi * 2 ^ i + lo := by
  obtain ⟨a, rfl⟩ := Int.eq_ofNat_of_zero_le h0
  obtain ⟨b, rfl⟩ := Int.eq_ofNat_of_zero_le l0
  have lb : b < 2 ^ i := by exact_mod_cast l1
  have e : ((a : Int) * 2 ^ i) = ((a * 2 ^ i : Nat) : Int) := by rw [Int.natCast_mul, Int.natCast_pow]; rfl
  have k := or_add a b i lb
  rw [e] at h1 ⊢
  have : 2 ^ i * 0 ≤ a * 2 ^ i := by omega
  generalize a * 2 ^ i = q at *
  rw [bv_or _ _ (by omega) (by omega), bv_or _ _ (by omega) (by omega), Nat.or_comm b, k]
  constructor <;> omega
theorem pow_le8 (n : Nat) (hn : n < 8) : (256 : Int) ^ (n + 1) ≤ 18446744073709551616 := by
  match n, hn with
  | 0, _ => decide
  | 1, _ => decide
  | 2, _ => decide
  | 3, _ => decide
  | 4, _ => decide
  | 5, _ => decide
  | 6, _ => decide
  | 7, _ => decide
theorem two_256 (n : Nat) : (2 : Int) ^ (8 * n) = 256 ^ n := by rw [Int.pow_mul]; rfl
theorem leR_val {l : List Int} (h : ∀ (k : Nat) (q : k < l.length), 0 ≤ l[k] ∧ l[k] ≤ 255) (p : Nat) : ∀ n, n ≤ 8 → leR l p n = val l p n
  | 0, _ => rfl
  | n + 1, hn => by
    have ih := leR_val h p n (by omega)
    obtain ⟨a, b⟩ := val_rng h p n
    obtain ⟨a2, b2⟩ := val_rng h p (n + 1)
    obtain ⟨c, d⟩ := getD_rng h (p + n)
    have hp := pow_le8 n (by omega)
    have e : (0 : Int) < 256 ^ n := Int.pow_pos (by decide)
    have m1 : 0 ≤ l.getD (p + n) 0 * 256 ^ n := Int.mul_nonneg c (by omega)
    unfold val at a2 b2 ⊢
    unfold leR
    rw [ih, two_256, u64w (l.getD (p + n) 0 * 256 ^ n), Int.emod_eq_of_lt m1 (by omega)]
    have k := (bv_hl (l.getD (p + n) 0) (val l p n) (8 * n) c a (by rw [two_256]; exact b) (by rw [two_256]; omega)).1
    rw [two_256] at k
    rw [k, u64w, Int.emod_eq_of_lt (by omega) (by omega)]
    omega
theorem val_front (l : List Int) (p : Nat) : ∀ n, val l p (n + 1) = l.getD p 0 + 256 * val l (p + 1) n
  | 0 => by simp [val]
  | n + 1 => by
    have ih := val_front l p n
    have e1 : val l p (n + 1 + 1) = val l p (n + 1) + l.getD (p + (n + 1)) 0 * 256 ^ (n + 1) := rfl
    have e2 : val l (p + 1) (n + 1) = val l (p + 1) n + l.getD (p + 1 + n) 0 * 256 ^ n := rfl
    rw [e1, ih, e2, show p + (n + 1) = p + 1 + n by omega, Int.pow_succ]
    have : l.getD (p + 1 + n) 0 * (256 ^ n * 256) = 256 * (l.getD (p + 1 + n) 0 * 256 ^ n) := by rw [← Int.mul_assoc, Int.mul_comm]
    rw [this]
    omega
end Go.Proofs.Ytahepinbmcgbnaa.Vm
