/- Several texts in one: Vp1 Vp3 Vp2 Vr14 Vp4 Vp5 Vp6. No condition. -/
import Derived.Test.YtahepinbmcgbnaaVc15
import Derived.Test.YtahepinbmcgbnaaVc9
import Derived.Test.YtahepinbmcgbnaaVc14
section
/- Numbers and their bytes: the plain laws' arithmetic. No condition. -/
set_option linter.unusedVariables false
set_option linter.unusedSimpArgs false
namespace Go.Proofs.Ytahepinbmcgbnaa.Vm
open Go.RowKit Go.Proofs.Ytahepinbmcgbnaa.PV Go.Proofs.Ytahepinbmcgbnaa.Wd Go.Proofs.YtahepinbmcgbnaaW.PrintWords
/-- The value of bytes, from the lowest on. -/
def val (l : List Int) (p : Nat) : Nat → Int
 | 0 => 0
 | n + 1 => val l p n + l.getD (p + n) 0 * 256 ^ n
theorem getD_rng {l : List Int} (h : ∀ (k : Nat) (q : k < l.length), 0 ≤ l[k] ∧ l[k] ≤ 255) (k : Nat) : 0 ≤ l.getD k 0 ∧ l.getD k 0 ≤ 255 := by
 by_cases q : k < l.length
 ·rw [gd l k q]; exact h k q
 ·have : l.getD k 0 = 0 := by simp [List.getD, List.getElem?_eq_none (Nat.le_of_not_lt q)]
  rw [this]; omega
theorem val_rng {l : List Int} (h : ∀ (k : Nat) (q : k < l.length), 0 ≤ l[k] ∧ l[k] ≤ 255) (p : Nat) : ∀ n, 0 ≤ val l p n ∧ val l p n < 256 ^ n
 | 0 => by simp [val]
 | n + 1 => by
  obtain ⟨a, b⟩ := val_rng h p n
  obtain ⟨c, d⟩ := getD_rng h (p + n)
  have e : (0 : Int) < 256 ^ n := Int.pow_pos (by decide)
  unfold val
  have m1 : 0 ≤ l.getD (p + n) 0 * 256 ^ n := Int.mul_nonneg c (by omega)
  have m2 : l.getD (p + n) 0 * 256 ^ n ≤ 255 * 256 ^ n := Int.mul_le_mul_of_nonneg_right d (by omega)
  rw [Int.pow_succ]
  omega
theorem or_add (b x : Nat) (i : Nat) (hx : x < 2 ^ i) : b * 2 ^ i ||| x = b * 2 ^ i + x := by
 rw [Nat.mul_comm, ← Nat.two_pow_add_eq_or_of_lt hx]
theorem bv_or (x y : Nat) (hx : x < 2 ^ 64) (hy : y < 2 ^ 64) : (BitVec.ofInt 64 (x : Int) ||| BitVec.ofInt 64 (y : Int)).toNat = x ||| y := by
 rw [BitVec.toNat_or]
 have a : ∀ z : Nat, z < 2 ^ 64 → (BitVec.ofInt 64 (z : Int)).toNat = z := fun z hz => by
  rw [BitVec.toNat_ofInt]
  have : ((z : Int) % ((2 ^ 64 : Nat) : Int)) = (z : Int) := Int.emod_eq_of_lt (by omega) (by exact_mod_cast hz)
  rw [this]; simp
 rw [a x hx, a y hy]
/-- High part and low part, laid together. -/
theorem bv_hl (hi lo : Int) (i : Nat) (h0 : 0 ≤ hi) (l0 : 0 ≤ lo) (l1 : lo < 2 ^ i) (h1 : hi * 2 ^ i + lo < 18446744073709551616) :
  (((BitVec.ofInt 64 lo ||| BitVec.ofInt 64 (hi * 2 ^ i)).toNat : Nat) : Int) = hi * 2 ^ i + lo ∧ (((BitVec.ofInt 64 (hi * 2 ^ i) ||| BitVec.ofInt 64 lo).toNat : Nat) : Int) = hi * 2 ^ i + lo := by
 obtain ⟨a, rfl⟩ := Int.eq_ofNat_of_zero_le h0
 obtain ⟨b, rfl⟩ := Int.eq_ofNat_of_zero_le l0
 have lb : b < 2 ^ i := by exact_mod_cast l1
 have e : ((a : Int) * 2 ^ i) = ((a * 2 ^ i : Nat) : Int) := by rw [Int.natCast_mul, Int.natCast_pow]; rfl
 have k := or_add a b i lb
 rw [e] at h1 ⊢
 have : 2 ^ i * 0 ≤ a * 2 ^ i := by omega
 generalize a * 2 ^ i = q at *
 rw [bv_or _ _ (by omega) (by omega), bv_or _ _ (by omega) (by omega), Nat.or_comm b, k]
 constructor <;> omega
theorem pow_le8 (n : Nat) (hn : n < 8) : (256 : Int) ^ (n + 1) ≤ 18446744073709551616 := by
 match n, hn with
 | 0, _ => decide
 | 1, _ => decide
 | 2, _ => decide
 | 3, _ => decide
 | 4, _ => decide
 | 5, _ => decide
 | 6, _ => decide
 | 7, _ => decide
theorem two_256 (n : Nat) : (2 : Int) ^ (8 * n) = 256 ^ n := by rw [Int.pow_mul]; rfl
theorem leR_val {l : List Int} (h : ∀ (k : Nat) (q : k < l.length), 0 ≤ l[k] ∧ l[k] ≤ 255) (p : Nat) : ∀ n, n ≤ 8 → leR l p n = val l p n
 | 0, _ => rfl
 | n + 1, hn => by
  have ih := leR_val h p n (by omega)
  obtain ⟨a, b⟩ := val_rng h p n
  obtain ⟨a2, b2⟩ := val_rng h p (n + 1)
  obtain ⟨c, d⟩ := getD_rng h (p + n)
  have hp := pow_le8 n (by omega)
  have e : (0 : Int) < 256 ^ n := Int.pow_pos (by decide)
  have m1 : 0 ≤ l.getD (p + n) 0 * 256 ^ n := Int.mul_nonneg c (by omega)
  unfold val at a2 b2 ⊢
  unfold leR
  rw [ih, two_256, u64w (l.getD (p + n) 0 * 256 ^ n), Int.emod_eq_of_lt m1 (by omega)]
  have k := (bv_hl (l.getD (p + n) 0) (val l p n) (8 * n) c a (by rw [two_256]; exact b) (by rw [two_256]; omega)).1
  rw [two_256] at k
  rw [k, u64w, Int.emod_eq_of_lt (by omega) (by omega)]
  omega
theorem val_front (l : List Int) (p : Nat) : ∀ n, val l p (n + 1) = l.getD p 0 + 256 * val l (p + 1) n
 | 0 => by simp [val]
 | n + 1 => by
  have ih := val_front l p n
  have e1 : val l p (n + 1 + 1) = val l p (n + 1) + l.getD (p + (n + 1)) 0 * 256 ^ (n + 1) := rfl
  have e2 : val l (p + 1) (n + 1) = val l (p + 1) n + l.getD (p + 1 + n) 0 * 256 ^ n := rfl
  rw [e1, ih, e2, show p + (n + 1) = p + 1 + n by omega, Int.pow_succ]
  have : l.getD (p + 1 + n) 0 * (256 ^ n * 256) = 256 * (l.getD (p + 1 + n) 0 * 256 ^ n) := by rw [← Int.mul_assoc, Int.mul_comm]
  rw [this]
  omega
end Go.Proofs.Ytahepinbmcgbnaa.Vm
end
section
/- Of cisc's reader: what stands behind an instruction is not looked at; cut short it is too short; gantryref4's reading beside it. Printed by wip/tools/genVp3.py. No condition. -/
set_option linter.unusedVariables false
set_option linter.unusedSimpArgs false
namespace Go.Proofs.Ytahepinbmcgbnaa.Vm
open Go.RowKit Go.Proofs.Ytahepinbmcgbnaa.PV Go.Proofs.Ytahepinbmcgbnaa.Wd Go.Proofs.YtahepinbmcgbnaaW.PrintWords
theorem leR_congr {l l' : List Int} (p : Nat) : ∀ n, (∀ j, p ≤ j → j < p + n → l'.getD j 0 = l.getD j 0) → leR l' p n = leR l p n
 | 0, _ => rfl
 | n + 1, h => by
  unfold leR
  rw [leR_congr p n fun j a b => h j a (by omega), h (p + n) (by omega) (by omega)]
theorem num4_congr {l l' : List Int} {n : Nat} (h : ∀ j, j < n → l'.getD j 0 = l.getD j 0) (p : Nat) (q : p + 4 ≤ n) : num4 l' p = num4 l p := by
 unfold num4; rw [leR_congr p 4 fun j a b => h j (by omega)]
theorem numV_congr {l l' : List Int} {n : Nat} (h : ∀ j, j < n → l'.getD j 0 = l.getD j 0) (p m : Nat) (q : p + m ≤ n) : numV l' p m = numV l p m := by
 unfold numV; rw [leR_congr p m fun j a b => h j (by omega)]
theorem take_getD (l : List Int) (n j : Nat) (h : j < n) : (l.take n).getD j 0 = l.getD j 0 := by
 simp [List.getD, List.getElem?_take, h]
theorem io_1 (l : List Int) : instO l 1 = if l.length < 2 then .short else if 2 < (l.getD 1 0 % 16) then .form else if l.length < 2 + bytesF (l.getD 1 0 % 16) then .short else .ok (2 + bytesF (l.getD 1 0 % 16)) (false || !inR (numV l 2 (bytesF (l.getD 1 0 % 16))) (sizedF (l.getD 1 0 % 16) (-9223372036854775808) 9223372036854775807)) (iC 1 (l.getD 1 0 / 16) 0 0 0 0 0 (numV l 2 (bytesF (l.getD 1 0 % 16))) 0) := rfl
theorem io_3 (l : List Int) : instO l 3 = if l.length < 2 then .short else .ok 2 (false) (iC 3 (l.getD 1 0 / 16) (l.getD 1 0 % 16) 0 0 0 0 0 0) := rfl
theorem io_4 (l : List Int) : instO l 4 = if l.length < 4 then .short else .ok 4 ((((false || !decide (Wi (l.getD 2 0) > 0)) || !has (l.getD 3 0) (l.getD 2 0)) || !cnd1 (l.getD 2 0) (l.getD 3 0) (l.getD 1 0 / 16) (l.getD 1 0 % 16)) || !cnd2 (l.getD 3 0) (l.getD 1 0 / 16) (l.getD 1 0 % 16)) (iC 4 (l.getD 1 0 / 16) (l.getD 1 0 % 16) 0 (l.getD 2 0) (l.getD 3 0) 0 0 0) := rfl
theorem io_5 (l : List Int) : instO l 5 = if l.length < 2 then .short else if 1 < (l.getD 1 0 % 16) then .form else if l.length < 4 + bytesF (l.getD 1 0 % 16) then .short else .ok (4 + bytesF (l.getD 1 0 % 16)) ((((false || !decide (Wi (l.getD 2 0) > 0)) || !wh (l.getD 2 0)) || !cnd5 (l.getD 2 0) (l.getD 3 0)) || !inR (numV l 4 (bytesF (l.getD 1 0 % 16))) (sizedF (l.getD 1 0 % 16) (heldF (if sh (l.getD 3 0) = true then 9 else l.getD 2 0)).1 (heldF (if sh (l.getD 3 0) = true then 9 else l.getD 2 0)).2)) (iC 5 (l.getD 1 0 / 16) 0 0 (l.getD 2 0) (l.getD 3 0) 0 (numV l 4 (bytesF (l.getD 1 0 % 16))) 0) := rfl
theorem io_6 (l : List Int) : instO l 6 = if l.length < 8 then .short else .ok 8 (((false || !decide (Wi (l.getD 2 0) > 0)) || !cnd6 (l.getD 2 0) (l.getD 3 0)) || !small (num4 l 4)) (iC 6 (l.getD 1 0 / 16) (l.getD 1 0 % 16) 0 (l.getD 2 0) (l.getD 3 0) 0 (num4 l 4) 0) := rfl
theorem io_7 (l : List Int) : instO l 7 = if l.length < 4 then .short else .ok 4 ((((false || !(l.getD 1 0 % 16 == 0)) || !decide (Wi (l.getD 2 0) > 0)) || !((l.getD 2 0) != 11)) || !hasU (l.getD 3 0) (l.getD 2 0)) (iC 7 (l.getD 1 0 / 16) (l.getD 1 0 % 16) 0 (l.getD 2 0) (l.getD 3 0) 0 0 0) := rfl
theorem io_8 (l : List Int) : instO l 8 = if l.length < 4 then .short else .ok 4 ((((false || !decide (Wi (l.getD 2 0) > 0)) || !nm (l.getD 2 0))) || !nm (l.getD 3 0)) (iC 8 (l.getD 1 0 / 16) (l.getD 1 0 % 16) 0 (l.getD 2 0) (l.getD 3 0) 0 0 0) := rfl
theorem io_10 (l : List Int) : instO l 10 = if l.length < 7 then .short else if l.getD 2 0 = 15 then .ok 7 (false || !small (num4 l 3)) (iC 10 (l.getD 1 0 / 16) (l.getD 1 0 % 16) 0 0 0 0 (num4 l 3) 0) else .ok 7 ((false || !decide (l.getD 2 0 % 16 ≤ 3)) || !small (num4 l 3)) (iC 10 (l.getD 1 0 / 16) (l.getD 1 0 % 16) (l.getD 2 0 / 16) 0 0 (2 ^ (l.getD 2 0 % 16).toNat) (num4 l 3) 0) := rfl
theorem io_11 (l : List Int) : instO l 11 = if l.length < 7 then .short else .ok 7 ((false || !decide (Wi (l.getD 2 0) > 0)) || !small (num4 l 3)) (iC 11 (l.getD 1 0 / 16) (l.getD 1 0 % 16) 0 (l.getD 2 0) 0 0 (num4 l 3) 0) := rfl
theorem io_12 (l : List Int) : instO l 12 = if l.length < 8 then .short else if l.getD 2 0 = 15 then .ok 8 (((false || !((0 : Int) != 0)) || !decide (Wi (l.getD 3 0) > 0)) || !small (num4 l 4)) (iC 12 (l.getD 1 0 / 16) (l.getD 1 0 % 16) 0 (l.getD 3 0) 0 0 (num4 l 4) 0) else .ok 8 ((((false || !decide (l.getD 2 0 % 16 ≤ 3)) || !((2 : Int) ^ (l.getD 2 0 % 16).toNat != 0)) || !decide (Wi (l.getD 3 0) > 0)) || !small (num4 l 4)) (iC 12 (l.getD 1 0 / 16) (l.getD 1 0 % 16) (l.getD 2 0 / 16) (l.getD 3 0) 0 (2 ^ (l.getD 2 0 % 16).toNat) (num4 l 4) 0) := rfl
theorem io_13 (l : List Int) : instO l 13 = if l.length < 7 then .short else .ok 7 ((false || !decide (Wi (l.getD 2 0) > 0)) || !small (num4 l 3)) (iC 13 (l.getD 1 0 / 16) (l.getD 1 0 % 16) 0 (l.getD 2 0) 0 0 (num4 l 3) 0) := rfl
theorem io_14 (l : List Int) : instO l 14 = if l.length < 8 then .short else if l.getD 2 0 = 15 then .ok 8 (((false || !((0 : Int) != 0)) || !decide (Wi (l.getD 3 0) > 0)) || !small (num4 l 4)) (iC 14 (l.getD 1 0 / 16) (l.getD 1 0 % 16) 0 (l.getD 3 0) 0 0 (num4 l 4) 0) else .ok 8 ((((false || !decide (l.getD 2 0 % 16 ≤ 3)) || !((2 : Int) ^ (l.getD 2 0 % 16).toNat != 0)) || !decide (Wi (l.getD 3 0) > 0)) || !small (num4 l 4)) (iC 14 (l.getD 1 0 / 16) (l.getD 1 0 % 16) (l.getD 2 0 / 16) (l.getD 3 0) 0 (2 ^ (l.getD 2 0 % 16).toNat) (num4 l 4) 0) := rfl
theorem io_15 (l : List Int) : instO l 15 = if l.length < 3 then .short else .ok 3 (false || !sd (l.getD 2 0)) (iC 15 (l.getD 1 0 / 16) (l.getD 1 0 % 16) 0 0 (l.getD 2 0) 0 0 0) := rfl
theorem io_16 (l : List Int) : instO l 16 = if l.length < 3 then .short else .ok 3 (false || !decide (Wi (l.getD 2 0) > 0)) (iC 16 (l.getD 1 0 / 16) (l.getD 1 0 % 16) 0 (l.getD 2 0) 0 0 0 0) := rfl
theorem io_17 (l : List Int) : instO l 17 = if l.length < 2 then .short else if 1 < (l.getD 1 0 % 16) then .form else if l.length < 3 + bytesF (l.getD 1 0 % 16) then .short else .ok (3 + bytesF (l.getD 1 0 % 16)) (((false || !decide (Wi (l.getD 2 0) > 0)) || !wh (l.getD 2 0)) || !inR (numV l 3 (bytesF (l.getD 1 0 % 16))) (sizedF (l.getD 1 0 % 16) (heldF (l.getD 2 0)).1 (heldF (l.getD 2 0)).2)) (iC 17 (l.getD 1 0 / 16) 0 0 (l.getD 2 0) 0 0 (numV l 3 (bytesF (l.getD 1 0 % 16))) 0) := rfl
theorem io_18 (l : List Int) : instO l 18 = if l.length < 3 then .short else .ok 3 ((false || !(l.getD 1 0 % 16 == 0)) || !sd (l.getD 2 0)) (iC 18 (l.getD 1 0 / 16) (l.getD 1 0 % 16) 0 0 (l.getD 2 0) 0 0 0) := rfl
theorem io_19 (l : List Int) : instO l 19 = if l.length < 2 then .short else if 1 < (l.getD 1 0) then .form else if l.length < 2 + bytesF (l.getD 1 0) then .short else .ok (2 + bytesF (l.getD 1 0)) (false || !inR (numV l 2 (bytesF (l.getD 1 0))) (sizedF (l.getD 1 0) (-2147483648) 2147483647)) (iC 19 0 0 0 0 0 0 (numV l 2 (bytesF (l.getD 1 0))) 0) := rfl
theorem io_22 (l : List Int) : instO l 22 = if l.length < 2 then .short else if 1 < (l.getD 1 0 % 16) then .form else if l.length < 2 + bytesF (l.getD 1 0 % 16) then .short else .ok (2 + bytesF (l.getD 1 0 % 16)) ((false || !sd (11 + l.getD 1 0 / 16)) || !inR (numV l 2 (bytesF (l.getD 1 0 % 16))) (sizedF (l.getD 1 0 % 16) (-2147483648) 2147483647)) (iC 22 0 0 0 0 (11 + l.getD 1 0 / 16) 0 (numV l 2 (bytesF (l.getD 1 0 % 16))) 0) := rfl
theorem io_23 (l : List Int) : instO l 23 = if l.length < 5 then .short else .ok 5 (false || !inR (num4 l 1) [(-2147483648, 2147483647)]) (iC 23 0 0 0 0 0 0 (num4 l 1) 0) := rfl
theorem io_24 (l : List Int) : instO l 24 = if l.length < 1 then .short else .ok 1 (false) (iC 24 0 0 0 0 0 0 0 0) := rfl
theorem io_25 (l : List Int) : instO l 25 = if l.length < 5 then .short else .ok 5 (false || !inR (num4 l 1) [(0, 2147483647)]) (iC 25 0 0 0 0 0 0 (num4 l 1) 0) := rfl
theorem io_26 (l : List Int) : instO l 26 = if l.length < 2 then .short else .ok 2 (false) (iC 26 (l.getD 1 0 / 16) (l.getD 1 0 % 16) 0 0 0 0 0 0) := rfl
theorem io_27 (l : List Int) : instO l 27 = if l.length < 2 then .short else .ok 2 (false || !(l.getD 1 0 % 16 == 0)) (iC 27 (l.getD 1 0 / 16) (l.getD 1 0 % 16) 0 0 0 0 0 0) := rfl
theorem io_28 (l : List Int) : instO l 28 = if l.length < 2 then .short else .ok 2 (false || !(l.getD 1 0 % 16 == 0)) (iC 28 (l.getD 1 0 / 16) (l.getD 1 0 % 16) 0 0 0 0 0 0) := rfl
theorem io_29 (l : List Int) : instO l 29 = if l.length < 5 then .short else .ok 5 (false || !inR (num4 l 1) [(1, 2147483647)]) (iC 29 0 0 0 0 0 0 (num4 l 1) 0) := rfl
theorem pre_1 {l l' : List Int} {n : Nat} {bad : Bool} {f : List SV} (e : instO l 1 = .ok n bad f) : 1 ≤ n ∧ n ≤ l.length ∧ (n ≤ l'.length → (∀ j, j < n → l'.getD j 0 = l.getD j 0) → instO l' 1 = .ok n bad f) ∧ (∀ q, 1 ≤ q → q < n → instO (l.take q) 1 = .short) := by
 simp only [io_1] at e ⊢
 by_cases h0 : l.length < 2
 ·rw [if_pos h0] at e; cases e
 rw [if_neg h0] at e
 by_cases h1 : 2 < (l.getD 1 0 % 16)
 ·rw [if_pos h1] at e; cases e
 rw [if_neg h1] at e
 by_cases h2 : l.length < 2 + bytesF (l.getD 1 0 % 16)
 ·rw [if_pos h2] at e; cases e
 rw [if_neg h2] at e
 have b1 := bytesF_ge (l.getD 1 0 % 16)
 have hn : n = 2 + bytesF (l.getD 1 0 % 16) := by cases e; rfl
 subst hn
 refine ⟨by omega, by omega, fun hl hg => ?_, fun q h3 h4 => ?_⟩
 ·rw [if_neg (by omega), hg 1 (by omega), if_neg h1, if_neg (by omega), numV_congr hg 2 _ (by omega)]
  exact e
 ·by_cases h5 : q < 2
  ·rw [if_pos (by rw [List.length_take]; omega)]
  ·rw [if_neg (by rw [List.length_take]; omega), take_getD l q 1 (by omega), if_neg h1, if_pos (by rw [List.length_take]; omega)]
theorem pre_3 {l l' : List Int} {n : Nat} {bad : Bool} {f : List SV} (e : instO l 3 = .ok n bad f) : 1 ≤ n ∧ n ≤ l.length ∧ (n ≤ l'.length → (∀ j, j < n → l'.getD j 0 = l.getD j 0) → instO l' 3 = .ok n bad f) ∧ (∀ q, 1 ≤ q → q < n → instO (l.take q) 3 = .short) := by
 simp only [io_3] at e ⊢
 by_cases h0 : l.length < 2
 ·rw [if_pos h0] at e; cases e
 rw [if_neg h0] at e
 have hn : n = 2 := by
  cases e; rfl
 subst hn
 refine ⟨by omega, by omega, fun hl hg => ?_, fun q h1 h2 => ?_⟩
 ·rw [if_neg (by omega), hg 1 (by omega)]
  exact e
 ·rw [if_pos (by rw [List.length_take]; omega)]
theorem pre_4 {l l' : List Int} {n : Nat} {bad : Bool} {f : List SV} (e : instO l 4 = .ok n bad f) : 1 ≤ n ∧ n ≤ l.length ∧ (n ≤ l'.length → (∀ j, j < n → l'.getD j 0 = l.getD j 0) → instO l' 4 = .ok n bad f) ∧ (∀ q, 1 ≤ q → q < n → instO (l.take q) 4 = .short) := by
 simp only [io_4] at e ⊢
 by_cases h0 : l.length < 4
 ·rw [if_pos h0] at e; cases e
 rw [if_neg h0] at e
 have hn : n = 4 := by
  cases e; rfl
 subst hn
 refine ⟨by omega, by omega, fun hl hg => ?_, fun q h1 h2 => ?_⟩
 ·rw [if_neg (by omega), hg 1 (by omega), hg 2 (by omega), hg 3 (by omega)]
  exact e
 ·rw [if_pos (by rw [List.length_take]; omega)]
theorem pre_5 {l l' : List Int} {n : Nat} {bad : Bool} {f : List SV} (e : instO l 5 = .ok n bad f) : 1 ≤ n ∧ n ≤ l.length ∧ (n ≤ l'.length → (∀ j, j < n → l'.getD j 0 = l.getD j 0) → instO l' 5 = .ok n bad f) ∧ (∀ q, 1 ≤ q → q < n → instO (l.take q) 5 = .short) := by
 simp only [io_5] at e ⊢
 by_cases h0 : l.length < 2
 ·rw [if_pos h0] at e; cases e
 rw [if_neg h0] at e
 by_cases h1 : 1 < (l.getD 1 0 % 16)
 ·rw [if_pos h1] at e; cases e
 rw [if_neg h1] at e
 by_cases h2 : l.length < 4 + bytesF (l.getD 1 0 % 16)
 ·rw [if_pos h2] at e; cases e
 rw [if_neg h2] at e
 have b1 := bytesF_ge (l.getD 1 0 % 16)
 have hn : n = 4 + bytesF (l.getD 1 0 % 16) := by cases e; rfl
 subst hn
 refine ⟨by omega, by omega, fun hl hg => ?_, fun q h3 h4 => ?_⟩
 ·rw [if_neg (by omega), hg 1 (by omega), hg 2 (by omega), hg 3 (by omega), if_neg h1, if_neg (by omega), numV_congr hg 4 _ (by omega)]
  exact e
 ·by_cases h5 : q < 2
  ·rw [if_pos (by rw [List.length_take]; omega)]
  ·rw [if_neg (by rw [List.length_take]; omega), take_getD l q 1 (by omega), if_neg h1, if_pos (by rw [List.length_take]; omega)]
theorem pre_6 {l l' : List Int} {n : Nat} {bad : Bool} {f : List SV} (e : instO l 6 = .ok n bad f) : 1 ≤ n ∧ n ≤ l.length ∧ (n ≤ l'.length → (∀ j, j < n → l'.getD j 0 = l.getD j 0) → instO l' 6 = .ok n bad f) ∧ (∀ q, 1 ≤ q → q < n → instO (l.take q) 6 = .short) := by
 simp only [io_6] at e ⊢
 by_cases h0 : l.length < 8
 ·rw [if_pos h0] at e; cases e
 rw [if_neg h0] at e
 have hn : n = 8 := by
  cases e; rfl
 subst hn
 refine ⟨by omega, by omega, fun hl hg => ?_, fun q h1 h2 => ?_⟩
 ·rw [if_neg (by omega), hg 1 (by omega), hg 2 (by omega), hg 3 (by omega), num4_congr hg 4 (by omega)]
  exact e
 ·rw [if_pos (by rw [List.length_take]; omega)]
theorem pre_7 {l l' : List Int} {n : Nat} {bad : Bool} {f : List SV} (e : instO l 7 = .ok n bad f) : 1 ≤ n ∧ n ≤ l.length ∧ (n ≤ l'.length → (∀ j, j < n → l'.getD j 0 = l.getD j 0) → instO l' 7 = .ok n bad f) ∧ (∀ q, 1 ≤ q → q < n → instO (l.take q) 7 = .short) := by
 simp only [io_7] at e ⊢
 by_cases h0 : l.length < 4
 ·rw [if_pos h0] at e; cases e
 rw [if_neg h0] at e
 have hn : n = 4 := by
  cases e; rfl
 subst hn
 refine ⟨by omega, by omega, fun hl hg => ?_, fun q h1 h2 => ?_⟩
 ·rw [if_neg (by omega), hg 1 (by omega), hg 2 (by omega), hg 3 (by omega)]
  exact e
 ·rw [if_pos (by rw [List.length_take]; omega)]
theorem pre_8 {l l' : List Int} {n : Nat} {bad : Bool} {f : List SV} (e : instO l 8 = .ok n bad f) : 1 ≤ n ∧ n ≤ l.length ∧ (n ≤ l'.length → (∀ j, j < n → l'.getD j 0 = l.getD j 0) → instO l' 8 = .ok n bad f) ∧ (∀ q, 1 ≤ q → q < n → instO (l.take q) 8 = .short) := by
 simp only [io_8] at e ⊢
 by_cases h0 : l.length < 4
 ·rw [if_pos h0] at e; cases e
 rw [if_neg h0] at e
 have hn : n = 4 := by
  cases e; rfl
 subst hn
 refine ⟨by omega, by omega, fun hl hg => ?_, fun q h1 h2 => ?_⟩
 ·rw [if_neg (by omega), hg 1 (by omega), hg 2 (by omega), hg 3 (by omega)]
  exact e
 ·rw [if_pos (by rw [List.length_take]; omega)]
theorem pre_10 {l l' : List Int} {n : Nat} {bad : Bool} {f : List SV} (e : instO l 10 = .ok n bad f) : 1 ≤ n ∧ n ≤ l.length ∧ (n ≤ l'.length → (∀ j, j < n → l'.getD j 0 = l.getD j 0) → instO l' 10 = .ok n bad f) ∧ (∀ q, 1 ≤ q → q < n → instO (l.take q) 10 = .short) := by
 simp only [io_10] at e ⊢
 by_cases h0 : l.length < 7
 ·rw [if_pos h0] at e; cases e
 rw [if_neg h0] at e
 have hn : n = 7 := by
  split at e <;> (cases e; rfl)
 subst hn
 refine ⟨by omega, by omega, fun hl hg => ?_, fun q h1 h2 => ?_⟩
 ·rw [if_neg (by omega), hg 1 (by omega), hg 2 (by omega), num4_congr hg 3 (by omega)]
  exact e
 ·rw [if_pos (by rw [List.length_take]; omega)]
theorem pre_11 {l l' : List Int} {n : Nat} {bad : Bool} {f : List SV} (e : instO l 11 = .ok n bad f) : 1 ≤ n ∧ n ≤ l.length ∧ (n ≤ l'.length → (∀ j, j < n → l'.getD j 0 = l.getD j 0) → instO l' 11 = .ok n bad f) ∧ (∀ q, 1 ≤ q → q < n → instO (l.take q) 11 = .short) := by
 simp only [io_11] at e ⊢
 by_cases h0 : l.length < 7
 ·rw [if_pos h0] at e; cases e
 rw [if_neg h0] at e
 have hn : n = 7 := by
  cases e; rfl
 subst hn
 refine ⟨by omega, by omega, fun hl hg => ?_, fun q h1 h2 => ?_⟩
 ·rw [if_neg (by omega), hg 1 (by omega), hg 2 (by omega), num4_congr hg 3 (by omega)]
  exact e
 ·rw [if_pos (by rw [List.length_take]; omega)]
theorem pre_12 {l l' : List Int} {n : Nat} {bad : Bool} {f : List SV} (e : instO l 12 = .ok n bad f) : 1 ≤ n ∧ n ≤ l.length ∧ (n ≤ l'.length → (∀ j, j < n → l'.getD j 0 = l.getD j 0) → instO l' 12 = .ok n bad f) ∧ (∀ q, 1 ≤ q → q < n → instO (l.take q) 12 = .short) := by
 simp only [io_12] at e ⊢
 by_cases h0 : l.length < 8
 ·rw [if_pos h0] at e; cases e
 rw [if_neg h0] at e
 have hn : n = 8 := by
  split at e <;> (cases e; rfl)
 subst hn
 refine ⟨by omega, by omega, fun hl hg => ?_, fun q h1 h2 => ?_⟩
 ·rw [if_neg (by omega), hg 1 (by omega), hg 2 (by omega), hg 3 (by omega), num4_congr hg 4 (by omega)]
  exact e
 ·rw [if_pos (by rw [List.length_take]; omega)]
theorem pre_13 {l l' : List Int} {n : Nat} {bad : Bool} {f : List SV} (e : instO l 13 = .ok n bad f) : 1 ≤ n ∧ n ≤ l.length ∧ (n ≤ l'.length → (∀ j, j < n → l'.getD j 0 = l.getD j 0) → instO l' 13 = .ok n bad f) ∧ (∀ q, 1 ≤ q → q < n → instO (l.take q) 13 = .short) := by
 simp only [io_13] at e ⊢
 by_cases h0 : l.length < 7
 ·rw [if_pos h0] at e; cases e
 rw [if_neg h0] at e
 have hn : n = 7 := by
  cases e; rfl
 subst hn
 refine ⟨by omega, by omega, fun hl hg => ?_, fun q h1 h2 => ?_⟩
 ·rw [if_neg (by omega), hg 1 (by omega), hg 2 (by omega), num4_congr hg 3 (by omega)]
  exact e
 ·rw [if_pos (by rw [List.length_take]; omega)]
theorem pre_14 {l l' : List Int} {n : Nat} {bad : Bool} {f : List SV} (e : instO l 14 = .ok n bad f) : 1 ≤ n ∧ n ≤ l.length ∧ (n ≤ l'.length → (∀ j, j < n → l'.getD j 0 = l.getD j 0) → instO l' 14 = .ok n bad f) ∧ (∀ q, 1 ≤ q → q < n → instO (l.take q) 14 = .short) := by
 simp only [io_14] at e ⊢
 by_cases h0 : l.length < 8
 ·rw [if_pos h0] at e; cases e
 rw [if_neg h0] at e
 have hn : n = 8 := by
  split at e <;> (cases e; rfl)
 subst hn
 refine ⟨by omega, by omega, fun hl hg => ?_, fun q h1 h2 => ?_⟩
 ·rw [if_neg (by omega), hg 1 (by omega), hg 2 (by omega), hg 3 (by omega), num4_congr hg 4 (by omega)]
  exact e
 ·rw [if_pos (by rw [List.length_take]; omega)]
theorem pre_15 {l l' : List Int} {n : Nat} {bad : Bool} {f : List SV} (e : instO l 15 = .ok n bad f) : 1 ≤ n ∧ n ≤ l.length ∧ (n ≤ l'.length → (∀ j, j < n → l'.getD j 0 = l.getD j 0) → instO l' 15 = .ok n bad f) ∧ (∀ q, 1 ≤ q → q < n → instO (l.take q) 15 = .short) := by
 simp only [io_15] at e ⊢
 by_cases h0 : l.length < 3
 ·rw [if_pos h0] at e; cases e
 rw [if_neg h0] at e
 have hn : n = 3 := by
  cases e; rfl
 subst hn
 refine ⟨by omega, by omega, fun hl hg => ?_, fun q h1 h2 => ?_⟩
 ·rw [if_neg (by omega), hg 1 (by omega), hg 2 (by omega)]
  exact e
 ·rw [if_pos (by rw [List.length_take]; omega)]
theorem pre_16 {l l' : List Int} {n : Nat} {bad : Bool} {f : List SV} (e : instO l 16 = .ok n bad f) : 1 ≤ n ∧ n ≤ l.length ∧ (n ≤ l'.length → (∀ j, j < n → l'.getD j 0 = l.getD j 0) → instO l' 16 = .ok n bad f) ∧ (∀ q, 1 ≤ q → q < n → instO (l.take q) 16 = .short) := by
 simp only [io_16] at e ⊢
 by_cases h0 : l.length < 3
 ·rw [if_pos h0] at e; cases e
 rw [if_neg h0] at e
 have hn : n = 3 := by
  cases e; rfl
 subst hn
 refine ⟨by omega, by omega, fun hl hg => ?_, fun q h1 h2 => ?_⟩
 ·rw [if_neg (by omega), hg 1 (by omega), hg 2 (by omega)]
  exact e
 ·rw [if_pos (by rw [List.length_take]; omega)]
theorem pre_17 {l l' : List Int} {n : Nat} {bad : Bool} {f : List SV} (e : instO l 17 = .ok n bad f) : 1 ≤ n ∧ n ≤ l.length ∧ (n ≤ l'.length → (∀ j, j < n → l'.getD j 0 = l.getD j 0) → instO l' 17 = .ok n bad f) ∧ (∀ q, 1 ≤ q → q < n → instO (l.take q) 17 = .short) := by
 simp only [io_17] at e ⊢
 by_cases h0 : l.length < 2
 ·rw [if_pos h0] at e; cases e
 rw [if_neg h0] at e
 by_cases h1 : 1 < (l.getD 1 0 % 16)
 ·rw [if_pos h1] at e; cases e
 rw [if_neg h1] at e
 by_cases h2 : l.length < 3 + bytesF (l.getD 1 0 % 16)
 ·rw [if_pos h2] at e; cases e
 rw [if_neg h2] at e
 have b1 := bytesF_ge (l.getD 1 0 % 16)
 have hn : n = 3 + bytesF (l.getD 1 0 % 16) := by cases e; rfl
 subst hn
 refine ⟨by omega, by omega, fun hl hg => ?_, fun q h3 h4 => ?_⟩
 ·rw [if_neg (by omega), hg 1 (by omega), hg 2 (by omega), if_neg h1, if_neg (by omega), numV_congr hg 3 _ (by omega)]
  exact e
 ·by_cases h5 : q < 2
  ·rw [if_pos (by rw [List.length_take]; omega)]
  ·rw [if_neg (by rw [List.length_take]; omega), take_getD l q 1 (by omega), if_neg h1, if_pos (by rw [List.length_take]; omega)]
theorem pre_18 {l l' : List Int} {n : Nat} {bad : Bool} {f : List SV} (e : instO l 18 = .ok n bad f) : 1 ≤ n ∧ n ≤ l.length ∧ (n ≤ l'.length → (∀ j, j < n → l'.getD j 0 = l.getD j 0) → instO l' 18 = .ok n bad f) ∧ (∀ q, 1 ≤ q → q < n → instO (l.take q) 18 = .short) := by
 simp only [io_18] at e ⊢
 by_cases h0 : l.length < 3
 ·rw [if_pos h0] at e; cases e
 rw [if_neg h0] at e
 have hn : n = 3 := by
  cases e; rfl
 subst hn
 refine ⟨by omega, by omega, fun hl hg => ?_, fun q h1 h2 => ?_⟩
 ·rw [if_neg (by omega), hg 1 (by omega), hg 2 (by omega)]
  exact e
 ·rw [if_pos (by rw [List.length_take]; omega)]
theorem pre_19 {l l' : List Int} {n : Nat} {bad : Bool} {f : List SV} (e : instO l 19 = .ok n bad f) : 1 ≤ n ∧ n ≤ l.length ∧ (n ≤ l'.length → (∀ j, j < n → l'.getD j 0 = l.getD j 0) → instO l' 19 = .ok n bad f) ∧ (∀ q, 1 ≤ q → q < n → instO (l.take q) 19 = .short) := by
 simp only [io_19] at e ⊢
 by_cases h0 : l.length < 2
 ·rw [if_pos h0] at e; cases e
 rw [if_neg h0] at e
 by_cases h1 : 1 < (l.getD 1 0)
 ·rw [if_pos h1] at e; cases e
 rw [if_neg h1] at e
 by_cases h2 : l.length < 2 + bytesF (l.getD 1 0)
 ·rw [if_pos h2] at e; cases e
 rw [if_neg h2] at e
 have b1 := bytesF_ge (l.getD 1 0)
 have hn : n = 2 + bytesF (l.getD 1 0) := by cases e; rfl
 subst hn
 refine ⟨by omega, by omega, fun hl hg => ?_, fun q h3 h4 => ?_⟩
 ·rw [if_neg (by omega), hg 1 (by omega), if_neg h1, if_neg (by omega), numV_congr hg 2 _ (by omega)]
  exact e
 ·by_cases h5 : q < 2
  ·rw [if_pos (by rw [List.length_take]; omega)]
  ·rw [if_neg (by rw [List.length_take]; omega), take_getD l q 1 (by omega), if_neg h1, if_pos (by rw [List.length_take]; omega)]
theorem pre_22 {l l' : List Int} {n : Nat} {bad : Bool} {f : List SV} (e : instO l 22 = .ok n bad f) : 1 ≤ n ∧ n ≤ l.length ∧ (n ≤ l'.length → (∀ j, j < n → l'.getD j 0 = l.getD j 0) → instO l' 22 = .ok n bad f) ∧ (∀ q, 1 ≤ q → q < n → instO (l.take q) 22 = .short) := by
 simp only [io_22] at e ⊢
 by_cases h0 : l.length < 2
 ·rw [if_pos h0] at e; cases e
 rw [if_neg h0] at e
 by_cases h1 : 1 < (l.getD 1 0 % 16)
 ·rw [if_pos h1] at e; cases e
 rw [if_neg h1] at e
 by_cases h2 : l.length < 2 + bytesF (l.getD 1 0 % 16)
 ·rw [if_pos h2] at e; cases e
 rw [if_neg h2] at e
 have b1 := bytesF_ge (l.getD 1 0 % 16)
 have hn : n = 2 + bytesF (l.getD 1 0 % 16) := by cases e; rfl
 subst hn
 refine ⟨by omega, by omega, fun hl hg => ?_, fun q h3 h4 => ?_⟩
 ·rw [if_neg (by omega), hg 1 (by omega), if_neg h1, if_neg (by omega), numV_congr hg 2 _ (by omega)]
  exact e
 ·by_cases h5 : q < 2
  ·rw [if_pos (by rw [List.length_take]; omega)]
  ·rw [if_neg (by rw [List.length_take]; omega), take_getD l q 1 (by omega), if_neg h1, if_pos (by rw [List.length_take]; omega)]
theorem pre_23 {l l' : List Int} {n : Nat} {bad : Bool} {f : List SV} (e : instO l 23 = .ok n bad f) : 1 ≤ n ∧ n ≤ l.length ∧ (n ≤ l'.length → (∀ j, j < n → l'.getD j 0 = l.getD j 0) → instO l' 23 = .ok n bad f) ∧ (∀ q, 1 ≤ q → q < n → instO (l.take q) 23 = .short) := by
 simp only [io_23] at e ⊢
 by_cases h0 : l.length < 5
 ·rw [if_pos h0] at e; cases e
 rw [if_neg h0] at e
 have hn : n = 5 := by
  cases e; rfl
 subst hn
 refine ⟨by omega, by omega, fun hl hg => ?_, fun q h1 h2 => ?_⟩
 ·rw [if_neg (by omega), num4_congr hg 1 (by omega)]
  exact e
 ·rw [if_pos (by rw [List.length_take]; omega)]
theorem pre_24 {l l' : List Int} {n : Nat} {bad : Bool} {f : List SV} (e : instO l 24 = .ok n bad f) : 1 ≤ n ∧ n ≤ l.length ∧ (n ≤ l'.length → (∀ j, j < n → l'.getD j 0 = l.getD j 0) → instO l' 24 = .ok n bad f) ∧ (∀ q, 1 ≤ q → q < n → instO (l.take q) 24 = .short) := by
 simp only [io_24] at e ⊢
 by_cases h0 : l.length < 1
 ·rw [if_pos h0] at e; cases e
 rw [if_neg h0] at e
 have hn : n = 1 := by
  cases e; rfl
 subst hn
 refine ⟨by omega, by omega, fun hl hg => ?_, fun q h1 h2 => ?_⟩
 ·rw [if_neg (by omega)]
  exact e
 ·rw [if_pos (by rw [List.length_take]; omega)]
theorem pre_25 {l l' : List Int} {n : Nat} {bad : Bool} {f : List SV} (e : instO l 25 = .ok n bad f) : 1 ≤ n ∧ n ≤ l.length ∧ (n ≤ l'.length → (∀ j, j < n → l'.getD j 0 = l.getD j 0) → instO l' 25 = .ok n bad f) ∧ (∀ q, 1 ≤ q → q < n → instO (l.take q) 25 = .short) := by
 simp only [io_25] at e ⊢
 by_cases h0 : l.length < 5
 ·rw [if_pos h0] at e; cases e
 rw [if_neg h0] at e
 have hn : n = 5 := by
  cases e; rfl
 subst hn
 refine ⟨by omega, by omega, fun hl hg => ?_, fun q h1 h2 => ?_⟩
 ·rw [if_neg (by omega), num4_congr hg 1 (by omega)]
  exact e
 ·rw [if_pos (by rw [List.length_take]; omega)]
theorem pre_26 {l l' : List Int} {n : Nat} {bad : Bool} {f : List SV} (e : instO l 26 = .ok n bad f) : 1 ≤ n ∧ n ≤ l.length ∧ (n ≤ l'.length → (∀ j, j < n → l'.getD j 0 = l.getD j 0) → instO l' 26 = .ok n bad f) ∧ (∀ q, 1 ≤ q → q < n → instO (l.take q) 26 = .short) := by
 simp only [io_26] at e ⊢
 by_cases h0 : l.length < 2
 ·rw [if_pos h0] at e; cases e
 rw [if_neg h0] at e
 have hn : n = 2 := by
  cases e; rfl
 subst hn
 refine ⟨by omega, by omega, fun hl hg => ?_, fun q h1 h2 => ?_⟩
 ·rw [if_neg (by omega), hg 1 (by omega)]
  exact e
 ·rw [if_pos (by rw [List.length_take]; omega)]
theorem pre_27 {l l' : List Int} {n : Nat} {bad : Bool} {f : List SV} (e : instO l 27 = .ok n bad f) : 1 ≤ n ∧ n ≤ l.length ∧ (n ≤ l'.length → (∀ j, j < n → l'.getD j 0 = l.getD j 0) → instO l' 27 = .ok n bad f) ∧ (∀ q, 1 ≤ q → q < n → instO (l.take q) 27 = .short) := by
 simp only [io_27] at e ⊢
 by_cases h0 : l.length < 2
 ·rw [if_pos h0] at e; cases e
 rw [if_neg h0] at e
 have hn : n = 2 := by
  cases e; rfl
 subst hn
 refine ⟨by omega, by omega, fun hl hg => ?_, fun q h1 h2 => ?_⟩
 ·rw [if_neg (by omega), hg 1 (by omega)]
  exact e
 ·rw [if_pos (by rw [List.length_take]; omega)]
theorem pre_28 {l l' : List Int} {n : Nat} {bad : Bool} {f : List SV} (e : instO l 28 = .ok n bad f) : 1 ≤ n ∧ n ≤ l.length ∧ (n ≤ l'.length → (∀ j, j < n → l'.getD j 0 = l.getD j 0) → instO l' 28 = .ok n bad f) ∧ (∀ q, 1 ≤ q → q < n → instO (l.take q) 28 = .short) := by
 simp only [io_28] at e ⊢
 by_cases h0 : l.length < 2
 ·rw [if_pos h0] at e; cases e
 rw [if_neg h0] at e
 have hn : n = 2 := by
  cases e; rfl
 subst hn
 refine ⟨by omega, by omega, fun hl hg => ?_, fun q h1 h2 => ?_⟩
 ·rw [if_neg (by omega), hg 1 (by omega)]
  exact e
 ·rw [if_pos (by rw [List.length_take]; omega)]
theorem pre_29 {l l' : List Int} {n : Nat} {bad : Bool} {f : List SV} (e : instO l 29 = .ok n bad f) : 1 ≤ n ∧ n ≤ l.length ∧ (n ≤ l'.length → (∀ j, j < n → l'.getD j 0 = l.getD j 0) → instO l' 29 = .ok n bad f) ∧ (∀ q, 1 ≤ q → q < n → instO (l.take q) 29 = .short) := by
 simp only [io_29] at e ⊢
 by_cases h0 : l.length < 5
 ·rw [if_pos h0] at e; cases e
 rw [if_neg h0] at e
 have hn : n = 5 := by
  cases e; rfl
 subst hn
 refine ⟨by omega, by omega, fun hl hg => ?_, fun q h1 h2 => ?_⟩
 ·rw [if_neg (by omega), num4_congr hg 1 (by omega)]
  exact e
 ·rw [if_pos (by rw [List.length_take]; omega)]
end Go.Proofs.Ytahepinbmcgbnaa.Vm
end
section
/- Numbers in bytes, registers in bytes: the plain laws' arithmetic. No condition. -/
set_option linter.unusedVariables false
set_option linter.unusedSimpArgs false
namespace Go.Proofs.Ytahepinbmcgbnaa.Vm
open Go.RowKit Go.Proofs.Ytahepinbmcgbnaa.PV Go.Proofs.Ytahepinbmcgbnaa.Wd Go.Proofs.YtahepinbmcgbnaaW.PrintWords
def Reg (x : Int) : Prop := 0 ≤ x ∧ x < 16
theorem reg_iff (x : Int) : Ri.regF x = true ↔ Reg x := by simp [Ri.regF, Reg]
theorem small_iff (x : Int) : Ri.smallF x = true ↔ -2147483648 ≤ x ∧ x < 2147483648 := by simp [Ri.smallF]
theorem ab_eq (a b : Int) : u8 (abF a b) = (16 * a + b) % 256 := by
 rw [u8_eq]; unfold abF
 rw [i64w, i64w]
 split <;> split <;> omega
theorem ab_lo (a t : Int) (h : Reg t) : u8 (abF a t) % 16 = t := by rw [ab_eq]; unfold Reg at h; omega
theorem ab_hi (a t : Int) (ha : Reg a) (h : Reg t) : u8 (abF a t) / 16 = a := by rw [ab_eq]; unfold Reg at ha h; omega
theorem reg_hi {y a : Int} (h : u8 y / 16 = a) : Reg a := by have := u8_rng y; unfold Reg; omega
theorem reg_lo {y b : Int} (h : u8 y % 16 = b) : Reg b := by have := u8_rng y; unfold Reg; omega
theorem reg_0 : Reg 0 := ⟨by omega, by omega⟩
theorem ab_back (x : Int) (h0 : 0 ≤ x) (h1 : x ≤ 255) : u8 (abF (x / 16) (x % 16)) = x := by rw [ab_eq]; omega
theorem ab_back2 (x t : Int) (h0 : 0 ≤ x) (h1 : x ≤ 255) (h : t = x % 16) : u8 (abF (x / 16) t) = x := by subst h; exact ab_back x h0 h1
theorem least_rng (i : Int) : 0 ≤ leastF i ∧ leastF i ≤ 2 := by unfold leastF; split; omega; split <;> omega
theorem least_reg (i : Int) : Reg (leastF i) := by have := least_rng i; unfold Reg; omega
theorem u8_id {x : Int} (h : 0 ≤ x ∧ x ≤ 255) : u8 x = x := by rw [u8_eq]; omega
/-- Kinds, operations, in their bounds. -/
theorem has_rng {s k : Int} (h : has s k = true) : 1 ≤ s ∧ s ≤ 16 ∧ 1 ≤ k ∧ k ≤ 11 := by
 simp only [has, wh, Bool.and_eq_true, Bool.or_eq_true, decide_eq_true_iff] at h
 obtain ⟨⟨h1, h2⟩, h3⟩ := h
 refine ⟨h1, h2, ?_⟩
 rcases h3 with h3 | h3
 ·omega
 ·split at h3
  ·simp at h3; omega
  ·split at h3
   ·simp at h3; omega
   ·split at h3
    ·cases h3
    ·simp at h3; omega
theorem wd_rng {k : Int} (h : wd k = true) : 1 ≤ k ∧ k ≤ 11 := by simpa [wd] using h
theorem wi_wd (k : Int) : decide (Wi k > 0) = wd k := wd_width k
theorem wd_of {k : Int} (h : 1 ≤ k ∧ k ≤ 11) : wd k = true := by simpa [wd] using h
theorem hasU_rng {s k : Int} (h : hasU s k = true) : 1 ≤ s ∧ s ≤ 3 ∧ 1 ≤ k ∧ k ≤ 10 := by
 simp only [hasU, wh, Bool.and_eq_true, Bool.or_eq_true, decide_eq_true_iff, beq_iff_eq] at h
 omega
theorem nm_rng {k : Int} (h : nm k = true) : 2 ≤ k ∧ k ≤ 10 := by
 simp only [nm, wh, Bool.and_eq_true, Bool.or_eq_true, decide_eq_true_iff, beq_iff_eq] at h
 omega
theorem wh_rng {k : Int} (h : wh k = true) : 2 ≤ k ∧ k ≤ 9 := by simpa [wh] using h
theorem sd_rng {s : Int} (h : sd s = true) : 11 ≤ s ∧ s ≤ 16 := by simpa [sd] using h
/-- Numbers' bytes. -/
theorem lowF_eq (i : Int) (j : Nat) : lowF i j = (i / 256 ^ j) % 256 := by
 unfold lowF
 rw [u8w, two_256, Int.fdiv_eq_ediv_of_nonneg _ (by exact Int.le_of_lt (Int.pow_pos (by decide)))]
theorem lows_getD (pre : List Int) (i : Int) (n j : Nat) (h : j < n) : (pre ++ lows i n).getD (pre.length + j) 0 = lowF i j := by
 simp [List.getD, lows, h]
theorem emod_step (i : Int) (m : Nat) : i % 256 ^ (m + 1) = i % 256 ^ m + (i / 256 ^ m) % 256 * 256 ^ m := by
 have e : (0 : Int) < 256 ^ m := Int.pow_pos (by decide)
 generalize hM : (256 : Int) ^ m = M at *
 rw [Int.pow_succ, hM]
 have h1 := Int.emod_add_mul_ediv i M
 have h2 := Int.emod_add_mul_ediv (i / M) 256
 have r0 := Int.emod_nonneg i (show M ≠ 0 by omega)
 have r1 := Int.emod_lt_of_pos i e
 have s0 := Int.emod_nonneg (i / M) (show (256 : Int) ≠ 0 by omega)
 have s1 := Int.emod_lt_of_pos (i / M) (show (0 : Int) < 256 by omega)
 generalize i % M = r at *
 generalize i / M % 256 = s at *
 generalize hq : i / M / 256 = t at *
 have hi : i = (r + s * M) + (M * 256) * t := by
  rw [← h1, ← h2]
  rw [Int.mul_add, Int.add_assoc, Int.mul_comm M s, Int.mul_assoc]
 rw [hi, Int.add_mul_emod_self_left]
 have : s * M ≤ 255 * M := Int.mul_le_mul_of_nonneg_right (by omega) (by omega)
 have : 0 ≤ s * M := Int.mul_nonneg s0 (by omega)
 exact Int.emod_eq_of_lt (by omega) (by omega)
theorem val_lows (pre : List Int) (i : Int) (n : Nat) : ∀ m, m ≤ n → val (pre ++ lows i n) pre.length m = i % 256 ^ m
 | 0, _ => by simp [val, Int.emod_one]
 | m + 1, h => by
  unfold val
  rw [val_lows pre i n m (by omega), lows_getD _ _ _ _ (by omega), lowF_eq, emod_step]
theorem numV_lows {pre : List Int} {i : Int} {n p : Nat} (hp : pre.length = p) (hr : rng (pre ++ lows i n)) (hn : n ≤ 8) : numV (pre ++ lows i n) p n = sgR n (i % 256 ^ n) := by
 subst hp
 unfold numV
 rw [leR_val (fun k q => hr _ (List.getElem_mem q)) _ n hn, val_lows _ _ _ _ (Nat.le_refl _)]
theorem sg1 (v : Int) (h0 : 0 ≤ v) (h1 : v < 256) : sgR 1 v = if v ≥ 128 then v - 256 else v := by
 unfold sgR
 rw [i64_in v (by omega) (by omega), Int.fdiv_eq_ediv_of_nonneg _ (by decide), i64w]
 rw [show (2 : Int) ^ (64 - 8 * 1) = 72057594037927936 from rfl]
 split <;> split <;> omega
theorem sg4 (v : Int) (h0 : 0 ≤ v) (h1 : v < 4294967296) : sgR 4 v = if v ≥ 2147483648 then v - 4294967296 else v := by
 unfold sgR
 rw [i64_in v (by omega) (by omega), Int.fdiv_eq_ediv_of_nonneg _ (by decide), i64w]
 rw [show (2 : Int) ^ (64 - 8 * 4) = 4294967296 from rfl]
 split <;> split <;> omega
theorem sg8 (v : Int) (h0 : 0 ≤ v) (h1 : v < 18446744073709551616) : sgR 8 v = if v ≥ 9223372036854775808 then v - 18446744073709551616 else v := by
 unfold sgR
 rw [Int.fdiv_eq_ediv_of_nonneg _ (by decide), show (2 : Int) ^ (64 - 8 * 8) = 1 from rfl, Int.mul_one, i64w v, Int.emod_eq_of_lt h0 h1]
 rw [i64_in _ (by split <;> omega) (by split <;> omega), Int.ediv_one]
theorem p1 : (256 : Int) ^ 1 = 256 := rfl
theorem p4 : (256 : Int) ^ 4 = 4294967296 := rfl
theorem p8 : (256 : Int) ^ 8 = 18446744073709551616 := rfl
theorem sg_small (i : Int) : sgR 4 (i % 256 ^ 4) = i ↔ -2147483648 ≤ i ∧ i < 2147483648 := by
 rw [p4, sg4 _ (by omega) (by omega)]
 split <;> omega
theorem sg_least (i : Int) (h0 : -9223372036854775808 ≤ i) (h1 : i ≤ 9223372036854775807) : sgR (bytesF (leastF i)) (i % 256 ^ (bytesF (leastF i))) = i := by
 unfold leastF
 split
 ·rw [show bytesF 0 = 1 from rfl, p1, sg1 _ (by omega) (by omega)]; split <;> omega
 ·split
  ·rw [show bytesF 1 = 4 from rfl, p4, sg4 _ (by omega) (by omega)]; split <;> omega
  ·rw [show bytesF 2 = 8 from rfl, p8, sg8 _ (by omega) (by omega)]; split <;> omega
theorem inR_least (i lo hi : Int) (hl : -2147483648 ≤ lo ∧ hi ≤ 2147483647 ∨ lo ≤ -2147483649 ∧ 2147483648 ≤ hi) (h0 : -9223372036854775808 ≤ i) (h1 : i ≤ 9223372036854775807) (hs : leastF i = 2 → lo ≤ -2147483649 ∧ 2147483648 ≤ hi) : inR i (sizedF (leastF i) lo hi) = true ↔ lo ≤ i ∧ i ≤ hi := by
 have hl2 := least_rng i
 unfold sizedF
 by_cases q1 : leastF i = 0
 ·rw [if_pos q1]
  unfold leastF at q1
  split at q1
  ·simp only [inR, List.any_cons, List.any_nil, Bool.or_false, Bool.and_eq_true, decide_eq_true_iff, mx, mi]
   split <;> split <;> omega
  ·split at q1 <;> omega
 rw [if_neg q1]
 by_cases q2 : leastF i = 1
 ·rw [if_pos q2]
  unfold leastF at q2
  split at q2
  ·omega
  ·split at q2
   ·simp only [inR, List.any_cons, List.any_nil, Bool.or_false, Bool.and_eq_true, Bool.or_eq_true, decide_eq_true_iff, mx, mi]
    split <;> split <;> split <;> split <;> omega
   ·omega
 rw [if_neg q2]
 have q3 : leastF i = 2 := by omega
 have := hs q3
 unfold leastF at q3
 split at q3
 ·omega
 ·split at q3
  ·omega
  ·simp only [inR, List.any_cons, List.any_nil, Bool.or_false, Bool.and_eq_true, Bool.or_eq_true, decide_eq_true_iff]
   omega
/-- A number out of a size's spans has that size. -/
theorem least_of {y sz lo hi : Int} (h0 : 0 ≤ sz) (h2 : sz ≤ 2) (h : inR y (sizedF sz lo hi) = true) : leastF y = sz := by
 unfold sizedF at h
 by_cases q1 : sz = 0
 ·rw [if_pos q1] at h
  simp only [inR, List.any_cons, List.any_nil, Bool.or_false, Bool.and_eq_true, decide_eq_true_iff, mx, mi] at h
  unfold leastF
  rw [if_pos (by split at h <;> split at h <;> omega)]; omega
 rw [if_neg q1] at h
 by_cases q2 : sz = 1
 ·rw [if_pos q2] at h
  simp only [inR, List.any_cons, List.any_nil, Bool.or_false, Bool.and_eq_true, Bool.or_eq_true, decide_eq_true_iff, mx, mi] at h
  unfold leastF
  have k : (-2147483648 ≤ y ∧ y ≤ -129) ∨ (128 ≤ y ∧ y ≤ 2147483647) := by
   rcases h with h | h
   ·left; split at h <;> split at h <;> omega
   ·right; split at h <;> split at h <;> omega
  rw [if_neg (by omega), if_pos (by omega)]; omega
 rw [if_neg q2] at h
 simp only [inR, List.any_cons, List.any_nil, Bool.or_false, Bool.and_eq_true, Bool.or_eq_true, decide_eq_true_iff] at h
 unfold leastF
 rw [if_neg (by omega), if_neg (by omega)]; omega
theorem val_digit {l : List Int} (h : BY l) : ∀ (j n p : Nat), j < n → (val l p n / 256 ^ j) % 256 = l.getD (p + j) 0
 | 0, n + 1, p, _ => by
  have := getD_rng h.2 p
  rw [val_front, Int.pow_zero, Int.ediv_one]
  show _ = l.getD p 0
  omega
 | j + 1, n + 1, p, q => by
  have ih := val_digit h j n (p + 1) (by omega)
  have := getD_rng h.2 p
  rw [val_front, Int.pow_succ, Int.mul_comm (256 ^ j) 256, ← Int.ediv_ediv_of_nonneg (by decide), show (l.getD p 0 + 256 * val l (p + 1) n) / 256 = val l (p + 1) n by omega, ih]
  congr 1
  omega
theorem lowF_mod (v w : Int) (n j : Nat) (hj : j < n) (hn : n = 1 ∨ n = 4 ∨ n = 8) (h : v % 256 ^ n = w % 256 ^ n) : (v / 256 ^ j) % 256 = (w / 256 ^ j) % 256 := by
 rcases hn with rfl | rfl | rfl
 ·rw [p1] at h
  obtain rfl : j = 0 := by omega
  simpa using h
 ·rw [p4] at h
  match j, hj with
  | 0, _ => rw [show (256 : Int) ^ 0 = 1 from rfl]; omega
  | 1, _ => rw [show (256 : Int) ^ 1 = 256 from rfl]; omega
  | 2, _ => rw [show (256 : Int) ^ 2 = 65536 from rfl]; omega
  | 3, _ => rw [show (256 : Int) ^ 3 = 16777216 from rfl]; omega
 ·rw [p8] at h
  match j, hj with
  | 0, _ => rw [show (256 : Int) ^ 0 = 1 from rfl]; omega
  | 1, _ => rw [show (256 : Int) ^ 1 = 256 from rfl]; omega
  | 2, _ => rw [show (256 : Int) ^ 2 = 65536 from rfl]; omega
  | 3, _ => rw [show (256 : Int) ^ 3 = 16777216 from rfl]; omega
  | 4, _ => rw [show (256 : Int) ^ 4 = 4294967296 from rfl]; omega
  | 5, _ => rw [show (256 : Int) ^ 5 = 1099511627776 from rfl]; omega
  | 6, _ => rw [show (256 : Int) ^ 6 = 281474976710656 from rfl]; omega
  | 7, _ => rw [show (256 : Int) ^ 7 = 72057594037927936 from rfl]; omega
theorem sg_mod (v : Int) (n : Nat) (hn : n = 1 ∨ n = 4 ∨ n = 8) (h0 : 0 ≤ v) (h1 : v < 256 ^ n) : sgR n v % 256 ^ n = v % 256 ^ n ∧ -9223372036854775808 ≤ sgR n v ∧ sgR n v ≤ 9223372036854775807 := by
 rcases hn with rfl | rfl | rfl
 ·rw [p1] at h1 ⊢; rw [sg1 v h0 h1]; split <;> omega
 ·rw [p4] at h1 ⊢; rw [sg4 v h0 h1]; split <;> omega
 ·rw [p8] at h1 ⊢; rw [sg8 v h0 h1]; split <;> omega
theorem bytes_3 (n : Int) : bytesF n = 1 ∨ bytesF n = 4 ∨ bytesF n = 8 := by unfold bytesF; split; exact .inl rfl; split; exact .inr (.inl rfl); exact .inr (.inr rfl)
theorem numV_rng {l : List Int} (h : BY l) (p n : Nat) (hn : n = 1 ∨ n = 4 ∨ n = 8) : -9223372036854775808 ≤ numV l p n ∧ numV l p n ≤ 9223372036854775807 := by
 unfold numV
 rw [leR_val h.2 p n (by omega)]
 obtain ⟨a, b⟩ := val_rng h.2 p n
 exact (sg_mod _ n hn a b).2
/-- A number's bytes are those that it was read from. -/
theorem lows_back {l : List Int} (h : BY l) (p n : Nat) (hn : n = 1 ∨ n = 4 ∨ n = 8) (hl : p + n ≤ l.length) : lows (numV l p n) n = (l.drop p).take n := by
 unfold numV
 rw [leR_val h.2 p n (by omega)]
 obtain ⟨a, b⟩ := val_rng h.2 p n
 have e := (sg_mod _ n hn a b).1
 apply List.ext_getElem
 ·simp [lows]; omega
 ·intro j h1 h2
  have hj : j < n := by simpa [lows] using h1
  have : (lows (sgR n (val l p n)) n)[j] = lowF (sgR n (val l p n)) j := by simp [lows]
  rw [this, lowF_eq, lowF_mod _ (val l p n) n j hj hn e, val_digit h j n p hj, gd l (p + j) (by omega)]
  simp
theorem take_1 {l : List Int} (h : 1 ≤ l.length) : l.take 1 = [l.getD 0 0] := by
 rcases l with _ | ⟨a, l⟩
 ·simp at h
 ·simp
theorem take_2 {l : List Int} (h : 2 ≤ l.length) : l.take 2 = [l.getD 0 0, l.getD 1 0] := by
 rcases l with _ | ⟨a, _ | ⟨b, l⟩⟩ <;> simp at h ⊢
theorem take_3 {l : List Int} (h : 3 ≤ l.length) : l.take 3 = [l.getD 0 0, l.getD 1 0, l.getD 2 0] := by
 rcases l with _ | ⟨a, _ | ⟨b, _ | ⟨c, l⟩⟩⟩ <;> simp at h ⊢
theorem take_4 {l : List Int} (h : 4 ≤ l.length) : l.take 4 = [l.getD 0 0, l.getD 1 0, l.getD 2 0, l.getD 3 0] := by
 rcases l with _ | ⟨a, _ | ⟨b, _ | ⟨c, _ | ⟨d, l⟩⟩⟩⟩ <;> simp at h ⊢
theorem take_split (l : List Int) (c m : Nat) : l.take (c + m) = l.take c ++ (l.drop c).take m := List.take_add
end Go.Proofs.Ytahepinbmcgbnaa.Vm
end
section
/- An instruction's fields out of its cells. No condition. -/
set_option linter.unusedVariables false
namespace Go.Proofs.Ytahepinbmcgbnaa.Vm
def ci (f : List SV) (j : Nat) : Int := match f[j]? with
  | some (.a (.int _ x)) => x
  | _ => 0
def mayC (f : List SV) : Bool := mayF (ci f 0) (ci f 1) (ci f 2) (ci f 3) (ci f 4) (ci f 5) (ci f 6) (ci f 7) (ci f 8)
def layC (f : List SV) : List Int := layF (ci f 0) (ci f 1) (ci f 2) (ci f 3) (ci f 4) (ci f 5) (ci f 6) (ci f 7)
theorem mayC_iC (o a b c k s z i m : Int) : mayC (iC o a b c k s z i m) = mayF o a b c k s z i m := rfl
theorem layC_iC (o a b c k s z i m : Int) : layC (iC o a b c k s z i m) = layF o a b c k s z i := rfl
end Go.Proofs.Ytahepinbmcgbnaa.Vm
end
section
/- What cisc's reader reads without a fault is laid again byte for byte. Printed by wip/tools/genVp4.py. No condition. -/
set_option linter.unusedVariables false
set_option linter.unusedSimpArgs false
namespace Go.Proofs.Ytahepinbmcgbnaa.Vm
open Go.RowKit Go.Proofs.Ytahepinbmcgbnaa.PV Go.Proofs.Ytahepinbmcgbnaa.Wd Go.Proofs.YtahepinbmcgbnaaW.PrintWords
theorem num4_V (l : List Int) (p : Nat) : num4 l p = numV l p 4 := rfl
theorem layC_iC' (o a b c k s z i m : Int) : layC (iC o a b c k s z i m) = layF o a b c k s z i := rfl
theorem scale_15 (x : Int) (h : x = 15) : u8 (abF 0 (scaleF 0)) = x := by subst h; rfl
theorem scale_back (x : Int) (h0 : 0 ≤ x) (h1 : x ≤ 255) (h3 : x % 16 ≤ 3) : u8 (abF (x / 16) (scaleF (2 ^ (x % 16).toNat))) = x := by
 refine ab_back2 x _ h0 h1 ?_
 rcases (show x % 16 = 0 ∨ x % 16 = 1 ∨ x % 16 = 2 ∨ x % 16 = 3 by omega) with h | h | h | h <;> rw [h] <;> rfl
theorem jcc_back (x t : Int) (h0 : 0 ≤ x) (h1 : x ≤ 255) (h : t = x % 16) : u8 (abF (IntKind.i64.wrap (11 + x / 16 - 11)) t) = x := by
 rw [i64_in _ (by omega) (by omega), show 11 + x / 16 - 11 = x / 16 by omega]
 exact ab_back2 x t h0 h1 h
theorem can_1 {l : List Int} (hm : BY l) (e0 : l.getD 0 0 = 1) {n : Nat} {f : List SV} (e : instO l 1 = .ok n false f) : layC f = l.take n := by
 rw [io_1] at e
 have r0 : u8 1 = 1 := rfl
 have b1 := getD_rng hm.2 1
 have b2 := getD_rng hm.2 2
 have b3 := getD_rng hm.2 3
 by_cases h0 : l.length < 2
 ·rw [if_pos h0] at e; cases e
 rw [if_neg h0] at e
 by_cases h1 : 2 < (l.getD 1 0 % 16)
 ·rw [if_pos h1] at e; cases e
 rw [if_neg h1] at e
 by_cases h2 : l.length < 2 + bytesF (l.getD 1 0 % 16)
 ·rw [if_pos h2] at e; cases e
 rw [if_neg h2] at e
 injection e with e1 e2 e3
 subst e1 e3
 rw [Bool.or_eq_false_iff] at e2
 have e4 := e2.2
 rw [Bool.not_eq_false'] at e4
 have hs := least_of (sz := (l.getD 1 0 % 16)) (by omega) (by omega) e4
 rw [layC_iC', lay_1]
 rw [hs, take_split, take_2 (by omega), lows_back hm 2 _ (bytes_3 _) (by omega), e0, r0, ab_back2 _ _ b1.1 b1.2 rfl]
 all_goals rfl
theorem can_3 {l : List Int} (hm : BY l) (e0 : l.getD 0 0 = 3) {n : Nat} {f : List SV} (e : instO l 3 = .ok n false f) : layC f = l.take n := by
 rw [io_3] at e
 have r0 : u8 3 = 3 := rfl
 have b1 := getD_rng hm.2 1
 have b2 := getD_rng hm.2 2
 have b3 := getD_rng hm.2 3
 by_cases h0 : l.length < 2
 ·rw [if_pos h0] at e; cases e
 rw [if_neg h0] at e
 injection e with e1 e2 e3
 subst e1 e3
 rw [layC_iC', lay_3]
 rw [take_2 (by omega), e0, r0, ab_back _ b1.1 b1.2]
 rfl
theorem can_4 {l : List Int} (hm : BY l) (e0 : l.getD 0 0 = 4) {n : Nat} {f : List SV} (e : instO l 4 = .ok n false f) : layC f = l.take n := by
 rw [io_4] at e
 have r0 : u8 4 = 4 := rfl
 have b1 := getD_rng hm.2 1
 have b2 := getD_rng hm.2 2
 have b3 := getD_rng hm.2 3
 by_cases h0 : l.length < 4
 ·rw [if_pos h0] at e; cases e
 rw [if_neg h0] at e
 injection e with e1 e2 e3
 subst e1 e3
 rw [layC_iC', lay_4]
 rw [take_4 (by omega), e0, r0, ab_back _ b1.1 b1.2, u8_id b2, u8_id b3]
 rfl
theorem can_5 {l : List Int} (hm : BY l) (e0 : l.getD 0 0 = 5) {n : Nat} {f : List SV} (e : instO l 5 = .ok n false f) : layC f = l.take n := by
 rw [io_5] at e
 have r0 : u8 5 = 5 := rfl
 have b1 := getD_rng hm.2 1
 have b2 := getD_rng hm.2 2
 have b3 := getD_rng hm.2 3
 by_cases h0 : l.length < 2
 ·rw [if_pos h0] at e; cases e
 rw [if_neg h0] at e
 by_cases h1 : 1 < (l.getD 1 0 % 16)
 ·rw [if_pos h1] at e; cases e
 rw [if_neg h1] at e
 by_cases h2 : l.length < 4 + bytesF (l.getD 1 0 % 16)
 ·rw [if_pos h2] at e; cases e
 rw [if_neg h2] at e
 injection e with e1 e2 e3
 subst e1 e3
 rw [Bool.or_eq_false_iff] at e2
 have e4 := e2.2
 rw [Bool.not_eq_false'] at e4
 have hs := least_of (sz := (l.getD 1 0 % 16)) (by omega) (by omega) e4
 rw [layC_iC', lay_5]
 rw [hs, take_split, take_4 (by omega), lows_back hm 4 _ (bytes_3 _) (by omega), e0, r0, ab_back2 _ _ b1.1 b1.2 rfl, u8_id b2, u8_id b3]
 all_goals rfl
theorem can_6 {l : List Int} (hm : BY l) (e0 : l.getD 0 0 = 6) {n : Nat} {f : List SV} (e : instO l 6 = .ok n false f) : layC f = l.take n := by
 rw [io_6] at e
 have r0 : u8 6 = 6 := rfl
 have b1 := getD_rng hm.2 1
 have b2 := getD_rng hm.2 2
 have b3 := getD_rng hm.2 3
 by_cases h0 : l.length < 8
 ·rw [if_pos h0] at e; cases e
 rw [if_neg h0] at e
 injection e with e1 e2 e3
 subst e1 e3
 rw [layC_iC', lay_6]
 rw [show 8 = 4 + 4 from rfl, take_split, take_4 (by omega), num4_V, lows_back hm 4 4 (by omega) (by omega), e0, r0, ab_back _ b1.1 b1.2, u8_id b2, u8_id b3]
 all_goals rfl
theorem can_7 {l : List Int} (hm : BY l) (e0 : l.getD 0 0 = 7) {n : Nat} {f : List SV} (e : instO l 7 = .ok n false f) : layC f = l.take n := by
 rw [io_7] at e
 have r0 : u8 7 = 7 := rfl
 have b1 := getD_rng hm.2 1
 have b2 := getD_rng hm.2 2
 have b3 := getD_rng hm.2 3
 by_cases h0 : l.length < 4
 ·rw [if_pos h0] at e; cases e
 rw [if_neg h0] at e
 injection e with e1 e2 e3
 subst e1 e3
 rw [layC_iC', lay_7]
 rw [take_4 (by omega), e0, r0, ab_back _ b1.1 b1.2, u8_id b2, u8_id b3]
 rfl
theorem can_8 {l : List Int} (hm : BY l) (e0 : l.getD 0 0 = 8) {n : Nat} {f : List SV} (e : instO l 8 = .ok n false f) : layC f = l.take n := by
 rw [io_8] at e
 have r0 : u8 8 = 8 := rfl
 have b1 := getD_rng hm.2 1
 have b2 := getD_rng hm.2 2
 have b3 := getD_rng hm.2 3
 by_cases h0 : l.length < 4
 ·rw [if_pos h0] at e; cases e
 rw [if_neg h0] at e
 injection e with e1 e2 e3
 subst e1 e3
 rw [layC_iC', lay_8]
 rw [take_4 (by omega), e0, r0, ab_back _ b1.1 b1.2, u8_id b2, u8_id b3]
 rfl
theorem can_10 {l : List Int} (hm : BY l) (e0 : l.getD 0 0 = 10) {n : Nat} {f : List SV} (e : instO l 10 = .ok n false f) : layC f = l.take n := by
 rw [io_10] at e
 have r0 : u8 10 = 10 := rfl
 have b1 := getD_rng hm.2 1
 have b2 := getD_rng hm.2 2
 have b3 := getD_rng hm.2 3
 by_cases h0 : l.length < 7
 ·rw [if_pos h0] at e; cases e
 rw [if_neg h0] at e
 by_cases h1 : l.getD 2 0 = 15
 ·rw [if_pos h1] at e
  injection e with e1 e2 e3
  subst e1 e3
  have hc := scale_15 _ h1
  rw [layC_iC', lay_10]
  rw [show 7 = 3 + 4 from rfl, take_split, take_3 (by omega), num4_V, lows_back hm 3 4 (by omega) (by omega), e0, r0, ab_back _ b1.1 b1.2, hc]
  all_goals rfl
 ·rw [if_neg h1] at e
  injection e with e1 e2 e3
  subst e1 e3
  have h3 : l.getD 2 0 % 16 ≤ 3 := by
   cases hd : decide (l.getD 2 0 % 16 ≤ 3) with
   | true => exact of_decide_eq_true hd
   | false => rw [hd] at e2; simp at e2
  have hc := scale_back _ b2.1 b2.2 h3
  rw [layC_iC', lay_10]
  rw [show 7 = 3 + 4 from rfl, take_split, take_3 (by omega), num4_V, lows_back hm 3 4 (by omega) (by omega), e0, r0, ab_back _ b1.1 b1.2, hc]
  all_goals rfl
theorem can_11 {l : List Int} (hm : BY l) (e0 : l.getD 0 0 = 11) {n : Nat} {f : List SV} (e : instO l 11 = .ok n false f) : layC f = l.take n := by
 rw [io_11] at e
 have r0 : u8 11 = 11 := rfl
 have b1 := getD_rng hm.2 1
 have b2 := getD_rng hm.2 2
 have b3 := getD_rng hm.2 3
 by_cases h0 : l.length < 7
 ·rw [if_pos h0] at e; cases e
 rw [if_neg h0] at e
 injection e with e1 e2 e3
 subst e1 e3
 rw [layC_iC', lay_11]
 rw [show 7 = 3 + 4 from rfl, take_split, take_3 (by omega), num4_V, lows_back hm 3 4 (by omega) (by omega), e0, r0, ab_back _ b1.1 b1.2, u8_id b2]
 all_goals rfl
theorem can_12 {l : List Int} (hm : BY l) (e0 : l.getD 0 0 = 12) {n : Nat} {f : List SV} (e : instO l 12 = .ok n false f) : layC f = l.take n := by
 rw [io_12] at e
 have r0 : u8 12 = 12 := rfl
 have b1 := getD_rng hm.2 1
 have b2 := getD_rng hm.2 2
 have b3 := getD_rng hm.2 3
 by_cases h0 : l.length < 8
 ·rw [if_pos h0] at e; cases e
 rw [if_neg h0] at e
 by_cases h1 : l.getD 2 0 = 15
 ·rw [if_pos h1] at e
  injection e with e1 e2 e3
  subst e1 e3
  have hc := scale_15 _ h1
  rw [layC_iC', lay_12]
  rw [show 8 = 4 + 4 from rfl, take_split, take_4 (by omega), num4_V, lows_back hm 4 4 (by omega) (by omega), e0, r0, ab_back _ b1.1 b1.2, hc, u8_id b3]
  all_goals rfl
 ·rw [if_neg h1] at e
  injection e with e1 e2 e3
  subst e1 e3
  have h3 : l.getD 2 0 % 16 ≤ 3 := by
   cases hd : decide (l.getD 2 0 % 16 ≤ 3) with
   | true => exact of_decide_eq_true hd
   | false => rw [hd] at e2; simp at e2
  have hc := scale_back _ b2.1 b2.2 h3
  rw [layC_iC', lay_12]
  rw [show 8 = 4 + 4 from rfl, take_split, take_4 (by omega), num4_V, lows_back hm 4 4 (by omega) (by omega), e0, r0, ab_back _ b1.1 b1.2, hc, u8_id b3]
  all_goals rfl
theorem can_13 {l : List Int} (hm : BY l) (e0 : l.getD 0 0 = 13) {n : Nat} {f : List SV} (e : instO l 13 = .ok n false f) : layC f = l.take n := by
 rw [io_13] at e
 have r0 : u8 13 = 13 := rfl
 have b1 := getD_rng hm.2 1
 have b2 := getD_rng hm.2 2
 have b3 := getD_rng hm.2 3
 by_cases h0 : l.length < 7
 ·rw [if_pos h0] at e; cases e
 rw [if_neg h0] at e
 injection e with e1 e2 e3
 subst e1 e3
 rw [layC_iC', lay_13]
 rw [show 7 = 3 + 4 from rfl, take_split, take_3 (by omega), num4_V, lows_back hm 3 4 (by omega) (by omega), e0, r0, ab_back _ b1.1 b1.2, u8_id b2]
 all_goals rfl
theorem can_14 {l : List Int} (hm : BY l) (e0 : l.getD 0 0 = 14) {n : Nat} {f : List SV} (e : instO l 14 = .ok n false f) : layC f = l.take n := by
 rw [io_14] at e
 have r0 : u8 14 = 14 := rfl
 have b1 := getD_rng hm.2 1
 have b2 := getD_rng hm.2 2
 have b3 := getD_rng hm.2 3
 by_cases h0 : l.length < 8
 ·rw [if_pos h0] at e; cases e
 rw [if_neg h0] at e
 by_cases h1 : l.getD 2 0 = 15
 ·rw [if_pos h1] at e
  injection e with e1 e2 e3
  subst e1 e3
  have hc := scale_15 _ h1
  rw [layC_iC', lay_14]
  rw [show 8 = 4 + 4 from rfl, take_split, take_4 (by omega), num4_V, lows_back hm 4 4 (by omega) (by omega), e0, r0, ab_back _ b1.1 b1.2, hc, u8_id b3]
  all_goals rfl
 ·rw [if_neg h1] at e
  injection e with e1 e2 e3
  subst e1 e3
  have h3 : l.getD 2 0 % 16 ≤ 3 := by
   cases hd : decide (l.getD 2 0 % 16 ≤ 3) with
   | true => exact of_decide_eq_true hd
   | false => rw [hd] at e2; simp at e2
  have hc := scale_back _ b2.1 b2.2 h3
  rw [layC_iC', lay_14]
  rw [show 8 = 4 + 4 from rfl, take_split, take_4 (by omega), num4_V, lows_back hm 4 4 (by omega) (by omega), e0, r0, ab_back _ b1.1 b1.2, hc, u8_id b3]
  all_goals rfl
theorem can_15 {l : List Int} (hm : BY l) (e0 : l.getD 0 0 = 15) {n : Nat} {f : List SV} (e : instO l 15 = .ok n false f) : layC f = l.take n := by
 rw [io_15] at e
 have r0 : u8 15 = 15 := rfl
 have b1 := getD_rng hm.2 1
 have b2 := getD_rng hm.2 2
 have b3 := getD_rng hm.2 3
 by_cases h0 : l.length < 3
 ·rw [if_pos h0] at e; cases e
 rw [if_neg h0] at e
 injection e with e1 e2 e3
 subst e1 e3
 rw [layC_iC', lay_15]
 rw [take_3 (by omega), e0, r0, ab_back _ b1.1 b1.2, u8_id b2]
 rfl
theorem can_16 {l : List Int} (hm : BY l) (e0 : l.getD 0 0 = 16) {n : Nat} {f : List SV} (e : instO l 16 = .ok n false f) : layC f = l.take n := by
 rw [io_16] at e
 have r0 : u8 16 = 16 := rfl
 have b1 := getD_rng hm.2 1
 have b2 := getD_rng hm.2 2
 have b3 := getD_rng hm.2 3
 by_cases h0 : l.length < 3
 ·rw [if_pos h0] at e; cases e
 rw [if_neg h0] at e
 injection e with e1 e2 e3
 subst e1 e3
 rw [layC_iC', lay_16]
 rw [take_3 (by omega), e0, r0, ab_back _ b1.1 b1.2, u8_id b2]
 rfl
theorem can_17 {l : List Int} (hm : BY l) (e0 : l.getD 0 0 = 17) {n : Nat} {f : List SV} (e : instO l 17 = .ok n false f) : layC f = l.take n := by
 rw [io_17] at e
 have r0 : u8 17 = 17 := rfl
 have b1 := getD_rng hm.2 1
 have b2 := getD_rng hm.2 2
 have b3 := getD_rng hm.2 3
 by_cases h0 : l.length < 2
 ·rw [if_pos h0] at e; cases e
 rw [if_neg h0] at e
 by_cases h1 : 1 < (l.getD 1 0 % 16)
 ·rw [if_pos h1] at e; cases e
 rw [if_neg h1] at e
 by_cases h2 : l.length < 3 + bytesF (l.getD 1 0 % 16)
 ·rw [if_pos h2] at e; cases e
 rw [if_neg h2] at e
 injection e with e1 e2 e3
 subst e1 e3
 rw [Bool.or_eq_false_iff] at e2
 have e4 := e2.2
 rw [Bool.not_eq_false'] at e4
 have hs := least_of (sz := (l.getD 1 0 % 16)) (by omega) (by omega) e4
 rw [layC_iC', lay_17]
 rw [hs, take_split, take_3 (by omega), lows_back hm 3 _ (bytes_3 _) (by omega), e0, r0, ab_back2 _ _ b1.1 b1.2 rfl, u8_id b2]
 all_goals rfl
theorem can_18 {l : List Int} (hm : BY l) (e0 : l.getD 0 0 = 18) {n : Nat} {f : List SV} (e : instO l 18 = .ok n false f) : layC f = l.take n := by
 rw [io_18] at e
 have r0 : u8 18 = 18 := rfl
 have b1 := getD_rng hm.2 1
 have b2 := getD_rng hm.2 2
 have b3 := getD_rng hm.2 3
 by_cases h0 : l.length < 3
 ·rw [if_pos h0] at e; cases e
 rw [if_neg h0] at e
 injection e with e1 e2 e3
 subst e1 e3
 rw [layC_iC', lay_18]
 rw [take_3 (by omega), e0, r0, ab_back _ b1.1 b1.2, u8_id b2]
 rfl
theorem can_19 {l : List Int} (hm : BY l) (e0 : l.getD 0 0 = 19) {n : Nat} {f : List SV} (e : instO l 19 = .ok n false f) : layC f = l.take n := by
 rw [io_19] at e
 have r0 : u8 19 = 19 := rfl
 have b1 := getD_rng hm.2 1
 have b2 := getD_rng hm.2 2
 have b3 := getD_rng hm.2 3
 by_cases h0 : l.length < 2
 ·rw [if_pos h0] at e; cases e
 rw [if_neg h0] at e
 by_cases h1 : 1 < (l.getD 1 0)
 ·rw [if_pos h1] at e; cases e
 rw [if_neg h1] at e
 by_cases h2 : l.length < 2 + bytesF (l.getD 1 0)
 ·rw [if_pos h2] at e; cases e
 rw [if_neg h2] at e
 injection e with e1 e2 e3
 subst e1 e3
 rw [Bool.or_eq_false_iff] at e2
 have e4 := e2.2
 rw [Bool.not_eq_false'] at e4
 have hs := least_of (sz := (l.getD 1 0)) (by omega) (by omega) e4
 have hj : u8 (l.getD 1 0) = l.getD 1 0 := u8_id b1
 rw [layC_iC', lay_19]
 rw [hs, take_split, take_2 (by omega), lows_back hm 2 _ (bytes_3 _) (by omega), e0, r0, hj]
 all_goals rfl
theorem can_22 {l : List Int} (hm : BY l) (e0 : l.getD 0 0 = 22) {n : Nat} {f : List SV} (e : instO l 22 = .ok n false f) : layC f = l.take n := by
 rw [io_22] at e
 have r0 : u8 22 = 22 := rfl
 have b1 := getD_rng hm.2 1
 have b2 := getD_rng hm.2 2
 have b3 := getD_rng hm.2 3
 by_cases h0 : l.length < 2
 ·rw [if_pos h0] at e; cases e
 rw [if_neg h0] at e
 by_cases h1 : 1 < (l.getD 1 0 % 16)
 ·rw [if_pos h1] at e; cases e
 rw [if_neg h1] at e
 by_cases h2 : l.length < 2 + bytesF (l.getD 1 0 % 16)
 ·rw [if_pos h2] at e; cases e
 rw [if_neg h2] at e
 injection e with e1 e2 e3
 subst e1 e3
 rw [Bool.or_eq_false_iff] at e2
 have e4 := e2.2
 rw [Bool.not_eq_false'] at e4
 have hs := least_of (sz := (l.getD 1 0 % 16)) (by omega) (by omega) e4
 rw [layC_iC', lay_22]
 rw [hs, take_split, take_2 (by omega), lows_back hm 2 _ (bytes_3 _) (by omega), e0, r0, jcc_back _ _ b1.1 b1.2 rfl]
 all_goals rfl
theorem can_23 {l : List Int} (hm : BY l) (e0 : l.getD 0 0 = 23) {n : Nat} {f : List SV} (e : instO l 23 = .ok n false f) : layC f = l.take n := by
 rw [io_23] at e
 have r0 : u8 23 = 23 := rfl
 have b1 := getD_rng hm.2 1
 have b2 := getD_rng hm.2 2
 have b3 := getD_rng hm.2 3
 by_cases h0 : l.length < 5
 ·rw [if_pos h0] at e; cases e
 rw [if_neg h0] at e
 injection e with e1 e2 e3
 subst e1 e3
 rw [layC_iC', lay_23]
 rw [show 5 = 1 + 4 from rfl, take_split, take_1 (by omega), num4_V, lows_back hm 1 4 (by omega) (by omega), e0, r0]
 all_goals rfl
theorem can_24 {l : List Int} (hm : BY l) (e0 : l.getD 0 0 = 24) {n : Nat} {f : List SV} (e : instO l 24 = .ok n false f) : layC f = l.take n := by
 rw [io_24] at e
 have r0 : u8 24 = 24 := rfl
 have b1 := getD_rng hm.2 1
 have b2 := getD_rng hm.2 2
 have b3 := getD_rng hm.2 3
 by_cases h0 : l.length < 1
 ·rw [if_pos h0] at e; cases e
 rw [if_neg h0] at e
 injection e with e1 e2 e3
 subst e1 e3
 rw [layC_iC', lay_24]
 rw [take_1 (by omega), e0, r0]
theorem can_25 {l : List Int} (hm : BY l) (e0 : l.getD 0 0 = 25) {n : Nat} {f : List SV} (e : instO l 25 = .ok n false f) : layC f = l.take n := by
 rw [io_25] at e
 have r0 : u8 25 = 25 := rfl
 have b1 := getD_rng hm.2 1
 have b2 := getD_rng hm.2 2
 have b3 := getD_rng hm.2 3
 by_cases h0 : l.length < 5
 ·rw [if_pos h0] at e; cases e
 rw [if_neg h0] at e
 injection e with e1 e2 e3
 subst e1 e3
 rw [layC_iC', lay_25]
 rw [show 5 = 1 + 4 from rfl, take_split, take_1 (by omega), num4_V, lows_back hm 1 4 (by omega) (by omega), e0, r0]
 all_goals rfl
theorem can_26 {l : List Int} (hm : BY l) (e0 : l.getD 0 0 = 26) {n : Nat} {f : List SV} (e : instO l 26 = .ok n false f) : layC f = l.take n := by
 rw [io_26] at e
 have r0 : u8 26 = 26 := rfl
 have b1 := getD_rng hm.2 1
 have b2 := getD_rng hm.2 2
 have b3 := getD_rng hm.2 3
 by_cases h0 : l.length < 2
 ·rw [if_pos h0] at e; cases e
 rw [if_neg h0] at e
 injection e with e1 e2 e3
 subst e1 e3
 rw [layC_iC', lay_26]
 rw [take_2 (by omega), e0, r0, ab_back _ b1.1 b1.2]
 rfl
theorem can_27 {l : List Int} (hm : BY l) (e0 : l.getD 0 0 = 27) {n : Nat} {f : List SV} (e : instO l 27 = .ok n false f) : layC f = l.take n := by
 rw [io_27] at e
 have r0 : u8 27 = 27 := rfl
 have b1 := getD_rng hm.2 1
 have b2 := getD_rng hm.2 2
 have b3 := getD_rng hm.2 3
 by_cases h0 : l.length < 2
 ·rw [if_pos h0] at e; cases e
 rw [if_neg h0] at e
 injection e with e1 e2 e3
 subst e1 e3
 rw [layC_iC', lay_27]
 rw [take_2 (by omega), e0, r0, ab_back _ b1.1 b1.2]
 rfl
theorem can_28 {l : List Int} (hm : BY l) (e0 : l.getD 0 0 = 28) {n : Nat} {f : List SV} (e : instO l 28 = .ok n false f) : layC f = l.take n := by
 rw [io_28] at e
 have r0 : u8 28 = 28 := rfl
 have b1 := getD_rng hm.2 1
 have b2 := getD_rng hm.2 2
 have b3 := getD_rng hm.2 3
 by_cases h0 : l.length < 2
 ·rw [if_pos h0] at e; cases e
 rw [if_neg h0] at e
 injection e with e1 e2 e3
 subst e1 e3
 rw [layC_iC', lay_28]
 rw [take_2 (by omega), e0, r0, ab_back _ b1.1 b1.2]
 rfl
theorem can_29 {l : List Int} (hm : BY l) (e0 : l.getD 0 0 = 29) {n : Nat} {f : List SV} (e : instO l 29 = .ok n false f) : layC f = l.take n := by
 rw [io_29] at e
 have r0 : u8 29 = 29 := rfl
 have b1 := getD_rng hm.2 1
 have b2 := getD_rng hm.2 2
 have b3 := getD_rng hm.2 3
 by_cases h0 : l.length < 5
 ·rw [if_pos h0] at e; cases e
 rw [if_neg h0] at e
 injection e with e1 e2 e3
 subst e1 e3
 rw [layC_iC', lay_29]
 rw [show 5 = 1 + 4 from rfl, take_split, take_1 (by omega), num4_V, lows_back hm 1 4 (by omega) (by omega), e0, r0]
 all_goals rfl
end Go.Proofs.Ytahepinbmcgbnaa.Vm
end
section
/- May, as a list of conditions. Printed by wip/tools/genVp5.py. No condition. -/
set_option linter.unusedVariables false
set_option linter.unusedSimpArgs false
namespace Go.Proofs.Ytahepinbmcgbnaa.Vm
open Go.RowKit Go.Proofs.Ytahepinbmcgbnaa.PV Go.Proofs.Ytahepinbmcgbnaa.Wd Go.Proofs.YtahepinbmcgbnaaW.PrintWords
theorem may_iff_1 (a b c k s z i m : Int) : mayF 1 a b c k s z i m = true ↔ m = 0 ∧ Reg a ∧ Reg b ∧ Reg c ∧ b = 0 ∧ c = 0 ∧ z = 0 ∧ k = 0 ∧ s = 0 ∧ True := by
 have t : tail4 1 a b c k s z i = true := rfl
 have hop : isOp 1 = true := by decide
 have uA : usesF 1 65 = true := by decide
 have uB : usesF 1 66 = false := by decide
 have uC : usesF 1 67 = false := by decide
 have uK : usesF 1 75 = false := by decide
 have uS : usesF 1 83 = false := by decide
 have uI : usesF 1 73 = true := by decide
 have o1 : ((1 : Int) == 1) = true := rfl
 unfold mayF
 rw [t, hop, o1, uA, uB, uC, uK, uS, uI]
 simp only [Bool.true_and, Bool.and_true, Bool.true_or, Bool.false_or, Bool.and_eq_true, Bool.not_eq_true', bne_eq_false_iff_eq, and_assoc, reg_iff, small_iff]
 try simp only [and_assoc, and_true, Bool.and_eq_true, Bool.not_eq_true']
theorem may_iff_3 (a b c k s z i m : Int) : mayF 3 a b c k s z i m = true ↔ m = 0 ∧ Reg a ∧ Reg b ∧ Reg c ∧ c = 0 ∧ z = 0 ∧ k = 0 ∧ s = 0 ∧ i = 0 ∧ (-2147483648 ≤ i ∧ i < 2147483648) ∧ True := by
 have t : tail4 3 a b c k s z i = true := rfl
 have hop : isOp 3 = true := by decide
 have uA : usesF 3 65 = true := by decide
 have uB : usesF 3 66 = true := by decide
 have uC : usesF 3 67 = false := by decide
 have uK : usesF 3 75 = false := by decide
 have uS : usesF 3 83 = false := by decide
 have uI : usesF 3 73 = false := by decide
 have o1 : ((3 : Int) == 1) = false := rfl
 unfold mayF
 rw [t, hop, o1, uA, uB, uC, uK, uS, uI]
 simp only [Bool.true_and, Bool.and_true, Bool.true_or, Bool.false_or, Bool.and_eq_true, Bool.not_eq_true', bne_eq_false_iff_eq, and_assoc, reg_iff, small_iff]
 try simp only [and_assoc, and_true, Bool.and_eq_true, Bool.not_eq_true']
theorem may_iff_4 (a b c k s z i m : Int) : mayF 4 a b c k s z i m = true ↔ m = 0 ∧ Reg a ∧ Reg b ∧ Reg c ∧ c = 0 ∧ z = 0 ∧ i = 0 ∧ (-2147483648 ≤ i ∧ i < 2147483648) ∧ binaryF a b k s = true := by
 have t : tail4 4 a b c k s z i = binaryF a b k s := rfl
 have hop : isOp 4 = true := by decide
 have uA : usesF 4 65 = true := by decide
 have uB : usesF 4 66 = true := by decide
 have uC : usesF 4 67 = false := by decide
 have uK : usesF 4 75 = true := by decide
 have uS : usesF 4 83 = true := by decide
 have uI : usesF 4 73 = false := by decide
 have o1 : ((4 : Int) == 1) = false := rfl
 unfold mayF
 rw [t, hop, o1, uA, uB, uC, uK, uS, uI]
 simp only [Bool.true_and, Bool.and_true, Bool.true_or, Bool.false_or, Bool.and_eq_true, Bool.not_eq_true', bne_eq_false_iff_eq, and_assoc, reg_iff, small_iff]
 try simp only [and_assoc, and_true, Bool.and_eq_true, Bool.not_eq_true']
theorem may_iff_5 (a b c k s z i m : Int) : mayF 5 a b c k s z i m = true ↔ m = 0 ∧ Reg a ∧ Reg b ∧ Reg c ∧ b = 0 ∧ c = 0 ∧ z = 0 ∧ (-2147483648 ≤ i ∧ i < 2147483648) ∧ immF s k i = true := by
 have t : tail4 5 a b c k s z i = immF s k i := rfl
 have hop : isOp 5 = true := by decide
 have uA : usesF 5 65 = true := by decide
 have uB : usesF 5 66 = false := by decide
 have uC : usesF 5 67 = false := by decide
 have uK : usesF 5 75 = true := by decide
 have uS : usesF 5 83 = true := by decide
 have uI : usesF 5 73 = true := by decide
 have o1 : ((5 : Int) == 1) = false := rfl
 unfold mayF
 rw [t, hop, o1, uA, uB, uC, uK, uS, uI]
 simp only [Bool.true_and, Bool.and_true, Bool.true_or, Bool.false_or, Bool.and_eq_true, Bool.not_eq_true', bne_eq_false_iff_eq, and_assoc, reg_iff, small_iff]
 try simp only [and_assoc, and_true, Bool.and_eq_true, Bool.not_eq_true']
theorem may_iff_6 (a b c k s z i m : Int) : mayF 6 a b c k s z i m = true ↔ m = 0 ∧ Reg a ∧ Reg b ∧ Reg c ∧ c = 0 ∧ z = 0 ∧ (-2147483648 ≤ i ∧ i < 2147483648) ∧ (has s k && !sh s && (!wh k || (s != 4 && s != 5))) = true := by
 have t : tail4 6 a b c k s z i = (has s k && !sh s && (!wh k || (s != 4 && s != 5))) := rfl
 have hop : isOp 6 = true := by decide
 have uA : usesF 6 65 = true := by decide
 have uB : usesF 6 66 = true := by decide
 have uC : usesF 6 67 = false := by decide
 have uK : usesF 6 75 = true := by decide
 have uS : usesF 6 83 = true := by decide
 have uI : usesF 6 73 = true := by decide
 have o1 : ((6 : Int) == 1) = false := rfl
 unfold mayF
 rw [t, hop, o1, uA, uB, uC, uK, uS, uI]
 simp only [Bool.true_and, Bool.and_true, Bool.true_or, Bool.false_or, Bool.and_eq_true, Bool.not_eq_true', bne_eq_false_iff_eq, and_assoc, reg_iff, small_iff]
 try simp only [and_assoc, and_true, Bool.and_eq_true, Bool.not_eq_true']
theorem may_iff_7 (a b c k s z i m : Int) : mayF 7 a b c k s z i m = true ↔ m = 0 ∧ Reg a ∧ Reg b ∧ Reg c ∧ b = 0 ∧ c = 0 ∧ z = 0 ∧ i = 0 ∧ (-2147483648 ≤ i ∧ i < 2147483648) ∧ hasU s k = true := by
 have t : tail4 7 a b c k s z i = hasU s k := rfl
 have hop : isOp 7 = true := by decide
 have uA : usesF 7 65 = true := by decide
 have uB : usesF 7 66 = false := by decide
 have uC : usesF 7 67 = false := by decide
 have uK : usesF 7 75 = true := by decide
 have uS : usesF 7 83 = true := by decide
 have uI : usesF 7 73 = false := by decide
 have o1 : ((7 : Int) == 1) = false := rfl
 unfold mayF
 rw [t, hop, o1, uA, uB, uC, uK, uS, uI]
 simp only [Bool.true_and, Bool.and_true, Bool.true_or, Bool.false_or, Bool.and_eq_true, Bool.not_eq_true', bne_eq_false_iff_eq, and_assoc, reg_iff, small_iff]
 try simp only [and_assoc, and_true, Bool.and_eq_true, Bool.not_eq_true']
theorem may_iff_8 (a b c k s z i m : Int) : mayF 8 a b c k s z i m = true ↔ m = 0 ∧ Reg a ∧ Reg b ∧ Reg c ∧ c = 0 ∧ z = 0 ∧ i = 0 ∧ (-2147483648 ≤ i ∧ i < 2147483648) ∧ (nu s && nu k) = true := by
 have t : tail4 8 a b c k s z i = (nu s && nu k) := rfl
 have hop : isOp 8 = true := by decide
 have uA : usesF 8 65 = true := by decide
 have uB : usesF 8 66 = true := by decide
 have uC : usesF 8 67 = false := by decide
 have uK : usesF 8 75 = true := by decide
 have uS : usesF 8 83 = true := by decide
 have uI : usesF 8 73 = false := by decide
 have o1 : ((8 : Int) == 1) = false := rfl
 unfold mayF
 rw [t, hop, o1, uA, uB, uC, uK, uS, uI]
 simp only [Bool.true_and, Bool.and_true, Bool.true_or, Bool.false_or, Bool.and_eq_true, Bool.not_eq_true', bne_eq_false_iff_eq, and_assoc, reg_iff, small_iff]
 try simp only [and_assoc, and_true, Bool.and_eq_true, Bool.not_eq_true']
theorem may_iff_10 (a b c k s z i m : Int) : mayF 10 a b c k s z i m = true ↔ m = 0 ∧ Reg a ∧ Reg b ∧ Reg c ∧ k = 0 ∧ s = 0 ∧ (-2147483648 ≤ i ∧ i < 2147483648) ∧ scaledF 10 c z = true := by
 have t : tail4 10 a b c k s z i = scaledF 10 c z := rfl
 have hop : isOp 10 = true := by decide
 have uA : usesF 10 65 = true := by decide
 have uB : usesF 10 66 = true := by decide
 have uC : usesF 10 67 = true := by decide
 have uK : usesF 10 75 = false := by decide
 have uS : usesF 10 83 = false := by decide
 have uI : usesF 10 73 = true := by decide
 have o1 : ((10 : Int) == 1) = false := rfl
 unfold mayF
 rw [t, hop, o1, uA, uB, uC, uK, uS, uI]
 simp only [Bool.true_and, Bool.and_true, Bool.true_or, Bool.false_or, Bool.and_eq_true, Bool.not_eq_true', bne_eq_false_iff_eq, and_assoc, reg_iff, small_iff]
 try simp only [and_assoc, and_true, Bool.and_eq_true, Bool.not_eq_true']
theorem may_iff_11 (a b c k s z i m : Int) : mayF 11 a b c k s z i m = true ↔ m = 0 ∧ Reg a ∧ Reg b ∧ Reg c ∧ c = 0 ∧ z = 0 ∧ s = 0 ∧ (-2147483648 ≤ i ∧ i < 2147483648) ∧ wd k = true := by
 have t : tail4 11 a b c k s z i = wd k := rfl
 have hop : isOp 11 = true := by decide
 have uA : usesF 11 65 = true := by decide
 have uB : usesF 11 66 = true := by decide
 have uC : usesF 11 67 = false := by decide
 have uK : usesF 11 75 = true := by decide
 have uS : usesF 11 83 = false := by decide
 have uI : usesF 11 73 = true := by decide
 have o1 : ((11 : Int) == 1) = false := rfl
 unfold mayF
 rw [t, hop, o1, uA, uB, uC, uK, uS, uI]
 simp only [Bool.true_and, Bool.and_true, Bool.true_or, Bool.false_or, Bool.and_eq_true, Bool.not_eq_true', bne_eq_false_iff_eq, and_assoc, reg_iff, small_iff]
 try simp only [and_assoc, and_true, Bool.and_eq_true, Bool.not_eq_true']
theorem may_iff_12 (a b c k s z i m : Int) : mayF 12 a b c k s z i m = true ↔ m = 0 ∧ Reg a ∧ Reg b ∧ Reg c ∧ s = 0 ∧ (-2147483648 ≤ i ∧ i < 2147483648) ∧ (scaledF 12 c z && wd k) = true := by
 have t : tail4 12 a b c k s z i = (scaledF 12 c z && wd k) := rfl
 have hop : isOp 12 = true := by decide
 have uA : usesF 12 65 = true := by decide
 have uB : usesF 12 66 = true := by decide
 have uC : usesF 12 67 = true := by decide
 have uK : usesF 12 75 = true := by decide
 have uS : usesF 12 83 = false := by decide
 have uI : usesF 12 73 = true := by decide
 have o1 : ((12 : Int) == 1) = false := rfl
 unfold mayF
 rw [t, hop, o1, uA, uB, uC, uK, uS, uI]
 simp only [Bool.true_and, Bool.and_true, Bool.true_or, Bool.false_or, Bool.and_eq_true, Bool.not_eq_true', bne_eq_false_iff_eq, and_assoc, reg_iff, small_iff]
 try simp only [and_assoc, and_true, Bool.and_eq_true, Bool.not_eq_true']
theorem may_iff_13 (a b c k s z i m : Int) : mayF 13 a b c k s z i m = true ↔ m = 0 ∧ Reg a ∧ Reg b ∧ Reg c ∧ c = 0 ∧ z = 0 ∧ s = 0 ∧ (-2147483648 ≤ i ∧ i < 2147483648) ∧ wd k = true := by
 have t : tail4 13 a b c k s z i = wd k := rfl
 have hop : isOp 13 = true := by decide
 have uA : usesF 13 65 = true := by decide
 have uB : usesF 13 66 = true := by decide
 have uC : usesF 13 67 = false := by decide
 have uK : usesF 13 75 = true := by decide
 have uS : usesF 13 83 = false := by decide
 have uI : usesF 13 73 = true := by decide
 have o1 : ((13 : Int) == 1) = false := rfl
 unfold mayF
 rw [t, hop, o1, uA, uB, uC, uK, uS, uI]
 simp only [Bool.true_and, Bool.and_true, Bool.true_or, Bool.false_or, Bool.and_eq_true, Bool.not_eq_true', bne_eq_false_iff_eq, and_assoc, reg_iff, small_iff]
 try simp only [and_assoc, and_true, Bool.and_eq_true, Bool.not_eq_true']
theorem may_iff_14 (a b c k s z i m : Int) : mayF 14 a b c k s z i m = true ↔ m = 0 ∧ Reg a ∧ Reg b ∧ Reg c ∧ s = 0 ∧ (-2147483648 ≤ i ∧ i < 2147483648) ∧ (scaledF 14 c z && wd k) = true := by
 have t : tail4 14 a b c k s z i = (scaledF 14 c z && wd k) := rfl
 have hop : isOp 14 = true := by decide
 have uA : usesF 14 65 = true := by decide
 have uB : usesF 14 66 = true := by decide
 have uC : usesF 14 67 = true := by decide
 have uK : usesF 14 75 = true := by decide
 have uS : usesF 14 83 = false := by decide
 have uI : usesF 14 73 = true := by decide
 have o1 : ((14 : Int) == 1) = false := rfl
 unfold mayF
 rw [t, hop, o1, uA, uB, uC, uK, uS, uI]
 simp only [Bool.true_and, Bool.and_true, Bool.true_or, Bool.false_or, Bool.and_eq_true, Bool.not_eq_true', bne_eq_false_iff_eq, and_assoc, reg_iff, small_iff]
 try simp only [and_assoc, and_true, Bool.and_eq_true, Bool.not_eq_true']
theorem may_iff_15 (a b c k s z i m : Int) : mayF 15 a b c k s z i m = true ↔ m = 0 ∧ Reg a ∧ Reg b ∧ Reg c ∧ c = 0 ∧ z = 0 ∧ k = 0 ∧ i = 0 ∧ (-2147483648 ≤ i ∧ i < 2147483648) ∧ sd s = true := by
 have t : tail4 15 a b c k s z i = sd s := rfl
 have hop : isOp 15 = true := by decide
 have uA : usesF 15 65 = true := by decide
 have uB : usesF 15 66 = true := by decide
 have uC : usesF 15 67 = false := by decide
 have uK : usesF 15 75 = false := by decide
 have uS : usesF 15 83 = true := by decide
 have uI : usesF 15 73 = false := by decide
 have o1 : ((15 : Int) == 1) = false := rfl
 unfold mayF
 rw [t, hop, o1, uA, uB, uC, uK, uS, uI]
 simp only [Bool.true_and, Bool.and_true, Bool.true_or, Bool.false_or, Bool.and_eq_true, Bool.not_eq_true', bne_eq_false_iff_eq, and_assoc, reg_iff, small_iff]
 try simp only [and_assoc, and_true, Bool.and_eq_true, Bool.not_eq_true']
theorem may_iff_16 (a b c k s z i m : Int) : mayF 16 a b c k s z i m = true ↔ m = 0 ∧ Reg a ∧ Reg b ∧ Reg c ∧ c = 0 ∧ z = 0 ∧ s = 0 ∧ i = 0 ∧ (-2147483648 ≤ i ∧ i < 2147483648) ∧ wd k = true := by
 have t : tail4 16 a b c k s z i = wd k := rfl
 have hop : isOp 16 = true := by decide
 have uA : usesF 16 65 = true := by decide
 have uB : usesF 16 66 = true := by decide
 have uC : usesF 16 67 = false := by decide
 have uK : usesF 16 75 = true := by decide
 have uS : usesF 16 83 = false := by decide
 have uI : usesF 16 73 = false := by decide
 have o1 : ((16 : Int) == 1) = false := rfl
 unfold mayF
 rw [t, hop, o1, uA, uB, uC, uK, uS, uI]
 simp only [Bool.true_and, Bool.and_true, Bool.true_or, Bool.false_or, Bool.and_eq_true, Bool.not_eq_true', bne_eq_false_iff_eq, and_assoc, reg_iff, small_iff]
 try simp only [and_assoc, and_true, Bool.and_eq_true, Bool.not_eq_true']
theorem may_iff_17 (a b c k s z i m : Int) : mayF 17 a b c k s z i m = true ↔ m = 0 ∧ Reg a ∧ Reg b ∧ Reg c ∧ b = 0 ∧ c = 0 ∧ z = 0 ∧ s = 0 ∧ (-2147483648 ≤ i ∧ i < 2147483648) ∧ immF 2 k i = true := by
 have t : tail4 17 a b c k s z i = immF 2 k i := rfl
 have hop : isOp 17 = true := by decide
 have uA : usesF 17 65 = true := by decide
 have uB : usesF 17 66 = false := by decide
 have uC : usesF 17 67 = false := by decide
 have uK : usesF 17 75 = true := by decide
 have uS : usesF 17 83 = false := by decide
 have uI : usesF 17 73 = true := by decide
 have o1 : ((17 : Int) == 1) = false := rfl
 unfold mayF
 rw [t, hop, o1, uA, uB, uC, uK, uS, uI]
 simp only [Bool.true_and, Bool.and_true, Bool.true_or, Bool.false_or, Bool.and_eq_true, Bool.not_eq_true', bne_eq_false_iff_eq, and_assoc, reg_iff, small_iff]
 try simp only [and_assoc, and_true, Bool.and_eq_true, Bool.not_eq_true']
theorem may_iff_18 (a b c k s z i m : Int) : mayF 18 a b c k s z i m = true ↔ m = 0 ∧ Reg a ∧ Reg b ∧ Reg c ∧ b = 0 ∧ c = 0 ∧ z = 0 ∧ k = 0 ∧ i = 0 ∧ (-2147483648 ≤ i ∧ i < 2147483648) ∧ sd s = true := by
 have t : tail4 18 a b c k s z i = sd s := rfl
 have hop : isOp 18 = true := by decide
 have uA : usesF 18 65 = true := by decide
 have uB : usesF 18 66 = false := by decide
 have uC : usesF 18 67 = false := by decide
 have uK : usesF 18 75 = false := by decide
 have uS : usesF 18 83 = true := by decide
 have uI : usesF 18 73 = false := by decide
 have o1 : ((18 : Int) == 1) = false := rfl
 unfold mayF
 rw [t, hop, o1, uA, uB, uC, uK, uS, uI]
 simp only [Bool.true_and, Bool.and_true, Bool.true_or, Bool.false_or, Bool.and_eq_true, Bool.not_eq_true', bne_eq_false_iff_eq, and_assoc, reg_iff, small_iff]
 try simp only [and_assoc, and_true, Bool.and_eq_true, Bool.not_eq_true']
theorem may_iff_19 (a b c k s z i m : Int) : mayF 19 a b c k s z i m = true ↔ m = 0 ∧ Reg a ∧ Reg b ∧ Reg c ∧ a = 0 ∧ b = 0 ∧ c = 0 ∧ z = 0 ∧ k = 0 ∧ s = 0 ∧ (-2147483648 ≤ i ∧ i < 2147483648) ∧ True := by
 have t : tail4 19 a b c k s z i = true := rfl
 have hop : isOp 19 = true := by decide
 have uA : usesF 19 65 = false := by decide
 have uB : usesF 19 66 = false := by decide
 have uC : usesF 19 67 = false := by decide
 have uK : usesF 19 75 = false := by decide
 have uS : usesF 19 83 = false := by decide
 have uI : usesF 19 73 = true := by decide
 have o1 : ((19 : Int) == 1) = false := rfl
 unfold mayF
 rw [t, hop, o1, uA, uB, uC, uK, uS, uI]
 simp only [Bool.true_and, Bool.and_true, Bool.true_or, Bool.false_or, Bool.and_eq_true, Bool.not_eq_true', bne_eq_false_iff_eq, and_assoc, reg_iff, small_iff]
 try simp only [and_assoc, and_true, Bool.and_eq_true, Bool.not_eq_true']
theorem may_iff_22 (a b c k s z i m : Int) : mayF 22 a b c k s z i m = true ↔ m = 0 ∧ Reg a ∧ Reg b ∧ Reg c ∧ a = 0 ∧ b = 0 ∧ c = 0 ∧ z = 0 ∧ k = 0 ∧ (-2147483648 ≤ i ∧ i < 2147483648) ∧ sd s = true := by
 have t : tail4 22 a b c k s z i = sd s := rfl
 have hop : isOp 22 = true := by decide
 have uA : usesF 22 65 = false := by decide
 have uB : usesF 22 66 = false := by decide
 have uC : usesF 22 67 = false := by decide
 have uK : usesF 22 75 = false := by decide
 have uS : usesF 22 83 = true := by decide
 have uI : usesF 22 73 = true := by decide
 have o1 : ((22 : Int) == 1) = false := rfl
 unfold mayF
 rw [t, hop, o1, uA, uB, uC, uK, uS, uI]
 simp only [Bool.true_and, Bool.and_true, Bool.true_or, Bool.false_or, Bool.and_eq_true, Bool.not_eq_true', bne_eq_false_iff_eq, and_assoc, reg_iff, small_iff]
 try simp only [and_assoc, and_true, Bool.and_eq_true, Bool.not_eq_true']
theorem may_iff_23 (a b c k s z i m : Int) : mayF 23 a b c k s z i m = true ↔ m = 0 ∧ Reg a ∧ Reg b ∧ Reg c ∧ a = 0 ∧ b = 0 ∧ c = 0 ∧ z = 0 ∧ k = 0 ∧ s = 0 ∧ (-2147483648 ≤ i ∧ i < 2147483648) ∧ True := by
 have t : tail4 23 a b c k s z i = true := rfl
 have hop : isOp 23 = true := by decide
 have uA : usesF 23 65 = false := by decide
 have uB : usesF 23 66 = false := by decide
 have uC : usesF 23 67 = false := by decide
 have uK : usesF 23 75 = false := by decide
 have uS : usesF 23 83 = false := by decide
 have uI : usesF 23 73 = true := by decide
 have o1 : ((23 : Int) == 1) = false := rfl
 unfold mayF
 rw [t, hop, o1, uA, uB, uC, uK, uS, uI]
 simp only [Bool.true_and, Bool.and_true, Bool.true_or, Bool.false_or, Bool.and_eq_true, Bool.not_eq_true', bne_eq_false_iff_eq, and_assoc, reg_iff, small_iff]
 try simp only [and_assoc, and_true, Bool.and_eq_true, Bool.not_eq_true']
theorem may_iff_24 (a b c k s z i m : Int) : mayF 24 a b c k s z i m = true ↔ m = 0 ∧ Reg a ∧ Reg b ∧ Reg c ∧ a = 0 ∧ b = 0 ∧ c = 0 ∧ z = 0 ∧ k = 0 ∧ s = 0 ∧ i = 0 ∧ (-2147483648 ≤ i ∧ i < 2147483648) ∧ True := by
 have t : tail4 24 a b c k s z i = true := rfl
 have hop : isOp 24 = true := by decide
 have uA : usesF 24 65 = false := by decide
 have uB : usesF 24 66 = false := by decide
 have uC : usesF 24 67 = false := by decide
 have uK : usesF 24 75 = false := by decide
 have uS : usesF 24 83 = false := by decide
 have uI : usesF 24 73 = false := by decide
 have o1 : ((24 : Int) == 1) = false := rfl
 unfold mayF
 rw [t, hop, o1, uA, uB, uC, uK, uS, uI]
 simp only [Bool.true_and, Bool.and_true, Bool.true_or, Bool.false_or, Bool.and_eq_true, Bool.not_eq_true', bne_eq_false_iff_eq, and_assoc, reg_iff, small_iff]
 try simp only [and_assoc, and_true, Bool.and_eq_true, Bool.not_eq_true']
theorem may_iff_25 (a b c k s z i m : Int) : mayF 25 a b c k s z i m = true ↔ m = 0 ∧ Reg a ∧ Reg b ∧ Reg c ∧ a = 0 ∧ b = 0 ∧ c = 0 ∧ z = 0 ∧ k = 0 ∧ s = 0 ∧ (-2147483648 ≤ i ∧ i < 2147483648) ∧ decide (i ≥ 0) = true := by
 have t : tail4 25 a b c k s z i = decide (i ≥ 0) := rfl
 have hop : isOp 25 = true := by decide
 have uA : usesF 25 65 = false := by decide
 have uB : usesF 25 66 = false := by decide
 have uC : usesF 25 67 = false := by decide
 have uK : usesF 25 75 = false := by decide
 have uS : usesF 25 83 = false := by decide
 have uI : usesF 25 73 = true := by decide
 have o1 : ((25 : Int) == 1) = false := rfl
 unfold mayF
 rw [t, hop, o1, uA, uB, uC, uK, uS, uI]
 simp only [Bool.true_and, Bool.and_true, Bool.true_or, Bool.false_or, Bool.and_eq_true, Bool.not_eq_true', bne_eq_false_iff_eq, and_assoc, reg_iff, small_iff]
 try simp only [and_assoc, and_true, Bool.and_eq_true, Bool.not_eq_true']
theorem may_iff_26 (a b c k s z i m : Int) : mayF 26 a b c k s z i m = true ↔ m = 0 ∧ Reg a ∧ Reg b ∧ Reg c ∧ c = 0 ∧ z = 0 ∧ k = 0 ∧ s = 0 ∧ i = 0 ∧ (-2147483648 ≤ i ∧ i < 2147483648) ∧ True := by
 have t : tail4 26 a b c k s z i = true := rfl
 have hop : isOp 26 = true := by decide
 have uA : usesF 26 65 = true := by decide
 have uB : usesF 26 66 = true := by decide
 have uC : usesF 26 67 = false := by decide
 have uK : usesF 26 75 = false := by decide
 have uS : usesF 26 83 = false := by decide
 have uI : usesF 26 73 = false := by decide
 have o1 : ((26 : Int) == 1) = false := rfl
 unfold mayF
 rw [t, hop, o1, uA, uB, uC, uK, uS, uI]
 simp only [Bool.true_and, Bool.and_true, Bool.true_or, Bool.false_or, Bool.and_eq_true, Bool.not_eq_true', bne_eq_false_iff_eq, and_assoc, reg_iff, small_iff]
 try simp only [and_assoc, and_true, Bool.and_eq_true, Bool.not_eq_true']
theorem may_iff_27 (a b c k s z i m : Int) : mayF 27 a b c k s z i m = true ↔ m = 0 ∧ Reg a ∧ Reg b ∧ Reg c ∧ b = 0 ∧ c = 0 ∧ z = 0 ∧ k = 0 ∧ s = 0 ∧ i = 0 ∧ (-2147483648 ≤ i ∧ i < 2147483648) ∧ True := by
 have t : tail4 27 a b c k s z i = true := rfl
 have hop : isOp 27 = true := by decide
 have uA : usesF 27 65 = true := by decide
 have uB : usesF 27 66 = false := by decide
 have uC : usesF 27 67 = false := by decide
 have uK : usesF 27 75 = false := by decide
 have uS : usesF 27 83 = false := by decide
 have uI : usesF 27 73 = false := by decide
 have o1 : ((27 : Int) == 1) = false := rfl
 unfold mayF
 rw [t, hop, o1, uA, uB, uC, uK, uS, uI]
 simp only [Bool.true_and, Bool.and_true, Bool.true_or, Bool.false_or, Bool.and_eq_true, Bool.not_eq_true', bne_eq_false_iff_eq, and_assoc, reg_iff, small_iff]
 try simp only [and_assoc, and_true, Bool.and_eq_true, Bool.not_eq_true']
theorem may_iff_28 (a b c k s z i m : Int) : mayF 28 a b c k s z i m = true ↔ m = 0 ∧ Reg a ∧ Reg b ∧ Reg c ∧ b = 0 ∧ c = 0 ∧ z = 0 ∧ k = 0 ∧ s = 0 ∧ i = 0 ∧ (-2147483648 ≤ i ∧ i < 2147483648) ∧ True := by
 have t : tail4 28 a b c k s z i = true := rfl
 have hop : isOp 28 = true := by decide
 have uA : usesF 28 65 = true := by decide
 have uB : usesF 28 66 = false := by decide
 have uC : usesF 28 67 = false := by decide
 have uK : usesF 28 75 = false := by decide
 have uS : usesF 28 83 = false := by decide
 have uI : usesF 28 73 = false := by decide
 have o1 : ((28 : Int) == 1) = false := rfl
 unfold mayF
 rw [t, hop, o1, uA, uB, uC, uK, uS, uI]
 simp only [Bool.true_and, Bool.and_true, Bool.true_or, Bool.false_or, Bool.and_eq_true, Bool.not_eq_true', bne_eq_false_iff_eq, and_assoc, reg_iff, small_iff]
 try simp only [and_assoc, and_true, Bool.and_eq_true, Bool.not_eq_true']
theorem may_iff_29 (a b c k s z i m : Int) : mayF 29 a b c k s z i m = true ↔ m = 0 ∧ Reg a ∧ Reg b ∧ Reg c ∧ a = 0 ∧ b = 0 ∧ c = 0 ∧ z = 0 ∧ k = 0 ∧ s = 0 ∧ (-2147483648 ≤ i ∧ i < 2147483648) ∧ decide (i > 0) = true := by
 have t : tail4 29 a b c k s z i = decide (i > 0) := rfl
 have hop : isOp 29 = true := by decide
 have uA : usesF 29 65 = false := by decide
 have uB : usesF 29 66 = false := by decide
 have uC : usesF 29 67 = false := by decide
 have uK : usesF 29 75 = false := by decide
 have uS : usesF 29 83 = false := by decide
 have uI : usesF 29 73 = true := by decide
 have o1 : ((29 : Int) == 1) = false := rfl
 unfold mayF
 rw [t, hop, o1, uA, uB, uC, uK, uS, uI]
 simp only [Bool.true_and, Bool.and_true, Bool.true_or, Bool.false_or, Bool.and_eq_true, Bool.not_eq_true', bne_eq_false_iff_eq, and_assoc, reg_iff, small_iff]
 try simp only [and_assoc, and_true, Bool.and_eq_true, Bool.not_eq_true']
end Go.Proofs.Ytahepinbmcgbnaa.Vm
end
section
/- The reader's faults beside May's conditions. No condition. -/
set_option linter.unusedVariables false
set_option linter.unusedSimpArgs false
namespace Go.Proofs.Ytahepinbmcgbnaa.Vm
open Go.RowKit Go.Proofs.Ytahepinbmcgbnaa.PV Go.Proofs.Ytahepinbmcgbnaa.Wd Go.Proofs.YtahepinbmcgbnaaW.PrintWords
theorem decR_iff {L : List Int} {N : Nat} {bad : Bool} {o A B C K S Z I a b c k s z i m : Int} (H : instD L = .ok N bad (iC o A B C K S Z I 0)) (hN : 1 ≤ N) :
  decR L = (iC o a b c k s z i m, N, 0) ↔ (bad = false ∧ A = a ∧ B = b ∧ C = c ∧ K = k ∧ S = s ∧ Z = z ∧ I = i ∧ m = 0) := by
 unfold decR
 rw [H]
 cases bad with
 | true =>
  constructor
  ·intro h
   have := congrArg (fun q => q.2.2) h
   simp at this
  ·rintro ⟨h, _⟩; cases h
 | false =>
  constructor
  ·intro h
   have h := congrArg (fun q => q.1) h
   simp only [Bool.false_eq_true, if_false, iC, List.cons.injEq, SV.a.injEq, Value.int.injEq, true_and, and_true] at h
   obtain ⟨h1, h2, h3, h4, h5, h6, h7, h8⟩ := h
   exact ⟨rfl, h1, h2, h3, h4, h5, h6, h7, h8.symm⟩
  ·rintro ⟨_, rfl, rfl, rfl, rfl, rfl, rfl, rfl, rfl⟩
   rfl
theorem decR_form {L : List Int} (H : instD L = .form) {f : List SV} {N : Nat} : decR L ≠ (f, N, 0) := by
 unfold decR
 rw [H]
 intro h
 have := congrArg (fun q => q.2.2) h
 simp at this
theorem bad27 (b : Int) : ((false || !(b == 0)) = false) ↔ b = 0 := by simp
theorem bad7 (b k s : Int) : (((((false || !(b == 0)) || !decide (Wi k > 0)) || !(k != 11)) || !hasU s k) = false) ↔ b = 0 ∧ hasU s k = true := by
 rw [wi_wd]
 constructor
 ·intro h
  simp only [Bool.or_eq_false_iff, Bool.not_eq_false'] at h
  exact ⟨by simpa using h.1.1.1.2, h.2⟩
 ·rintro ⟨rfl, h⟩
  have := hasU_rng h
  have h1 : wd k = true := wd_of (by omega)
  have h2 : (k != 11) = true := bne_iff_ne.mpr (by omega)
  rw [h, h1, h2]; rfl
theorem bad8 (k s : Int) : ((((false || !decide (Wi k > 0)) || !nm k) || !nm s) = false) ↔ (nu s && nu k) = true := by
 rw [wi_wd]
 constructor
 ·intro h
  simp only [Bool.or_eq_false_iff, Bool.not_eq_false'] at h
  rw [Bool.and_eq_true]
  exact ⟨h.2, h.1.2⟩
 ·intro h
  rw [Bool.and_eq_true] at h
  have hk : nm k = true := h.2
  have hs : nm s = true := h.1
  have := nm_rng hk
  rw [hk, hs, wd_of (by omega)]; rfl
theorem bad4 (a b k s : Int) : (((((false || !decide (Wi k > 0)) || !has s k) || !cnd1 k s a b) || !cnd2 s a b) = false) ↔ binaryF a b k s = true := by
 rw [wi_wd]
 unfold binaryF cnd1 cnd2
 constructor
 ·intro h
  simp only [Bool.or_eq_false_iff, Bool.not_eq_false'] at h
  obtain ⟨⟨⟨_, h1⟩, h2⟩, h3⟩ := h
  rw [h1]
  cases hs : sh s with
  | true => rw [hs] at h3; simpa using h3
  | false =>
   unfold sp at h2
   cases hw : wh k <;> cases h4 : (s == 4 || s == 5) <;> rw [hw, h4] at h2 <;> simp at h2 ⊢
   simpa using h2
 ·intro h
  rw [Bool.and_eq_true] at h
  obtain ⟨h1, h2⟩ := h
  have := has_rng h1
  rw [h1, wd_of (by omega)]
  cases hs : sh s with
  | true =>
   rw [hs] at h2
   have hp : sp s = false := by
    unfold sh at hs; unfold sp
    simp only [Bool.or_eq_true, beq_iff_eq] at hs
    simp only [Bool.or_eq_false_iff, beq_eq_false_iff_ne]
    omega
   rw [hp]
   simp at h2 ⊢
   exact h2
  | false =>
   rw [hs] at h2
   unfold sp
   cases hw : wh k <;> cases h4 : (s == 4 || s == 5) <;> rw [hw, h4] at h2 <;> simp at h2 ⊢
   simpa using h2
theorem small_i (i : Int) : small i = true ↔ -2147483648 ≤ i ∧ i < 2147483648 := by
 simp only [small, inR, List.any_cons, List.any_nil, Bool.or_false, Bool.and_eq_true, decide_eq_true_iff]; omega
theorem bad6 (k s i : Int) : ((((false || !decide (Wi k > 0)) || !cnd6 k s) || !small i) = false) ↔ ((has s k && !sh s && (!wh k || (s != 4 && s != 5))) = true ∧ -2147483648 ≤ i ∧ i < 2147483648) := by
 rw [wi_wd, ← small_i]
 have e : cnd6 k s = (has s k && !sh s && (!wh k || (s != 4 && s != 5))) := by
  unfold cnd6 sp
  rw [Bool.not_or]; rfl
 rw [e]
 constructor
 ·intro h
  simp only [Bool.or_eq_false_iff, Bool.not_eq_false'] at h
  exact ⟨h.1.2, h.2⟩
 ·rintro ⟨h1, h2⟩
  have h3 := h1
  simp only [Bool.and_eq_true] at h3
  have := has_rng h3.1.1
  rw [h1, h2, wd_of (by omega)]; rfl
theorem bad11 (k i : Int) : (((false || !decide (Wi k > 0)) || !small i) = false) ↔ (wd k = true ∧ -2147483648 ≤ i ∧ i < 2147483648) := by
 rw [wi_wd, ← small_i]
 cases wd k <;> cases small i <;> simp
theorem bad15 (s : Int) : ((false || !sd s) = false) ↔ sd s = true := by cases sd s <;> simp
theorem bad16 (k : Int) : ((false || !decide (Wi k > 0)) = false) ↔ wd k = true := by rw [wi_wd]; cases wd k <;> simp
theorem bad18 (b s : Int) : (((false || !(b == 0)) || !sd s) = false) ↔ b = 0 ∧ sd s = true := by cases sd s <;> simp
theorem badR (lo hi i : Int) : ((false || !inR i [(lo, hi)]) = false) ↔ lo ≤ i ∧ i ≤ hi := by
 simp [inR]
theorem bad1 (i : Int) (hi : -9223372036854775808 ≤ i ∧ i ≤ 9223372036854775807) : (false || !inR i (sizedF (leastF i) (-9223372036854775808) 9223372036854775807)) = false := by
 have := (inR_least i (-9223372036854775808) 9223372036854775807 (by omega) hi.1 hi.2 (by omega)).2 hi
 rw [this]; rfl
theorem least_small {i : Int} (h : ¬ 1 < leastF i) : -2147483648 ≤ i ∧ i < 2147483648 := by
 unfold leastF at h
 split at h
 ·omega
 ·split at h <;> omega
theorem small_least {i : Int} (h : -2147483648 ≤ i ∧ i < 2147483648) : ¬ 1 < leastF i := by
 unfold leastF
 split
 ·omega
 ·rw [if_pos (by omega)]; omega
theorem held_rng (k : Int) : -2147483648 ≤ (heldF k).1 ∧ (heldF k).2 ≤ 2147483647 := by
 unfold heldF
 repeat' split
 all_goals simp
theorem u32w (x : Int) : IntKind.u32.wrap x = x % 4294967296 := by simp [IntKind.wrap, IntKind.bits, IntKind.signed]
theorem i32w (x : Int) : IntKind.i32.wrap x = if x % 4294967296 ≥ 2147483648 then x % 4294967296 - 4294967296 else x % 4294967296 := by simp [IntKind.wrap, IntKind.bits, IntKind.signed]
theorem wr32_eq (x : Int) : wr32 x = if x % 4294967296 ≥ 2147483648 then x % 4294967296 - 4294967296 else x % 4294967296 := by
 unfold wr32
 rw [u32w, i32w, Int.emod_emod_of_dvd _ (Int.dvd_refl _), i64_in _ (by split <;> omega) (by split <;> omega)]
theorem imm_held (k n : Int) (hk : wh k = true) (hn : -2147483648 ≤ n ∧ n < 2147483648) : (wr32 (cn k (IntKind.u64.wrap n)) == n) = true ↔ ((heldF k).1 ≤ n ∧ n ≤ (heldF k).2) := by
 have hk2 := wh_rng hk
 rw [beq_iff_eq, wr32_eq, u64w]
 rcases (show k = 2 ∨ k = 3 ∨ k = 4 ∨ k = 5 ∨ k = 6 ∨ k = 7 ∨ k = 8 ∨ k = 9 by omega) with rfl | rfl | rfl | rfl | rfl | rfl | rfl | rfl <;> simp [cn, heldF] <;> split <;> omega
theorem has_shift_wh {s k : Int} (h : has s k = true) (hs : sh s = true) : wh k = true := by
 simp only [has, Bool.and_eq_true, Bool.or_eq_true, decide_eq_true_iff] at h
 simp only [sh, Bool.or_eq_true, beq_iff_eq] at hs
 obtain ⟨_, h | h⟩ := h
 ·exact h
 ·rw [if_neg (by omega), if_neg (by omega), if_pos (by omega)] at h; cases h
theorem bad5 (k s i : Int) (hi : -9223372036854775808 ≤ i ∧ i ≤ 9223372036854775807) (hl : ¬ 1 < leastF i) :
  (((((false || !decide (Wi k > 0)) || !wh k) || !cnd5 k s) || !inR i (sizedF (leastF i) (heldF (if sh s = true then 9 else k)).1 (heldF (if sh s = true then 9 else k)).2)) = false) ↔ immF s k i = true := by
 have hr := held_rng (if sh s = true then 9 else k)
 have hl2 := inR_least i (heldF (if sh s = true then 9 else k)).1 (heldF (if sh s = true then 9 else k)).2 (.inl hr) hi.1 hi.2 (fun q => absurd q (by omega))
 have hsm := least_small hl
 have hs1 : Ri.smallF i = true := (small_iff i).2 hsm
 rw [wi_wd]
 unfold immF cnd5 sp
 rw [hs1]
 constructor
 ·intro h
  simp only [Bool.or_eq_false_iff, Bool.not_eq_false', Bool.and_eq_true, Bool.not_eq_true'] at h
  obtain ⟨⟨⟨_, h1⟩, h2, h3, h4⟩, h5⟩ := h
  have h6 := (imm_held (if sh s = true then 9 else k) i (by split; rfl; exact h1) hsm).2 (hl2.1 h5)
  rw [h1, h2, h3, h4, h6]; rfl
 ·intro h
  simp only [Bool.and_eq_true, Bool.not_eq_true', Bool.and_true] at h
  obtain ⟨⟨⟨⟨h1, h2⟩, h3⟩, h4⟩, h5⟩ := h
  have h6 := hl2.2 ((imm_held (if sh s = true then 9 else k) i (by split; rfl; exact h1) hsm).1 h5)
  have := wh_rng h1
  rw [h1, h2, h3, h4, h6, wd_of (by omega)]; rfl
theorem bad17 (k i : Int) (hi : -9223372036854775808 ≤ i ∧ i ≤ 9223372036854775807) (hl : ¬ 1 < leastF i) :
  ((((false || !decide (Wi k > 0)) || !wh k) || !inR i (sizedF (leastF i) (heldF k).1 (heldF k).2)) = false) ↔ immF 2 k i = true := by
 have hr := held_rng k
 have hl2 := inR_least i (heldF k).1 (heldF k).2 (.inl hr) hi.1 hi.2 (fun q => absurd q (by omega))
 have hsm := least_small hl
 have hs1 : Ri.smallF i = true := (small_iff i).2 hsm
 rw [wi_wd]
 unfold immF
 rw [hs1, show sh 2 = false from rfl]
 constructor
 ·intro h
  simp only [Bool.or_eq_false_iff, Bool.not_eq_false'] at h
  obtain ⟨⟨_, h1⟩, h5⟩ := h
  have h6 := (imm_held k i h1 hsm).2 (hl2.1 h5)
  have h2 : has 2 k = true := by simp [has, h1]
  show (wh k && has 2 k && true && true && true && (wr32 (cn k (IntKind.u64.wrap i)) == i)) = true
  rw [h1, h2, h6]; rfl
 ·intro h
  simp only [Bool.and_eq_true] at h
  obtain ⟨⟨⟨⟨⟨h1, h2⟩, h3⟩, h4⟩, _⟩, h5⟩ := h
  have h6 := hl2.2 ((imm_held k i h1 hsm).1 h5)
  have := wh_rng h1
  rw [h1, h6, wd_of (by omega)]; rfl
theorem bad22 (s i : Int) (hi : -9223372036854775808 ≤ i ∧ i ≤ 9223372036854775807) (hl : ¬ 1 < leastF i) :
  (((false || !sd s) || !inR i (sizedF (leastF i) (-2147483648) 2147483647)) = false) ↔ sd s = true := by
 have hsm := least_small hl
 rw [(inR_least i (-2147483648) 2147483647 (by omega) hi.1 hi.2 (fun q => absurd q (by omega))).2 (by omega)]
 cases sd s <;> simp
theorem bad19 (i : Int) (hi : -9223372036854775808 ≤ i ∧ i ≤ 9223372036854775807) (hl : ¬ 1 < leastF i) :
  (false || !inR i (sizedF (leastF i) (-2147483648) 2147483647)) = false := by
 have hsm := least_small hl
 rw [(inR_least i (-2147483648) 2147483647 (by omega) hi.1 hi.2 (fun q => absurd q (by omega))).2 (by omega)]
 rfl
end Go.Proofs.Ytahepinbmcgbnaa.Vm
end
