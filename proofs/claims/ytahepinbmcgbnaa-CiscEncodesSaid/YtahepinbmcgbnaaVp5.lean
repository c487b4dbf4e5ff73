/- May, as a list of conditions. Printed by wip/tools/genVp5.py. No condition. -/
import Derived.Test.YtahepinbmcgbnaaVp4
set_option linter.unusedVariables false
set_option linter.unusedSimpArgs false
namespace Go.Proofs.Ytahepinbmcgbnaa.Vm
open Go.RowKit Go.Proofs.Ytahepinbmcgbnaa.PZ Go.Proofs.Ytahepinbmcgbnaa.Wd Go.Proofs.YtahepinbmcgbnaaW.PrintWords
theorem may_iff_1 (a b c k s z i m : Int) : mayF 1 a b c k s z i m = true ↔ m = 0 ∧ Reg a ∧ Reg b ∧ Reg c ∧ b = 0 ∧ c = 0 ∧ z = 0 ∧ k = 0 ∧ s = 0 ∧ True := by
  have t : tail4 1 a b c k s z i = true := rfl
  have hop : isOp 1 = true := by decide
  have uA : usesF 1 65 = true := by decide
  have uB : usesF 1 66 = false := by decide
  have uC : usesF 1 67 = false := by decide
  have uK : usesF 1 75 = false := by decide
  have uS : usesF 1 83 = false := by decide
  have uI : usesF 1 73 = true := by decide
  have o1 : ((1 : Int) == 1) = true := rfl
  unfold mayF
  rw [t, hop, o1, uA, uB, uC, uK, uS, uI]
  simp only [Bool.true_and, Bool.and_true, Bool.true_or, Bool.false_or, Bool.and_eq_true, Bool.not_eq_true', bne_eq_false_iff_eq, and_assoc, reg_iff, small_iff]
  try simp only [and_assoc, and_true, Bool.and_eq_true, Bool.not_eq_true']
theorem may_iff_3 (a b c k s z i m : Int) : mayF 3 a b c k s z i m = true ↔ m = 0 ∧ Reg a ∧ Reg b ∧ Reg c ∧ c = 0 ∧ z = 0 ∧ k = 0 ∧ s = 0 ∧ i = 0 ∧ (-2147483648 ≤ i ∧ i < 2147483648) ∧ True := by
  have t : tail4 3 a b c k s z i = true := rfl
  have hop : isOp 3 = true := by decide
  have uA : usesF 3 65 = true := by decide
  have uB : usesF 3 66 = true := by decide
  have uC : usesF 3 67 = false := by decide
  have uK : usesF 3 75 = false := by decide
  have uS : usesF 3 83 = false := by decide
  have uI : usesF 3 73 = false := by decide
  have o1 : ((3 : Int) == 1) = false := rfl
  unfold mayF
  rw [t, hop, o1, uA, uB, uC, uK, uS, uI]
  simp only [Bool.true_and, Bool.and_true, Bool.true_or, Bool.false_or, Bool.and_eq_true, Bool.not_eq_true', bne_eq_false_iff_eq, and_assoc, reg_iff, small_iff]
  try simp only [and_assoc, and_true, Bool.and_eq_true, Bool.not_eq_true']
theorem may_iff_4 (a b c k s z i m : Int) : mayF 4 a b c k s z i m = true ↔ m = 0 ∧ Reg a ∧ Reg b ∧ Reg c ∧ c = 0 ∧ z = 0 ∧ i = 0 ∧ (-2147483648 ≤ i ∧ i < 2147483648) ∧ binaryF a b k s = true := by
  have t : tail4 4 a b c k s z i = binaryF a b k s := rfl
  have hop : isOp 4 = true := by decide
  have uA : usesF 4 65 = true := by decide
  have uB : usesF 4 66 = true := by decide
  have uC : usesF 4 67 = false := by decide
  have uK : usesF 4 75 = true := by decide
  have uS : usesF 4 83 = true := by decide
  have uI : usesF 4 73 = false := by decide
  have o1 : ((4 : Int) == 1) = false := rfl
  unfold mayF
  rw [t, hop, o1, uA, uB, uC, uK, uS, uI]
  simp only [Bool.true_and, Bool.and_true, Bool.true_or, Bool.false_or, Bool.and_eq_true, Bool.not_eq_true', bne_eq_false_iff_eq, and_assoc, reg_iff, small_iff]
  try simp only [and_assoc, and_true, Bool.and_eq_true, Bool.not_eq_true']
theorem may_iff_5 (a b c k s z i m : Int) : mayF 5 a b c k s z i m = true ↔ m = 0 ∧ Reg a ∧ Reg b ∧ Reg c ∧ b = 0 ∧ c = 0 ∧ z = 0 ∧ (-2147483648 ≤ i ∧ i < 2147483648) ∧ immF s k i = true := by
  have t : tail4 5 a b c k s z i = immF s k i := rfl
  have hop : isOp 5 = true := by decide
  have uA : usesF 5 65 = true := by decide
  have uB : usesF 5 66 = false := by decide
  have uC : usesF 5 67 = false := by decide
  have uK : usesF 5 75 = true := by decide
  have uS : usesF 5 83 = true := by decide
  have uI : usesF 5 73 = true := by decide
  have o1 : ((5 : Int) == 1) = false := rfl
  unfold mayF
  rw [t, hop, o1, uA, uB, uC, uK, uS, uI]
  simp only [Bool.true_and, Bool.and_true, Bool.true_or, Bool.false_or, Bool.and_eq_true, Bool.not_eq_true', bne_eq_false_iff_eq, and_assoc, reg_iff, small_iff]
  try simp only [and_assoc, and_true, Bool.and_eq_true, Bool.not_eq_true']
theorem may_iff_6 (a b c k s z i m : Int) : mayF 6 a b c k s z i m = true ↔ m = 0 ∧ Reg a ∧ Reg b ∧ Reg c ∧ c = 0 ∧ z = 0 ∧ (-2147483648 ≤ i ∧ i < 2147483648) ∧ (has s k && !sh s && (!wh k || (s != 4 && s != 5))) = true := by
  have t : tail4 6 a b c k s z i = (has s k && !sh s && (!wh k || (s != 4 && s != 5))) := rfl
  have hop : isOp 6 = true := by decide
  have uA : usesF 6 65 = true := by decide
  have uB : usesF 6 66 = true := by decide
  have uC : usesF 6 67 = false := by decide
  have uK : usesF 6 75 = true := by decide
  have uS : usesF 6 83 = true := by decide
  have uI : usesF 6 73 = true := by decide
  have o1 : ((6 : Int) == 1) = false := rfl
  unfold mayF
  rw [t, hop, o1, uA, uB, uC, uK, uS, uI]
  simp only [Bool.true_and, Bool.and_true, Bool.true_or, Bool.false_or, Bool.and_eq_true, Bool.not_eq_true', bne_eq_false_iff_eq, and_assoc, reg_iff, small_iff]
  try simp only [and_assoc, and_true, Bool.and_eq_true, Bool.not_eq_true']
theorem may_iff_7 (a b c k s z i m : Int) : mayF 7 a b c k s z i m = true ↔ m = 0 ∧ Reg a ∧ Reg b ∧ Reg c ∧ b = 0 ∧ c = 0 ∧ z = 0 ∧ i = 0 ∧ (-2147483648 ≤ i ∧ i < 2147483648) ∧ hasU s k = true := by
  have t : tail4 7 a b c k s z i = hasU s k := rfl
  have hop : isOp 7 = true := by decide
  have uA : usesF 7 65 = true := by decide
  have uB : usesF 7 66 = false := by decide
  have uC : usesF 7 67 = false := by decide
  have uK : usesF 7 75 = true := by decide
  have uS : usesF 7 83 = true := by decide
  have uI : usesF 7 73 = false := by decide
  have o1 : ((7 : Int) == 1) = false := rfl
  unfold mayF
  rw [t, hop, o1, uA, uB, uC, uK, uS, uI]
  simp only [Bool.true_and, Bool.and_true, Bool.true_or, Bool.false_or, Bool.and_eq_true, Bool.not_eq_true', bne_eq_false_iff_eq, and_assoc, reg_iff, small_iff]
  try simp only [and_assoc, and_true, Bool.and_eq_true, Bool.not_eq_true']
theorem may_iff_8 (a b c k s z i m : Int) : mayF 8 a b c k s z i m = true ↔ m = 0 ∧ Reg a ∧ Reg b ∧ Reg c ∧ c = 0 ∧ z = 0 ∧ i = 0 ∧ (-2147483648 ≤ i ∧ i < 2147483648) ∧ (nu s && nu k) = true := by
  have t : tail4 8 a b c k s z i = (nu s && nu k) := rfl
  have hop : isOp 8 = true := by decide
  have uA : usesF 8 65 = true := by decide
  have uB : usesF 8 66 = true := by decide
  have uC : usesF 8 67 = false := by decide
  have uK : usesF 8 75 = true := by decide
  have uS : usesF 8 83 = true := by decide
  have uI : usesF 8 73 = false := by decide
  have o1 : ((8 : Int) == 1) = false := rfl
  unfold mayF
  rw [t, hop, o1, uA, uB, uC, uK, uS, uI]
  simp only [Bool.true_and, Bool.and_true, Bool.true_or, Bool.false_or, Bool.and_eq_true, Bool.not_eq_true', bne_eq_false_iff_eq, and_assoc, reg_iff, small_iff]
  try simp only [and_assoc, and_true, Bool.and_eq_true, Bool.not_eq_true']
theorem may_iff_10 (a b c k s z i m : Int) : mayF 10 a b c k s z i m = true ↔ m = 0 ∧ Reg a ∧ Reg b ∧ Reg c ∧ k = 0 ∧ s = 0 ∧ (-2147483648 ≤ i ∧ i < 2147483648) ∧ scaledF 10 c z = true := by
  have t : tail4 10 a b c k s z i = scaledF 10 c z := rfl
  have hop : isOp 10 = true := by decide
  have uA : usesF 10 65 = true := by decide
  have uB : usesF 10 66 = true := by decide
  have uC : usesF 10 67 = true := by decide
  have uK : usesF 10 75 = false := by decide
  have uS : usesF 10 83 = false := by decide
  have uI : usesF 10 73 = true := by decide
  have o1 : ((10 : Int) == 1) = false := rfl
  unfold mayF
  rw [t, hop, o1, uA, uB, uC, uK, uS, uI]
  simp only [Bool.true_and, Bool.and_true, Bool.true_or, Bool.false_or, Bool.and_eq_true, Bool.not_eq_true', bne_eq_false_iff_eq, and_assoc, reg_iff, small_iff]
  try simp only [and_assoc, and_true, Bool.and_eq_true, Bool.not_eq_true']
theorem may_iff_11 (a b c k s z i m : Int) : mayF 11 a b c k s z i m = true ↔ m = 0 ∧ Reg a ∧ Reg b ∧ Reg c ∧ c = 0 ∧ z = 0 ∧ s = 0 ∧ (-2147483648 ≤ i ∧ i < 2147483648) ∧ wd k = true := by
  have t : tail4 11 a b c k s z i = wd k := rfl
  have hop : isOp 11 = true := by decide
  have uA : usesF 11 65 = true := by decide
  have uB : usesF 11 66 = true := by decide
  have uC : usesF 11 67 = false := by decide
  have uK : usesF 11 75 = true := by decide
  have uS : usesF 11 83 = false := by decide
  have uI : usesF 11 73 = true := by decide
  have o1 : ((11 : Int) == 1) = false := rfl
  unfold mayF
  rw [t, hop, o1, uA, uB, uC, uK, uS, uI]
  simp only [Bool.true_and, Bool.and_true, Bool.true_or, Bool.false_or, Bool.and_eq_true, Bool.not_eq_true', bne_eq_false_iff_eq, and_assoc, reg_iff, small_iff]
  try simp only [and_assoc, and_true, Bool.and_eq_true, Bool.not_eq_true']
theorem may_iff_12 (a b c k s z i m : Int) : mayF 12 a b c k s z i m = true ↔ m = 0 ∧ Reg a ∧ Reg b ∧ Reg c ∧ s = 0 ∧ (-2147483648 ≤ i ∧ i < 2147483648) ∧ (scaledF 12 c z && wd k) = true := by
  have t : tail4 12 a b c k s z i = (scaledF 12 c z && wd k) := rfl
  have hop : isOp 12 = true := by decide
  have uA : usesF 12 65 = true := by decide
  have uB : usesF 12 66 = true := by decide
  have uC : usesF 12 67 = true := by decide
  have uK : usesF 12 75 = true := by decide
  have uS : usesF 12 83 = false := by decide
  have uI : usesF 12 73 = true := by decide
  have o1 : ((12 : Int) == 1) = false := rfl
  unfold mayF
  rw [t, hop, o1, uA, uB, uC, uK, uS, uI]
  simp only [Bool.true_and, Bool.and_true, Bool.true_or, Bool.false_or, Bool.and_eq_true, Bool.not_eq_true', bne_eq_false_iff_eq, and_assoc, reg_iff, small_iff]
  try simp only [and_assoc, and_true, Bool.and_eq_true, Bool.not_eq_true']
theorem may_iff_13 (a b c k s z i m : Int) : mayF 13 a b c k s z i m = true ↔ m = 0 ∧ Reg a ∧ Reg b ∧ Reg c ∧ c = 0 ∧ z = 0 ∧ s = 0 ∧ (-2147483648 ≤ i ∧ i < 2147483648) ∧ wd k = true := by
  have t : tail4 13 a b c k s z i = wd k := rfl
  have hop : isOp 13 = true := by decide
  have uA : usesF 13 65 = true := by decide
  have uB : usesF 13 66 = true := by decide
  have uC : usesF 13 67 = false := by decide
  have uK : usesF 13 75 = true := by decide
  have uS : usesF 13 83 = false := by decide
  have uI : usesF 13 73 = true := by decide
  have o1 : ((13 : Int) == 1) = false := rfl
  unfold mayF
  rw [t, hop, o1, uA, uB, uC, uK, uS, uI]
  simp only [Bool.true_and, Bool.and_true, Bool.true_or, Bool.false_or, Bool.and_eq_true, Bool.not_eq_true', bne_eq_false_iff_eq, and_assoc, reg_iff, small_iff]
  try simp only [and_assoc, and_true, Bool.and_eq_true, Bool.not_eq_true']
theorem may_iff_14 (a b c k s z i m : Int) : mayF 14 a b c k s z i m = true ↔ m = 0 ∧ Reg a ∧ Reg b ∧ Reg c ∧ s = 0 ∧ (-2147483648 ≤ i ∧ i < 2147483648) ∧ (scaledF 14 c z && wd k) = true := by
  have t : tail4 14 a b c k s z i = (scaledF 14 c z && wd k) := rfl
  have hop : isOp 14 = true := by decide
  have uA : usesF 14 65 = true := by decide
  have uB : usesF 14 66 = true := by decide
  have uC : usesF 14 67 = true := by decide
  have uK : usesF 14 75 = true := by decide
  have uS : usesF 14 83 = false := by decide
  have uI : usesF 14 73 = true := by decide
  have o1 : ((14 : Int) == 1) = false := rfl
  unfold mayF
  rw [t, hop, o1, uA, uB, uC, uK, uS, uI]
  simp only [Bool.true_and, Bool.and_true, Bool.true_or, Bool.false_or, Bool.and_eq_true, Bool.not_eq_true', bne_eq_false_iff_eq, and_assoc, reg_iff, small_iff]
  try simp only [and_assoc, and_true, Bool.and_eq_true, Bool.not_eq_true']
theorem may_iff_15 (a b c k s z i m : Int) : mayF 15 a b c k s z i m = true ↔ m = 0 ∧ Reg a ∧ Reg b ∧ Reg c ∧ c = 0 ∧ z = 0 ∧ k = 0 ∧ i = 0 ∧ (-2147483648 ≤ i ∧ i < 2147483648) ∧ sd s = true := by
  have t : tail4 15 a b c k s z i = sd s := rfl
  have hop : isOp 15 = true := by decide
  have uA : usesF 15 65 = true := by decide
  have uB : usesF 15 66 = true := by decide
  have uC : usesF 15 67 = false := by decide
  have uK : usesF 15 75 = false := by decide
  have uS : usesF 15 83 = true := by decide
  have uI : usesF 15 73 = false := by decide
  have o1 : ((15 : Int) == 1) = false := rfl
  unfold mayF
  rw [t, hop, o1, uA, uB, uC, uK, uS, uI]
  simp only [Bool.true_and, Bool.and_true, Bool.true_or, Bool.false_or, Bool.and_eq_true, Bool.not_eq_true', bne_eq_false_iff_eq, and_assoc, reg_iff, small_iff]
  try simp only [and_assoc, and_true, Bool.and_eq_true, Bool.not_eq_true']
theorem may_iff_16 (a b c k s z i m : Int) : mayF 16 a b c k s z i m = true ↔ m = 0 ∧ Reg a ∧ Reg b ∧ Reg c ∧ c = 0 ∧ z = 0 ∧ s = 0 ∧ i = 0 ∧ (-2147483648 ≤ i ∧ i < 2147483648) ∧ wd k = true := by
  have t : tail4 16 a b c k s z i = wd k := rfl
  have hop : isOp 16 = true := by decide
  have uA : usesF 16 65 = true := by decide
  have uB : usesF 16 66 = true := by decide
  have uC : usesF 16 67 = false := by decide
  have uK : usesF 16 75 = true := by decide
  have uS : usesF 16 83 = false := by decide
  have uI : usesF 16 73 = false := by decide
  have o1 : ((16 : Int) == 1) = false := rfl
  unfold mayF
  rw [t, hop, o1, uA, uB, uC, uK, uS, uI]
  simp only [Bool.true_and, Bool.and_true, Bool.true_or, Bool.false_or, Bool.and_eq_true, Bool.not_eq_true', bne_eq_false_iff_eq, and_assoc, reg_iff, small_iff]
  try simp only [and_assoc, and_true, Bool.and_eq_true, Bool.not_eq_true']
theorem may_iff_17 (a b c k s z i m : Int) : mayF 17 a b c k s z i m = true ↔ m = 0 ∧ Reg a ∧ Reg b ∧ Reg c ∧ b = 0 ∧ c = 0 ∧ z = 0 ∧ s = 0 ∧ (-2147483648 ≤ i ∧ i < 2147483648) ∧ immF 2 k i = true := by
  have t : tail4 17 a b c k s z i = immF 2 k i := rfl
  have hop : isOp 17 = true := by decide
  have uA : usesF 17 65 = true := by decide
  have uB : usesF 17 66 = false := by decide
  have uC : usesF 17 67 = false := by decide
  have uK : usesF 17 75 = true := by decide
  have uS : usesF 17 83 = false := by decide
  have uI : usesF 17 73 = true := by decide
  have o1 : ((17 : Int) == 1) = false := rfl
  unfold mayF
  rw [t, hop, o1, uA, uB, uC, uK, uS, uI]
  simp only [Bool.true_and, Bool.and_true, Bool.true_or, Bool.false_or, Bool.and_eq_true, Bool.not_eq_true', bne_eq_false_iff_eq, and_assoc, reg_iff, small_iff]
  try simp only [and_assoc, and_true, Bool.and_eq_true, Bool.not_eq_true']
theorem may_iff_18 (a b c k s z i m : Int) : mayF 18 a b c k s z i m = true ↔ m = 0 ∧ Reg a ∧ Reg b ∧ Reg c ∧ b = 0 ∧ c = 0 ∧ z = 0 ∧ k = 0 ∧ i = 0 ∧ (-2147483648 ≤ i ∧ i < 2147483648) ∧ sd s = true := by
  have t : tail4 18 a b c k s z i = sd s := rfl
  have hop : isOp 18 = true := by decide
  have uA : usesF 18 65 = true := by decide
  have uB : usesF 18 66 = false := by decide
  have uC : usesF 18 67 = false := by decide
  have uK : usesF 18 75 = false := by decide
  have uS : usesF 18 83 = true := by decide
  have uI : usesF 18 73 = false := by decide
  have o1 : ((18 : Int) == 1) = false := rfl
  unfold mayF
  rw [t, hop, o1, uA, uB, uC, uK, uS, uI]
  simp only [Bool.true_and, Bool.and_true, Bool.true_or, Bool.false_or, Bool.and_eq_true, Bool.not_eq_true', bne_eq_false_iff_eq, and_assoc, reg_iff, small_iff]
  try simp only [and_assoc, and_true, Bool.and_eq_true, Bool.not_eq_true']
theorem may_iff_19 (a b c k s z i m : Int) : mayF 19 a b c k s z i m = true ↔ m = 0 ∧ Reg a ∧ Reg b ∧ Reg c ∧ a = 0 ∧ b = 0 ∧ c = 0 ∧ z = 0 ∧ k = 0 ∧ s = 0 ∧ (-2147483648 ≤ i ∧ i < 2147483648) ∧ True := by
  have t : tail4 19 a b c k s z i = true := rfl
  have hop : isOp 19 = true := by decide
  have uA : usesF 19 65 = false := by decide
  have uB : usesF 19 66 = false := by decide
  have uC : usesF 19 67 = false := by decide
  have uK : usesF 19 75 = false := by decide
  have uS : usesF 19 83 = false := by decide
  have uI : usesF 19 73 = true := by decide
  have o1 : ((19 : Int) == 1) = false := rfl
  unfold mayF
  rw [t, hop, o1, uA, uB, uC, uK, uS, uI]
  simp only [Bool.true_and, Bool.and_true, Bool.true_or, Bool.false_or, Bool.and_eq_true, Bool.not_eq_true', bne_eq_false_iff_eq, and_assoc, reg_iff, small_iff]
  try simp only [and_assoc, and_true, Bool.and_eq_true, Bool.not_eq_true']
theorem may_iff_22 (a b c k s z i m : Int) : mayF 22 a b c k s z i m = true ↔ m = 0 ∧ Reg a ∧ Reg b ∧ Reg c ∧ a = 0 ∧ b = 0 ∧ c = 0 ∧ z = 0 ∧ k = 0 ∧ (-2147483648 ≤ i ∧ i < 2147483648) ∧ sd s = true := by
  have t : tail4 22 a b c k s z i = sd s := rfl
  have hop : isOp 22 = true := by decide
  have uA : usesF 22 65 = false := by decide
  have uB : usesF 22 66 = false := by decide
  have uC : usesF 22 67 = false := by decide
  have uK : usesF 22 75 = false := by decide
  have uS : usesF 22 83 = true := by decide
  have uI : usesF 22 73 = true := by decide
  have o1 : ((22 : Int) == 1) = false := rfl
  unfold mayF
  rw [t, hop, o1, uA, uB, uC, uK, uS, uI]
  simp only [Bool.true_and, Bool.and_true, Bool.true_or, Bool.false_or, Bool.and_eq_true, Bool.not_eq_true', bne_eq_false_iff_eq, and_assoc, reg_iff, small_iff]
  try simp only [and_assoc, and_true, Bool.and_eq_true, Bool.not_eq_true']
theorem may_iff_23 (a b c k s z i m : Int) : mayF 23 a b c k s z i m = true ↔ m = 0 ∧ Reg a ∧ Reg b ∧ Reg c ∧ a = 0 ∧ b = 0 ∧ c = 0 ∧ z = 0 ∧ k = 0 ∧ s = 0 ∧ (-2147483648 ≤ i ∧ i < 2147483648) ∧ True := by
  have t : tail4 23 a b c k s z i = true := rfl
  have hop : isOp 23 = true := by decide
  have uA : usesF 23 65 = false := by decide
  have uB : usesF 23 66 = false := by decide
  have uC : usesF 23 67 = false := by decide
  have uK : usesF 23 75 = false := by decide
  have uS : usesF 23 83 = false := by decide
  have uI : usesF 23 73 = true := by decide
  have o1 : ((23 : Int) == 1) = false := rfl
  unfold mayF
  rw [t, hop, o1, uA, uB, uC, uK, uS, uI]
  simp only [Bool.true_and, Bool.and_true, Bool.true_or, Bool.false_or, Bool.and_eq_true, Bool.not_eq_true', bne_eq_false_iff_eq, and_assoc, reg_iff, small_iff]
  try simp only [and_assoc, and_true, Bool.and_eq_true, Bool.not_eq_true']
theorem may_iff_24 (a b c k s z i m : Int) : mayF 24 a b c k s z i m = true ↔ m = 0 ∧ Reg a ∧ Reg b ∧ Reg c ∧ a = 0 ∧ b = 0 ∧ c = 0 ∧ z = 0 ∧ k = 0 ∧ s = 0 ∧ i = 0 ∧ (-2147483648 ≤ i ∧ i < 2147483648) ∧ True := by
  have t : tail4 24 a b c k s z i = true := rfl
  have hop : isOp 24 = true := by decide
  have uA : usesF 24 65 = false := by decide
  have uB : usesF 24 66 = false := by decide
  have uC : usesF 24 67 = false := by decide
  have uK : usesF 24 75 = false := by decide
  have uS : usesF 24 83 = false := by decide
  have uI : usesF 24 73 = false := by decide
  have o1 : ((24 : Int) == 1) = false := rfl
  unfold mayF
  rw [t, hop, o1, uA, uB, uC, uK, uS, uI]
  simp only [Bool.true_and, Bool.and_true, Bool.true_or, Bool.false_or, Bool.and_eq_true, Bool.not_eq_true', bne_eq_false_iff_eq, and_assoc, reg_iff, small_iff]
  try simp only [and_assoc, and_true, Bool.and_eq_true, Bool.not_eq_true']
theorem may_iff_25 (a b c k s z i m : Int) : mayF 25 a b c k s z i m = true ↔ m = 0 ∧ Reg a ∧ Reg b ∧ Reg c ∧ a = 0 ∧ b = 0 ∧ c = 0 ∧ z = 0 ∧ k = 0 ∧ s = 0 ∧ (-2147483648 ≤ i ∧ i < 2147483648) ∧ decide (i ≥ 0) = true := by
  have t : tail4 25 a b c k s z i = decide (i ≥ 0) := rfl
  have hop : isOp 25 = true := by decide
  have uA : usesF 25 65 = false := by decide
  have uB : usesF 25 66 = false := by decide
  have uC : usesF 25 67 = false := by decide
  have uK : usesF 25 75 = false := by decide
  have uS : usesF 25 83 = false := by decide
  have uI : usesF 25 73 = true := by decide
  have o1 : ((25 : Int) == 1) = false := rfl
  unfold mayF
  rw [t, hop, o1, uA, uB, uC, uK, uS, uI]
  simp only [Bool.true_and, Bool.and_true, Bool.true_or, Bool.false_or, Bool.and_eq_true, Bool.not_eq_true', bne_eq_false_iff_eq, and_assoc, reg_iff, small_iff]
  try simp only [and_assoc, and_true, Bool.and_eq_true, Bool.not_eq_true']
theorem may_iff_26 (a b c k s z i m : Int) : mayF 26 a b c k s z i m = true ↔ m = 0 ∧ Reg a ∧ Reg b ∧ Reg c ∧ c = 0 ∧ z = 0 ∧ k = 0 ∧ s = 0 ∧ i = 0 ∧ (-2147483648 ≤ i ∧ i < 2147483648) ∧ True := by
  have t : tail4 26 a b c k s z i = true := rfl
  have hop : isOp 26 = true := by decide
  have uA : usesF 26 65 = true := by decide
  have uB : usesF 26 66 = true := by decide
  have uC : usesF 26 67 = false := by decide
  have uK : usesF 26 75 = false := by decide
  have uS : usesF 26 83 = false := by decide
  have uI : usesF 26 73 = false := by decide
  have o1 : ((26 : Int) == 1) = false := rfl
  unfold mayF
  rw [t, hop, o1, uA, uB, uC, uK, uS, uI]
  simp only [Bool.true_and, Bool.and_true, Bool.true_or, Bool.false_or, Bool.and_eq_true, Bool.not_eq_true', bne_eq_false_iff_eq, and_assoc, reg_iff, small_iff]
  try simp only [and_assoc, and_true, Bool.and_eq_true, Bool.not_eq_true']
theorem may_iff_27 (a b c k s z i m : Int) : mayF 27 a b c k s z i m = true ↔ m = 0 ∧ Reg a ∧ Reg b ∧ Reg c ∧ b = 0 ∧ c = 0 ∧ z = 0 ∧ k = 0 ∧ s = 0 ∧ i = 0 ∧ (-2147483648 ≤ i ∧ i < 2147483648) ∧ True := by
  have t : tail4 27 a b c k s z i = true := rfl
  have hop : isOp 27 = true := by decide
  have uA : usesF 27 65 = true := by decide
  have uB : usesF 27 66 = false := by decide
  have uC : usesF 27 67 = false := by decide
  have uK : usesF 27 75 = false := by decide
  have uS : usesF 27 83 = false := by decide
  have uI : usesF 27 73 = false := by decide
  have o1 : ((27 : Int) == 1) = false := rfl
  unfold mayF
  rw [t, hop, o1, uA, uB, uC, uK, uS, uI]
  simp only [Bool.true_and, Bool.and_true, Bool.true_or, Bool.false_or, Bool.and_eq_true, Bool.not_eq_true', bne_eq_false_iff_eq, and_assoc, reg_iff, small_iff]
  try simp only [and_assoc, and_true, Bool.and_eq_true, Bool.not_eq_true']
theorem may_iff_28 (a b c k s z i m : Int) : mayF 28 a b c k s z i m = true ↔ m = 0 ∧ Reg a ∧ Reg b ∧ Reg c ∧ b = 0 ∧ c = 0 ∧ z = 0 ∧ k = 0 ∧ s = 0 ∧ i = 0 ∧ (-2147483648 ≤ i ∧ i < 2147483648) ∧ True := by
  have t : tail4 28 a b c k s z i = true := rfl
  have hop : isOp 28 = true := by decide
  have uA : usesF 28 65 = true := by decide
  have uB : usesF 28 66 = false := by decide
  have uC : usesF 28 67 = false := by decide
  have uK : usesF 28 75 = false := by decide
  have uS : usesF 28 83 = false := by decide
  have uI : usesF 28 73 = false := by decide
  have o1 : ((28 : Int) == 1) = false := rfl
  unfold mayF
  rw [t, hop, o1, uA, uB, uC, uK, uS, uI]
  simp only [Bool.true_and, Bool.and_true, Bool.true_or, Bool.false_or, Bool.and_eq_true, Bool.not_eq_true', bne_eq_false_iff_eq, and_assoc, reg_iff, small_iff]
  try simp only [and_assoc, and_true, Bool.and_eq_true, Bool.not_eq_true']
theorem may_iff_29 (a b c k s z i m : Int) : mayF 29 a b c k s z i m = true ↔ m = 0 ∧ Reg a ∧ Reg b ∧ Reg c ∧ a = 0 ∧ b = 0 ∧ c = 0 ∧ z = 0 ∧ k = 0 ∧ s = 0 ∧ (-2147483648 ≤ i ∧ i < 2147483648) ∧ decide (i > 0) = true := by
  have t : tail4 29 a b c k s z i = decide (i > 0) := rfl
  have hop : isOp 29 = true := by decide
  have uA : usesF 29 65 = false := by decide
  have uB : usesF 29 66 = false := by decide
  have uC : usesF 29 67 = false := by decide
  have uK : usesF 29 75 = false := by decide
  have uS : usesF 29 83 = false := by decide
  have uI : usesF 29 73 = true := by decide
  have o1 : ((29 : Int) == 1) = false := rfl
  unfold mayF
  rw [t, hop, o1, uA, uB, uC, uK, uS, uI]
  simp only [Bool.true_and, Bool.and_true, Bool.true_or, Bool.false_or, Bool.and_eq_true, Bool.not_eq_true', bne_eq_false_iff_eq, and_assoc, reg_iff, small_iff]
  try simp only [and_assoc, and_true, Bool.and_eq_true, Bool.not_eq_true']
end Go.Proofs.Ytahepinbmcgbnaa.Vm
