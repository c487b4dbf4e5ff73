/- Conv's closed form; whole numbers of 53 bits to floats and back. No condition. -/
import Derived.Test.YtahepinbmcgbnaaPAx0
import Derived.Test.YtahepinbmcgbnaaPAx9
import Derived.Test.YtahepinbmcgbnaaWl
set_option linter.unusedVariables false
set_option linter.unusedSimpArgs false
namespace Go.Proofs.Ytahepinbmcgbnaa.Wd
open Go.RowKit Go.Proofs.Ytahepinbmcgbnaa.PA Go.Proofs.YtahepinbmcgbnaaW.PrintWords Go.Proofs.YtahepinbmcgbnaaW.PrintMore

/-- A kind of a number. -/
def nu (k : Int) : Bool := wh k || k == 10
/-- A word of one kind made one of another. -/
def cv (a b x : Int) : Int × Int :=
  if nu a = false ∨ nu b = false then (0, 10) else if is a x = false then (0, 11) else if a ≠ 10 ∧ b ≠ 10 then (cn b x, 0) else if a = b then (x, 0)
  else if a = 10 then (cn b (Fl.cutF x.toNat), 0) else if sg a then ((floatOfInt .f64 (wrap64 x) : Int), 0) else ((floatOfInt .f64 x : Int), 0)
theorem Conv1_eq (a : Int) : word_Conv_1.f a = some (nu a) := by
  unfold word_Conv_1.f nu
  rw [whole_eq]
  simp only [Option.bind_some]
  cases wh a <;> simp
theorem Conv_eq (k : Nat) (a b x : Int) : word_Conv.f (k + 7) a b x = some (cv a b x) := by
  unfold word_Conv.f cv
  rw [Conv1_eq, Conv1_eq]
  simp only [Option.bind_some]
  have j1 : ∀ (n : Nat) (q : Bool), (q = true ↔ (a ≠ 10 ∧ b ≠ 10)) → word_Conv.j1 (n + 5) a b x q = some (if a ≠ 10 ∧ b ≠ 10 then (cn b x, 0) else if a = b then (x, 0)
      else if a = 10 then (cn b (Fl.cutF x.toNat), 0) else if sg a then ((floatOfInt .f64 (wrap64 x) : Int), 0) else ((floatOfInt .f64 x : Int), 0)) := by
    intro n q hq
    simp only [word_Conv.j1, Canon_eq, Option.bind_some, word_cut.f, signed_eq]
    by_cases h : a ≠ 10 ∧ b ≠ 10
    · rw [if_pos (hq.2 h), if_pos h]
    · rw [if_neg (fun e => h (hq.1 e)), if_neg h]
      split
      · rfl
      · split
        · rfl
        · split <;> rfl
  have j0 : ∀ (n : Nat), word_Conv.j0 (n + 6) a b x false = some (if is a x = false then (0, 11) else if a ≠ 10 ∧ b ≠ 10 then (cn b x, 0) else if a = b then (x, 0)
      else if a = 10 then (cn b (Fl.cutF x.toNat), 0) else if sg a then ((floatOfInt .f64 (wrap64 x) : Int), 0) else ((floatOfInt .f64 x : Int), 0)) := by
    intro n
    simp only [word_Conv.j0, Bool.false_eq_true, if_false, Is_eq, Option.bind_some]
    cases is a x with
    | false => simp
    | true =>
      simp only [if_true, Bool.true_eq_false, if_false]
      by_cases h10 : a = 10
      · rw [if_pos h10]
        exact j1 n false (by simp [h10])
      · rw [if_neg h10]
        exact j1 n (b != 10) (by simp [h10])
  cases h1 : nu a with
  | false => simp [word_Conv.j0]
  | true =>
    cases h2 : nu b with
    | false => simp [word_Conv.j0]
    | true =>
      simp only [if_true, Bool.true_eq_false, or_self, if_false, Bool.not_true]
      exact j0 (k + 1)
theorem conv_ev (a b x : Int) : Ev (fun k => word_Conv.f k a b x) (cv a b x) := ⟨7, fun k hk => by obtain ⟨n, rfl⟩ : ∃ n, k = n + 7 := ⟨k - 7, by omega⟩; exact Conv_eq n a b x⟩

/-! Floats of whole numbers below 2^53 -/
theorem cut_none (neg : Bool) (n : Nat) : Ieee.Toward.even.cut neg n 0 = n := by
  unfold Ieee.Toward.cut
  simp only [Nat.zero_min, Nat.shiftLeft_zero, Nat.div_one, Nat.mod_one, Nat.mul_zero]
  simp
theorem near_small (m : Nat) (h : m < 2 ^ 53) (h0 : 0 < m) : floatOfInt .f64 (m : Int) = (m.log2 + 1022) * 4503599627370496 + m * 2 ^ (52 - m.log2) ∧ m.log2 ≤ 52 ∧ 4503599627370496 ≤ m * 2 ^ (52 - m.log2) ∧ m * 2 ^ (52 - m.log2) < 9007199254740992 := by
  have e2 : Ieee.double.infRung = 9218868437227405312 := by decide +kernel
  have e3 : Ieee.double.binade = 4503599627370496 := by decide +kernel
  have e4 : Ieee.double.leastPlace = -1074 := by decide +kernel
  have e5 : Ieee.double.fractionBits = 52 := rfl
  have hL : m.log2 ≤ 52 := by
    have := (Nat.log2_lt (by omega : m ≠ 0)).2 h
    omega
  have hlo : 2 ^ m.log2 ≤ m := Nat.log2_self_le (by omega)
  have hhi : m < 2 ^ (m.log2 + 1) := Nat.lt_log2_self
  have hk1 : 4503599627370496 ≤ m * 2 ^ (52 - m.log2) := by
    have : 2 ^ m.log2 * 2 ^ (52 - m.log2) ≤ m * 2 ^ (52 - m.log2) := Nat.mul_le_mul_right _ hlo
    rw [← Nat.pow_add, show m.log2 + (52 - m.log2) = 52 by omega] at this
    exact this
  have hk2 : m * 2 ^ (52 - m.log2) < 9007199254740992 := by
    have : m * 2 ^ (52 - m.log2) < 2 ^ (m.log2 + 1) * 2 ^ (52 - m.log2) := Nat.mul_lt_mul_of_pos_right hhi (Nat.two_pow_pos _)
    rw [← Nat.pow_add, show m.log2 + 1 + (52 - m.log2) = 53 by omega] at this
    exact this
  refine ⟨?_, hL, hk1, hk2⟩
  show Ieee.double.write (.number (decide ((m : Int) < 0)) (m : Int).natAbs 0) = _
  rw [show decide ((m : Int) < 0) = false by simp, Int.natAbs_natCast]
  show Ieee.double.nearest false m 0 = _
  unfold Ieee.Format.nearest
  rw [if_neg (by omega)]
  have hmax : max ((0 : Int) + (m.log2 : Int) - (Ieee.double.fractionBits : Int)) Ieee.double.leastPlace = (m.log2 : Int) - 52 := by
    rw [e4, e5]
    omega
  simp only [hmax]
  rw [show ((m.log2 : Int) - 52 - 0).toNat = 0 by omega, cut_none, Nat.shiftLeft_eq, show ((0 : Int) - ((m.log2 : Int) - 52)).toNat = 52 - m.log2 by omega, e2, e3, e4, show ((m.log2 : Int) - 52 - -1074).toNat = m.log2 + 1022 by omega]
  rw [Nat.min_eq_left (by omega)]
  rfl
theorem read_small (m : Nat) (h : m < 2 ^ 53) (h0 : 0 < m) : Ieee.double.read (floatOfInt .f64 (m : Int)) = .number false (m * 2 ^ (52 - m.log2)) ((m.log2 : Int) - 52) := by
  have e1 : Ieee.double.signWeight = 9223372036854775808 := by decide +kernel
  have e2 : Ieee.double.infRung = 9218868437227405312 := by decide +kernel
  have e3 : Ieee.double.binade = 4503599627370496 := by decide +kernel
  have e4 : Ieee.double.leastPlace = -1074 := by decide +kernel
  obtain ⟨hf, hL, hk1, hk2⟩ := near_small m h h0
  rw [hf]
  generalize m * 2 ^ (52 - m.log2) = q at *
  generalize m.log2 = L at *
  unfold Ieee.Format.read
  have hr : ((L + 1022) * 4503599627370496 + q) % 9223372036854775808 = (L + 1022) * 4503599627370496 + q := by omega
  have hs : (((L + 1022) * 4503599627370496 + q) / 9223372036854775808 % 2 == 1) = false := by rw [show ((L + 1022) * 4503599627370496 + q) / 9223372036854775808 = 0 by omega]; rfl
  simp only [e1, e2, e3, e4, hr, hs]
  rw [if_neg (by omega), if_pos (by omega)]
  congr 1 <;> omega
theorem back (m : Nat) (h : m < 2 ^ 53) : Fl.cutF (floatOfInt .f64 (m : Int)) = m := by
  have r1 : Ieee.double.read 14114281232179134464 = .number true 4503599627370496 11 := by decide +kernel
  have r2 : Ieee.double.read 4890909195324358656 = .number false 4503599627370496 11 := by decide +kernel
  rcases Nat.eq_zero_or_pos m with rfl | h0
  · decide +kernel
  have hr := read_small m h h0
  obtain ⟨_, hL, hk1, hk2⟩ := near_small m h h0
  have hfit : Fl.fits (floatOfInt .f64 (m : Int)) = true := by
    have e1 : FloatKind.f64.format.order (floatOfInt .f64 (m : Int)) 14114281232179134464 = (Ieee.double.read (floatOfInt .f64 (m : Int))).order (.number true 4503599627370496 11) := by rw [← r1]; rfl
    have e2 : FloatKind.f64.format.order (floatOfInt .f64 (m : Int)) 4890909195324358656 = (Ieee.double.read (floatOfInt .f64 (m : Int))).order (.number false 4503599627370496 11) := by rw [← r2]; rfl
    unfold Fl.fits
    rw [e1, e2, hr]
    simp only [Ieee.Datum.order, Ieee.signed, Nat.shiftLeft_eq, if_true, Bool.false_eq_true, if_false]
    rw [Int.min_eq_left (show (m.log2 : Int) - 52 ≤ 11 by omega), show ((m.log2 : Int) - 52 - ((m.log2 : Int) - 52)).toNat = 0 by omega, show ((11 : Int) - ((m.log2 : Int) - 52)).toNat = 63 - m.log2 by omega, Nat.pow_zero, Nat.mul_one]
    have hp : (2 : Nat) ^ 11 ≤ 2 ^ (63 - m.log2) := Nat.pow_le_pow_right (by omega) (by omega)
    have hp' : (2 : Nat) ^ 11 = 2048 := by decide
    generalize m * 2 ^ (52 - m.log2) = q at *
    generalize 2 ^ (63 - m.log2) = z at *
    have c1 : compare (q : Int) (-((4503599627370496 * z : Nat) : Int)) = .gt := Int.compare_eq_gt.2 (by omega)
    have c2 : compare (q : Int) ((4503599627370496 * z : Nat) : Int) = .lt := Int.compare_eq_lt.2 (by omega)
    rw [c1, c2]
    rfl
  have hw : Fl.whole (m * 2 ^ (52 - m.log2)) ((m.log2 : Int) - 52) = m := by
    unfold Fl.whole
    rw [show ((m.log2 : Int) - 52).toNat = 0 by omega, show (-((m.log2 : Int) - 52)).toNat = 52 - m.log2 by omega, Nat.pow_zero, Nat.mul_one]
    exact Nat.mul_div_cancel _ (Nat.two_pow_pos _)
  have hv : floatToIntVal .f64 (floatOfInt .f64 (m : Int)) .i64 = some (m : Int) := by
    unfold floatToIntVal
    rw [show FloatKind.f64.decode (floatOfInt .f64 (m : Int)) = Ieee.double.read (floatOfInt .f64 (m : Int)) from rfl, hr, Fl.toInt_number]
    simp only [Bool.false_eq_true, if_false, hw]
    rw [if_pos (by rw [Fl.i64_min, Fl.i64_max]; omega)]
  unfold Fl.cutF
  rw [if_pos hfit, hv, Option.getD_some, IntKind.wrap_u64]
  omega
theorem float_range (n : Int) : 0 ≤ (floatOfInt .f64 n : Int) ∧ (floatOfInt .f64 n : Int) ≤ 18446744073709551615 := by
  have := floatOfInt_wf .f64 n
  simp only [Lit.wf, decide_eq_true_eq] at this
  omega
end Go.Proofs.Ytahepinbmcgbnaa.Wd
