/- The float functions of package word and of its reference: what the model's float operations give, and words for it. No condition. -/
import Derived.Test.YtahepinbmcgbnaaProg
import Derived.WalkKit
import Derived.WalkLawsBesides
import Derived.KernelRfl
import Derived.Laws.Externs
import Derived.Laws.FloatArith
import Derived.Laws.NewFold
import Derived.Deep.QuietTactic
import Derived.BigQuiet
import Derived.Test.YtahepinbmcgbnaaVMore
set_option linter.unusedVariables false
set_option linter.unusedSimpArgs false
namespace Go.Proofs.Ytahepinbmcgbnaa.Fl
open Go.RowKit Go.Proofs.YtahepinbmcgbnaaW.PrintWords

theorem frombits (n : Int) (w : World) : (callFunc 53 #[.int .u64 n]).run Try.prog w = .ok (.value (.float .f64 n.toNat)) w := by
  rw [run_callFunc_extern (e := Extern.MathFloatBits.float64frombits) Try.func53 (by kernel_rfl) (by kernel_rfl) (by kernel_rfl) (by kernel_rfl)]
  rfl
theorem tobits (n : Nat) (w : World) : (callFunc 54 #[.float .f64 n]).run Try.prog w = .ok (.value (.int .u64 n)) w := by
  rw [run_callFunc_extern (e := Extern.MathFloatBits.float64bits) Try.func54 (by kernel_rfl) (by kernel_rfl) (by kernel_rfl) (by kernel_rfl)]
  rfl

/-- The one NaN. -/
def nan : Int := 9221120237041090560
theorem nan_eq : nan = 9221120237041090560 := rfl

/-- The answer of an operation: the NaN where it has none. -/
def ar (op : BinOp) (x y : Nat) : Int := match floatBits op .f64 x y with
  | some r => r
  | none => nan

/-- What a float is, if it is one; else the NaN. -/
def clean (b : Nat) : Int := if FloatKind.f64.format.order b b != some .eq then nan else (b : Int)

def isArith (op : BinOp) : Prop := op = .add ∨ op = .sub ∨ op = .mul ∨ op = .quo

theorem read_word (neg : Bool) (m : Nat) (h : m < Ieee.double.infRung) : (Ieee.double.read (Ieee.double.word neg m)).isNaN = false := by
  have e1 : Ieee.double.signWeight = 9223372036854775808 := by decide +kernel
  have e2 : Ieee.double.infRung = 9218868437227405312 := by decide +kernel
  have e3 : Ieee.double.binade = 4503599627370496 := by decide +kernel
  rw [e2] at h
  have hm : Ieee.double.word neg m % Ieee.double.signWeight = m := by
    unfold Ieee.Format.word
    rw [e1]
    split <;> omega
  unfold Ieee.Format.read
  simp only [hm]
  split
  · rfl
  · split
    · rfl
    · rename_i h1 h2
      exact absurd (by rw [e2]; exact h) h2

theorem read_inf (neg : Bool) : (Ieee.double.read (Ieee.double.word neg Ieee.double.infRung)).isNaN = false := by
  cases neg <;> decide +kernel

theorem read_nearest (neg : Bool) (m : Nat) (p : Int) : (Ieee.double.read (Ieee.double.nearest neg m p)).isNaN = false := by
  unfold Ieee.Format.nearest
  dsimp only
  split
  · exact read_word neg 0 (by decide +kernel)
  · rename_i hm
    generalize (max (p + ↑m.log2 - ↑Ieee.double.fractionBits) Ieee.double.leastPlace - Ieee.double.leastPlace).toNat * Ieee.double.binade + _ = q
    rcases Nat.lt_or_ge q Ieee.double.infRung with h | h
    · rw [Nat.min_eq_left (Nat.le_of_lt h)]; exact read_word neg q h
    · rw [Nat.min_eq_right h]; exact read_inf neg

theorem order_self (b : Nat) : FloatKind.f64.format.order b b = if (Ieee.double.read b).isNaN then none else some .eq := by
  show Ieee.Datum.order (Ieee.double.read b) (Ieee.double.read b) = _
  cases h : Ieee.double.read b with
  | nan s f => rfl
  | infinity s => simp [Ieee.Datum.order, Ieee.Datum.isNaN, compare, compareOfLessAndEq]
  | number s m i => simp [Ieee.Datum.order, Ieee.Datum.isNaN, compare, compareOfLessAndEq]

theorem floatBits_noNaN {op : BinOp} {x y r : Nat} (h : floatBits op .f64 x y = some r) : (Ieee.double.read r).isNaN = false := by
  have sumN : ∀ a b d, Ieee.Datum.sum a b = some d → d.isNaN = false := by
    intro a b d hd
    unfold Ieee.Datum.sum at hd
    split at hd
    · cases hd
    · cases hd
    · split at hd
      · cases hd; rfl
      · cases hd
    · cases hd; rfl
    · cases hd; rfl
    · cases hd; rfl
  have prodN : ∀ a b d, Ieee.Datum.product a b = some d → d.isNaN = false := by
    intro a b d hd
    unfold Ieee.Datum.product at hd
    split at hd
    · cases hd
    · cases hd
    · cases hd; rfl
    · split at hd
      · cases hd
      · cases hd; rfl
    · split at hd
      · cases hd
      · cases hd; rfl
    · cases hd; rfl
  have quoN : ∀ n a b d, Ieee.Datum.quotient n a b = some d → d.isNaN = false := by
    intro n a b d hd
    unfold Ieee.Datum.quotient at hd
    split at hd
    · cases hd
    · cases hd
    · cases hd
    · cases hd; rfl
    · cases hd; rfl
    · split at hd
      · split at hd
        · cases hd
        · cases hd; rfl
      · cases hd; rfl
  have wr : ∀ d, d.isNaN = false → (Ieee.double.read (Ieee.double.write d)).isNaN = false := by
    intro d hd
    cases d with
    | number s m i => exact read_nearest s m i
    | infinity s => exact read_inf s
    | nan s f => cases hd
  unfold floatBits at h
  cases op <;> simp only at h <;> first | (cases h; done) | skip
  all_goals
    obtain ⟨d, hd, rfl⟩ := Option.map_eq_some_iff.1 h
    refine wr d ?_
    first | exact sumN _ _ _ hd | exact prodN _ _ _ hd | exact quoN _ _ _ _ hd

theorem cut_nan (x y t : Nat) : (Ieee.double.read (Question.cut (.nanBits .f64 x y) t)).isNaN = true := by
  have e1 : Ieee.double.signWeight = 9223372036854775808 := by decide +kernel
  have e2 : Ieee.double.infRung = 9218868437227405312 := by decide +kernel
  have e3 : Ieee.double.binade = 4503599627370496 := by decide +kernel
  have hc : Question.cut (.nanBits .f64 x y) t = (t % 2) * 9223372036854775808 + 9218868437227405312 + 1 + (t / 2) % 4503599627370495 := by
    show (t % 2) * 2 ^ 63 + 0x7ff0000000000000 + 1 + (t / 2) % (2 ^ 52 - 1) = _
    simp only [Nat.reducePow, Nat.reduceSub]
  rw [hc]
  have hm : ((t % 2) * 9223372036854775808 + 9218868437227405312 + 1 + (t / 2) % 4503599627370495) % 9223372036854775808 = 9218868437227405312 + 1 + (t / 2) % 4503599627370495 := by omega
  unfold Ieee.Format.read
  simp only [e1, e2, e3, hm]
  rw [if_neg (by omega), if_neg (by omega), if_neg (by omega)]
  rfl

/-- An operation of two floats: what it gives, made clean, is the answer; orders may be drawn. -/
theorem run_ar (op : BinOp) (hop : isArith op) (t : TypeId) (x y : Nat) : ∃ (k : Nat) (V : World → Nat), (∀ w, (binOp op t (.float .f64 x) (.float .f64 y)).run Try.prog w = .ok (.float .f64 (V w)) (w.drewN k)) ∧ ∀ w, clean (V w) = ar op x y := by
  cases h : floatBits op .f64 x y with
  | some r =>
    refine ⟨0, fun _ => r, fun w => run_float_arith (P := Try.prog) w op t .f64 x y r h, fun w => ?_⟩
    unfold clean ar
    rw [h, order_self, floatBits_noNaN h]
    rfl
  | none =>
    refine ⟨1, fun w => Question.cut (.nanBits .f64 x y) (w.tape w.drawn (.nanBits .f64 x y)), fun w => ?_, fun w => ?_⟩
    · rcases hop with rfl | rfl | rfl | rfl <;> (unfold floatBits at h; simp only at h; simp [binOp, Op.floatArith, h, Question.forced]; rfl)
    · unfold clean ar
      rw [h, order_self, cut_nan]
      rfl

theorem isNaN_calls (a : Nat) (w : World) : Calls Try.prog 94 #[.float .f64 a] w fun e w' => e = .returned (.bool (FloatKind.f64.format.order a a != some .eq)) ∧ w = w' := by
  go_enter Try.func94, Try.ntmps94
  go_wp2
  go_ret
  exact ⟨rfl, rfl⟩

theorem bits_calls (a : Nat) (w : World) : Calls Try.prog 69 #[.float .f64 a] w fun e w' => e = .returned (.int .u64 (clean a)) ∧ w = w' := by
  have ht := tobits
  by_cases h : FloatKind.f64.format.order a a = some .eq
  · have h' : (FloatKind.f64.format.order a a != some .eq) = false := by simp [h]
    have hc : clean a = a := by unfold clean; simp [h']
    rw [hc]
    clear h hc
    go_enter Try.func69, Try.ntmps69
    go_wp2
    go_ret
    exact ⟨rfl, rfl⟩
  · have h' : (FloatKind.f64.format.order a a != some .eq) = true := by simp [h]
    have hc : clean a = 9221120237041090560 := by unfold clean nan; simp [h']
    rw [hc]
    clear h hc
    go_enter Try.func69, Try.ntmps69
    go_wp2
    go_ret
    exact ⟨rfl, rfl⟩

/-- 'truth', of either package. -/
def tr (b : Bool) : Int := if b then 1 else 0
theorem truth95 (b : Bool) (w : World) : Calls Try.prog 95 #[.bool b] w fun e w' => e = .returned (.int .u64 (tr b)) ∧ w = w' := by
  cases b <;> (go_enter Try.func95, Try.ntmps95; go_wp2; go_ret; exact ⟨rfl, rfl⟩)
theorem truth65 (b : Bool) (w : World) : Calls Try.prog 65 #[.bool b] w fun e w' => e = .returned (.int .u64 (tr b)) ∧ w = w' := by
  cases b <;> (go_enter Try.func65, Try.ntmps65; go_wp2; go_ret; exact ⟨rfl, rfl⟩)

def ord (x y : Nat) : Option Ordering := FloatKind.f64.format.order x y
/-- The reference's floats. -/
def refF (op : Int) (x y : Nat) : Int :=
  if op = 1 then ar .add x y else if op = 2 then ar .sub x y else if op = 3 then ar .mul x y else if op = 4 then ar .quo x y
  else if op = 11 then tr (ord x y == some .eq) else if op = 12 then tr (ord x y != some .eq) else if op = 13 then tr (ord x y == some .lt)
  else if op = 14 then tr (ord x y == some .lt || ord x y == some .eq) else if op = 15 then tr (ord x y == some .gt) else tr (ord x y == some .gt || ord x y == some .eq)

set_option maxHeartbeats 8000000 in
theorem refF_calls (a0 : Int) (x y : Nat) (w : World) : Calls Try.prog 62 #[.int .i64 a0, .float .f64 x, .float .f64 y] w fun e w' => e = .returned (.int .u64 (refF a0 x y)) ∧ Drawn0 w w' := by
  unfold refF ord
  by_cases h1 : a0 = 1
  · subst h1
    simp only [if_true, Int.reduceEq, if_false]
    obtain ⟨k, V, hr, hc⟩ := run_ar .add (.inl rfl) 63 x y
    go_enter Try.func62, Try.ntmps62
    go_wp2_with (first | (go_at_call 69; refine (bits_calls _ _).mono ?_; rintro e w' ⟨rfl, rfl⟩))
    go_ret
    exact ⟨rfl, ⟨⟨k, rfl⟩⟩⟩
  have b1 : (a0 == 1) = false := beq_eq_false_iff_ne.mpr h1
  by_cases h2 : a0 = 2
  · subst h2
    simp only [if_true, Int.reduceEq, if_false]
    obtain ⟨k, V, hr, hc⟩ := run_ar .sub (.inr (.inl rfl)) 63 x y
    go_enter Try.func62, Try.ntmps62
    go_wp2_with (first | (go_at_call 69; refine (bits_calls _ _).mono ?_; rintro e w' ⟨rfl, rfl⟩))
    go_ret
    exact ⟨rfl, ⟨⟨k, rfl⟩⟩⟩
  have b2 : (a0 == 2) = false := beq_eq_false_iff_ne.mpr h2
  by_cases h3 : a0 = 3
  · subst h3
    simp only [if_true, Int.reduceEq, if_false]
    obtain ⟨k, V, hr, hc⟩ := run_ar .mul (.inr (.inr (.inl rfl))) 63 x y
    go_enter Try.func62, Try.ntmps62
    go_wp2_with (first | (go_at_call 69; refine (bits_calls _ _).mono ?_; rintro e w' ⟨rfl, rfl⟩))
    go_ret
    exact ⟨rfl, ⟨⟨k, rfl⟩⟩⟩
  have b3 : (a0 == 3) = false := beq_eq_false_iff_ne.mpr h3
  by_cases h4 : a0 = 4
  · subst h4
    simp only [if_true, Int.reduceEq, if_false]
    obtain ⟨k, V, hr, hc⟩ := run_ar .quo (.inr (.inr (.inr rfl))) 63 x y
    go_enter Try.func62, Try.ntmps62
    go_wp2_with (first | (go_at_call 69; refine (bits_calls _ _).mono ?_; rintro e w' ⟨rfl, rfl⟩))
    go_ret
    exact ⟨rfl, ⟨⟨k, rfl⟩⟩⟩
  have b4 : (a0 == 4) = false := beq_eq_false_iff_ne.mpr h4
  by_cases h11 : a0 = 11
  · subst h11
    simp only [if_true, Int.reduceEq, if_false]
    go_enter Try.func62, Try.ntmps62
    go_wp2_with (first | (go_at_call 65; refine (truth65 _ _).mono ?_; rintro e w' ⟨rfl, rfl⟩))
    go_ret
    exact ⟨rfl, Drawn0.refl _⟩
  have b11 : (a0 == 11) = false := beq_eq_false_iff_ne.mpr h11
  by_cases h12 : a0 = 12
  · subst h12
    simp only [if_true, Int.reduceEq, if_false]
    go_enter Try.func62, Try.ntmps62
    go_wp2_with (first | (go_at_call 65; refine (truth65 _ _).mono ?_; rintro e w' ⟨rfl, rfl⟩))
    go_ret
    exact ⟨rfl, Drawn0.refl _⟩
  have b12 : (a0 == 12) = false := beq_eq_false_iff_ne.mpr h12
  by_cases h13 : a0 = 13
  · subst h13
    simp only [if_true, Int.reduceEq, if_false]
    go_enter Try.func62, Try.ntmps62
    go_wp2_with (first | (go_at_call 65; refine (truth65 _ _).mono ?_; rintro e w' ⟨rfl, rfl⟩))
    go_ret
    exact ⟨rfl, Drawn0.refl _⟩
  have b13 : (a0 == 13) = false := beq_eq_false_iff_ne.mpr h13
  by_cases h14 : a0 = 14
  · subst h14
    simp only [if_true, Int.reduceEq, if_false]
    go_enter Try.func62, Try.ntmps62
    go_wp2_with (first | (go_at_call 65; refine (truth65 _ _).mono ?_; rintro e w' ⟨rfl, rfl⟩))
    go_ret
    exact ⟨rfl, Drawn0.refl _⟩
  have b14 : (a0 == 14) = false := beq_eq_false_iff_ne.mpr h14
  by_cases h15 : a0 = 15
  · subst h15
    simp only [if_true, Int.reduceEq, if_false]
    go_enter Try.func62, Try.ntmps62
    go_wp2_with (first | (go_at_call 65; refine (truth65 _ _).mono ?_; rintro e w' ⟨rfl, rfl⟩))
    go_ret
    exact ⟨rfl, Drawn0.refl _⟩
  have b15 : (a0 == 15) = false := beq_eq_false_iff_ne.mpr h15
  simp only [h1, h2, h3, h4, h11, h12, h13, h14, h15, if_false]
  go_enter Try.func62, Try.ntmps62
  go_wp2_with (first | (go_at_call 65; refine (truth65 _ _).mono ?_; rintro e w' ⟨rfl, rfl⟩))
  go_ret
  exact ⟨rfl, Drawn0.refl _⟩

/-- 'says': whether a comparison holds. -/
def saysF (l s : Bool) (op : Int) : Int :=
  if op = 11 then tr s else if op = 13 then tr l else if op = 14 then tr (l || s) else if op = 15 then tr (!l && !s) else if op = 16 then tr (!l) else tr (!s)
/-- The program's floats. -/
def progF (op : Int) (x y : Nat) : Int :=
  if op ≥ 11 then
    (if ord x x != some .eq || ord y y != some .eq then tr (op == 12) else saysF (ord x y == some .lt) (ord x y == some .eq) op)
  else if op = 2 then ar .sub x y else if op = 3 then ar .mul x y else if op = 4 then ar .quo x y else ar .add x y

theorem clean_yes {b : Nat} (h : (FloatKind.f64.format.order b b != some .eq) = true) : clean b = 9221120237041090560 := by unfold clean nan; simp [h]
theorem clean_no {b : Nat} (h : (FloatKind.f64.format.order b b != some .eq) = false) : clean b = b := by unfold clean; simp [h]

theorem cut_zero (neg : Bool) (n drop : Nat) : Ieee.Toward.zero.cut neg n drop = n / 2 ^ drop := by
  unfold Ieee.Toward.cut
  simp only [Bool.toNat_false, Nat.add_zero, Nat.shiftLeft_eq, Nat.one_mul]
  rcases Nat.le_total drop (n.log2 + 2) with h | h
  · rw [Nat.min_eq_left h]
  · rw [Nat.min_eq_right h]
    have h1 : n < 2 ^ (n.log2 + 1) := Nat.lt_log2_self
    have h2 : (2 : Nat) ^ (n.log2 + 1) ≤ 2 ^ (n.log2 + 2) := Nat.pow_le_pow_right (by omega) (by omega)
    have h3 : (2 : Nat) ^ (n.log2 + 2) ≤ 2 ^ drop := Nat.pow_le_pow_right (by omega) h
    rw [Nat.div_eq_of_lt (by omega), Nat.div_eq_of_lt (by omega)]

/-- The whole part of 'm * 2 ^ i'. -/
def whole (m : Nat) (i : Int) : Nat := (m * 2 ^ i.toNat) / 2 ^ (-i).toNat

theorem toInt_number (s : Bool) (m : Nat) (i : Int) : (Ieee.Datum.number s m i).toInt .zero = some (if s then -(whole m i : Int) else (whole m i : Int)) := by
  unfold Ieee.Datum.toInt Ieee.Datum.integral
  simp only [cut_zero, Ieee.signed, Nat.shiftLeft_eq, Nat.pow_zero, Nat.mul_one]
  rfl

/-- A comparison with '2 ^ 52 * 2 ^ 11' bounds the whole part. -/
theorem whole_le (m : Nat) (i : Int) (h : m * 2 ^ (i - min i 11).toNat ≤ 4503599627370496 * 2 ^ (11 - min i 11).toNat) : whole m i ≤ 9223372036854775808 := by
  unfold whole
  rcases Int.le_total i 0 with hi | hi
  · rw [Int.min_eq_left (by omega), show (i - i).toNat = 0 by omega, Nat.pow_zero, Nat.mul_one] at h
    rw [show i.toNat = 0 by omega, Nat.pow_zero, Nat.mul_one]
    refine Nat.div_le_of_le_mul ?_
    refine Nat.le_trans h (Nat.le_of_eq ?_)
    rw [show (11 - i).toNat = 11 + (-i).toNat by omega, Nat.pow_add, ← Nat.mul_assoc, Nat.mul_comm]
  · rw [show (-i).toNat = 0 by omega, Nat.pow_zero, Nat.div_one]
    rcases Int.le_total i 11 with h11 | h11
    · rw [Int.min_eq_left h11, show (i - i).toNat = 0 by omega, Nat.pow_zero, Nat.mul_one] at h
      refine Nat.le_trans (Nat.mul_le_mul_right _ h) (Nat.le_of_eq ?_)
      rw [Nat.mul_assoc, ← Nat.pow_add, show (11 - i).toNat + i.toNat = 11 by omega]
    · rw [Int.min_eq_right h11, show ((11 : Int) - 11).toNat = 0 by rfl, Nat.pow_zero, Nat.mul_one] at h
      rw [show i.toNat = (i - 11).toNat + 11 by omega, Nat.pow_add, ← Nat.mul_assoc]
      exact Nat.le_trans (Nat.mul_le_mul_right _ h) (Nat.le_refl _)
theorem whole_lt (m : Nat) (i : Int) (h : m * 2 ^ (i - min i 11).toNat < 4503599627370496 * 2 ^ (11 - min i 11).toNat) : whole m i < 9223372036854775808 := by
  unfold whole
  rcases Int.le_total i 0 with hi | hi
  · rw [Int.min_eq_left (by omega), show (i - i).toNat = 0 by omega, Nat.pow_zero, Nat.mul_one] at h
    rw [show i.toNat = 0 by omega, Nat.pow_zero, Nat.mul_one]
    refine Nat.div_lt_of_lt_mul ?_
    refine Nat.lt_of_lt_of_le h (Nat.le_of_eq ?_)
    rw [show (11 - i).toNat = 11 + (-i).toNat by omega, Nat.pow_add, ← Nat.mul_assoc, Nat.mul_comm]
  · rw [show (-i).toNat = 0 by omega, Nat.pow_zero, Nat.div_one]
    have hp : 0 < 2 ^ i.toNat := Nat.two_pow_pos _
    rcases Int.le_total i 11 with h11 | h11
    · rw [Int.min_eq_left h11, show (i - i).toNat = 0 by omega, Nat.pow_zero, Nat.mul_one] at h
      refine Nat.lt_of_lt_of_le (Nat.mul_lt_mul_of_pos_right h hp) (Nat.le_of_eq ?_)
      rw [Nat.mul_assoc, ← Nat.pow_add, show (11 - i).toNat + i.toNat = 11 by omega]
    · rw [Int.min_eq_right h11, show ((11 : Int) - 11).toNat = 0 by rfl, Nat.pow_zero, Nat.mul_one] at h
      rw [show i.toNat = (i - 11).toNat + 11 by omega, Nat.pow_add, ← Nat.mul_assoc]
      exact Nat.mul_lt_mul_of_pos_right h (by decide)

/-- Does a float lie from -2^63 on, below 2^63? -/
def fits (a : Nat) : Bool := (FloatKind.f64.format.order a 14114281232179134464 == some .gt || FloatKind.f64.format.order a 14114281232179134464 == some .eq) && FloatKind.f64.format.order a 4890909195324358656 == some .lt

theorem i64_min : IntKind.i64.min = -9223372036854775808 := by decide
theorem i64_max : IntKind.i64.max = 9223372036854775807 := by decide
theorem fits_val {a : Nat} (h : fits a = true) : ∃ n, floatToIntVal .f64 a .i64 = some n := by
  have r1 : Ieee.double.read 14114281232179134464 = .number true 4503599627370496 11 := by decide +kernel
  have r2 : Ieee.double.read 4890909195324358656 = .number false 4503599627370496 11 := by decide +kernel
  unfold fits at h
  have e1 : FloatKind.f64.format.order a 14114281232179134464 = (Ieee.double.read a).order (.number true 4503599627370496 11) := by rw [← r1]; rfl
  have e2 : FloatKind.f64.format.order a 4890909195324358656 = (Ieee.double.read a).order (.number false 4503599627370496 11) := by rw [← r2]; rfl
  rw [e1, e2] at h
  unfold floatToIntVal
  have e3 : FloatKind.f64.decode a = Ieee.double.read a := rfl
  rw [e3]
  cases hd : Ieee.double.read a with
  | nan s f => rw [hd] at h; simp [Ieee.Datum.order] at h
  | infinity s => rw [hd] at h; cases s <;> simp [Ieee.Datum.order] at h
  | number s m i =>
    rw [hd] at h
    rw [toInt_number]
    simp only
    simp only [Ieee.Datum.order, Ieee.signed, Nat.shiftLeft_eq, if_true, Bool.false_eq_true, if_false, Bool.and_eq_true, Bool.or_eq_true, beq_iff_eq, Option.some.injEq] at h
    obtain ⟨h1, h2⟩ := h
    have k1 : -((4503599627370496 * 2 ^ (11 - min i 11).toNat : Nat) : Int) ≤ (if s = true then -((m * 2 ^ (i - min i 11).toNat : Nat) : Int) else ((m * 2 ^ (i - min i 11).toNat : Nat) : Int)) := by
      rcases h1 with h1 | h1
      · have := Int.compare_eq_gt.1 h1; omega
      · have := Int.compare_eq_eq.1 h1; omega
    have k2 := Int.compare_eq_lt.1 h2
    cases s with
    | true =>
      simp only [if_true] at k1 k2 ⊢
      have := whole_le m i (by omega)
      rw [if_pos (by rw [i64_min, i64_max]; omega)]
      exact ⟨_, rfl⟩
    | false =>
      simp only [Bool.false_eq_true, if_false] at k1 k2 ⊢
      have := whole_lt m i (by omega)
      rw [if_pos (by rw [i64_min, i64_max]; omega)]
      exact ⟨_, rfl⟩

/-- 'cut': to a whole number of 64 bits. -/
def cutF (a : Nat) : Int := if fits a = true then IntKind.u64.wrap ((floatToIntVal .f64 a .i64).getD 0) else 9223372036854775808

set_option maxHeartbeats 8000000 in
theorem cut_calls (a : Nat) (w : World) : Calls Try.prog 52 #[.float .f64 a] w fun e w' => e = .returned (.int .u64 (cutF a)) ∧ Drawn0 w w' := by
  unfold cutF
  cases hf : fits a with
  | true =>
    obtain ⟨n, hn⟩ := fits_val hf
    rw [hn]
    simp only [if_true, Option.getD_some]
    have hcv : ∀ (w : World), (convert 63 2 (.float .f64 a)).run Try.prog w = .ok (.int .i64 n) w := fun w => run_convert_float_int (P := Try.prog) w 63 2 .f64 .i64 a n (by kernel_rfl) Try.underlying2 hn
    clear hn
    unfold fits at hf
    rw [Bool.and_eq_true] at hf
    obtain ⟨h1, h2⟩ := hf
    go_enter Try.func52, Try.ntmps52
    go_wp2
    go_ret
    exact ⟨rfl, Drawn0.refl _⟩
  | false =>
    simp only [Bool.false_eq_true, if_false]
    unfold fits at hf
    obtain ⟨p, hp⟩ : ∃ p : Bool, p = (FloatKind.f64.format.order a 14114281232179134464 == some .gt || FloatKind.f64.format.order a 14114281232179134464 == some .eq) := ⟨_, rfl⟩
    rw [← hp] at hf
    cases p with
    | false =>
      have h1 := hp.symm
      clear hp hf
      go_enter Try.func52, Try.ntmps52
      go_wp2
      go_ret
      exact ⟨rfl, Drawn0.refl _⟩
    | true =>
      have h1 := hp.symm
      rw [Bool.true_and] at hf
      clear hp
      go_enter Try.func52, Try.ntmps52
      go_wp2
      go_ret
      exact ⟨rfl, Drawn0.refl _⟩

end Go.Proofs.Ytahepinbmcgbnaa.Fl
