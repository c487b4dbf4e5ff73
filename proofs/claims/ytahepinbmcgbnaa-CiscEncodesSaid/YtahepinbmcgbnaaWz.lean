/- Closed forms of package word's functions that cisc asks. No condition. -/
import Derived.Laws.BitsAllLaws
import Derived.Test.YtahepinbmcgbnaaPZy
set_option linter.unusedVariables false
set_option linter.unusedSimpArgs false
namespace Go.Proofs.Ytahepinbmcgbnaa.Wd
open Go.RowKit Go.Proofs.Ytahepinbmcgbnaa.PZ Go.Proofs.YtahepinbmcgbnaaW.PrintWords Go.Proofs.YtahepinbmcgbnaaW.PrintMore


/-- A kind's width. -/
def Wi (a : Int) : Int := if a = 1 then 1 else if a = 2 ∨ a = 6 then 8 else if a = 3 ∨ a = 7 then 16 else if a = 4 ∨ a = 8 then 32 else if a = 5 ∨ a = 9 ∨ a = 10 ∨ a = 11 then 64 else 0
theorem kinds (a : Int) : a = 1 ∨ a = 2 ∨ a = 3 ∨ a = 4 ∨ a = 5 ∨ a = 6 ∨ a = 7 ∨ a = 8 ∨ a = 9 ∨ a = 10 ∨ a = 11 ∨ (a < 1 ∨ 11 < a) := by omega
theorem Width_eq (k : Nat) (a : Int) : word_Width.f (k + 4) a = some (Wi a) := by
  rcases kinds a with rfl | rfl | rfl | rfl | rfl | rfl | rfl | rfl | rfl | rfl | rfl | h
  all_goals first | rfl | skip
  have h1 : ¬ a = 1 := by omega
  have h2 : ¬ a = 2 := by omega
  have h3 : ¬ a = 3 := by omega
  have h4 : ¬ a = 4 := by omega
  have h5 : ¬ a = 5 := by omega
  have h6 : ¬ a = 6 := by omega
  have h7 : ¬ a = 7 := by omega
  have h8 : ¬ a = 8 := by omega
  have h9 : ¬ a = 9 := by omega
  have h10 : ¬ a = 10 := by omega
  have h11 : ¬ a = 11 := by omega
  simp [word_Width.f, word_Width.j0, word_Width.j1, word_Width.j2, word_Width.j3, Wi, h1, h2, h3, h4, h5, h6, h7, h8, h9, h10, h11]

/-- The word of a kind that has a number's lowest bits. -/
def cn (k x : Int) : Int :=
  if k = 1 then x % 2 else if k = 2 then ((x + 128) % 256 - 128) % 18446744073709551616 else if k = 3 then ((x + 32768) % 65536 - 32768) % 18446744073709551616
  else if k = 4 then ((x + 2147483648) % 4294967296 - 2147483648) % 18446744073709551616 else if k = 5 ∨ k = 9 ∨ k = 10 ∨ k = 11 then x % 18446744073709551616
  else if k = 6 then x % 256 else if k = 7 then x % 65536 else if k = 8 then x % 4294967296 else 0

theorem shl_63 (x : Int) : shl .u64 x 63 = (x * 9223372036854775808) % 18446744073709551616 := by
  unfold shl
  rw [IntKind.wrap_u64, show min (63 : Int).toNat IntKind.u64.bits = 63 from rfl, show (2 : Int) ^ 63 = 9223372036854775808 by decide]
theorem shr_u64_63 (x : Int) : shr .u64 x 63 = x / 9223372036854775808 := by
  unfold shr
  rw [show min (63 : Int).toNat IntKind.u64.bits = 63 from rfl, show (2 : Int) ^ 63 = 9223372036854775808 by decide]
theorem shr_i64_63 (x : Int) : shr .i64 x 63 = x / 9223372036854775808 := by
  unfold shr
  rw [show min (63 : Int).toNat IntKind.i64.bits = 63 from rfl, show (2 : Int) ^ 63 = 9223372036854775808 by decide]
theorem shl_56 (x : Int) : shl .u64 x 56 = (x * 72057594037927936) % 18446744073709551616 := by
  unfold shl
  rw [IntKind.wrap_u64, show min (56 : Int).toNat IntKind.u64.bits = 56 from rfl, show (2 : Int) ^ 56 = 72057594037927936 by decide]
theorem shr_u64_56 (x : Int) : shr .u64 x 56 = x / 72057594037927936 := by
  unfold shr
  rw [show min (56 : Int).toNat IntKind.u64.bits = 56 from rfl, show (2 : Int) ^ 56 = 72057594037927936 by decide]
theorem shr_i64_56 (x : Int) : shr .i64 x 56 = x / 72057594037927936 := by
  unfold shr
  rw [show min (56 : Int).toNat IntKind.i64.bits = 56 from rfl, show (2 : Int) ^ 56 = 72057594037927936 by decide]
theorem shl_48 (x : Int) : shl .u64 x 48 = (x * 281474976710656) % 18446744073709551616 := by
  unfold shl
  rw [IntKind.wrap_u64, show min (48 : Int).toNat IntKind.u64.bits = 48 from rfl, show (2 : Int) ^ 48 = 281474976710656 by decide]
theorem shr_u64_48 (x : Int) : shr .u64 x 48 = x / 281474976710656 := by
  unfold shr
  rw [show min (48 : Int).toNat IntKind.u64.bits = 48 from rfl, show (2 : Int) ^ 48 = 281474976710656 by decide]
theorem shr_i64_48 (x : Int) : shr .i64 x 48 = x / 281474976710656 := by
  unfold shr
  rw [show min (48 : Int).toNat IntKind.i64.bits = 48 from rfl, show (2 : Int) ^ 48 = 281474976710656 by decide]
theorem shl_32 (x : Int) : shl .u64 x 32 = (x * 4294967296) % 18446744073709551616 := by
  unfold shl
  rw [IntKind.wrap_u64, show min (32 : Int).toNat IntKind.u64.bits = 32 from rfl, show (2 : Int) ^ 32 = 4294967296 by decide]
theorem shr_u64_32 (x : Int) : shr .u64 x 32 = x / 4294967296 := by
  unfold shr
  rw [show min (32 : Int).toNat IntKind.u64.bits = 32 from rfl, show (2 : Int) ^ 32 = 4294967296 by decide]
theorem shr_i64_32 (x : Int) : shr .i64 x 32 = x / 4294967296 := by
  unfold shr
  rw [show min (32 : Int).toNat IntKind.i64.bits = 32 from rfl, show (2 : Int) ^ 32 = 4294967296 by decide]
theorem shl_0 (x : Int) : shl .u64 x 0 = (x * 1) % 18446744073709551616 := by
  unfold shl
  rw [IntKind.wrap_u64, show min (0 : Int).toNat IntKind.u64.bits = 0 from rfl, show (2 : Int) ^ 0 = 1 by decide]
theorem shr_u64_0 (x : Int) : shr .u64 x 0 = x / 1 := by
  unfold shr
  rw [show min (0 : Int).toNat IntKind.u64.bits = 0 from rfl, show (2 : Int) ^ 0 = 1 by decide]
theorem shr_i64_0 (x : Int) : shr .i64 x 0 = x / 1 := by
  unfold shr
  rw [show min (0 : Int).toNat IntKind.i64.bits = 0 from rfl, show (2 : Int) ^ 0 = 1 by decide]
theorem Canon_eq (k : Nat) (a x : Int) : word_Canon.f (k + 4) a x = some (cn a x) := by
  unfold word_Canon.f
  rw [Width_eq]
  simp only [Option.bind_some]
  rcases kinds a with rfl | rfl | rfl | rfl | rfl | rfl | rfl | rfl | rfl | rfl | rfl | h
  · rw [show Wi 1 = 1 from rfl, if_neg (by decide), show wrap64 (64 - 1) = 63 by unfold wrap64; omega, if_pos (by decide), show word_signed.f 1 = some false from rfl]
    simp only [Option.bind_some, Bool.false_eq_true, if_false, if_true, shl_63, shr_u64_63, IntKind.wrap_u64, wrap64, Option.some.injEq]
    simp only [cn, Int.reduceEq, if_true, if_false, or_true, true_or, or_false, false_or]
    omega
  · rw [show Wi 2 = 8 from rfl, if_neg (by decide), show wrap64 (64 - 8) = 56 by unfold wrap64; omega, if_pos (by decide), show word_signed.f 2 = some true from rfl]
    simp only [Option.bind_some, Bool.false_eq_true, if_false, if_true, shl_56, shr_i64_56, IntKind.wrap_u64, wrap64, Option.some.injEq]
    simp only [cn, Int.reduceEq, if_true, if_false, or_true, true_or, or_false, false_or]
    omega
  · rw [show Wi 3 = 16 from rfl, if_neg (by decide), show wrap64 (64 - 16) = 48 by unfold wrap64; omega, if_pos (by decide), show word_signed.f 3 = some true from rfl]
    simp only [Option.bind_some, Bool.false_eq_true, if_false, if_true, shl_48, shr_i64_48, IntKind.wrap_u64, wrap64, Option.some.injEq]
    simp only [cn, Int.reduceEq, if_true, if_false, or_true, true_or, or_false, false_or]
    omega
  · rw [show Wi 4 = 32 from rfl, if_neg (by decide), show wrap64 (64 - 32) = 32 by unfold wrap64; omega, if_pos (by decide), show word_signed.f 4 = some true from rfl]
    simp only [Option.bind_some, Bool.false_eq_true, if_false, if_true, shl_32, shr_i64_32, IntKind.wrap_u64, wrap64, Option.some.injEq]
    simp only [cn, Int.reduceEq, if_true, if_false, or_true, true_or, or_false, false_or]
    omega
  · rw [show Wi 5 = 64 from rfl, if_neg (by decide), show wrap64 (64 - 64) = 0 by unfold wrap64; omega, if_pos (by decide), show word_signed.f 5 = some true from rfl]
    simp only [Option.bind_some, Bool.false_eq_true, if_false, if_true, shl_0, shr_i64_0, IntKind.wrap_u64, wrap64, Option.some.injEq]
    simp only [cn, Int.reduceEq, if_true, if_false, or_true, true_or, or_false, false_or]
    omega
  · rw [show Wi 6 = 8 from rfl, if_neg (by decide), show wrap64 (64 - 8) = 56 by unfold wrap64; omega, if_pos (by decide), show word_signed.f 6 = some false from rfl]
    simp only [Option.bind_some, Bool.false_eq_true, if_false, if_true, shl_56, shr_u64_56, IntKind.wrap_u64, wrap64, Option.some.injEq]
    simp only [cn, Int.reduceEq, if_true, if_false, or_true, true_or, or_false, false_or]
    omega
  · rw [show Wi 7 = 16 from rfl, if_neg (by decide), show wrap64 (64 - 16) = 48 by unfold wrap64; omega, if_pos (by decide), show word_signed.f 7 = some false from rfl]
    simp only [Option.bind_some, Bool.false_eq_true, if_false, if_true, shl_48, shr_u64_48, IntKind.wrap_u64, wrap64, Option.some.injEq]
    simp only [cn, Int.reduceEq, if_true, if_false, or_true, true_or, or_false, false_or]
    omega
  · rw [show Wi 8 = 32 from rfl, if_neg (by decide), show wrap64 (64 - 32) = 32 by unfold wrap64; omega, if_pos (by decide), show word_signed.f 8 = some false from rfl]
    simp only [Option.bind_some, Bool.false_eq_true, if_false, if_true, shl_32, shr_u64_32, IntKind.wrap_u64, wrap64, Option.some.injEq]
    simp only [cn, Int.reduceEq, if_true, if_false, or_true, true_or, or_false, false_or]
    omega
  · rw [show Wi 9 = 64 from rfl, if_neg (by decide), show wrap64 (64 - 64) = 0 by unfold wrap64; omega, if_pos (by decide), show word_signed.f 9 = some false from rfl]
    simp only [Option.bind_some, Bool.false_eq_true, if_false, if_true, shl_0, shr_u64_0, IntKind.wrap_u64, wrap64, Option.some.injEq]
    simp only [cn, Int.reduceEq, if_true, if_false, or_true, true_or, or_false, false_or]
    omega
  · rw [show Wi 10 = 64 from rfl, if_neg (by decide), show wrap64 (64 - 64) = 0 by unfold wrap64; omega, if_pos (by decide), show word_signed.f 10 = some false from rfl]
    simp only [Option.bind_some, Bool.false_eq_true, if_false, if_true, shl_0, shr_u64_0, IntKind.wrap_u64, wrap64, Option.some.injEq]
    simp only [cn, Int.reduceEq, if_true, if_false, or_true, true_or, or_false, false_or]
    omega
  · rw [show Wi 11 = 64 from rfl, if_neg (by decide), show wrap64 (64 - 64) = 0 by unfold wrap64; omega, if_pos (by decide), show word_signed.f 11 = some false from rfl]
    simp only [Option.bind_some, Bool.false_eq_true, if_false, if_true, shl_0, shr_u64_0, IntKind.wrap_u64, wrap64, Option.some.injEq]
    simp only [cn, Int.reduceEq, if_true, if_false, or_true, true_or, or_false, false_or]
    omega
  · have h0 : Wi a = 0 := by unfold Wi; rw [if_neg (by omega), if_neg (by omega), if_neg (by omega), if_neg (by omega), if_neg (by omega)]
    have h1 : cn a x = 0 := by unfold cn; rw [if_neg (by omega), if_neg (by omega), if_neg (by omega), if_neg (by omega), if_neg (by omega), if_neg (by omega), if_neg (by omega), if_neg (by omega)]
    rw [h0, h1]
    rfl

/-- Is it a word of the kind? -/
def is (k x : Int) : Bool := decide (0 < Wi k) && cn k x == x
theorem Is_eq (k : Nat) (a x : Int) : word_Is.f (k + 4) a x = some (is a x) := by
  unfold word_Is.f is
  rw [Width_eq, Canon_eq]
  simp only [Option.bind_some]
  by_cases h : 0 < Wi a
  · rw [if_pos h]; simp [h]
  · rw [if_neg h]; simp [h]

def sg (k : Int) : Bool := decide (2 ≤ k) && decide (k ≤ 5)
theorem signed_eq (a : Int) : word_signed.f a = some (sg a) := by
  unfold word_signed.f sg
  split <;> first | (simp_all; done) | (simp_all; omega)
def wh (k : Int) : Bool := decide (2 ≤ k) && decide (k ≤ 9)
theorem whole_eq (a : Int) : word_whole.f a = some (wh a) := by
  unfold word_whole.f wh
  split <;> first | (simp_all; done) | (simp_all; omega)

/-- Has a kind an operation of two words? -/
def has (op k : Int) : Bool :=
  decide (1 ≤ op) && decide (op ≤ 16) && (wh k || if op = 11 ∨ op = 12 then k == 10 || k == 1 || k == 11 else if op = 6 ∨ op = 7 ∨ op = 8 then k == 1 else if op = 5 ∨ op = 9 ∨ op = 10 then false else k == 10)
theorem has_eq (k : Nat) (op a : Int) : word_has.f (k + 3) op a = some (has op a) := by
  unfold word_has.f
  by_cases h1 : op < 1
  · rw [if_pos h1]
    simp [word_has.j0, has, show ¬ 1 ≤ op by omega]
  rw [if_neg h1]
  by_cases h2 : op > 16
  · simp [word_has.j0, has, h2, show ¬ op ≤ 16 by omega]
  have hb : decide (op > 16) = false := by simp; omega
  rw [hb]
  simp only [word_has.j0, Bool.false_eq_true, if_false, whole_eq, Option.bind_some]
  have e1 : decide (1 ≤ op) = true := by simp; omega
  have e2 : decide (op ≤ 16) = true := by simp; omega
  unfold has
  rw [e1, e2]
  cases hw : wh a with
  | true => simp
  | false =>
    simp only [Bool.false_eq_true, if_false, Bool.true_and, Bool.false_or]
    have : op = 1 ∨ op = 2 ∨ op = 3 ∨ op = 4 ∨ op = 5 ∨ op = 6 ∨ op = 7 ∨ op = 8 ∨ op = 9 ∨ op = 10 ∨ op = 11 ∨ op = 12 ∨ op = 13 ∨ op = 14 ∨ op = 15 ∨ op = 16 := by omega
    rcases this with rfl | rfl | rfl | rfl | rfl | rfl | rfl | rfl | rfl | rfl | rfl | rfl | rfl | rfl | rfl | rfl <;> simp [word_has.j1, word_has.j2] <;> (try split) <;> (try simp_all) <;> (try split) <;> simp_all

/-- The order of two words of a whole kind. -/
def less (k x y : Int) : Bool := if sg k then decide (wrap64 x < wrap64 y) else decide (x < y)
/-- What is reckoned of two whole numbers, ahead of the cut. -/
def rk (op : Int) (s : Bool) (x y : Int) : Int :=
  if op = 1 then x + y else if op = 2 then x - y else if op = 3 then x * y else if op = 6 then Go.bits .and .u64 x y else if op = 7 then Go.bits .or .u64 x y else if op = 8 then Go.bits .xor .u64 x y
  else if op = 9 then shl .u64 x y else if op = 10 then (if s then shr .i64 (wrap64 x) y else shr .u64 x y)
  else if op = 4 then (if s then (if y = 18446744073709551615 then -x else wrap64 (Int.tdiv (wrap64 x) (wrap64 y))) else Int.tdiv x y)
  else (if s then (if y = 18446744073709551615 then 0 else Int.tmod (wrap64 x) (wrap64 y)) else Int.tmod x y)

theorem cn_wrap (k x : Int) : cn k (IntKind.u64.wrap x) = cn k x := by
  rw [IntKind.wrap_u64]
  unfold cn
  split
  · omega
  split
  · omega
  split
  · omega
  split
  · omega
  split
  · omega
  split
  · omega
  split
  · omega
  split
  · omega
  rfl

theorem ints_eq (op : Int) (s : Bool) (x y : Int) (hop : 1 ≤ op ∧ op ≤ 10) (hy : 0 ≤ y) (hx : 0 ≤ x) (hy2 : y ≤ 18446744073709551615) (h0 : op = 4 ∨ op = 5 → y ≠ 0) : ∃ z, word_ints.f op s x y = some z ∧ ∀ k, cn k z = cn k (rk op s x y) := by
  unfold word_ints.f rk
  by_cases h1 : op = 1
  · rw [if_pos h1, if_pos h1]; exact ⟨_, rfl, fun k => cn_wrap _ _⟩
  rw [if_neg h1, if_neg h1]
  by_cases h2 : op = 2
  · rw [if_pos h2, if_pos h2]; exact ⟨_, rfl, fun k => cn_wrap _ _⟩
  rw [if_neg h2, if_neg h2]
  by_cases h3 : op = 3
  · rw [if_pos h3, if_pos h3]; exact ⟨_, rfl, fun k => cn_wrap _ _⟩
  rw [if_neg h3, if_neg h3]
  by_cases h6 : op = 6
  · rw [if_pos h6, if_pos h6]; exact ⟨_, rfl, fun k => rfl⟩
  rw [if_neg h6, if_neg h6]
  by_cases h7 : op = 7
  · rw [if_pos h7, if_pos h7]; exact ⟨_, rfl, fun k => rfl⟩
  rw [if_neg h7, if_neg h7]
  by_cases h8 : op = 8
  · rw [if_pos h8, if_pos h8]; exact ⟨_, rfl, fun k => rfl⟩
  rw [if_neg h8, if_neg h8]
  by_cases h9 : op = 9
  · rw [if_pos h9, if_pos h9, if_pos hy]; exact ⟨_, rfl, fun k => rfl⟩
  rw [if_neg h9, if_neg h9]
  by_cases h10 : op = 10
  · rw [if_pos h10, if_pos h10, if_pos hy, if_pos hy]
    cases s with
    | true => exact ⟨_, rfl, fun k => cn_wrap _ _⟩
    | false => exact ⟨_, rfl, fun k => rfl⟩
  rw [if_neg h10, if_neg h10]
  have hz := h0 (by omega)
  rw [if_neg hz]
  cases s with
  | true =>
    simp only [if_true]
    unfold word_quotient.f
    by_cases hm : y = 18446744073709551615
    · rw [if_pos hm, if_pos hm, if_pos hm]
      simp only [Option.bind_some]
      by_cases h4 : op = 4
      · rw [if_pos h4, if_pos h4]; exact ⟨_, rfl, fun k => cn_wrap _ _⟩
      · rw [if_neg h4, if_neg h4]; exact ⟨_, rfl, fun k => rfl⟩
    · rw [if_neg hm, if_neg hm, if_neg hm, if_neg (by unfold wrap64; omega)]
      simp only [Option.bind_some]
      by_cases h4 : op = 4
      · rw [if_pos h4, if_pos h4]; exact ⟨_, rfl, fun k => cn_wrap _ _⟩
      · rw [if_neg h4, if_neg h4]; exact ⟨_, rfl, fun k => cn_wrap _ _⟩
  | false =>
    simp only [Bool.false_eq_true, if_false]
    by_cases h4 : op = 4
    · rw [if_pos h4, if_pos h4]; exact ⟨_, rfl, fun k => cn_wrap _ _⟩
    · rw [if_neg h4, if_neg h4]; exact ⟨_, rfl, fun k => rfl⟩

/-- The kind of the second operand. -/
def second (op k : Int) : Int := if op = 9 ∨ op = 10 then 9 else k
/-- Two words reckoned with. -/
def bn (op k x y : Int) : Int × Int :=
  if has op k = false then (0, 10) else if is k x = false ∨ is (second op k) y = false then (0, 11) else if k = 10 then (Fl.progF op x.toNat y.toNat, 0)
  else if (op = 4 ∨ op = 5) ∧ y = 0 then (0, 12) else if 11 ≤ op then (Fl.saysF (less k x y) (x == y) op, 0) else (cn k (rk op (sg k) x y), 0)

theorem Bin_eq (k : Nat) (op a x y : Int) (hx : 0 ≤ x) (hy : 0 ≤ y) (hy2 : y ≤ 18446744073709551615) : word_Bin.f (k + 9) op a x y = some (bn op a x y) := by
  have e0 : word_Bin.f (k + 9) op a x y = word_Bin.j1 (k + 8) op a x y (second op a) := by
    unfold word_Bin.f second
    by_cases h : op = 9
    · rw [if_pos h, if_pos (Or.inl h)]; simp only [word_Bin.j0, if_true]
    · rw [if_neg h]
      by_cases h' : op = 10
      · subst h'; simp [word_Bin.j0]
      · rw [if_neg (by omega)]
        have : (op == 10) = false := by simp [h']
        rw [this]
        simp [word_Bin.j0]
  rw [e0]
  simp only [word_Bin.j1, has_eq k.succ.succ.succ.succ, show k + 7 = k.succ.succ.succ.succ + 3 from rfl]
  have hh : word_has.f (k + 7) op a = some (has op a) := has_eq (k + 4) op a
  have hi1 : word_Is.f (k + 7) a x = some (is a x) := Is_eq (k + 3) a x
  have hi2 : word_Is.f (k + 7) (second op a) y = some (is (second op a) y) := Is_eq (k + 3) _ y
  unfold bn
  cases h1 : has op a with
  | false => simp [h1]
  | true =>
    simp only [h1, Option.bind_some, if_true, Bool.true_eq_false, if_false]
    have hi1' : word_Is.f (k.succ.succ.succ.succ + 3) a x = some (is a x) := hi1
    have hi2' : word_Is.f (k.succ.succ.succ.succ + 3) (second op a) y = some (is (second op a) y) := hi2
    rw [hi1']
    cases h2 : is a x with
    | false => simp [word_Bin.j2]
    | true =>
      simp only [Option.bind_some, if_true, hi2']
      cases h3 : is (second op a) y with
      | false => simp [word_Bin.j2]
      | true =>
        simp only [Option.bind_some, Bool.not_true, word_Bin.j2, Bool.false_eq_true, if_false, Bool.true_eq_false, or_self]
        by_cases h10 : a = 10
        · rw [if_pos h10, if_pos h10]; rfl
        rw [if_neg h10, if_neg h10]
        have hop : 1 ≤ op ∧ op ≤ 16 := by
          unfold has at h1
          simp only [Bool.and_eq_true, decide_eq_true_eq] at h1
          exact h1.1
        have j3 : ∀ (n : Nat) (b : Bool), (b = true ↔ (op = 4 ∨ op = 5) ∧ y = 0) → word_Bin.j3 (n + 6) op a x y b = some (if (op = 4 ∨ op = 5) ∧ y = 0 then (0, 12) else if 11 ≤ op then (Fl.saysF (less a x y) (x == y) op, 0) else (cn a (rk op (sg a) x y), 0)) := by
          intro n b hb
          simp only [word_Bin.j3]
          by_cases hz : (op = 4 ∨ op = 5) ∧ y = 0
          · rw [if_pos (hb.2 hz), if_pos hz]
          · rw [if_neg (fun h => hz (hb.1 h)), if_neg hz]
            by_cases h11 : op ≥ 11
            · rw [if_pos h11, if_pos h11, signed_eq]
              simp only [Option.bind_some, word_Bin.j4]
              cases hs : sg a with
              | true => simp [less, hs, word_order_says.f_eq]
              | false => simp [less, hs, word_order_says.f_eq, h11]
            · rw [if_neg h11, if_neg h11]
              simp only [word_Bin.j4, Bool.false_eq_true, if_false, signed_eq, Option.bind_some]
              rw [if_neg h11]
              obtain ⟨z, hz1, hz2⟩ := ints_eq op (sg a) x y (by omega) hy hx hy2 (fun h0 h1 => hz ⟨h0, h1⟩)
              rw [hz1]
              simp only [Option.bind_some]
              rw [show n + 4 = n + 4 from rfl, Canon_eq n a z]
              simp [hz2]
        by_cases h4 : op = 4
        · rw [if_pos h4]; exact j3 k _ (by simp [h4])
        · rw [if_neg h4]
          by_cases h5 : op = 5
          · rw [if_pos h5]; exact j3 k _ (by simp [h5])
          · rw [if_neg h5]; exact j3 k _ (by simp [h4, h5])

/-- Has a kind an operation of one word? -/
def hasU (op k : Int) : Bool := (op == 1 && (wh k || k == 10)) || (op == 2 && k == 1) || (op == 3 && wh k)
/-- One word reckoned with. -/
def un (op k x : Int) : Int × Int :=
  if hasU op k = false then (0, 10) else if is k x = false then (0, 11) else if op = 2 then (Go.bits .xor .u64 x 1, 0) else if k = 10 then (Go.bits .xor .u64 x 9223372036854775808, 0)
  else if op = 1 then (cn k (-x), 0) else (cn k (Go.bits .xor .u64 18446744073709551615 x), 0)
theorem Un_eq (k : Nat) (op a x : Int) : word_Un.f (k + 7) op a x = some (un op a x) := by
  have j2 : ∀ n, word_Un.j2 (n + 5) op a x = some (if is a x = false then (0, 11) else if op = 2 then (Go.bits .xor .u64 x 1, 0) else if a = 10 then (Go.bits .xor .u64 x 9223372036854775808, 0)
      else if op = 1 then (cn a (-x), 0) else (cn a (Go.bits .xor .u64 18446744073709551615 x), 0)) := by
    intro n
    simp only [word_Un.j2, Is_eq, Option.bind_some, Canon_eq, cn_wrap]
    cases is a x with
    | false => simp
    | true =>
      simp only [if_true, Bool.true_eq_false, if_false]
      split
      · rfl
      split
      · rfl
      split <;> rfl
  unfold word_Un.f un
  by_cases h1 : op = 1
  · subst h1
    rw [if_pos rfl, whole_eq]
    simp only [Option.bind_some]
    cases hw : wh a with
    | true =>
      simp only [if_true, word_Un.j0, j2]
      simp [hasU, hw]
    | false =>
      simp only [Bool.false_eq_true, if_false]
      by_cases h10 : a = 10
      · subst h10
        simp only [word_Un.j0, beq_self_eq_true, if_true, j2]
        simp [hasU, hw]
      · have : (a == 10) = false := by simp [h10]
        rw [this]
        simp [word_Un.j0, word_Un.j1, hasU, hw, h10]
  · rw [if_neg h1]
    simp only [word_Un.j0, Bool.false_eq_true, if_false]
    by_cases h2 : op = 2
    · subst h2
      rw [if_pos rfl]
      by_cases ha : a = 1
      · subst ha
        simp only [word_Un.j1, beq_self_eq_true, if_true, j2]
        simp [hasU]
      · have : (a == 1) = false := by simp [ha]
        rw [this]
        simp [word_Un.j1, hasU, ha]
    · rw [if_neg h2]
      simp only [word_Un.j1, Bool.false_eq_true, if_false]
      by_cases h3 : op = 3
      · subst h3
        rw [if_pos rfl, whole_eq]
        simp only [Option.bind_some]
        cases hw : wh a with
        | true =>
          simp only [if_true, j2]
          simp [hasU, hw]
        | false => simp [hasU, hw]
      · rw [if_neg h3]
        simp [hasU, h1, h2, h3]

/-- A kind of a number. -/
def nu (k : Int) : Bool := wh k || k == 10
def wd (k : Int) : Bool := decide (1 ≤ k) && decide (k ≤ 11)
theorem wd_width (a : Int) : decide (0 < Wi a) = wd a := by
  rcases kinds a with rfl | rfl | rfl | rfl | rfl | rfl | rfl | rfl | rfl | rfl | rfl | h
  all_goals first | rfl | skip
  have h0 : wd a = false := by unfold wd; simp; omega
  have h1 : Wi a = 0 := by unfold Wi; rw [if_neg (by omega), if_neg (by omega), if_neg (by omega), if_neg (by omega), if_neg (by omega)]
  rw [h0, h1]
  rfl
end Go.Proofs.Ytahepinbmcgbnaa.Wd
