/- Kinds and operations of words: closed forms. No condition. -/
import Derived.WideLaws
set_option linter.unusedVariables false
namespace Go.Proofs.Ytahepinbmcgbnaa.Wd
/-- A kind's width. -/
def Wi (a : Int) : Int := if a = 1 then 1 else if a = 2 ∨ a = 6 then 8 else if a = 3 ∨ a = 7 then 16 else if a = 4 ∨ a = 8 then 32 else if a = 5 ∨ a = 9 ∨ a = 10 ∨ a = 11 then 64 else 0
/-- The word of a kind that has a number's lowest bits. -/
def cn (k x : Int) : Int :=
  if k = 1 then x % 2 else if k = 2 then ((x + 128) % 256 - 128) % 18446744073709551616 else if k = 3 then ((x + 32768) % 65536 - 32768) % 18446744073709551616
  else if k = 4 then ((x + 2147483648) % 4294967296 - 2147483648) % 18446744073709551616 else if k = 5 ∨ k = 9 ∨ k = 10 ∨ k = 11 then x % 18446744073709551616
  else if k = 6 then x % 256 else if k = 7 then x % 65536 else if k = 8 then x % 4294967296 else 0

def sg (k : Int) : Bool := decide (2 ≤ k) && decide (k ≤ 5)
def wh (k : Int) : Bool := decide (2 ≤ k) && decide (k ≤ 9)
theorem kinds (a : Int) : a = 1 ∨ a = 2 ∨ a = 3 ∨ a = 4 ∨ a = 5 ∨ a = 6 ∨ a = 7 ∨ a = 8 ∨ a = 9 ∨ a = 10 ∨ a = 11 ∨ (a < 1 ∨ 11 < a) := by omega
/-- Has a kind an operation of two words? -/
def has (op k : Int) : Bool :=
  decide (1 ≤ op) && decide (op ≤ 16) && (wh k || if op = 11 ∨ op = 12 then k == 10 || k == 1 || k == 11 else if op = 6 ∨ op = 7 ∨ op = 8 then k == 1 else if op = 5 ∨ op = 9 ∨ op = 10 then false else k == 10)
/-- Has a kind an operation of one word? -/
def hasU (op k : Int) : Bool := (op == 1 && (wh k || k == 10)) || (op == 2 && k == 1) || (op == 3 && wh k)
/-- A kind of a number. -/
def nu (k : Int) : Bool := wh k || k == 10
def wd (k : Int) : Bool := decide (1 ≤ k) && decide (k ≤ 11)
theorem wd_width (a : Int) : decide (0 < Wi a) = wd a := by
  rcases kinds a with rfl | rfl | rfl | rfl | rfl | rfl | rfl | rfl | rfl | rfl | rfl | h
  all_goals first | rfl | skip
  have h0 : wd a = false := by unfold wd; simp; omega
  have h1 : Wi a = 0 := by unfold Wi; rw [if_neg (by omega), if_neg (by omega), if_neg (by omega), if_neg (by omega), if_neg (by omega)]
  rw [h0, h1]
  rfl
end Go.Proofs.Ytahepinbmcgbnaa.Wd
