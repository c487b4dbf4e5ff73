/- What the plain laws speak of: codes, which fields they use, what an instruction must be. No condition. -/
import Derived.Test.YtahepinbmcgbnaaVc10
set_option linter.unusedVariables false
set_option linter.unusedSimpArgs false
namespace Go.Proofs.Ytahepinbmcgbnaa.Vm
open Go.RowKit Go.Proofs.Ytahepinbmcgbnaa.PV Go.Proofs.Ytahepinbmcgbnaa.Wd Go.Proofs.YtahepinbmcgbnaaW.PrintWords
def isOp (o : Int) : Bool := o == 1 || o == 3 || o == 4 || o == 5 || o == 6 || o == 7 || o == 8 || o == 10 || o == 11 || o == 12 || o == 13 || o == 14 || o == 15 || o == 16 || o == 17 || o == 18 || o == 19 || o == 22 || o == 23 || o == 24 || o == 25 || o == 26 || o == 27 || o == 28 || o == 29
theorem isOp_cases (o : Int) (h : isOp o = true) : o = 1 ∨ o = 3 ∨ o = 4 ∨ o = 5 ∨ o = 6 ∨ o = 7 ∨ o = 8 ∨ o = 10 ∨ o = 11 ∨ o = 12 ∨ o = 13 ∨ o = 14 ∨ o = 15 ∨ o = 16 ∨ o = 17 ∨ o = 18 ∨ o = 19 ∨ o = 22 ∨ o = 23 ∨ o = 24 ∨ o = 25 ∨ o = 26 ∨ o = 27 ∨ o = 28 ∨ o = 29 := by simpa [isOp, or_assoc] using h
def Ri.regF (n : Int) : Bool := decide (0 ≤ n) && decide (n < 16)
def Ri.smallF (n : Int) : Bool := decide (-2147483648 ≤ n) && decide (n < 2147483648)
def usesF (o c : Int) : Bool := if c = 65 then ([1, 3, 4, 5, 6, 7, 8, 10, 11, 12, 13, 14, 15, 16, 17, 18, 26, 27, 28] : List Int).contains o else if c = 66 then ([3, 4, 6, 8, 10, 11, 12, 13, 14, 15, 16, 26] : List Int).contains o else if c = 67 then ([10, 12, 14] : List Int).contains o else if c = 75 then ([4, 5, 6, 7, 8, 11, 12, 13, 14, 16, 17] : List Int).contains o else if c = 83 then ([4, 5, 6, 7, 8, 15, 18, 22] : List Int).contains o else if c = 73 then ([1, 5, 6, 10, 11, 12, 13, 14, 17, 19, 22, 23, 25, 29] : List Int).contains o else false
def let6 (c : Int) : Prop := c = 65 ∨ c = 66 ∨ c = 67 ∨ c = 75 ∨ c = 83 ∨ c = 73
def binaryF (a b k s : Int) : Bool := has s k && (if sh s then b == 1 && a != 1 else if wh k && (s == 4 || s == 5) then (a == 0 && b != 0 && b != 2) else true)
def wr32 (x : Int) : Int := IntKind.i64.wrap (IntKind.i32.wrap (IntKind.u32.wrap x))
def immF (s k n : Int) : Bool := (wh k && has s k && !(s == 4) && !(s == 5) && Ri.smallF n) && (wr32 (cn (if sh s then 9 else k) (IntKind.u64.wrap n)) == n)
def scaledF (o c z : Int) : Bool := (z == 1 || z == 2 || z == 4 || z == 8) || (z == 0 && (c == 0 && o == 10))
/-- May's last question. -/
def tail4 (o a b c k s z i : Int) : Bool :=
  if o = 4 then binaryF a b k s else if o = 5 then immF s k i else if o = 6 then (has s k && !sh s && (!wh k || (s != 4 && s != 5))) else if o = 7 then hasU s k else if o = 8 then (nu s && nu k)
  else if o = 10 then scaledF o c z else if o = 12 ∨ o = 14 then (scaledF o c z && wd k) else if o = 11 ∨ o = 13 ∨ o = 16 then wd k else if o = 17 then immF 2 k i
  else if o = 15 ∨ o = 18 ∨ o = 22 then sd s else if o = 25 then decide (i ≥ 0) else if o = 29 then decide (i > 0) else true
def mayF (o a b c k s z i m : Int) : Bool :=
  isOp o && !(m != 0) && Ri.regF a && Ri.regF b && Ri.regF c && (usesF o 65 || !(a != 0)) && (usesF o 66 || !(b != 0)) && (usesF o 67 || (!(c != 0) && !(z != 0))) && (usesF o 75 || !(k != 0)) && (usesF o 83 || !(s != 0)) && (usesF o 73 || !(i != 0)) && (o == 1 || Ri.smallF i) && tail4 o a b c k s z i
theorem u64w (x : Int) : IntKind.u64.wrap x = x % 18446744073709551616 := by simp [IntKind.wrap, IntKind.bits, IntKind.signed]
theorem u8w (x : Int) : IntKind.u8.wrap x = x % 256 := by simp [IntKind.wrap, IntKind.bits, IntKind.signed]
theorem i64w (x : Int) : IntKind.i64.wrap x = if x % 18446744073709551616 ≥ 9223372036854775808 then x % 18446744073709551616 - 18446744073709551616 else x % 18446744073709551616 := by simp [IntKind.wrap, IntKind.bits, IntKind.signed]
theorem i64_in (x : Int) (h0 : -9223372036854775808 ≤ x) (h1 : x ≤ 9223372036854775807) : IntKind.i64.wrap x = x := by rw [i64w]; split <;> omega
theorem i64_mod (x y : Int) (h : x % 18446744073709551616 = y % 18446744073709551616) : IntKind.i64.wrap x = IntKind.i64.wrap y := by rw [i64w, i64w, h]
theorem i64_emod (x : Int) : IntKind.i64.wrap x % 18446744073709551616 = x % 18446744073709551616 := by rw [i64w]; split <;> omega
theorem sg_u (x p : Int) : IntKind.i64.wrap (IntKind.u64.wrap (x * p)) = IntKind.i64.wrap (IntKind.i64.wrap x * p) := by
  refine i64_mod _ _ ?_
  rw [u64w, Int.emod_emod_of_dvd _ (Int.dvd_refl _), Int.mul_emod, ← i64_emod x, ← Int.mul_emod]
end Go.Proofs.Ytahepinbmcgbnaa.Vm
