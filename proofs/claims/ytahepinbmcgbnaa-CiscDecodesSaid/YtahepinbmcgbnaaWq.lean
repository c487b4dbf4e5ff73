/- Closed form of gantryref1.Canon. No condition. -/
import Derived.Test.YtahepinbmcgbnaaWx
import Derived.Test.YtahepinbmcgbnaaPWy
set_option linter.unusedVariables false
set_option linter.unusedSimpArgs false
namespace Go.Proofs.Ytahepinbmcgbnaa.Wd
open Go.RowKit Go.Proofs.Ytahepinbmcgbnaa.PW Go.Proofs.YtahepinbmcgbnaaW.PrintWords Go.Proofs.YtahepinbmcgbnaaW.PrintMore

theorem shl_63 (x : Int) : shl .u64 x 63 = (x * 9223372036854775808) % 18446744073709551616 := by
  unfold shl
  rw [IntKind.wrap_u64, show min (63 : Int).toNat IntKind.u64.bits = 63 from rfl, show (2 : Int) ^ 63 = 9223372036854775808 by decide]
theorem shr_u64_63 (x : Int) : shr .u64 x 63 = x / 9223372036854775808 := by
  unfold shr
  rw [show min (63 : Int).toNat IntKind.u64.bits = 63 from rfl, show (2 : Int) ^ 63 = 9223372036854775808 by decide]
theorem shr_i64_63 (x : Int) : shr .i64 x 63 = x / 9223372036854775808 := by
  unfold shr
  rw [show min (63 : Int).toNat IntKind.i64.bits = 63 from rfl, show (2 : Int) ^ 63 = 9223372036854775808 by decide]
theorem shl_56 (x : Int) : shl .u64 x 56 = (x * 72057594037927936) % 18446744073709551616 := by
  unfold shl
  rw [IntKind.wrap_u64, show min (56 : Int).toNat IntKind.u64.bits = 56 from rfl, show (2 : Int) ^ 56 = 72057594037927936 by decide]
theorem shr_u64_56 (x : Int) : shr .u64 x 56 = x / 72057594037927936 := by
  unfold shr
  rw [show min (56 : Int).toNat IntKind.u64.bits = 56 from rfl, show (2 : Int) ^ 56 = 72057594037927936 by decide]
theorem shr_i64_56 (x : Int) : shr .i64 x 56 = x / 72057594037927936 := by
  unfold shr
  rw [show min (56 : Int).toNat IntKind.i64.bits = 56 from rfl, show (2 : Int) ^ 56 = 72057594037927936 by decide]
theorem shl_48 (x : Int) : shl .u64 x 48 = (x * 281474976710656) % 18446744073709551616 := by
  unfold shl
  rw [IntKind.wrap_u64, show min (48 : Int).toNat IntKind.u64.bits = 48 from rfl, show (2 : Int) ^ 48 = 281474976710656 by decide]
theorem shr_u64_48 (x : Int) : shr .u64 x 48 = x / 281474976710656 := by
  unfold shr
  rw [show min (48 : Int).toNat IntKind.u64.bits = 48 from rfl, show (2 : Int) ^ 48 = 281474976710656 by decide]
theorem shr_i64_48 (x : Int) : shr .i64 x 48 = x / 281474976710656 := by
  unfold shr
  rw [show min (48 : Int).toNat IntKind.i64.bits = 48 from rfl, show (2 : Int) ^ 48 = 281474976710656 by decide]
theorem shl_32 (x : Int) : shl .u64 x 32 = (x * 4294967296) % 18446744073709551616 := by
  unfold shl
  rw [IntKind.wrap_u64, show min (32 : Int).toNat IntKind.u64.bits = 32 from rfl, show (2 : Int) ^ 32 = 4294967296 by decide]
theorem shr_u64_32 (x : Int) : shr .u64 x 32 = x / 4294967296 := by
  unfold shr
  rw [show min (32 : Int).toNat IntKind.u64.bits = 32 from rfl, show (2 : Int) ^ 32 = 4294967296 by decide]
theorem shr_i64_32 (x : Int) : shr .i64 x 32 = x / 4294967296 := by
  unfold shr
  rw [show min (32 : Int).toNat IntKind.i64.bits = 32 from rfl, show (2 : Int) ^ 32 = 4294967296 by decide]
theorem shl_0 (x : Int) : shl .u64 x 0 = (x * 1) % 18446744073709551616 := by
  unfold shl
  rw [IntKind.wrap_u64, show min (0 : Int).toNat IntKind.u64.bits = 0 from rfl, show (2 : Int) ^ 0 = 1 by decide]
theorem shr_u64_0 (x : Int) : shr .u64 x 0 = x / 1 := by
  unfold shr
  rw [show min (0 : Int).toNat IntKind.u64.bits = 0 from rfl, show (2 : Int) ^ 0 = 1 by decide]
theorem shr_i64_0 (x : Int) : shr .i64 x 0 = x / 1 := by
  unfold shr
  rw [show min (0 : Int).toNat IntKind.i64.bits = 0 from rfl, show (2 : Int) ^ 0 = 1 by decide]
theorem rSigned_eq (a : Int) : gantryref1_Signed.f a = some (sg a) := by
  unfold gantryref1_Signed.f sg
  split <;> first | (simp_all; done) | (simp_all; omega)

theorem rWidth_eq (k : Nat) (a : Int) : gantryref1_Width.f (k + 3) a = some (Wi a) := by
  rcases kinds a with rfl | rfl | rfl | rfl | rfl | rfl | rfl | rfl | rfl | rfl | rfl | h
  all_goals first | rfl | skip
  have h1 : ¬ a = 1 := by omega
  have h2 : ¬ a = 2 := by omega
  have h3 : ¬ a = 3 := by omega
  have h4 : ¬ a = 4 := by omega
  have h5 : ¬ a = 5 := by omega
  have h6 : ¬ a = 6 := by omega
  have h7 : ¬ a = 7 := by omega
  have h8 : ¬ a = 8 := by omega
  have h9 : ¬ a = 9 := by omega
  have h10 : ¬ a = 10 := by omega
  have h11 : ¬ a = 11 := by omega
  simp [gantryref1_Width.f, gantryref1_Width.j0, gantryref1_Width.j1, gantryref1_Width.j2, Wi, h1, h2, h3, h4, h5, h6, h7, h8, h9, h10, h11]
theorem rWord_eq (a : Int) : gantryref1_Word.f a = some (wd a) := by
  unfold gantryref1_Word.f wd
  split <;> first | (simp_all; done) | (simp_all; omega)
theorem rCanon_eq (k : Nat) (a x : Int) : gantryref1_Canon.f (k + 3) a x = some (cn a x) := by
  unfold gantryref1_Canon.f
  rw [rWidth_eq, rWord_eq, rSigned_eq]
  simp only [Option.bind_some]
  rcases kinds a with rfl | rfl | rfl | rfl | rfl | rfl | rfl | rfl | rfl | rfl | rfl | h
  · rw [show wd 1 = true by decide, if_pos rfl, show Wi 1 = 1 from rfl, show sg 1 = false by decide, show IntKind.u64.wrap (wrap64 (64 - 1)) = 63 by rw [IntKind.wrap_u64]; unfold wrap64; omega]
    simp only [Bool.false_eq_true, if_false, if_true]
    rw [if_pos (by decide)]
    simp only [shl_63, shr_u64_63, IntKind.wrap_u64, wrap64, Option.some.injEq]
    simp only [cn, Int.reduceEq, if_true, if_false, or_true, true_or, or_false, false_or]
    omega
  · rw [show wd 2 = true by decide, if_pos rfl, show Wi 2 = 8 from rfl, show sg 2 = true by decide, show IntKind.u64.wrap (wrap64 (64 - 8)) = 56 by rw [IntKind.wrap_u64]; unfold wrap64; omega]
    simp only [Bool.false_eq_true, if_false, if_true]
    rw [if_pos (by decide)]
    simp only [shl_56, shr_i64_56, IntKind.wrap_u64, wrap64, Option.some.injEq]
    simp only [cn, Int.reduceEq, if_true, if_false, or_true, true_or, or_false, false_or]
    omega
  · rw [show wd 3 = true by decide, if_pos rfl, show Wi 3 = 16 from rfl, show sg 3 = true by decide, show IntKind.u64.wrap (wrap64 (64 - 16)) = 48 by rw [IntKind.wrap_u64]; unfold wrap64; omega]
    simp only [Bool.false_eq_true, if_false, if_true]
    rw [if_pos (by decide)]
    simp only [shl_48, shr_i64_48, IntKind.wrap_u64, wrap64, Option.some.injEq]
    simp only [cn, Int.reduceEq, if_true, if_false, or_true, true_or, or_false, false_or]
    omega
  · rw [show wd 4 = true by decide, if_pos rfl, show Wi 4 = 32 from rfl, show sg 4 = true by decide, show IntKind.u64.wrap (wrap64 (64 - 32)) = 32 by rw [IntKind.wrap_u64]; unfold wrap64; omega]
    simp only [Bool.false_eq_true, if_false, if_true]
    rw [if_pos (by decide)]
    simp only [shl_32, shr_i64_32, IntKind.wrap_u64, wrap64, Option.some.injEq]
    simp only [cn, Int.reduceEq, if_true, if_false, or_true, true_or, or_false, false_or]
    omega
  · rw [show wd 5 = true by decide, if_pos rfl, show Wi 5 = 64 from rfl, show sg 5 = true by decide, show IntKind.u64.wrap (wrap64 (64 - 64)) = 0 by rw [IntKind.wrap_u64]; unfold wrap64; omega]
    simp only [Bool.false_eq_true, if_false, if_true]
    rw [if_pos (by decide)]
    simp only [shl_0, shr_i64_0, IntKind.wrap_u64, wrap64, Option.some.injEq]
    simp only [cn, Int.reduceEq, if_true, if_false, or_true, true_or, or_false, false_or]
    omega
  · rw [show wd 6 = true by decide, if_pos rfl, show Wi 6 = 8 from rfl, show sg 6 = false by decide, show IntKind.u64.wrap (wrap64 (64 - 8)) = 56 by rw [IntKind.wrap_u64]; unfold wrap64; omega]
    simp only [Bool.false_eq_true, if_false, if_true]
    rw [if_pos (by decide)]
    simp only [shl_56, shr_u64_56, IntKind.wrap_u64, wrap64, Option.some.injEq]
    simp only [cn, Int.reduceEq, if_true, if_false, or_true, true_or, or_false, false_or]
    omega
  · rw [show wd 7 = true by decide, if_pos rfl, show Wi 7 = 16 from rfl, show sg 7 = false by decide, show IntKind.u64.wrap (wrap64 (64 - 16)) = 48 by rw [IntKind.wrap_u64]; unfold wrap64; omega]
    simp only [Bool.false_eq_true, if_false, if_true]
    rw [if_pos (by decide)]
    simp only [shl_48, shr_u64_48, IntKind.wrap_u64, wrap64, Option.some.injEq]
    simp only [cn, Int.reduceEq, if_true, if_false, or_true, true_or, or_false, false_or]
    omega
  · rw [show wd 8 = true by decide, if_pos rfl, show Wi 8 = 32 from rfl, show sg 8 = false by decide, show IntKind.u64.wrap (wrap64 (64 - 32)) = 32 by rw [IntKind.wrap_u64]; unfold wrap64; omega]
    simp only [Bool.false_eq_true, if_false, if_true]
    rw [if_pos (by decide)]
    simp only [shl_32, shr_u64_32, IntKind.wrap_u64, wrap64, Option.some.injEq]
    simp only [cn, Int.reduceEq, if_true, if_false, or_true, true_or, or_false, false_or]
    omega
  · rw [show wd 9 = true by decide, if_pos rfl, show Wi 9 = 64 from rfl, show sg 9 = false by decide, show IntKind.u64.wrap (wrap64 (64 - 64)) = 0 by rw [IntKind.wrap_u64]; unfold wrap64; omega]
    simp only [Bool.false_eq_true, if_false, if_true]
    rw [if_pos (by decide)]
    simp only [shl_0, shr_u64_0, IntKind.wrap_u64, wrap64, Option.some.injEq]
    simp only [cn, Int.reduceEq, if_true, if_false, or_true, true_or, or_false, false_or]
    omega
  · rw [show wd 10 = true by decide, if_pos rfl, show Wi 10 = 64 from rfl, show sg 10 = false by decide, show IntKind.u64.wrap (wrap64 (64 - 64)) = 0 by rw [IntKind.wrap_u64]; unfold wrap64; omega]
    simp only [Bool.false_eq_true, if_false, if_true]
    rw [if_pos (by decide)]
    simp only [shl_0, shr_u64_0, IntKind.wrap_u64, wrap64, Option.some.injEq]
    simp only [cn, Int.reduceEq, if_true, if_false, or_true, true_or, or_false, false_or]
    omega
  · rw [show wd 11 = true by decide, if_pos rfl, show Wi 11 = 64 from rfl, show sg 11 = false by decide, show IntKind.u64.wrap (wrap64 (64 - 64)) = 0 by rw [IntKind.wrap_u64]; unfold wrap64; omega]
    simp only [Bool.false_eq_true, if_false, if_true]
    rw [if_pos (by decide)]
    simp only [shl_0, shr_u64_0, IntKind.wrap_u64, wrap64, Option.some.injEq]
    simp only [cn, Int.reduceEq, if_true, if_false, or_true, true_or, or_false, false_or]
    omega
  · have h0 : wd a = false := by unfold wd; simp; omega
    have h1 : cn a x = 0 := by unfold cn; rw [if_neg (by omega), if_neg (by omega), if_neg (by omega), if_neg (by omega), if_neg (by omega), if_neg (by omega), if_neg (by omega), if_neg (by omega)]
    rw [h0, h1]
    rfl
end Go.Proofs.Ytahepinbmcgbnaa.Wd
