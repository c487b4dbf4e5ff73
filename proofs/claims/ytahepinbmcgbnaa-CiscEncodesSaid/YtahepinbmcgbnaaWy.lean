/- Closed forms of gantryref1's functions that gantryref4 asks. No condition. -/
import Derived.Test.YtahepinbmcgbnaaWz
import Derived.Test.YtahepinbmcgbnaaPZw
set_option linter.unusedVariables false
set_option linter.unusedSimpArgs false
namespace Go.Proofs.Ytahepinbmcgbnaa.Wd
open Go.RowKit Go.Proofs.Ytahepinbmcgbnaa.PZ Go.Proofs.YtahepinbmcgbnaaW.PrintWords Go.Proofs.YtahepinbmcgbnaaW.PrintMore


theorem rWidth_eq (k : Nat) (a : Int) : gantryref1_Width.f (k + 3) a = some (Wi a) := by
  rcases kinds a with rfl | rfl | rfl | rfl | rfl | rfl | rfl | rfl | rfl | rfl | rfl | h
  all_goals first | rfl | skip
  have h1 : ¬ a = 1 := by omega
  have h2 : ¬ a = 2 := by omega
  have h3 : ¬ a = 3 := by omega
  have h4 : ¬ a = 4 := by omega
  have h5 : ¬ a = 5 := by omega
  have h6 : ¬ a = 6 := by omega
  have h7 : ¬ a = 7 := by omega
  have h8 : ¬ a = 8 := by omega
  have h9 : ¬ a = 9 := by omega
  have h10 : ¬ a = 10 := by omega
  have h11 : ¬ a = 11 := by omega
  simp [gantryref1_Width.f, gantryref1_Width.j0, gantryref1_Width.j1, gantryref1_Width.j2, Wi, h1, h2, h3, h4, h5, h6, h7, h8, h9, h10, h11]
theorem rWord_eq (a : Int) : gantryref1_Word.f a = some (wd a) := by
  unfold gantryref1_Word.f wd
  split <;> first | (simp_all; done) | (simp_all; omega)
theorem rSigned_eq (a : Int) : gantryref1_Signed.f a = some (sg a) := signed_eq a
theorem rInt_eq (a : Int) : gantryref1_Int.f a = some (wh a) := whole_eq a
theorem rCanon_eq (k : Nat) (a x : Int) : gantryref1_Canon.f (k + 3) a x = some (cn a x) := by
  unfold gantryref1_Canon.f
  rw [rWidth_eq, rWord_eq, rSigned_eq]
  simp only [Option.bind_some]
  rcases kinds a with rfl | rfl | rfl | rfl | rfl | rfl | rfl | rfl | rfl | rfl | rfl | h
  · rw [show wd 1 = true by decide, if_pos rfl, show Wi 1 = 1 from rfl, show sg 1 = false by decide, show IntKind.u64.wrap (wrap64 (64 - 1)) = 63 by rw [IntKind.wrap_u64]; unfold wrap64; omega]
    simp only [Bool.false_eq_true, if_false, if_true]
    rw [if_pos (by decide)]
    simp only [shl_63, shr_u64_63, IntKind.wrap_u64, wrap64, Option.some.injEq]
    simp only [cn, Int.reduceEq, if_true, if_false, or_true, true_or, or_false, false_or]
    omega
  · rw [show wd 2 = true by decide, if_pos rfl, show Wi 2 = 8 from rfl, show sg 2 = true by decide, show IntKind.u64.wrap (wrap64 (64 - 8)) = 56 by rw [IntKind.wrap_u64]; unfold wrap64; omega]
    simp only [Bool.false_eq_true, if_false, if_true]
    rw [if_pos (by decide)]
    simp only [shl_56, shr_i64_56, IntKind.wrap_u64, wrap64, Option.some.injEq]
    simp only [cn, Int.reduceEq, if_true, if_false, or_true, true_or, or_false, false_or]
    omega
  · rw [show wd 3 = true by decide, if_pos rfl, show Wi 3 = 16 from rfl, show sg 3 = true by decide, show IntKind.u64.wrap (wrap64 (64 - 16)) = 48 by rw [IntKind.wrap_u64]; unfold wrap64; omega]
    simp only [Bool.false_eq_true, if_false, if_true]
    rw [if_pos (by decide)]
    simp only [shl_48, shr_i64_48, IntKind.wrap_u64, wrap64, Option.some.injEq]
    simp only [cn, Int.reduceEq, if_true, if_false, or_true, true_or, or_false, false_or]
    omega
  · rw [show wd 4 = true by decide, if_pos rfl, show Wi 4 = 32 from rfl, show sg 4 = true by decide, show IntKind.u64.wrap (wrap64 (64 - 32)) = 32 by rw [IntKind.wrap_u64]; unfold wrap64; omega]
    simp only [Bool.false_eq_true, if_false, if_true]
    rw [if_pos (by decide)]
    simp only [shl_32, shr_i64_32, IntKind.wrap_u64, wrap64, Option.some.injEq]
    simp only [cn, Int.reduceEq, if_true, if_false, or_true, true_or, or_false, false_or]
    omega
  · rw [show wd 5 = true by decide, if_pos rfl, show Wi 5 = 64 from rfl, show sg 5 = true by decide, show IntKind.u64.wrap (wrap64 (64 - 64)) = 0 by rw [IntKind.wrap_u64]; unfold wrap64; omega]
    simp only [Bool.false_eq_true, if_false, if_true]
    rw [if_pos (by decide)]
    simp only [shl_0, shr_i64_0, IntKind.wrap_u64, wrap64, Option.some.injEq]
    simp only [cn, Int.reduceEq, if_true, if_false, or_true, true_or, or_false, false_or]
    omega
  · rw [show wd 6 = true by decide, if_pos rfl, show Wi 6 = 8 from rfl, show sg 6 = false by decide, show IntKind.u64.wrap (wrap64 (64 - 8)) = 56 by rw [IntKind.wrap_u64]; unfold wrap64; omega]
    simp only [Bool.false_eq_true, if_false, if_true]
    rw [if_pos (by decide)]
    simp only [shl_56, shr_u64_56, IntKind.wrap_u64, wrap64, Option.some.injEq]
    simp only [cn, Int.reduceEq, if_true, if_false, or_true, true_or, or_false, false_or]
    omega
  · rw [show wd 7 = true by decide, if_pos rfl, show Wi 7 = 16 from rfl, show sg 7 = false by decide, show IntKind.u64.wrap (wrap64 (64 - 16)) = 48 by rw [IntKind.wrap_u64]; unfold wrap64; omega]
    simp only [Bool.false_eq_true, if_false, if_true]
    rw [if_pos (by decide)]
    simp only [shl_48, shr_u64_48, IntKind.wrap_u64, wrap64, Option.some.injEq]
    simp only [cn, Int.reduceEq, if_true, if_false, or_true, true_or, or_false, false_or]
    omega
  · rw [show wd 8 = true by decide, if_pos rfl, show Wi 8 = 32 from rfl, show sg 8 = false by decide, show IntKind.u64.wrap (wrap64 (64 - 32)) = 32 by rw [IntKind.wrap_u64]; unfold wrap64; omega]
    simp only [Bool.false_eq_true, if_false, if_true]
    rw [if_pos (by decide)]
    simp only [shl_32, shr_u64_32, IntKind.wrap_u64, wrap64, Option.some.injEq]
    simp only [cn, Int.reduceEq, if_true, if_false, or_true, true_or, or_false, false_or]
    omega
  · rw [show wd 9 = true by decide, if_pos rfl, show Wi 9 = 64 from rfl, show sg 9 = false by decide, show IntKind.u64.wrap (wrap64 (64 - 64)) = 0 by rw [IntKind.wrap_u64]; unfold wrap64; omega]
    simp only [Bool.false_eq_true, if_false, if_true]
    rw [if_pos (by decide)]
    simp only [shl_0, shr_u64_0, IntKind.wrap_u64, wrap64, Option.some.injEq]
    simp only [cn, Int.reduceEq, if_true, if_false, or_true, true_or, or_false, false_or]
    omega
  · rw [show wd 10 = true by decide, if_pos rfl, show Wi 10 = 64 from rfl, show sg 10 = false by decide, show IntKind.u64.wrap (wrap64 (64 - 64)) = 0 by rw [IntKind.wrap_u64]; unfold wrap64; omega]
    simp only [Bool.false_eq_true, if_false, if_true]
    rw [if_pos (by decide)]
    simp only [shl_0, shr_u64_0, IntKind.wrap_u64, wrap64, Option.some.injEq]
    simp only [cn, Int.reduceEq, if_true, if_false, or_true, true_or, or_false, false_or]
    omega
  · rw [show wd 11 = true by decide, if_pos rfl, show Wi 11 = 64 from rfl, show sg 11 = false by decide, show IntKind.u64.wrap (wrap64 (64 - 64)) = 0 by rw [IntKind.wrap_u64]; unfold wrap64; omega]
    simp only [Bool.false_eq_true, if_false, if_true]
    rw [if_pos (by decide)]
    simp only [shl_0, shr_u64_0, IntKind.wrap_u64, wrap64, Option.some.injEq]
    simp only [cn, Int.reduceEq, if_true, if_false, or_true, true_or, or_false, false_or]
    omega
  · have h0 : wd a = false := by unfold wd; simp; omega
    have h1 : cn a x = 0 := by unfold cn; rw [if_neg (by omega), if_neg (by omega), if_neg (by omega), if_neg (by omega), if_neg (by omega), if_neg (by omega), if_neg (by omega), if_neg (by omega)]
    rw [h0, h1]
    rfl
theorem rHasUn_eq (op a : Int) : gantryref1_HasUn.f op a = some (hasU op a) := by
  unfold gantryref1_HasUn.f hasU
  rw [rInt_eq]
  simp only [Option.bind_some]
  by_cases h1 : op = 1
  · subst h1
    rw [if_pos rfl]
    cases wh a <;> simp
  · rw [if_neg h1]
    by_cases h2 : op = 2
    · subst h2; simp
    · rw [if_neg h2]
      by_cases h3 : op = 3
      · subst h3; simp
      · simp [h1, h2, h3]
theorem rHasBin_eq (k : Nat) (op a : Int) : gantryref1_HasBin.f (k + 1) op a = some (has op a) := by
  unfold gantryref1_HasBin.f
  by_cases h1 : op < 1
  · rw [if_pos h1]
    simp [gantryref1_HasBin.j0, has, show ¬ 1 ≤ op by omega]
  rw [if_neg h1]
  by_cases h2 : op > 16
  · simp [gantryref1_HasBin.j0, has, h2, show ¬ op ≤ 16 by omega]
  have hb : decide (op > 16) = false := by simp; omega
  rw [hb]
  simp only [gantryref1_HasBin.j0, Bool.false_eq_true, if_false, rInt_eq, Option.bind_some]
  have e1 : decide (1 ≤ op) = true := by simp; omega
  have e2 : decide (op ≤ 16) = true := by simp; omega
  unfold has
  rw [e1, e2]
  cases hw : wh a with
  | true => simp
  | false =>
    simp only [Bool.false_eq_true, if_false, Bool.true_and, Bool.false_or]
    have : op = 1 ∨ op = 2 ∨ op = 3 ∨ op = 4 ∨ op = 5 ∨ op = 6 ∨ op = 7 ∨ op = 8 ∨ op = 9 ∨ op = 10 ∨ op = 11 ∨ op = 12 ∨ op = 13 ∨ op = 14 ∨ op = 15 ∨ op = 16 := by omega
    by_cases h10 : a = 10
    · subst h10
      rcases this with rfl | rfl | rfl | rfl | rfl | rfl | rfl | rfl | rfl | rfl | rfl | rfl | rfl | rfl | rfl | rfl <;> rfl
    · by_cases h1' : a = 1
      · subst h1'
        rcases this with rfl | rfl | rfl | rfl | rfl | rfl | rfl | rfl | rfl | rfl | rfl | rfl | rfl | rfl | rfl | rfl <;> rfl
      · by_cases h11 : a = 11
        · subst h11
          rcases this with rfl | rfl | rfl | rfl | rfl | rfl | rfl | rfl | rfl | rfl | rfl | rfl | rfl | rfl | rfl | rfl <;> rfl
        · rw [if_neg h10, if_neg h1', if_neg h11]
          simp [h10, h1', h11]
theorem rHasConv_eq (a b : Int) : gantryref1_HasConv.f a b = some (nu a && nu b) := by
  unfold gantryref1_HasConv.f nu
  rw [rInt_eq, rInt_eq]
  simp only [Option.bind_some]
  cases wh a with
  | true => cases wh b <;> simp
  | false =>
    by_cases h : a = 10
    · rw [if_neg (by decide), if_pos h]
      have : (a == 10) = true := by simp [h]
      rw [this]
      cases wh b <;> simp
    · rw [if_neg (by decide), if_neg h]
      have : (a == 10) = false := by simp [h]
      rw [this]
      simp
end Go.Proofs.Ytahepinbmcgbnaa.Wd
