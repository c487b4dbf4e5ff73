/- Contract of package gantryref3's Encode. No condition. -/
import Derived.Test.YtahepinbmcgbnaaRt
set_option linter.unusedVariables false
set_option linter.unusedSimpArgs false
namespace Go.Proofs.Ytahepinbmcgbnaa.Ri
open Go.RowKit Go.Proofs.Ytahepinbmcgbnaa.PA Go.Proofs.YtahepinbmcgbnaaW.PrintWords Go.Proofs.Ytahepinbmcgbnaa.Wd
def reight (o a b t n : Int) : List Int := [o % 256, a % 256, b % 256, t % 256, n % 256, n % 4294967296 / 256 % 256, n % 4294967296 / 65536 % 256, n % 4294967296 / 16777216]
/-- Encode: of an instruction. -/
def rencF (o a b c k s z i l : Int) : List Int :=
  reight o a b (if o = 11 ∨ o = 13 then k else c) (if o = 4 ∨ o = 7 ∨ o = 8 then wrap64 (k + wrap64 (256 * s)) else i)
set_option maxHeartbeats 8000000 in
set_option maxRecDepth 100000 in
theorem renc_calls (o a b c k s z i l : Int) (w : World) : Calls Try.prog 36 #[.agg #[.int .i64 o, .int .i64 a, .int .i64 b, .int .i64 c, .int .i64 k, .int .i64 s, .int .i64 z, .int .i64 i, .int .i64 l]] w fun e w' => ∃ v0_ : Value, e = .returned v0_ ∧ Kd.R (Kd.int .u8) 5 w' w.heap.size (fun _ => True) v0_ (rencF o a b c k s z i l) ∧ Below w.heap.size w w' := by
  have hu46 := Try.underlying46
  unfold rencF
  by_cases hn : o = 4 ∨ o = 7 ∨ o = 8
  · rcases hn with rfl | rfl | rfl
    all_goals
      simp only [if_true, Int.reduceEq, if_false, or_true, true_or, or_false, false_or]
      go_enter Try.func36, Try.ntmps36
      go_wp2
      go_ret
      refine ⟨_, rfl, ?_, below_alloc (below_alloc (Below.refl _ _) _) _⟩
      refine R_bytes' ?_ ?_ rfl (by simp [reight])
      · simp
      · simp [reight]
  by_cases hm : o = 11 ∨ o = 13
  · rcases hm with rfl | rfl
    all_goals
      simp only [if_true, Int.reduceEq, if_false, or_true, true_or, or_false, false_or]
      go_enter Try.func36, Try.ntmps36
      go_wp2
      go_ret
      refine ⟨_, rfl, ?_, below_alloc (below_alloc (Below.refl _ _) _) _⟩
      refine R_bytes' ?_ ?_ rfl (by simp [reight])
      · simp
      · simp [reight]
  · have b4 : (o == 4) = false := beq_eq_false_iff_ne.mpr (by omega)
    have b7 : (o == 7) = false := beq_eq_false_iff_ne.mpr (by omega)
    have b8 : (o == 8) = false := beq_eq_false_iff_ne.mpr (by omega)
    have b11 : (o == 11) = false := beq_eq_false_iff_ne.mpr (by omega)
    have b13 : (o == 13) = false := beq_eq_false_iff_ne.mpr (by omega)
    rw [if_neg hn, if_neg hm]
    clear hn hm
    go_enter Try.func36, Try.ntmps36
    go_wp2
    go_ret
    refine ⟨_, rfl, ?_, below_alloc (below_alloc (Below.refl _ _) _) _⟩
    refine R_bytes' ?_ ?_ rfl (by simp [reight])
    · simp
    · simp [reight]
end Go.Proofs.Ytahepinbmcgbnaa.Ri
