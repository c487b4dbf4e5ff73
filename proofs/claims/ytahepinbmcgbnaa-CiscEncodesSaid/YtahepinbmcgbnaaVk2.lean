/- gantryref4's May and Encode, in the printer's words. No condition. -/
import Derived.Test.YtahepinbmcgbnaaVk1
import Derived.Test.YtahepinbmcgbnaaVr7
import Derived.Test.YtahepinbmcgbnaaVr9
set_option linter.unusedVariables false
set_option linter.unusedSimpArgs false
namespace Go.Proofs.Ytahepinbmcgbnaa.Vm
open Go.RowKit Go.Proofs.Ytahepinbmcgbnaa.PZ Go.Proofs.Ytahepinbmcgbnaa.Wd Go.Proofs.YtahepinbmcgbnaaW.PrintWords
theorem renc_calls (o a b c k s z i m : Int) (ho : isOp o = true) (w : World) : Calls Try.prog 45 #[.agg #[.int .i64 o, .int .i64 a, .int .i64 b, .int .i64 c, .int .i64 k, .int .i64 s, .int .i64 z, .int .i64 i, .int .i64 m]] w
    fun e w' => ∃ v0_ : Value, e = .returned v0_ ∧ Kd.R (Kd.int .u8) 5 w' w.heap.size (fun _ => True) v0_ (layF o a b c k s z i) ∧ Below w.heap.size w w' := by
  have ar : AR noB [.g (iC o a b c k s z i m)] [.agg #[.int .i64 o, .int .i64 a, .int .i64 b, .int .i64 c, .int .i64 k, .int .i64 s, .int .i64 z, .int .i64 i, .int .i64 m]] := ⟨⟨_, rfl, rfl, rfl, rfl, rfl, rfl, rfl, rfl, rfl, rfl, trivial⟩, trivial⟩
  refine (renc_wc o a b c k s z i m ho (fun q h => q = .ret (.s (.so 0 (layF o a b c k s z i).length 1 5)) ∧ h = [.rw (byC (layF o a b c k s z i))]) ⟨rfl, rfl⟩ noB w _ (mt_no w) ar).mono ?_
  rintro e' w' ⟨q, h', B', ⟨rfl, rfl⟩, eo, m', st⟩
  cases e' <;> first | exact eo.elim | skip
  exact ⟨_, rfl, row_of m' st eo, below_no st⟩
theorem may_calls (o a b c k s z i m : Int) (w : World) : Calls Try.prog 43 #[.agg #[.int .i64 o, .int .i64 a, .int .i64 b, .int .i64 c, .int .i64 k, .int .i64 s, .int .i64 z, .int .i64 i, .int .i64 m]] w
    fun e w' => e = .returned (.bool (mayF o a b c k s z i m)) ∧ Below w.heap.size w w' := by
  have ar : AR noB [.g (iC o a b c k s z i m)] [.agg #[.int .i64 o, .int .i64 a, .int .i64 b, .int .i64 c, .int .i64 k, .int .i64 s, .int .i64 z, .int .i64 i, .int .i64 m]] := ⟨⟨_, rfl, rfl, rfl, rfl, rfl, rfl, rfl, rfl, rfl, rfl, trivial⟩, trivial⟩
  refine (may_wc o a b c k s z i m [] (fun q h => q = .ret (.s (.a (.bool (mayF o a b c k s z i m)))) ∧ h = []) ⟨rfl, rfl⟩ noB w _ (mt_no w) ar).mono ?_
  rintro e' w' ⟨q, h', B', ⟨rfl, rfl⟩, eo, m', st⟩
  cases e' <;> first | exact eo.elim | skip
  have eo : _ = Value.bool (mayF o a b c k s z i m) := eo
  exact ⟨by rw [eo], below_no st⟩
end Go.Proofs.Ytahepinbmcgbnaa.Vm
