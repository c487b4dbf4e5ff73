/- The law 'CiscDecodes': whatever the input, the call returns true, and the argument reads as it read before. No condition. -/
import Derived.Test.YtahepinbmcgbnaaRows
import Derived.Test.YtahepinbmcgbnaaPGx3
import Derived.Test.YtahepinbmcgbnaaOpG
import Derived.Test.YtahepinbmcgbnaaPureCiscDecodes
import Derived.WalkKit
import Derived.ProofKit
import Derived.OpenShut
import Derived.ShutString
import Derived.ChangeOld
import Derived.Below
import Derived.SizedLaws
namespace Go.Proofs.Ytahepinbmcgbnaa.ciscDecodes
open Go.ChangeShapes Go.WideShapes Go.ChangeAt Go.RowKit Go.Proofs.Ytahepinbmcgbnaa.PG Go.Proofs.YtahepinbmcgbnaaW.PrintWords
set_option linter.unusedVariables false
theorem own : ownKnob Try.prog.godebug = none := by kernel_rfl
theorem laidOut : laidOutB Try.prog = true := by kernel_rfl
set_option maxRecDepth 100000 in
theorem lifted (os : Os) (started : os.Started) (H : Type) (enc : TypeId × Value → H) :
  ReturnsInHanded {} Try.checked os 12 .any (Rows.ciscDecodesSpec.pre6 enc Try.prog Try.f12 Rows.ciscDecodesRow.domain false) (Rows.ciscDecodesSpec.post enc Try.prog Try.f12 false true false false) := by
 refine returnsInHanded_of_change_sized (C := Try.checked) own started (by kernel_rfl) Try.func12
  (ChangeSpec.witness6 (enc := enc) (C := Try.checked) false ⟨#[], #[.slice none 0 0], []⟩ 8 (by kernel_rfl) (by kernel_rfl) (by kernel_rfl) (by kernel_rfl)) ?_
 intro W base args ds gs before hval0 hW hcnd hsz0 _
 have hval : ∀ (j : Nat) t v, Try.f12.params[j]? = some t → args[j]? = some v → Value.okWide Try.prog W .any base t v := hval0
 have hW' := hW
 obtain ⟨p, q, hA0, hV, rfl, hfz, hnd⟩ := hW
 have hA : DataW.TrodAll enc Try.prog W 0 (fun _ => true) true Try.f12.params.toList args.toList ds p := hA0
 rw [Try.params12] at hA hval
 obtain ⟨v0, vs0, d0, ds0, p0, q0, hargs, rfl, rfl, h0, r0⟩ := trodAll_cons hA
 obtain ⟨rfl, rfl, rfl⟩ := trodAll_nil r0
 obtain rfl : args = #[v0] := by cases args; simp_all
 obtain ⟨rfl, rfl⟩ := trodVars_none hV
 have hv := (hval 0 52 v0 rfl rfl)
 obtain ⟨a0, len0, cap0, rfl⟩ := okWide_slice Try.underlying52 hv
 have k0 := h0
 have lt0 : ∀ x ∈ p0, x.block < W.heap.size := by obtain ⟨m, hm⟩ := k0; exact DataW.trod_lt m _ _ _ hm
 obtain ⟨l, ⟨A', c', hcs, hlc, hC⟩, hwf⟩ : ∃ l, (Kd.slice 42 (Kd.slice 5 (Kd.int .u8))).K W l [.slice a0 len0 cap0] ∧ wfT52 l := by
  obtain ⟨fuel, hf⟩ := h0
  exact op_T52 (by simpa [Value.cells] using hf)
 obtain ⟨rfl, rfl, rfl⟩ : a0 = A' ∧ len0 = l.length ∧ cap0 = c' := by simpa using hcs
 clear hA0 hval0 hsz0 hcs
 obtain ⟨k, hk⟩ := Pure.CiscDecodes l hwf
 refine (gantrylaw4_CiscDecodes.calls k _ _ l true W hC hlc hk).mono fun e W' ⟨he, bel⟩ => ?_
 subst he
 exact ⟨_, rfl, _, _, _, [], _, [], hW', trodAll_mk1 (shut_bool Try.underlying4 _), (trodAll_cons_mk (Below.trod laidOut (by kernel_rfl) (of_decide_eq_true (by kernel_rfl)) k0 bel lt0) trodAll_mk0), rfl, bel.frame _, fun h => by cases h⟩
theorem over : Rows.ciscDecodesRow.holds Try.pinned (OpenSpec.ofChange Rows.ciscDecodesSpec) :=
 OpenClaim.holds_of_wide 12 Try.f12 rfl rfl rfl rfl rfl rfl rfl ⟨rfl, rfl, rfl, rfl, rfl⟩ rfl rfl rfl rfl rfl (by kernel_rfl) Try.func12 (by kernel_rfl)
  (of_decide_eq_true (by kernel_rfl)) (by unfold Func.isWrapper; first | (rw [if_pos (by decide +kernel)]; kernel_rfl) | (rw [if_neg (by decide +kernel)]; exact ⟨rfl, rfl⟩))
  (fun os started H enc _ => lifted os started H enc)
theorem proved : Rows.CiscDecodesSaid := over
#print axioms proved
end Go.Proofs.Ytahepinbmcgbnaa.ciscDecodes
namespace Go.Proofs.Ytahepinbmcgbnaa
theorem ciscDecodes_holds : Rows.CiscDecodesSaid := ciscDecodes.proved
end Go.Proofs.Ytahepinbmcgbnaa
