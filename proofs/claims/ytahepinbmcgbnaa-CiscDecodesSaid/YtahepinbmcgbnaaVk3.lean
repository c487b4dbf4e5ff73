/- gantryref4's Decode, in the printer's words. No condition. -/
import Derived.Test.YtahepinbmcgbnaaVk1
import Derived.Test.YtahepinbmcgbnaaVq8
import Derived.Test.YtahepinbmcgbnaaVr13
set_option linter.unusedVariables false
set_option linter.unusedSimpArgs false
namespace Go.Proofs.Ytahepinbmcgbnaa.Vm
open Go.RowKit Go.Proofs.Ytahepinbmcgbnaa.PV Go.Proofs.Ytahepinbmcgbnaa.Wd Go.Proofs.YtahepinbmcgbnaaW.PrintWords
/-- gantryref4.Decode of nothing. -/
theorem rdec_nil (A0 : Option Addr) (c0 : Nat) (w : World) : Calls Try.prog 48 #[.slice A0 0 c0] w fun e w' => e = .returned (decV zI 0 41) ∧ Below w.heap.size w w' := by
 have hr : Kd.C (Kd.int .u8) w A0 ([] : List Int).length [] := ⟨rfl, by simp, fun q => by simp at q⟩
 obtain ⟨B, mt, ar⟩ := mt_ro hr
 refine (rdecode_nil (fun q h => q = .ret (.t [.g zI, .s (.a (.int .i64 0)), .s (.a (.int .i64 41))]) ∧ h = [.ro []]) ⟨rfl, rfl⟩ B w [.slice A0 0 c0] mt ⟨ar c0 (Nat.zero_le _), trivial⟩).mono ?_
 rintro e' w' ⟨q, h', B', ⟨rfl, rfl⟩, eo, m', st⟩
 cases e' <;> first | exact eo.elim | skip
 exact ⟨by rw [dec_val eo]; rfl, below_ro st⟩
theorem rdec_calls (A0 : Option Addr) (c0 : Nat) (l : List Int) (w : World) (hr : Kd.C (Kd.int .u8) w A0 l.length l) (hc : l.length ≤ c0) (hb : Ri.byts l = true) : Calls Try.prog 48 #[.slice A0 l.length c0] w
  fun e w' => e = .returned (decV (decR l).1 ((decR l).2.1 : Int) (decR l).2.2) ∧ Below w.heap.size w w' := by
 rcases Nat.eq_zero_or_pos l.length with h0 | h0
 ·obtain rfl : l = [] := List.length_eq_zero_iff.1 h0
  exact rdec_nil A0 c0 w
 ·obtain ⟨B, mt, ar⟩ := mt_ro hr
  have hm : BY l := byts_BY hb (by have := hr.2.1; unfold maxLen; omega)
  obtain ⟨o, a, b, c, k, s, z, i, n, e, hd⟩ := decR_iC l
  have he := dec_eq hm h0
  refine (rdecode_wc l (fun q h => q = .ret (.t [.g (decR l).1, .s (.a (.int .i64 (decR l).2.1)), .s (.a (.int .i64 (decR l).2.2))]) ∧ h = [.ro (byC l)]) hm h0 (fun v hv => ?_) B w [.slice A0 l.length c0] mt ⟨ar c0 hc, trivial⟩).mono ?_
  ·rw [← hv, he]; exact ⟨rfl, rfl⟩
  rw [hd]
  rintro e' w' ⟨q, h', B', ⟨rfl, rfl⟩, eo, m', st⟩
  cases e' <;> first | exact eo.elim | skip
  exact ⟨by rw [dec_val eo], below_ro st⟩
end Go.Proofs.Ytahepinbmcgbnaa.Vm
