/- The plain law behind 'CiscDecodes'. No condition. -/
import Derived.Test.YtahepinbmcgbnaaPGx3
import Derived.Test.YtahepinbmcgbnaaOpG
set_option linter.unusedVariables false
set_option linter.unusedSimpArgs false
namespace Go.Proofs.Ytahepinbmcgbnaa.Pure
open Go.RowKit Go.Proofs.Ytahepinbmcgbnaa.PG Go.Proofs.YtahepinbmcgbnaaW.PrintWords Go.Proofs.Ytahepinbmcgbnaa

theorem up (i : Nat) (h : i < 9223372036854775807) : wrap64 ((i : Int) + 1) = ((i + 1 : Nat) : Int) := by unfold wrap64; omega
theorem eqb (l : List Int) (hm : l.length ≤ 9223372036854775807) : ∀ (n i k : Nat), l.length - i = n → n < k → i ≤ l.length → gantryref0_EqBytes.l0 k l l i = some true
 | n, i, 0, _, h, _ => absurd h (by omega)
 | 0, i, k + 1, h0, h, hi => by
  unfold gantryref0_EqBytes.l0
  rw [if_neg (by omega)]
 | n + 1, i, k + 1, h0, h, hi => by
  unfold gantryref0_EqBytes.l0
  rw [if_pos (by omega), if_pos (by omega), if_pos (by omega), if_pos rfl, up i (by omega)]
  exact eqb l hm n (i + 1) k (by omega) (by omega) (by omega)
theorem eqb_f (l : List Int) (k : Nat) (hm : l.length ≤ 9223372036854775807) (hk : l.length < k) : gantryref0_EqBytes.f k l l = some true := by
 unfold gantryref0_EqBytes.f
 rw [if_pos rfl]
 exact eqb l hm l.length 0 k (by omega) hk (by omega)
theorem wakes_f (k : Nat) (hk : 9 ≤ k) : gantrylaw4_wakes.f k = some true := by
 have e : Vm.encC 1 3 0 0 0 0 0 128 0 = ([1, 49, 128, 0, 0, 0], 0) := by decide +kernel
 unfold gantrylaw4_wakes.f cisc_Encode.f gantrylaw4_num.f
 rw [e, if_pos (by decide)]
 simp only [Option.bind_some, if_true]
 rw [eqb_f _ k (by decide) (by simp; omega)]
 rfl
theorem dec_loop (l : List (List Int)) (hl : wfT52 l) : ∀ (n i k : Nat), 100 - i = n → 2 * n + 4100 ≤ k → i ≤ 100 → gantrylaw4_CiscDecodes.l0 k l i = some true
 | n, i, 0, _, h, _ => absurd h (by omega)
 | n, i, 1, _, h, _ => absurd h (by omega)
 | n, i, k + 2, hn, hk, hi => by
  have hm : maxLen = 9223372036854775807 := rfl
  have hl1 := hl.1
  unfold gantrylaw4_CiscDecodes.l0
  by_cases h : (i : Int) < (l.length : Int) ∧ i < 100
  ·rw [if_pos h.1, decide_eq_true (show (i : Int) < 100 by omega)]
   unfold gantrylaw4_CiscDecodes.j1
   rw [if_pos rfl, if_pos (by omega), if_pos h.1]
   have hx : wfT42 (rd_L1 l i) := by
    refine hl.2 _ ?_
    unfold rd_L1
    rw [show ((i : Int)).toNat = i from rfl, List.getD_eq_getElem?_getD, List.getElem?_eq_getElem (show i < l.length by omega)]
    exact List.getElem_mem _
   generalize rd_L1 l i = x at hx ⊢
   have hb : Vm.Ri.byts x = true := by
    unfold Vm.Ri.byts
    refine List.all_eq_true.2 fun y hy => ?_
    have h2 := hx.2 y hy
    have h3 : (0 : Int) ≤ y ∧ y ≤ 255 := h2
    simp [h3]
   by_cases h4 : (x.length : Int) > 4000
   ·rw [if_pos h4]
   ·rw [if_neg h4]
    have hc : gantryref0_CopyBytes.f x = some x := by
     unfold gantryref0_CopyBytes.f
     rw [if_pos (by simp; omega)]
     rfl
    have e2 : gantryref4_Decode.f x = cisc_Decode.f x := rfl
    have e1 : ∃ r, cisc_Decode.f x = some r := by unfold cisc_Decode.f; rw [if_pos hb]; exact ⟨_, rfl⟩
    obtain ⟨r, e1⟩ := e1
    rw [hc]
    simp only [Option.bind_some]
    rw [e2, e1]
    simp only [Option.bind_some, gantrylaw4_num.f]
    rw [eqb_f x k (by omega) (by omega), up i (by omega)]
    obtain ⟨m, rfl⟩ : ∃ m, n = m + 1 := ⟨n - 1, by omega⟩
    have ih := dec_loop l hl m (i + 1) k (by omega) (by omega) (by omega)
    simpa using ih
  ·have hw := wakes_f k (by omega)
   have hj : gantrylaw4_CiscDecodes.j1 (k + 1) l i false = some true := by
    unfold gantrylaw4_CiscDecodes.j1
    rw [if_neg (by simp), hw]
    rfl
   by_cases h1 : (i : Int) < (l.length : Int)
   ·rw [if_pos h1, decide_eq_false (show ¬ (i : Int) < 100 by omega)]
    exact hj
   ·rw [if_neg h1]
    exact hj
theorem CiscDecodes (l : List (List Int)) (hl : wfT52 l) : ∃ k, gantrylaw4_CiscDecodes.f k l = some true :=
 ⟨4300, dec_loop l hl 100 0 4300 rfl (by omega) (by omega)⟩
end Go.Proofs.Ytahepinbmcgbnaa.Pure
