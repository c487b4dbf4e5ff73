/- The plain law behind 'CiscEncodes'. No condition. -/
import Derived.Test.YtahepinbmcgbnaaPFx2
import Derived.Test.YtahepinbmcgbnaaOpF
set_option linter.unusedVariables false
set_option linter.unusedSimpArgs false
namespace Go.Proofs.Ytahepinbmcgbnaa.Pure
open Go.RowKit Go.Proofs.Ytahepinbmcgbnaa.PF Go.Proofs.YtahepinbmcgbnaaW.PrintWords Go.Proofs.Ytahepinbmcgbnaa

theorem up (i : Nat) (h : i < 9223372036854775807) : wrap64 ((i : Int) + 1) = ((i + 1 : Nat) : Int) := by unfold wrap64; omega
theorem eqb (l : List Int) (hm : l.length ≤ 9223372036854775807) : ∀ (n i k : Nat), l.length - i = n → n < k → i ≤ l.length → gantryref0_EqBytes.l0 k l l i = some true
  | n, i, 0, _, h, _ => absurd h (by omega)
  | 0, i, k + 1, h0, h, hi => by
    unfold gantryref0_EqBytes.l0
    rw [if_neg (by omega)]
  | n + 1, i, k + 1, h0, h, hi => by
    unfold gantryref0_EqBytes.l0
    rw [if_pos (by omega), if_pos (by omega), if_pos (by omega), if_pos rfl, up i (by omega)]
    exact eqb l hm n (i + 1) k (by omega) (by omega) (by omega)
theorem eqb_f (l : List Int) (k : Nat) (hm : l.length ≤ 9223372036854775807) (hk : l.length < k) : gantryref0_EqBytes.f k l l = some true := by
  unfold gantryref0_EqBytes.f
  rw [if_pos rfl]
  exact eqb l hm l.length 0 k (by omega) hk (by omega)
theorem byt (m : Nat) (hm : m < 140737488355326) : ∀ (n i k : Nat) (l : List Int), l.length = m → m - i = n → n < k → i ≤ m → gantrylaw0_Bytes.l0 k l i = some ()
  | n, i, 0, _, _, _, h, _ => absurd h (by omega)
  | 0, i, k + 1, l, hl, h0, h, hi => by
    unfold gantrylaw0_Bytes.l0
    rw [if_neg (by omega), if_pos (by simp; omega)]
  | n + 1, i, k + 1, l, hl, h0, h, hi => by
    unfold gantrylaw0_Bytes.l0
    rw [if_pos (by omega), if_pos (by omega), up i (by omega)]
    exact byt m hm n (i + 1) k _ (by simp [hl]) (by omega) (by omega) (by omega)
theorem wakes_f (k : Nat) (hk : 9 ≤ k) : gantrylaw4_wakes.f k = some true := by
  have e : Vm.encC 1 3 0 0 0 0 0 128 0 = ([1, 49, 128, 0, 0, 0], 0) := by decide +kernel
  unfold gantrylaw4_wakes.f cisc_Encode.f gantrylaw4_num.f
  rw [e, if_pos (by decide)]
  simp only [Option.bind_some, if_true]
  rw [eqb_f _ k (by decide) (by simp; omega)]
  rfl
theorem rd_mem (l : List S46) (i : Nat) (h : i < l.length) : rd_T46 l i ∈ l := by
  unfold rd_T46
  simp [List.getD_eq_getElem?_getD, h]
theorem may_op {o a b c k s z i m : Int} (h : Vm.mayF o a b c k s z i m = true) : Vm.isOp o = true := by
  cases ho : Vm.isOp o with
  | true => rfl
  | false => rw [Vm.may_no _ _ _ _ _ _ _ _ _ ho] at h; cases h
theorem enc_loop (l : List S46) (hl : wfT41 l) : ∀ (n i k : Nat), 100 - i = n → 2 * n + 30 ≤ k → i ≤ 100 → gantrylaw4_CiscEncodes.l0 k l i = some true
  | n, i, 0, _, h, _ => absurd h (by omega)
  | n, i, 1, _, h, _ => absurd h (by omega)
  | n, i, k + 2, hn, hk, hi => by
    have hm : maxLen = 9223372036854775807 := rfl
    have hll := hl.1
    unfold gantrylaw4_CiscEncodes.l0
    by_cases h : (i : Int) < (l.length : Int) ∧ i < 100
    · rw [if_pos h.1, decide_eq_true (show (i : Int) < 100 by omega)]
      unfold gantrylaw4_CiscEncodes.j1
      rw [if_pos rfl, if_pos (by omega), if_pos h.1]
      have hx := hl.2 _ (rd_mem l i (by omega))
      generalize rd_T46 l i = x at hx
      obtain ⟨_, _, _, _, _, _, _, h7, _⟩ := hx
      have h7 : -9223372036854775808 ≤ x.f7 ∧ x.f7 ≤ 9223372036854775807 := h7
      simp only [cisc_Encode.f, gantryref4_May.f, gantrylaw4_num.f, if_pos h7, Option.bind_some]
      rw [up i (by omega)]
      obtain ⟨m, rfl⟩ : ∃ m, n = m + 1 := ⟨n - 1, by omega⟩
      have ih := enc_loop l hl m (i + 1) k (by omega) (by omega) (by omega)
      cases hmay : Vm.mayF x.f0 x.f1 x.f2 x.f3 x.f4 x.f5 x.f6 x.f7 x.f8 with
      | false =>
        have e : Vm.encC x.f0 x.f1 x.f2 x.f3 x.f4 x.f5 x.f6 x.f7 x.f8 = ([], 40) := if_neg (by rw [hmay]; decide)
        rw [e]
        simpa using ih
      | true =>
        have e : Vm.encC x.f0 x.f1 x.f2 x.f3 x.f4 x.f5 x.f6 x.f7 x.f8 = (Vm.layF x.f0 x.f1 x.f2 x.f3 x.f4 x.f5 x.f6 x.f7, 0) := if_pos hmay
        rw [e]
        have h8 := Vm.lay_len x.f0 x.f1 x.f2 x.f3 x.f4 x.f5 x.f6 x.f7
        simp only [gantryref4_Encode.f, if_pos (may_op hmay), if_true, Option.bind_some]
        rw [eqb_f _ k (by omega) (by omega)]
        simp only [Option.bind_some, if_true]
        have hb : gantrylaw0_Bytes.f k (Vm.layF x.f0 x.f1 x.f2 x.f3 x.f4 x.f5 x.f6 x.f7) = some () := byt _ (by omega) _ 0 k _ rfl rfl (by omega) (by omega)
        rw [hb]
        exact ih
    · have hw := wakes_f k (by omega)
      have hj : gantrylaw4_CiscEncodes.j1 (k + 1) l i false = some true := by
        unfold gantrylaw4_CiscEncodes.j1
        rw [if_neg (by simp), hw]
        rfl
      by_cases h1 : (i : Int) < (l.length : Int)
      · rw [if_pos h1, decide_eq_false (show ¬ (i : Int) < 100 by omega)]
        exact hj
      · rw [if_neg h1]
        exact hj
theorem CiscEncodes (l : List S46) (hl : wfT41 l) : ∃ k, gantrylaw4_CiscEncodes.f k l = some true :=
  ⟨230, enc_loop l hl 100 0 230 rfl (by omega) (by omega)⟩
end Go.Proofs.Ytahepinbmcgbnaa.Pure
