/- The plain law behind 'RiscEncodes'. No condition. -/
import Derived.Test.YtahepinbmcgbnaaPEx2
import Derived.Test.YtahepinbmcgbnaaOpE
set_option linter.unusedVariables false
set_option linter.unusedSimpArgs false
namespace Go.Proofs.Ytahepinbmcgbnaa.Pure
open Go.RowKit Go.Proofs.Ytahepinbmcgbnaa.PE Go.Proofs.YtahepinbmcgbnaaW.PrintWords Go.Proofs.Ytahepinbmcgbnaa

theorem up (i : Nat) (h : i < 9223372036854775807) : wrap64 ((i : Int) + 1) = ((i + 1 : Nat) : Int) := by unfold wrap64; omega
theorem eqb (l : List Int) (hm : l.length ≤ 9223372036854775807) : ∀ (n i k : Nat), l.length - i = n → n < k → i ≤ l.length → gantryref0_EqBytes.l0 k l l i = some true
  | n, i, 0, _, h, _ => absurd h (by omega)
  | 0, i, k + 1, h0, h, hi => by
    unfold gantryref0_EqBytes.l0
    rw [if_neg (by omega)]
  | n + 1, i, k + 1, h0, h, hi => by
    unfold gantryref0_EqBytes.l0
    rw [if_pos (by omega), if_pos (by omega), if_pos (by omega), if_pos rfl, up i (by omega)]
    exact eqb l hm n (i + 1) k (by omega) (by omega) (by omega)
theorem eqb_f (l : List Int) (k : Nat) (hm : l.length ≤ 9223372036854775807) (hk : l.length < k) : gantryref0_EqBytes.f k l l = some true := by
  unfold gantryref0_EqBytes.f
  rw [if_pos rfl]
  exact eqb l hm l.length 0 k (by omega) hk (by omega)
theorem byt (m : Nat) (hm : m < 140737488355326) : ∀ (n i k : Nat) (l : List Int), l.length = m → m - i = n → n < k → i ≤ m → gantrylaw0_Bytes.l0 k l i = some ()
  | n, i, 0, _, _, _, h, _ => absurd h (by omega)
  | 0, i, k + 1, l, hl, h0, h, hi => by
    unfold gantrylaw0_Bytes.l0
    rw [if_neg (by omega), if_pos (by simp; omega)]
  | n + 1, i, k + 1, l, hl, h0, h, hi => by
    unfold gantrylaw0_Bytes.l0
    rw [if_pos (by omega), if_pos (by omega), up i (by omega)]
    exact byt m hm n (i + 1) k _ (by simp [hl]) (by omega) (by omega) (by omega)
theorem wakes_f (k : Nat) (hk : 9 ≤ k) : gantrylaw3_wakes.f k = some true := by
  have e : Ri.encF 9 1 15 0 0 0 0 (-8) 0 = ([9, 1, 15, 0, 248, 255, 255, 255], 0) := by decide +kernel
  unfold gantrylaw3_wakes.f risc_Encode.f gantrylaw3_num.f
  rw [e]
  simp only [Option.bind_some, if_true]
  rw [eqb_f _ k (by decide) (by simp; omega)]
  rfl
theorem enc_loop (l : List S46) (hl : l.length ≤ maxLen) : ∀ (n i k : Nat), 100 - i = n → 2 * n + 20 ≤ k → i ≤ 100 → gantrylaw3_RiscEncodes.l0 k l i = some true
  | n, i, 0, _, h, _ => absurd h (by omega)
  | n, i, 1, _, h, _ => absurd h (by omega)
  | n, i, k + 2, hn, hk, hi => by
    have hm : maxLen = 9223372036854775807 := rfl
    unfold gantrylaw3_RiscEncodes.l0
    by_cases h : (i : Int) < (l.length : Int) ∧ i < 100
    · rw [if_pos h.1, decide_eq_true (show (i : Int) < 100 by omega)]
      unfold gantrylaw3_RiscEncodes.j1
      rw [if_pos rfl, if_pos (by omega), if_pos h.1]
      generalize rd_T46 l i = x
      simp only [risc_Encode.f, gantryref3_May.f, gantryref3_Encode.f, gantrylaw3_num.f, Option.bind_some, Ri.enc_renc]
      rw [up i (by omega)]
      obtain ⟨m, rfl⟩ : ∃ m, n = m + 1 := ⟨n - 1, by omega⟩
      have ih := enc_loop l hl m (i + 1) k (by omega) (by omega) (by omega)
      cases Ri.rmayF x.f0 x.f1 x.f2 x.f3 x.f4 x.f5 x.f6 x.f7 x.f8 with
      | false => simpa using ih
      | true =>
        simp only [if_true]
        have h8 : (Ri.rencF x.f0 x.f1 x.f2 x.f3 x.f4 x.f5 x.f6 x.f7 x.f8).length = 8 := by simp [Ri.rencF, Ri.reight]
        rw [eqb_f _ k (by omega) (by omega)]
        simp only [Option.bind_some, if_true]
        have hb : gantrylaw0_Bytes.f k (Ri.rencF x.f0 x.f1 x.f2 x.f3 x.f4 x.f5 x.f6 x.f7 x.f8) = some () := byt 8 (by omega) 8 0 k _ h8 (by omega) (by omega) (by omega)
        rw [hb]
        exact ih
    · have hw := wakes_f k (by omega)
      have hj : gantrylaw3_RiscEncodes.j1 (k + 1) l i false = some true := by
        unfold gantrylaw3_RiscEncodes.j1
        rw [if_neg (by simp), hw]
        rfl
      by_cases h1 : (i : Int) < (l.length : Int)
      · rw [if_pos h1, decide_eq_false (show ¬ (i : Int) < 100 by omega)]
        exact hj
      · rw [if_neg h1]
        exact hj
theorem RiscEncodes (l : List S46) (hl : wfT41 l) : ∃ k, gantrylaw3_RiscEncodes.f k l = some true :=
  ⟨220, enc_loop l hl.1 100 0 220 rfl (by omega) (by omega)⟩
end Go.Proofs.Ytahepinbmcgbnaa.Pure
