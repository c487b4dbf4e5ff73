/- gantryref4's reading beside cisc's. Printed by wip/tools/genVp3.py. No condition. -/
import Derived.Test.YtahepinbmcgbnaaVpX
import Derived.Test.YtahepinbmcgbnaaVr11
set_option linter.unusedVariables false
set_option linter.unusedSimpArgs false
namespace Go.Proofs.Ytahepinbmcgbnaa.Vm
open Go.RowKit Go.Proofs.Ytahepinbmcgbnaa.PV Go.Proofs.Ytahepinbmcgbnaa.Wd Go.Proofs.YtahepinbmcgbnaaW.PrintWords
theorem hiR_val {l : List Int} (h : ∀ (k : Nat) (q : k < l.length), 0 ≤ l[k] ∧ l[k] ≤ 255) (p n : Nat) (hn : n ≤ 8) : ∀ j, j ≤ n → hiR l p n j = val l (p + (n - j)) j
 | 0, _ => rfl
 | j + 1, hj => by
  have ih := hiR_val h p n hn j (by omega)
  have e : p + (n - j) = p + (n - (j + 1)) + 1 := by omega
  obtain ⟨a, b⟩ := val_rng h (p + (n - (j + 1)) + 1) j
  obtain ⟨a2, b2⟩ := val_rng h (p + (n - (j + 1))) (j + 1)
  have hp := pow_le8 j (by omega)
  obtain ⟨c, d⟩ := getD_rng h (p + (n - 1 - j))
  have e2 : p + (n - 1 - j) = p + (n - (j + 1)) := by omega
  unfold hiR
  rw [ih, e]
  rw [val_front] at a2 b2 ⊢
  rw [e2] at c d ⊢
  have v0 : val l (p + (n - (j + 1)) + 1) j * 2 ^ 8 = 256 * val l (p + (n - (j + 1)) + 1) j := by rw [Int.mul_comm]; rfl
  rw [u64w (_ * 2 ^ 8), u64w (l.getD _ 0), Int.emod_eq_of_lt (by omega) (by omega), Int.emod_eq_of_lt (by omega) (by omega)]
  have k := (bv_hl (val l (p + (n - (j + 1)) + 1) j) (l.getD (p + (n - (j + 1))) 0) 8 a c (by omega) (by omega)).2
  rw [k, u64w, Int.emod_eq_of_lt (by omega) (by omega)]
  omega
theorem hi_le {l : List Int} (h : ∀ (k : Nat) (q : k < l.length), 0 ≤ l[k] ∧ l[k] ≤ 255) (p n : Nat) (hn : n ≤ 8) : hiR l p n n = leR l p n := by
 rw [hiR_val h p n hn n (Nat.le_refl _), leR_val h p n hn, Nat.sub_self, Nat.add_zero]
theorem unsc (x : Int) (h0 : 0 ≤ x) (h3 : x ≤ 3) : unscale x = 2 ^ x.toNat := by
 rcases (show x = 0 ∨ x = 1 ∨ x = 2 ∨ x = 3 by omega) with rfl | rfl | rfl | rfl <;> rfl
theorem numR_eq {l : List Int} (h : BY l) (p n : Nat) (hn : n ≤ 8) : numR l p n = numV l p n := by unfold numR numV; rw [hi_le h.2 p n hn]
theorem numR4 {l : List Int} (h : BY l) (p : Nat) : numR l p 4 = num4 l p := numR_eq h p 4 (by omega)
/-- The reader's answer beside gantryref4's. -/
def relD (d : DR) (r : RD) : Prop := match d with
 | .short => r = .short
 | .form => r = .bad
 | .ok n bad f => ∃ f', r = .ok n f' ∧ (bad = false → f' = f)
theorem relD_ok {n : Nat} {bad : Bool} {f f' : List SV} (h : bad = false → f' = f) : relD (.ok n bad f) (.ok n f') := ⟨f', rfl, h⟩
theorem rd_1 {l : List Int} (hm : BY l) : relD (instO l 1) (rdD1 l) := by
 unfold rdD1
 rw [io_1]
 by_cases h0 : l.length < 2
 ·rw [if_pos h0, if_pos h0]; exact rfl
 rw [if_neg h0, if_neg h0]
 by_cases h1 : 2 < (l.getD 1 0 % 16)
 ·rw [if_pos h1, if_pos h1]; exact rfl
 rw [if_neg h1, if_neg h1]
 by_cases h2 : l.length < 2 + bytesF (l.getD 1 0 % 16)
 ·rw [if_pos h2, if_pos h2]; exact rfl
 rw [if_neg h2, if_neg h2]
 refine relD_ok fun _ => ?_
 rw [numR_eq hm _ _ (bytesF_le _)]
theorem rd_3 {l : List Int} (hm : BY l) : relD (instO l 3) (rdD3 l) := by
 unfold rdD3
 rw [io_3]
 by_cases h0 : l.length < 2
 ·rw [if_pos h0, if_pos h0]; exact rfl
 rw [if_neg h0, if_neg h0]
 exact relD_ok fun _ => rfl
theorem rd_4 {l : List Int} (hm : BY l) : relD (instO l 4) (rdD4 l) := by
 unfold rdD4
 rw [io_4]
 by_cases h0 : l.length < 4
 ·rw [if_pos h0, if_pos h0]; exact rfl
 rw [if_neg h0, if_neg h0]
 exact relD_ok fun _ => rfl
theorem rd_5 {l : List Int} (hm : BY l) : relD (instO l 5) (rdD5 l) := by
 unfold rdD5
 rw [io_5]
 by_cases h0 : l.length < 2
 ·rw [if_pos h0, if_pos h0]; exact rfl
 rw [if_neg h0, if_neg h0]
 by_cases h1 : 1 < (l.getD 1 0 % 16)
 ·rw [if_pos h1, if_pos h1]; exact rfl
 rw [if_neg h1, if_neg h1]
 by_cases h2 : l.length < 4 + bytesF (l.getD 1 0 % 16)
 ·rw [if_pos h2, if_pos h2]; exact rfl
 rw [if_neg h2, if_neg h2]
 refine relD_ok fun _ => ?_
 rw [numR_eq hm _ _ (bytesF_le _)]
theorem rd_6 {l : List Int} (hm : BY l) : relD (instO l 6) (rdD6 l) := by
 unfold rdD6
 rw [io_6]
 by_cases h0 : l.length < 8
 ·rw [if_pos h0, if_pos h0]; exact rfl
 rw [if_neg h0, if_neg h0]
 rw [numR4 hm]
 exact relD_ok fun _ => rfl
theorem rd_7 {l : List Int} (hm : BY l) : relD (instO l 7) (rdD7 l) := by
 unfold rdD7
 rw [io_7]
 by_cases h0 : l.length < 4
 ·rw [if_pos h0, if_pos h0]; exact rfl
 rw [if_neg h0, if_neg h0]
 exact relD_ok fun _ => rfl
theorem rd_8 {l : List Int} (hm : BY l) : relD (instO l 8) (rdD8 l) := by
 unfold rdD8
 rw [io_8]
 by_cases h0 : l.length < 4
 ·rw [if_pos h0, if_pos h0]; exact rfl
 rw [if_neg h0, if_neg h0]
 exact relD_ok fun _ => rfl
theorem rd_10 {l : List Int} (hm : BY l) : relD (instO l 10) (rdD10 l) := by
 unfold rdD10
 rw [io_10]
 by_cases h0 : l.length < 7
 ·rw [if_pos h0, if_pos h0]; exact rfl
 rw [if_neg h0, if_neg h0]
 rw [numR4 hm]
 by_cases h1 : l.getD 2 0 = 15
 ·rw [if_pos h1]
  exact relD_ok fun _ => by rw [h1]; rfl
 ·rw [if_neg h1]
  refine relD_ok fun hb => ?_
  have h3 : l.getD 2 0 % 16 ≤ 3 := by
   cases hd : decide (l.getD 2 0 % 16 ≤ 3) with
   | true => exact of_decide_eq_true hd
   | false => rw [hd] at hb; simp at hb
  have h4 := (getD_rng hm.2 2)
  rw [unsc _ (by omega) h3]
theorem rd_11 {l : List Int} (hm : BY l) : relD (instO l 11) (rdD11 l) := by
 unfold rdD11
 rw [io_11]
 by_cases h0 : l.length < 7
 ·rw [if_pos h0, if_pos h0]; exact rfl
 rw [if_neg h0, if_neg h0]
 rw [numR4 hm]
 exact relD_ok fun _ => rfl
theorem rd_12 {l : List Int} (hm : BY l) : relD (instO l 12) (rdD12 l) := by
 unfold rdD12
 rw [io_12]
 by_cases h0 : l.length < 8
 ·rw [if_pos h0, if_pos h0]; exact rfl
 rw [if_neg h0, if_neg h0]
 rw [numR4 hm]
 by_cases h1 : l.getD 2 0 = 15
 ·rw [if_pos h1]
  exact relD_ok fun _ => by rw [h1]; rfl
 ·rw [if_neg h1]
  refine relD_ok fun hb => ?_
  have h3 : l.getD 2 0 % 16 ≤ 3 := by
   cases hd : decide (l.getD 2 0 % 16 ≤ 3) with
   | true => exact of_decide_eq_true hd
   | false => rw [hd] at hb; simp at hb
  have h4 := (getD_rng hm.2 2)
  rw [unsc _ (by omega) h3]
theorem rd_13 {l : List Int} (hm : BY l) : relD (instO l 13) (rdD13 l) := by
 unfold rdD13
 rw [io_13]
 by_cases h0 : l.length < 7
 ·rw [if_pos h0, if_pos h0]; exact rfl
 rw [if_neg h0, if_neg h0]
 rw [numR4 hm]
 exact relD_ok fun _ => rfl
theorem rd_14 {l : List Int} (hm : BY l) : relD (instO l 14) (rdD14 l) := by
 unfold rdD14
 rw [io_14]
 by_cases h0 : l.length < 8
 ·rw [if_pos h0, if_pos h0]; exact rfl
 rw [if_neg h0, if_neg h0]
 rw [numR4 hm]
 by_cases h1 : l.getD 2 0 = 15
 ·rw [if_pos h1]
  exact relD_ok fun _ => by rw [h1]; rfl
 ·rw [if_neg h1]
  refine relD_ok fun hb => ?_
  have h3 : l.getD 2 0 % 16 ≤ 3 := by
   cases hd : decide (l.getD 2 0 % 16 ≤ 3) with
   | true => exact of_decide_eq_true hd
   | false => rw [hd] at hb; simp at hb
  have h4 := (getD_rng hm.2 2)
  rw [unsc _ (by omega) h3]
theorem rd_15 {l : List Int} (hm : BY l) : relD (instO l 15) (rdD15 l) := by
 unfold rdD15
 rw [io_15]
 by_cases h0 : l.length < 3
 ·rw [if_pos h0, if_pos h0]; exact rfl
 rw [if_neg h0, if_neg h0]
 exact relD_ok fun _ => rfl
theorem rd_16 {l : List Int} (hm : BY l) : relD (instO l 16) (rdD16 l) := by
 unfold rdD16
 rw [io_16]
 by_cases h0 : l.length < 3
 ·rw [if_pos h0, if_pos h0]; exact rfl
 rw [if_neg h0, if_neg h0]
 exact relD_ok fun _ => rfl
theorem rd_17 {l : List Int} (hm : BY l) : relD (instO l 17) (rdD17 l) := by
 unfold rdD17
 rw [io_17]
 by_cases h0 : l.length < 2
 ·rw [if_pos h0, if_pos h0]; exact rfl
 rw [if_neg h0, if_neg h0]
 by_cases h1 : 1 < (l.getD 1 0 % 16)
 ·rw [if_pos h1, if_pos h1]; exact rfl
 rw [if_neg h1, if_neg h1]
 by_cases h2 : l.length < 3 + bytesF (l.getD 1 0 % 16)
 ·rw [if_pos h2, if_pos h2]; exact rfl
 rw [if_neg h2, if_neg h2]
 refine relD_ok fun _ => ?_
 rw [numR_eq hm _ _ (bytesF_le _)]
theorem rd_18 {l : List Int} (hm : BY l) : relD (instO l 18) (rdD18 l) := by
 unfold rdD18
 rw [io_18]
 by_cases h0 : l.length < 3
 ·rw [if_pos h0, if_pos h0]; exact rfl
 rw [if_neg h0, if_neg h0]
 exact relD_ok fun _ => rfl
theorem rd_19 {l : List Int} (hm : BY l) : relD (instO l 19) (rdD19 l) := by
 unfold rdD19
 rw [io_19]
 by_cases h0 : l.length < 2
 ·rw [if_pos h0, if_pos h0]; exact rfl
 rw [if_neg h0, if_neg h0]
 by_cases h1 : 1 < (l.getD 1 0)
 ·rw [if_pos h1, if_pos h1]; exact rfl
 rw [if_neg h1, if_neg h1]
 by_cases h2 : l.length < 2 + bytesF (l.getD 1 0)
 ·rw [if_pos h2, if_pos h2]; exact rfl
 rw [if_neg h2, if_neg h2]
 refine relD_ok fun _ => ?_
 rw [numR_eq hm _ _ (bytesF_le _)]
theorem rd_22 {l : List Int} (hm : BY l) : relD (instO l 22) (rdD22 l) := by
 unfold rdD22
 rw [io_22]
 by_cases h0 : l.length < 2
 ·rw [if_pos h0, if_pos h0]; exact rfl
 rw [if_neg h0, if_neg h0]
 by_cases h1 : 1 < (l.getD 1 0 % 16)
 ·rw [if_pos h1, if_pos h1]; exact rfl
 rw [if_neg h1, if_neg h1]
 by_cases h2 : l.length < 2 + bytesF (l.getD 1 0 % 16)
 ·rw [if_pos h2, if_pos h2]; exact rfl
 rw [if_neg h2, if_neg h2]
 refine relD_ok fun _ => ?_
 rw [numR_eq hm _ _ (bytesF_le _), Int.add_comm (l.getD 1 0 / 16) 11]
theorem rd_23 {l : List Int} (hm : BY l) : relD (instO l 23) (rdD23 l) := by
 unfold rdD23
 rw [io_23]
 by_cases h0 : l.length < 5
 ·rw [if_pos h0, if_pos h0]; exact rfl
 rw [if_neg h0, if_neg h0]
 rw [numR4 hm]
 exact relD_ok fun _ => rfl
theorem rd_24 {l : List Int} (hm : BY l) : relD (instO l 24) (rdD24 l) := by
 unfold rdD24
 rw [io_24]
 by_cases h0 : l.length < 1
 ·rw [if_pos h0, if_pos h0]; exact rfl
 rw [if_neg h0, if_neg h0]
 exact relD_ok fun _ => rfl
theorem rd_25 {l : List Int} (hm : BY l) : relD (instO l 25) (rdD25 l) := by
 unfold rdD25
 rw [io_25]
 by_cases h0 : l.length < 5
 ·rw [if_pos h0, if_pos h0]; exact rfl
 rw [if_neg h0, if_neg h0]
 rw [numR4 hm]
 exact relD_ok fun _ => rfl
theorem rd_26 {l : List Int} (hm : BY l) : relD (instO l 26) (rdD26 l) := by
 unfold rdD26
 rw [io_26]
 by_cases h0 : l.length < 2
 ·rw [if_pos h0, if_pos h0]; exact rfl
 rw [if_neg h0, if_neg h0]
 exact relD_ok fun _ => rfl
theorem rd_27 {l : List Int} (hm : BY l) : relD (instO l 27) (rdD27 l) := by
 unfold rdD27
 rw [io_27]
 by_cases h0 : l.length < 2
 ·rw [if_pos h0, if_pos h0]; exact rfl
 rw [if_neg h0, if_neg h0]
 exact relD_ok fun _ => rfl
theorem rd_28 {l : List Int} (hm : BY l) : relD (instO l 28) (rdD28 l) := by
 unfold rdD28
 rw [io_28]
 by_cases h0 : l.length < 2
 ·rw [if_pos h0, if_pos h0]; exact rfl
 rw [if_neg h0, if_neg h0]
 exact relD_ok fun _ => rfl
theorem rd_29 {l : List Int} (hm : BY l) : relD (instO l 29) (rdD29 l) := by
 unfold rdD29
 rw [io_29]
 by_cases h0 : l.length < 5
 ·rw [if_pos h0, if_pos h0]; exact rfl
 rw [if_neg h0, if_neg h0]
 rw [numR4 hm]
 exact relD_ok fun _ => rfl
end Go.Proofs.Ytahepinbmcgbnaa.Vm
