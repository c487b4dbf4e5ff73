/- Of cisc's reader: what stands behind an instruction is not looked at; cut short it is too short; gantryref4's reading beside it. Printed by wip/tools/genVp3.py. No condition. -/
import Derived.Test.YtahepinbmcgbnaaVp1
import Derived.Test.YtahepinbmcgbnaaVc9
set_option linter.unusedVariables false
set_option linter.unusedSimpArgs false
namespace Go.Proofs.Ytahepinbmcgbnaa.Vm
open Go.RowKit Go.Proofs.Ytahepinbmcgbnaa.PZ Go.Proofs.Ytahepinbmcgbnaa.Wd Go.Proofs.YtahepinbmcgbnaaW.PrintWords
theorem leR_congr {l l' : List Int} (p : Nat) : ∀ n, (∀ j, p ≤ j → j < p + n → l'.getD j 0 = l.getD j 0) → leR l' p n = leR l p n
  | 0, _ => rfl
  | n + 1, h => by
    unfold leR
    rw [leR_congr p n fun j a b => h j a (by omega), h (p + n) (by omega) (by omega)]
theorem num4_congr {l l' : List Int} {n : Nat} (h : ∀ j, j < n → l'.getD j 0 = l.getD j 0) (p : Nat) (q : p + 4 ≤ n) : num4 l' p = num4 l p := by
  unfold num4; rw [leR_congr p 4 fun j a b => h j (by omega)]
theorem numV_congr {l l' : List Int} {n : Nat} (h : ∀ j, j < n → l'.getD j 0 = l.getD j 0) (p m : Nat) (q : p + m ≤ n) : numV l' p m = numV l p m := by
  unfold numV; rw [leR_congr p m fun j a b => h j (by omega)]
theorem take_getD (l : List Int) (n j : Nat) (h : j < n) : (l.take n).getD j 0 = l.getD j 0 := by
  simp [List.getD, List.getElem?_take, h]
theorem io_1 (l : List Int) : instO l 1 = if l.length < 2 then .short else if 2 < (l.getD 1 0 % 16) then .form else if l.length < 2 + bytesF (l.getD 1 0 % 16) then .short else .ok (2 + bytesF (l.getD 1 0 % 16)) (false || !inR (numV l 2 (bytesF (l.getD 1 0 % 16))) (sizedF (l.getD 1 0 % 16) (-9223372036854775808) 9223372036854775807)) (iC 1 (l.getD 1 0 / 16) 0 0 0 0 0 (numV l 2 (bytesF (l.getD 1 0 % 16))) 0) := rfl
theorem io_3 (l : List Int) : instO l 3 = if l.length < 2 then .short else .ok 2 (false) (iC 3 (l.getD 1 0 / 16) (l.getD 1 0 % 16) 0 0 0 0 0 0) := rfl
theorem io_4 (l : List Int) : instO l 4 = if l.length < 4 then .short else .ok 4 ((((false || !decide (Wi (l.getD 2 0) > 0)) || !has (l.getD 3 0) (l.getD 2 0)) || !cnd1 (l.getD 2 0) (l.getD 3 0) (l.getD 1 0 / 16) (l.getD 1 0 % 16)) || !cnd2 (l.getD 3 0) (l.getD 1 0 / 16) (l.getD 1 0 % 16)) (iC 4 (l.getD 1 0 / 16) (l.getD 1 0 % 16) 0 (l.getD 2 0) (l.getD 3 0) 0 0 0) := rfl
theorem io_5 (l : List Int) : instO l 5 = if l.length < 2 then .short else if 1 < (l.getD 1 0 % 16) then .form else if l.length < 4 + bytesF (l.getD 1 0 % 16) then .short else .ok (4 + bytesF (l.getD 1 0 % 16)) ((((false || !decide (Wi (l.getD 2 0) > 0)) || !wh (l.getD 2 0)) || !cnd5 (l.getD 2 0) (l.getD 3 0)) || !inR (numV l 4 (bytesF (l.getD 1 0 % 16))) (sizedF (l.getD 1 0 % 16) (heldF (if sh (l.getD 3 0) = true then 9 else l.getD 2 0)).1 (heldF (if sh (l.getD 3 0) = true then 9 else l.getD 2 0)).2)) (iC 5 (l.getD 1 0 / 16) 0 0 (l.getD 2 0) (l.getD 3 0) 0 (numV l 4 (bytesF (l.getD 1 0 % 16))) 0) := rfl
theorem io_6 (l : List Int) : instO l 6 = if l.length < 8 then .short else .ok 8 (((false || !decide (Wi (l.getD 2 0) > 0)) || !cnd6 (l.getD 2 0) (l.getD 3 0)) || !small (num4 l 4)) (iC 6 (l.getD 1 0 / 16) (l.getD 1 0 % 16) 0 (l.getD 2 0) (l.getD 3 0) 0 (num4 l 4) 0) := rfl
theorem io_7 (l : List Int) : instO l 7 = if l.length < 4 then .short else .ok 4 ((((false || !(l.getD 1 0 % 16 == 0)) || !decide (Wi (l.getD 2 0) > 0)) || !((l.getD 2 0) != 11)) || !hasU (l.getD 3 0) (l.getD 2 0)) (iC 7 (l.getD 1 0 / 16) (l.getD 1 0 % 16) 0 (l.getD 2 0) (l.getD 3 0) 0 0 0) := rfl
theorem io_8 (l : List Int) : instO l 8 = if l.length < 4 then .short else .ok 4 ((((false || !decide (Wi (l.getD 2 0) > 0)) || !nm (l.getD 2 0))) || !nm (l.getD 3 0)) (iC 8 (l.getD 1 0 / 16) (l.getD 1 0 % 16) 0 (l.getD 2 0) (l.getD 3 0) 0 0 0) := rfl
theorem io_10 (l : List Int) : instO l 10 = if l.length < 7 then .short else if l.getD 2 0 = 15 then .ok 7 (false || !small (num4 l 3)) (iC 10 (l.getD 1 0 / 16) (l.getD 1 0 % 16) 0 0 0 0 (num4 l 3) 0) else .ok 7 ((false || !decide (l.getD 2 0 % 16 ≤ 3)) || !small (num4 l 3)) (iC 10 (l.getD 1 0 / 16) (l.getD 1 0 % 16) (l.getD 2 0 / 16) 0 0 (2 ^ (l.getD 2 0 % 16).toNat) (num4 l 3) 0) := rfl
theorem io_11 (l : List Int) : instO l 11 = if l.length < 7 then .short else .ok 7 ((false || !decide (Wi (l.getD 2 0) > 0)) || !small (num4 l 3)) (iC 11 (l.getD 1 0 / 16) (l.getD 1 0 % 16) 0 (l.getD 2 0) 0 0 (num4 l 3) 0) := rfl
theorem io_12 (l : List Int) : instO l 12 = if l.length < 8 then .short else if l.getD 2 0 = 15 then .ok 8 (((false || !((0 : Int) != 0)) || !decide (Wi (l.getD 3 0) > 0)) || !small (num4 l 4)) (iC 12 (l.getD 1 0 / 16) (l.getD 1 0 % 16) 0 (l.getD 3 0) 0 0 (num4 l 4) 0) else .ok 8 ((((false || !decide (l.getD 2 0 % 16 ≤ 3)) || !((2 : Int) ^ (l.getD 2 0 % 16).toNat != 0)) || !decide (Wi (l.getD 3 0) > 0)) || !small (num4 l 4)) (iC 12 (l.getD 1 0 / 16) (l.getD 1 0 % 16) (l.getD 2 0 / 16) (l.getD 3 0) 0 (2 ^ (l.getD 2 0 % 16).toNat) (num4 l 4) 0) := rfl
theorem io_13 (l : List Int) : instO l 13 = if l.length < 7 then .short else .ok 7 ((false || !decide (Wi (l.getD 2 0) > 0)) || !small (num4 l 3)) (iC 13 (l.getD 1 0 / 16) (l.getD 1 0 % 16) 0 (l.getD 2 0) 0 0 (num4 l 3) 0) := rfl
theorem io_14 (l : List Int) : instO l 14 = if l.length < 8 then .short else if l.getD 2 0 = 15 then .ok 8 (((false || !((0 : Int) != 0)) || !decide (Wi (l.getD 3 0) > 0)) || !small (num4 l 4)) (iC 14 (l.getD 1 0 / 16) (l.getD 1 0 % 16) 0 (l.getD 3 0) 0 0 (num4 l 4) 0) else .ok 8 ((((false || !decide (l.getD 2 0 % 16 ≤ 3)) || !((2 : Int) ^ (l.getD 2 0 % 16).toNat != 0)) || !decide (Wi (l.getD 3 0) > 0)) || !small (num4 l 4)) (iC 14 (l.getD 1 0 / 16) (l.getD 1 0 % 16) (l.getD 2 0 / 16) (l.getD 3 0) 0 (2 ^ (l.getD 2 0 % 16).toNat) (num4 l 4) 0) := rfl
theorem io_15 (l : List Int) : instO l 15 = if l.length < 3 then .short else .ok 3 (false || !sd (l.getD 2 0)) (iC 15 (l.getD 1 0 / 16) (l.getD 1 0 % 16) 0 0 (l.getD 2 0) 0 0 0) := rfl
theorem io_16 (l : List Int) : instO l 16 = if l.length < 3 then .short else .ok 3 (false || !decide (Wi (l.getD 2 0) > 0)) (iC 16 (l.getD 1 0 / 16) (l.getD 1 0 % 16) 0 (l.getD 2 0) 0 0 0 0) := rfl
theorem io_17 (l : List Int) : instO l 17 = if l.length < 2 then .short else if 1 < (l.getD 1 0 % 16) then .form else if l.length < 3 + bytesF (l.getD 1 0 % 16) then .short else .ok (3 + bytesF (l.getD 1 0 % 16)) (((false || !decide (Wi (l.getD 2 0) > 0)) || !wh (l.getD 2 0)) || !inR (numV l 3 (bytesF (l.getD 1 0 % 16))) (sizedF (l.getD 1 0 % 16) (heldF (l.getD 2 0)).1 (heldF (l.getD 2 0)).2)) (iC 17 (l.getD 1 0 / 16) 0 0 (l.getD 2 0) 0 0 (numV l 3 (bytesF (l.getD 1 0 % 16))) 0) := rfl
theorem io_18 (l : List Int) : instO l 18 = if l.length < 3 then .short else .ok 3 ((false || !(l.getD 1 0 % 16 == 0)) || !sd (l.getD 2 0)) (iC 18 (l.getD 1 0 / 16) (l.getD 1 0 % 16) 0 0 (l.getD 2 0) 0 0 0) := rfl
theorem io_19 (l : List Int) : instO l 19 = if l.length < 2 then .short else if 1 < (l.getD 1 0) then .form else if l.length < 2 + bytesF (l.getD 1 0) then .short else .ok (2 + bytesF (l.getD 1 0)) (false || !inR (numV l 2 (bytesF (l.getD 1 0))) (sizedF (l.getD 1 0) (-2147483648) 2147483647)) (iC 19 0 0 0 0 0 0 (numV l 2 (bytesF (l.getD 1 0))) 0) := rfl
theorem io_22 (l : List Int) : instO l 22 = if l.length < 2 then .short else if 1 < (l.getD 1 0 % 16) then .form else if l.length < 2 + bytesF (l.getD 1 0 % 16) then .short else .ok (2 + bytesF (l.getD 1 0 % 16)) ((false || !sd (11 + l.getD 1 0 / 16)) || !inR (numV l 2 (bytesF (l.getD 1 0 % 16))) (sizedF (l.getD 1 0 % 16) (-2147483648) 2147483647)) (iC 22 0 0 0 0 (11 + l.getD 1 0 / 16) 0 (numV l 2 (bytesF (l.getD 1 0 % 16))) 0) := rfl
theorem io_23 (l : List Int) : instO l 23 = if l.length < 5 then .short else .ok 5 (false || !inR (num4 l 1) [(-2147483648, 2147483647)]) (iC 23 0 0 0 0 0 0 (num4 l 1) 0) := rfl
theorem io_24 (l : List Int) : instO l 24 = if l.length < 1 then .short else .ok 1 (false) (iC 24 0 0 0 0 0 0 0 0) := rfl
theorem io_25 (l : List Int) : instO l 25 = if l.length < 5 then .short else .ok 5 (false || !inR (num4 l 1) [(0, 2147483647)]) (iC 25 0 0 0 0 0 0 (num4 l 1) 0) := rfl
theorem io_26 (l : List Int) : instO l 26 = if l.length < 2 then .short else .ok 2 (false) (iC 26 (l.getD 1 0 / 16) (l.getD 1 0 % 16) 0 0 0 0 0 0) := rfl
theorem io_27 (l : List Int) : instO l 27 = if l.length < 2 then .short else .ok 2 (false || !(l.getD 1 0 % 16 == 0)) (iC 27 (l.getD 1 0 / 16) (l.getD 1 0 % 16) 0 0 0 0 0 0) := rfl
theorem io_28 (l : List Int) : instO l 28 = if l.length < 2 then .short else .ok 2 (false || !(l.getD 1 0 % 16 == 0)) (iC 28 (l.getD 1 0 / 16) (l.getD 1 0 % 16) 0 0 0 0 0 0) := rfl
theorem io_29 (l : List Int) : instO l 29 = if l.length < 5 then .short else .ok 5 (false || !inR (num4 l 1) [(1, 2147483647)]) (iC 29 0 0 0 0 0 0 (num4 l 1) 0) := rfl
theorem pre_1 {l l' : List Int} {n : Nat} {bad : Bool} {f : List SV} (e : instO l 1 = .ok n bad f) : 1 ≤ n ∧ n ≤ l.length ∧ (n ≤ l'.length → (∀ j, j < n → l'.getD j 0 = l.getD j 0) → instO l' 1 = .ok n bad f) ∧ (∀ q, 1 ≤ q → q < n → instO (l.take q) 1 = .short) := by
  simp only [io_1] at e ⊢
  by_cases h0 : l.length < 2
  · rw [if_pos h0] at e; cases e
  rw [if_neg h0] at e
  by_cases h1 : 2 < (l.getD 1 0 % 16)
  · rw [if_pos h1] at e; cases e
  rw [if_neg h1] at e
  by_cases h2 : l.length < 2 + bytesF (l.getD 1 0 % 16)
  · rw [if_pos h2] at e; cases e
  rw [if_neg h2] at e
  have b1 := bytesF_ge (l.getD 1 0 % 16)
  have hn : n = 2 + bytesF (l.getD 1 0 % 16) := by cases e; rfl
  subst hn
  refine ⟨by omega, by omega, fun hl hg => ?_, fun q h3 h4 => ?_⟩
  · rw [if_neg (by omega), hg 1 (by omega), if_neg h1, if_neg (by omega), numV_congr hg 2 _ (by omega)]
    exact e
  · by_cases h5 : q < 2
    · rw [if_pos (by rw [List.length_take]; omega)]
    · rw [if_neg (by rw [List.length_take]; omega), take_getD l q 1 (by omega), if_neg h1, if_pos (by rw [List.length_take]; omega)]
theorem pre_3 {l l' : List Int} {n : Nat} {bad : Bool} {f : List SV} (e : instO l 3 = .ok n bad f) : 1 ≤ n ∧ n ≤ l.length ∧ (n ≤ l'.length → (∀ j, j < n → l'.getD j 0 = l.getD j 0) → instO l' 3 = .ok n bad f) ∧ (∀ q, 1 ≤ q → q < n → instO (l.take q) 3 = .short) := by
  simp only [io_3] at e ⊢
  by_cases h0 : l.length < 2
  · rw [if_pos h0] at e; cases e
  rw [if_neg h0] at e
  have hn : n = 2 := by
    cases e; rfl
  subst hn
  refine ⟨by omega, by omega, fun hl hg => ?_, fun q h1 h2 => ?_⟩
  · rw [if_neg (by omega), hg 1 (by omega)]
    exact e
  · rw [if_pos (by rw [List.length_take]; omega)]
theorem pre_4 {l l' : List Int} {n : Nat} {bad : Bool} {f : List SV} (e : instO l 4 = .ok n bad f) : 1 ≤ n ∧ n ≤ l.length ∧ (n ≤ l'.length → (∀ j, j < n → l'.getD j 0 = l.getD j 0) → instO l' 4 = .ok n bad f) ∧ (∀ q, 1 ≤ q → q < n → instO (l.take q) 4 = .short) := by
  simp only [io_4] at e ⊢
  by_cases h0 : l.length < 4
  · rw [if_pos h0] at e; cases e
  rw [if_neg h0] at e
  have hn : n = 4 := by
    cases e; rfl
  subst hn
  refine ⟨by omega, by omega, fun hl hg => ?_, fun q h1 h2 => ?_⟩
  · rw [if_neg (by omega), hg 1 (by omega), hg 2 (by omega), hg 3 (by omega)]
    exact e
  · rw [if_pos (by rw [List.length_take]; omega)]
theorem pre_5 {l l' : List Int} {n : Nat} {bad : Bool} {f : List SV} (e : instO l 5 = .ok n bad f) : 1 ≤ n ∧ n ≤ l.length ∧ (n ≤ l'.length → (∀ j, j < n → l'.getD j 0 = l.getD j 0) → instO l' 5 = .ok n bad f) ∧ (∀ q, 1 ≤ q → q < n → instO (l.take q) 5 = .short) := by
  simp only [io_5] at e ⊢
  by_cases h0 : l.length < 2
  · rw [if_pos h0] at e; cases e
  rw [if_neg h0] at e
  by_cases h1 : 1 < (l.getD 1 0 % 16)
  · rw [if_pos h1] at e; cases e
  rw [if_neg h1] at e
  by_cases h2 : l.length < 4 + bytesF (l.getD 1 0 % 16)
  · rw [if_pos h2] at e; cases e
  rw [if_neg h2] at e
  have b1 := bytesF_ge (l.getD 1 0 % 16)
  have hn : n = 4 + bytesF (l.getD 1 0 % 16) := by cases e; rfl
  subst hn
  refine ⟨by omega, by omega, fun hl hg => ?_, fun q h3 h4 => ?_⟩
  · rw [if_neg (by omega), hg 1 (by omega), hg 2 (by omega), hg 3 (by omega), if_neg h1, if_neg (by omega), numV_congr hg 4 _ (by omega)]
    exact e
  · by_cases h5 : q < 2
    · rw [if_pos (by rw [List.length_take]; omega)]
    · rw [if_neg (by rw [List.length_take]; omega), take_getD l q 1 (by omega), if_neg h1, if_pos (by rw [List.length_take]; omega)]
theorem pre_6 {l l' : List Int} {n : Nat} {bad : Bool} {f : List SV} (e : instO l 6 = .ok n bad f) : 1 ≤ n ∧ n ≤ l.length ∧ (n ≤ l'.length → (∀ j, j < n → l'.getD j 0 = l.getD j 0) → instO l' 6 = .ok n bad f) ∧ (∀ q, 1 ≤ q → q < n → instO (l.take q) 6 = .short) := by
  simp only [io_6] at e ⊢
  by_cases h0 : l.length < 8
  · rw [if_pos h0] at e; cases e
  rw [if_neg h0] at e
  have hn : n = 8 := by
    cases e; rfl
  subst hn
  refine ⟨by omega, by omega, fun hl hg => ?_, fun q h1 h2 => ?_⟩
  · rw [if_neg (by omega), hg 1 (by omega), hg 2 (by omega), hg 3 (by omega), num4_congr hg 4 (by omega)]
    exact e
  · rw [if_pos (by rw [List.length_take]; omega)]
theorem pre_7 {l l' : List Int} {n : Nat} {bad : Bool} {f : List SV} (e : instO l 7 = .ok n bad f) : 1 ≤ n ∧ n ≤ l.length ∧ (n ≤ l'.length → (∀ j, j < n → l'.getD j 0 = l.getD j 0) → instO l' 7 = .ok n bad f) ∧ (∀ q, 1 ≤ q → q < n → instO (l.take q) 7 = .short) := by
  simp only [io_7] at e ⊢
  by_cases h0 : l.length < 4
  · rw [if_pos h0] at e; cases e
  rw [if_neg h0] at e
  have hn : n = 4 := by
    cases e; rfl
  subst hn
  refine ⟨by omega, by omega, fun hl hg => ?_, fun q h1 h2 => ?_⟩
  · rw [if_neg (by omega), hg 1 (by omega), hg 2 (by omega), hg 3 (by omega)]
    exact e
  · rw [if_pos (by rw [List.length_take]; omega)]
theorem pre_8 {l l' : List Int} {n : Nat} {bad : Bool} {f : List SV} (e : instO l 8 = .ok n bad f) : 1 ≤ n ∧ n ≤ l.length ∧ (n ≤ l'.length → (∀ j, j < n → l'.getD j 0 = l.getD j 0) → instO l' 8 = .ok n bad f) ∧ (∀ q, 1 ≤ q → q < n → instO (l.take q) 8 = .short) := by
  simp only [io_8] at e ⊢
  by_cases h0 : l.length < 4
  · rw [if_pos h0] at e; cases e
  rw [if_neg h0] at e
  have hn : n = 4 := by
    cases e; rfl
  subst hn
  refine ⟨by omega, by omega, fun hl hg => ?_, fun q h1 h2 => ?_⟩
  · rw [if_neg (by omega), hg 1 (by omega), hg 2 (by omega), hg 3 (by omega)]
    exact e
  · rw [if_pos (by rw [List.length_take]; omega)]
theorem pre_10 {l l' : List Int} {n : Nat} {bad : Bool} {f : List SV} (e : instO l 10 = .ok n bad f) : 1 ≤ n ∧ n ≤ l.length ∧ (n ≤ l'.length → (∀ j, j < n → l'.getD j 0 = l.getD j 0) → instO l' 10 = .ok n bad f) ∧ (∀ q, 1 ≤ q → q < n → instO (l.take q) 10 = .short) := by
  simp only [io_10] at e ⊢
  by_cases h0 : l.length < 7
  · rw [if_pos h0] at e; cases e
  rw [if_neg h0] at e
  have hn : n = 7 := by
    split at e <;> (cases e; rfl)
  subst hn
  refine ⟨by omega, by omega, fun hl hg => ?_, fun q h1 h2 => ?_⟩
  · rw [if_neg (by omega), hg 1 (by omega), hg 2 (by omega), num4_congr hg 3 (by omega)]
    exact e
  · rw [if_pos (by rw [List.length_take]; omega)]
theorem pre_11 {l l' : List Int} {n : Nat} {bad : Bool} {f : List SV} (e : instO l 11 = .ok n bad f) : 1 ≤ n ∧ n ≤ l.length ∧ (n ≤ l'.length → (∀ j, j < n → l'.getD j 0 = l.getD j 0) → instO l' 11 = .ok n bad f) ∧ (∀ q, 1 ≤ q → q < n → instO (l.take q) 11 = .short) := by
  simp only [io_11] at e ⊢
  by_cases h0 : l.length < 7
  · rw [if_pos h0] at e; cases e
  rw [if_neg h0] at e
  have hn : n = 7 := by
    cases e; rfl
  subst hn
  refine ⟨by omega, by omega, fun hl hg => ?_, fun q h1 h2 => ?_⟩
  · rw [if_neg (by omega), hg 1 (by omega), hg 2 (by omega), num4_congr hg 3 (by omega)]
    exact e
  · rw [if_pos (by rw [List.length_take]; omega)]
theorem pre_12 {l l' : List Int} {n : Nat} {bad : Bool} {f : List SV} (e : instO l 12 = .ok n bad f) : 1 ≤ n ∧ n ≤ l.length ∧ (n ≤ l'.length → (∀ j, j < n → l'.getD j 0 = l.getD j 0) → instO l' 12 = .ok n bad f) ∧ (∀ q, 1 ≤ q → q < n → instO (l.take q) 12 = .short) := by
  simp only [io_12] at e ⊢
  by_cases h0 : l.length < 8
  · rw [if_pos h0] at e; cases e
  rw [if_neg h0] at e
  have hn : n = 8 := by
    split at e <;> (cases e; rfl)
  subst hn
  refine ⟨by omega, by omega, fun hl hg => ?_, fun q h1 h2 => ?_⟩
  · rw [if_neg (by omega), hg 1 (by omega), hg 2 (by omega), hg 3 (by omega), num4_congr hg 4 (by omega)]
    exact e
  · rw [if_pos (by rw [List.length_take]; omega)]
theorem pre_13 {l l' : List Int} {n : Nat} {bad : Bool} {f : List SV} (e : instO l 13 = .ok n bad f) : 1 ≤ n ∧ n ≤ l.length ∧ (n ≤ l'.length → (∀ j, j < n → l'.getD j 0 = l.getD j 0) → instO l' 13 = .ok n bad f) ∧ (∀ q, 1 ≤ q → q < n → instO (l.take q) 13 = .short) := by
  simp only [io_13] at e ⊢
  by_cases h0 : l.length < 7
  · rw [if_pos h0] at e; cases e
  rw [if_neg h0] at e
  have hn : n = 7 := by
    cases e; rfl
  subst hn
  refine ⟨by omega, by omega, fun hl hg => ?_, fun q h1 h2 => ?_⟩
  · rw [if_neg (by omega), hg 1 (by omega), hg 2 (by omega), num4_congr hg 3 (by omega)]
    exact e
  · rw [if_pos (by rw [List.length_take]; omega)]
theorem pre_14 {l l' : List Int} {n : Nat} {bad : Bool} {f : List SV} (e : instO l 14 = .ok n bad f) : 1 ≤ n ∧ n ≤ l.length ∧ (n ≤ l'.length → (∀ j, j < n → l'.getD j 0 = l.getD j 0) → instO l' 14 = .ok n bad f) ∧ (∀ q, 1 ≤ q → q < n → instO (l.take q) 14 = .short) := by
  simp only [io_14] at e ⊢
  by_cases h0 : l.length < 8
  · rw [if_pos h0] at e; cases e
  rw [if_neg h0] at e
  have hn : n = 8 := by
    split at e <;> (cases e; rfl)
  subst hn
  refine ⟨by omega, by omega, fun hl hg => ?_, fun q h1 h2 => ?_⟩
  · rw [if_neg (by omega), hg 1 (by omega), hg 2 (by omega), hg 3 (by omega), num4_congr hg 4 (by omega)]
    exact e
  · rw [if_pos (by rw [List.length_take]; omega)]
theorem pre_15 {l l' : List Int} {n : Nat} {bad : Bool} {f : List SV} (e : instO l 15 = .ok n bad f) : 1 ≤ n ∧ n ≤ l.length ∧ (n ≤ l'.length → (∀ j, j < n → l'.getD j 0 = l.getD j 0) → instO l' 15 = .ok n bad f) ∧ (∀ q, 1 ≤ q → q < n → instO (l.take q) 15 = .short) := by
  simp only [io_15] at e ⊢
  by_cases h0 : l.length < 3
  · rw [if_pos h0] at e; cases e
  rw [if_neg h0] at e
  have hn : n = 3 := by
    cases e; rfl
  subst hn
  refine ⟨by omega, by omega, fun hl hg => ?_, fun q h1 h2 => ?_⟩
  · rw [if_neg (by omega), hg 1 (by omega), hg 2 (by omega)]
    exact e
  · rw [if_pos (by rw [List.length_take]; omega)]
theorem pre_16 {l l' : List Int} {n : Nat} {bad : Bool} {f : List SV} (e : instO l 16 = .ok n bad f) : 1 ≤ n ∧ n ≤ l.length ∧ (n ≤ l'.length → (∀ j, j < n → l'.getD j 0 = l.getD j 0) → instO l' 16 = .ok n bad f) ∧ (∀ q, 1 ≤ q → q < n → instO (l.take q) 16 = .short) := by
  simp only [io_16] at e ⊢
  by_cases h0 : l.length < 3
  · rw [if_pos h0] at e; cases e
  rw [if_neg h0] at e
  have hn : n = 3 := by
    cases e; rfl
  subst hn
  refine ⟨by omega, by omega, fun hl hg => ?_, fun q h1 h2 => ?_⟩
  · rw [if_neg (by omega), hg 1 (by omega), hg 2 (by omega)]
    exact e
  · rw [if_pos (by rw [List.length_take]; omega)]
theorem pre_17 {l l' : List Int} {n : Nat} {bad : Bool} {f : List SV} (e : instO l 17 = .ok n bad f) : 1 ≤ n ∧ n ≤ l.length ∧ (n ≤ l'.length → (∀ j, j < n → l'.getD j 0 = l.getD j 0) → instO l' 17 = .ok n bad f) ∧ (∀ q, 1 ≤ q → q < n → instO (l.take q) 17 = .short) := by
  simp only [io_17] at e ⊢
  by_cases h0 : l.length < 2
  · rw [if_pos h0] at e; cases e
  rw [if_neg h0] at e
  by_cases h1 : 1 < (l.getD 1 0 % 16)
  · rw [if_pos h1] at e; cases e
  rw [if_neg h1] at e
  by_cases h2 : l.length < 3 + bytesF (l.getD 1 0 % 16)
  · rw [if_pos h2] at e; cases e
  rw [if_neg h2] at e
  have b1 := bytesF_ge (l.getD 1 0 % 16)
  have hn : n = 3 + bytesF (l.getD 1 0 % 16) := by cases e; rfl
  subst hn
  refine ⟨by omega, by omega, fun hl hg => ?_, fun q h3 h4 => ?_⟩
  · rw [if_neg (by omega), hg 1 (by omega), hg 2 (by omega), if_neg h1, if_neg (by omega), numV_congr hg 3 _ (by omega)]
    exact e
  · by_cases h5 : q < 2
    · rw [if_pos (by rw [List.length_take]; omega)]
    · rw [if_neg (by rw [List.length_take]; omega), take_getD l q 1 (by omega), if_neg h1, if_pos (by rw [List.length_take]; omega)]
theorem pre_18 {l l' : List Int} {n : Nat} {bad : Bool} {f : List SV} (e : instO l 18 = .ok n bad f) : 1 ≤ n ∧ n ≤ l.length ∧ (n ≤ l'.length → (∀ j, j < n → l'.getD j 0 = l.getD j 0) → instO l' 18 = .ok n bad f) ∧ (∀ q, 1 ≤ q → q < n → instO (l.take q) 18 = .short) := by
  simp only [io_18] at e ⊢
  by_cases h0 : l.length < 3
  · rw [if_pos h0] at e; cases e
  rw [if_neg h0] at e
  have hn : n = 3 := by
    cases e; rfl
  subst hn
  refine ⟨by omega, by omega, fun hl hg => ?_, fun q h1 h2 => ?_⟩
  · rw [if_neg (by omega), hg 1 (by omega), hg 2 (by omega)]
    exact e
  · rw [if_pos (by rw [List.length_take]; omega)]
theorem pre_19 {l l' : List Int} {n : Nat} {bad : Bool} {f : List SV} (e : instO l 19 = .ok n bad f) : 1 ≤ n ∧ n ≤ l.length ∧ (n ≤ l'.length → (∀ j, j < n → l'.getD j 0 = l.getD j 0) → instO l' 19 = .ok n bad f) ∧ (∀ q, 1 ≤ q → q < n → instO (l.take q) 19 = .short) := by
  simp only [io_19] at e ⊢
  by_cases h0 : l.length < 2
  · rw [if_pos h0] at e; cases e
  rw [if_neg h0] at e
  by_cases h1 : 1 < (l.getD 1 0)
  · rw [if_pos h1] at e; cases e
  rw [if_neg h1] at e
  by_cases h2 : l.length < 2 + bytesF (l.getD 1 0)
  · rw [if_pos h2] at e; cases e
  rw [if_neg h2] at e
  have b1 := bytesF_ge (l.getD 1 0)
  have hn : n = 2 + bytesF (l.getD 1 0) := by cases e; rfl
  subst hn
  refine ⟨by omega, by omega, fun hl hg => ?_, fun q h3 h4 => ?_⟩
  · rw [if_neg (by omega), hg 1 (by omega), if_neg h1, if_neg (by omega), numV_congr hg 2 _ (by omega)]
    exact e
  · by_cases h5 : q < 2
    · rw [if_pos (by rw [List.length_take]; omega)]
    · rw [if_neg (by rw [List.length_take]; omega), take_getD l q 1 (by omega), if_neg h1, if_pos (by rw [List.length_take]; omega)]
theorem pre_22 {l l' : List Int} {n : Nat} {bad : Bool} {f : List SV} (e : instO l 22 = .ok n bad f) : 1 ≤ n ∧ n ≤ l.length ∧ (n ≤ l'.length → (∀ j, j < n → l'.getD j 0 = l.getD j 0) → instO l' 22 = .ok n bad f) ∧ (∀ q, 1 ≤ q → q < n → instO (l.take q) 22 = .short) := by
  simp only [io_22] at e ⊢
  by_cases h0 : l.length < 2
  · rw [if_pos h0] at e; cases e
  rw [if_neg h0] at e
  by_cases h1 : 1 < (l.getD 1 0 % 16)
  · rw [if_pos h1] at e; cases e
  rw [if_neg h1] at e
  by_cases h2 : l.length < 2 + bytesF (l.getD 1 0 % 16)
  · rw [if_pos h2] at e; cases e
  rw [if_neg h2] at e
  have b1 := bytesF_ge (l.getD 1 0 % 16)
  have hn : n = 2 + bytesF (l.getD 1 0 % 16) := by cases e; rfl
  subst hn
  refine ⟨by omega, by omega, fun hl hg => ?_, fun q h3 h4 => ?_⟩
  · rw [if_neg (by omega), hg 1 (by omega), if_neg h1, if_neg (by omega), numV_congr hg 2 _ (by omega)]
    exact e
  · by_cases h5 : q < 2
    · rw [if_pos (by rw [List.length_take]; omega)]
    · rw [if_neg (by rw [List.length_take]; omega), take_getD l q 1 (by omega), if_neg h1, if_pos (by rw [List.length_take]; omega)]
theorem pre_23 {l l' : List Int} {n : Nat} {bad : Bool} {f : List SV} (e : instO l 23 = .ok n bad f) : 1 ≤ n ∧ n ≤ l.length ∧ (n ≤ l'.length → (∀ j, j < n → l'.getD j 0 = l.getD j 0) → instO l' 23 = .ok n bad f) ∧ (∀ q, 1 ≤ q → q < n → instO (l.take q) 23 = .short) := by
  simp only [io_23] at e ⊢
  by_cases h0 : l.length < 5
  · rw [if_pos h0] at e; cases e
  rw [if_neg h0] at e
  have hn : n = 5 := by
    cases e; rfl
  subst hn
  refine ⟨by omega, by omega, fun hl hg => ?_, fun q h1 h2 => ?_⟩
  · rw [if_neg (by omega), num4_congr hg 1 (by omega)]
    exact e
  · rw [if_pos (by rw [List.length_take]; omega)]
theorem pre_24 {l l' : List Int} {n : Nat} {bad : Bool} {f : List SV} (e : instO l 24 = .ok n bad f) : 1 ≤ n ∧ n ≤ l.length ∧ (n ≤ l'.length → (∀ j, j < n → l'.getD j 0 = l.getD j 0) → instO l' 24 = .ok n bad f) ∧ (∀ q, 1 ≤ q → q < n → instO (l.take q) 24 = .short) := by
  simp only [io_24] at e ⊢
  by_cases h0 : l.length < 1
  · rw [if_pos h0] at e; cases e
  rw [if_neg h0] at e
  have hn : n = 1 := by
    cases e; rfl
  subst hn
  refine ⟨by omega, by omega, fun hl hg => ?_, fun q h1 h2 => ?_⟩
  · rw [if_neg (by omega)]
    exact e
  · rw [if_pos (by rw [List.length_take]; omega)]
theorem pre_25 {l l' : List Int} {n : Nat} {bad : Bool} {f : List SV} (e : instO l 25 = .ok n bad f) : 1 ≤ n ∧ n ≤ l.length ∧ (n ≤ l'.length → (∀ j, j < n → l'.getD j 0 = l.getD j 0) → instO l' 25 = .ok n bad f) ∧ (∀ q, 1 ≤ q → q < n → instO (l.take q) 25 = .short) := by
  simp only [io_25] at e ⊢
  by_cases h0 : l.length < 5
  · rw [if_pos h0] at e; cases e
  rw [if_neg h0] at e
  have hn : n = 5 := by
    cases e; rfl
  subst hn
  refine ⟨by omega, by omega, fun hl hg => ?_, fun q h1 h2 => ?_⟩
  · rw [if_neg (by omega), num4_congr hg 1 (by omega)]
    exact e
  · rw [if_pos (by rw [List.length_take]; omega)]
theorem pre_26 {l l' : List Int} {n : Nat} {bad : Bool} {f : List SV} (e : instO l 26 = .ok n bad f) : 1 ≤ n ∧ n ≤ l.length ∧ (n ≤ l'.length → (∀ j, j < n → l'.getD j 0 = l.getD j 0) → instO l' 26 = .ok n bad f) ∧ (∀ q, 1 ≤ q → q < n → instO (l.take q) 26 = .short) := by
  simp only [io_26] at e ⊢
  by_cases h0 : l.length < 2
  · rw [if_pos h0] at e; cases e
  rw [if_neg h0] at e
  have hn : n = 2 := by
    cases e; rfl
  subst hn
  refine ⟨by omega, by omega, fun hl hg => ?_, fun q h1 h2 => ?_⟩
  · rw [if_neg (by omega), hg 1 (by omega)]
    exact e
  · rw [if_pos (by rw [List.length_take]; omega)]
theorem pre_27 {l l' : List Int} {n : Nat} {bad : Bool} {f : List SV} (e : instO l 27 = .ok n bad f) : 1 ≤ n ∧ n ≤ l.length ∧ (n ≤ l'.length → (∀ j, j < n → l'.getD j 0 = l.getD j 0) → instO l' 27 = .ok n bad f) ∧ (∀ q, 1 ≤ q → q < n → instO (l.take q) 27 = .short) := by
  simp only [io_27] at e ⊢
  by_cases h0 : l.length < 2
  · rw [if_pos h0] at e; cases e
  rw [if_neg h0] at e
  have hn : n = 2 := by
    cases e; rfl
  subst hn
  refine ⟨by omega, by omega, fun hl hg => ?_, fun q h1 h2 => ?_⟩
  · rw [if_neg (by omega), hg 1 (by omega)]
    exact e
  · rw [if_pos (by rw [List.length_take]; omega)]
theorem pre_28 {l l' : List Int} {n : Nat} {bad : Bool} {f : List SV} (e : instO l 28 = .ok n bad f) : 1 ≤ n ∧ n ≤ l.length ∧ (n ≤ l'.length → (∀ j, j < n → l'.getD j 0 = l.getD j 0) → instO l' 28 = .ok n bad f) ∧ (∀ q, 1 ≤ q → q < n → instO (l.take q) 28 = .short) := by
  simp only [io_28] at e ⊢
  by_cases h0 : l.length < 2
  · rw [if_pos h0] at e; cases e
  rw [if_neg h0] at e
  have hn : n = 2 := by
    cases e; rfl
  subst hn
  refine ⟨by omega, by omega, fun hl hg => ?_, fun q h1 h2 => ?_⟩
  · rw [if_neg (by omega), hg 1 (by omega)]
    exact e
  · rw [if_pos (by rw [List.length_take]; omega)]
theorem pre_29 {l l' : List Int} {n : Nat} {bad : Bool} {f : List SV} (e : instO l 29 = .ok n bad f) : 1 ≤ n ∧ n ≤ l.length ∧ (n ≤ l'.length → (∀ j, j < n → l'.getD j 0 = l.getD j 0) → instO l' 29 = .ok n bad f) ∧ (∀ q, 1 ≤ q → q < n → instO (l.take q) 29 = .short) := by
  simp only [io_29] at e ⊢
  by_cases h0 : l.length < 5
  · rw [if_pos h0] at e; cases e
  rw [if_neg h0] at e
  have hn : n = 5 := by
    cases e; rfl
  subst hn
  refine ⟨by omega, by omega, fun hl hg => ?_, fun q h1 h2 => ?_⟩
  · rw [if_neg (by omega), num4_congr hg 1 (by omega)]
    exact e
  · rw [if_pos (by rw [List.length_take]; omega)]
end Go.Proofs.Ytahepinbmcgbnaa.Vm
