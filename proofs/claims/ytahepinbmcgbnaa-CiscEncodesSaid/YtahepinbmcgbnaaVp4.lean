/- What cisc's reader reads without a fault is laid again byte for byte. Printed by wip/tools/genVp4.py. No condition. -/
import Derived.Test.YtahepinbmcgbnaaVp2
import Derived.Test.YtahepinbmcgbnaaVr14
set_option linter.unusedVariables false
set_option linter.unusedSimpArgs false
namespace Go.Proofs.Ytahepinbmcgbnaa.Vm
open Go.RowKit Go.Proofs.Ytahepinbmcgbnaa.PZ Go.Proofs.Ytahepinbmcgbnaa.Wd Go.Proofs.YtahepinbmcgbnaaW.PrintWords
theorem num4_V (l : List Int) (p : Nat) : num4 l p = numV l p 4 := rfl
theorem layC_iC' (o a b c k s z i m : Int) : layC (iC o a b c k s z i m) = layF o a b c k s z i := rfl
theorem scale_15 (x : Int) (h : x = 15) : u8 (abF 0 (scaleF 0)) = x := by subst h; rfl
theorem scale_back (x : Int) (h0 : 0 ≤ x) (h1 : x ≤ 255) (h3 : x % 16 ≤ 3) : u8 (abF (x / 16) (scaleF (2 ^ (x % 16).toNat))) = x := by
  refine ab_back2 x _ h0 h1 ?_
  rcases (show x % 16 = 0 ∨ x % 16 = 1 ∨ x % 16 = 2 ∨ x % 16 = 3 by omega) with h | h | h | h <;> rw [h] <;> rfl
theorem jcc_back (x t : Int) (h0 : 0 ≤ x) (h1 : x ≤ 255) (h : t = x % 16) : u8 (abF (IntKind.i64.wrap (11 + x / 16 - 11)) t) = x := by
  rw [i64_in _ (by omega) (by omega), show 11 + x / 16 - 11 = x / 16 by omega]
  exact ab_back2 x t h0 h1 h
theorem can_1 {l : List Int} (hm : BY l) (e0 : l.getD 0 0 = 1) {n : Nat} {f : List SV} (e : instO l 1 = .ok n false f) : layC f = l.take n := by
  rw [io_1] at e
  have r0 : u8 1 = 1 := rfl
  have b1 := getD_rng hm.2 1
  have b2 := getD_rng hm.2 2
  have b3 := getD_rng hm.2 3
  by_cases h0 : l.length < 2
  · rw [if_pos h0] at e; cases e
  rw [if_neg h0] at e
  by_cases h1 : 2 < (l.getD 1 0 % 16)
  · rw [if_pos h1] at e; cases e
  rw [if_neg h1] at e
  by_cases h2 : l.length < 2 + bytesF (l.getD 1 0 % 16)
  · rw [if_pos h2] at e; cases e
  rw [if_neg h2] at e
  injection e with e1 e2 e3
  subst e1 e3
  rw [Bool.or_eq_false_iff] at e2
  have e4 := e2.2
  rw [Bool.not_eq_false'] at e4
  have hs := least_of (sz := (l.getD 1 0 % 16)) (by omega) (by omega) e4
  rw [layC_iC', lay_1]
  rw [hs, take_split, take_2 (by omega), lows_back hm 2 _ (bytes_3 _) (by omega), e0, r0, ab_back2 _ _ b1.1 b1.2 rfl]
  all_goals rfl
theorem can_3 {l : List Int} (hm : BY l) (e0 : l.getD 0 0 = 3) {n : Nat} {f : List SV} (e : instO l 3 = .ok n false f) : layC f = l.take n := by
  rw [io_3] at e
  have r0 : u8 3 = 3 := rfl
  have b1 := getD_rng hm.2 1
  have b2 := getD_rng hm.2 2
  have b3 := getD_rng hm.2 3
  by_cases h0 : l.length < 2
  · rw [if_pos h0] at e; cases e
  rw [if_neg h0] at e
  injection e with e1 e2 e3
  subst e1 e3
  rw [layC_iC', lay_3]
  rw [take_2 (by omega), e0, r0, ab_back _ b1.1 b1.2]
  rfl
theorem can_4 {l : List Int} (hm : BY l) (e0 : l.getD 0 0 = 4) {n : Nat} {f : List SV} (e : instO l 4 = .ok n false f) : layC f = l.take n := by
  rw [io_4] at e
  have r0 : u8 4 = 4 := rfl
  have b1 := getD_rng hm.2 1
  have b2 := getD_rng hm.2 2
  have b3 := getD_rng hm.2 3
  by_cases h0 : l.length < 4
  · rw [if_pos h0] at e; cases e
  rw [if_neg h0] at e
  injection e with e1 e2 e3
  subst e1 e3
  rw [layC_iC', lay_4]
  rw [take_4 (by omega), e0, r0, ab_back _ b1.1 b1.2, u8_id b2, u8_id b3]
  rfl
theorem can_5 {l : List Int} (hm : BY l) (e0 : l.getD 0 0 = 5) {n : Nat} {f : List SV} (e : instO l 5 = .ok n false f) : layC f = l.take n := by
  rw [io_5] at e
  have r0 : u8 5 = 5 := rfl
  have b1 := getD_rng hm.2 1
  have b2 := getD_rng hm.2 2
  have b3 := getD_rng hm.2 3
  by_cases h0 : l.length < 2
  · rw [if_pos h0] at e; cases e
  rw [if_neg h0] at e
  by_cases h1 : 1 < (l.getD 1 0 % 16)
  · rw [if_pos h1] at e; cases e
  rw [if_neg h1] at e
  by_cases h2 : l.length < 4 + bytesF (l.getD 1 0 % 16)
  · rw [if_pos h2] at e; cases e
  rw [if_neg h2] at e
  injection e with e1 e2 e3
  subst e1 e3
  rw [Bool.or_eq_false_iff] at e2
  have e4 := e2.2
  rw [Bool.not_eq_false'] at e4
  have hs := least_of (sz := (l.getD 1 0 % 16)) (by omega) (by omega) e4
  rw [layC_iC', lay_5]
  rw [hs, take_split, take_4 (by omega), lows_back hm 4 _ (bytes_3 _) (by omega), e0, r0, ab_back2 _ _ b1.1 b1.2 rfl, u8_id b2, u8_id b3]
  all_goals rfl
theorem can_6 {l : List Int} (hm : BY l) (e0 : l.getD 0 0 = 6) {n : Nat} {f : List SV} (e : instO l 6 = .ok n false f) : layC f = l.take n := by
  rw [io_6] at e
  have r0 : u8 6 = 6 := rfl
  have b1 := getD_rng hm.2 1
  have b2 := getD_rng hm.2 2
  have b3 := getD_rng hm.2 3
  by_cases h0 : l.length < 8
  · rw [if_pos h0] at e; cases e
  rw [if_neg h0] at e
  injection e with e1 e2 e3
  subst e1 e3
  rw [layC_iC', lay_6]
  rw [show 8 = 4 + 4 from rfl, take_split, take_4 (by omega), num4_V, lows_back hm 4 4 (by omega) (by omega), e0, r0, ab_back _ b1.1 b1.2, u8_id b2, u8_id b3]
  all_goals rfl
theorem can_7 {l : List Int} (hm : BY l) (e0 : l.getD 0 0 = 7) {n : Nat} {f : List SV} (e : instO l 7 = .ok n false f) : layC f = l.take n := by
  rw [io_7] at e
  have r0 : u8 7 = 7 := rfl
  have b1 := getD_rng hm.2 1
  have b2 := getD_rng hm.2 2
  have b3 := getD_rng hm.2 3
  by_cases h0 : l.length < 4
  · rw [if_pos h0] at e; cases e
  rw [if_neg h0] at e
  injection e with e1 e2 e3
  subst e1 e3
  rw [layC_iC', lay_7]
  rw [take_4 (by omega), e0, r0, ab_back _ b1.1 b1.2, u8_id b2, u8_id b3]
  rfl
theorem can_8 {l : List Int} (hm : BY l) (e0 : l.getD 0 0 = 8) {n : Nat} {f : List SV} (e : instO l 8 = .ok n false f) : layC f = l.take n := by
  rw [io_8] at e
  have r0 : u8 8 = 8 := rfl
  have b1 := getD_rng hm.2 1
  have b2 := getD_rng hm.2 2
  have b3 := getD_rng hm.2 3
  by_cases h0 : l.length < 4
  · rw [if_pos h0] at e; cases e
  rw [if_neg h0] at e
  injection e with e1 e2 e3
  subst e1 e3
  rw [layC_iC', lay_8]
  rw [take_4 (by omega), e0, r0, ab_back _ b1.1 b1.2, u8_id b2, u8_id b3]
  rfl
theorem can_10 {l : List Int} (hm : BY l) (e0 : l.getD 0 0 = 10) {n : Nat} {f : List SV} (e : instO l 10 = .ok n false f) : layC f = l.take n := by
  rw [io_10] at e
  have r0 : u8 10 = 10 := rfl
  have b1 := getD_rng hm.2 1
  have b2 := getD_rng hm.2 2
  have b3 := getD_rng hm.2 3
  by_cases h0 : l.length < 7
  · rw [if_pos h0] at e; cases e
  rw [if_neg h0] at e
  by_cases h1 : l.getD 2 0 = 15
  · rw [if_pos h1] at e
    injection e with e1 e2 e3
    subst e1 e3
    have hc := scale_15 _ h1
    rw [layC_iC', lay_10]
    rw [show 7 = 3 + 4 from rfl, take_split, take_3 (by omega), num4_V, lows_back hm 3 4 (by omega) (by omega), e0, r0, ab_back _ b1.1 b1.2, hc]
    all_goals rfl
  · rw [if_neg h1] at e
    injection e with e1 e2 e3
    subst e1 e3
    have h3 : l.getD 2 0 % 16 ≤ 3 := by
      cases hd : decide (l.getD 2 0 % 16 ≤ 3) with
      | true => exact of_decide_eq_true hd
      | false => rw [hd] at e2; simp at e2
    have hc := scale_back _ b2.1 b2.2 h3
    rw [layC_iC', lay_10]
    rw [show 7 = 3 + 4 from rfl, take_split, take_3 (by omega), num4_V, lows_back hm 3 4 (by omega) (by omega), e0, r0, ab_back _ b1.1 b1.2, hc]
    all_goals rfl
theorem can_11 {l : List Int} (hm : BY l) (e0 : l.getD 0 0 = 11) {n : Nat} {f : List SV} (e : instO l 11 = .ok n false f) : layC f = l.take n := by
  rw [io_11] at e
  have r0 : u8 11 = 11 := rfl
  have b1 := getD_rng hm.2 1
  have b2 := getD_rng hm.2 2
  have b3 := getD_rng hm.2 3
  by_cases h0 : l.length < 7
  · rw [if_pos h0] at e; cases e
  rw [if_neg h0] at e
  injection e with e1 e2 e3
  subst e1 e3
  rw [layC_iC', lay_11]
  rw [show 7 = 3 + 4 from rfl, take_split, take_3 (by omega), num4_V, lows_back hm 3 4 (by omega) (by omega), e0, r0, ab_back _ b1.1 b1.2, u8_id b2]
  all_goals rfl
theorem can_12 {l : List Int} (hm : BY l) (e0 : l.getD 0 0 = 12) {n : Nat} {f : List SV} (e : instO l 12 = .ok n false f) : layC f = l.take n := by
  rw [io_12] at e
  have r0 : u8 12 = 12 := rfl
  have b1 := getD_rng hm.2 1
  have b2 := getD_rng hm.2 2
  have b3 := getD_rng hm.2 3
  by_cases h0 : l.length < 8
  · rw [if_pos h0] at e; cases e
  rw [if_neg h0] at e
  by_cases h1 : l.getD 2 0 = 15
  · rw [if_pos h1] at e
    injection e with e1 e2 e3
    subst e1 e3
    have hc := scale_15 _ h1
    rw [layC_iC', lay_12]
    rw [show 8 = 4 + 4 from rfl, take_split, take_4 (by omega), num4_V, lows_back hm 4 4 (by omega) (by omega), e0, r0, ab_back _ b1.1 b1.2, hc, u8_id b3]
    all_goals rfl
  · rw [if_neg h1] at e
    injection e with e1 e2 e3
    subst e1 e3
    have h3 : l.getD 2 0 % 16 ≤ 3 := by
      cases hd : decide (l.getD 2 0 % 16 ≤ 3) with
      | true => exact of_decide_eq_true hd
      | false => rw [hd] at e2; simp at e2
    have hc := scale_back _ b2.1 b2.2 h3
    rw [layC_iC', lay_12]
    rw [show 8 = 4 + 4 from rfl, take_split, take_4 (by omega), num4_V, lows_back hm 4 4 (by omega) (by omega), e0, r0, ab_back _ b1.1 b1.2, hc, u8_id b3]
    all_goals rfl
theorem can_13 {l : List Int} (hm : BY l) (e0 : l.getD 0 0 = 13) {n : Nat} {f : List SV} (e : instO l 13 = .ok n false f) : layC f = l.take n := by
  rw [io_13] at e
  have r0 : u8 13 = 13 := rfl
  have b1 := getD_rng hm.2 1
  have b2 := getD_rng hm.2 2
  have b3 := getD_rng hm.2 3
  by_cases h0 : l.length < 7
  · rw [if_pos h0] at e; cases e
  rw [if_neg h0] at e
  injection e with e1 e2 e3
  subst e1 e3
  rw [layC_iC', lay_13]
  rw [show 7 = 3 + 4 from rfl, take_split, take_3 (by omega), num4_V, lows_back hm 3 4 (by omega) (by omega), e0, r0, ab_back _ b1.1 b1.2, u8_id b2]
  all_goals rfl
theorem can_14 {l : List Int} (hm : BY l) (e0 : l.getD 0 0 = 14) {n : Nat} {f : List SV} (e : instO l 14 = .ok n false f) : layC f = l.take n := by
  rw [io_14] at e
  have r0 : u8 14 = 14 := rfl
  have b1 := getD_rng hm.2 1
  have b2 := getD_rng hm.2 2
  have b3 := getD_rng hm.2 3
  by_cases h0 : l.length < 8
  · rw [if_pos h0] at e; cases e
  rw [if_neg h0] at e
  by_cases h1 : l.getD 2 0 = 15
  · rw [if_pos h1] at e
    injection e with e1 e2 e3
    subst e1 e3
    have hc := scale_15 _ h1
    rw [layC_iC', lay_14]
    rw [show 8 = 4 + 4 from rfl, take_split, take_4 (by omega), num4_V, lows_back hm 4 4 (by omega) (by omega), e0, r0, ab_back _ b1.1 b1.2, hc, u8_id b3]
    all_goals rfl
  · rw [if_neg h1] at e
    injection e with e1 e2 e3
    subst e1 e3
    have h3 : l.getD 2 0 % 16 ≤ 3 := by
      cases hd : decide (l.getD 2 0 % 16 ≤ 3) with
      | true => exact of_decide_eq_true hd
      | false => rw [hd] at e2; simp at e2
    have hc := scale_back _ b2.1 b2.2 h3
    rw [layC_iC', lay_14]
    rw [show 8 = 4 + 4 from rfl, take_split, take_4 (by omega), num4_V, lows_back hm 4 4 (by omega) (by omega), e0, r0, ab_back _ b1.1 b1.2, hc, u8_id b3]
    all_goals rfl
theorem can_15 {l : List Int} (hm : BY l) (e0 : l.getD 0 0 = 15) {n : Nat} {f : List SV} (e : instO l 15 = .ok n false f) : layC f = l.take n := by
  rw [io_15] at e
  have r0 : u8 15 = 15 := rfl
  have b1 := getD_rng hm.2 1
  have b2 := getD_rng hm.2 2
  have b3 := getD_rng hm.2 3
  by_cases h0 : l.length < 3
  · rw [if_pos h0] at e; cases e
  rw [if_neg h0] at e
  injection e with e1 e2 e3
  subst e1 e3
  rw [layC_iC', lay_15]
  rw [take_3 (by omega), e0, r0, ab_back _ b1.1 b1.2, u8_id b2]
  rfl
theorem can_16 {l : List Int} (hm : BY l) (e0 : l.getD 0 0 = 16) {n : Nat} {f : List SV} (e : instO l 16 = .ok n false f) : layC f = l.take n := by
  rw [io_16] at e
  have r0 : u8 16 = 16 := rfl
  have b1 := getD_rng hm.2 1
  have b2 := getD_rng hm.2 2
  have b3 := getD_rng hm.2 3
  by_cases h0 : l.length < 3
  · rw [if_pos h0] at e; cases e
  rw [if_neg h0] at e
  injection e with e1 e2 e3
  subst e1 e3
  rw [layC_iC', lay_16]
  rw [take_3 (by omega), e0, r0, ab_back _ b1.1 b1.2, u8_id b2]
  rfl
theorem can_17 {l : List Int} (hm : BY l) (e0 : l.getD 0 0 = 17) {n : Nat} {f : List SV} (e : instO l 17 = .ok n false f) : layC f = l.take n := by
  rw [io_17] at e
  have r0 : u8 17 = 17 := rfl
  have b1 := getD_rng hm.2 1
  have b2 := getD_rng hm.2 2
  have b3 := getD_rng hm.2 3
  by_cases h0 : l.length < 2
  · rw [if_pos h0] at e; cases e
  rw [if_neg h0] at e
  by_cases h1 : 1 < (l.getD 1 0 % 16)
  · rw [if_pos h1] at e; cases e
  rw [if_neg h1] at e
  by_cases h2 : l.length < 3 + bytesF (l.getD 1 0 % 16)
  · rw [if_pos h2] at e; cases e
  rw [if_neg h2] at e
  injection e with e1 e2 e3
  subst e1 e3
  rw [Bool.or_eq_false_iff] at e2
  have e4 := e2.2
  rw [Bool.not_eq_false'] at e4
  have hs := least_of (sz := (l.getD 1 0 % 16)) (by omega) (by omega) e4
  rw [layC_iC', lay_17]
  rw [hs, take_split, take_3 (by omega), lows_back hm 3 _ (bytes_3 _) (by omega), e0, r0, ab_back2 _ _ b1.1 b1.2 rfl, u8_id b2]
  all_goals rfl
theorem can_18 {l : List Int} (hm : BY l) (e0 : l.getD 0 0 = 18) {n : Nat} {f : List SV} (e : instO l 18 = .ok n false f) : layC f = l.take n := by
  rw [io_18] at e
  have r0 : u8 18 = 18 := rfl
  have b1 := getD_rng hm.2 1
  have b2 := getD_rng hm.2 2
  have b3 := getD_rng hm.2 3
  by_cases h0 : l.length < 3
  · rw [if_pos h0] at e; cases e
  rw [if_neg h0] at e
  injection e with e1 e2 e3
  subst e1 e3
  rw [layC_iC', lay_18]
  rw [take_3 (by omega), e0, r0, ab_back _ b1.1 b1.2, u8_id b2]
  rfl
theorem can_19 {l : List Int} (hm : BY l) (e0 : l.getD 0 0 = 19) {n : Nat} {f : List SV} (e : instO l 19 = .ok n false f) : layC f = l.take n := by
  rw [io_19] at e
  have r0 : u8 19 = 19 := rfl
  have b1 := getD_rng hm.2 1
  have b2 := getD_rng hm.2 2
  have b3 := getD_rng hm.2 3
  by_cases h0 : l.length < 2
  · rw [if_pos h0] at e; cases e
  rw [if_neg h0] at e
  by_cases h1 : 1 < (l.getD 1 0)
  · rw [if_pos h1] at e; cases e
  rw [if_neg h1] at e
  by_cases h2 : l.length < 2 + bytesF (l.getD 1 0)
  · rw [if_pos h2] at e; cases e
  rw [if_neg h2] at e
  injection e with e1 e2 e3
  subst e1 e3
  rw [Bool.or_eq_false_iff] at e2
  have e4 := e2.2
  rw [Bool.not_eq_false'] at e4
  have hs := least_of (sz := (l.getD 1 0)) (by omega) (by omega) e4
  have hj : u8 (l.getD 1 0) = l.getD 1 0 := u8_id b1
  rw [layC_iC', lay_19]
  rw [hs, take_split, take_2 (by omega), lows_back hm 2 _ (bytes_3 _) (by omega), e0, r0, hj]
  all_goals rfl
theorem can_22 {l : List Int} (hm : BY l) (e0 : l.getD 0 0 = 22) {n : Nat} {f : List SV} (e : instO l 22 = .ok n false f) : layC f = l.take n := by
  rw [io_22] at e
  have r0 : u8 22 = 22 := rfl
  have b1 := getD_rng hm.2 1
  have b2 := getD_rng hm.2 2
  have b3 := getD_rng hm.2 3
  by_cases h0 : l.length < 2
  · rw [if_pos h0] at e; cases e
  rw [if_neg h0] at e
  by_cases h1 : 1 < (l.getD 1 0 % 16)
  · rw [if_pos h1] at e; cases e
  rw [if_neg h1] at e
  by_cases h2 : l.length < 2 + bytesF (l.getD 1 0 % 16)
  · rw [if_pos h2] at e; cases e
  rw [if_neg h2] at e
  injection e with e1 e2 e3
  subst e1 e3
  rw [Bool.or_eq_false_iff] at e2
  have e4 := e2.2
  rw [Bool.not_eq_false'] at e4
  have hs := least_of (sz := (l.getD 1 0 % 16)) (by omega) (by omega) e4
  rw [layC_iC', lay_22]
  rw [hs, take_split, take_2 (by omega), lows_back hm 2 _ (bytes_3 _) (by omega), e0, r0, jcc_back _ _ b1.1 b1.2 rfl]
  all_goals rfl
theorem can_23 {l : List Int} (hm : BY l) (e0 : l.getD 0 0 = 23) {n : Nat} {f : List SV} (e : instO l 23 = .ok n false f) : layC f = l.take n := by
  rw [io_23] at e
  have r0 : u8 23 = 23 := rfl
  have b1 := getD_rng hm.2 1
  have b2 := getD_rng hm.2 2
  have b3 := getD_rng hm.2 3
  by_cases h0 : l.length < 5
  · rw [if_pos h0] at e; cases e
  rw [if_neg h0] at e
  injection e with e1 e2 e3
  subst e1 e3
  rw [layC_iC', lay_23]
  rw [show 5 = 1 + 4 from rfl, take_split, take_1 (by omega), num4_V, lows_back hm 1 4 (by omega) (by omega), e0, r0]
  all_goals rfl
theorem can_24 {l : List Int} (hm : BY l) (e0 : l.getD 0 0 = 24) {n : Nat} {f : List SV} (e : instO l 24 = .ok n false f) : layC f = l.take n := by
  rw [io_24] at e
  have r0 : u8 24 = 24 := rfl
  have b1 := getD_rng hm.2 1
  have b2 := getD_rng hm.2 2
  have b3 := getD_rng hm.2 3
  by_cases h0 : l.length < 1
  · rw [if_pos h0] at e; cases e
  rw [if_neg h0] at e
  injection e with e1 e2 e3
  subst e1 e3
  rw [layC_iC', lay_24]
  rw [take_1 (by omega), e0, r0]
theorem can_25 {l : List Int} (hm : BY l) (e0 : l.getD 0 0 = 25) {n : Nat} {f : List SV} (e : instO l 25 = .ok n false f) : layC f = l.take n := by
  rw [io_25] at e
  have r0 : u8 25 = 25 := rfl
  have b1 := getD_rng hm.2 1
  have b2 := getD_rng hm.2 2
  have b3 := getD_rng hm.2 3
  by_cases h0 : l.length < 5
  · rw [if_pos h0] at e; cases e
  rw [if_neg h0] at e
  injection e with e1 e2 e3
  subst e1 e3
  rw [layC_iC', lay_25]
  rw [show 5 = 1 + 4 from rfl, take_split, take_1 (by omega), num4_V, lows_back hm 1 4 (by omega) (by omega), e0, r0]
  all_goals rfl
theorem can_26 {l : List Int} (hm : BY l) (e0 : l.getD 0 0 = 26) {n : Nat} {f : List SV} (e : instO l 26 = .ok n false f) : layC f = l.take n := by
  rw [io_26] at e
  have r0 : u8 26 = 26 := rfl
  have b1 := getD_rng hm.2 1
  have b2 := getD_rng hm.2 2
  have b3 := getD_rng hm.2 3
  by_cases h0 : l.length < 2
  · rw [if_pos h0] at e; cases e
  rw [if_neg h0] at e
  injection e with e1 e2 e3
  subst e1 e3
  rw [layC_iC', lay_26]
  rw [take_2 (by omega), e0, r0, ab_back _ b1.1 b1.2]
  rfl
theorem can_27 {l : List Int} (hm : BY l) (e0 : l.getD 0 0 = 27) {n : Nat} {f : List SV} (e : instO l 27 = .ok n false f) : layC f = l.take n := by
  rw [io_27] at e
  have r0 : u8 27 = 27 := rfl
  have b1 := getD_rng hm.2 1
  have b2 := getD_rng hm.2 2
  have b3 := getD_rng hm.2 3
  by_cases h0 : l.length < 2
  · rw [if_pos h0] at e; cases e
  rw [if_neg h0] at e
  injection e with e1 e2 e3
  subst e1 e3
  rw [layC_iC', lay_27]
  rw [take_2 (by omega), e0, r0, ab_back _ b1.1 b1.2]
  rfl
theorem can_28 {l : List Int} (hm : BY l) (e0 : l.getD 0 0 = 28) {n : Nat} {f : List SV} (e : instO l 28 = .ok n false f) : layC f = l.take n := by
  rw [io_28] at e
  have r0 : u8 28 = 28 := rfl
  have b1 := getD_rng hm.2 1
  have b2 := getD_rng hm.2 2
  have b3 := getD_rng hm.2 3
  by_cases h0 : l.length < 2
  · rw [if_pos h0] at e; cases e
  rw [if_neg h0] at e
  injection e with e1 e2 e3
  subst e1 e3
  rw [layC_iC', lay_28]
  rw [take_2 (by omega), e0, r0, ab_back _ b1.1 b1.2]
  rfl
theorem can_29 {l : List Int} (hm : BY l) (e0 : l.getD 0 0 = 29) {n : Nat} {f : List SV} (e : instO l 29 = .ok n false f) : layC f = l.take n := by
  rw [io_29] at e
  have r0 : u8 29 = 29 := rfl
  have b1 := getD_rng hm.2 1
  have b2 := getD_rng hm.2 2
  have b3 := getD_rng hm.2 3
  by_cases h0 : l.length < 5
  · rw [if_pos h0] at e; cases e
  rw [if_neg h0] at e
  injection e with e1 e2 e3
  subst e1 e3
  rw [layC_iC', lay_29]
  rw [show 5 = 1 + 4 from rfl, take_split, take_1 (by omega), num4_V, lows_back hm 1 4 (by omega) (by omega), e0, r0]
  all_goals rfl
end Go.Proofs.Ytahepinbmcgbnaa.Vm
