/- An instruction's bytes are read as it is just where May says so. Printed by wip/tools/genVp7.py. No condition. -/
import Derived.Test.YtahepinbmcgbnaaVpX
set_option linter.unusedVariables false
set_option linter.unusedSimpArgs false
namespace Go.Proofs.Ytahepinbmcgbnaa.Vm
open Go.RowKit Go.Proofs.Ytahepinbmcgbnaa.PV Go.Proofs.Ytahepinbmcgbnaa.Wd Go.Proofs.YtahepinbmcgbnaaW.PrintWords
theorem scaleF_rng (z : Int) : Reg (scaleF z) := by unfold scaleF Reg; repeat' split; all_goals omega
theorem scaled_yes {o c z : Int} (h : scaledF o c z = true) (rc : Reg c) : (u8 (abF c (scaleF z)) = 15 ∧ z = 0 ∧ c = 0 ∧ o = 10) ∨ (u8 (abF c (scaleF z)) ≠ 15 ∧ u8 (abF c (scaleF z)) % 16 ≤ 3 ∧ u8 (abF c (scaleF z)) / 16 = c ∧ 2 ^ (u8 (abF c (scaleF z)) % 16).toNat = z) := by
 simp only [scaledF, Bool.or_eq_true, Bool.and_eq_true, beq_iff_eq] at h
 have h1 := ab_lo c _ (scaleF_rng z)
 have h2 := ab_hi c _ rc (scaleF_rng z)
 rcases h with (((rfl | rfl) | rfl) | rfl) | ⟨rfl, rfl, rfl⟩
 ·right; rw [show scaleF 1 = 0 from rfl] at *; rw [h1, h2]; exact ⟨by omega, by omega, rfl, rfl⟩
 ·right; rw [show scaleF 2 = 1 from rfl] at *; rw [h1, h2]; exact ⟨by omega, by omega, rfl, rfl⟩
 ·right; rw [show scaleF 4 = 2 from rfl] at *; rw [h1, h2]; exact ⟨by omega, by omega, rfl, rfl⟩
 ·right; rw [show scaleF 8 = 3 from rfl] at *; rw [h1, h2]; exact ⟨by omega, by omega, rfl, rfl⟩
 ·left; exact ⟨rfl, rfl, rfl, rfl⟩
theorem scaled_no {o c z x : Int} (h0 : 0 ≤ x) (h3 : x % 16 ≤ 3) (hz : 2 ^ (x % 16).toNat = z) : scaledF o c z = true ∧ (2 : Int) ^ (x % 16).toNat ≠ 0 := by
 subst hz
 rcases (show x % 16 = 0 ∨ x % 16 = 1 ∨ x % 16 = 2 ∨ x % 16 = 3 by omega) with h | h | h | h <;> rw [h] <;> simp [scaledF]
theorem jcc_s {s t : Int} (h : Reg t) : (11 + u8 (abF (IntKind.i64.wrap (s - 11)) t) / 16 = s → 11 ≤ s ∧ s ≤ 26) ∧ (11 ≤ s ∧ s ≤ 16 → 11 + u8 (abF (IntKind.i64.wrap (s - 11)) t) / 16 = s) := by
 have := u8_rng (abF (IntKind.i64.wrap (s - 11)) t)
 refine ⟨fun q => by omega, fun q => ?_⟩
 rw [i64_in _ (by omega) (by omega), ab_hi _ _ (by unfold Reg; omega) h]
 omega
theorem instD_at {L : List Int} {o : Int} (h : 1 ≤ L.length) (g : L.getD 0 0 = o) : instD L = instO L o := by
 unfold instD; rw [if_neg (by omega), g]
set_option maxHeartbeats 1000000 in
theorem f1_1 (a b c k s z i m : Int) (hi : -9223372036854775808 ≤ i ∧ i ≤ 9223372036854775807) : decR (layF 1 a b c k s z i) = (iC 1 a b c k s z i m, (layF 1 a b c k s z i).length, 0) ↔ mayF 1 a b c k s z i m = true := by
 have hr := lay_rng 1 a b c k s z i
 have hln := lay_len 1 a b c k s z i
 have lr := least_rng i
 have lg := least_reg i
 have hn : numV (layF 1 a b c k s z i) 2 (bytesF (leastF i)) = i := by
  rw [lay_1] at hr ⊢
  exact (numV_lows (pre := ([u8 1] ++ [u8 (abF a (leastF i))])) rfl hr (bF_le _)).trans (sg_least i hi.1 hi.2)
 have gl : (layF 1 a b c k s z i).length = (2 + bytesF (leastF i)) := by rw [lay_1]; simp [lows_len]; omega
 have g0 : (layF 1 a b c k s z i).getD 0 0 = 1 := rfl
 have g1 : (layF 1 a b c k s z i).getD 1 0 = u8 (abF a (leastF i)) := rfl
 generalize layF 1 a b c k s z i = L at *
 rw [gl]
 have hz : ((u8 (abF a (leastF i))) % 16) = leastF i := ab_lo _ _ lg
 have nb := bF_ge (leastF i)
 have H : instD L = .ok (2 + bytesF (leastF i)) (false || !inR i (sizedF (leastF i) (-9223372036854775808) 9223372036854775807)) (iC 1 ((u8 (abF a (leastF i))) / 16) 0 0 0 0 0 i 0) := by
  rw [instD_at (by omega) g0, io_1, if_neg (by omega), g1, hz, if_neg (by omega), if_neg (by omega), hn]
 rw [decR_iff H (by omega), may_iff_1]
 constructor
 ·rintro ⟨hb, hA, hB, hC, hK, hS, hZ, hI, hm⟩
  exact ⟨hm, reg_hi hA, (by rw [← hB]; exact reg_0), (by rw [← hC]; exact reg_0), hB.symm, hC.symm, hZ.symm, hK.symm, hS.symm, trivial⟩
 ·rintro ⟨m0, ra, rb, rc, ub, uc, uz, uk, us, tl⟩
  have hA := ab_hi a _ ra lg
  exact ⟨bad1 i hi, hA, ub.symm, uc.symm, uk.symm, us.symm, uz.symm, rfl, m0⟩
set_option maxHeartbeats 1000000 in
theorem f1_3 (a b c k s z i m : Int) (hi : -9223372036854775808 ≤ i ∧ i ≤ 9223372036854775807) : decR (layF 3 a b c k s z i) = (iC 3 a b c k s z i m, (layF 3 a b c k s z i).length, 0) ↔ mayF 3 a b c k s z i m = true := by
 have hr := lay_rng 3 a b c k s z i
 have hln := lay_len 3 a b c k s z i
 have lr := least_rng i
 have lg := least_reg i
 have gl : (layF 3 a b c k s z i).length = 2 := by rw [lay_3]; simp [lows_len]
 have g0 : (layF 3 a b c k s z i).getD 0 0 = 3 := rfl
 have g1 : (layF 3 a b c k s z i).getD 1 0 = u8 (abF a b) := rfl
 generalize layF 3 a b c k s z i = L at *
 rw [gl]
 have H : instD L = .ok 2 (false) (iC 3 ((u8 (abF a b)) / 16) ((u8 (abF a b)) % 16) 0 0 0 0 0 0) := by
  rw [instD_at (by omega) g0, io_3, if_neg (by omega), g1]
 rw [decR_iff H (by omega), may_iff_3]
 constructor
 ·rintro ⟨hb, hA, hB, hC, hK, hS, hZ, hI, hm⟩
  exact ⟨hm, reg_hi hA, reg_lo hB, (by rw [← hC]; exact reg_0), hC.symm, hZ.symm, hK.symm, hS.symm, hI.symm, (by omega), trivial⟩
 ·rintro ⟨m0, ra, rb, rc, uc, uz, uk, us, ui, sm, tl⟩
  have hA := ab_hi a b ra rb
  have hB := ab_lo a b rb
  exact ⟨rfl, hA, hB, uc.symm, uk.symm, us.symm, uz.symm, ui.symm, m0⟩
set_option maxHeartbeats 1000000 in
theorem f1_4 (a b c k s z i m : Int) (hi : -9223372036854775808 ≤ i ∧ i ≤ 9223372036854775807) : decR (layF 4 a b c k s z i) = (iC 4 a b c k s z i m, (layF 4 a b c k s z i).length, 0) ↔ mayF 4 a b c k s z i m = true := by
 have hr := lay_rng 4 a b c k s z i
 have hln := lay_len 4 a b c k s z i
 have lr := least_rng i
 have lg := least_reg i
 have gl : (layF 4 a b c k s z i).length = 4 := by rw [lay_4]; simp [lows_len]
 have g0 : (layF 4 a b c k s z i).getD 0 0 = 4 := rfl
 have g1 : (layF 4 a b c k s z i).getD 1 0 = u8 (abF a b) := rfl
 have g2 : (layF 4 a b c k s z i).getD 2 0 = u8 k := rfl
 have g3 : (layF 4 a b c k s z i).getD 3 0 = u8 s := rfl
 generalize layF 4 a b c k s z i = L at *
 rw [gl]
 have H : instD L = .ok 4 ((((false || !decide (Wi (u8 k) > 0)) || !has (u8 s) (u8 k)) || !cnd1 (u8 k) (u8 s) ((u8 (abF a b)) / 16) ((u8 (abF a b)) % 16)) || !cnd2 (u8 s) ((u8 (abF a b)) / 16) ((u8 (abF a b)) % 16)) (iC 4 ((u8 (abF a b)) / 16) ((u8 (abF a b)) % 16) 0 (u8 k) (u8 s) 0 0 0) := by
  rw [instD_at (by omega) g0, io_4, if_neg (by omega), g1, g2, g3]
 rw [decR_iff H (by omega), may_iff_4]
 constructor
 ·rintro ⟨hb, hA, hB, hC, hK, hS, hZ, hI, hm⟩
  rw [hA, hB, hK, hS] at hb
  have hb := (bad4 _ _ _ _).1 hb
  exact ⟨hm, reg_hi hA, reg_lo hB, (by rw [← hC]; exact reg_0), hC.symm, hZ.symm, hI.symm, (by omega), hb⟩
 ·rintro ⟨m0, ra, rb, rc, uc, uz, ui, sm, tl⟩
  have hA := ab_hi a b ra rb
  have hB := ab_lo a b rb
  have hK : u8 k = k := u8_id (by have := has_rng (by simp only [binaryF, Bool.and_eq_true] at tl; exact tl.1); omega)
  have hS : u8 s = s := u8_id (by have := has_rng (by simp only [binaryF, Bool.and_eq_true] at tl; exact tl.1); omega)
  exact ⟨(by rw [hA, hB, hK, hS]; exact (bad4 _ _ _ _).2 tl), hA, hB, uc.symm, hK, hS, uz.symm, ui.symm, m0⟩
set_option maxHeartbeats 1000000 in
theorem f1_5 (a b c k s z i m : Int) (hi : -9223372036854775808 ≤ i ∧ i ≤ 9223372036854775807) : decR (layF 5 a b c k s z i) = (iC 5 a b c k s z i m, (layF 5 a b c k s z i).length, 0) ↔ mayF 5 a b c k s z i m = true := by
 have hr := lay_rng 5 a b c k s z i
 have hln := lay_len 5 a b c k s z i
 have lr := least_rng i
 have lg := least_reg i
 have hn : numV (layF 5 a b c k s z i) 4 (bytesF (leastF i)) = i := by
  rw [lay_5] at hr ⊢
  exact (numV_lows (pre := ((([u8 5] ++ [u8 (abF a (leastF i))]) ++ [u8 k]) ++ [u8 s])) rfl hr (bF_le _)).trans (sg_least i hi.1 hi.2)
 have gl : (layF 5 a b c k s z i).length = (4 + bytesF (leastF i)) := by rw [lay_5]; simp [lows_len]; omega
 have g0 : (layF 5 a b c k s z i).getD 0 0 = 5 := rfl
 have g1 : (layF 5 a b c k s z i).getD 1 0 = u8 (abF a (leastF i)) := rfl
 have g2 : (layF 5 a b c k s z i).getD 2 0 = u8 k := rfl
 have g3 : (layF 5 a b c k s z i).getD 3 0 = u8 s := rfl
 generalize layF 5 a b c k s z i = L at *
 rw [gl]
 have hz : ((u8 (abF a (leastF i))) % 16) = leastF i := ab_lo _ _ lg
 have nb := bF_ge (leastF i)
 by_cases hl : 1 < leastF i
 ·have H : instD L = .form := by
   rw [instD_at (by omega) g0, io_5, if_neg (by omega), g1, g2, g3, hz, if_pos hl]
  rw [may_iff_5]
  constructor
  ·intro h; exact absurd h (decR_form H)
  ·rintro ⟨m0, ra, rb, rc, ub, uc, uz, sm, tl⟩
   exact absurd hl (small_least sm)
 have H : instD L = .ok (4 + bytesF (leastF i)) ((((false || !decide (Wi (u8 k) > 0)) || !wh (u8 k)) || !cnd5 (u8 k) (u8 s)) || !inR i (sizedF (leastF i) (heldF (if sh (u8 s) = true then 9 else (u8 k))).1 (heldF (if sh (u8 s) = true then 9 else (u8 k))).2)) (iC 5 ((u8 (abF a (leastF i))) / 16) 0 0 (u8 k) (u8 s) 0 i 0) := by
  rw [instD_at (by omega) g0, io_5, if_neg (by omega), g1, g2, g3, hz, if_neg (by omega), if_neg (by omega), hn]
 rw [decR_iff H (by omega), may_iff_5]
 constructor
 ·rintro ⟨hb, hA, hB, hC, hK, hS, hZ, hI, hm⟩
  rw [hK, hS] at hb
  have hb := (bad5 _ _ i hi hl).1 hb
  exact ⟨hm, reg_hi hA, (by rw [← hB]; exact reg_0), (by rw [← hC]; exact reg_0), hB.symm, hC.symm, hZ.symm, least_small hl, hb⟩
 ·rintro ⟨m0, ra, rb, rc, ub, uc, uz, sm, tl⟩
  have hA := ab_hi a _ ra lg
  have hK : u8 k = k := u8_id (by simp only [immF, Bool.and_eq_true] at tl; have := has_rng tl.1.1.1.1.2; omega)
  have hS : u8 s = s := u8_id (by simp only [immF, Bool.and_eq_true] at tl; have := has_rng tl.1.1.1.1.2; omega)
  exact ⟨(by rw [hK, hS]; exact (bad5 _ _ i hi hl).2 tl), hA, ub.symm, uc.symm, hK, hS, uz.symm, rfl, m0⟩
set_option maxHeartbeats 1000000 in
theorem f1_6 (a b c k s z i m : Int) (hi : -9223372036854775808 ≤ i ∧ i ≤ 9223372036854775807) : decR (layF 6 a b c k s z i) = (iC 6 a b c k s z i m, (layF 6 a b c k s z i).length, 0) ↔ mayF 6 a b c k s z i m = true := by
 have hr := lay_rng 6 a b c k s z i
 have hln := lay_len 6 a b c k s z i
 have lr := least_rng i
 have lg := least_reg i
 have hn : numV (layF 6 a b c k s z i) 4 4 = sgR 4 (i % 256 ^ 4) := by
  rw [lay_6] at hr ⊢
  exact numV_lows (pre := ((([u8 6] ++ [u8 (abF a b)]) ++ [u8 k]) ++ [u8 s])) rfl hr (by omega)
 have gl : (layF 6 a b c k s z i).length = (4 + 4) := by rw [lay_6]; simp [lows_len]
 have g0 : (layF 6 a b c k s z i).getD 0 0 = 6 := rfl
 have g1 : (layF 6 a b c k s z i).getD 1 0 = u8 (abF a b) := rfl
 have g2 : (layF 6 a b c k s z i).getD 2 0 = u8 k := rfl
 have g3 : (layF 6 a b c k s z i).getD 3 0 = u8 s := rfl
 generalize layF 6 a b c k s z i = L at *
 rw [gl]
 have H : instD L = .ok 8 (((false || !decide (Wi (u8 k) > 0)) || !cnd6 (u8 k) (u8 s)) || !small (sgR 4 (i % 256 ^ 4))) (iC 6 ((u8 (abF a b)) / 16) ((u8 (abF a b)) % 16) 0 (u8 k) (u8 s) 0 (sgR 4 (i % 256 ^ 4)) 0) := by
  rw [instD_at (by omega) g0, io_6, if_neg (by omega), g1, g2, g3, num4_V, hn]
 rw [show (4 + 4) = 8 from rfl]
 rw [decR_iff H (by omega), may_iff_6]
 constructor
 ·rintro ⟨hb, hA, hB, hC, hK, hS, hZ, hI, hm⟩
  rw [hK, hS, hI] at hb
  have hb := (bad6 _ _ _).1 hb
  exact ⟨hm, reg_hi hA, reg_lo hB, (by rw [← hC]; exact reg_0), hC.symm, hZ.symm, (sg_small i).1 hI, hb.1⟩
 ·rintro ⟨m0, ra, rb, rc, uc, uz, sm, tl⟩
  have hA := ab_hi a b ra rb
  have hB := ab_lo a b rb
  have hK : u8 k = k := u8_id (by simp only [Bool.and_eq_true] at tl; have := has_rng tl.1.1; omega)
  have hS : u8 s = s := u8_id (by simp only [Bool.and_eq_true] at tl; have := has_rng tl.1.1; omega)
  have hI := (sg_small i).2 sm
  exact ⟨(by rw [hK, hS, hI]; exact (bad6 _ _ _).2 ⟨tl, sm⟩), hA, hB, uc.symm, hK, hS, uz.symm, hI, m0⟩
set_option maxHeartbeats 1000000 in
theorem f1_7 (a b c k s z i m : Int) (hi : -9223372036854775808 ≤ i ∧ i ≤ 9223372036854775807) : decR (layF 7 a b c k s z i) = (iC 7 a b c k s z i m, (layF 7 a b c k s z i).length, 0) ↔ mayF 7 a b c k s z i m = true := by
 have hr := lay_rng 7 a b c k s z i
 have hln := lay_len 7 a b c k s z i
 have lr := least_rng i
 have lg := least_reg i
 have gl : (layF 7 a b c k s z i).length = 4 := by rw [lay_7]; simp [lows_len]
 have g0 : (layF 7 a b c k s z i).getD 0 0 = 7 := rfl
 have g1 : (layF 7 a b c k s z i).getD 1 0 = u8 (abF a b) := rfl
 have g2 : (layF 7 a b c k s z i).getD 2 0 = u8 k := rfl
 have g3 : (layF 7 a b c k s z i).getD 3 0 = u8 s := rfl
 generalize layF 7 a b c k s z i = L at *
 rw [gl]
 have H : instD L = .ok 4 ((((false || !((u8 (abF a b)) % 16 == 0)) || !decide (Wi (u8 k) > 0)) || !((u8 k) != 11)) || !hasU (u8 s) (u8 k)) (iC 7 ((u8 (abF a b)) / 16) ((u8 (abF a b)) % 16) 0 (u8 k) (u8 s) 0 0 0) := by
  rw [instD_at (by omega) g0, io_7, if_neg (by omega), g1, g2, g3]
 rw [decR_iff H (by omega), may_iff_7]
 constructor
 ·rintro ⟨hb, hA, hB, hC, hK, hS, hZ, hI, hm⟩
  rw [hB, hK, hS] at hb
  have hb := (bad7 _ _ _).1 hb
  exact ⟨hm, reg_hi hA, reg_lo hB, (by rw [← hC]; exact reg_0), hb.1, hC.symm, hZ.symm, hI.symm, (by omega), hb.2⟩
 ·rintro ⟨m0, ra, rb, rc, ub, uc, uz, ui, sm, tl⟩
  have hA := ab_hi a b ra rb
  have hB := ab_lo a b rb
  have hK : u8 k = k := u8_id (by have := hasU_rng tl; omega)
  have hS : u8 s = s := u8_id (by have := hasU_rng tl; omega)
  exact ⟨(by rw [hB, hK, hS]; exact (bad7 _ _ _).2 ⟨ub, tl⟩), hA, hB, uc.symm, hK, hS, uz.symm, ui.symm, m0⟩
set_option maxHeartbeats 1000000 in
theorem f1_8 (a b c k s z i m : Int) (hi : -9223372036854775808 ≤ i ∧ i ≤ 9223372036854775807) : decR (layF 8 a b c k s z i) = (iC 8 a b c k s z i m, (layF 8 a b c k s z i).length, 0) ↔ mayF 8 a b c k s z i m = true := by
 have hr := lay_rng 8 a b c k s z i
 have hln := lay_len 8 a b c k s z i
 have lr := least_rng i
 have lg := least_reg i
 have gl : (layF 8 a b c k s z i).length = 4 := by rw [lay_8]; simp [lows_len]
 have g0 : (layF 8 a b c k s z i).getD 0 0 = 8 := rfl
 have g1 : (layF 8 a b c k s z i).getD 1 0 = u8 (abF a b) := rfl
 have g2 : (layF 8 a b c k s z i).getD 2 0 = u8 k := rfl
 have g3 : (layF 8 a b c k s z i).getD 3 0 = u8 s := rfl
 generalize layF 8 a b c k s z i = L at *
 rw [gl]
 have H : instD L = .ok 4 ((((false || !decide (Wi (u8 k) > 0)) || !nm (u8 k))) || !nm (u8 s)) (iC 8 ((u8 (abF a b)) / 16) ((u8 (abF a b)) % 16) 0 (u8 k) (u8 s) 0 0 0) := by
  rw [instD_at (by omega) g0, io_8, if_neg (by omega), g1, g2, g3]
 rw [decR_iff H (by omega), may_iff_8]
 constructor
 ·rintro ⟨hb, hA, hB, hC, hK, hS, hZ, hI, hm⟩
  rw [hK, hS] at hb
  have hb := (bad8 _ _).1 hb
  exact ⟨hm, reg_hi hA, reg_lo hB, (by rw [← hC]; exact reg_0), hC.symm, hZ.symm, hI.symm, (by omega), hb⟩
 ·rintro ⟨m0, ra, rb, rc, uc, uz, ui, sm, tl⟩
  have hA := ab_hi a b ra rb
  have hB := ab_lo a b rb
  have hK : u8 k = k := u8_id (by rw [Bool.and_eq_true] at tl; have := nm_rng (k := k) tl.2; omega)
  have hS : u8 s = s := u8_id (by rw [Bool.and_eq_true] at tl; have := nm_rng (k := s) tl.1; omega)
  exact ⟨(by rw [hK, hS]; exact (bad8 _ _).2 tl), hA, hB, uc.symm, hK, hS, uz.symm, ui.symm, m0⟩
set_option maxHeartbeats 1000000 in
theorem f1_10 (a b c k s z i m : Int) (hi : -9223372036854775808 ≤ i ∧ i ≤ 9223372036854775807) : decR (layF 10 a b c k s z i) = (iC 10 a b c k s z i m, (layF 10 a b c k s z i).length, 0) ↔ mayF 10 a b c k s z i m = true := by
 have hr := lay_rng 10 a b c k s z i
 have hln := lay_len 10 a b c k s z i
 have lr := least_rng i
 have lg := least_reg i
 have hn : numV (layF 10 a b c k s z i) 3 4 = sgR 4 (i % 256 ^ 4) := by
  rw [lay_10] at hr ⊢
  exact numV_lows (pre := (([u8 10] ++ [u8 (abF a b)]) ++ [u8 (abF c (scaleF z))])) rfl hr (by omega)
 have gl : (layF 10 a b c k s z i).length = (3 + 4) := by rw [lay_10]; simp [lows_len]
 have g0 : (layF 10 a b c k s z i).getD 0 0 = 10 := rfl
 have g1 : (layF 10 a b c k s z i).getD 1 0 = u8 (abF a b) := rfl
 have g2 : (layF 10 a b c k s z i).getD 2 0 = u8 (abF c (scaleF z)) := rfl
 generalize layF 10 a b c k s z i = L at *
 rw [gl]
 rw [show (3 + 4) = 7 from rfl]
 have xr := u8_rng (abF c (scaleF z))
 by_cases hx : u8 (abF c (scaleF z)) = 15
 ·have H : instD L = .ok 7 (false || !small (sgR 4 (i % 256 ^ 4))) (iC 10 ((u8 (abF a b)) / 16) ((u8 (abF a b)) % 16) 0 0 0 0 (sgR 4 (i % 256 ^ 4)) 0) := by
   rw [instD_at (by omega) g0, io_10, if_neg (by omega), g1, g2, num4_V, hn, if_pos hx]
  rw [decR_iff H (by omega), may_iff_10]
  constructor
  ·rintro ⟨hb, hA, hB, hC, hK, hS, hZ, hI, hm⟩
   rw [hI] at hb
   exact ⟨hm, reg_hi hA, reg_lo hB, (by rw [← hC]; exact reg_0), hK.symm, hS.symm, (sg_small i).1 hI, (by rw [← hC, ← hZ]; rfl)⟩
  ·rintro ⟨m0, ra, rb, rc, uk, us, sm, tl⟩
   have hA := ab_hi a b ra rb
   have hB := ab_lo a b rb
   have hI := (sg_small i).2 sm
   have sc := scaled_yes tl rc
   rcases sc with ⟨_, z0, c0, o0⟩ | ⟨x1, _⟩
   rotate_left
   ·exact absurd hx x1
   exact ⟨(by rw [hI, (small_i i).2 sm]; rfl), hA, hB, c0.symm, uk.symm, us.symm, z0.symm, hI, m0⟩
 ·have H : instD L = .ok 7 ((false || !decide ((u8 (abF c (scaleF z))) % 16 ≤ 3)) || !small (sgR 4 (i % 256 ^ 4))) (iC 10 ((u8 (abF a b)) / 16) ((u8 (abF a b)) % 16) ((u8 (abF c (scaleF z))) / 16) 0 0 (2 ^ ((u8 (abF c (scaleF z))) % 16).toNat) (sgR 4 (i % 256 ^ 4)) 0) := by
   rw [instD_at (by omega) g0, io_10, if_neg (by omega), g1, g2, num4_V, hn, if_neg hx]
  rw [decR_iff H (by omega), may_iff_10]
  constructor
  ·rintro ⟨hb, hA, hB, hC, hK, hS, hZ, hI, hm⟩
   rw [hI] at hb
   simp only [Bool.or_eq_false_iff, Bool.not_eq_false', decide_eq_true_iff] at hb
   have h3 := hb.1.2
   exact ⟨hm, reg_hi hA, reg_lo hB, reg_hi hC, hK.symm, hS.symm, (sg_small i).1 hI, (scaled_no xr.1 h3 hZ).1⟩
  ·rintro ⟨m0, ra, rb, rc, uk, us, sm, tl⟩
   have hA := ab_hi a b ra rb
   have hB := ab_lo a b rb
   have hI := (sg_small i).2 sm
   have sc := scaled_yes tl rc
   rcases sc with ⟨x1, _⟩ | ⟨_, h3, hC, hZ⟩
   ·exact absurd x1 hx
   exact ⟨(by rw [hI, (small_i i).2 sm, decide_eq_true h3]; rfl), hA, hB, hC, uk.symm, us.symm, hZ, hI, m0⟩
set_option maxHeartbeats 1000000 in
theorem f1_11 (a b c k s z i m : Int) (hi : -9223372036854775808 ≤ i ∧ i ≤ 9223372036854775807) : decR (layF 11 a b c k s z i) = (iC 11 a b c k s z i m, (layF 11 a b c k s z i).length, 0) ↔ mayF 11 a b c k s z i m = true := by
 have hr := lay_rng 11 a b c k s z i
 have hln := lay_len 11 a b c k s z i
 have lr := least_rng i
 have lg := least_reg i
 have hn : numV (layF 11 a b c k s z i) 3 4 = sgR 4 (i % 256 ^ 4) := by
  rw [lay_11] at hr ⊢
  exact numV_lows (pre := (([u8 11] ++ [u8 (abF a b)]) ++ [u8 k])) rfl hr (by omega)
 have gl : (layF 11 a b c k s z i).length = (3 + 4) := by rw [lay_11]; simp [lows_len]
 have g0 : (layF 11 a b c k s z i).getD 0 0 = 11 := rfl
 have g1 : (layF 11 a b c k s z i).getD 1 0 = u8 (abF a b) := rfl
 have g2 : (layF 11 a b c k s z i).getD 2 0 = u8 k := rfl
 generalize layF 11 a b c k s z i = L at *
 rw [gl]
 have H : instD L = .ok 7 ((false || !decide (Wi (u8 k) > 0)) || !small (sgR 4 (i % 256 ^ 4))) (iC 11 ((u8 (abF a b)) / 16) ((u8 (abF a b)) % 16) 0 (u8 k) 0 0 (sgR 4 (i % 256 ^ 4)) 0) := by
  rw [instD_at (by omega) g0, io_11, if_neg (by omega), g1, g2, num4_V, hn]
 rw [show (3 + 4) = 7 from rfl]
 rw [decR_iff H (by omega), may_iff_11]
 constructor
 ·rintro ⟨hb, hA, hB, hC, hK, hS, hZ, hI, hm⟩
  rw [hK, hI] at hb
  have hb := (bad11 _ _).1 hb
  exact ⟨hm, reg_hi hA, reg_lo hB, (by rw [← hC]; exact reg_0), hC.symm, hZ.symm, hS.symm, (sg_small i).1 hI, hb.1⟩
 ·rintro ⟨m0, ra, rb, rc, uc, uz, us, sm, tl⟩
  have hA := ab_hi a b ra rb
  have hB := ab_lo a b rb
  have hK : u8 k = k := u8_id (by have := wd_rng tl; omega)
  have hI := (sg_small i).2 sm
  exact ⟨(by rw [hK, hI]; exact (bad11 _ _).2 ⟨tl, sm⟩), hA, hB, uc.symm, hK, us.symm, uz.symm, hI, m0⟩
set_option maxHeartbeats 1000000 in
theorem f1_12 (a b c k s z i m : Int) (hi : -9223372036854775808 ≤ i ∧ i ≤ 9223372036854775807) : decR (layF 12 a b c k s z i) = (iC 12 a b c k s z i m, (layF 12 a b c k s z i).length, 0) ↔ mayF 12 a b c k s z i m = true := by
 have hr := lay_rng 12 a b c k s z i
 have hln := lay_len 12 a b c k s z i
 have lr := least_rng i
 have lg := least_reg i
 have hn : numV (layF 12 a b c k s z i) 4 4 = sgR 4 (i % 256 ^ 4) := by
  rw [lay_12] at hr ⊢
  exact numV_lows (pre := ((([u8 12] ++ [u8 (abF a b)]) ++ [u8 (abF c (scaleF z))]) ++ [u8 k])) rfl hr (by omega)
 have gl : (layF 12 a b c k s z i).length = (4 + 4) := by rw [lay_12]; simp [lows_len]
 have g0 : (layF 12 a b c k s z i).getD 0 0 = 12 := rfl
 have g1 : (layF 12 a b c k s z i).getD 1 0 = u8 (abF a b) := rfl
 have g2 : (layF 12 a b c k s z i).getD 2 0 = u8 (abF c (scaleF z)) := rfl
 have g3 : (layF 12 a b c k s z i).getD 3 0 = u8 k := rfl
 generalize layF 12 a b c k s z i = L at *
 rw [gl]
 rw [show (4 + 4) = 8 from rfl]
 have xr := u8_rng (abF c (scaleF z))
 by_cases hx : u8 (abF c (scaleF z)) = 15
 ·have H : instD L = .ok 8 (((false || !((0 : Int) != 0)) || !decide (Wi (u8 k) > 0)) || !small (sgR 4 (i % 256 ^ 4))) (iC 12 ((u8 (abF a b)) / 16) ((u8 (abF a b)) % 16) 0 (u8 k) 0 0 (sgR 4 (i % 256 ^ 4)) 0) := by
   rw [instD_at (by omega) g0, io_12, if_neg (by omega), g1, g2, g3, num4_V, hn, if_pos hx]
  rw [decR_iff H (by omega), may_iff_12]
  constructor
  ·rintro ⟨hb, hA, hB, hC, hK, hS, hZ, hI, hm⟩
   rw [hK, hI] at hb
   simp at hb
  ·rintro ⟨m0, ra, rb, rc, us, sm, tl⟩
   have hA := ab_hi a b ra rb
   have hB := ab_lo a b rb
   have hK : u8 k = k := u8_id (by rw [Bool.and_eq_true] at tl; have := wd_rng tl.2; omega)
   have hI := (sg_small i).2 sm
   have sc := scaled_yes (by rw [Bool.and_eq_true] at tl; exact tl.1) rc
   rcases sc with ⟨_, z0, c0, o0⟩ | ⟨x1, _⟩
   rotate_left
   ·exact absurd hx x1
   exact absurd o0 (by decide)
 ·have H : instD L = .ok 8 ((((false || !decide ((u8 (abF c (scaleF z))) % 16 ≤ 3)) || !((2 : Int) ^ ((u8 (abF c (scaleF z))) % 16).toNat != 0)) || !decide (Wi (u8 k) > 0)) || !small (sgR 4 (i % 256 ^ 4))) (iC 12 ((u8 (abF a b)) / 16) ((u8 (abF a b)) % 16) ((u8 (abF c (scaleF z))) / 16) (u8 k) 0 (2 ^ ((u8 (abF c (scaleF z))) % 16).toNat) (sgR 4 (i % 256 ^ 4)) 0) := by
   rw [instD_at (by omega) g0, io_12, if_neg (by omega), g1, g2, g3, num4_V, hn, if_neg hx]
  rw [decR_iff H (by omega), may_iff_12]
  constructor
  ·rintro ⟨hb, hA, hB, hC, hK, hS, hZ, hI, hm⟩
   rw [hK, hI] at hb
   simp only [Bool.or_eq_false_iff, Bool.not_eq_false', decide_eq_true_iff] at hb
   have h3 := hb.1.1.1.2
   have hw := hb.1.2
   exact ⟨hm, reg_hi hA, reg_lo hB, reg_hi hC, hS.symm, (sg_small i).1 hI, (by rw [Bool.and_eq_true]; exact ⟨(scaled_no xr.1 h3 hZ).1, by rw [← wi_wd]; exact decide_eq_true_iff.mpr hw⟩)⟩
  ·rintro ⟨m0, ra, rb, rc, us, sm, tl⟩
   have hA := ab_hi a b ra rb
   have hB := ab_lo a b rb
   have hK : u8 k = k := u8_id (by rw [Bool.and_eq_true] at tl; have := wd_rng tl.2; omega)
   have hI := (sg_small i).2 sm
   have sc := scaled_yes (by rw [Bool.and_eq_true] at tl; exact tl.1) rc
   rcases sc with ⟨x1, _⟩ | ⟨_, h3, hC, hZ⟩
   ·exact absurd x1 hx
   exact ⟨(by rw [hK, hI, (small_i i).2 sm, decide_eq_true h3, wi_wd, (show wd k = true by rw [Bool.and_eq_true] at tl; exact tl.2), bne_iff_ne.mpr (scaled_no (o := 10) (c := 0) xr.1 h3 rfl).2]; rfl), hA, hB, hC, hK, us.symm, hZ, hI, m0⟩
set_option maxHeartbeats 1000000 in
theorem f1_13 (a b c k s z i m : Int) (hi : -9223372036854775808 ≤ i ∧ i ≤ 9223372036854775807) : decR (layF 13 a b c k s z i) = (iC 13 a b c k s z i m, (layF 13 a b c k s z i).length, 0) ↔ mayF 13 a b c k s z i m = true := by
 have hr := lay_rng 13 a b c k s z i
 have hln := lay_len 13 a b c k s z i
 have lr := least_rng i
 have lg := least_reg i
 have hn : numV (layF 13 a b c k s z i) 3 4 = sgR 4 (i % 256 ^ 4) := by
  rw [lay_13] at hr ⊢
  exact numV_lows (pre := (([u8 13] ++ [u8 (abF a b)]) ++ [u8 k])) rfl hr (by omega)
 have gl : (layF 13 a b c k s z i).length = (3 + 4) := by rw [lay_13]; simp [lows_len]
 have g0 : (layF 13 a b c k s z i).getD 0 0 = 13 := rfl
 have g1 : (layF 13 a b c k s z i).getD 1 0 = u8 (abF a b) := rfl
 have g2 : (layF 13 a b c k s z i).getD 2 0 = u8 k := rfl
 generalize layF 13 a b c k s z i = L at *
 rw [gl]
 have H : instD L = .ok 7 ((false || !decide (Wi (u8 k) > 0)) || !small (sgR 4 (i % 256 ^ 4))) (iC 13 ((u8 (abF a b)) / 16) ((u8 (abF a b)) % 16) 0 (u8 k) 0 0 (sgR 4 (i % 256 ^ 4)) 0) := by
  rw [instD_at (by omega) g0, io_13, if_neg (by omega), g1, g2, num4_V, hn]
 rw [show (3 + 4) = 7 from rfl]
 rw [decR_iff H (by omega), may_iff_13]
 constructor
 ·rintro ⟨hb, hA, hB, hC, hK, hS, hZ, hI, hm⟩
  rw [hK, hI] at hb
  have hb := (bad11 _ _).1 hb
  exact ⟨hm, reg_hi hA, reg_lo hB, (by rw [← hC]; exact reg_0), hC.symm, hZ.symm, hS.symm, (sg_small i).1 hI, hb.1⟩
 ·rintro ⟨m0, ra, rb, rc, uc, uz, us, sm, tl⟩
  have hA := ab_hi a b ra rb
  have hB := ab_lo a b rb
  have hK : u8 k = k := u8_id (by have := wd_rng tl; omega)
  have hI := (sg_small i).2 sm
  exact ⟨(by rw [hK, hI]; exact (bad11 _ _).2 ⟨tl, sm⟩), hA, hB, uc.symm, hK, us.symm, uz.symm, hI, m0⟩
set_option maxHeartbeats 1000000 in
theorem f1_14 (a b c k s z i m : Int) (hi : -9223372036854775808 ≤ i ∧ i ≤ 9223372036854775807) : decR (layF 14 a b c k s z i) = (iC 14 a b c k s z i m, (layF 14 a b c k s z i).length, 0) ↔ mayF 14 a b c k s z i m = true := by
 have hr := lay_rng 14 a b c k s z i
 have hln := lay_len 14 a b c k s z i
 have lr := least_rng i
 have lg := least_reg i
 have hn : numV (layF 14 a b c k s z i) 4 4 = sgR 4 (i % 256 ^ 4) := by
  rw [lay_14] at hr ⊢
  exact numV_lows (pre := ((([u8 14] ++ [u8 (abF a b)]) ++ [u8 (abF c (scaleF z))]) ++ [u8 k])) rfl hr (by omega)
 have gl : (layF 14 a b c k s z i).length = (4 + 4) := by rw [lay_14]; simp [lows_len]
 have g0 : (layF 14 a b c k s z i).getD 0 0 = 14 := rfl
 have g1 : (layF 14 a b c k s z i).getD 1 0 = u8 (abF a b) := rfl
 have g2 : (layF 14 a b c k s z i).getD 2 0 = u8 (abF c (scaleF z)) := rfl
 have g3 : (layF 14 a b c k s z i).getD 3 0 = u8 k := rfl
 generalize layF 14 a b c k s z i = L at *
 rw [gl]
 rw [show (4 + 4) = 8 from rfl]
 have xr := u8_rng (abF c (scaleF z))
 by_cases hx : u8 (abF c (scaleF z)) = 15
 ·have H : instD L = .ok 8 (((false || !((0 : Int) != 0)) || !decide (Wi (u8 k) > 0)) || !small (sgR 4 (i % 256 ^ 4))) (iC 14 ((u8 (abF a b)) / 16) ((u8 (abF a b)) % 16) 0 (u8 k) 0 0 (sgR 4 (i % 256 ^ 4)) 0) := by
   rw [instD_at (by omega) g0, io_14, if_neg (by omega), g1, g2, g3, num4_V, hn, if_pos hx]
  rw [decR_iff H (by omega), may_iff_14]
  constructor
  ·rintro ⟨hb, hA, hB, hC, hK, hS, hZ, hI, hm⟩
   rw [hK, hI] at hb
   simp at hb
  ·rintro ⟨m0, ra, rb, rc, us, sm, tl⟩
   have hA := ab_hi a b ra rb
   have hB := ab_lo a b rb
   have hK : u8 k = k := u8_id (by rw [Bool.and_eq_true] at tl; have := wd_rng tl.2; omega)
   have hI := (sg_small i).2 sm
   have sc := scaled_yes (by rw [Bool.and_eq_true] at tl; exact tl.1) rc
   rcases sc with ⟨_, z0, c0, o0⟩ | ⟨x1, _⟩
   rotate_left
   ·exact absurd hx x1
   exact absurd o0 (by decide)
 ·have H : instD L = .ok 8 ((((false || !decide ((u8 (abF c (scaleF z))) % 16 ≤ 3)) || !((2 : Int) ^ ((u8 (abF c (scaleF z))) % 16).toNat != 0)) || !decide (Wi (u8 k) > 0)) || !small (sgR 4 (i % 256 ^ 4))) (iC 14 ((u8 (abF a b)) / 16) ((u8 (abF a b)) % 16) ((u8 (abF c (scaleF z))) / 16) (u8 k) 0 (2 ^ ((u8 (abF c (scaleF z))) % 16).toNat) (sgR 4 (i % 256 ^ 4)) 0) := by
   rw [instD_at (by omega) g0, io_14, if_neg (by omega), g1, g2, g3, num4_V, hn, if_neg hx]
  rw [decR_iff H (by omega), may_iff_14]
  constructor
  ·rintro ⟨hb, hA, hB, hC, hK, hS, hZ, hI, hm⟩
   rw [hK, hI] at hb
   simp only [Bool.or_eq_false_iff, Bool.not_eq_false', decide_eq_true_iff] at hb
   have h3 := hb.1.1.1.2
   have hw := hb.1.2
   exact ⟨hm, reg_hi hA, reg_lo hB, reg_hi hC, hS.symm, (sg_small i).1 hI, (by rw [Bool.and_eq_true]; exact ⟨(scaled_no xr.1 h3 hZ).1, by rw [← wi_wd]; exact decide_eq_true_iff.mpr hw⟩)⟩
  ·rintro ⟨m0, ra, rb, rc, us, sm, tl⟩
   have hA := ab_hi a b ra rb
   have hB := ab_lo a b rb
   have hK : u8 k = k := u8_id (by rw [Bool.and_eq_true] at tl; have := wd_rng tl.2; omega)
   have hI := (sg_small i).2 sm
   have sc := scaled_yes (by rw [Bool.and_eq_true] at tl; exact tl.1) rc
   rcases sc with ⟨x1, _⟩ | ⟨_, h3, hC, hZ⟩
   ·exact absurd x1 hx
   exact ⟨(by rw [hK, hI, (small_i i).2 sm, decide_eq_true h3, wi_wd, (show wd k = true by rw [Bool.and_eq_true] at tl; exact tl.2), bne_iff_ne.mpr (scaled_no (o := 10) (c := 0) xr.1 h3 rfl).2]; rfl), hA, hB, hC, hK, us.symm, hZ, hI, m0⟩
set_option maxHeartbeats 1000000 in
theorem f1_15 (a b c k s z i m : Int) (hi : -9223372036854775808 ≤ i ∧ i ≤ 9223372036854775807) : decR (layF 15 a b c k s z i) = (iC 15 a b c k s z i m, (layF 15 a b c k s z i).length, 0) ↔ mayF 15 a b c k s z i m = true := by
 have hr := lay_rng 15 a b c k s z i
 have hln := lay_len 15 a b c k s z i
 have lr := least_rng i
 have lg := least_reg i
 have gl : (layF 15 a b c k s z i).length = 3 := by rw [lay_15]; simp [lows_len]
 have g0 : (layF 15 a b c k s z i).getD 0 0 = 15 := rfl
 have g1 : (layF 15 a b c k s z i).getD 1 0 = u8 (abF a b) := rfl
 have g2 : (layF 15 a b c k s z i).getD 2 0 = u8 s := rfl
 generalize layF 15 a b c k s z i = L at *
 rw [gl]
 have H : instD L = .ok 3 (false || !sd (u8 s)) (iC 15 ((u8 (abF a b)) / 16) ((u8 (abF a b)) % 16) 0 0 (u8 s) 0 0 0) := by
  rw [instD_at (by omega) g0, io_15, if_neg (by omega), g1, g2]
 rw [decR_iff H (by omega), may_iff_15]
 constructor
 ·rintro ⟨hb, hA, hB, hC, hK, hS, hZ, hI, hm⟩
  rw [hS] at hb
  have hb := (bad15 _).1 hb
  exact ⟨hm, reg_hi hA, reg_lo hB, (by rw [← hC]; exact reg_0), hC.symm, hZ.symm, hK.symm, hI.symm, (by omega), hb⟩
 ·rintro ⟨m0, ra, rb, rc, uc, uz, uk, ui, sm, tl⟩
  have hA := ab_hi a b ra rb
  have hB := ab_lo a b rb
  have hS : u8 s = s := u8_id (by have := sd_rng tl; omega)
  exact ⟨(by rw [hS]; exact (bad15 _).2 tl), hA, hB, uc.symm, uk.symm, hS, uz.symm, ui.symm, m0⟩
set_option maxHeartbeats 1000000 in
theorem f1_16 (a b c k s z i m : Int) (hi : -9223372036854775808 ≤ i ∧ i ≤ 9223372036854775807) : decR (layF 16 a b c k s z i) = (iC 16 a b c k s z i m, (layF 16 a b c k s z i).length, 0) ↔ mayF 16 a b c k s z i m = true := by
 have hr := lay_rng 16 a b c k s z i
 have hln := lay_len 16 a b c k s z i
 have lr := least_rng i
 have lg := least_reg i
 have gl : (layF 16 a b c k s z i).length = 3 := by rw [lay_16]; simp [lows_len]
 have g0 : (layF 16 a b c k s z i).getD 0 0 = 16 := rfl
 have g1 : (layF 16 a b c k s z i).getD 1 0 = u8 (abF a b) := rfl
 have g2 : (layF 16 a b c k s z i).getD 2 0 = u8 k := rfl
 generalize layF 16 a b c k s z i = L at *
 rw [gl]
 have H : instD L = .ok 3 (false || !decide (Wi (u8 k) > 0)) (iC 16 ((u8 (abF a b)) / 16) ((u8 (abF a b)) % 16) 0 (u8 k) 0 0 0 0) := by
  rw [instD_at (by omega) g0, io_16, if_neg (by omega), g1, g2]
 rw [decR_iff H (by omega), may_iff_16]
 constructor
 ·rintro ⟨hb, hA, hB, hC, hK, hS, hZ, hI, hm⟩
  rw [hK] at hb
  have hb := (bad16 _).1 hb
  exact ⟨hm, reg_hi hA, reg_lo hB, (by rw [← hC]; exact reg_0), hC.symm, hZ.symm, hS.symm, hI.symm, (by omega), hb⟩
 ·rintro ⟨m0, ra, rb, rc, uc, uz, us, ui, sm, tl⟩
  have hA := ab_hi a b ra rb
  have hB := ab_lo a b rb
  have hK : u8 k = k := u8_id (by have := wd_rng tl; omega)
  exact ⟨(by rw [hK]; exact (bad16 _).2 tl), hA, hB, uc.symm, hK, us.symm, uz.symm, ui.symm, m0⟩
set_option maxHeartbeats 1000000 in
theorem f1_17 (a b c k s z i m : Int) (hi : -9223372036854775808 ≤ i ∧ i ≤ 9223372036854775807) : decR (layF 17 a b c k s z i) = (iC 17 a b c k s z i m, (layF 17 a b c k s z i).length, 0) ↔ mayF 17 a b c k s z i m = true := by
 have hr := lay_rng 17 a b c k s z i
 have hln := lay_len 17 a b c k s z i
 have lr := least_rng i
 have lg := least_reg i
 have hn : numV (layF 17 a b c k s z i) 3 (bytesF (leastF i)) = i := by
  rw [lay_17] at hr ⊢
  exact (numV_lows (pre := (([u8 17] ++ [u8 (abF a (leastF i))]) ++ [u8 k])) rfl hr (bF_le _)).trans (sg_least i hi.1 hi.2)
 have gl : (layF 17 a b c k s z i).length = (3 + bytesF (leastF i)) := by rw [lay_17]; simp [lows_len]; omega
 have g0 : (layF 17 a b c k s z i).getD 0 0 = 17 := rfl
 have g1 : (layF 17 a b c k s z i).getD 1 0 = u8 (abF a (leastF i)) := rfl
 have g2 : (layF 17 a b c k s z i).getD 2 0 = u8 k := rfl
 generalize layF 17 a b c k s z i = L at *
 rw [gl]
 have hz : ((u8 (abF a (leastF i))) % 16) = leastF i := ab_lo _ _ lg
 have nb := bF_ge (leastF i)
 by_cases hl : 1 < leastF i
 ·have H : instD L = .form := by
   rw [instD_at (by omega) g0, io_17, if_neg (by omega), g1, g2, hz, if_pos hl]
  rw [may_iff_17]
  constructor
  ·intro h; exact absurd h (decR_form H)
  ·rintro ⟨m0, ra, rb, rc, ub, uc, uz, us, sm, tl⟩
   exact absurd hl (small_least sm)
 have H : instD L = .ok (3 + bytesF (leastF i)) (((false || !decide (Wi (u8 k) > 0)) || !wh (u8 k)) || !inR i (sizedF (leastF i) (heldF (u8 k)).1 (heldF (u8 k)).2)) (iC 17 ((u8 (abF a (leastF i))) / 16) 0 0 (u8 k) 0 0 i 0) := by
  rw [instD_at (by omega) g0, io_17, if_neg (by omega), g1, g2, hz, if_neg (by omega), if_neg (by omega), hn]
 rw [decR_iff H (by omega), may_iff_17]
 constructor
 ·rintro ⟨hb, hA, hB, hC, hK, hS, hZ, hI, hm⟩
  rw [hK] at hb
  have hb := (bad17 _ i hi hl).1 hb
  exact ⟨hm, reg_hi hA, (by rw [← hB]; exact reg_0), (by rw [← hC]; exact reg_0), hB.symm, hC.symm, hZ.symm, hS.symm, least_small hl, hb⟩
 ·rintro ⟨m0, ra, rb, rc, ub, uc, uz, us, sm, tl⟩
  have hA := ab_hi a _ ra lg
  have hK : u8 k = k := u8_id (by simp only [immF, Bool.and_eq_true] at tl; have := wh_rng tl.1.1.1.1.1; omega)
  exact ⟨(by rw [hK]; exact (bad17 _ i hi hl).2 tl), hA, ub.symm, uc.symm, hK, us.symm, uz.symm, rfl, m0⟩
set_option maxHeartbeats 1000000 in
theorem f1_18 (a b c k s z i m : Int) (hi : -9223372036854775808 ≤ i ∧ i ≤ 9223372036854775807) : decR (layF 18 a b c k s z i) = (iC 18 a b c k s z i m, (layF 18 a b c k s z i).length, 0) ↔ mayF 18 a b c k s z i m = true := by
 have hr := lay_rng 18 a b c k s z i
 have hln := lay_len 18 a b c k s z i
 have lr := least_rng i
 have lg := least_reg i
 have gl : (layF 18 a b c k s z i).length = 3 := by rw [lay_18]; simp [lows_len]
 have g0 : (layF 18 a b c k s z i).getD 0 0 = 18 := rfl
 have g1 : (layF 18 a b c k s z i).getD 1 0 = u8 (abF a b) := rfl
 have g2 : (layF 18 a b c k s z i).getD 2 0 = u8 s := rfl
 generalize layF 18 a b c k s z i = L at *
 rw [gl]
 have H : instD L = .ok 3 ((false || !((u8 (abF a b)) % 16 == 0)) || !sd (u8 s)) (iC 18 ((u8 (abF a b)) / 16) ((u8 (abF a b)) % 16) 0 0 (u8 s) 0 0 0) := by
  rw [instD_at (by omega) g0, io_18, if_neg (by omega), g1, g2]
 rw [decR_iff H (by omega), may_iff_18]
 constructor
 ·rintro ⟨hb, hA, hB, hC, hK, hS, hZ, hI, hm⟩
  rw [hB, hS] at hb
  have hb := (bad18 _ _).1 hb
  exact ⟨hm, reg_hi hA, reg_lo hB, (by rw [← hC]; exact reg_0), hb.1, hC.symm, hZ.symm, hK.symm, hI.symm, (by omega), hb.2⟩
 ·rintro ⟨m0, ra, rb, rc, ub, uc, uz, uk, ui, sm, tl⟩
  have hA := ab_hi a b ra rb
  have hB := ab_lo a b rb
  have hS : u8 s = s := u8_id (by have := sd_rng tl; omega)
  exact ⟨(by rw [hB, hS]; exact (bad18 _ _).2 ⟨ub, tl⟩), hA, hB, uc.symm, uk.symm, hS, uz.symm, ui.symm, m0⟩
set_option maxHeartbeats 1000000 in
theorem f1_19 (a b c k s z i m : Int) (hi : -9223372036854775808 ≤ i ∧ i ≤ 9223372036854775807) : decR (layF 19 a b c k s z i) = (iC 19 a b c k s z i m, (layF 19 a b c k s z i).length, 0) ↔ mayF 19 a b c k s z i m = true := by
 have hr := lay_rng 19 a b c k s z i
 have hln := lay_len 19 a b c k s z i
 have lr := least_rng i
 have lg := least_reg i
 have hn : numV (layF 19 a b c k s z i) 2 (bytesF (leastF i)) = i := by
  rw [lay_19] at hr ⊢
  exact (numV_lows (pre := ([u8 19] ++ [u8 (leastF i)])) rfl hr (bF_le _)).trans (sg_least i hi.1 hi.2)
 have gl : (layF 19 a b c k s z i).length = (2 + bytesF (leastF i)) := by rw [lay_19]; simp [lows_len]; omega
 have g0 : (layF 19 a b c k s z i).getD 0 0 = 19 := rfl
 have g1 : (layF 19 a b c k s z i).getD 1 0 = u8 (leastF i) := rfl
 generalize layF 19 a b c k s z i = L at *
 rw [gl]
 have hz : (u8 (leastF i)) = leastF i := u8_id (by omega)
 have nb := bF_ge (leastF i)
 by_cases hl : 1 < leastF i
 ·have H : instD L = .form := by
   rw [instD_at (by omega) g0, io_19, if_neg (by omega), g1, hz, if_pos hl]
  rw [may_iff_19]
  constructor
  ·intro h; exact absurd h (decR_form H)
  ·rintro ⟨m0, ra, rb, rc, ua, ub, uc, uz, uk, us, sm, tl⟩
   exact absurd hl (small_least sm)
 have H : instD L = .ok (2 + bytesF (leastF i)) (false || !inR i (sizedF (leastF i) (-2147483648) 2147483647)) (iC 19 0 0 0 0 0 0 i 0) := by
  rw [instD_at (by omega) g0, io_19, if_neg (by omega), g1, hz, if_neg (by omega), if_neg (by omega), hn]
 rw [decR_iff H (by omega), may_iff_19]
 constructor
 ·rintro ⟨hb, hA, hB, hC, hK, hS, hZ, hI, hm⟩
  exact ⟨hm, (by rw [← hA]; exact reg_0), (by rw [← hB]; exact reg_0), (by rw [← hC]; exact reg_0), hA.symm, hB.symm, hC.symm, hZ.symm, hK.symm, hS.symm, least_small hl, trivial⟩
 ·rintro ⟨m0, ra, rb, rc, ua, ub, uc, uz, uk, us, sm, tl⟩
  exact ⟨bad19 i hi hl, ua.symm, ub.symm, uc.symm, uk.symm, us.symm, uz.symm, rfl, m0⟩
set_option maxHeartbeats 1000000 in
theorem f1_22 (a b c k s z i m : Int) (hi : -9223372036854775808 ≤ i ∧ i ≤ 9223372036854775807) : decR (layF 22 a b c k s z i) = (iC 22 a b c k s z i m, (layF 22 a b c k s z i).length, 0) ↔ mayF 22 a b c k s z i m = true := by
 have hr := lay_rng 22 a b c k s z i
 have hln := lay_len 22 a b c k s z i
 have lr := least_rng i
 have lg := least_reg i
 have hn : numV (layF 22 a b c k s z i) 2 (bytesF (leastF i)) = i := by
  rw [lay_22] at hr ⊢
  exact (numV_lows (pre := ([u8 22] ++ [u8 (abF (IntKind.i64.wrap (s - 11)) (leastF i))])) rfl hr (bF_le _)).trans (sg_least i hi.1 hi.2)
 have gl : (layF 22 a b c k s z i).length = (2 + bytesF (leastF i)) := by rw [lay_22]; simp [lows_len]; omega
 have g0 : (layF 22 a b c k s z i).getD 0 0 = 22 := rfl
 have g1 : (layF 22 a b c k s z i).getD 1 0 = u8 (abF (IntKind.i64.wrap (s - 11)) (leastF i)) := rfl
 generalize layF 22 a b c k s z i = L at *
 rw [gl]
 have hz : ((u8 (abF (IntKind.i64.wrap (s - 11)) (leastF i))) % 16) = leastF i := ab_lo _ _ lg
 have nb := bF_ge (leastF i)
 by_cases hl : 1 < leastF i
 ·have H : instD L = .form := by
   rw [instD_at (by omega) g0, io_22, if_neg (by omega), g1, hz, if_pos hl]
  rw [may_iff_22]
  constructor
  ·intro h; exact absurd h (decR_form H)
  ·rintro ⟨m0, ra, rb, rc, ua, ub, uc, uz, uk, sm, tl⟩
   exact absurd hl (small_least sm)
 have H : instD L = .ok (2 + bytesF (leastF i)) ((false || !sd (11 + (u8 (abF (IntKind.i64.wrap (s - 11)) (leastF i))) / 16)) || !inR i (sizedF (leastF i) (-2147483648) 2147483647)) (iC 22 0 0 0 0 (11 + (u8 (abF (IntKind.i64.wrap (s - 11)) (leastF i))) / 16) 0 i 0) := by
  rw [instD_at (by omega) g0, io_22, if_neg (by omega), g1, hz, if_neg (by omega), if_neg (by omega), hn]
 rw [decR_iff H (by omega), may_iff_22]
 constructor
 ·rintro ⟨hb, hA, hB, hC, hK, hS, hZ, hI, hm⟩
  rw [hS] at hb
  have hb := (bad22 _ i hi hl).1 hb
  exact ⟨hm, (by rw [← hA]; exact reg_0), (by rw [← hB]; exact reg_0), (by rw [← hC]; exact reg_0), hA.symm, hB.symm, hC.symm, hZ.symm, hK.symm, least_small hl, hb⟩
 ·rintro ⟨m0, ra, rb, rc, ua, ub, uc, uz, uk, sm, tl⟩
  have hS := (jcc_s lg).2 (sd_rng tl)
  exact ⟨(by rw [hS]; exact (bad22 _ i hi hl).2 tl), ua.symm, ub.symm, uc.symm, uk.symm, hS, uz.symm, rfl, m0⟩
set_option maxHeartbeats 1000000 in
theorem f1_23 (a b c k s z i m : Int) (hi : -9223372036854775808 ≤ i ∧ i ≤ 9223372036854775807) : decR (layF 23 a b c k s z i) = (iC 23 a b c k s z i m, (layF 23 a b c k s z i).length, 0) ↔ mayF 23 a b c k s z i m = true := by
 have hr := lay_rng 23 a b c k s z i
 have hln := lay_len 23 a b c k s z i
 have lr := least_rng i
 have lg := least_reg i
 have hn : numV (layF 23 a b c k s z i) 1 4 = sgR 4 (i % 256 ^ 4) := by
  rw [lay_23] at hr ⊢
  exact numV_lows (pre := [u8 23]) rfl hr (by omega)
 have gl : (layF 23 a b c k s z i).length = (1 + 4) := by rw [lay_23]; simp [lows_len]
 have g0 : (layF 23 a b c k s z i).getD 0 0 = 23 := rfl
 generalize layF 23 a b c k s z i = L at *
 rw [gl]
 have H : instD L = .ok 5 (false || !inR (sgR 4 (i % 256 ^ 4)) [(-2147483648, 2147483647)]) (iC 23 0 0 0 0 0 0 (sgR 4 (i % 256 ^ 4)) 0) := by
  rw [instD_at (by omega) g0, io_23, if_neg (by omega), num4_V, hn]
 rw [show (1 + 4) = 5 from rfl]
 rw [decR_iff H (by omega), may_iff_23]
 constructor
 ·rintro ⟨hb, hA, hB, hC, hK, hS, hZ, hI, hm⟩
  rw [hI] at hb
  have hb := (badR _ _ _).1 hb
  exact ⟨hm, (by rw [← hA]; exact reg_0), (by rw [← hB]; exact reg_0), (by rw [← hC]; exact reg_0), hA.symm, hB.symm, hC.symm, hZ.symm, hK.symm, hS.symm, (sg_small i).1 hI, trivial⟩
 ·rintro ⟨m0, ra, rb, rc, ua, ub, uc, uz, uk, us, sm, tl⟩
  have hI := (sg_small i).2 sm
  exact ⟨(by rw [hI]; exact (badR _ _ _).2 (by omega)), ua.symm, ub.symm, uc.symm, uk.symm, us.symm, uz.symm, hI, m0⟩
set_option maxHeartbeats 1000000 in
theorem f1_24 (a b c k s z i m : Int) (hi : -9223372036854775808 ≤ i ∧ i ≤ 9223372036854775807) : decR (layF 24 a b c k s z i) = (iC 24 a b c k s z i m, (layF 24 a b c k s z i).length, 0) ↔ mayF 24 a b c k s z i m = true := by
 have hr := lay_rng 24 a b c k s z i
 have hln := lay_len 24 a b c k s z i
 have lr := least_rng i
 have lg := least_reg i
 have gl : (layF 24 a b c k s z i).length = 1 := by rw [lay_24]; simp [lows_len]
 have g0 : (layF 24 a b c k s z i).getD 0 0 = 24 := rfl
 generalize layF 24 a b c k s z i = L at *
 rw [gl]
 have H : instD L = .ok 1 (false) (iC 24 0 0 0 0 0 0 0 0) := by
  rw [instD_at (by omega) g0, io_24, if_neg (by omega)]
 rw [decR_iff H (by omega), may_iff_24]
 constructor
 ·rintro ⟨hb, hA, hB, hC, hK, hS, hZ, hI, hm⟩
  exact ⟨hm, (by rw [← hA]; exact reg_0), (by rw [← hB]; exact reg_0), (by rw [← hC]; exact reg_0), hA.symm, hB.symm, hC.symm, hZ.symm, hK.symm, hS.symm, hI.symm, (by omega), trivial⟩
 ·rintro ⟨m0, ra, rb, rc, ua, ub, uc, uz, uk, us, ui, sm, tl⟩
  exact ⟨rfl, ua.symm, ub.symm, uc.symm, uk.symm, us.symm, uz.symm, ui.symm, m0⟩
set_option maxHeartbeats 1000000 in
theorem f1_25 (a b c k s z i m : Int) (hi : -9223372036854775808 ≤ i ∧ i ≤ 9223372036854775807) : decR (layF 25 a b c k s z i) = (iC 25 a b c k s z i m, (layF 25 a b c k s z i).length, 0) ↔ mayF 25 a b c k s z i m = true := by
 have hr := lay_rng 25 a b c k s z i
 have hln := lay_len 25 a b c k s z i
 have lr := least_rng i
 have lg := least_reg i
 have hn : numV (layF 25 a b c k s z i) 1 4 = sgR 4 (i % 256 ^ 4) := by
  rw [lay_25] at hr ⊢
  exact numV_lows (pre := [u8 25]) rfl hr (by omega)
 have gl : (layF 25 a b c k s z i).length = (1 + 4) := by rw [lay_25]; simp [lows_len]
 have g0 : (layF 25 a b c k s z i).getD 0 0 = 25 := rfl
 generalize layF 25 a b c k s z i = L at *
 rw [gl]
 have H : instD L = .ok 5 (false || !inR (sgR 4 (i % 256 ^ 4)) [(0, 2147483647)]) (iC 25 0 0 0 0 0 0 (sgR 4 (i % 256 ^ 4)) 0) := by
  rw [instD_at (by omega) g0, io_25, if_neg (by omega), num4_V, hn]
 rw [show (1 + 4) = 5 from rfl]
 rw [decR_iff H (by omega), may_iff_25]
 constructor
 ·rintro ⟨hb, hA, hB, hC, hK, hS, hZ, hI, hm⟩
  rw [hI] at hb
  have hb := (badR _ _ _).1 hb
  exact ⟨hm, (by rw [← hA]; exact reg_0), (by rw [← hB]; exact reg_0), (by rw [← hC]; exact reg_0), hA.symm, hB.symm, hC.symm, hZ.symm, hK.symm, hS.symm, (sg_small i).1 hI, (by rw [decide_eq_true_iff]; omega)⟩
 ·rintro ⟨m0, ra, rb, rc, ua, ub, uc, uz, uk, us, sm, tl⟩
  have hI := (sg_small i).2 sm
  exact ⟨(by rw [hI]; exact (badR _ _ _).2 (by have := of_decide_eq_true tl; omega)), ua.symm, ub.symm, uc.symm, uk.symm, us.symm, uz.symm, hI, m0⟩
set_option maxHeartbeats 1000000 in
theorem f1_26 (a b c k s z i m : Int) (hi : -9223372036854775808 ≤ i ∧ i ≤ 9223372036854775807) : decR (layF 26 a b c k s z i) = (iC 26 a b c k s z i m, (layF 26 a b c k s z i).length, 0) ↔ mayF 26 a b c k s z i m = true := by
 have hr := lay_rng 26 a b c k s z i
 have hln := lay_len 26 a b c k s z i
 have lr := least_rng i
 have lg := least_reg i
 have gl : (layF 26 a b c k s z i).length = 2 := by rw [lay_26]; simp [lows_len]
 have g0 : (layF 26 a b c k s z i).getD 0 0 = 26 := rfl
 have g1 : (layF 26 a b c k s z i).getD 1 0 = u8 (abF a b) := rfl
 generalize layF 26 a b c k s z i = L at *
 rw [gl]
 have H : instD L = .ok 2 (false) (iC 26 ((u8 (abF a b)) / 16) ((u8 (abF a b)) % 16) 0 0 0 0 0 0) := by
  rw [instD_at (by omega) g0, io_26, if_neg (by omega), g1]
 rw [decR_iff H (by omega), may_iff_26]
 constructor
 ·rintro ⟨hb, hA, hB, hC, hK, hS, hZ, hI, hm⟩
  exact ⟨hm, reg_hi hA, reg_lo hB, (by rw [← hC]; exact reg_0), hC.symm, hZ.symm, hK.symm, hS.symm, hI.symm, (by omega), trivial⟩
 ·rintro ⟨m0, ra, rb, rc, uc, uz, uk, us, ui, sm, tl⟩
  have hA := ab_hi a b ra rb
  have hB := ab_lo a b rb
  exact ⟨rfl, hA, hB, uc.symm, uk.symm, us.symm, uz.symm, ui.symm, m0⟩
set_option maxHeartbeats 1000000 in
theorem f1_27 (a b c k s z i m : Int) (hi : -9223372036854775808 ≤ i ∧ i ≤ 9223372036854775807) : decR (layF 27 a b c k s z i) = (iC 27 a b c k s z i m, (layF 27 a b c k s z i).length, 0) ↔ mayF 27 a b c k s z i m = true := by
 have hr := lay_rng 27 a b c k s z i
 have hln := lay_len 27 a b c k s z i
 have lr := least_rng i
 have lg := least_reg i
 have gl : (layF 27 a b c k s z i).length = 2 := by rw [lay_27]; simp [lows_len]
 have g0 : (layF 27 a b c k s z i).getD 0 0 = 27 := rfl
 have g1 : (layF 27 a b c k s z i).getD 1 0 = u8 (abF a b) := rfl
 generalize layF 27 a b c k s z i = L at *
 rw [gl]
 have H : instD L = .ok 2 (false || !((u8 (abF a b)) % 16 == 0)) (iC 27 ((u8 (abF a b)) / 16) ((u8 (abF a b)) % 16) 0 0 0 0 0 0) := by
  rw [instD_at (by omega) g0, io_27, if_neg (by omega), g1]
 rw [decR_iff H (by omega), may_iff_27]
 constructor
 ·rintro ⟨hb, hA, hB, hC, hK, hS, hZ, hI, hm⟩
  rw [hB] at hb
  have hb := (bad27 _).1 hb
  exact ⟨hm, reg_hi hA, reg_lo hB, (by rw [← hC]; exact reg_0), hb, hC.symm, hZ.symm, hK.symm, hS.symm, hI.symm, (by omega), trivial⟩
 ·rintro ⟨m0, ra, rb, rc, ub, uc, uz, uk, us, ui, sm, tl⟩
  have hA := ab_hi a b ra rb
  have hB := ab_lo a b rb
  exact ⟨(by rw [hB]; exact (bad27 _).2 ub), hA, hB, uc.symm, uk.symm, us.symm, uz.symm, ui.symm, m0⟩
set_option maxHeartbeats 1000000 in
theorem f1_28 (a b c k s z i m : Int) (hi : -9223372036854775808 ≤ i ∧ i ≤ 9223372036854775807) : decR (layF 28 a b c k s z i) = (iC 28 a b c k s z i m, (layF 28 a b c k s z i).length, 0) ↔ mayF 28 a b c k s z i m = true := by
 have hr := lay_rng 28 a b c k s z i
 have hln := lay_len 28 a b c k s z i
 have lr := least_rng i
 have lg := least_reg i
 have gl : (layF 28 a b c k s z i).length = 2 := by rw [lay_28]; simp [lows_len]
 have g0 : (layF 28 a b c k s z i).getD 0 0 = 28 := rfl
 have g1 : (layF 28 a b c k s z i).getD 1 0 = u8 (abF a b) := rfl
 generalize layF 28 a b c k s z i = L at *
 rw [gl]
 have H : instD L = .ok 2 (false || !((u8 (abF a b)) % 16 == 0)) (iC 28 ((u8 (abF a b)) / 16) ((u8 (abF a b)) % 16) 0 0 0 0 0 0) := by
  rw [instD_at (by omega) g0, io_28, if_neg (by omega), g1]
 rw [decR_iff H (by omega), may_iff_28]
 constructor
 ·rintro ⟨hb, hA, hB, hC, hK, hS, hZ, hI, hm⟩
  rw [hB] at hb
  have hb := (bad27 _).1 hb
  exact ⟨hm, reg_hi hA, reg_lo hB, (by rw [← hC]; exact reg_0), hb, hC.symm, hZ.symm, hK.symm, hS.symm, hI.symm, (by omega), trivial⟩
 ·rintro ⟨m0, ra, rb, rc, ub, uc, uz, uk, us, ui, sm, tl⟩
  have hA := ab_hi a b ra rb
  have hB := ab_lo a b rb
  exact ⟨(by rw [hB]; exact (bad27 _).2 ub), hA, hB, uc.symm, uk.symm, us.symm, uz.symm, ui.symm, m0⟩
set_option maxHeartbeats 1000000 in
theorem f1_29 (a b c k s z i m : Int) (hi : -9223372036854775808 ≤ i ∧ i ≤ 9223372036854775807) : decR (layF 29 a b c k s z i) = (iC 29 a b c k s z i m, (layF 29 a b c k s z i).length, 0) ↔ mayF 29 a b c k s z i m = true := by
 have hr := lay_rng 29 a b c k s z i
 have hln := lay_len 29 a b c k s z i
 have lr := least_rng i
 have lg := least_reg i
 have hn : numV (layF 29 a b c k s z i) 1 4 = sgR 4 (i % 256 ^ 4) := by
  rw [lay_29] at hr ⊢
  exact numV_lows (pre := [u8 29]) rfl hr (by omega)
 have gl : (layF 29 a b c k s z i).length = (1 + 4) := by rw [lay_29]; simp [lows_len]
 have g0 : (layF 29 a b c k s z i).getD 0 0 = 29 := rfl
 generalize layF 29 a b c k s z i = L at *
 rw [gl]
 have H : instD L = .ok 5 (false || !inR (sgR 4 (i % 256 ^ 4)) [(1, 2147483647)]) (iC 29 0 0 0 0 0 0 (sgR 4 (i % 256 ^ 4)) 0) := by
  rw [instD_at (by omega) g0, io_29, if_neg (by omega), num4_V, hn]
 rw [show (1 + 4) = 5 from rfl]
 rw [decR_iff H (by omega), may_iff_29]
 constructor
 ·rintro ⟨hb, hA, hB, hC, hK, hS, hZ, hI, hm⟩
  rw [hI] at hb
  have hb := (badR _ _ _).1 hb
  exact ⟨hm, (by rw [← hA]; exact reg_0), (by rw [← hB]; exact reg_0), (by rw [← hC]; exact reg_0), hA.symm, hB.symm, hC.symm, hZ.symm, hK.symm, hS.symm, (sg_small i).1 hI, (by rw [decide_eq_true_iff]; omega)⟩
 ·rintro ⟨m0, ra, rb, rc, ua, ub, uc, uz, uk, us, sm, tl⟩
  have hI := (sg_small i).2 sm
  exact ⟨(by rw [hI]; exact (badR _ _ _).2 (by have := of_decide_eq_true tl; omega)), ua.symm, ub.symm, uc.symm, uk.symm, us.symm, uz.symm, hI, m0⟩
end Go.Proofs.Ytahepinbmcgbnaa.Vm
