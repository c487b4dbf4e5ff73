/- What package risc's and gantryref3's functions answer: the same. No condition. -/
import Derived.Test.YtahepinbmcgbnaaRu
set_option linter.unusedVariables false
set_option linter.unusedSimpArgs false
namespace Go.Proofs.Ytahepinbmcgbnaa.Ri
open Go.RowKit Go.Proofs.Ytahepinbmcgbnaa.PA Go.Proofs.YtahepinbmcgbnaaW.PrintWords Go.Proofs.Ytahepinbmcgbnaa.Wd

theorem bn_has (s k : Int) : ((bn s k 0 0).2 != 10) = has s k := by
  unfold bn
  cases has s k
  · simp
  · repeat' split
    all_goals simp_all
theorem un_has (s k : Int) : ((un s k 0).2 != 10) = hasU s k := by
  unfold un
  cases hasU s k
  · simp
  · repeat' split
    all_goals simp_all
theorem cv_has (s k : Int) : ((cv s k 0).2 != 10) = (nu s && nu k) := by
  unfold cv
  cases nu s <;> cases nu k <;> simp
  repeat' split
  all_goals simp_all
theorem Wi_wd (k : Int) : decide (0 < Wi k) = wd k := by
  unfold Wi wd
  by_cases h : 1 ≤ k ∧ k ≤ 11
  · have : k = 1 ∨ k = 2 ∨ k = 3 ∨ k = 4 ∨ k = 5 ∨ k = 6 ∨ k = 7 ∨ k = 8 ∨ k = 9 ∨ k = 10 ∨ k = 11 := by omega
    rcases this with rfl | rfl | rfl | rfl | rfl | rfl | rfl | rfl | rfl | rfl | rfl <;> decide
  · rw [if_neg (by omega), if_neg (by omega), if_neg (by omega), if_neg (by omega), if_neg (by omega)]
    have : (decide (1 ≤ k) && decide (k ≤ 11)) = false := by
      rw [Bool.and_eq_false_iff]
      by_cases h1 : 1 ≤ k
      · exact .inr (decide_eq_false (by omega))
      · exact .inl (decide_eq_false h1)
    rw [this]
    decide
theorem good_tail (o k s i : Int) : goodF o k s i = (smallF i && tailF o k s i) := by
  unfold goodF tailF
  rw [bn_has, un_has, cv_has, Wi_wd]
  by_cases h : i < -2147483648 ∨ 2147483647 < i
  · rw [if_pos h]
    have : smallF i = false := by
      unfold smallF
      rw [Bool.and_eq_false_iff]
      rcases h with h | h
      · exact .inl (decide_eq_false (by omega))
      · exact .inr (decide_eq_false (by omega))
    rw [this, Bool.false_and]
  · rw [if_neg h]
    have : smallF i = true := by
      unfold smallF
      rw [Bool.and_eq_true]
      exact ⟨decide_eq_true (by omega), decide_eq_true (by omega)⟩
    rw [this, Bool.true_and]
/-- A code's row, in letters. -/
theorem rows (o : Int) : (knownF o).2.2.2.2.2 = !(fieldsF o).toList.isEmpty ∧ ((knownF o).1 == 1) = lets o 65 ∧ ((knownF o).2.1 == 1) = lets o 66 ∧ ((knownF o).2.2.1 == 1) = lets o 67 ∧ ((knownF o).2.2.2.2.1 == 3) = lets o 73
    ∧ ((knownF o).2.2.2.2.1 == 4) = lets o 83 ∧ ((knownF o).2.2.2.2.1 == 4 || (knownF o).2.2.2.1 == 2) = lets o 75 ∧ ((knownF o).2.2.2.1 == 2) = decide (o = 11 ∨ o = 13) ∧ ((knownF o).2.2.2.2.1 == 4) = decide (o = 4 ∨ o = 7 ∨ o = 8) := by
  by_cases hc : codes o
  · rcases hc with rfl | rfl | rfl | rfl | rfl | rfl | rfl | rfl | rfl | rfl | rfl | rfl | rfl | rfl | rfl | rfl | rfl | rfl | rfl | rfl <;> decide +kernel
  · unfold codes at hc
    have hk : knownF o = (0, 0, 0, 0, 0, false) := by unfold knownF; rw [if_neg (by omega), if_neg (by omega), if_neg (by omega), if_neg (by omega), if_neg (by omega), if_neg (by omega), if_neg (by omega), if_neg (by omega), if_neg (by omega), if_neg (by omega)]
    have hf : fieldsF o = ⟨#[]⟩ := by unfold fieldsF; rw [if_neg (by omega), if_neg (by omega), if_neg (by omega), if_neg (by omega), if_neg (by omega), if_neg (by omega), if_neg (by omega), if_neg (by omega), if_neg (by omega), if_neg (by omega)]
    have d1 : decide (o = 11 ∨ o = 13) = false := decide_eq_false (by omega)
    have d2 : decide (o = 4 ∨ o = 7 ∨ o = 8) = false := decide_eq_false (by omega)
    unfold lets
    rw [hk, hf, d1, d2]
    decide +kernel
theorem within_row (u n : Int) : withinF u n = (regF n && ((u == 1) || n == 0)) := by
  unfold withinF
  by_cases h : n = 0
  · subst h
    have : regF 0 = true := by decide
    rw [this]
    simp
  · have : (n == 0) = false := beq_eq_false_iff_ne.mpr h
    rw [this]
    simp [Bool.and_comm]
theorem may_ok (o a b c k s z i l : Int) : (mayF o a b c k s z i l).2.2.2.2.2 = ((knownF o).2.2.2.2.2 && (withinF (knownF o).1 a && (withinF (knownF o).2.1 b && (withinF (knownF o).2.2.1 c && ((z == 0) && ((l == 0) && (((knownF o).2.2.2.2.1 == 3 || i == 0) && (((knownF o).2.2.2.2.1 == 4 || s == 0) && ((((knownF o).2.2.2.2.1 == 4 || (knownF o).2.2.2.1 == 2) || k == 0) && goodF o k s i))))))))) := by
  unfold mayF
  generalize knownF o = r
  obtain ⟨ra, rb, rc, rt, rn, ok⟩ := r
  simp only
  cases ok with
  | false => simp
  | true =>
  cases withinF ra a with
  | false => simp
  | true =>
  cases withinF rb b with
  | false => simp
  | true =>
  cases withinF rc c with
  | false => simp
  | true =>
  by_cases h1 : z = 0
  · by_cases h2 : l = 0
    · rw [if_neg (by simp), if_neg (by simp), if_neg (by simp), if_neg (by simp), if_neg (by simp [h1, h2])]
      by_cases h3 : rn = 3 <;> by_cases h4 : i = 0 <;> by_cases h5 : rn = 4 <;> by_cases h6 : s = 0 <;> by_cases h7 : k = 0 <;> by_cases h8 : rt = 2 <;> simp [h1, h2, h3, h4, h5, h6, h7, h8]
    · simp [h1, h2]
  · simp [h1]
/-- The two questions 'is it an instruction?' have one answer. -/
theorem may_rmay (o a b c k s z i l : Int) : (mayF o a b c k s z i l).2.2.2.2.2 = rmayF o a b c k s z i l := by
  obtain ⟨r0, r1, r2, r3, r4, r5, r6, _, _⟩ := rows o
  rw [may_ok, within_row, within_row, within_row, good_tail, r0, r1, r2, r3, r4, r6, r5]
  unfold rmayF
  have e : ∀ x : Int, (!(x != 0)) = (x == 0) := fun x => by simp [bne]
  rw [e, e, e]
  simp only [Bool.and_assoc, Bool.and_comm, Bool.and_left_comm]
theorem may_row (o a b c k s z i l : Int) (h : (mayF o a b c k s z i l).2.2.2.2.2 = true) : (mayF o a b c k s z i l).2.2.2.1 = (knownF o).2.2.2.1 ∧ (mayF o a b c k s z i l).2.2.2.2.1 = (knownF o).2.2.2.2.1 := by
  unfold mayF at h ⊢
  revert h
  repeat' split
  all_goals simp
/-- The bytes of an instruction. -/
theorem enc_renc (o a b c k s z i l : Int) : encF o a b c k s z i l = if rmayF o a b c k s z i l = true then (rencF o a b c k s z i l, 0) else ([], 30) := by
  unfold encF
  by_cases h : (mayF o a b c k s z i l).2.2.2.2.2 = true
  · have h2 : rmayF o a b c k s z i l = true := by rw [← may_rmay]; exact h
    rw [if_pos h, if_pos h2]
    obtain ⟨e1, e2⟩ := may_row o a b c k s z i l h
    obtain ⟨_, _, _, _, _, _, _, r7, r8⟩ := rows o
    rw [e1, e2]
    have c1 : ((knownF o).2.2.2.1 = 2) = (o = 11 ∨ o = 13) := propext (Iff.trans beq_iff_eq.symm (by rw [r7]; exact decide_eq_true_iff))
    have c2 : ((knownF o).2.2.2.2.1 = 4) = (o = 4 ∨ o = 7 ∨ o = 8) := propext (Iff.trans beq_iff_eq.symm (by rw [r8]; exact decide_eq_true_iff))
    simp only [c1, c2]
    rfl
  · have h2 : ¬ rmayF o a b c k s z i l = true := by rw [← may_rmay]; exact h
    rw [if_neg h, if_neg h2]
end Go.Proofs.Ytahepinbmcgbnaa.Ri
