/- cisc's Decode and Encode, and gantryref4's: the same. Printed by wip/tools/genVp8.py. No condition. -/
import Derived.Test.YtahepinbmcgbnaaVp7
set_option linter.unusedVariables false
set_option linter.unusedSimpArgs false
namespace Go.Proofs.Ytahepinbmcgbnaa.Vm
open Go.RowKit Go.Proofs.Ytahepinbmcgbnaa.PV Go.Proofs.Ytahepinbmcgbnaa.Wd Go.Proofs.YtahepinbmcgbnaaW.PrintWords
theorem may_no (o a b c k s z i m : Int) (no : isOp o = false) : mayF o a b c k s z i m = false := by simp only [mayF, no, Bool.false_and]
theorem instO_no (l : List Int) (o : Int) (no : isOp o = false) : instO l o = .form := by
 simp only [isOp, Bool.or_eq_false_iff, and_assoc, beq_eq_false_iff_ne] at no
 obtain ⟨h1, h3, h4, h5, h6, h7, h8, h10, h11, h12, h13, h14, h15, h16, h17, h18, h19, h22, h23, h24, h25, h26, h27, h28, h29⟩ := no
 unfold instO
 simp only [h1, h3, h4, h5, h6, h7, h8, h10, h11, h12, h13, h14, h15, h16, h17, h18, h19, h22, h23, h24, h25, h26, h27, h28, h29, false_or, or_false, if_false]
theorem instO_ok {l : List Int} {o : Int} {n : Nat} {bad : Bool} {f : List SV} (e : instO l o = .ok n bad f) : isOp o = true ∧ ∃ a b c k s z i, f = iC o a b c k s z i 0 := by
 cases ho : isOp o with
 | false => rw [instO_no l o ho] at e; cases e
 | true =>
  refine ⟨rfl, ?_⟩
  rcases isOp_cases o ho with rfl | rfl | rfl | rfl | rfl | rfl | rfl | rfl | rfl | rfl | rfl | rfl | rfl | rfl | rfl | rfl | rfl | rfl | rfl | rfl | rfl | rfl | rfl | rfl | rfl
  ·rw [io_1] at e
   repeat' split at e
   all_goals first | contradiction | (injection e with e1 e2 e3; exact ⟨_, _, _, _, _, _, _, e3.symm⟩)
  ·rw [io_3] at e
   repeat' split at e
   all_goals first | contradiction | (injection e with e1 e2 e3; exact ⟨_, _, _, _, _, _, _, e3.symm⟩)
  ·rw [io_4] at e
   repeat' split at e
   all_goals first | contradiction | (injection e with e1 e2 e3; exact ⟨_, _, _, _, _, _, _, e3.symm⟩)
  ·rw [io_5] at e
   repeat' split at e
   all_goals first | contradiction | (injection e with e1 e2 e3; exact ⟨_, _, _, _, _, _, _, e3.symm⟩)
  ·rw [io_6] at e
   repeat' split at e
   all_goals first | contradiction | (injection e with e1 e2 e3; exact ⟨_, _, _, _, _, _, _, e3.symm⟩)
  ·rw [io_7] at e
   repeat' split at e
   all_goals first | contradiction | (injection e with e1 e2 e3; exact ⟨_, _, _, _, _, _, _, e3.symm⟩)
  ·rw [io_8] at e
   repeat' split at e
   all_goals first | contradiction | (injection e with e1 e2 e3; exact ⟨_, _, _, _, _, _, _, e3.symm⟩)
  ·rw [io_10] at e
   repeat' split at e
   all_goals first | contradiction | (injection e with e1 e2 e3; exact ⟨_, _, _, _, _, _, _, e3.symm⟩)
  ·rw [io_11] at e
   repeat' split at e
   all_goals first | contradiction | (injection e with e1 e2 e3; exact ⟨_, _, _, _, _, _, _, e3.symm⟩)
  ·rw [io_12] at e
   repeat' split at e
   all_goals first | contradiction | (injection e with e1 e2 e3; exact ⟨_, _, _, _, _, _, _, e3.symm⟩)
  ·rw [io_13] at e
   repeat' split at e
   all_goals first | contradiction | (injection e with e1 e2 e3; exact ⟨_, _, _, _, _, _, _, e3.symm⟩)
  ·rw [io_14] at e
   repeat' split at e
   all_goals first | contradiction | (injection e with e1 e2 e3; exact ⟨_, _, _, _, _, _, _, e3.symm⟩)
  ·rw [io_15] at e
   repeat' split at e
   all_goals first | contradiction | (injection e with e1 e2 e3; exact ⟨_, _, _, _, _, _, _, e3.symm⟩)
  ·rw [io_16] at e
   repeat' split at e
   all_goals first | contradiction | (injection e with e1 e2 e3; exact ⟨_, _, _, _, _, _, _, e3.symm⟩)
  ·rw [io_17] at e
   repeat' split at e
   all_goals first | contradiction | (injection e with e1 e2 e3; exact ⟨_, _, _, _, _, _, _, e3.symm⟩)
  ·rw [io_18] at e
   repeat' split at e
   all_goals first | contradiction | (injection e with e1 e2 e3; exact ⟨_, _, _, _, _, _, _, e3.symm⟩)
  ·rw [io_19] at e
   repeat' split at e
   all_goals first | contradiction | (injection e with e1 e2 e3; exact ⟨_, _, _, _, _, _, _, e3.symm⟩)
  ·rw [io_22] at e
   repeat' split at e
   all_goals first | contradiction | (injection e with e1 e2 e3; exact ⟨_, _, _, _, _, _, _, e3.symm⟩)
  ·rw [io_23] at e
   repeat' split at e
   all_goals first | contradiction | (injection e with e1 e2 e3; exact ⟨_, _, _, _, _, _, _, e3.symm⟩)
  ·rw [io_24] at e
   repeat' split at e
   all_goals first | contradiction | (injection e with e1 e2 e3; exact ⟨_, _, _, _, _, _, _, e3.symm⟩)
  ·rw [io_25] at e
   repeat' split at e
   all_goals first | contradiction | (injection e with e1 e2 e3; exact ⟨_, _, _, _, _, _, _, e3.symm⟩)
  ·rw [io_26] at e
   repeat' split at e
   all_goals first | contradiction | (injection e with e1 e2 e3; exact ⟨_, _, _, _, _, _, _, e3.symm⟩)
  ·rw [io_27] at e
   repeat' split at e
   all_goals first | contradiction | (injection e with e1 e2 e3; exact ⟨_, _, _, _, _, _, _, e3.symm⟩)
  ·rw [io_28] at e
   repeat' split at e
   all_goals first | contradiction | (injection e with e1 e2 e3; exact ⟨_, _, _, _, _, _, _, e3.symm⟩)
  ·rw [io_29] at e
   repeat' split at e
   all_goals first | contradiction | (injection e with e1 e2 e3; exact ⟨_, _, _, _, _, _, _, e3.symm⟩)
theorem pre_of {l l' : List Int} {o : Int} {n : Nat} {bad : Bool} {f : List SV} (e : instO l o = .ok n bad f) : 1 ≤ n ∧ n ≤ l.length ∧ (n ≤ l'.length → (∀ j, j < n → l'.getD j 0 = l.getD j 0) → instO l' o = .ok n bad f) ∧ (∀ q, 1 ≤ q → q < n → instO (l.take q) o = .short) := by
 rcases isOp_cases o (instO_ok e).1 with rfl | rfl | rfl | rfl | rfl | rfl | rfl | rfl | rfl | rfl | rfl | rfl | rfl | rfl | rfl | rfl | rfl | rfl | rfl | rfl | rfl | rfl | rfl | rfl | rfl
 ·exact pre_1 e
 ·exact pre_3 e
 ·exact pre_4 e
 ·exact pre_5 e
 ·exact pre_6 e
 ·exact pre_7 e
 ·exact pre_8 e
 ·exact pre_10 e
 ·exact pre_11 e
 ·exact pre_12 e
 ·exact pre_13 e
 ·exact pre_14 e
 ·exact pre_15 e
 ·exact pre_16 e
 ·exact pre_17 e
 ·exact pre_18 e
 ·exact pre_19 e
 ·exact pre_22 e
 ·exact pre_23 e
 ·exact pre_24 e
 ·exact pre_25 e
 ·exact pre_26 e
 ·exact pre_27 e
 ·exact pre_28 e
 ·exact pre_29 e
theorem can_at {l : List Int} (hm : BY l) {o : Int} (e0 : l.getD 0 0 = o) {n : Nat} {f : List SV} (e : instO l o = .ok n false f) : layC f = l.take n := by
 rcases isOp_cases o (instO_ok e).1 with rfl | rfl | rfl | rfl | rfl | rfl | rfl | rfl | rfl | rfl | rfl | rfl | rfl | rfl | rfl | rfl | rfl | rfl | rfl | rfl | rfl | rfl | rfl | rfl | rfl
 ·exact can_1 hm e0 e
 ·exact can_3 hm e0 e
 ·exact can_4 hm e0 e
 ·exact can_5 hm e0 e
 ·exact can_6 hm e0 e
 ·exact can_7 hm e0 e
 ·exact can_8 hm e0 e
 ·exact can_10 hm e0 e
 ·exact can_11 hm e0 e
 ·exact can_12 hm e0 e
 ·exact can_13 hm e0 e
 ·exact can_14 hm e0 e
 ·exact can_15 hm e0 e
 ·exact can_16 hm e0 e
 ·exact can_17 hm e0 e
 ·exact can_18 hm e0 e
 ·exact can_19 hm e0 e
 ·exact can_22 hm e0 e
 ·exact can_23 hm e0 e
 ·exact can_24 hm e0 e
 ·exact can_25 hm e0 e
 ·exact can_26 hm e0 e
 ·exact can_27 hm e0 e
 ·exact can_28 hm e0 e
 ·exact can_29 hm e0 e
theorem can_of {l : List Int} (hm : BY l) {n : Nat} {f : List SV} (e : instO l (l.getD 0 0) = .ok n false f) : layC f = l.take n := can_at hm rfl e
theorem f1_of (o a b c k s z i m : Int) (ho : isOp o = true) (hi : -9223372036854775808 ≤ i ∧ i ≤ 9223372036854775807) : decR (layF o a b c k s z i) = (iC o a b c k s z i m, (layF o a b c k s z i).length, 0) ↔ mayF o a b c k s z i m = true := by
 rcases isOp_cases o ho with rfl | rfl | rfl | rfl | rfl | rfl | rfl | rfl | rfl | rfl | rfl | rfl | rfl | rfl | rfl | rfl | rfl | rfl | rfl | rfl | rfl | rfl | rfl | rfl | rfl
 ·exact f1_1 a b c k s z i m hi
 ·exact f1_3 a b c k s z i m hi
 ·exact f1_4 a b c k s z i m hi
 ·exact f1_5 a b c k s z i m hi
 ·exact f1_6 a b c k s z i m hi
 ·exact f1_7 a b c k s z i m hi
 ·exact f1_8 a b c k s z i m hi
 ·exact f1_10 a b c k s z i m hi
 ·exact f1_11 a b c k s z i m hi
 ·exact f1_12 a b c k s z i m hi
 ·exact f1_13 a b c k s z i m hi
 ·exact f1_14 a b c k s z i m hi
 ·exact f1_15 a b c k s z i m hi
 ·exact f1_16 a b c k s z i m hi
 ·exact f1_17 a b c k s z i m hi
 ·exact f1_18 a b c k s z i m hi
 ·exact f1_19 a b c k s z i m hi
 ·exact f1_22 a b c k s z i m hi
 ·exact f1_23 a b c k s z i m hi
 ·exact f1_24 a b c k s z i m hi
 ·exact f1_25 a b c k s z i m hi
 ·exact f1_26 a b c k s z i m hi
 ·exact f1_27 a b c k s z i m hi
 ·exact f1_28 a b c k s z i m hi
 ·exact f1_29 a b c k s z i m hi
theorem decR_ok {l : List Int} {f : List SV} {n : Nat} (h : decR l = (f, n, 0)) : instD l = .ok n false f := by
 unfold decR at h
 cases hd : instD l with
 | short => rw [hd] at h; have := congrArg (fun q => q.2.2) h; simp at this
 | form => rw [hd] at h; have := congrArg (fun q => q.2.2) h; simp at this
 | ok n' bad f' =>
  rw [hd] at h
  cases bad with
  | true => have := congrArg (fun q => q.2.2) h; simp at this
  | false =>
   have h1 := congrArg (fun q => q.1) h
   have h2 := congrArg (fun q => q.2.1) h
   simp at h1 h2
   rw [h1, h2]
theorem decR_of {l : List Int} {f : List SV} {n : Nat} (h : instD l = .ok n false f) : decR l = (f, n, 0) := by
 unfold decR; rw [h]; rfl
theorem instD_pos {l : List Int} (h : 0 < l.length) : instD l = instO l (l.getD 0 0) := by unfold instD; rw [if_neg (by omega)]
/-- What is none, of whatever code. -/
theorem f1_all (o a b c k s z i m : Int) (hi : -9223372036854775808 ≤ i ∧ i ≤ 9223372036854775807) : decR (layF o a b c k s z i) = (iC o a b c k s z i m, (layF o a b c k s z i).length, 0) ↔ mayF o a b c k s z i m = true := by
 cases ho : isOp o with
 | true => exact f1_of o a b c k s z i m ho hi
 | false =>
  rw [may_no o a b c k s z i m ho, lay_none o a b c k s z i ho]
  constructor
  ·intro h
   have e := decR_ok h
   rw [instD_pos (by simp)] at e
   obtain ⟨h1, a', b', c', k', s', z', i', h2⟩ := instO_ok e
   have h3 : o = u8 o := by
    have := congrArg (fun q => ci q 0) h2
    exact this
   rw [show [u8 o].getD 0 0 = u8 o from rfl, ← h3, ho] at h1
   cases h1
  ·intro h; cases h
/-- Bytes that begin alike are read alike. -/
theorem dec_pre {l l' : List Int} {n : Nat} {f : List SV} (h : decR l = (f, n, 0)) (hl : n ≤ l'.length) (hg : l'.take n = l.take n) : decR l' = (f, n, 0) := by
 have e := decR_ok h
 have h0 : 0 < l.length := by
  rcases Nat.eq_zero_or_pos l.length with q | q
  ·unfold instD at e; rw [if_pos q] at e; cases e
  ·exact q
 rw [instD_pos h0] at e
 obtain ⟨p1, p2, p3, _⟩ := pre_of (l' := l') e
 have hj : ∀ j, j < n → l'.getD j 0 = l.getD j 0 := fun j q => by rw [← take_getD l' n j q, ← take_getD l n j q, hg]
 refine decR_of ?_
 rw [instD_pos (by omega), hj 0 (by omega)]
 exact p3 hl hj
theorem dec_n {l : List Int} {n : Nat} {f : List SV} (h : decR l = (f, n, 0)) : 1 ≤ n ∧ n ≤ l.length := by
 have e := decR_ok h
 have h0 : 0 < l.length := by
  rcases Nat.eq_zero_or_pos l.length with q | q
  ·unfold instD at e; rw [if_pos q] at e; cases e
  ·exact q
 rw [instD_pos h0] at e
 obtain ⟨p1, p2, _⟩ := pre_of (l' := l) e
 exact ⟨p1, p2⟩
/-- Cut short they are too few. -/
theorem dec_cut {l : List Int} {n : Nat} {f : List SV} (h : decR l = (f, n, 0)) (q : Nat) (hq : q < n) : decR (l.take q) = (zI, 0, 41) := by
 have e := decR_ok h
 obtain ⟨_, hn⟩ := dec_n h
 have h0 : 0 < l.length := by omega
 rw [instD_pos h0] at e
 obtain ⟨p1, p2, _, p4⟩ := pre_of (l' := l) e
 have : instD (l.take q) = .short := by
  rcases Nat.eq_zero_or_pos q with h1 | h1
  ·subst h1; rfl
  ·rw [instD_pos (by rw [List.length_take]; omega), take_getD l q 0 h1]
   exact p4 q h1 hq
 unfold decR; rw [this]
theorem ci_7 (o a b c k s z i m : Int) : ci (iC o a b c k s z i m) 7 = i := rfl
theorem ci_rng {l : List Int} (hm : BY l) {n : Nat} {f : List SV} {bad : Bool} {o : Int} (e : instO l o = .ok n bad f) : -9223372036854775808 ≤ ci f 7 ∧ ci f 7 ≤ 9223372036854775807 := by
 rcases isOp_cases o (instO_ok e).1 with rfl | rfl | rfl | rfl | rfl | rfl | rfl | rfl | rfl | rfl | rfl | rfl | rfl | rfl | rfl | rfl | rfl | rfl | rfl | rfl | rfl | rfl | rfl | rfl | rfl
 ·rw [io_1] at e
  repeat' split at e
  all_goals first | contradiction | (injection e with e1 e2 e3; subst e3; rw [ci_7]; first | omega | (refine numV_rng hm _ _ ?_; first | exact bytes_3 _ | omega) | (rw [num4_V]; refine numV_rng hm _ _ ?_; omega))
 ·rw [io_3] at e
  repeat' split at e
  all_goals first | contradiction | (injection e with e1 e2 e3; subst e3; rw [ci_7]; first | omega | (refine numV_rng hm _ _ ?_; first | exact bytes_3 _ | omega) | (rw [num4_V]; refine numV_rng hm _ _ ?_; omega))
 ·rw [io_4] at e
  repeat' split at e
  all_goals first | contradiction | (injection e with e1 e2 e3; subst e3; rw [ci_7]; first | omega | (refine numV_rng hm _ _ ?_; first | exact bytes_3 _ | omega) | (rw [num4_V]; refine numV_rng hm _ _ ?_; omega))
 ·rw [io_5] at e
  repeat' split at e
  all_goals first | contradiction | (injection e with e1 e2 e3; subst e3; rw [ci_7]; first | omega | (refine numV_rng hm _ _ ?_; first | exact bytes_3 _ | omega) | (rw [num4_V]; refine numV_rng hm _ _ ?_; omega))
 ·rw [io_6] at e
  repeat' split at e
  all_goals first | contradiction | (injection e with e1 e2 e3; subst e3; rw [ci_7]; first | omega | (refine numV_rng hm _ _ ?_; first | exact bytes_3 _ | omega) | (rw [num4_V]; refine numV_rng hm _ _ ?_; omega))
 ·rw [io_7] at e
  repeat' split at e
  all_goals first | contradiction | (injection e with e1 e2 e3; subst e3; rw [ci_7]; first | omega | (refine numV_rng hm _ _ ?_; first | exact bytes_3 _ | omega) | (rw [num4_V]; refine numV_rng hm _ _ ?_; omega))
 ·rw [io_8] at e
  repeat' split at e
  all_goals first | contradiction | (injection e with e1 e2 e3; subst e3; rw [ci_7]; first | omega | (refine numV_rng hm _ _ ?_; first | exact bytes_3 _ | omega) | (rw [num4_V]; refine numV_rng hm _ _ ?_; omega))
 ·rw [io_10] at e
  repeat' split at e
  all_goals first | contradiction | (injection e with e1 e2 e3; subst e3; rw [ci_7]; first | omega | (refine numV_rng hm _ _ ?_; first | exact bytes_3 _ | omega) | (rw [num4_V]; refine numV_rng hm _ _ ?_; omega))
 ·rw [io_11] at e
  repeat' split at e
  all_goals first | contradiction | (injection e with e1 e2 e3; subst e3; rw [ci_7]; first | omega | (refine numV_rng hm _ _ ?_; first | exact bytes_3 _ | omega) | (rw [num4_V]; refine numV_rng hm _ _ ?_; omega))
 ·rw [io_12] at e
  repeat' split at e
  all_goals first | contradiction | (injection e with e1 e2 e3; subst e3; rw [ci_7]; first | omega | (refine numV_rng hm _ _ ?_; first | exact bytes_3 _ | omega) | (rw [num4_V]; refine numV_rng hm _ _ ?_; omega))
 ·rw [io_13] at e
  repeat' split at e
  all_goals first | contradiction | (injection e with e1 e2 e3; subst e3; rw [ci_7]; first | omega | (refine numV_rng hm _ _ ?_; first | exact bytes_3 _ | omega) | (rw [num4_V]; refine numV_rng hm _ _ ?_; omega))
 ·rw [io_14] at e
  repeat' split at e
  all_goals first | contradiction | (injection e with e1 e2 e3; subst e3; rw [ci_7]; first | omega | (refine numV_rng hm _ _ ?_; first | exact bytes_3 _ | omega) | (rw [num4_V]; refine numV_rng hm _ _ ?_; omega))
 ·rw [io_15] at e
  repeat' split at e
  all_goals first | contradiction | (injection e with e1 e2 e3; subst e3; rw [ci_7]; first | omega | (refine numV_rng hm _ _ ?_; first | exact bytes_3 _ | omega) | (rw [num4_V]; refine numV_rng hm _ _ ?_; omega))
 ·rw [io_16] at e
  repeat' split at e
  all_goals first | contradiction | (injection e with e1 e2 e3; subst e3; rw [ci_7]; first | omega | (refine numV_rng hm _ _ ?_; first | exact bytes_3 _ | omega) | (rw [num4_V]; refine numV_rng hm _ _ ?_; omega))
 ·rw [io_17] at e
  repeat' split at e
  all_goals first | contradiction | (injection e with e1 e2 e3; subst e3; rw [ci_7]; first | omega | (refine numV_rng hm _ _ ?_; first | exact bytes_3 _ | omega) | (rw [num4_V]; refine numV_rng hm _ _ ?_; omega))
 ·rw [io_18] at e
  repeat' split at e
  all_goals first | contradiction | (injection e with e1 e2 e3; subst e3; rw [ci_7]; first | omega | (refine numV_rng hm _ _ ?_; first | exact bytes_3 _ | omega) | (rw [num4_V]; refine numV_rng hm _ _ ?_; omega))
 ·rw [io_19] at e
  repeat' split at e
  all_goals first | contradiction | (injection e with e1 e2 e3; subst e3; rw [ci_7]; first | omega | (refine numV_rng hm _ _ ?_; first | exact bytes_3 _ | omega) | (rw [num4_V]; refine numV_rng hm _ _ ?_; omega))
 ·rw [io_22] at e
  repeat' split at e
  all_goals first | contradiction | (injection e with e1 e2 e3; subst e3; rw [ci_7]; first | omega | (refine numV_rng hm _ _ ?_; first | exact bytes_3 _ | omega) | (rw [num4_V]; refine numV_rng hm _ _ ?_; omega))
 ·rw [io_23] at e
  repeat' split at e
  all_goals first | contradiction | (injection e with e1 e2 e3; subst e3; rw [ci_7]; first | omega | (refine numV_rng hm _ _ ?_; first | exact bytes_3 _ | omega) | (rw [num4_V]; refine numV_rng hm _ _ ?_; omega))
 ·rw [io_24] at e
  repeat' split at e
  all_goals first | contradiction | (injection e with e1 e2 e3; subst e3; rw [ci_7]; first | omega | (refine numV_rng hm _ _ ?_; first | exact bytes_3 _ | omega) | (rw [num4_V]; refine numV_rng hm _ _ ?_; omega))
 ·rw [io_25] at e
  repeat' split at e
  all_goals first | contradiction | (injection e with e1 e2 e3; subst e3; rw [ci_7]; first | omega | (refine numV_rng hm _ _ ?_; first | exact bytes_3 _ | omega) | (rw [num4_V]; refine numV_rng hm _ _ ?_; omega))
 ·rw [io_26] at e
  repeat' split at e
  all_goals first | contradiction | (injection e with e1 e2 e3; subst e3; rw [ci_7]; first | omega | (refine numV_rng hm _ _ ?_; first | exact bytes_3 _ | omega) | (rw [num4_V]; refine numV_rng hm _ _ ?_; omega))
 ·rw [io_27] at e
  repeat' split at e
  all_goals first | contradiction | (injection e with e1 e2 e3; subst e3; rw [ci_7]; first | omega | (refine numV_rng hm _ _ ?_; first | exact bytes_3 _ | omega) | (rw [num4_V]; refine numV_rng hm _ _ ?_; omega))
 ·rw [io_28] at e
  repeat' split at e
  all_goals first | contradiction | (injection e with e1 e2 e3; subst e3; rw [ci_7]; first | omega | (refine numV_rng hm _ _ ?_; first | exact bytes_3 _ | omega) | (rw [num4_V]; refine numV_rng hm _ _ ?_; omega))
 ·rw [io_29] at e
  repeat' split at e
  all_goals first | contradiction | (injection e with e1 e2 e3; subst e3; rw [ci_7]; first | omega | (refine numV_rng hm _ _ ?_; first | exact bytes_3 _ | omega) | (rw [num4_V]; refine numV_rng hm _ _ ?_; omega))
end Go.Proofs.Ytahepinbmcgbnaa.Vm
