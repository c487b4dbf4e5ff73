/- cisc's Decode is gantryref4's. Printed by wip/tools/genVp8.py. No condition. -/
import Derived.Test.YtahepinbmcgbnaaVp8
import Derived.Test.YtahepinbmcgbnaaVq3
import Derived.Test.YtahepinbmcgbnaaVr12
set_option linter.unusedVariables false
set_option linter.unusedSimpArgs false
namespace Go.Proofs.Ytahepinbmcgbnaa.Vm
open Go.RowKit Go.Proofs.Ytahepinbmcgbnaa.PV Go.Proofs.Ytahepinbmcgbnaa.Wd Go.Proofs.YtahepinbmcgbnaaW.PrintWords
theorem rel_of {l : List Int} (hm : BY l) (o : Int) (ho : isOp o = true) : relD (instO l o) (readO l o) := by
 rcases isOp_cases o ho with rfl | rfl | rfl | rfl | rfl | rfl | rfl | rfl | rfl | rfl | rfl | rfl | rfl | rfl | rfl | rfl | rfl | rfl | rfl | rfl | rfl | rfl | rfl | rfl | rfl
 ·exact rd_1 hm
 ·exact rd_3 hm
 ·exact rd_4 hm
 ·exact rd_5 hm
 ·exact rd_6 hm
 ·exact rd_7 hm
 ·exact rd_8 hm
 ·exact rd_10 hm
 ·exact rd_11 hm
 ·exact rd_12 hm
 ·exact rd_13 hm
 ·exact rd_14 hm
 ·exact rd_15 hm
 ·exact rd_16 hm
 ·exact rd_17 hm
 ·exact rd_18 hm
 ·exact rd_19 hm
 ·exact rd_22 hm
 ·exact rd_23 hm
 ·exact rd_24 hm
 ·exact rd_25 hm
 ·exact rd_26 hm
 ·exact rd_27 hm
 ·exact rd_28 hm
 ·exact rd_29 hm
theorem nR_rng {l : List Int} (hm : BY l) (p n : Nat) (hn : n = 1 ∨ n = 4 ∨ n = 8) : -9223372036854775808 ≤ numR l p n ∧ numR l p n ≤ 9223372036854775807 := by
 rw [numR_eq hm p n (by omega)]; exact numV_rng hm p n hn
theorem rd_rng {l : List Int} (hm : BY l) {n : Nat} {f : List SV} {o : Int} (ho : isOp o = true) (e : readO l o = .ok n f) : -9223372036854775808 ≤ ci f 7 ∧ ci f 7 ≤ 9223372036854775807 := by
 rcases isOp_cases o ho with rfl | rfl | rfl | rfl | rfl | rfl | rfl | rfl | rfl | rfl | rfl | rfl | rfl | rfl | rfl | rfl | rfl | rfl | rfl | rfl | rfl | rfl | rfl | rfl | rfl
 ·change rdD1 l = _ at e
  unfold rdD1 at e
  repeat' split at e
  all_goals first | contradiction | (injection e with e1 e3; subst e3; rw [ci_7]; first | omega | (refine nR_rng hm _ _ ?_; first | exact bytes_3 _ | omega))
 ·change rdD3 l = _ at e
  unfold rdD3 at e
  repeat' split at e
  all_goals first | contradiction | (injection e with e1 e3; subst e3; rw [ci_7]; first | omega | (refine nR_rng hm _ _ ?_; first | exact bytes_3 _ | omega))
 ·change rdD4 l = _ at e
  unfold rdD4 at e
  repeat' split at e
  all_goals first | contradiction | (injection e with e1 e3; subst e3; rw [ci_7]; first | omega | (refine nR_rng hm _ _ ?_; first | exact bytes_3 _ | omega))
 ·change rdD5 l = _ at e
  unfold rdD5 at e
  repeat' split at e
  all_goals first | contradiction | (injection e with e1 e3; subst e3; rw [ci_7]; first | omega | (refine nR_rng hm _ _ ?_; first | exact bytes_3 _ | omega))
 ·change rdD6 l = _ at e
  unfold rdD6 at e
  repeat' split at e
  all_goals first | contradiction | (injection e with e1 e3; subst e3; rw [ci_7]; first | omega | (refine nR_rng hm _ _ ?_; first | exact bytes_3 _ | omega))
 ·change rdD7 l = _ at e
  unfold rdD7 at e
  repeat' split at e
  all_goals first | contradiction | (injection e with e1 e3; subst e3; rw [ci_7]; first | omega | (refine nR_rng hm _ _ ?_; first | exact bytes_3 _ | omega))
 ·change rdD8 l = _ at e
  unfold rdD8 at e
  repeat' split at e
  all_goals first | contradiction | (injection e with e1 e3; subst e3; rw [ci_7]; first | omega | (refine nR_rng hm _ _ ?_; first | exact bytes_3 _ | omega))
 ·change rdD10 l = _ at e
  unfold rdD10 at e
  repeat' split at e
  all_goals first | contradiction | (injection e with e1 e3; subst e3; rw [ci_7]; first | omega | (refine nR_rng hm _ _ ?_; first | exact bytes_3 _ | omega))
 ·change rdD11 l = _ at e
  unfold rdD11 at e
  repeat' split at e
  all_goals first | contradiction | (injection e with e1 e3; subst e3; rw [ci_7]; first | omega | (refine nR_rng hm _ _ ?_; first | exact bytes_3 _ | omega))
 ·change rdD12 l = _ at e
  unfold rdD12 at e
  repeat' split at e
  all_goals first | contradiction | (injection e with e1 e3; subst e3; rw [ci_7]; first | omega | (refine nR_rng hm _ _ ?_; first | exact bytes_3 _ | omega))
 ·change rdD13 l = _ at e
  unfold rdD13 at e
  repeat' split at e
  all_goals first | contradiction | (injection e with e1 e3; subst e3; rw [ci_7]; first | omega | (refine nR_rng hm _ _ ?_; first | exact bytes_3 _ | omega))
 ·change rdD14 l = _ at e
  unfold rdD14 at e
  repeat' split at e
  all_goals first | contradiction | (injection e with e1 e3; subst e3; rw [ci_7]; first | omega | (refine nR_rng hm _ _ ?_; first | exact bytes_3 _ | omega))
 ·change rdD15 l = _ at e
  unfold rdD15 at e
  repeat' split at e
  all_goals first | contradiction | (injection e with e1 e3; subst e3; rw [ci_7]; first | omega | (refine nR_rng hm _ _ ?_; first | exact bytes_3 _ | omega))
 ·change rdD16 l = _ at e
  unfold rdD16 at e
  repeat' split at e
  all_goals first | contradiction | (injection e with e1 e3; subst e3; rw [ci_7]; first | omega | (refine nR_rng hm _ _ ?_; first | exact bytes_3 _ | omega))
 ·change rdD17 l = _ at e
  unfold rdD17 at e
  repeat' split at e
  all_goals first | contradiction | (injection e with e1 e3; subst e3; rw [ci_7]; first | omega | (refine nR_rng hm _ _ ?_; first | exact bytes_3 _ | omega))
 ·change rdD18 l = _ at e
  unfold rdD18 at e
  repeat' split at e
  all_goals first | contradiction | (injection e with e1 e3; subst e3; rw [ci_7]; first | omega | (refine nR_rng hm _ _ ?_; first | exact bytes_3 _ | omega))
 ·change rdD19 l = _ at e
  unfold rdD19 at e
  repeat' split at e
  all_goals first | contradiction | (injection e with e1 e3; subst e3; rw [ci_7]; first | omega | (refine nR_rng hm _ _ ?_; first | exact bytes_3 _ | omega))
 ·change rdD22 l = _ at e
  unfold rdD22 at e
  repeat' split at e
  all_goals first | contradiction | (injection e with e1 e3; subst e3; rw [ci_7]; first | omega | (refine nR_rng hm _ _ ?_; first | exact bytes_3 _ | omega))
 ·change rdD23 l = _ at e
  unfold rdD23 at e
  repeat' split at e
  all_goals first | contradiction | (injection e with e1 e3; subst e3; rw [ci_7]; first | omega | (refine nR_rng hm _ _ ?_; first | exact bytes_3 _ | omega))
 ·change rdD24 l = _ at e
  unfold rdD24 at e
  repeat' split at e
  all_goals first | contradiction | (injection e with e1 e3; subst e3; rw [ci_7]; first | omega | (refine nR_rng hm _ _ ?_; first | exact bytes_3 _ | omega))
 ·change rdD25 l = _ at e
  unfold rdD25 at e
  repeat' split at e
  all_goals first | contradiction | (injection e with e1 e3; subst e3; rw [ci_7]; first | omega | (refine nR_rng hm _ _ ?_; first | exact bytes_3 _ | omega))
 ·change rdD26 l = _ at e
  unfold rdD26 at e
  repeat' split at e
  all_goals first | contradiction | (injection e with e1 e3; subst e3; rw [ci_7]; first | omega | (refine nR_rng hm _ _ ?_; first | exact bytes_3 _ | omega))
 ·change rdD27 l = _ at e
  unfold rdD27 at e
  repeat' split at e
  all_goals first | contradiction | (injection e with e1 e3; subst e3; rw [ci_7]; first | omega | (refine nR_rng hm _ _ ?_; first | exact bytes_3 _ | omega))
 ·change rdD28 l = _ at e
  unfold rdD28 at e
  repeat' split at e
  all_goals first | contradiction | (injection e with e1 e3; subst e3; rw [ci_7]; first | omega | (refine nR_rng hm _ _ ?_; first | exact bytes_3 _ | omega))
 ·change rdD29 l = _ at e
  unfold rdD29 at e
  repeat' split at e
  all_goals first | contradiction | (injection e with e1 e3; subst e3; rw [ci_7]; first | omega | (refine nR_rng hm _ _ ?_; first | exact bytes_3 _ | omega))
/-- Any bytes are told to be the same. -/
theorem dec_eq {l : List Int} (hm : BY l) (h0 : 0 < l.length) : rdecR l = ((decR l).1, ((decR l).2.1 : Int), (decR l).2.2) := by
 cases ho : isOp l[0] with
 | false =>
  rw [rdecR_no l h0 ho]
  have : instD l = .form := by rw [instD_pos h0, gd l 0 h0, instO_no _ _ ho]
  unfold decR; rw [this]; rfl
 | true =>
  have rel := rel_of hm l[0] ho
  have hd : instD l = instO l l[0] := by rw [instD_pos h0, gd l 0 h0]
  have hr : readD l = readO l l[0] := by unfold readD; rw [gd l 0 h0]
  cases he : instO l l[0] with
  | short =>
   rw [he] at rel
   rw [rdecR_short l h0 ho (hr.trans rel)]
   unfold decR; rw [hd, he]; rfl
  | form =>
   rw [he] at rel
   rw [rdecR_bad l h0 ho (hr.trans rel)]
   unfold decR; rw [hd, he]; rfl
  | ok n bad f =>
   rw [he] at rel
   obtain ⟨f', h1, h2⟩ := rel
   have h1' := hr.trans h1
   obtain ⟨p1, p2, p3, _⟩ := pre_of (l' := l.take n) he
   have pt := p3 (by rw [List.length_take]; omega) (fun j q => take_getD l n j q)
   have hlt : (l.take n).length = n := by rw [List.length_take]; omega
   have g0 : (l.take n).getD 0 0 = l[0] := by rw [take_getD l n 0 (by omega), gd l 0 h0]
   cases bad with
   | false =>
    have h2 := h2 rfl
    subst h2
    have can : layC f' = l.take n := can_of hm (by rw [gd l 0 h0]; exact he)
    obtain ⟨_, a, b, c, k, s, z, i, hf⟩ := instO_ok he
    have hrng := ci_rng hm he
    subst hf
    have hdt : decR (l.take n) = (iC l[0] a b c k s z i 0, n, 0) := decR_of (by rw [instD_pos (by omega), g0]; exact pt)
    rw [layC_iC] at can
    have hmay := (f1_all l[0] a b c k s z i 0 hrng).1 (by rw [can, hlt]; exact hdt)
    rw [rdecR_acc l h0 ho h1' ⟨by rw [mayC_iC]; exact hmay, by rw [layC_iC]; exact can⟩]
    rw [decR_of (l := l) (by rw [hd]; exact he)]
   | true =>
    have hdec : decR l = (zI, 0, 40) := by unfold decR; rw [hd, he]; rfl
    rw [hdec]
    refine rdecR_rej l h0 ho h1' ?_
    rintro ⟨q1, q2⟩
    obtain ⟨a, b, c, k, s, z, i, hf, _, _⟩ := readO_iC l h0 l[0] ho h1
    have hrng := rd_rng hm ho h1
    subst hf
    rw [mayC_iC] at q1
    rw [layC_iC] at q2
    have := (f1_all l[0] a b c k s z i 0 hrng).2 q1
    rw [q2, hlt] at this
    have := dec_pre this (l' := l) p2 (by rw [List.take_take, Nat.min_self])
    rw [hdec] at this
    have := congrArg (fun q => q.2.2) this
    simp at this
end Go.Proofs.Ytahepinbmcgbnaa.Vm
