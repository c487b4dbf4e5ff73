/- gantryref4.May: is it an instruction of C64? Printed by wip/tools/genVr6.py. No condition. -/
import Derived.Test.YtahepinbmcgbnaaVr3
import Derived.Test.YtahepinbmcgbnaaVr4
set_option maxRecDepth 100000
set_option linter.unusedVariables false
set_option linter.unusedSimpArgs false
namespace Go.Proofs.Ytahepinbmcgbnaa.Vm
open Go.RowKit Go.Proofs.Ytahepinbmcgbnaa.PV Go.Proofs.Ytahepinbmcgbnaa.Wd Go.Proofs.YtahepinbmcgbnaaW.PrintWords
theorem te0 : (({ data := #[110, 105] } : ByteArray).toList == ({ data := #[] } : ByteArray).toList) = false := by decide +kernel
theorem te1 : (({ data := #[97] } : ByteArray).toList == ({ data := #[] } : ByteArray).toList) = false := by decide +kernel
theorem te2 : (({ data := #[97, 75, 83] } : ByteArray).toList == ({ data := #[] } : ByteArray).toList) = false := by decide +kernel
theorem te3 : (({ data := #[110, 75, 83, 105] } : ByteArray).toList == ({ data := #[] } : ByteArray).toList) = false := by decide +kernel
theorem te4 : (({ data := #[97, 75, 83, 52] } : ByteArray).toList == ({ data := #[] } : ByteArray).toList) = false := by decide +kernel
theorem te5 : (({ data := #[97, 99, 52] } : ByteArray).toList == ({ data := #[] } : ByteArray).toList) = false := by decide +kernel
theorem te6 : (({ data := #[97, 75, 52] } : ByteArray).toList == ({ data := #[] } : ByteArray).toList) = false := by decide +kernel
theorem te7 : (({ data := #[97, 99, 75, 52] } : ByteArray).toList == ({ data := #[] } : ByteArray).toList) = false := by decide +kernel
theorem te8 : (({ data := #[97, 83] } : ByteArray).toList == ({ data := #[] } : ByteArray).toList) = false := by decide +kernel
theorem te9 : (({ data := #[97, 75] } : ByteArray).toList == ({ data := #[] } : ByteArray).toList) = false := by decide +kernel
theorem te10 : (({ data := #[110, 75, 105] } : ByteArray).toList == ({ data := #[] } : ByteArray).toList) = false := by decide +kernel
theorem te11 : (({ data := #[106, 105] } : ByteArray).toList == ({ data := #[] } : ByteArray).toList) = false := by decide +kernel
theorem te12 : (({ data := #[74, 105] } : ByteArray).toList == ({ data := #[] } : ByteArray).toList) = false := by decide +kernel
theorem te13 : (({ data := #[52] } : ByteArray).toList == ({ data := #[] } : ByteArray).toList) = false := by decide +kernel
theorem te14 : (({ data := #[45] } : ByteArray).toList == ({ data := #[] } : ByteArray).toList) = false := by decide +kernel
theorem uu_1 : usesF 1 65 = true ∧ usesF 1 66 = false ∧ usesF 1 67 = false ∧ usesF 1 75 = false ∧ usesF 1 83 = false ∧ usesF 1 73 = true := by decide
theorem uu_3 : usesF 3 65 = true ∧ usesF 3 66 = true ∧ usesF 3 67 = false ∧ usesF 3 75 = false ∧ usesF 3 83 = false ∧ usesF 3 73 = false := by decide
theorem uu_4 : usesF 4 65 = true ∧ usesF 4 66 = true ∧ usesF 4 67 = false ∧ usesF 4 75 = true ∧ usesF 4 83 = true ∧ usesF 4 73 = false := by decide
theorem uu_5 : usesF 5 65 = true ∧ usesF 5 66 = false ∧ usesF 5 67 = false ∧ usesF 5 75 = true ∧ usesF 5 83 = true ∧ usesF 5 73 = true := by decide
theorem uu_6 : usesF 6 65 = true ∧ usesF 6 66 = true ∧ usesF 6 67 = false ∧ usesF 6 75 = true ∧ usesF 6 83 = true ∧ usesF 6 73 = true := by decide
theorem uu_7 : usesF 7 65 = true ∧ usesF 7 66 = false ∧ usesF 7 67 = false ∧ usesF 7 75 = true ∧ usesF 7 83 = true ∧ usesF 7 73 = false := by decide
theorem uu_8 : usesF 8 65 = true ∧ usesF 8 66 = true ∧ usesF 8 67 = false ∧ usesF 8 75 = true ∧ usesF 8 83 = true ∧ usesF 8 73 = false := by decide
theorem uu_10 : usesF 10 65 = true ∧ usesF 10 66 = true ∧ usesF 10 67 = true ∧ usesF 10 75 = false ∧ usesF 10 83 = false ∧ usesF 10 73 = true := by decide
theorem uu_11 : usesF 11 65 = true ∧ usesF 11 66 = true ∧ usesF 11 67 = false ∧ usesF 11 75 = true ∧ usesF 11 83 = false ∧ usesF 11 73 = true := by decide
theorem uu_12 : usesF 12 65 = true ∧ usesF 12 66 = true ∧ usesF 12 67 = true ∧ usesF 12 75 = true ∧ usesF 12 83 = false ∧ usesF 12 73 = true := by decide
theorem uu_13 : usesF 13 65 = true ∧ usesF 13 66 = true ∧ usesF 13 67 = false ∧ usesF 13 75 = true ∧ usesF 13 83 = false ∧ usesF 13 73 = true := by decide
theorem uu_14 : usesF 14 65 = true ∧ usesF 14 66 = true ∧ usesF 14 67 = true ∧ usesF 14 75 = true ∧ usesF 14 83 = false ∧ usesF 14 73 = true := by decide
theorem uu_15 : usesF 15 65 = true ∧ usesF 15 66 = true ∧ usesF 15 67 = false ∧ usesF 15 75 = false ∧ usesF 15 83 = true ∧ usesF 15 73 = false := by decide
theorem uu_16 : usesF 16 65 = true ∧ usesF 16 66 = true ∧ usesF 16 67 = false ∧ usesF 16 75 = true ∧ usesF 16 83 = false ∧ usesF 16 73 = false := by decide
theorem uu_17 : usesF 17 65 = true ∧ usesF 17 66 = false ∧ usesF 17 67 = false ∧ usesF 17 75 = true ∧ usesF 17 83 = false ∧ usesF 17 73 = true := by decide
theorem uu_18 : usesF 18 65 = true ∧ usesF 18 66 = false ∧ usesF 18 67 = false ∧ usesF 18 75 = false ∧ usesF 18 83 = true ∧ usesF 18 73 = false := by decide
theorem uu_19 : usesF 19 65 = false ∧ usesF 19 66 = false ∧ usesF 19 67 = false ∧ usesF 19 75 = false ∧ usesF 19 83 = false ∧ usesF 19 73 = true := by decide
theorem uu_22 : usesF 22 65 = false ∧ usesF 22 66 = false ∧ usesF 22 67 = false ∧ usesF 22 75 = false ∧ usesF 22 83 = true ∧ usesF 22 73 = true := by decide
theorem uu_23 : usesF 23 65 = false ∧ usesF 23 66 = false ∧ usesF 23 67 = false ∧ usesF 23 75 = false ∧ usesF 23 83 = false ∧ usesF 23 73 = true := by decide
theorem uu_24 : usesF 24 65 = false ∧ usesF 24 66 = false ∧ usesF 24 67 = false ∧ usesF 24 75 = false ∧ usesF 24 83 = false ∧ usesF 24 73 = false := by decide
theorem uu_25 : usesF 25 65 = false ∧ usesF 25 66 = false ∧ usesF 25 67 = false ∧ usesF 25 75 = false ∧ usesF 25 83 = false ∧ usesF 25 73 = true := by decide
theorem uu_26 : usesF 26 65 = true ∧ usesF 26 66 = true ∧ usesF 26 67 = false ∧ usesF 26 75 = false ∧ usesF 26 83 = false ∧ usesF 26 73 = false := by decide
theorem uu_27 : usesF 27 65 = true ∧ usesF 27 66 = false ∧ usesF 27 67 = false ∧ usesF 27 75 = false ∧ usesF 27 83 = false ∧ usesF 27 73 = false := by decide
theorem uu_28 : usesF 28 65 = true ∧ usesF 28 66 = false ∧ usesF 28 67 = false ∧ usesF 28 75 = false ∧ usesF 28 83 = false ∧ usesF 28 73 = false := by decide
theorem uu_29 : usesF 29 65 = false ∧ usesF 29 66 = false ∧ usesF 29 67 = false ∧ usesF 29 75 = false ∧ usesF 29 83 = false ∧ usesF 29 73 = true := by decide
attribute [local go_sem] opR moveR pickR allocR boxR ld1R ldgR ldR loadR st2R st1R storeR nilR faR fieldAddrR fdR fieldR ixR indexAddrR extR extractR intR shR isSh eqR bin2R sEqR intsOf binR unR convR miR panR fillP partsR bld2R bld1R buildR bldAR build2R ix1R indexR mxR mmR bs2R bs1R buildSliceR pvOf okT no1T noT taR mfR ptrsR ms1R makeSliceR bnd sl1R so1R sliceR argsR ca1R callR lenR ap2R srcR ap1R appendR lenA appA calR ev cst lk rm pt ins rmO ent gval cellsOf scell TI.agg Sh.agg re1 res1 resR is1 vmQ vmH vmE bin3R index2R strIxR ifR nnR stR oneP oneW opP vmQ2 tA0 tA1 tA2 tA3 tA4 tA5 tA6 tA7 tA8 tA9 tA10 tA11 tA12 tA13 tA14 tA15 oA0 oA1 oA2 oA3 oA4 oA5 oA6 oA7 oA8 oA9 oA10 oA11 oA12 oA13 oA14 reduceCtorEq Nat.reduceEqDiff Nat.reduceAdd Nat.reduceLeDiff Nat.reduceLT Nat.reduceMul Nat.reducePow Nat.reduceSub Int.reduceBEq Int.reduceBNe ne_eq Int.reduceEq not_false_eq_true Bool.false_eq_true Nat.reduceBEq List.getElem?_cons_zero List.getElem?_cons_succ List.map_cons List.map_nil List.length_cons List.length_nil List.drop_succ_cons List.drop_zero List.take_succ_cons List.take_zero List.take_nil List.drop_nil List.append_nil List.nil_append List.cons_append List.set_cons_zero List.set_cons_succ List.all_cons List.all_nil Bool.and_true Bool.and_self cond_true cond_false Option.map_some Option.map_none and_self true_and and_true List.append_eq Int.reduceToNat Int.reduceLT Int.reduceLE Int.reduceAdd Int.reduceMul Int.reduceSub decide_true decide_false nc0 nc1 nc2 nc3 nc4 nc8 Nat.zero_add Nat.mul_one Nat.add_zero Bool.not_true Bool.not_false rowN_1 rowN_3 rowN_4 rowN_5 rowN_6 rowN_7 rowN_8 rowN_10 rowN_11 rowN_12 rowN_13 rowN_14 rowN_15 rowN_16 rowN_17 rowN_18 rowN_19 rowN_22 rowN_23 rowN_24 rowN_25 rowN_26 rowN_27 rowN_28 rowN_29 te0 te1 te2 te3 te4 te5 te6 te7 te8 te9 te10 te11 te12 te13 te14 uu_1 uu_3 uu_4 uu_5 uu_6 uu_7 uu_8 uu_10 uu_11 uu_12 uu_13 uu_14 uu_15 uu_16 uu_17 uu_18 uu_19 uu_22 uu_23 uu_24 uu_25 uu_26 uu_27 uu_28 uu_29
section
variable {o a b c k s z i m : Int}
theorem bcase (b : Bool) : b = true ∨ b = false := by cases b <;> simp
theorem mx_m (h : (m != 0) = true) : mayF o a b c k s z i m = false := by simp [mayF, h]
theorem mx_ra (h : Ri.regF a = false) : mayF o a b c k s z i m = false := by simp [mayF, h]
theorem mx_rb (h : Ri.regF b = false) : mayF o a b c k s z i m = false := by simp [mayF, h]
theorem mx_rc (h : Ri.regF c = false) : mayF o a b c k s z i m = false := by simp [mayF, h]
theorem mx_a (u : usesF o 65 = false) (h : (a != 0) = true) : mayF o a b c k s z i m = false := by simp [mayF, u, h]
theorem mx_b (u : usesF o 66 = false) (h : (b != 0) = true) : mayF o a b c k s z i m = false := by simp [mayF, u, h]
theorem mx_c (u : usesF o 67 = false) (h : (c != 0) = true) : mayF o a b c k s z i m = false := by simp [mayF, u, h]
theorem mx_z (u : usesF o 67 = false) (h : (z != 0) = true) : mayF o a b c k s z i m = false := by simp [mayF, u, h]
theorem mx_k (u : usesF o 75 = false) (h : (k != 0) = true) : mayF o a b c k s z i m = false := by simp [mayF, u, h]
theorem mx_s (u : usesF o 83 = false) (h : (s != 0) = true) : mayF o a b c k s z i m = false := by simp [mayF, u, h]
theorem mx_i (u : usesF o 73 = false) (h : (i != 0) = true) : mayF o a b c k s z i m = false := by simp [mayF, u, h]
theorem mx_sm (u : (o == 1) = false) (h : Ri.smallF i = false) : mayF o a b c k s z i m = false := by simp [mayF, u, h]
theorem mt (ho : isOp o = true) (hm : (m != 0) = false) (ra : Ri.regF a = true) (rb : Ri.regF b = true) (rc : Ri.regF c = true) (ha : (usesF o 65 || !(a != 0)) = true) (hb : (usesF o 66 || !(b != 0)) = true) (hc : (usesF o 67 || (!(c != 0) && !(z != 0))) = true) (hk : (usesF o 75 || !(k != 0)) = true) (hs : (usesF o 83 || !(s != 0)) = true) (hi : (usesF o 73 || !(i != 0)) = true) (sm : (o == 1 || Ri.smallF i) = true) : mayF o a b c k s z i m = tail4 o a b c k s z i := by
  unfold mayF
  rw [ho, hm, ra, rb, rc, ha, hb, hc, hk, hs, hi, sm]; rfl
end
set_option maxHeartbeats 80000000 in
theorem may_ok (o : Int) (ho : isOp o = true) (a b c k s z i m : Int) (h : Hp) (K : Out → Hp → Prop) (c1 : ∀ r, mayF o a b c k s z i m = r → K (.ret (.s (.a (.bool r)))) h) : WC Try.prog 43 [.g (iC o a b c k s z i m)] h K := by
  refine wc_alone (iC_rn _ _ _ _ _ _ _ _ _) rfl ?_
  have c0 : ∀ bl r, mayF o a b c k s z i m = r → purK h K (.ret (.s (.a (.bool r)))) bl := fun _ r e => c1 r e
  clear c1
  rcases isOp_cases o ho with rfl | rfl | rfl | rfl | rfl | rfl | rfl | rfl | rfl | rfl | rfl | rfl | rfl | rfl | rfl | rfl | rfl | rfl | rfl | rfl | rfl | rfl | rfl | rfl | rfl
  all_goals
    refine wc_intro Try.func43 rfl rfl (by kernel_rfl) (by simp [Try.f43]) ?_
    simp only [go_sem, ↓vmP2, ↓vmD, ↓vmK, ↓trK, ↓reduceIte, Try.f43, iC]
    refine row_lit _ rfl _ _ ?_
    simp only [go_sem, ↓vmP2, ↓vmD, ↓vmK, ↓trK, ↓reduceIte]
    rcases bcase (m != 0) with h1 | h1
    · simp only [go_sem, ↓vmP2, ↓vmD, ↓vmK, ↓trK, ↓reduceIte, h1]
      exact c0 _ _ (mx_m h1)
    simp only [go_sem, ↓vmP2, ↓vmD, ↓vmK, ↓trK, ↓reduceIte, h1]
    refine rreg_wc _ _ _ ?_
    rcases (bcase (Ri.regF a)).symm with ra | ra
    · simp only [go_sem, ↓vmP2, ↓vmD, ↓vmK, ↓trK, ↓reduceIte, ra]
      exact c0 _ _ (mx_ra ra)
    simp only [go_sem, ↓vmP2, ↓vmD, ↓vmK, ↓trK, ↓reduceIte, ra]
    refine rreg_wc _ _ _ ?_
    rcases (bcase (Ri.regF b)).symm with rb | rb
    · simp only [go_sem, ↓vmP2, ↓vmD, ↓vmK, ↓trK, ↓reduceIte, rb]
      exact c0 _ _ (mx_rb rb)
    simp only [go_sem, ↓vmP2, ↓vmD, ↓vmK, ↓trK, ↓reduceIte, rb]
    refine rreg_wc _ _ _ ?_
    rcases (bcase (Ri.regF c)).symm with rc | rc
    · simp only [go_sem, ↓vmP2, ↓vmD, ↓vmK, ↓trK, ↓reduceIte, rc]
      exact c0 _ _ (mx_rc rc)
    simp only [go_sem, ↓vmP2, ↓vmD, ↓vmK, ↓trK, ↓reduceIte, rc]
    refine uses_wc _ rfl 65 (by unfold let6; decide) _ _ ?_
    simp only [go_sem, ↓vmP2, ↓vmD, ↓vmK, ↓trK, ↓reduceIte]
    try
      rcases bcase (a != 0) with ha | ha
      · simp only [go_sem, ↓vmP2, ↓vmD, ↓vmK, ↓trK, ↓reduceIte, ha]
        exact c0 _ _ (mx_a (by decide) ha)
      simp only [go_sem, ↓vmP2, ↓vmD, ↓vmK, ↓trK, ↓reduceIte, ha]
    refine uses_wc _ rfl 66 (by unfold let6; decide) _ _ ?_
    simp only [go_sem, ↓vmP2, ↓vmD, ↓vmK, ↓trK, ↓reduceIte]
    try
      rcases bcase (b != 0) with hb | hb
      · simp only [go_sem, ↓vmP2, ↓vmD, ↓vmK, ↓trK, ↓reduceIte, hb]
        exact c0 _ _ (mx_b (by decide) hb)
      simp only [go_sem, ↓vmP2, ↓vmD, ↓vmK, ↓trK, ↓reduceIte, hb]
    refine uses_wc _ rfl 67 (by unfold let6; decide) _ _ ?_
    simp only [go_sem, ↓vmP2, ↓vmD, ↓vmK, ↓trK, ↓reduceIte]
    try
      rcases bcase (c != 0) with hc | hc
      · simp only [go_sem, ↓vmP2, ↓vmD, ↓vmK, ↓trK, ↓reduceIte, hc]
        exact c0 _ _ (mx_c (by decide) hc)
      simp only [go_sem, ↓vmP2, ↓vmD, ↓vmK, ↓trK, ↓reduceIte, hc]
    try
      rcases bcase (z != 0) with hz | hz
      · simp only [go_sem, ↓vmP2, ↓vmD, ↓vmK, ↓trK, ↓reduceIte, hz]
        exact c0 _ _ (mx_z (by decide) hz)
      simp only [go_sem, ↓vmP2, ↓vmD, ↓vmK, ↓trK, ↓reduceIte, hz]
    refine uses_wc _ rfl 75 (by unfold let6; decide) _ _ ?_
    simp only [go_sem, ↓vmP2, ↓vmD, ↓vmK, ↓trK, ↓reduceIte]
    try
      rcases bcase (k != 0) with hk | hk
      · simp only [go_sem, ↓vmP2, ↓vmD, ↓vmK, ↓trK, ↓reduceIte, hk]
        exact c0 _ _ (mx_k (by decide) hk)
      simp only [go_sem, ↓vmP2, ↓vmD, ↓vmK, ↓trK, ↓reduceIte, hk]
    refine uses_wc _ rfl 83 (by unfold let6; decide) _ _ ?_
    simp only [go_sem, ↓vmP2, ↓vmD, ↓vmK, ↓trK, ↓reduceIte]
    try
      rcases bcase (s != 0) with hs | hs
      · simp only [go_sem, ↓vmP2, ↓vmD, ↓vmK, ↓trK, ↓reduceIte, hs]
        exact c0 _ _ (mx_s (by decide) hs)
      simp only [go_sem, ↓vmP2, ↓vmD, ↓vmK, ↓trK, ↓reduceIte, hs]
    refine uses_wc _ rfl 73 (by unfold let6; decide) _ _ ?_
    simp only [go_sem, ↓vmP2, ↓vmD, ↓vmK, ↓trK, ↓reduceIte]
    try
      rcases bcase (i != 0) with hi | hi
      · simp only [go_sem, ↓vmP2, ↓vmD, ↓vmK, ↓trK, ↓reduceIte, hi]
        exact c0 _ _ (mx_i (by decide) hi)
      simp only [go_sem, ↓vmP2, ↓vmD, ↓vmK, ↓trK, ↓reduceIte, hi]
    try
      refine rsmall_wc _ _ _ ?_
      rcases (bcase (Ri.smallF i)).symm with sm | sm
      · simp only [go_sem, ↓vmP2, ↓vmD, ↓vmK, ↓trK, ↓reduceIte, sm]
        exact c0 _ _ (mx_sm rfl sm)
      simp only [go_sem, ↓vmP2, ↓vmD, ↓vmK, ↓trK, ↓reduceIte, sm]
    have c2 := fun bl r e => c0 bl r ((mt rfl h1 ra rb rc (by first | rfl | (rw [(by assumption : (a != 0) = false)]; rfl)) (by first | rfl | (rw [(by assumption : (b != 0) = false)]; rfl)) (by first | rfl | (rw [(by assumption : (c != 0) = false), (by assumption : (z != 0) = false)]; rfl)) (by first | rfl | (rw [(by assumption : (k != 0) = false)]; rfl)) (by first | rfl | (rw [(by assumption : (s != 0) = false)]; rfl)) (by first | rfl | (rw [(by assumption : (i != 0) = false)]; rfl)) (by first | rfl | (rw [(by assumption : Ri.smallF i = true)]; rfl))).trans e)
    clear c0
  · exact c2 _ _ rfl
  · exact c2 _ _ rfl
  · refine binary_wc _ _ _ _ _ _ _ _ _ _ _ ?_
    simp only [go_sem, ↓vmP2, ↓vmD, ↓vmK, ↓trK, ↓reduceIte]
    exact c2 _ _ rfl
  · refine imm_wc _ _ _ _ _ ?_
    simp only [go_sem, ↓vmP2, ↓vmD, ↓vmK, ↓trK, ↓reduceIte]
    exact c2 _ _ rfl
  · refine rhasBin_wc _ _ _ _ ?_
    cases g1 : has s k with
    | false =>
      simp only [go_sem, ↓vmP2, ↓vmD, ↓vmK, ↓trK, ↓reduceIte]
      exact c2 _ _ (by simp [tail4, g1])
    | true =>
    simp only [go_sem, ↓vmP2, ↓vmD, ↓vmK, ↓trK, ↓reduceIte]
    refine rshift_wc _ _ _ ?_
    cases g2 : sh s with
    | true =>
      simp only [go_sem, ↓vmP2, ↓vmD, ↓vmK, ↓trK, ↓reduceIte]
      exact c2 _ _ (by simp [tail4, g1, g2])
    | false =>
    simp only [go_sem, ↓vmP2, ↓vmD, ↓vmK, ↓trK, ↓reduceIte]
    refine rint_wc _ _ _ ?_
    cases g3 : wh k with
    | false =>
      simp only [go_sem, ↓vmP2, ↓vmD, ↓vmK, ↓trK, ↓reduceIte]
      exact c2 _ _ (by simp [tail4, g1, g2, g3])
    | true =>
    simp only [go_sem, ↓vmP2, ↓vmD, ↓vmK, ↓trK, ↓reduceIte]
    cases g4 : (s != 4) with
    | false =>
      simp only [go_sem, ↓vmP2, ↓vmD, ↓vmK, ↓trK, ↓reduceIte, g4]
      exact c2 _ _ (by simp only [tail4, g1, g2, g3, g4]; rfl)
    | true =>
    simp only [go_sem, ↓vmP2, ↓vmD, ↓vmK, ↓trK, ↓reduceIte, g4]
    exact c2 _ _ (by simp only [tail4, g1, g2, g3, g4]; rfl)
  · refine rhasUn_wc _ _ _ _ ?_
    simp only [go_sem, ↓vmP2, ↓vmD, ↓vmK, ↓trK, ↓reduceIte]
    exact c2 _ _ rfl
  · refine rhasConv_wc _ _ _ _ ?_
    simp only [go_sem, ↓vmP2, ↓vmD, ↓vmK, ↓trK, ↓reduceIte]
    exact c2 _ _ rfl
  · refine scaled_wc _ _ _ _ _ _ _ _ _ _ _ ?_
    simp only [go_sem, ↓vmP2, ↓vmD, ↓vmK, ↓trK, ↓reduceIte]
    exact c2 _ _ (by show scaledF 10 c z = _; simp [scaledF])
  · refine rword_wc _ _ _ ?_
    simp only [go_sem, ↓vmP2, ↓vmD, ↓vmK, ↓trK, ↓reduceIte]
    exact c2 _ _ rfl
  · refine scaled_wc _ _ _ _ _ _ _ _ _ _ _ ?_
    cases g1 : ((z == 1 || z == 2 || z == 4 || z == 8) || (z == 0 && (c == 0 && (12 : Int) == 10))) with
    | false =>
      simp only [go_sem, ↓vmP2, ↓vmD, ↓vmK, ↓trK, ↓reduceIte]
      exact c2 _ _ (by show (scaledF 12 c z && wd k) = false; unfold scaledF; rw [g1]; rfl)
    | true =>
    simp only [go_sem, ↓vmP2, ↓vmD, ↓vmK, ↓trK, ↓reduceIte]
    refine rword_wc _ _ _ ?_
    simp only [go_sem, ↓vmP2, ↓vmD, ↓vmK, ↓trK, ↓reduceIte]
    exact c2 _ _ (by show (scaledF 12 c z && wd k) = wd k; unfold scaledF; rw [g1]; rfl)
  · refine rword_wc _ _ _ ?_
    simp only [go_sem, ↓vmP2, ↓vmD, ↓vmK, ↓trK, ↓reduceIte]
    exact c2 _ _ rfl
  · refine scaled_wc _ _ _ _ _ _ _ _ _ _ _ ?_
    cases g1 : ((z == 1 || z == 2 || z == 4 || z == 8) || (z == 0 && (c == 0 && (14 : Int) == 10))) with
    | false =>
      simp only [go_sem, ↓vmP2, ↓vmD, ↓vmK, ↓trK, ↓reduceIte]
      exact c2 _ _ (by show (scaledF 14 c z && wd k) = false; unfold scaledF; rw [g1]; rfl)
    | true =>
    simp only [go_sem, ↓vmP2, ↓vmD, ↓vmK, ↓trK, ↓reduceIte]
    refine rword_wc _ _ _ ?_
    simp only [go_sem, ↓vmP2, ↓vmD, ↓vmK, ↓trK, ↓reduceIte]
    exact c2 _ _ (by show (scaledF 14 c z && wd k) = wd k; unfold scaledF; rw [g1]; rfl)
  · refine condition_wc _ _ _ ?_
    simp only [go_sem, ↓vmP2, ↓vmD, ↓vmK, ↓trK, ↓reduceIte]
    exact c2 _ _ rfl
  · refine rword_wc _ _ _ ?_
    simp only [go_sem, ↓vmP2, ↓vmD, ↓vmK, ↓trK, ↓reduceIte]
    exact c2 _ _ rfl
  · refine imm_wc _ _ _ _ _ ?_
    simp only [go_sem, ↓vmP2, ↓vmD, ↓vmK, ↓trK, ↓reduceIte]
    exact c2 _ _ rfl
  · refine condition_wc _ _ _ ?_
    simp only [go_sem, ↓vmP2, ↓vmD, ↓vmK, ↓trK, ↓reduceIte]
    exact c2 _ _ rfl
  · exact c2 _ _ rfl
  · refine condition_wc _ _ _ ?_
    simp only [go_sem, ↓vmP2, ↓vmD, ↓vmK, ↓trK, ↓reduceIte]
    exact c2 _ _ rfl
  · exact c2 _ _ rfl
  · exact c2 _ _ rfl
  · exact c2 _ _ rfl
  · exact c2 _ _ rfl
  · exact c2 _ _ rfl
  · exact c2 _ _ rfl
  · exact c2 _ _ rfl
end Go.Proofs.Ytahepinbmcgbnaa.Vm
