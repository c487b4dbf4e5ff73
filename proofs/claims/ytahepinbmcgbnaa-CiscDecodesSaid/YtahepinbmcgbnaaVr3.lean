/- What gantryref4 tells of a code's row: which fields it uses. No condition. -/
import Derived.Test.YtahepinbmcgbnaaVr2
set_option maxRecDepth 100000
set_option linter.unusedVariables false
set_option linter.unusedSimpArgs false
namespace Go.Proofs.Ytahepinbmcgbnaa.Vm
open Go.RowKit Go.Proofs.Ytahepinbmcgbnaa.PV Go.Proofs.Ytahepinbmcgbnaa.Wd Go.Proofs.YtahepinbmcgbnaaW.PrintWords
theorem rowN_1 : rowS 1 = { data := #[110, 105] } := rfl
theorem rowN_3 : rowS 3 = { data := #[97] } := rfl
theorem rowN_4 : rowS 4 = { data := #[97, 75, 83] } := rfl
theorem rowN_5 : rowS 5 = { data := #[110, 75, 83, 105] } := rfl
theorem rowN_6 : rowS 6 = { data := #[97, 75, 83, 52] } := rfl
theorem rowN_7 : rowS 7 = { data := #[97, 75, 83] } := rfl
theorem rowN_8 : rowS 8 = { data := #[97, 75, 83] } := rfl
theorem rowN_10 : rowS 10 = { data := #[97, 99, 52] } := rfl
theorem rowN_11 : rowS 11 = { data := #[97, 75, 52] } := rfl
theorem rowN_12 : rowS 12 = { data := #[97, 99, 75, 52] } := rfl
theorem rowN_13 : rowS 13 = { data := #[97, 75, 52] } := rfl
theorem rowN_14 : rowS 14 = { data := #[97, 99, 75, 52] } := rfl
theorem rowN_15 : rowS 15 = { data := #[97, 83] } := rfl
theorem rowN_16 : rowS 16 = { data := #[97, 75] } := rfl
theorem rowN_17 : rowS 17 = { data := #[110, 75, 105] } := rfl
theorem rowN_18 : rowS 18 = { data := #[97, 83] } := rfl
theorem rowN_19 : rowS 19 = { data := #[106, 105] } := rfl
theorem rowN_22 : rowS 22 = { data := #[74, 105] } := rfl
theorem rowN_23 : rowS 23 = { data := #[52] } := rfl
theorem rowN_24 : rowS 24 = { data := #[45] } := rfl
theorem rowN_25 : rowS 25 = { data := #[52] } := rfl
theorem rowN_26 : rowS 26 = { data := #[97] } := rfl
theorem rowN_27 : rowS 27 = { data := #[97] } := rfl
theorem rowN_28 : rowS 28 = { data := #[97] } := rfl
theorem rowN_29 : rowS 29 = { data := #[52] } := rfl
theorem row_lit (o : Int) (ho : isOp o = true) (h : Hp) (K : Out → Hp → Prop) (c : K (.ret (.s (.a (.string (rowS o))))) h) : WC Try.prog 79 [.s (.a (.int .i64 o))] h K := by
  rcases isOp_cases o ho with rfl | rfl | rfl | rfl | rfl | rfl | rfl | rfl | rfl | rfl | rfl | rfl | rfl | rfl | rfl | rfl | rfl | rfl | rfl | rfl | rfl | rfl | rfl | rfl | rfl
  · exact row_1 h K c
  · exact row_3 h K c
  · exact row_4 h K c
  · exact row_5 h K c
  · exact row_6 h K c
  · exact row_7 h K c
  · exact row_8 h K c
  · exact row_10 h K c
  · exact row_11 h K c
  · exact row_12 h K c
  · exact row_13 h K c
  · exact row_14 h K c
  · exact row_15 h K c
  · exact row_16 h K c
  · exact row_17 h K c
  · exact row_18 h K c
  · exact row_19 h K c
  · exact row_22 h K c
  · exact row_23 h K c
  · exact row_24 h K c
  · exact row_25 h K c
  · exact row_26 h K c
  · exact row_27 h K c
  · exact row_28 h K c
  · exact row_29 h K c
attribute [local go_sem] opR moveR pickR allocR boxR ld1R ldgR ldR loadR st2R st1R storeR nilR faR fieldAddrR fdR fieldR ixR indexAddrR extR extractR intR shR isSh eqR bin2R sEqR intsOf binR unR convR miR panR fillP partsR bld2R bld1R buildR bldAR build2R ix1R indexR mxR mmR bs2R bs1R buildSliceR pvOf okT no1T noT taR mfR ptrsR ms1R makeSliceR bnd sl1R so1R sliceR argsR ca1R callR lenR ap2R srcR ap1R appendR lenA appA calR ev cst lk rm pt ins rmO ent gval cellsOf scell TI.agg Sh.agg re1 res1 resR is1 vmQ vmH vmE bin3R index2R strIxR ifR nnR stR oneP oneW opP vmQ2 tA0 tA1 tA2 tA3 tA4 tA5 tA6 tA7 tA8 tA9 tA10 tA11 tA12 tA13 tA14 tA15 oA0 oA1 oA2 oA3 oA4 oA5 oA6 oA7 oA8 oA9 oA10 oA11 oA12 oA13 oA14 reduceCtorEq Nat.reduceEqDiff Nat.reduceAdd Nat.reduceLeDiff Nat.reduceLT Nat.reduceMul Nat.reducePow Nat.reduceSub Int.reduceBEq Int.reduceBNe ne_eq Int.reduceEq not_false_eq_true Bool.false_eq_true Nat.reduceBEq List.getElem?_cons_zero List.getElem?_cons_succ List.map_cons List.map_nil List.length_cons List.length_nil List.drop_succ_cons List.drop_zero List.take_succ_cons List.take_zero List.take_nil List.drop_nil List.append_nil List.nil_append List.cons_append List.set_cons_zero List.set_cons_succ List.all_cons List.all_nil Bool.and_true Bool.and_self cond_true cond_false Option.map_some Option.map_none and_self true_and and_true List.append_eq Int.reduceToNat Int.reduceLT Int.reduceLE Int.reduceAdd Int.reduceMul Int.reduceSub decide_true decide_false nc0 nc1 nc2 nc3 nc4 nc8 Nat.zero_add Nat.mul_one Nat.add_zero unK List.size_toArray sz_ szS0 szS1 szS2 szS3 szS4 szS5 szS6 szS7 szS8 szS9 szS10 szS11 szS12 szS13 szS14 atS0_0 atS0_1 atS1_0 atS2_0 atS2_1 atS2_2 atS3_0 atS3_1 atS3_2 atS3_3 atS4_0 atS4_1 atS4_2 atS4_3 atS5_0 atS5_1 atS5_2 atS6_0 atS6_1 atS6_2 atS7_0 atS7_1 atS7_2 atS7_3 atS8_0 atS8_1 atS9_0 atS9_1 atS10_0 atS10_1 atS10_2 atS11_0 atS11_1 atS12_0 atS12_1 atS13_0 atS14_0 rowN_1 rowN_3 rowN_4 rowN_5 rowN_6 rowN_7 rowN_8 rowN_10 rowN_11 rowN_12 rowN_13 rowN_14 rowN_15 rowN_16 rowN_17 rowN_18 rowN_19 rowN_22 rowN_23 rowN_24 rowN_25 rowN_26 rowN_27 rowN_28 rowN_29
set_option maxHeartbeats 80000000 in
theorem uses_wc (o : Int) (ho : isOp o = true) (l : Int) (hl : let6 l) (h : Hp) (K : Out → Hp → Prop) (c : K (.ret (.s (.a (.bool (usesF o l))))) h) : WC Try.prog 80 [.s (.a (.int .i64 o)), .s (.a (.int .u8 l))] h K := by
  have c' : ∀ b, usesF o l = b → K (.ret (.s (.a (.bool b)))) h := fun b e => e ▸ c
  clear c
  rcases isOp_cases o ho with rfl | rfl | rfl | rfl | rfl | rfl | rfl | rfl | rfl | rfl | rfl | rfl | rfl | rfl | rfl | rfl | rfl | rfl | rfl | rfl | rfl | rfl | rfl | rfl | rfl <;> rcases hl with rfl | rfl | rfl | rfl | rfl | rfl <;>
    (refine wc_intro Try.func80 rfl rfl (by kernel_rfl) (by simp [Try.f80]) ?_
     simp only [go_sem, ↓vmP2, ↓vmD, ↓vmK, ↓trK, ↓reduceIte, Try.f80]
     refine row_lit _ rfl _ _ ?_
     simp only [go_sem, ↓vmP2, ↓vmD, ↓vmK, ↓trK, ↓reduceIte]
     refine sw_rounds 5 ?_
     repeat (refine swn_succ (by kernel_rfl) _ ?_
             simp only [go_sem, ↓vmP2, ↓vmD, ↓vmK, ↓trK, ↓reduceIte]
             try (refine ⟨by decide, ?_⟩))
     exact c' _ (by decide))
end Go.Proofs.Ytahepinbmcgbnaa.Vm
