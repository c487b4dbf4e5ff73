/- What gantryref4 tells of a code: its row. No condition. -/
import Derived.Test.YtahepinbmcgbnaaVd
set_option linter.unusedVariables false
set_option linter.unusedSimpArgs false
namespace Go.Proofs.Ytahepinbmcgbnaa.Vm
open Go.RowKit Go.Proofs.Ytahepinbmcgbnaa.PV Go.Proofs.Ytahepinbmcgbnaa.Wd Go.Proofs.YtahepinbmcgbnaaW.PrintWords
attribute [local go_sem] opR moveR pickR allocR boxR ld1R ldgR ldR loadR st2R st1R storeR nilR faR fieldAddrR fdR fieldR ixR indexAddrR extR extractR intR shR isSh eqR bin2R sEqR intsOf binR unR convR miR panR fillP partsR bld2R bld1R buildR bldAR build2R ix1R indexR mxR mmR bs2R bs1R buildSliceR pvOf okT no1T noT taR mfR ptrsR ms1R makeSliceR bnd sl1R so1R sliceR argsR ca1R callR lenR ap2R srcR ap1R appendR lenA appA calR ev cst lk rm pt ins rmO ent gval cellsOf scell TI.agg Sh.agg re1 res1 resR is1 vmQ vmH vmE bin3R index2R strIxR ifR nnR stR oneP oneW opP vmQ2 tA0 tA1 tA2 tA3 tA4 tA5 tA6 tA7 tA8 tA9 tA10 tA11 tA12 tA13 tA14 tA15 oA0 oA1 oA2 oA3 oA4 oA5 oA6 oA7 oA8 oA9 oA10 oA11 oA12 oA13 oA14 reduceCtorEq Nat.reduceEqDiff Nat.reduceAdd Nat.reduceLeDiff Nat.reduceLT Nat.reduceMul Nat.reducePow Nat.reduceSub Int.reduceBEq Int.reduceBNe ne_eq Int.reduceEq not_false_eq_true Bool.false_eq_true Nat.reduceBEq List.getElem?_cons_zero List.getElem?_cons_succ List.map_cons List.map_nil List.length_cons List.length_nil List.drop_succ_cons List.drop_zero List.take_succ_cons List.take_zero List.take_nil List.drop_nil List.append_nil List.nil_append List.cons_append List.set_cons_zero List.set_cons_succ List.all_cons List.all_nil Bool.and_true Bool.and_self cond_true cond_false Option.map_some Option.map_none and_self true_and and_true List.append_eq Int.reduceToNat Int.reduceLT Int.reduceLE Int.reduceAdd Int.reduceMul Int.reduceSub decide_true decide_false nc0 nc1 nc2 nc3 nc4 nc8 Nat.zero_add Nat.mul_one Nat.add_zero
theorem sz_ : (({ data := #[] } : ByteArray).size) = 0 := rfl
theorem szS0 : (({ data := #[110, 105] } : ByteArray).size) = 2 := rfl
theorem atS0_0 : sAt ({ data := #[110, 105] } : ByteArray) 0 = 110 := rfl
theorem atS0_1 : sAt ({ data := #[110, 105] } : ByteArray) 1 = 105 := rfl
theorem szS1 : (({ data := #[97] } : ByteArray).size) = 1 := rfl
theorem atS1_0 : sAt ({ data := #[97] } : ByteArray) 0 = 97 := rfl
theorem szS2 : (({ data := #[97, 75, 83] } : ByteArray).size) = 3 := rfl
theorem atS2_0 : sAt ({ data := #[97, 75, 83] } : ByteArray) 0 = 97 := rfl
theorem atS2_1 : sAt ({ data := #[97, 75, 83] } : ByteArray) 1 = 75 := rfl
theorem atS2_2 : sAt ({ data := #[97, 75, 83] } : ByteArray) 2 = 83 := rfl
theorem szS3 : (({ data := #[110, 75, 83, 105] } : ByteArray).size) = 4 := rfl
theorem atS3_0 : sAt ({ data := #[110, 75, 83, 105] } : ByteArray) 0 = 110 := rfl
theorem atS3_1 : sAt ({ data := #[110, 75, 83, 105] } : ByteArray) 1 = 75 := rfl
theorem atS3_2 : sAt ({ data := #[110, 75, 83, 105] } : ByteArray) 2 = 83 := rfl
theorem atS3_3 : sAt ({ data := #[110, 75, 83, 105] } : ByteArray) 3 = 105 := rfl
theorem szS4 : (({ data := #[97, 75, 83, 52] } : ByteArray).size) = 4 := rfl
theorem atS4_0 : sAt ({ data := #[97, 75, 83, 52] } : ByteArray) 0 = 97 := rfl
theorem atS4_1 : sAt ({ data := #[97, 75, 83, 52] } : ByteArray) 1 = 75 := rfl
theorem atS4_2 : sAt ({ data := #[97, 75, 83, 52] } : ByteArray) 2 = 83 := rfl
theorem atS4_3 : sAt ({ data := #[97, 75, 83, 52] } : ByteArray) 3 = 52 := rfl
theorem szS5 : (({ data := #[97, 99, 52] } : ByteArray).size) = 3 := rfl
theorem atS5_0 : sAt ({ data := #[97, 99, 52] } : ByteArray) 0 = 97 := rfl
theorem atS5_1 : sAt ({ data := #[97, 99, 52] } : ByteArray) 1 = 99 := rfl
theorem atS5_2 : sAt ({ data := #[97, 99, 52] } : ByteArray) 2 = 52 := rfl
theorem szS6 : (({ data := #[97, 75, 52] } : ByteArray).size) = 3 := rfl
theorem atS6_0 : sAt ({ data := #[97, 75, 52] } : ByteArray) 0 = 97 := rfl
theorem atS6_1 : sAt ({ data := #[97, 75, 52] } : ByteArray) 1 = 75 := rfl
theorem atS6_2 : sAt ({ data := #[97, 75, 52] } : ByteArray) 2 = 52 := rfl
theorem szS7 : (({ data := #[97, 99, 75, 52] } : ByteArray).size) = 4 := rfl
theorem atS7_0 : sAt ({ data := #[97, 99, 75, 52] } : ByteArray) 0 = 97 := rfl
theorem atS7_1 : sAt ({ data := #[97, 99, 75, 52] } : ByteArray) 1 = 99 := rfl
theorem atS7_2 : sAt ({ data := #[97, 99, 75, 52] } : ByteArray) 2 = 75 := rfl
theorem atS7_3 : sAt ({ data := #[97, 99, 75, 52] } : ByteArray) 3 = 52 := rfl
theorem szS8 : (({ data := #[97, 83] } : ByteArray).size) = 2 := rfl
theorem atS8_0 : sAt ({ data := #[97, 83] } : ByteArray) 0 = 97 := rfl
theorem atS8_1 : sAt ({ data := #[97, 83] } : ByteArray) 1 = 83 := rfl
theorem szS9 : (({ data := #[97, 75] } : ByteArray).size) = 2 := rfl
theorem atS9_0 : sAt ({ data := #[97, 75] } : ByteArray) 0 = 97 := rfl
theorem atS9_1 : sAt ({ data := #[97, 75] } : ByteArray) 1 = 75 := rfl
theorem szS10 : (({ data := #[110, 75, 105] } : ByteArray).size) = 3 := rfl
theorem atS10_0 : sAt ({ data := #[110, 75, 105] } : ByteArray) 0 = 110 := rfl
theorem atS10_1 : sAt ({ data := #[110, 75, 105] } : ByteArray) 1 = 75 := rfl
theorem atS10_2 : sAt ({ data := #[110, 75, 105] } : ByteArray) 2 = 105 := rfl
theorem szS11 : (({ data := #[106, 105] } : ByteArray).size) = 2 := rfl
theorem atS11_0 : sAt ({ data := #[106, 105] } : ByteArray) 0 = 106 := rfl
theorem atS11_1 : sAt ({ data := #[106, 105] } : ByteArray) 1 = 105 := rfl
theorem szS12 : (({ data := #[74, 105] } : ByteArray).size) = 2 := rfl
theorem atS12_0 : sAt ({ data := #[74, 105] } : ByteArray) 0 = 74 := rfl
theorem atS12_1 : sAt ({ data := #[74, 105] } : ByteArray) 1 = 105 := rfl
theorem szS13 : (({ data := #[52] } : ByteArray).size) = 1 := rfl
theorem atS13_0 : sAt ({ data := #[52] } : ByteArray) 0 = 52 := rfl
theorem szS14 : (({ data := #[45] } : ByteArray).size) = 1 := rfl
theorem atS14_0 : sAt ({ data := #[45] } : ByteArray) 0 = 45 := rfl
theorem strAll : True := trivial
def rowS (o : Int) : ByteArray := if o = 1 then { data := #[110, 105] } else if o = 3 ∨ o = 26 ∨ o = 27 ∨ o = 28 then { data := #[97] } else if o = 4 ∨ o = 7 ∨ o = 8 then { data := #[97, 75, 83] } else if o = 5 then { data := #[110, 75, 83, 105] } else if o = 6 then { data := #[97, 75, 83, 52] } else if o = 10 then { data := #[97, 99, 52] } else if o = 11 ∨ o = 13 then { data := #[97, 75, 52] } else if o = 12 ∨ o = 14 then { data := #[97, 99, 75, 52] } else if o = 15 ∨ o = 18 then { data := #[97, 83] } else if o = 16 then { data := #[97, 75] } else if o = 17 then { data := #[110, 75, 105] } else if o = 19 then { data := #[106, 105] } else if o = 22 then { data := #[74, 105] } else if o = 23 ∨ o = 25 ∨ o = 29 then { data := #[52] } else if o = 24 then { data := #[45] } else { data := #[] }
theorem row_1 (h : Hp) (K : Out → Hp → Prop) (c : K (.ret (.s (.a (.string { data := #[110, 105] })))) h) : WC Try.prog 79 [.s (.a (.int .i64 1))] h K := by
  refine wc_intro Try.func79 rfl rfl (by kernel_rfl) (by simp [Try.f79]) ?_
  simp only [go_sem, ↓vmP2, ↓vmD, ↓vmK, ↓trK, ↓reduceIte, Try.f79]
  exact c
theorem row_3 (h : Hp) (K : Out → Hp → Prop) (c : K (.ret (.s (.a (.string { data := #[97] })))) h) : WC Try.prog 79 [.s (.a (.int .i64 3))] h K := by
  refine wc_intro Try.func79 rfl rfl (by kernel_rfl) (by simp [Try.f79]) ?_
  simp only [go_sem, ↓vmP2, ↓vmD, ↓vmK, ↓trK, ↓reduceIte, Try.f79]
  exact c
theorem row_26 (h : Hp) (K : Out → Hp → Prop) (c : K (.ret (.s (.a (.string { data := #[97] })))) h) : WC Try.prog 79 [.s (.a (.int .i64 26))] h K := by
  refine wc_intro Try.func79 rfl rfl (by kernel_rfl) (by simp [Try.f79]) ?_
  simp only [go_sem, ↓vmP2, ↓vmD, ↓vmK, ↓trK, ↓reduceIte, Try.f79]
  exact c
theorem row_27 (h : Hp) (K : Out → Hp → Prop) (c : K (.ret (.s (.a (.string { data := #[97] })))) h) : WC Try.prog 79 [.s (.a (.int .i64 27))] h K := by
  refine wc_intro Try.func79 rfl rfl (by kernel_rfl) (by simp [Try.f79]) ?_
  simp only [go_sem, ↓vmP2, ↓vmD, ↓vmK, ↓trK, ↓reduceIte, Try.f79]
  exact c
theorem row_28 (h : Hp) (K : Out → Hp → Prop) (c : K (.ret (.s (.a (.string { data := #[97] })))) h) : WC Try.prog 79 [.s (.a (.int .i64 28))] h K := by
  refine wc_intro Try.func79 rfl rfl (by kernel_rfl) (by simp [Try.f79]) ?_
  simp only [go_sem, ↓vmP2, ↓vmD, ↓vmK, ↓trK, ↓reduceIte, Try.f79]
  exact c
theorem row_4 (h : Hp) (K : Out → Hp → Prop) (c : K (.ret (.s (.a (.string { data := #[97, 75, 83] })))) h) : WC Try.prog 79 [.s (.a (.int .i64 4))] h K := by
  refine wc_intro Try.func79 rfl rfl (by kernel_rfl) (by simp [Try.f79]) ?_
  simp only [go_sem, ↓vmP2, ↓vmD, ↓vmK, ↓trK, ↓reduceIte, Try.f79]
  exact c
theorem row_7 (h : Hp) (K : Out → Hp → Prop) (c : K (.ret (.s (.a (.string { data := #[97, 75, 83] })))) h) : WC Try.prog 79 [.s (.a (.int .i64 7))] h K := by
  refine wc_intro Try.func79 rfl rfl (by kernel_rfl) (by simp [Try.f79]) ?_
  simp only [go_sem, ↓vmP2, ↓vmD, ↓vmK, ↓trK, ↓reduceIte, Try.f79]
  exact c
theorem row_8 (h : Hp) (K : Out → Hp → Prop) (c : K (.ret (.s (.a (.string { data := #[97, 75, 83] })))) h) : WC Try.prog 79 [.s (.a (.int .i64 8))] h K := by
  refine wc_intro Try.func79 rfl rfl (by kernel_rfl) (by simp [Try.f79]) ?_
  simp only [go_sem, ↓vmP2, ↓vmD, ↓vmK, ↓trK, ↓reduceIte, Try.f79]
  exact c
theorem row_5 (h : Hp) (K : Out → Hp → Prop) (c : K (.ret (.s (.a (.string { data := #[110, 75, 83, 105] })))) h) : WC Try.prog 79 [.s (.a (.int .i64 5))] h K := by
  refine wc_intro Try.func79 rfl rfl (by kernel_rfl) (by simp [Try.f79]) ?_
  simp only [go_sem, ↓vmP2, ↓vmD, ↓vmK, ↓trK, ↓reduceIte, Try.f79]
  exact c
theorem row_6 (h : Hp) (K : Out → Hp → Prop) (c : K (.ret (.s (.a (.string { data := #[97, 75, 83, 52] })))) h) : WC Try.prog 79 [.s (.a (.int .i64 6))] h K := by
  refine wc_intro Try.func79 rfl rfl (by kernel_rfl) (by simp [Try.f79]) ?_
  simp only [go_sem, ↓vmP2, ↓vmD, ↓vmK, ↓trK, ↓reduceIte, Try.f79]
  exact c
theorem row_10 (h : Hp) (K : Out → Hp → Prop) (c : K (.ret (.s (.a (.string { data := #[97, 99, 52] })))) h) : WC Try.prog 79 [.s (.a (.int .i64 10))] h K := by
  refine wc_intro Try.func79 rfl rfl (by kernel_rfl) (by simp [Try.f79]) ?_
  simp only [go_sem, ↓vmP2, ↓vmD, ↓vmK, ↓trK, ↓reduceIte, Try.f79]
  exact c
theorem row_11 (h : Hp) (K : Out → Hp → Prop) (c : K (.ret (.s (.a (.string { data := #[97, 75, 52] })))) h) : WC Try.prog 79 [.s (.a (.int .i64 11))] h K := by
  refine wc_intro Try.func79 rfl rfl (by kernel_rfl) (by simp [Try.f79]) ?_
  simp only [go_sem, ↓vmP2, ↓vmD, ↓vmK, ↓trK, ↓reduceIte, Try.f79]
  exact c
theorem row_13 (h : Hp) (K : Out → Hp → Prop) (c : K (.ret (.s (.a (.string { data := #[97, 75, 52] })))) h) : WC Try.prog 79 [.s (.a (.int .i64 13))] h K := by
  refine wc_intro Try.func79 rfl rfl (by kernel_rfl) (by simp [Try.f79]) ?_
  simp only [go_sem, ↓vmP2, ↓vmD, ↓vmK, ↓trK, ↓reduceIte, Try.f79]
  exact c
theorem row_12 (h : Hp) (K : Out → Hp → Prop) (c : K (.ret (.s (.a (.string { data := #[97, 99, 75, 52] })))) h) : WC Try.prog 79 [.s (.a (.int .i64 12))] h K := by
  refine wc_intro Try.func79 rfl rfl (by kernel_rfl) (by simp [Try.f79]) ?_
  simp only [go_sem, ↓vmP2, ↓vmD, ↓vmK, ↓trK, ↓reduceIte, Try.f79]
  exact c
theorem row_14 (h : Hp) (K : Out → Hp → Prop) (c : K (.ret (.s (.a (.string { data := #[97, 99, 75, 52] })))) h) : WC Try.prog 79 [.s (.a (.int .i64 14))] h K := by
  refine wc_intro Try.func79 rfl rfl (by kernel_rfl) (by simp [Try.f79]) ?_
  simp only [go_sem, ↓vmP2, ↓vmD, ↓vmK, ↓trK, ↓reduceIte, Try.f79]
  exact c
theorem row_15 (h : Hp) (K : Out → Hp → Prop) (c : K (.ret (.s (.a (.string { data := #[97, 83] })))) h) : WC Try.prog 79 [.s (.a (.int .i64 15))] h K := by
  refine wc_intro Try.func79 rfl rfl (by kernel_rfl) (by simp [Try.f79]) ?_
  simp only [go_sem, ↓vmP2, ↓vmD, ↓vmK, ↓trK, ↓reduceIte, Try.f79]
  exact c
theorem row_18 (h : Hp) (K : Out → Hp → Prop) (c : K (.ret (.s (.a (.string { data := #[97, 83] })))) h) : WC Try.prog 79 [.s (.a (.int .i64 18))] h K := by
  refine wc_intro Try.func79 rfl rfl (by kernel_rfl) (by simp [Try.f79]) ?_
  simp only [go_sem, ↓vmP2, ↓vmD, ↓vmK, ↓trK, ↓reduceIte, Try.f79]
  exact c
theorem row_16 (h : Hp) (K : Out → Hp → Prop) (c : K (.ret (.s (.a (.string { data := #[97, 75] })))) h) : WC Try.prog 79 [.s (.a (.int .i64 16))] h K := by
  refine wc_intro Try.func79 rfl rfl (by kernel_rfl) (by simp [Try.f79]) ?_
  simp only [go_sem, ↓vmP2, ↓vmD, ↓vmK, ↓trK, ↓reduceIte, Try.f79]
  exact c
theorem row_17 (h : Hp) (K : Out → Hp → Prop) (c : K (.ret (.s (.a (.string { data := #[110, 75, 105] })))) h) : WC Try.prog 79 [.s (.a (.int .i64 17))] h K := by
  refine wc_intro Try.func79 rfl rfl (by kernel_rfl) (by simp [Try.f79]) ?_
  simp only [go_sem, ↓vmP2, ↓vmD, ↓vmK, ↓trK, ↓reduceIte, Try.f79]
  exact c
theorem row_19 (h : Hp) (K : Out → Hp → Prop) (c : K (.ret (.s (.a (.string { data := #[106, 105] })))) h) : WC Try.prog 79 [.s (.a (.int .i64 19))] h K := by
  refine wc_intro Try.func79 rfl rfl (by kernel_rfl) (by simp [Try.f79]) ?_
  simp only [go_sem, ↓vmP2, ↓vmD, ↓vmK, ↓trK, ↓reduceIte, Try.f79]
  exact c
theorem row_22 (h : Hp) (K : Out → Hp → Prop) (c : K (.ret (.s (.a (.string { data := #[74, 105] })))) h) : WC Try.prog 79 [.s (.a (.int .i64 22))] h K := by
  refine wc_intro Try.func79 rfl rfl (by kernel_rfl) (by simp [Try.f79]) ?_
  simp only [go_sem, ↓vmP2, ↓vmD, ↓vmK, ↓trK, ↓reduceIte, Try.f79]
  exact c
theorem row_23 (h : Hp) (K : Out → Hp → Prop) (c : K (.ret (.s (.a (.string { data := #[52] })))) h) : WC Try.prog 79 [.s (.a (.int .i64 23))] h K := by
  refine wc_intro Try.func79 rfl rfl (by kernel_rfl) (by simp [Try.f79]) ?_
  simp only [go_sem, ↓vmP2, ↓vmD, ↓vmK, ↓trK, ↓reduceIte, Try.f79]
  exact c
theorem row_25 (h : Hp) (K : Out → Hp → Prop) (c : K (.ret (.s (.a (.string { data := #[52] })))) h) : WC Try.prog 79 [.s (.a (.int .i64 25))] h K := by
  refine wc_intro Try.func79 rfl rfl (by kernel_rfl) (by simp [Try.f79]) ?_
  simp only [go_sem, ↓vmP2, ↓vmD, ↓vmK, ↓trK, ↓reduceIte, Try.f79]
  exact c
theorem row_29 (h : Hp) (K : Out → Hp → Prop) (c : K (.ret (.s (.a (.string { data := #[52] })))) h) : WC Try.prog 79 [.s (.a (.int .i64 29))] h K := by
  refine wc_intro Try.func79 rfl rfl (by kernel_rfl) (by simp [Try.f79]) ?_
  simp only [go_sem, ↓vmP2, ↓vmD, ↓vmK, ↓trK, ↓reduceIte, Try.f79]
  exact c
theorem row_24 (h : Hp) (K : Out → Hp → Prop) (c : K (.ret (.s (.a (.string { data := #[45] })))) h) : WC Try.prog 79 [.s (.a (.int .i64 24))] h K := by
  refine wc_intro Try.func79 rfl rfl (by kernel_rfl) (by simp [Try.f79]) ?_
  simp only [go_sem, ↓vmP2, ↓vmD, ↓vmK, ↓trK, ↓reduceIte, Try.f79]
  exact c
theorem row_none (o : Int) (no : isOp o = false) (h : Hp) (K : Out → Hp → Prop) (c : K (.ret (.s (.a (.string { data := #[] })))) h) : WC Try.prog 79 [.s (.a (.int .i64 o))] h K := by
  simp only [isOp, Bool.or_eq_false_iff, and_assoc] at no
  obtain ⟨h1, h3, h4, h5, h6, h7, h8, h10, h11, h12, h13, h14, h15, h16, h17, h18, h19, h22, h23, h24, h25, h26, h27, h28, h29⟩ := no
  refine wc_intro Try.func79 rfl rfl (by kernel_rfl) (by simp [Try.f79]) ?_
  simp only [go_sem, ↓vmP2, ↓vmD, ↓vmK, ↓trK, ↓reduceIte, Try.f79, h1, h3, h4, h5, h6, h7, h8, h10, h11, h12, h13, h14, h15, h16, h17, h18, h19, h22, h23, h24, h25, h26, h27, h28, h29]
  exact c
end Go.Proofs.Ytahepinbmcgbnaa.Vm
