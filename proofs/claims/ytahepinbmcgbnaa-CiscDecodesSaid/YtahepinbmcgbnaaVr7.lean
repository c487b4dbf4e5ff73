/- gantryref4.Encode: an instruction's bytes. Printed by wip/tools/genVr7.py. No condition. -/
import Derived.Test.YtahepinbmcgbnaaVr5
import Derived.Test.YtahepinbmcgbnaaVr4
import Derived.Test.YtahepinbmcgbnaaVc14
set_option linter.unusedVariables false
set_option linter.unusedSimpArgs false
namespace Go.Proofs.Ytahepinbmcgbnaa.Vm
open Go.RowKit Go.Proofs.Ytahepinbmcgbnaa.PV Go.Proofs.Ytahepinbmcgbnaa.Wd Go.Proofs.YtahepinbmcgbnaaW.PrintWords
attribute [local go_sem] opR moveR pickR allocR boxR ld1R ldgR ldR loadR st2R st1R storeR nilR faR fieldAddrR fdR fieldR ixR indexAddrR extR extractR intR shR isSh eqR bin2R sEqR intsOf binR unR convR miR panR fillP partsR bld2R bld1R buildR bldAR build2R ix1R indexR mxR mmR bs2R bs1R buildSliceR pvOf okT no1T noT taR mfR ptrsR ms1R makeSliceR bnd sl1R so1R sliceR argsR ca1R callR lenR ap2R srcR ap1R appendR lenA appA calR ev cst lk rm pt ins rmO ent gval cellsOf scell TI.agg Sh.agg re1 res1 resR is1 vmQ vmH vmE bin3R index2R strIxR ifR nnR stR oneP oneW opP vmQ2 tA0 tA1 tA2 tA3 tA4 tA5 tA6 tA7 tA8 tA9 tA10 tA11 tA12 tA13 tA14 tA15 oA0 oA1 oA2 oA3 oA4 oA5 oA6 oA7 oA8 oA9 oA10 oA11 oA12 oA13 oA14 reduceCtorEq Nat.reduceEqDiff Nat.reduceAdd Nat.reduceLeDiff Nat.reduceLT Nat.reduceMul Nat.reducePow Nat.reduceSub Int.reduceBEq Int.reduceBNe ne_eq Int.reduceEq not_false_eq_true Bool.false_eq_true Nat.reduceBEq List.getElem?_cons_zero List.getElem?_cons_succ List.map_cons List.map_nil List.length_cons List.length_nil List.drop_succ_cons List.drop_zero List.take_succ_cons List.take_zero List.take_nil List.drop_nil List.append_nil List.nil_append List.cons_append List.set_cons_zero List.set_cons_succ List.all_cons List.all_nil Bool.and_true Bool.and_self cond_true cond_false Option.map_some Option.map_none and_self true_and and_true List.append_eq Int.reduceToNat Int.reduceLT Int.reduceLE Int.reduceAdd Int.reduceMul Int.reduceSub decide_true decide_false nc0 nc1 nc2 nc3 nc4 nc8 Nat.zero_add Nat.mul_one Nat.add_zero unK List.size_toArray iC zrow List.replicate List.flatten_cons List.flatten_nil ml1 ml2 ml3 mlL wi1 wi2 wi3 wi4 wi5 szS0 szS1 szS2 szS3 szS4 szS5 szS6 szS7 szS8 szS9 szS10 szS11 szS12 szS13 szS14 atS0_0 atS0_1 atS1_0 atS2_0 atS2_1 atS2_2 atS3_0 atS3_1 atS3_2 atS3_3 atS4_0 atS4_1 atS4_2 atS4_3 atS5_0 atS5_1 atS5_2 atS6_0 atS6_1 atS6_2 atS7_0 atS7_1 atS7_2 atS7_3 atS8_0 atS8_1 atS9_0 atS9_1 atS10_0 atS10_1 atS10_2 atS11_0 atS11_1 atS12_0 atS12_1 atS13_0 atS14_0
set_option maxRecDepth 100000 in
set_option maxHeartbeats 16000000 in
theorem renc_1 (a b c k s z i m : Int) (K : Out → Hp → Prop) (c0 : K (.ret (.s (.so 0 (layF 1 a b c k s z i).length 1 5))) [.rw (byC (layF 1 a b c k s z i))]) : WC Try.prog 45 [.g (iC 1 a b c k s z i m)] [] K := by
 refine wc_pick ?_
 refine wc_intro Try.func45 rfl rfl (by kernel_rfl) (by simp [Try.f45]) ?_
 simp only [go_sem, ↓vmP2, ↓vmD, ↓vmK, ↓trK, ↓reduceIte, Try.f45, iC]
 refine row_1 _ _ ?_
 simp only [go_sem, ↓vmP2, ↓vmD, ↓vmK, ↓trK, ↓reduceIte]
 refine rsize_wc _ _ _ ?_
 simp only [go_sem, ↓vmP2, ↓vmD, ↓vmK, ↓trK, ↓reduceIte]
 refine sw_rounds 3 ?_
 refine swn_succ (by kernel_rfl) _ ?_
 simp only [go_sem, ↓vmP2, ↓vmD, ↓vmK, ↓trK, ↓reduceIte]
 refine swn_succ (by kernel_rfl) _ ?_
 simp only [go_sem, ↓vmP2, ↓vmD, ↓vmK, ↓trK, ↓reduceIte]
 refine sw_cut [(6, .s (.a (.int .i64 1))), (5, .s (.a (.int .i64 (leastF i)))), (4, .s (.so 4 ((([u8 1] ++ [u8 (abF a (leastF i))]) ++ lows i (bytesF (leastF i)))).length 1 5)), (3, .s (.a (.string { data := #[110, 105] }))), (1, .s (.p 0 0))] [.rw (iC 1 a b c k s z i m), .dead, .rw [.a (.int .u8 (u8 (abF a (leastF i))))], .dead, .rw (byC (([u8 1] ++ [u8 (abF a (leastF i))]) ++ lows i (bytesF (leastF i))))] ?_ ?_
 rotate_left
 ·refine sw_draw (.take 0 (.take 1 (.take 3 (.all [(2, .all [(4, .all [(5, .take 6 (.done))])]), (4, .all [(2, .all [(5, .take 6 (.done))])])])))) mo (by kernel_rfl) (by kernel_rfl) (by kernel_rfl) (fun _ _ _ h => h) ?_
  simp only [go_sem, ↓vmP2, ↓vmD, ↓vmK, ↓trK, ↓reduceIte]
  refine ⟨?_, ?_⟩
  all_goals refine rbytes_wc _ _ _ ?_
  all_goals simp only [go_sem, ↓vmP2, ↓vmD, ↓vmK, ↓trK, ↓reduceIte]
  all_goals refine wc_focus [3] rfl (hc := [.rw (byC ([u8 1] ++ [u8 (abF a (leastF i))]))]) ⟨rfl, trivial⟩ (args' := [.s (.so 0 2 1 5), .s (.a (.int .i64 i)), .s (.a (.int .i64 (((bytesF (leastF i)) : Nat) : Int)))]) rfl rfl (low_wc ([u8 1] ++ [u8 (abF a (leastF i))]) i (bytesF (leastF i)) _ (by simp) ⟨bF_ge _, bF_le _⟩ ?_)
  all_goals simp only [rnO, rnP, mrg, setAll, rnB, rnS, ix, List.length_cons, List.length_nil, List.take_succ_cons, List.take_zero, List.take_nil, List.drop_succ_cons, List.drop_zero, List.drop_nil, List.map_cons, List.map_nil, List.getElem?_nil, List.getElem?_cons_zero, List.getElem?_cons_succ, List.set_cons_zero, List.set_cons_succ, List.cons_append, List.nil_append, List.append_nil, Nat.zero_add, Nat.reduceAdd, Nat.reduceSub, rn_by]
  all_goals simp only [go_sem, ↓vmP2, ↓vmD, ↓vmK, ↓trK, ↓reduceIte, cutK, subT]
  all_goals first | rfl | exact ⟨rfl, rfl⟩ | exact ⟨⟨rfl, rfl, rfl, rfl, rfl, trivial⟩, rfl⟩
 simp only [go_sem, ↓vmP2, ↓vmD, ↓vmK, ↓trK, ↓reduceIte]
 refine swn_succ (by kernel_rfl) _ ?_
 simp only [go_sem, ↓vmP2, ↓vmD, ↓vmK, ↓trK, ↓reduceIte]
 exact ⟨[4], [.rw (byC (([u8 1] ++ [u8 (abF a (leastF i))]) ++ lows i (bytesF (leastF i))))], .s (.so 0 (layF 1 a b c k s z i).length 1 5), rfl, by simp, by first | rfl | simp [rnO, rnP, rnS, ix, lay_1, lows_len], ⟨by simp only [rnB, rn_by]; rfl, trivial⟩, by simp [roOk], rfl, c0⟩
set_option maxRecDepth 100000 in
set_option maxHeartbeats 16000000 in
theorem renc_3 (a b c k s z i m : Int) (K : Out → Hp → Prop) (c0 : K (.ret (.s (.so 0 (layF 3 a b c k s z i).length 1 5))) [.rw (byC (layF 3 a b c k s z i))]) : WC Try.prog 45 [.g (iC 3 a b c k s z i m)] [] K := by
 refine wc_pick ?_
 refine wc_intro Try.func45 rfl rfl (by kernel_rfl) (by simp [Try.f45]) ?_
 simp only [go_sem, ↓vmP2, ↓vmD, ↓vmK, ↓trK, ↓reduceIte, Try.f45, iC]
 refine row_3 _ _ ?_
 simp only [go_sem, ↓vmP2, ↓vmD, ↓vmK, ↓trK, ↓reduceIte]
 refine rsize_wc _ _ _ ?_
 simp only [go_sem, ↓vmP2, ↓vmD, ↓vmK, ↓trK, ↓reduceIte]
 refine sw_rounds 2 ?_
 refine swn_succ (by kernel_rfl) _ ?_
 simp only [go_sem, ↓vmP2, ↓vmD, ↓vmK, ↓trK, ↓reduceIte]
 refine swn_succ (by kernel_rfl) _ ?_
 simp only [go_sem, ↓vmP2, ↓vmD, ↓vmK, ↓trK, ↓reduceIte]
 exact ⟨[3], [.rw (byC ([u8 3] ++ [u8 (abF a b)]))], .s (.so 0 (layF 3 a b c k s z i).length 1 5), rfl, by simp, by first | rfl | simp [rnO, rnP, rnS, ix, lay_3, lows_len], ⟨by simp only [rnB, rn_by]; rfl, trivial⟩, by simp [roOk], rfl, c0⟩
set_option maxRecDepth 100000 in
set_option maxHeartbeats 16000000 in
theorem renc_4 (a b c k s z i m : Int) (K : Out → Hp → Prop) (c0 : K (.ret (.s (.so 0 (layF 4 a b c k s z i).length 1 5))) [.rw (byC (layF 4 a b c k s z i))]) : WC Try.prog 45 [.g (iC 4 a b c k s z i m)] [] K := by
 refine wc_pick ?_
 refine wc_intro Try.func45 rfl rfl (by kernel_rfl) (by simp [Try.f45]) ?_
 simp only [go_sem, ↓vmP2, ↓vmD, ↓vmK, ↓trK, ↓reduceIte, Try.f45, iC]
 refine row_4 _ _ ?_
 simp only [go_sem, ↓vmP2, ↓vmD, ↓vmK, ↓trK, ↓reduceIte]
 refine rsize_wc _ _ _ ?_
 simp only [go_sem, ↓vmP2, ↓vmD, ↓vmK, ↓trK, ↓reduceIte]
 refine sw_rounds 4 ?_
 refine swn_succ (by kernel_rfl) _ ?_
 simp only [go_sem, ↓vmP2, ↓vmD, ↓vmK, ↓trK, ↓reduceIte]
 refine swn_succ (by kernel_rfl) _ ?_
 simp only [go_sem, ↓vmP2, ↓vmD, ↓vmK, ↓trK, ↓reduceIte]
 refine swn_succ (by kernel_rfl) _ ?_
 simp only [go_sem, ↓vmP2, ↓vmD, ↓vmK, ↓trK, ↓reduceIte]
 refine swn_succ (by kernel_rfl) _ ?_
 simp only [go_sem, ↓vmP2, ↓vmD, ↓vmK, ↓trK, ↓reduceIte]
 exact ⟨[7], [.rw (byC ((([u8 4] ++ [u8 (abF a b)]) ++ [u8 (k)]) ++ [u8 (s)]))], .s (.so 0 (layF 4 a b c k s z i).length 1 5), rfl, by simp, by first | rfl | simp [rnO, rnP, rnS, ix, lay_4, lows_len], ⟨by simp only [rnB, rn_by]; rfl, trivial⟩, by simp [roOk], rfl, c0⟩
set_option maxRecDepth 100000 in
set_option maxHeartbeats 16000000 in
theorem renc_5 (a b c k s z i m : Int) (K : Out → Hp → Prop) (c0 : K (.ret (.s (.so 0 (layF 5 a b c k s z i).length 1 5))) [.rw (byC (layF 5 a b c k s z i))]) : WC Try.prog 45 [.g (iC 5 a b c k s z i m)] [] K := by
 refine wc_pick ?_
 refine wc_intro Try.func45 rfl rfl (by kernel_rfl) (by simp [Try.f45]) ?_
 simp only [go_sem, ↓vmP2, ↓vmD, ↓vmK, ↓trK, ↓reduceIte, Try.f45, iC]
 refine row_5 _ _ ?_
 simp only [go_sem, ↓vmP2, ↓vmD, ↓vmK, ↓trK, ↓reduceIte]
 refine rsize_wc _ _ _ ?_
 simp only [go_sem, ↓vmP2, ↓vmD, ↓vmK, ↓trK, ↓reduceIte]
 refine sw_rounds 5 ?_
 refine swn_succ (by kernel_rfl) _ ?_
 simp only [go_sem, ↓vmP2, ↓vmD, ↓vmK, ↓trK, ↓reduceIte]
 refine swn_succ (by kernel_rfl) _ ?_
 simp only [go_sem, ↓vmP2, ↓vmD, ↓vmK, ↓trK, ↓reduceIte]
 refine swn_succ (by kernel_rfl) _ ?_
 simp only [go_sem, ↓vmP2, ↓vmD, ↓vmK, ↓trK, ↓reduceIte]
 refine swn_succ (by kernel_rfl) _ ?_
 simp only [go_sem, ↓vmP2, ↓vmD, ↓vmK, ↓trK, ↓reduceIte]
 refine sw_cut [(6, .s (.a (.int .i64 3))), (5, .s (.a (.int .i64 (leastF i)))), (4, .s (.so 8 ((((([u8 5] ++ [u8 (abF a (leastF i))]) ++ [u8 (k)]) ++ [u8 (s)]) ++ lows i (bytesF (leastF i)))).length 1 5)), (3, .s (.a (.string { data := #[110, 75, 83, 105] }))), (1, .s (.p 0 0))] [.rw (iC 5 a b c k s z i m), .dead, .rw [.a (.int .u8 (u8 (abF a (leastF i))))], .dead, .rw [.a (.int .u8 (u8 (k)))], .dead, .rw [.a (.int .u8 (u8 (s)))], .dead, .rw (byC (((([u8 5] ++ [u8 (abF a (leastF i))]) ++ [u8 (k)]) ++ [u8 (s)]) ++ lows i (bytesF (leastF i))))] ?_ ?_
 rotate_left
 ·refine sw_draw (.take 0 (.take 1 (.take 3 (.all [(2, .all [(4, .all [(5, .take 6 (.done))])]), (4, .all [(2, .all [(5, .take 6 (.done))])])])))) mo (by kernel_rfl) (by kernel_rfl) (by kernel_rfl) (fun _ _ _ h => h) ?_
  simp only [go_sem, ↓vmP2, ↓vmD, ↓vmK, ↓trK, ↓reduceIte]
  refine ⟨?_, ?_⟩
  all_goals refine rbytes_wc _ _ _ ?_
  all_goals simp only [go_sem, ↓vmP2, ↓vmD, ↓vmK, ↓trK, ↓reduceIte]
  all_goals refine wc_focus [7] rfl (hc := [.rw (byC ((([u8 5] ++ [u8 (abF a (leastF i))]) ++ [u8 (k)]) ++ [u8 (s)]))]) ⟨rfl, trivial⟩ (args' := [.s (.so 0 4 1 5), .s (.a (.int .i64 i)), .s (.a (.int .i64 (((bytesF (leastF i)) : Nat) : Int)))]) rfl rfl (low_wc ((([u8 5] ++ [u8 (abF a (leastF i))]) ++ [u8 (k)]) ++ [u8 (s)]) i (bytesF (leastF i)) _ (by simp) ⟨bF_ge _, bF_le _⟩ ?_)
  all_goals simp only [rnO, rnP, mrg, setAll, rnB, rnS, ix, List.length_cons, List.length_nil, List.take_succ_cons, List.take_zero, List.take_nil, List.drop_succ_cons, List.drop_zero, List.drop_nil, List.map_cons, List.map_nil, List.getElem?_nil, List.getElem?_cons_zero, List.getElem?_cons_succ, List.set_cons_zero, List.set_cons_succ, List.cons_append, List.nil_append, List.append_nil, Nat.zero_add, Nat.reduceAdd, Nat.reduceSub, rn_by]
  all_goals simp only [go_sem, ↓vmP2, ↓vmD, ↓vmK, ↓trK, ↓reduceIte, cutK, subT]
  all_goals first | rfl | exact ⟨rfl, rfl⟩ | exact ⟨⟨rfl, rfl, rfl, rfl, rfl, trivial⟩, rfl⟩
 simp only [go_sem, ↓vmP2, ↓vmD, ↓vmK, ↓trK, ↓reduceIte]
 refine swn_succ (by kernel_rfl) _ ?_
 simp only [go_sem, ↓vmP2, ↓vmD, ↓vmK, ↓trK, ↓reduceIte]
 exact ⟨[8], [.rw (byC (((([u8 5] ++ [u8 (abF a (leastF i))]) ++ [u8 (k)]) ++ [u8 (s)]) ++ lows i (bytesF (leastF i))))], .s (.so 0 (layF 5 a b c k s z i).length 1 5), rfl, by simp, by first | rfl | simp [rnO, rnP, rnS, ix, lay_5, lows_len], ⟨by simp only [rnB, rn_by]; rfl, trivial⟩, by simp [roOk], rfl, c0⟩
set_option maxRecDepth 100000 in
set_option maxHeartbeats 16000000 in
theorem renc_6 (a b c k s z i m : Int) (K : Out → Hp → Prop) (c0 : K (.ret (.s (.so 0 (layF 6 a b c k s z i).length 1 5))) [.rw (byC (layF 6 a b c k s z i))]) : WC Try.prog 45 [.g (iC 6 a b c k s z i m)] [] K := by
 refine wc_pick ?_
 refine wc_intro Try.func45 rfl rfl (by kernel_rfl) (by simp [Try.f45]) ?_
 simp only [go_sem, ↓vmP2, ↓vmD, ↓vmK, ↓trK, ↓reduceIte, Try.f45, iC]
 refine row_6 _ _ ?_
 simp only [go_sem, ↓vmP2, ↓vmD, ↓vmK, ↓trK, ↓reduceIte]
 refine rsize_wc _ _ _ ?_
 simp only [go_sem, ↓vmP2, ↓vmD, ↓vmK, ↓trK, ↓reduceIte]
 refine sw_rounds 5 ?_
 refine swn_succ (by kernel_rfl) _ ?_
 simp only [go_sem, ↓vmP2, ↓vmD, ↓vmK, ↓trK, ↓reduceIte]
 refine swn_succ (by kernel_rfl) _ ?_
 simp only [go_sem, ↓vmP2, ↓vmD, ↓vmK, ↓trK, ↓reduceIte]
 refine swn_succ (by kernel_rfl) _ ?_
 simp only [go_sem, ↓vmP2, ↓vmD, ↓vmK, ↓trK, ↓reduceIte]
 refine swn_succ (by kernel_rfl) _ ?_
 simp only [go_sem, ↓vmP2, ↓vmD, ↓vmK, ↓trK, ↓reduceIte]
 refine wc_focus [7] rfl (hc := [.rw (byC ((([u8 6] ++ [u8 (abF a b)]) ++ [u8 (k)]) ++ [u8 (s)]))]) ⟨rfl, trivial⟩ (args' := [.s (.so 0 4 1 5), .s (.a (.int .i64 i)), .s (.a (.int .i64 4))]) rfl rfl (low_wc ((([u8 6] ++ [u8 (abF a b)]) ++ [u8 (k)]) ++ [u8 (s)]) i 4 _ (by simp) (by omega) ?_)
 simp only [rnO, rnP, mrg, setAll, rnB, rnS, ix, List.length_cons, List.length_nil, List.take_succ_cons, List.take_zero, List.take_nil, List.drop_succ_cons, List.drop_zero, List.drop_nil, List.map_cons, List.map_nil, List.getElem?_nil, List.getElem?_cons_zero, List.getElem?_cons_succ, List.set_cons_zero, List.set_cons_succ, List.cons_append, List.nil_append, List.append_nil, Nat.zero_add, Nat.reduceAdd, Nat.reduceSub, rn_by]
 simp only [go_sem, ↓vmP2, ↓vmD, ↓vmK, ↓trK, ↓reduceIte]
 refine swn_succ (by kernel_rfl) _ ?_
 simp only [go_sem, ↓vmP2, ↓vmD, ↓vmK, ↓trK, ↓reduceIte]
 exact ⟨[8], [.rw (byC (((([u8 6] ++ [u8 (abF a b)]) ++ [u8 (k)]) ++ [u8 (s)]) ++ lows i 4))], .s (.so 0 (layF 6 a b c k s z i).length 1 5), rfl, by simp, by first | rfl | simp [rnO, rnP, rnS, ix, lay_6, lows_len], ⟨by simp only [rnB, rn_by]; rfl, trivial⟩, by simp [roOk], rfl, c0⟩
set_option maxRecDepth 100000 in
set_option maxHeartbeats 16000000 in
theorem renc_7 (a b c k s z i m : Int) (K : Out → Hp → Prop) (c0 : K (.ret (.s (.so 0 (layF 7 a b c k s z i).length 1 5))) [.rw (byC (layF 7 a b c k s z i))]) : WC Try.prog 45 [.g (iC 7 a b c k s z i m)] [] K := by
 refine wc_pick ?_
 refine wc_intro Try.func45 rfl rfl (by kernel_rfl) (by simp [Try.f45]) ?_
 simp only [go_sem, ↓vmP2, ↓vmD, ↓vmK, ↓trK, ↓reduceIte, Try.f45, iC]
 refine row_7 _ _ ?_
 simp only [go_sem, ↓vmP2, ↓vmD, ↓vmK, ↓trK, ↓reduceIte]
 refine rsize_wc _ _ _ ?_
 simp only [go_sem, ↓vmP2, ↓vmD, ↓vmK, ↓trK, ↓reduceIte]
 refine sw_rounds 4 ?_
 refine swn_succ (by kernel_rfl) _ ?_
 simp only [go_sem, ↓vmP2, ↓vmD, ↓vmK, ↓trK, ↓reduceIte]
 refine swn_succ (by kernel_rfl) _ ?_
 simp only [go_sem, ↓vmP2, ↓vmD, ↓vmK, ↓trK, ↓reduceIte]
 refine swn_succ (by kernel_rfl) _ ?_
 simp only [go_sem, ↓vmP2, ↓vmD, ↓vmK, ↓trK, ↓reduceIte]
 refine swn_succ (by kernel_rfl) _ ?_
 simp only [go_sem, ↓vmP2, ↓vmD, ↓vmK, ↓trK, ↓reduceIte]
 exact ⟨[7], [.rw (byC ((([u8 7] ++ [u8 (abF a b)]) ++ [u8 (k)]) ++ [u8 (s)]))], .s (.so 0 (layF 7 a b c k s z i).length 1 5), rfl, by simp, by first | rfl | simp [rnO, rnP, rnS, ix, lay_7, lows_len], ⟨by simp only [rnB, rn_by]; rfl, trivial⟩, by simp [roOk], rfl, c0⟩
set_option maxRecDepth 100000 in
set_option maxHeartbeats 16000000 in
theorem renc_8 (a b c k s z i m : Int) (K : Out → Hp → Prop) (c0 : K (.ret (.s (.so 0 (layF 8 a b c k s z i).length 1 5))) [.rw (byC (layF 8 a b c k s z i))]) : WC Try.prog 45 [.g (iC 8 a b c k s z i m)] [] K := by
 refine wc_pick ?_
 refine wc_intro Try.func45 rfl rfl (by kernel_rfl) (by simp [Try.f45]) ?_
 simp only [go_sem, ↓vmP2, ↓vmD, ↓vmK, ↓trK, ↓reduceIte, Try.f45, iC]
 refine row_8 _ _ ?_
 simp only [go_sem, ↓vmP2, ↓vmD, ↓vmK, ↓trK, ↓reduceIte]
 refine rsize_wc _ _ _ ?_
 simp only [go_sem, ↓vmP2, ↓vmD, ↓vmK, ↓trK, ↓reduceIte]
 refine sw_rounds 4 ?_
 refine swn_succ (by kernel_rfl) _ ?_
 simp only [go_sem, ↓vmP2, ↓vmD, ↓vmK, ↓trK, ↓reduceIte]
 refine swn_succ (by kernel_rfl) _ ?_
 simp only [go_sem, ↓vmP2, ↓vmD, ↓vmK, ↓trK, ↓reduceIte]
 refine swn_succ (by kernel_rfl) _ ?_
 simp only [go_sem, ↓vmP2, ↓vmD, ↓vmK, ↓trK, ↓reduceIte]
 refine swn_succ (by kernel_rfl) _ ?_
 simp only [go_sem, ↓vmP2, ↓vmD, ↓vmK, ↓trK, ↓reduceIte]
 exact ⟨[7], [.rw (byC ((([u8 8] ++ [u8 (abF a b)]) ++ [u8 (k)]) ++ [u8 (s)]))], .s (.so 0 (layF 8 a b c k s z i).length 1 5), rfl, by simp, by first | rfl | simp [rnO, rnP, rnS, ix, lay_8, lows_len], ⟨by simp only [rnB, rn_by]; rfl, trivial⟩, by simp [roOk], rfl, c0⟩
set_option maxRecDepth 100000 in
set_option maxHeartbeats 16000000 in
theorem renc_10 (a b c k s z i m : Int) (K : Out → Hp → Prop) (c0 : K (.ret (.s (.so 0 (layF 10 a b c k s z i).length 1 5))) [.rw (byC (layF 10 a b c k s z i))]) : WC Try.prog 45 [.g (iC 10 a b c k s z i m)] [] K := by
 refine wc_pick ?_
 refine wc_intro Try.func45 rfl rfl (by kernel_rfl) (by simp [Try.f45]) ?_
 simp only [go_sem, ↓vmP2, ↓vmD, ↓vmK, ↓trK, ↓reduceIte, Try.f45, iC]
 refine row_10 _ _ ?_
 simp only [go_sem, ↓vmP2, ↓vmD, ↓vmK, ↓trK, ↓reduceIte]
 refine rsize_wc _ _ _ ?_
 simp only [go_sem, ↓vmP2, ↓vmD, ↓vmK, ↓trK, ↓reduceIte]
 refine sw_rounds 4 ?_
 refine swn_succ (by kernel_rfl) _ ?_
 simp only [go_sem, ↓vmP2, ↓vmD, ↓vmK, ↓trK, ↓reduceIte]
 refine swn_succ (by kernel_rfl) _ ?_
 simp only [go_sem, ↓vmP2, ↓vmD, ↓vmK, ↓trK, ↓reduceIte]
 refine sw_cut [(6, .s (.a (.int .i64 1))), (5, .s (.a (.int .i64 (leastF i)))), (4, .s (.so 5 3 1 5)), (3, .s (.a (.string { data := #[97, 99, 52] }))), (1, .s (.p 0 0))] [.rw (iC 10 a b c k s z i m), .dead, .rw [.a (.int .u8 (u8 (abF a b)))], .dead, .rw [.a (.int .u8 (u8 (abF c (scaleF z))))], .rw [.a (.int .u8 (u8 10)), .a (.int .u8 (u8 (abF a b))), .a (.int .u8 (u8 (abF c (scaleF z))))]] ?_ ?_
 rotate_left
 ·refine sw_draw (.take 0 (.take 1 (.take 4 (.all [(2, .take 3 (.all [(5, .all [(6, .take 7 (.take 8 (.all [(9, .all [(10, .take 11 (.done))])])))])])), (5, .all [(2, .take 3 (.all [(6, .take 7 (.take 8 (.all [(9, .all [(10, .take 11 (.done))])])))])), (6, .all [(2, .take 3 (.take 7 (.take 8 (.all [(9, .all [(10, .take 11 (.done))])]))))])])])))) mo (by kernel_rfl) (by kernel_rfl) (by kernel_rfl) (fun _ _ _ h => h) ?_
  simp only [go_sem, ↓vmP2, ↓vmD, ↓vmK, ↓trK, ↓reduceIte]
  repeat' apply And.intro
  all_goals refine rlog_wc _ _ _ ?_
  all_goals simp only [go_sem, ↓vmP2, ↓vmD, ↓vmK, ↓trK, ↓reduceIte, cutK, subT]
  all_goals first | rfl | exact ⟨rfl, rfl⟩ | exact ⟨⟨rfl, rfl, rfl, rfl, rfl, trivial⟩, rfl⟩
 simp only [go_sem, ↓vmP2, ↓vmD, ↓vmK, ↓trK, ↓reduceIte]
 refine swn_succ (by kernel_rfl) _ ?_
 simp only [go_sem, ↓vmP2, ↓vmD, ↓vmK, ↓trK, ↓reduceIte]
 refine wc_focus [5] rfl (hc := [.rw (byC (([u8 10] ++ [u8 (abF a b)]) ++ [u8 (abF c (scaleF z))]))]) ⟨rfl, trivial⟩ (args' := [.s (.so 0 3 1 5), .s (.a (.int .i64 i)), .s (.a (.int .i64 4))]) rfl rfl (low_wc (([u8 10] ++ [u8 (abF a b)]) ++ [u8 (abF c (scaleF z))]) i 4 _ (by simp) (by omega) ?_)
 simp only [rnO, rnP, mrg, setAll, rnB, rnS, ix, List.length_cons, List.length_nil, List.take_succ_cons, List.take_zero, List.take_nil, List.drop_succ_cons, List.drop_zero, List.drop_nil, List.map_cons, List.map_nil, List.getElem?_nil, List.getElem?_cons_zero, List.getElem?_cons_succ, List.set_cons_zero, List.set_cons_succ, List.cons_append, List.nil_append, List.append_nil, Nat.zero_add, Nat.reduceAdd, Nat.reduceSub, rn_by]
 simp only [go_sem, ↓vmP2, ↓vmD, ↓vmK, ↓trK, ↓reduceIte]
 refine swn_succ (by kernel_rfl) _ ?_
 simp only [go_sem, ↓vmP2, ↓vmD, ↓vmK, ↓trK, ↓reduceIte]
 exact ⟨[6], [.rw (byC ((([u8 10] ++ [u8 (abF a b)]) ++ [u8 (abF c (scaleF z))]) ++ lows i 4))], .s (.so 0 (layF 10 a b c k s z i).length 1 5), rfl, by simp, by first | rfl | simp [rnO, rnP, rnS, ix, lay_10, lows_len], ⟨by simp only [rnB, rn_by]; rfl, trivial⟩, by simp [roOk], rfl, c0⟩
set_option maxRecDepth 100000 in
set_option maxHeartbeats 16000000 in
theorem renc_11 (a b c k s z i m : Int) (K : Out → Hp → Prop) (c0 : K (.ret (.s (.so 0 (layF 11 a b c k s z i).length 1 5))) [.rw (byC (layF 11 a b c k s z i))]) : WC Try.prog 45 [.g (iC 11 a b c k s z i m)] [] K := by
 refine wc_pick ?_
 refine wc_intro Try.func45 rfl rfl (by kernel_rfl) (by simp [Try.f45]) ?_
 simp only [go_sem, ↓vmP2, ↓vmD, ↓vmK, ↓trK, ↓reduceIte, Try.f45, iC]
 refine row_11 _ _ ?_
 simp only [go_sem, ↓vmP2, ↓vmD, ↓vmK, ↓trK, ↓reduceIte]
 refine rsize_wc _ _ _ ?_
 simp only [go_sem, ↓vmP2, ↓vmD, ↓vmK, ↓trK, ↓reduceIte]
 refine sw_rounds 4 ?_
 refine swn_succ (by kernel_rfl) _ ?_
 simp only [go_sem, ↓vmP2, ↓vmD, ↓vmK, ↓trK, ↓reduceIte]
 refine swn_succ (by kernel_rfl) _ ?_
 simp only [go_sem, ↓vmP2, ↓vmD, ↓vmK, ↓trK, ↓reduceIte]
 refine swn_succ (by kernel_rfl) _ ?_
 simp only [go_sem, ↓vmP2, ↓vmD, ↓vmK, ↓trK, ↓reduceIte]
 refine wc_focus [5] rfl (hc := [.rw (byC (([u8 11] ++ [u8 (abF a b)]) ++ [u8 (k)]))]) ⟨rfl, trivial⟩ (args' := [.s (.so 0 3 1 5), .s (.a (.int .i64 i)), .s (.a (.int .i64 4))]) rfl rfl (low_wc (([u8 11] ++ [u8 (abF a b)]) ++ [u8 (k)]) i 4 _ (by simp) (by omega) ?_)
 simp only [rnO, rnP, mrg, setAll, rnB, rnS, ix, List.length_cons, List.length_nil, List.take_succ_cons, List.take_zero, List.take_nil, List.drop_succ_cons, List.drop_zero, List.drop_nil, List.map_cons, List.map_nil, List.getElem?_nil, List.getElem?_cons_zero, List.getElem?_cons_succ, List.set_cons_zero, List.set_cons_succ, List.cons_append, List.nil_append, List.append_nil, Nat.zero_add, Nat.reduceAdd, Nat.reduceSub, rn_by]
 simp only [go_sem, ↓vmP2, ↓vmD, ↓vmK, ↓trK, ↓reduceIte]
 refine swn_succ (by kernel_rfl) _ ?_
 simp only [go_sem, ↓vmP2, ↓vmD, ↓vmK, ↓trK, ↓reduceIte]
 exact ⟨[6], [.rw (byC ((([u8 11] ++ [u8 (abF a b)]) ++ [u8 (k)]) ++ lows i 4))], .s (.so 0 (layF 11 a b c k s z i).length 1 5), rfl, by simp, by first | rfl | simp [rnO, rnP, rnS, ix, lay_11, lows_len], ⟨by simp only [rnB, rn_by]; rfl, trivial⟩, by simp [roOk], rfl, c0⟩
set_option maxRecDepth 100000 in
set_option maxHeartbeats 16000000 in
theorem renc_12 (a b c k s z i m : Int) (K : Out → Hp → Prop) (c0 : K (.ret (.s (.so 0 (layF 12 a b c k s z i).length 1 5))) [.rw (byC (layF 12 a b c k s z i))]) : WC Try.prog 45 [.g (iC 12 a b c k s z i m)] [] K := by
 refine wc_pick ?_
 refine wc_intro Try.func45 rfl rfl (by kernel_rfl) (by simp [Try.f45]) ?_
 simp only [go_sem, ↓vmP2, ↓vmD, ↓vmK, ↓trK, ↓reduceIte, Try.f45, iC]
 refine row_12 _ _ ?_
 simp only [go_sem, ↓vmP2, ↓vmD, ↓vmK, ↓trK, ↓reduceIte]
 refine rsize_wc _ _ _ ?_
 simp only [go_sem, ↓vmP2, ↓vmD, ↓vmK, ↓trK, ↓reduceIte]
 refine sw_rounds 5 ?_
 refine swn_succ (by kernel_rfl) _ ?_
 simp only [go_sem, ↓vmP2, ↓vmD, ↓vmK, ↓trK, ↓reduceIte]
 refine swn_succ (by kernel_rfl) _ ?_
 simp only [go_sem, ↓vmP2, ↓vmD, ↓vmK, ↓trK, ↓reduceIte]
 refine sw_cut [(6, .s (.a (.int .i64 1))), (5, .s (.a (.int .i64 (leastF i)))), (4, .s (.so 5 3 1 5)), (3, .s (.a (.string { data := #[97, 99, 75, 52] }))), (1, .s (.p 0 0))] [.rw (iC 12 a b c k s z i m), .dead, .rw [.a (.int .u8 (u8 (abF a b)))], .dead, .rw [.a (.int .u8 (u8 (abF c (scaleF z))))], .rw [.a (.int .u8 (u8 12)), .a (.int .u8 (u8 (abF a b))), .a (.int .u8 (u8 (abF c (scaleF z))))]] ?_ ?_
 rotate_left
 ·refine sw_draw (.take 0 (.take 1 (.take 4 (.all [(2, .take 3 (.all [(5, .all [(6, .take 7 (.take 8 (.all [(9, .all [(10, .take 11 (.done))])])))])])), (5, .all [(2, .take 3 (.all [(6, .take 7 (.take 8 (.all [(9, .all [(10, .take 11 (.done))])])))])), (6, .all [(2, .take 3 (.take 7 (.take 8 (.all [(9, .all [(10, .take 11 (.done))])]))))])])])))) mo (by kernel_rfl) (by kernel_rfl) (by kernel_rfl) (fun _ _ _ h => h) ?_
  simp only [go_sem, ↓vmP2, ↓vmD, ↓vmK, ↓trK, ↓reduceIte]
  repeat' apply And.intro
  all_goals refine rlog_wc _ _ _ ?_
  all_goals simp only [go_sem, ↓vmP2, ↓vmD, ↓vmK, ↓trK, ↓reduceIte, cutK, subT]
  all_goals first | rfl | exact ⟨rfl, rfl⟩ | exact ⟨⟨rfl, rfl, rfl, rfl, rfl, trivial⟩, rfl⟩
 simp only [go_sem, ↓vmP2, ↓vmD, ↓vmK, ↓trK, ↓reduceIte]
 refine swn_succ (by kernel_rfl) _ ?_
 simp only [go_sem, ↓vmP2, ↓vmD, ↓vmK, ↓trK, ↓reduceIte]
 refine swn_succ (by kernel_rfl) _ ?_
 simp only [go_sem, ↓vmP2, ↓vmD, ↓vmK, ↓trK, ↓reduceIte]
 refine wc_focus [7] rfl (hc := [.rw (byC ((([u8 12] ++ [u8 (abF a b)]) ++ [u8 (abF c (scaleF z))]) ++ [u8 (k)]))]) ⟨rfl, trivial⟩ (args' := [.s (.so 0 4 1 5), .s (.a (.int .i64 i)), .s (.a (.int .i64 4))]) rfl rfl (low_wc ((([u8 12] ++ [u8 (abF a b)]) ++ [u8 (abF c (scaleF z))]) ++ [u8 (k)]) i 4 _ (by simp) (by omega) ?_)
 simp only [rnO, rnP, mrg, setAll, rnB, rnS, ix, List.length_cons, List.length_nil, List.take_succ_cons, List.take_zero, List.take_nil, List.drop_succ_cons, List.drop_zero, List.drop_nil, List.map_cons, List.map_nil, List.getElem?_nil, List.getElem?_cons_zero, List.getElem?_cons_succ, List.set_cons_zero, List.set_cons_succ, List.cons_append, List.nil_append, List.append_nil, Nat.zero_add, Nat.reduceAdd, Nat.reduceSub, rn_by]
 simp only [go_sem, ↓vmP2, ↓vmD, ↓vmK, ↓trK, ↓reduceIte]
 refine swn_succ (by kernel_rfl) _ ?_
 simp only [go_sem, ↓vmP2, ↓vmD, ↓vmK, ↓trK, ↓reduceIte]
 exact ⟨[8], [.rw (byC (((([u8 12] ++ [u8 (abF a b)]) ++ [u8 (abF c (scaleF z))]) ++ [u8 (k)]) ++ lows i 4))], .s (.so 0 (layF 12 a b c k s z i).length 1 5), rfl, by simp, by first | rfl | simp [rnO, rnP, rnS, ix, lay_12, lows_len], ⟨by simp only [rnB, rn_by]; rfl, trivial⟩, by simp [roOk], rfl, c0⟩
set_option maxRecDepth 100000 in
set_option maxHeartbeats 16000000 in
theorem renc_13 (a b c k s z i m : Int) (K : Out → Hp → Prop) (c0 : K (.ret (.s (.so 0 (layF 13 a b c k s z i).length 1 5))) [.rw (byC (layF 13 a b c k s z i))]) : WC Try.prog 45 [.g (iC 13 a b c k s z i m)] [] K := by
 refine wc_pick ?_
 refine wc_intro Try.func45 rfl rfl (by kernel_rfl) (by simp [Try.f45]) ?_
 simp only [go_sem, ↓vmP2, ↓vmD, ↓vmK, ↓trK, ↓reduceIte, Try.f45, iC]
 refine row_13 _ _ ?_
 simp only [go_sem, ↓vmP2, ↓vmD, ↓vmK, ↓trK, ↓reduceIte]
 refine rsize_wc _ _ _ ?_
 simp only [go_sem, ↓vmP2, ↓vmD, ↓vmK, ↓trK, ↓reduceIte]
 refine sw_rounds 4 ?_
 refine swn_succ (by kernel_rfl) _ ?_
 simp only [go_sem, ↓vmP2, ↓vmD, ↓vmK, ↓trK, ↓reduceIte]
 refine swn_succ (by kernel_rfl) _ ?_
 simp only [go_sem, ↓vmP2, ↓vmD, ↓vmK, ↓trK, ↓reduceIte]
 refine swn_succ (by kernel_rfl) _ ?_
 simp only [go_sem, ↓vmP2, ↓vmD, ↓vmK, ↓trK, ↓reduceIte]
 refine wc_focus [5] rfl (hc := [.rw (byC (([u8 13] ++ [u8 (abF a b)]) ++ [u8 (k)]))]) ⟨rfl, trivial⟩ (args' := [.s (.so 0 3 1 5), .s (.a (.int .i64 i)), .s (.a (.int .i64 4))]) rfl rfl (low_wc (([u8 13] ++ [u8 (abF a b)]) ++ [u8 (k)]) i 4 _ (by simp) (by omega) ?_)
 simp only [rnO, rnP, mrg, setAll, rnB, rnS, ix, List.length_cons, List.length_nil, List.take_succ_cons, List.take_zero, List.take_nil, List.drop_succ_cons, List.drop_zero, List.drop_nil, List.map_cons, List.map_nil, List.getElem?_nil, List.getElem?_cons_zero, List.getElem?_cons_succ, List.set_cons_zero, List.set_cons_succ, List.cons_append, List.nil_append, List.append_nil, Nat.zero_add, Nat.reduceAdd, Nat.reduceSub, rn_by]
 simp only [go_sem, ↓vmP2, ↓vmD, ↓vmK, ↓trK, ↓reduceIte]
 refine swn_succ (by kernel_rfl) _ ?_
 simp only [go_sem, ↓vmP2, ↓vmD, ↓vmK, ↓trK, ↓reduceIte]
 exact ⟨[6], [.rw (byC ((([u8 13] ++ [u8 (abF a b)]) ++ [u8 (k)]) ++ lows i 4))], .s (.so 0 (layF 13 a b c k s z i).length 1 5), rfl, by simp, by first | rfl | simp [rnO, rnP, rnS, ix, lay_13, lows_len], ⟨by simp only [rnB, rn_by]; rfl, trivial⟩, by simp [roOk], rfl, c0⟩
set_option maxRecDepth 100000 in
set_option maxHeartbeats 16000000 in
theorem renc_14 (a b c k s z i m : Int) (K : Out → Hp → Prop) (c0 : K (.ret (.s (.so 0 (layF 14 a b c k s z i).length 1 5))) [.rw (byC (layF 14 a b c k s z i))]) : WC Try.prog 45 [.g (iC 14 a b c k s z i m)] [] K := by
 refine wc_pick ?_
 refine wc_intro Try.func45 rfl rfl (by kernel_rfl) (by simp [Try.f45]) ?_
 simp only [go_sem, ↓vmP2, ↓vmD, ↓vmK, ↓trK, ↓reduceIte, Try.f45, iC]
 refine row_14 _ _ ?_
 simp only [go_sem, ↓vmP2, ↓vmD, ↓vmK, ↓trK, ↓reduceIte]
 refine rsize_wc _ _ _ ?_
 simp only [go_sem, ↓vmP2, ↓vmD, ↓vmK, ↓trK, ↓reduceIte]
 refine sw_rounds 5 ?_
 refine swn_succ (by kernel_rfl) _ ?_
 simp only [go_sem, ↓vmP2, ↓vmD, ↓vmK, ↓trK, ↓reduceIte]
 refine swn_succ (by kernel_rfl) _ ?_
 simp only [go_sem, ↓vmP2, ↓vmD, ↓vmK, ↓trK, ↓reduceIte]
 refine sw_cut [(6, .s (.a (.int .i64 1))), (5, .s (.a (.int .i64 (leastF i)))), (4, .s (.so 5 3 1 5)), (3, .s (.a (.string { data := #[97, 99, 75, 52] }))), (1, .s (.p 0 0))] [.rw (iC 14 a b c k s z i m), .dead, .rw [.a (.int .u8 (u8 (abF a b)))], .dead, .rw [.a (.int .u8 (u8 (abF c (scaleF z))))], .rw [.a (.int .u8 (u8 14)), .a (.int .u8 (u8 (abF a b))), .a (.int .u8 (u8 (abF c (scaleF z))))]] ?_ ?_
 rotate_left
 ·refine sw_draw (.take 0 (.take 1 (.take 4 (.all [(2, .take 3 (.all [(5, .all [(6, .take 7 (.take 8 (.all [(9, .all [(10, .take 11 (.done))])])))])])), (5, .all [(2, .take 3 (.all [(6, .take 7 (.take 8 (.all [(9, .all [(10, .take 11 (.done))])])))])), (6, .all [(2, .take 3 (.take 7 (.take 8 (.all [(9, .all [(10, .take 11 (.done))])]))))])])])))) mo (by kernel_rfl) (by kernel_rfl) (by kernel_rfl) (fun _ _ _ h => h) ?_
  simp only [go_sem, ↓vmP2, ↓vmD, ↓vmK, ↓trK, ↓reduceIte]
  repeat' apply And.intro
  all_goals refine rlog_wc _ _ _ ?_
  all_goals simp only [go_sem, ↓vmP2, ↓vmD, ↓vmK, ↓trK, ↓reduceIte, cutK, subT]
  all_goals first | rfl | exact ⟨rfl, rfl⟩ | exact ⟨⟨rfl, rfl, rfl, rfl, rfl, trivial⟩, rfl⟩
 simp only [go_sem, ↓vmP2, ↓vmD, ↓vmK, ↓trK, ↓reduceIte]
 refine swn_succ (by kernel_rfl) _ ?_
 simp only [go_sem, ↓vmP2, ↓vmD, ↓vmK, ↓trK, ↓reduceIte]
 refine swn_succ (by kernel_rfl) _ ?_
 simp only [go_sem, ↓vmP2, ↓vmD, ↓vmK, ↓trK, ↓reduceIte]
 refine wc_focus [7] rfl (hc := [.rw (byC ((([u8 14] ++ [u8 (abF a b)]) ++ [u8 (abF c (scaleF z))]) ++ [u8 (k)]))]) ⟨rfl, trivial⟩ (args' := [.s (.so 0 4 1 5), .s (.a (.int .i64 i)), .s (.a (.int .i64 4))]) rfl rfl (low_wc ((([u8 14] ++ [u8 (abF a b)]) ++ [u8 (abF c (scaleF z))]) ++ [u8 (k)]) i 4 _ (by simp) (by omega) ?_)
 simp only [rnO, rnP, mrg, setAll, rnB, rnS, ix, List.length_cons, List.length_nil, List.take_succ_cons, List.take_zero, List.take_nil, List.drop_succ_cons, List.drop_zero, List.drop_nil, List.map_cons, List.map_nil, List.getElem?_nil, List.getElem?_cons_zero, List.getElem?_cons_succ, List.set_cons_zero, List.set_cons_succ, List.cons_append, List.nil_append, List.append_nil, Nat.zero_add, Nat.reduceAdd, Nat.reduceSub, rn_by]
 simp only [go_sem, ↓vmP2, ↓vmD, ↓vmK, ↓trK, ↓reduceIte]
 refine swn_succ (by kernel_rfl) _ ?_
 simp only [go_sem, ↓vmP2, ↓vmD, ↓vmK, ↓trK, ↓reduceIte]
 exact ⟨[8], [.rw (byC (((([u8 14] ++ [u8 (abF a b)]) ++ [u8 (abF c (scaleF z))]) ++ [u8 (k)]) ++ lows i 4))], .s (.so 0 (layF 14 a b c k s z i).length 1 5), rfl, by simp, by first | rfl | simp [rnO, rnP, rnS, ix, lay_14, lows_len], ⟨by simp only [rnB, rn_by]; rfl, trivial⟩, by simp [roOk], rfl, c0⟩
set_option maxRecDepth 100000 in
set_option maxHeartbeats 16000000 in
theorem renc_15 (a b c k s z i m : Int) (K : Out → Hp → Prop) (c0 : K (.ret (.s (.so 0 (layF 15 a b c k s z i).length 1 5))) [.rw (byC (layF 15 a b c k s z i))]) : WC Try.prog 45 [.g (iC 15 a b c k s z i m)] [] K := by
 refine wc_pick ?_
 refine wc_intro Try.func45 rfl rfl (by kernel_rfl) (by simp [Try.f45]) ?_
 simp only [go_sem, ↓vmP2, ↓vmD, ↓vmK, ↓trK, ↓reduceIte, Try.f45, iC]
 refine row_15 _ _ ?_
 simp only [go_sem, ↓vmP2, ↓vmD, ↓vmK, ↓trK, ↓reduceIte]
 refine rsize_wc _ _ _ ?_
 simp only [go_sem, ↓vmP2, ↓vmD, ↓vmK, ↓trK, ↓reduceIte]
 refine sw_rounds 3 ?_
 refine swn_succ (by kernel_rfl) _ ?_
 simp only [go_sem, ↓vmP2, ↓vmD, ↓vmK, ↓trK, ↓reduceIte]
 refine swn_succ (by kernel_rfl) _ ?_
 simp only [go_sem, ↓vmP2, ↓vmD, ↓vmK, ↓trK, ↓reduceIte]
 refine swn_succ (by kernel_rfl) _ ?_
 simp only [go_sem, ↓vmP2, ↓vmD, ↓vmK, ↓trK, ↓reduceIte]
 exact ⟨[5], [.rw (byC (([u8 15] ++ [u8 (abF a b)]) ++ [u8 (s)]))], .s (.so 0 (layF 15 a b c k s z i).length 1 5), rfl, by simp, by first | rfl | simp [rnO, rnP, rnS, ix, lay_15, lows_len], ⟨by simp only [rnB, rn_by]; rfl, trivial⟩, by simp [roOk], rfl, c0⟩
set_option maxRecDepth 100000 in
set_option maxHeartbeats 16000000 in
theorem renc_16 (a b c k s z i m : Int) (K : Out → Hp → Prop) (c0 : K (.ret (.s (.so 0 (layF 16 a b c k s z i).length 1 5))) [.rw (byC (layF 16 a b c k s z i))]) : WC Try.prog 45 [.g (iC 16 a b c k s z i m)] [] K := by
 refine wc_pick ?_
 refine wc_intro Try.func45 rfl rfl (by kernel_rfl) (by simp [Try.f45]) ?_
 simp only [go_sem, ↓vmP2, ↓vmD, ↓vmK, ↓trK, ↓reduceIte, Try.f45, iC]
 refine row_16 _ _ ?_
 simp only [go_sem, ↓vmP2, ↓vmD, ↓vmK, ↓trK, ↓reduceIte]
 refine rsize_wc _ _ _ ?_
 simp only [go_sem, ↓vmP2, ↓vmD, ↓vmK, ↓trK, ↓reduceIte]
 refine sw_rounds 3 ?_
 refine swn_succ (by kernel_rfl) _ ?_
 simp only [go_sem, ↓vmP2, ↓vmD, ↓vmK, ↓trK, ↓reduceIte]
 refine swn_succ (by kernel_rfl) _ ?_
 simp only [go_sem, ↓vmP2, ↓vmD, ↓vmK, ↓trK, ↓reduceIte]
 refine swn_succ (by kernel_rfl) _ ?_
 simp only [go_sem, ↓vmP2, ↓vmD, ↓vmK, ↓trK, ↓reduceIte]
 exact ⟨[5], [.rw (byC (([u8 16] ++ [u8 (abF a b)]) ++ [u8 (k)]))], .s (.so 0 (layF 16 a b c k s z i).length 1 5), rfl, by simp, by first | rfl | simp [rnO, rnP, rnS, ix, lay_16, lows_len], ⟨by simp only [rnB, rn_by]; rfl, trivial⟩, by simp [roOk], rfl, c0⟩
set_option maxRecDepth 100000 in
set_option maxHeartbeats 16000000 in
theorem renc_17 (a b c k s z i m : Int) (K : Out → Hp → Prop) (c0 : K (.ret (.s (.so 0 (layF 17 a b c k s z i).length 1 5))) [.rw (byC (layF 17 a b c k s z i))]) : WC Try.prog 45 [.g (iC 17 a b c k s z i m)] [] K := by
 refine wc_pick ?_
 refine wc_intro Try.func45 rfl rfl (by kernel_rfl) (by simp [Try.f45]) ?_
 simp only [go_sem, ↓vmP2, ↓vmD, ↓vmK, ↓trK, ↓reduceIte, Try.f45, iC]
 refine row_17 _ _ ?_
 simp only [go_sem, ↓vmP2, ↓vmD, ↓vmK, ↓trK, ↓reduceIte]
 refine rsize_wc _ _ _ ?_
 simp only [go_sem, ↓vmP2, ↓vmD, ↓vmK, ↓trK, ↓reduceIte]
 refine sw_rounds 4 ?_
 refine swn_succ (by kernel_rfl) _ ?_
 simp only [go_sem, ↓vmP2, ↓vmD, ↓vmK, ↓trK, ↓reduceIte]
 refine swn_succ (by kernel_rfl) _ ?_
 simp only [go_sem, ↓vmP2, ↓vmD, ↓vmK, ↓trK, ↓reduceIte]
 refine swn_succ (by kernel_rfl) _ ?_
 simp only [go_sem, ↓vmP2, ↓vmD, ↓vmK, ↓trK, ↓reduceIte]
 refine sw_cut [(6, .s (.a (.int .i64 2))), (5, .s (.a (.int .i64 (leastF i)))), (4, .s (.so 6 (((([u8 17] ++ [u8 (abF a (leastF i))]) ++ [u8 (k)]) ++ lows i (bytesF (leastF i)))).length 1 5)), (3, .s (.a (.string { data := #[110, 75, 105] }))), (1, .s (.p 0 0))] [.rw (iC 17 a b c k s z i m), .dead, .rw [.a (.int .u8 (u8 (abF a (leastF i))))], .dead, .rw [.a (.int .u8 (u8 (k)))], .dead, .rw (byC ((([u8 17] ++ [u8 (abF a (leastF i))]) ++ [u8 (k)]) ++ lows i (bytesF (leastF i))))] ?_ ?_
 rotate_left
 ·refine sw_draw (.take 0 (.take 1 (.take 3 (.all [(2, .all [(4, .all [(5, .take 6 (.done))])]), (4, .all [(2, .all [(5, .take 6 (.done))])])])))) mo (by kernel_rfl) (by kernel_rfl) (by kernel_rfl) (fun _ _ _ h => h) ?_
  simp only [go_sem, ↓vmP2, ↓vmD, ↓vmK, ↓trK, ↓reduceIte]
  refine ⟨?_, ?_⟩
  all_goals refine rbytes_wc _ _ _ ?_
  all_goals simp only [go_sem, ↓vmP2, ↓vmD, ↓vmK, ↓trK, ↓reduceIte]
  all_goals refine wc_focus [5] rfl (hc := [.rw (byC (([u8 17] ++ [u8 (abF a (leastF i))]) ++ [u8 (k)]))]) ⟨rfl, trivial⟩ (args' := [.s (.so 0 3 1 5), .s (.a (.int .i64 i)), .s (.a (.int .i64 (((bytesF (leastF i)) : Nat) : Int)))]) rfl rfl (low_wc (([u8 17] ++ [u8 (abF a (leastF i))]) ++ [u8 (k)]) i (bytesF (leastF i)) _ (by simp) ⟨bF_ge _, bF_le _⟩ ?_)
  all_goals simp only [rnO, rnP, mrg, setAll, rnB, rnS, ix, List.length_cons, List.length_nil, List.take_succ_cons, List.take_zero, List.take_nil, List.drop_succ_cons, List.drop_zero, List.drop_nil, List.map_cons, List.map_nil, List.getElem?_nil, List.getElem?_cons_zero, List.getElem?_cons_succ, List.set_cons_zero, List.set_cons_succ, List.cons_append, List.nil_append, List.append_nil, Nat.zero_add, Nat.reduceAdd, Nat.reduceSub, rn_by]
  all_goals simp only [go_sem, ↓vmP2, ↓vmD, ↓vmK, ↓trK, ↓reduceIte, cutK, subT]
  all_goals first | rfl | exact ⟨rfl, rfl⟩ | exact ⟨⟨rfl, rfl, rfl, rfl, rfl, trivial⟩, rfl⟩
 simp only [go_sem, ↓vmP2, ↓vmD, ↓vmK, ↓trK, ↓reduceIte]
 refine swn_succ (by kernel_rfl) _ ?_
 simp only [go_sem, ↓vmP2, ↓vmD, ↓vmK, ↓trK, ↓reduceIte]
 exact ⟨[6], [.rw (byC ((([u8 17] ++ [u8 (abF a (leastF i))]) ++ [u8 (k)]) ++ lows i (bytesF (leastF i))))], .s (.so 0 (layF 17 a b c k s z i).length 1 5), rfl, by simp, by first | rfl | simp [rnO, rnP, rnS, ix, lay_17, lows_len], ⟨by simp only [rnB, rn_by]; rfl, trivial⟩, by simp [roOk], rfl, c0⟩
set_option maxRecDepth 100000 in
set_option maxHeartbeats 16000000 in
theorem renc_18 (a b c k s z i m : Int) (K : Out → Hp → Prop) (c0 : K (.ret (.s (.so 0 (layF 18 a b c k s z i).length 1 5))) [.rw (byC (layF 18 a b c k s z i))]) : WC Try.prog 45 [.g (iC 18 a b c k s z i m)] [] K := by
 refine wc_pick ?_
 refine wc_intro Try.func45 rfl rfl (by kernel_rfl) (by simp [Try.f45]) ?_
 simp only [go_sem, ↓vmP2, ↓vmD, ↓vmK, ↓trK, ↓reduceIte, Try.f45, iC]
 refine row_18 _ _ ?_
 simp only [go_sem, ↓vmP2, ↓vmD, ↓vmK, ↓trK, ↓reduceIte]
 refine rsize_wc _ _ _ ?_
 simp only [go_sem, ↓vmP2, ↓vmD, ↓vmK, ↓trK, ↓reduceIte]
 refine sw_rounds 3 ?_
 refine swn_succ (by kernel_rfl) _ ?_
 simp only [go_sem, ↓vmP2, ↓vmD, ↓vmK, ↓trK, ↓reduceIte]
 refine swn_succ (by kernel_rfl) _ ?_
 simp only [go_sem, ↓vmP2, ↓vmD, ↓vmK, ↓trK, ↓reduceIte]
 refine swn_succ (by kernel_rfl) _ ?_
 simp only [go_sem, ↓vmP2, ↓vmD, ↓vmK, ↓trK, ↓reduceIte]
 exact ⟨[5], [.rw (byC (([u8 18] ++ [u8 (abF a b)]) ++ [u8 (s)]))], .s (.so 0 (layF 18 a b c k s z i).length 1 5), rfl, by simp, by first | rfl | simp [rnO, rnP, rnS, ix, lay_18, lows_len], ⟨by simp only [rnB, rn_by]; rfl, trivial⟩, by simp [roOk], rfl, c0⟩
set_option maxRecDepth 100000 in
set_option maxHeartbeats 16000000 in
theorem renc_19 (a b c k s z i m : Int) (K : Out → Hp → Prop) (c0 : K (.ret (.s (.so 0 (layF 19 a b c k s z i).length 1 5))) [.rw (byC (layF 19 a b c k s z i))]) : WC Try.prog 45 [.g (iC 19 a b c k s z i m)] [] K := by
 refine wc_pick ?_
 refine wc_intro Try.func45 rfl rfl (by kernel_rfl) (by simp [Try.f45]) ?_
 simp only [go_sem, ↓vmP2, ↓vmD, ↓vmK, ↓trK, ↓reduceIte, Try.f45, iC]
 refine row_19 _ _ ?_
 simp only [go_sem, ↓vmP2, ↓vmD, ↓vmK, ↓trK, ↓reduceIte]
 refine rsize_wc _ _ _ ?_
 simp only [go_sem, ↓vmP2, ↓vmD, ↓vmK, ↓trK, ↓reduceIte]
 refine sw_rounds 3 ?_
 refine swn_succ (by kernel_rfl) _ ?_
 simp only [go_sem, ↓vmP2, ↓vmD, ↓vmK, ↓trK, ↓reduceIte]
 refine swn_succ (by kernel_rfl) _ ?_
 simp only [go_sem, ↓vmP2, ↓vmD, ↓vmK, ↓trK, ↓reduceIte]
 refine sw_cut [(6, .s (.a (.int .i64 1))), (5, .s (.a (.int .i64 (leastF i)))), (4, .s (.so 4 ((([u8 19] ++ [u8 (leastF i)]) ++ lows i (bytesF (leastF i)))).length 1 5)), (3, .s (.a (.string { data := #[106, 105] }))), (1, .s (.p 0 0))] [.rw (iC 19 a b c k s z i m), .dead, .rw [.a (.int .u8 (u8 (leastF i)))], .dead, .rw (byC (([u8 19] ++ [u8 (leastF i)]) ++ lows i (bytesF (leastF i))))] ?_ ?_
 rotate_left
 ·refine sw_draw (.take 0 (.take 1 (.take 3 (.all [(2, .all [(4, .all [(5, .take 6 (.done))])]), (4, .all [(2, .all [(5, .take 6 (.done))])])])))) mo (by kernel_rfl) (by kernel_rfl) (by kernel_rfl) (fun _ _ _ h => h) ?_
  simp only [go_sem, ↓vmP2, ↓vmD, ↓vmK, ↓trK, ↓reduceIte]
  refine ⟨?_, ?_⟩
  all_goals refine rbytes_wc _ _ _ ?_
  all_goals simp only [go_sem, ↓vmP2, ↓vmD, ↓vmK, ↓trK, ↓reduceIte]
  all_goals refine wc_focus [3] rfl (hc := [.rw (byC ([u8 19] ++ [u8 (leastF i)]))]) ⟨rfl, trivial⟩ (args' := [.s (.so 0 2 1 5), .s (.a (.int .i64 i)), .s (.a (.int .i64 (((bytesF (leastF i)) : Nat) : Int)))]) rfl rfl (low_wc ([u8 19] ++ [u8 (leastF i)]) i (bytesF (leastF i)) _ (by simp) ⟨bF_ge _, bF_le _⟩ ?_)
  all_goals simp only [rnO, rnP, mrg, setAll, rnB, rnS, ix, List.length_cons, List.length_nil, List.take_succ_cons, List.take_zero, List.take_nil, List.drop_succ_cons, List.drop_zero, List.drop_nil, List.map_cons, List.map_nil, List.getElem?_nil, List.getElem?_cons_zero, List.getElem?_cons_succ, List.set_cons_zero, List.set_cons_succ, List.cons_append, List.nil_append, List.append_nil, Nat.zero_add, Nat.reduceAdd, Nat.reduceSub, rn_by]
  all_goals simp only [go_sem, ↓vmP2, ↓vmD, ↓vmK, ↓trK, ↓reduceIte, cutK, subT]
  all_goals first | rfl | exact ⟨rfl, rfl⟩ | exact ⟨⟨rfl, rfl, rfl, rfl, rfl, trivial⟩, rfl⟩
 simp only [go_sem, ↓vmP2, ↓vmD, ↓vmK, ↓trK, ↓reduceIte]
 refine swn_succ (by kernel_rfl) _ ?_
 simp only [go_sem, ↓vmP2, ↓vmD, ↓vmK, ↓trK, ↓reduceIte]
 exact ⟨[4], [.rw (byC (([u8 19] ++ [u8 (leastF i)]) ++ lows i (bytesF (leastF i))))], .s (.so 0 (layF 19 a b c k s z i).length 1 5), rfl, by simp, by first | rfl | simp [rnO, rnP, rnS, ix, lay_19, lows_len], ⟨by simp only [rnB, rn_by]; rfl, trivial⟩, by simp [roOk], rfl, c0⟩
set_option maxRecDepth 100000 in
set_option maxHeartbeats 16000000 in
theorem renc_22 (a b c k s z i m : Int) (K : Out → Hp → Prop) (c0 : K (.ret (.s (.so 0 (layF 22 a b c k s z i).length 1 5))) [.rw (byC (layF 22 a b c k s z i))]) : WC Try.prog 45 [.g (iC 22 a b c k s z i m)] [] K := by
 refine wc_pick ?_
 refine wc_intro Try.func45 rfl rfl (by kernel_rfl) (by simp [Try.f45]) ?_
 simp only [go_sem, ↓vmP2, ↓vmD, ↓vmK, ↓trK, ↓reduceIte, Try.f45, iC]
 refine row_22 _ _ ?_
 simp only [go_sem, ↓vmP2, ↓vmD, ↓vmK, ↓trK, ↓reduceIte]
 refine rsize_wc _ _ _ ?_
 simp only [go_sem, ↓vmP2, ↓vmD, ↓vmK, ↓trK, ↓reduceIte]
 refine sw_rounds 3 ?_
 refine swn_succ (by kernel_rfl) _ ?_
 simp only [go_sem, ↓vmP2, ↓vmD, ↓vmK, ↓trK, ↓reduceIte]
 refine swn_succ (by kernel_rfl) _ ?_
 simp only [go_sem, ↓vmP2, ↓vmD, ↓vmK, ↓trK, ↓reduceIte]
 refine sw_cut [(6, .s (.a (.int .i64 1))), (5, .s (.a (.int .i64 (leastF i)))), (4, .s (.so 4 ((([u8 22] ++ [u8 (abF (IntKind.i64.wrap (s - 11)) (leastF i))]) ++ lows i (bytesF (leastF i)))).length 1 5)), (3, .s (.a (.string { data := #[74, 105] }))), (1, .s (.p 0 0))] [.rw (iC 22 a b c k s z i m), .dead, .rw [.a (.int .u8 (u8 (abF (IntKind.i64.wrap (s - 11)) (leastF i))))], .dead, .rw (byC (([u8 22] ++ [u8 (abF (IntKind.i64.wrap (s - 11)) (leastF i))]) ++ lows i (bytesF (leastF i))))] ?_ ?_
 rotate_left
 ·refine sw_draw (.take 0 (.take 1 (.take 3 (.all [(2, .all [(4, .all [(5, .take 6 (.done))])]), (4, .all [(2, .all [(5, .take 6 (.done))])])])))) mo (by kernel_rfl) (by kernel_rfl) (by kernel_rfl) (fun _ _ _ h => h) ?_
  simp only [go_sem, ↓vmP2, ↓vmD, ↓vmK, ↓trK, ↓reduceIte]
  refine ⟨?_, ?_⟩
  all_goals refine rbytes_wc _ _ _ ?_
  all_goals simp only [go_sem, ↓vmP2, ↓vmD, ↓vmK, ↓trK, ↓reduceIte]
  all_goals refine wc_focus [3] rfl (hc := [.rw (byC ([u8 22] ++ [u8 (abF (IntKind.i64.wrap (s - 11)) (leastF i))]))]) ⟨rfl, trivial⟩ (args' := [.s (.so 0 2 1 5), .s (.a (.int .i64 i)), .s (.a (.int .i64 (((bytesF (leastF i)) : Nat) : Int)))]) rfl rfl (low_wc ([u8 22] ++ [u8 (abF (IntKind.i64.wrap (s - 11)) (leastF i))]) i (bytesF (leastF i)) _ (by simp) ⟨bF_ge _, bF_le _⟩ ?_)
  all_goals simp only [rnO, rnP, mrg, setAll, rnB, rnS, ix, List.length_cons, List.length_nil, List.take_succ_cons, List.take_zero, List.take_nil, List.drop_succ_cons, List.drop_zero, List.drop_nil, List.map_cons, List.map_nil, List.getElem?_nil, List.getElem?_cons_zero, List.getElem?_cons_succ, List.set_cons_zero, List.set_cons_succ, List.cons_append, List.nil_append, List.append_nil, Nat.zero_add, Nat.reduceAdd, Nat.reduceSub, rn_by]
  all_goals simp only [go_sem, ↓vmP2, ↓vmD, ↓vmK, ↓trK, ↓reduceIte, cutK, subT]
  all_goals first | rfl | exact ⟨rfl, rfl⟩ | exact ⟨⟨rfl, rfl, rfl, rfl, rfl, trivial⟩, rfl⟩
 simp only [go_sem, ↓vmP2, ↓vmD, ↓vmK, ↓trK, ↓reduceIte]
 refine swn_succ (by kernel_rfl) _ ?_
 simp only [go_sem, ↓vmP2, ↓vmD, ↓vmK, ↓trK, ↓reduceIte]
 exact ⟨[4], [.rw (byC (([u8 22] ++ [u8 (abF (IntKind.i64.wrap (s - 11)) (leastF i))]) ++ lows i (bytesF (leastF i))))], .s (.so 0 (layF 22 a b c k s z i).length 1 5), rfl, by simp, by first | rfl | simp [rnO, rnP, rnS, ix, lay_22, lows_len], ⟨by simp only [rnB, rn_by]; rfl, trivial⟩, by simp [roOk], rfl, c0⟩
set_option maxRecDepth 100000 in
set_option maxHeartbeats 16000000 in
theorem renc_23 (a b c k s z i m : Int) (K : Out → Hp → Prop) (c0 : K (.ret (.s (.so 0 (layF 23 a b c k s z i).length 1 5))) [.rw (byC (layF 23 a b c k s z i))]) : WC Try.prog 45 [.g (iC 23 a b c k s z i m)] [] K := by
 refine wc_pick ?_
 refine wc_intro Try.func45 rfl rfl (by kernel_rfl) (by simp [Try.f45]) ?_
 simp only [go_sem, ↓vmP2, ↓vmD, ↓vmK, ↓trK, ↓reduceIte, Try.f45, iC]
 refine row_23 _ _ ?_
 simp only [go_sem, ↓vmP2, ↓vmD, ↓vmK, ↓trK, ↓reduceIte]
 refine rsize_wc _ _ _ ?_
 simp only [go_sem, ↓vmP2, ↓vmD, ↓vmK, ↓trK, ↓reduceIte]
 refine sw_rounds 2 ?_
 refine swn_succ (by kernel_rfl) _ ?_
 simp only [go_sem, ↓vmP2, ↓vmD, ↓vmK, ↓trK, ↓reduceIte]
 refine wc_focus [1] rfl (hc := [.rw (byC [u8 23])]) ⟨rfl, trivial⟩ (args' := [.s (.so 0 1 1 5), .s (.a (.int .i64 i)), .s (.a (.int .i64 4))]) rfl rfl (low_wc [u8 23] i 4 _ (by simp) (by omega) ?_)
 simp only [rnO, rnP, mrg, setAll, rnB, rnS, ix, List.length_cons, List.length_nil, List.take_succ_cons, List.take_zero, List.take_nil, List.drop_succ_cons, List.drop_zero, List.drop_nil, List.map_cons, List.map_nil, List.getElem?_nil, List.getElem?_cons_zero, List.getElem?_cons_succ, List.set_cons_zero, List.set_cons_succ, List.cons_append, List.nil_append, List.append_nil, Nat.zero_add, Nat.reduceAdd, Nat.reduceSub, rn_by]
 simp only [go_sem, ↓vmP2, ↓vmD, ↓vmK, ↓trK, ↓reduceIte]
 refine swn_succ (by kernel_rfl) _ ?_
 simp only [go_sem, ↓vmP2, ↓vmD, ↓vmK, ↓trK, ↓reduceIte]
 exact ⟨[2], [.rw (byC ([u8 23] ++ lows i 4))], .s (.so 0 (layF 23 a b c k s z i).length 1 5), rfl, by simp, by first | rfl | simp [rnO, rnP, rnS, ix, lay_23, lows_len], ⟨by simp only [rnB, rn_by]; rfl, trivial⟩, by simp [roOk], rfl, c0⟩
set_option maxRecDepth 100000 in
set_option maxHeartbeats 16000000 in
theorem renc_24 (a b c k s z i m : Int) (K : Out → Hp → Prop) (c0 : K (.ret (.s (.so 0 (layF 24 a b c k s z i).length 1 5))) [.rw (byC (layF 24 a b c k s z i))]) : WC Try.prog 45 [.g (iC 24 a b c k s z i m)] [] K := by
 refine wc_pick ?_
 refine wc_intro Try.func45 rfl rfl (by kernel_rfl) (by simp [Try.f45]) ?_
 simp only [go_sem, ↓vmP2, ↓vmD, ↓vmK, ↓trK, ↓reduceIte, Try.f45, iC]
 refine row_24 _ _ ?_
 simp only [go_sem, ↓vmP2, ↓vmD, ↓vmK, ↓trK, ↓reduceIte]
 refine rsize_wc _ _ _ ?_
 simp only [go_sem, ↓vmP2, ↓vmD, ↓vmK, ↓trK, ↓reduceIte]
 refine sw_rounds 2 ?_
 refine swn_succ (by kernel_rfl) _ ?_
 simp only [go_sem, ↓vmP2, ↓vmD, ↓vmK, ↓trK, ↓reduceIte]
 refine swn_succ (by kernel_rfl) _ ?_
 simp only [go_sem, ↓vmP2, ↓vmD, ↓vmK, ↓trK, ↓reduceIte]
 exact ⟨[1], [.rw (byC [u8 24])], .s (.so 0 (layF 24 a b c k s z i).length 1 5), rfl, by simp, by first | rfl | simp [rnO, rnP, rnS, ix, lay_24, lows_len], ⟨by simp only [rnB, rn_by]; rfl, trivial⟩, by simp [roOk], rfl, c0⟩
set_option maxRecDepth 100000 in
set_option maxHeartbeats 16000000 in
theorem renc_25 (a b c k s z i m : Int) (K : Out → Hp → Prop) (c0 : K (.ret (.s (.so 0 (layF 25 a b c k s z i).length 1 5))) [.rw (byC (layF 25 a b c k s z i))]) : WC Try.prog 45 [.g (iC 25 a b c k s z i m)] [] K := by
 refine wc_pick ?_
 refine wc_intro Try.func45 rfl rfl (by kernel_rfl) (by simp [Try.f45]) ?_
 simp only [go_sem, ↓vmP2, ↓vmD, ↓vmK, ↓trK, ↓reduceIte, Try.f45, iC]
 refine row_25 _ _ ?_
 simp only [go_sem, ↓vmP2, ↓vmD, ↓vmK, ↓trK, ↓reduceIte]
 refine rsize_wc _ _ _ ?_
 simp only [go_sem, ↓vmP2, ↓vmD, ↓vmK, ↓trK, ↓reduceIte]
 refine sw_rounds 2 ?_
 refine swn_succ (by kernel_rfl) _ ?_
 simp only [go_sem, ↓vmP2, ↓vmD, ↓vmK, ↓trK, ↓reduceIte]
 refine wc_focus [1] rfl (hc := [.rw (byC [u8 25])]) ⟨rfl, trivial⟩ (args' := [.s (.so 0 1 1 5), .s (.a (.int .i64 i)), .s (.a (.int .i64 4))]) rfl rfl (low_wc [u8 25] i 4 _ (by simp) (by omega) ?_)
 simp only [rnO, rnP, mrg, setAll, rnB, rnS, ix, List.length_cons, List.length_nil, List.take_succ_cons, List.take_zero, List.take_nil, List.drop_succ_cons, List.drop_zero, List.drop_nil, List.map_cons, List.map_nil, List.getElem?_nil, List.getElem?_cons_zero, List.getElem?_cons_succ, List.set_cons_zero, List.set_cons_succ, List.cons_append, List.nil_append, List.append_nil, Nat.zero_add, Nat.reduceAdd, Nat.reduceSub, rn_by]
 simp only [go_sem, ↓vmP2, ↓vmD, ↓vmK, ↓trK, ↓reduceIte]
 refine swn_succ (by kernel_rfl) _ ?_
 simp only [go_sem, ↓vmP2, ↓vmD, ↓vmK, ↓trK, ↓reduceIte]
 exact ⟨[2], [.rw (byC ([u8 25] ++ lows i 4))], .s (.so 0 (layF 25 a b c k s z i).length 1 5), rfl, by simp, by first | rfl | simp [rnO, rnP, rnS, ix, lay_25, lows_len], ⟨by simp only [rnB, rn_by]; rfl, trivial⟩, by simp [roOk], rfl, c0⟩
set_option maxRecDepth 100000 in
set_option maxHeartbeats 16000000 in
theorem renc_26 (a b c k s z i m : Int) (K : Out → Hp → Prop) (c0 : K (.ret (.s (.so 0 (layF 26 a b c k s z i).length 1 5))) [.rw (byC (layF 26 a b c k s z i))]) : WC Try.prog 45 [.g (iC 26 a b c k s z i m)] [] K := by
 refine wc_pick ?_
 refine wc_intro Try.func45 rfl rfl (by kernel_rfl) (by simp [Try.f45]) ?_
 simp only [go_sem, ↓vmP2, ↓vmD, ↓vmK, ↓trK, ↓reduceIte, Try.f45, iC]
 refine row_26 _ _ ?_
 simp only [go_sem, ↓vmP2, ↓vmD, ↓vmK, ↓trK, ↓reduceIte]
 refine rsize_wc _ _ _ ?_
 simp only [go_sem, ↓vmP2, ↓vmD, ↓vmK, ↓trK, ↓reduceIte]
 refine sw_rounds 2 ?_
 refine swn_succ (by kernel_rfl) _ ?_
 simp only [go_sem, ↓vmP2, ↓vmD, ↓vmK, ↓trK, ↓reduceIte]
 refine swn_succ (by kernel_rfl) _ ?_
 simp only [go_sem, ↓vmP2, ↓vmD, ↓vmK, ↓trK, ↓reduceIte]
 exact ⟨[3], [.rw (byC ([u8 26] ++ [u8 (abF a b)]))], .s (.so 0 (layF 26 a b c k s z i).length 1 5), rfl, by simp, by first | rfl | simp [rnO, rnP, rnS, ix, lay_26, lows_len], ⟨by simp only [rnB, rn_by]; rfl, trivial⟩, by simp [roOk], rfl, c0⟩
set_option maxRecDepth 100000 in
set_option maxHeartbeats 16000000 in
theorem renc_27 (a b c k s z i m : Int) (K : Out → Hp → Prop) (c0 : K (.ret (.s (.so 0 (layF 27 a b c k s z i).length 1 5))) [.rw (byC (layF 27 a b c k s z i))]) : WC Try.prog 45 [.g (iC 27 a b c k s z i m)] [] K := by
 refine wc_pick ?_
 refine wc_intro Try.func45 rfl rfl (by kernel_rfl) (by simp [Try.f45]) ?_
 simp only [go_sem, ↓vmP2, ↓vmD, ↓vmK, ↓trK, ↓reduceIte, Try.f45, iC]
 refine row_27 _ _ ?_
 simp only [go_sem, ↓vmP2, ↓vmD, ↓vmK, ↓trK, ↓reduceIte]
 refine rsize_wc _ _ _ ?_
 simp only [go_sem, ↓vmP2, ↓vmD, ↓vmK, ↓trK, ↓reduceIte]
 refine sw_rounds 2 ?_
 refine swn_succ (by kernel_rfl) _ ?_
 simp only [go_sem, ↓vmP2, ↓vmD, ↓vmK, ↓trK, ↓reduceIte]
 refine swn_succ (by kernel_rfl) _ ?_
 simp only [go_sem, ↓vmP2, ↓vmD, ↓vmK, ↓trK, ↓reduceIte]
 exact ⟨[3], [.rw (byC ([u8 27] ++ [u8 (abF a b)]))], .s (.so 0 (layF 27 a b c k s z i).length 1 5), rfl, by simp, by first | rfl | simp [rnO, rnP, rnS, ix, lay_27, lows_len], ⟨by simp only [rnB, rn_by]; rfl, trivial⟩, by simp [roOk], rfl, c0⟩
set_option maxRecDepth 100000 in
set_option maxHeartbeats 16000000 in
theorem renc_28 (a b c k s z i m : Int) (K : Out → Hp → Prop) (c0 : K (.ret (.s (.so 0 (layF 28 a b c k s z i).length 1 5))) [.rw (byC (layF 28 a b c k s z i))]) : WC Try.prog 45 [.g (iC 28 a b c k s z i m)] [] K := by
 refine wc_pick ?_
 refine wc_intro Try.func45 rfl rfl (by kernel_rfl) (by simp [Try.f45]) ?_
 simp only [go_sem, ↓vmP2, ↓vmD, ↓vmK, ↓trK, ↓reduceIte, Try.f45, iC]
 refine row_28 _ _ ?_
 simp only [go_sem, ↓vmP2, ↓vmD, ↓vmK, ↓trK, ↓reduceIte]
 refine rsize_wc _ _ _ ?_
 simp only [go_sem, ↓vmP2, ↓vmD, ↓vmK, ↓trK, ↓reduceIte]
 refine sw_rounds 2 ?_
 refine swn_succ (by kernel_rfl) _ ?_
 simp only [go_sem, ↓vmP2, ↓vmD, ↓vmK, ↓trK, ↓reduceIte]
 refine swn_succ (by kernel_rfl) _ ?_
 simp only [go_sem, ↓vmP2, ↓vmD, ↓vmK, ↓trK, ↓reduceIte]
 exact ⟨[3], [.rw (byC ([u8 28] ++ [u8 (abF a b)]))], .s (.so 0 (layF 28 a b c k s z i).length 1 5), rfl, by simp, by first | rfl | simp [rnO, rnP, rnS, ix, lay_28, lows_len], ⟨by simp only [rnB, rn_by]; rfl, trivial⟩, by simp [roOk], rfl, c0⟩
set_option maxRecDepth 100000 in
set_option maxHeartbeats 16000000 in
theorem renc_29 (a b c k s z i m : Int) (K : Out → Hp → Prop) (c0 : K (.ret (.s (.so 0 (layF 29 a b c k s z i).length 1 5))) [.rw (byC (layF 29 a b c k s z i))]) : WC Try.prog 45 [.g (iC 29 a b c k s z i m)] [] K := by
 refine wc_pick ?_
 refine wc_intro Try.func45 rfl rfl (by kernel_rfl) (by simp [Try.f45]) ?_
 simp only [go_sem, ↓vmP2, ↓vmD, ↓vmK, ↓trK, ↓reduceIte, Try.f45, iC]
 refine row_29 _ _ ?_
 simp only [go_sem, ↓vmP2, ↓vmD, ↓vmK, ↓trK, ↓reduceIte]
 refine rsize_wc _ _ _ ?_
 simp only [go_sem, ↓vmP2, ↓vmD, ↓vmK, ↓trK, ↓reduceIte]
 refine sw_rounds 2 ?_
 refine swn_succ (by kernel_rfl) _ ?_
 simp only [go_sem, ↓vmP2, ↓vmD, ↓vmK, ↓trK, ↓reduceIte]
 refine wc_focus [1] rfl (hc := [.rw (byC [u8 29])]) ⟨rfl, trivial⟩ (args' := [.s (.so 0 1 1 5), .s (.a (.int .i64 i)), .s (.a (.int .i64 4))]) rfl rfl (low_wc [u8 29] i 4 _ (by simp) (by omega) ?_)
 simp only [rnO, rnP, mrg, setAll, rnB, rnS, ix, List.length_cons, List.length_nil, List.take_succ_cons, List.take_zero, List.take_nil, List.drop_succ_cons, List.drop_zero, List.drop_nil, List.map_cons, List.map_nil, List.getElem?_nil, List.getElem?_cons_zero, List.getElem?_cons_succ, List.set_cons_zero, List.set_cons_succ, List.cons_append, List.nil_append, List.append_nil, Nat.zero_add, Nat.reduceAdd, Nat.reduceSub, rn_by]
 simp only [go_sem, ↓vmP2, ↓vmD, ↓vmK, ↓trK, ↓reduceIte]
 refine swn_succ (by kernel_rfl) _ ?_
 simp only [go_sem, ↓vmP2, ↓vmD, ↓vmK, ↓trK, ↓reduceIte]
 exact ⟨[2], [.rw (byC ([u8 29] ++ lows i 4))], .s (.so 0 (layF 29 a b c k s z i).length 1 5), rfl, by simp, by first | rfl | simp [rnO, rnP, rnS, ix, lay_29, lows_len], ⟨by simp only [rnB, rn_by]; rfl, trivial⟩, by simp [roOk], rfl, c0⟩
theorem renc_wc (o a b c k s z i m : Int) (ho : isOp o = true) (K : Out → Hp → Prop) (c0 : K (.ret (.s (.so 0 (layF o a b c k s z i).length 1 5))) [.rw (byC (layF o a b c k s z i))]) : WC Try.prog 45 [.g (iC o a b c k s z i m)] [] K := by
 rcases isOp_cases o ho with rfl | rfl | rfl | rfl | rfl | rfl | rfl | rfl | rfl | rfl | rfl | rfl | rfl | rfl | rfl | rfl | rfl | rfl | rfl | rfl | rfl | rfl | rfl | rfl | rfl
 ·exact renc_1 a b c k s z i m K c0
 ·exact renc_3 a b c k s z i m K c0
 ·exact renc_4 a b c k s z i m K c0
 ·exact renc_5 a b c k s z i m K c0
 ·exact renc_6 a b c k s z i m K c0
 ·exact renc_7 a b c k s z i m K c0
 ·exact renc_8 a b c k s z i m K c0
 ·exact renc_10 a b c k s z i m K c0
 ·exact renc_11 a b c k s z i m K c0
 ·exact renc_12 a b c k s z i m K c0
 ·exact renc_13 a b c k s z i m K c0
 ·exact renc_14 a b c k s z i m K c0
 ·exact renc_15 a b c k s z i m K c0
 ·exact renc_16 a b c k s z i m K c0
 ·exact renc_17 a b c k s z i m K c0
 ·exact renc_18 a b c k s z i m K c0
 ·exact renc_19 a b c k s z i m K c0
 ·exact renc_22 a b c k s z i m K c0
 ·exact renc_23 a b c k s z i m K c0
 ·exact renc_24 a b c k s z i m K c0
 ·exact renc_25 a b c k s z i m K c0
 ·exact renc_26 a b c k s z i m K c0
 ·exact renc_27 a b c k s z i m K c0
 ·exact renc_28 a b c k s z i m K c0
 ·exact renc_29 a b c k s z i m K c0
end Go.Proofs.Ytahepinbmcgbnaa.Vm
