/- Contracts of package cisc's writer: instructions. Printed by wip/tools/genVc13.py. No condition. -/
import Derived.Test.YtahepinbmcgbnaaVc12
import Derived.Test.YtahepinbmcgbnaaVmY
set_option linter.unusedVariables false
set_option linter.unusedSimpArgs false
namespace Go.Proofs.Ytahepinbmcgbnaa.Vm
open Go.RowKit Go.Proofs.Ytahepinbmcgbnaa.PV Go.Proofs.Ytahepinbmcgbnaa.Wd Go.Proofs.YtahepinbmcgbnaaW.PrintWords
attribute [local go_sem] opR moveR pickR allocR boxR ld1R ldgR ldR loadR st2R st1R storeR nilR faR fieldAddrR fdR fieldR ixR indexAddrR extR extractR intR shR isSh eqR bin2R sEqR intsOf binR unR convR miR panR fillP partsR bld2R bld1R buildR bldAR build2R ix1R indexR mxR mmR bs2R bs1R buildSliceR pvOf okT no1T noT taR mfR ptrsR ms1R makeSliceR bnd sl1R so1R sliceR argsR ca1R callR lenR ap2R srcR ap1R appendR lenA appA calR ev cst lk rm pt ins rmO ent gval cellsOf scell TI.agg Sh.agg re1 res1 resR is1 vmQ vmH vmE bin3R index2R strIxR ifR nnR stR oneP oneW opP vmQ2 tA0 tA1 tA2 tA3 tA4 tA5 tA6 tA7 tA8 tA9 tA10 tA11 tA12 tA13 tA14 tA15 oA0 oA1 oA2 oA3 oA4 oA5 oA6 oA7 oA8 oA9 oA10 oA11 oA12 oA13 oA14 reduceCtorEq Nat.reduceEqDiff Nat.reduceAdd Nat.reduceLeDiff Nat.reduceLT Nat.reduceMul Nat.reducePow Nat.reduceSub Int.reduceBEq Int.reduceBNe ne_eq Int.reduceEq not_false_eq_true Bool.false_eq_true Nat.reduceBEq List.getElem?_cons_zero List.getElem?_cons_succ List.map_cons List.map_nil List.length_cons List.length_nil List.drop_succ_cons List.drop_zero List.take_succ_cons List.take_zero List.take_nil List.drop_nil List.append_nil List.nil_append List.cons_append List.set_cons_zero List.set_cons_succ List.all_cons List.all_nil Bool.and_true Bool.and_self cond_true cond_false Option.map_some Option.map_none and_self true_and and_true List.append_eq Int.reduceToNat Int.reduceLT Int.reduceLE Int.reduceAdd Int.reduceMul Int.reduceSub decide_true decide_false nc0 nc1 nc2 nc3 nc4 nc8 Nat.zero_add Nat.mul_one Nat.add_zero zrow List.replicate List.flatten_cons List.flatten_nil ml1 ml2 ml3
theorem bF_ge (n : Int) : 1 ≤ bytesF n := by unfold bytesF; split; omega; split <;> omega
theorem bF_le (n : Int) : bytesF n ≤ 8 := by unfold bytesF; split; omega; split <;> omega
theorem least_3 (i : Int) : leastF i = 0 ∨ leastF i = 1 ∨ leastF i = 2 := by unfold leastF; split; exact .inl rfl; split; exact .inr (.inl rfl); exact .inr (.inr rfl)

set_option maxRecDepth 100000 in
set_option maxHeartbeats 16000000 in
theorem winst_1 (a b c k s z i m : Int) (K : Out → Hp → Prop) (c0 : K (.ret (.t [])) [wr (([u8 1] ++ [u8 (abF a (leastF i))]) ++ lows i (bytesF (leastF i))) 1, .rw (byC (([u8 1] ++ [u8 (abF a (leastF i))]) ++ lows i (bytesF (leastF i))))]) :
  WC Try.prog 78 [.s (.p 0 0), .g (iC 1 a b c k s z i m)] [.rw [.a (.slice none 0 0)]] K := by
 refine wc_pick ?_
 refine wc_intro Try.func78 rfl rfl (by kernel_rfl) (by simp [Try.f78]) ?_
 simp only [go_sem, ↓vmP2, ↓vmD, ↓vmK, ↓trK, ↓reduceIte, Try.f78, iC]
 refine least_wc _ _ _ ?_
 simp only [go_sem, ↓vmP2, ↓vmD, ↓vmK, ↓trK, ↓reduceIte]
 refine wreg2_sw 1 a b c k s z i m (leastF i) _ _ _ ⟨rfl, rfl, rfl, trivial⟩ (fun _ _ _ h => h) ?_
 simp only [go_sem, ↓vmP2, ↓vmD, ↓vmK, ↓trK, ↓reduceIte, iC]
 refine wc_focus [0, 2] rfl (hc := [.rw [.a (.slice none 0 0)], .rw [.a (.int .i64 1)]]) ⟨rfl, rfl, trivial⟩ (args' := [.s (.p 0 0), .s (.so 1 1 1 3)]) rfl rfl (wbyte0 _ _ ?_)
 simp only [rnO, rnP, mrg, setAll, rnB, rnS, ix, List.length_cons, List.length_nil, List.take_succ_cons, List.take_zero, List.take_nil, List.drop_succ_cons, List.drop_zero, List.drop_nil, List.map_cons, List.map_nil, List.getElem?_nil, List.getElem?_cons_zero, List.getElem?_cons_succ, List.set_cons_zero, List.set_cons_succ, List.cons_append, List.nil_append, List.append_nil, Nat.zero_add, Nat.reduceAdd, Nat.reduceSub, rn_by, wr]
 simp only [go_sem, ↓vmP2, ↓vmD, ↓vmK, ↓trK, ↓reduceIte, Nat.zero_add]
 refine wc_focus [0, 3, 4] rfl (hc := [wr [u8 1] 1, .rw (byC [u8 1]), .rw [.a (.int .i64 (abF a (leastF i)))]]) ⟨rfl, by simp only [rnB, rn_by]; rfl, rfl, trivial⟩ (args' := [.s (.p 0 0), .s (.so 2 1 1 3)]) rfl rfl (wbyte1 [u8 1] (abF a (leastF i)) _ (by simp) ?_)
 simp only [rnO, rnP, mrg, setAll, rnB, rnS, ix, List.length_cons, List.length_nil, List.take_succ_cons, List.take_zero, List.take_nil, List.drop_succ_cons, List.drop_zero, List.drop_nil, List.map_cons, List.map_nil, List.getElem?_nil, List.getElem?_cons_zero, List.getElem?_cons_succ, List.set_cons_zero, List.set_cons_succ, List.cons_append, List.nil_append, List.append_nil, Nat.zero_add, Nat.reduceAdd, Nat.reduceSub, rn_by, wr]
 simp only [go_sem, ↓vmP2, ↓vmD, ↓vmK, ↓trK, ↓reduceIte, Nat.zero_add]
 refine sw_draw (.take 0 (.take 1 (.take 3 (.all [(2, .all [(4, .all [(5, .done)])]), (4, .all [(2, .all [(5, .done)])])])))) mo (by kernel_rfl) (by kernel_rfl) (by kernel_rfl) (fun _ _ _ h => h) ?_
 simp only [go_sem, ↓vmP2, ↓vmD, ↓vmK, ↓trK, ↓reduceIte]
 refine ⟨?_, ?_⟩
 all_goals
  refine bytes_wc _ (least_3 i) _ _ ?_
  simp only [go_sem, ↓vmP2, ↓vmD, ↓vmK, ↓trK, ↓reduceIte]
  refine wc_focus [0, 5] rfl (hc := [wr ([u8 1] ++ [u8 (abF a (leastF i))]) 1, .rw (byC ([u8 1] ++ [u8 (abF a (leastF i))]))]) ⟨rfl, by simp only [rnB, rn_by]; rfl, trivial⟩ (args' := [.s (.p 0 0), .s (.a (.int .i64 (((bytesF (leastF i)) : Nat) : Int))), .s (.a (.int .i64 i))]) rfl rfl (wnum ([u8 1] ++ [u8 (abF a (leastF i))]) i (bytesF (leastF i)) _ (by simp) ⟨bF_ge _, bF_le _⟩ ?_)
  simp only [rnO, rnP, mrg, setAll, rnB, rnS, ix, List.length_cons, List.length_nil, List.take_succ_cons, List.take_zero, List.take_nil, List.drop_succ_cons, List.drop_zero, List.drop_nil, List.map_cons, List.map_nil, List.getElem?_nil, List.getElem?_cons_zero, List.getElem?_cons_succ, List.set_cons_zero, List.set_cons_succ, List.cons_append, List.nil_append, List.append_nil, Nat.zero_add, Nat.reduceAdd, Nat.reduceSub, rn_by, wr]
  simp only [go_sem, ↓vmP2, ↓vmD, ↓vmK, ↓trK, ↓reduceIte, Nat.zero_add]
  exact ⟨[0, 6], [wr (([u8 1] ++ [u8 (abF a (leastF i))]) ++ lows i (bytesF (leastF i))) 1, .rw (byC (([u8 1] ++ [u8 (abF a (leastF i))]) ++ lows i (bytesF (leastF i))))], .t [], rfl, by simp, rfl, ⟨rfl, by simp only [rnB, rn_by]; rfl, trivial⟩, by simp [roOk, wr], rfl, c0⟩
set_option maxRecDepth 100000 in
set_option maxHeartbeats 16000000 in
theorem winst_3 (a b c k s z i m : Int) (K : Out → Hp → Prop) (c0 : K (.ret (.t [])) [wr ([u8 3] ++ [u8 (abF a b)]) 1, .rw (byC ([u8 3] ++ [u8 (abF a b)]))]) :
  WC Try.prog 78 [.s (.p 0 0), .g (iC 3 a b c k s z i m)] [.rw [.a (.slice none 0 0)]] K := by
 refine wc_pick ?_
 refine wc_intro Try.func78 rfl rfl (by kernel_rfl) (by simp [Try.f78]) ?_
 simp only [go_sem, ↓vmP2, ↓vmD, ↓vmK, ↓trK, ↓reduceIte, Try.f78, iC]
 refine least_wc _ _ _ ?_
 simp only [go_sem, ↓vmP2, ↓vmD, ↓vmK, ↓trK, ↓reduceIte]
 refine wreg2_sw 3 a b c k s z i m (leastF i) _ _ _ ⟨rfl, rfl, rfl, trivial⟩ (fun _ _ _ h => h) ?_
 simp only [go_sem, ↓vmP2, ↓vmD, ↓vmK, ↓trK, ↓reduceIte, iC]
 refine wc_focus [0, 2] rfl (hc := [.rw [.a (.slice none 0 0)], .rw [.a (.int .i64 3)]]) ⟨rfl, rfl, trivial⟩ (args' := [.s (.p 0 0), .s (.so 1 1 1 3)]) rfl rfl (wbyte0 _ _ ?_)
 simp only [rnO, rnP, mrg, setAll, rnB, rnS, ix, List.length_cons, List.length_nil, List.take_succ_cons, List.take_zero, List.take_nil, List.drop_succ_cons, List.drop_zero, List.drop_nil, List.map_cons, List.map_nil, List.getElem?_nil, List.getElem?_cons_zero, List.getElem?_cons_succ, List.set_cons_zero, List.set_cons_succ, List.cons_append, List.nil_append, List.append_nil, Nat.zero_add, Nat.reduceAdd, Nat.reduceSub, rn_by, wr]
 simp only [go_sem, ↓vmP2, ↓vmD, ↓vmK, ↓trK, ↓reduceIte, Nat.zero_add]
 refine wc_focus [0, 3, 4] rfl (hc := [wr [u8 3] 1, .rw (byC [u8 3]), .rw [.a (.int .i64 (abF a b))]]) ⟨rfl, by simp only [rnB, rn_by]; rfl, rfl, trivial⟩ (args' := [.s (.p 0 0), .s (.so 2 1 1 3)]) rfl rfl (wbyte1 [u8 3] (abF a b) _ (by simp) ?_)
 simp only [rnO, rnP, mrg, setAll, rnB, rnS, ix, List.length_cons, List.length_nil, List.take_succ_cons, List.take_zero, List.take_nil, List.drop_succ_cons, List.drop_zero, List.drop_nil, List.map_cons, List.map_nil, List.getElem?_nil, List.getElem?_cons_zero, List.getElem?_cons_succ, List.set_cons_zero, List.set_cons_succ, List.cons_append, List.nil_append, List.append_nil, Nat.zero_add, Nat.reduceAdd, Nat.reduceSub, rn_by, wr]
 simp only [go_sem, ↓vmP2, ↓vmD, ↓vmK, ↓trK, ↓reduceIte, Nat.zero_add]
 exact ⟨[0, 5], [wr ([u8 3] ++ [u8 (abF a b)]) 1, .rw (byC ([u8 3] ++ [u8 (abF a b)]))], .t [], rfl, by simp, rfl, ⟨rfl, by simp only [rnB, rn_by]; rfl, trivial⟩, by simp [roOk, wr], rfl, c0⟩
set_option maxRecDepth 100000 in
set_option maxHeartbeats 16000000 in
theorem winst_26 (a b c k s z i m : Int) (K : Out → Hp → Prop) (c0 : K (.ret (.t [])) [wr ([u8 26] ++ [u8 (abF a b)]) 1, .rw (byC ([u8 26] ++ [u8 (abF a b)]))]) :
  WC Try.prog 78 [.s (.p 0 0), .g (iC 26 a b c k s z i m)] [.rw [.a (.slice none 0 0)]] K := by
 refine wc_pick ?_
 refine wc_intro Try.func78 rfl rfl (by kernel_rfl) (by simp [Try.f78]) ?_
 simp only [go_sem, ↓vmP2, ↓vmD, ↓vmK, ↓trK, ↓reduceIte, Try.f78, iC]
 refine least_wc _ _ _ ?_
 simp only [go_sem, ↓vmP2, ↓vmD, ↓vmK, ↓trK, ↓reduceIte]
 refine wreg2_sw 26 a b c k s z i m (leastF i) _ _ _ ⟨rfl, rfl, rfl, trivial⟩ (fun _ _ _ h => h) ?_
 simp only [go_sem, ↓vmP2, ↓vmD, ↓vmK, ↓trK, ↓reduceIte, iC]
 refine wc_focus [0, 2] rfl (hc := [.rw [.a (.slice none 0 0)], .rw [.a (.int .i64 26)]]) ⟨rfl, rfl, trivial⟩ (args' := [.s (.p 0 0), .s (.so 1 1 1 3)]) rfl rfl (wbyte0 _ _ ?_)
 simp only [rnO, rnP, mrg, setAll, rnB, rnS, ix, List.length_cons, List.length_nil, List.take_succ_cons, List.take_zero, List.take_nil, List.drop_succ_cons, List.drop_zero, List.drop_nil, List.map_cons, List.map_nil, List.getElem?_nil, List.getElem?_cons_zero, List.getElem?_cons_succ, List.set_cons_zero, List.set_cons_succ, List.cons_append, List.nil_append, List.append_nil, Nat.zero_add, Nat.reduceAdd, Nat.reduceSub, rn_by, wr]
 simp only [go_sem, ↓vmP2, ↓vmD, ↓vmK, ↓trK, ↓reduceIte, Nat.zero_add]
 refine wc_focus [0, 3, 4] rfl (hc := [wr [u8 26] 1, .rw (byC [u8 26]), .rw [.a (.int .i64 (abF a b))]]) ⟨rfl, by simp only [rnB, rn_by]; rfl, rfl, trivial⟩ (args' := [.s (.p 0 0), .s (.so 2 1 1 3)]) rfl rfl (wbyte1 [u8 26] (abF a b) _ (by simp) ?_)
 simp only [rnO, rnP, mrg, setAll, rnB, rnS, ix, List.length_cons, List.length_nil, List.take_succ_cons, List.take_zero, List.take_nil, List.drop_succ_cons, List.drop_zero, List.drop_nil, List.map_cons, List.map_nil, List.getElem?_nil, List.getElem?_cons_zero, List.getElem?_cons_succ, List.set_cons_zero, List.set_cons_succ, List.cons_append, List.nil_append, List.append_nil, Nat.zero_add, Nat.reduceAdd, Nat.reduceSub, rn_by, wr]
 simp only [go_sem, ↓vmP2, ↓vmD, ↓vmK, ↓trK, ↓reduceIte, Nat.zero_add]
 exact ⟨[0, 5], [wr ([u8 26] ++ [u8 (abF a b)]) 1, .rw (byC ([u8 26] ++ [u8 (abF a b)]))], .t [], rfl, by simp, rfl, ⟨rfl, by simp only [rnB, rn_by]; rfl, trivial⟩, by simp [roOk, wr], rfl, c0⟩
set_option maxRecDepth 100000 in
set_option maxHeartbeats 16000000 in
theorem winst_27 (a b c k s z i m : Int) (K : Out → Hp → Prop) (c0 : K (.ret (.t [])) [wr ([u8 27] ++ [u8 (abF a b)]) 1, .rw (byC ([u8 27] ++ [u8 (abF a b)]))]) :
  WC Try.prog 78 [.s (.p 0 0), .g (iC 27 a b c k s z i m)] [.rw [.a (.slice none 0 0)]] K := by
 refine wc_pick ?_
 refine wc_intro Try.func78 rfl rfl (by kernel_rfl) (by simp [Try.f78]) ?_
 simp only [go_sem, ↓vmP2, ↓vmD, ↓vmK, ↓trK, ↓reduceIte, Try.f78, iC]
 refine least_wc _ _ _ ?_
 simp only [go_sem, ↓vmP2, ↓vmD, ↓vmK, ↓trK, ↓reduceIte]
 refine wreg2_sw 27 a b c k s z i m (leastF i) _ _ _ ⟨rfl, rfl, rfl, trivial⟩ (fun _ _ _ h => h) ?_
 simp only [go_sem, ↓vmP2, ↓vmD, ↓vmK, ↓trK, ↓reduceIte, iC]
 refine wc_focus [0, 2] rfl (hc := [.rw [.a (.slice none 0 0)], .rw [.a (.int .i64 27)]]) ⟨rfl, rfl, trivial⟩ (args' := [.s (.p 0 0), .s (.so 1 1 1 3)]) rfl rfl (wbyte0 _ _ ?_)
 simp only [rnO, rnP, mrg, setAll, rnB, rnS, ix, List.length_cons, List.length_nil, List.take_succ_cons, List.take_zero, List.take_nil, List.drop_succ_cons, List.drop_zero, List.drop_nil, List.map_cons, List.map_nil, List.getElem?_nil, List.getElem?_cons_zero, List.getElem?_cons_succ, List.set_cons_zero, List.set_cons_succ, List.cons_append, List.nil_append, List.append_nil, Nat.zero_add, Nat.reduceAdd, Nat.reduceSub, rn_by, wr]
 simp only [go_sem, ↓vmP2, ↓vmD, ↓vmK, ↓trK, ↓reduceIte, Nat.zero_add]
 refine wc_focus [0, 3, 4] rfl (hc := [wr [u8 27] 1, .rw (byC [u8 27]), .rw [.a (.int .i64 (abF a b))]]) ⟨rfl, by simp only [rnB, rn_by]; rfl, rfl, trivial⟩ (args' := [.s (.p 0 0), .s (.so 2 1 1 3)]) rfl rfl (wbyte1 [u8 27] (abF a b) _ (by simp) ?_)
 simp only [rnO, rnP, mrg, setAll, rnB, rnS, ix, List.length_cons, List.length_nil, List.take_succ_cons, List.take_zero, List.take_nil, List.drop_succ_cons, List.drop_zero, List.drop_nil, List.map_cons, List.map_nil, List.getElem?_nil, List.getElem?_cons_zero, List.getElem?_cons_succ, List.set_cons_zero, List.set_cons_succ, List.cons_append, List.nil_append, List.append_nil, Nat.zero_add, Nat.reduceAdd, Nat.reduceSub, rn_by, wr]
 simp only [go_sem, ↓vmP2, ↓vmD, ↓vmK, ↓trK, ↓reduceIte, Nat.zero_add]
 exact ⟨[0, 5], [wr ([u8 27] ++ [u8 (abF a b)]) 1, .rw (byC ([u8 27] ++ [u8 (abF a b)]))], .t [], rfl, by simp, rfl, ⟨rfl, by simp only [rnB, rn_by]; rfl, trivial⟩, by simp [roOk, wr], rfl, c0⟩
set_option maxRecDepth 100000 in
set_option maxHeartbeats 16000000 in
theorem winst_28 (a b c k s z i m : Int) (K : Out → Hp → Prop) (c0 : K (.ret (.t [])) [wr ([u8 28] ++ [u8 (abF a b)]) 1, .rw (byC ([u8 28] ++ [u8 (abF a b)]))]) :
  WC Try.prog 78 [.s (.p 0 0), .g (iC 28 a b c k s z i m)] [.rw [.a (.slice none 0 0)]] K := by
 refine wc_pick ?_
 refine wc_intro Try.func78 rfl rfl (by kernel_rfl) (by simp [Try.f78]) ?_
 simp only [go_sem, ↓vmP2, ↓vmD, ↓vmK, ↓trK, ↓reduceIte, Try.f78, iC]
 refine least_wc _ _ _ ?_
 simp only [go_sem, ↓vmP2, ↓vmD, ↓vmK, ↓trK, ↓reduceIte]
 refine wreg2_sw 28 a b c k s z i m (leastF i) _ _ _ ⟨rfl, rfl, rfl, trivial⟩ (fun _ _ _ h => h) ?_
 simp only [go_sem, ↓vmP2, ↓vmD, ↓vmK, ↓trK, ↓reduceIte, iC]
 refine wc_focus [0, 2] rfl (hc := [.rw [.a (.slice none 0 0)], .rw [.a (.int .i64 28)]]) ⟨rfl, rfl, trivial⟩ (args' := [.s (.p 0 0), .s (.so 1 1 1 3)]) rfl rfl (wbyte0 _ _ ?_)
 simp only [rnO, rnP, mrg, setAll, rnB, rnS, ix, List.length_cons, List.length_nil, List.take_succ_cons, List.take_zero, List.take_nil, List.drop_succ_cons, List.drop_zero, List.drop_nil, List.map_cons, List.map_nil, List.getElem?_nil, List.getElem?_cons_zero, List.getElem?_cons_succ, List.set_cons_zero, List.set_cons_succ, List.cons_append, List.nil_append, List.append_nil, Nat.zero_add, Nat.reduceAdd, Nat.reduceSub, rn_by, wr]
 simp only [go_sem, ↓vmP2, ↓vmD, ↓vmK, ↓trK, ↓reduceIte, Nat.zero_add]
 refine wc_focus [0, 3, 4] rfl (hc := [wr [u8 28] 1, .rw (byC [u8 28]), .rw [.a (.int .i64 (abF a b))]]) ⟨rfl, by simp only [rnB, rn_by]; rfl, rfl, trivial⟩ (args' := [.s (.p 0 0), .s (.so 2 1 1 3)]) rfl rfl (wbyte1 [u8 28] (abF a b) _ (by simp) ?_)
 simp only [rnO, rnP, mrg, setAll, rnB, rnS, ix, List.length_cons, List.length_nil, List.take_succ_cons, List.take_zero, List.take_nil, List.drop_succ_cons, List.drop_zero, List.drop_nil, List.map_cons, List.map_nil, List.getElem?_nil, List.getElem?_cons_zero, List.getElem?_cons_succ, List.set_cons_zero, List.set_cons_succ, List.cons_append, List.nil_append, List.append_nil, Nat.zero_add, Nat.reduceAdd, Nat.reduceSub, rn_by, wr]
 simp only [go_sem, ↓vmP2, ↓vmD, ↓vmK, ↓trK, ↓reduceIte, Nat.zero_add]
 exact ⟨[0, 5], [wr ([u8 28] ++ [u8 (abF a b)]) 1, .rw (byC ([u8 28] ++ [u8 (abF a b)]))], .t [], rfl, by simp, rfl, ⟨rfl, by simp only [rnB, rn_by]; rfl, trivial⟩, by simp [roOk, wr], rfl, c0⟩
set_option maxRecDepth 100000 in
set_option maxHeartbeats 16000000 in
theorem winst_4 (a b c k s z i m : Int) (K : Out → Hp → Prop) (c0 : K (.ret (.t [])) [wr ((([u8 4] ++ [u8 (abF a b)]) ++ [u8 (k)]) ++ [u8 (s)]) 1, .rw (byC ((([u8 4] ++ [u8 (abF a b)]) ++ [u8 (k)]) ++ [u8 (s)]))]) :
  WC Try.prog 78 [.s (.p 0 0), .g (iC 4 a b c k s z i m)] [.rw [.a (.slice none 0 0)]] K := by
 refine wc_pick ?_
 refine wc_intro Try.func78 rfl rfl (by kernel_rfl) (by simp [Try.f78]) ?_
 simp only [go_sem, ↓vmP2, ↓vmD, ↓vmK, ↓trK, ↓reduceIte, Try.f78, iC]
 refine least_wc _ _ _ ?_
 simp only [go_sem, ↓vmP2, ↓vmD, ↓vmK, ↓trK, ↓reduceIte]
 refine wreg2_sw 4 a b c k s z i m (leastF i) _ _ _ ⟨rfl, rfl, rfl, trivial⟩ (fun _ _ _ h => h) ?_
 simp only [go_sem, ↓vmP2, ↓vmD, ↓vmK, ↓trK, ↓reduceIte, iC]
 refine wc_focus [0, 2] rfl (hc := [.rw [.a (.slice none 0 0)], .rw [.a (.int .i64 4)]]) ⟨rfl, rfl, trivial⟩ (args' := [.s (.p 0 0), .s (.so 1 1 1 3)]) rfl rfl (wbyte0 _ _ ?_)
 simp only [rnO, rnP, mrg, setAll, rnB, rnS, ix, List.length_cons, List.length_nil, List.take_succ_cons, List.take_zero, List.take_nil, List.drop_succ_cons, List.drop_zero, List.drop_nil, List.map_cons, List.map_nil, List.getElem?_nil, List.getElem?_cons_zero, List.getElem?_cons_succ, List.set_cons_zero, List.set_cons_succ, List.cons_append, List.nil_append, List.append_nil, Nat.zero_add, Nat.reduceAdd, Nat.reduceSub, rn_by, wr]
 simp only [go_sem, ↓vmP2, ↓vmD, ↓vmK, ↓trK, ↓reduceIte, Nat.zero_add]
 refine wc_focus [0, 3, 4] rfl (hc := [wr [u8 4] 1, .rw (byC [u8 4]), .rw [.a (.int .i64 (abF a b)), .a (.int .i64 (k)), .a (.int .i64 (s))]]) ⟨rfl, by simp only [rnB, rn_by]; rfl, rfl, trivial⟩ (args' := [.s (.p 0 0), .s (.so 2 3 1 3)]) rfl rfl (wbyte3 [u8 4] (abF a b) (k) (s) _ (by simp) ?_)
 simp only [rnO, rnP, mrg, setAll, rnB, rnS, ix, List.length_cons, List.length_nil, List.take_succ_cons, List.take_zero, List.take_nil, List.drop_succ_cons, List.drop_zero, List.drop_nil, List.map_cons, List.map_nil, List.getElem?_nil, List.getElem?_cons_zero, List.getElem?_cons_succ, List.set_cons_zero, List.set_cons_succ, List.cons_append, List.nil_append, List.append_nil, Nat.zero_add, Nat.reduceAdd, Nat.reduceSub, rn_by, wr]
 simp only [go_sem, ↓vmP2, ↓vmD, ↓vmK, ↓trK, ↓reduceIte, Nat.zero_add]
 exact ⟨[0, 5], [wr ((([u8 4] ++ [u8 (abF a b)]) ++ [u8 (k)]) ++ [u8 (s)]) 1, .rw (byC ((([u8 4] ++ [u8 (abF a b)]) ++ [u8 (k)]) ++ [u8 (s)]))], .t [], rfl, by simp, rfl, ⟨rfl, by simp only [rnB, rn_by]; rfl, trivial⟩, by simp [roOk, wr], rfl, c0⟩
set_option maxRecDepth 100000 in
set_option maxHeartbeats 16000000 in
theorem winst_7 (a b c k s z i m : Int) (K : Out → Hp → Prop) (c0 : K (.ret (.t [])) [wr ((([u8 7] ++ [u8 (abF a b)]) ++ [u8 (k)]) ++ [u8 (s)]) 1, .rw (byC ((([u8 7] ++ [u8 (abF a b)]) ++ [u8 (k)]) ++ [u8 (s)]))]) :
  WC Try.prog 78 [.s (.p 0 0), .g (iC 7 a b c k s z i m)] [.rw [.a (.slice none 0 0)]] K := by
 refine wc_pick ?_
 refine wc_intro Try.func78 rfl rfl (by kernel_rfl) (by simp [Try.f78]) ?_
 simp only [go_sem, ↓vmP2, ↓vmD, ↓vmK, ↓trK, ↓reduceIte, Try.f78, iC]
 refine least_wc _ _ _ ?_
 simp only [go_sem, ↓vmP2, ↓vmD, ↓vmK, ↓trK, ↓reduceIte]
 refine wreg2_sw 7 a b c k s z i m (leastF i) _ _ _ ⟨rfl, rfl, rfl, trivial⟩ (fun _ _ _ h => h) ?_
 simp only [go_sem, ↓vmP2, ↓vmD, ↓vmK, ↓trK, ↓reduceIte, iC]
 refine wc_focus [0, 2] rfl (hc := [.rw [.a (.slice none 0 0)], .rw [.a (.int .i64 7)]]) ⟨rfl, rfl, trivial⟩ (args' := [.s (.p 0 0), .s (.so 1 1 1 3)]) rfl rfl (wbyte0 _ _ ?_)
 simp only [rnO, rnP, mrg, setAll, rnB, rnS, ix, List.length_cons, List.length_nil, List.take_succ_cons, List.take_zero, List.take_nil, List.drop_succ_cons, List.drop_zero, List.drop_nil, List.map_cons, List.map_nil, List.getElem?_nil, List.getElem?_cons_zero, List.getElem?_cons_succ, List.set_cons_zero, List.set_cons_succ, List.cons_append, List.nil_append, List.append_nil, Nat.zero_add, Nat.reduceAdd, Nat.reduceSub, rn_by, wr]
 simp only [go_sem, ↓vmP2, ↓vmD, ↓vmK, ↓trK, ↓reduceIte, Nat.zero_add]
 refine wc_focus [0, 3, 4] rfl (hc := [wr [u8 7] 1, .rw (byC [u8 7]), .rw [.a (.int .i64 (abF a b)), .a (.int .i64 (k)), .a (.int .i64 (s))]]) ⟨rfl, by simp only [rnB, rn_by]; rfl, rfl, trivial⟩ (args' := [.s (.p 0 0), .s (.so 2 3 1 3)]) rfl rfl (wbyte3 [u8 7] (abF a b) (k) (s) _ (by simp) ?_)
 simp only [rnO, rnP, mrg, setAll, rnB, rnS, ix, List.length_cons, List.length_nil, List.take_succ_cons, List.take_zero, List.take_nil, List.drop_succ_cons, List.drop_zero, List.drop_nil, List.map_cons, List.map_nil, List.getElem?_nil, List.getElem?_cons_zero, List.getElem?_cons_succ, List.set_cons_zero, List.set_cons_succ, List.cons_append, List.nil_append, List.append_nil, Nat.zero_add, Nat.reduceAdd, Nat.reduceSub, rn_by, wr]
 simp only [go_sem, ↓vmP2, ↓vmD, ↓vmK, ↓trK, ↓reduceIte, Nat.zero_add]
 exact ⟨[0, 5], [wr ((([u8 7] ++ [u8 (abF a b)]) ++ [u8 (k)]) ++ [u8 (s)]) 1, .rw (byC ((([u8 7] ++ [u8 (abF a b)]) ++ [u8 (k)]) ++ [u8 (s)]))], .t [], rfl, by simp, rfl, ⟨rfl, by simp only [rnB, rn_by]; rfl, trivial⟩, by simp [roOk, wr], rfl, c0⟩
set_option maxRecDepth 100000 in
set_option maxHeartbeats 16000000 in
theorem winst_8 (a b c k s z i m : Int) (K : Out → Hp → Prop) (c0 : K (.ret (.t [])) [wr ((([u8 8] ++ [u8 (abF a b)]) ++ [u8 (k)]) ++ [u8 (s)]) 1, .rw (byC ((([u8 8] ++ [u8 (abF a b)]) ++ [u8 (k)]) ++ [u8 (s)]))]) :
  WC Try.prog 78 [.s (.p 0 0), .g (iC 8 a b c k s z i m)] [.rw [.a (.slice none 0 0)]] K := by
 refine wc_pick ?_
 refine wc_intro Try.func78 rfl rfl (by kernel_rfl) (by simp [Try.f78]) ?_
 simp only [go_sem, ↓vmP2, ↓vmD, ↓vmK, ↓trK, ↓reduceIte, Try.f78, iC]
 refine least_wc _ _ _ ?_
 simp only [go_sem, ↓vmP2, ↓vmD, ↓vmK, ↓trK, ↓reduceIte]
 refine wreg2_sw 8 a b c k s z i m (leastF i) _ _ _ ⟨rfl, rfl, rfl, trivial⟩ (fun _ _ _ h => h) ?_
 simp only [go_sem, ↓vmP2, ↓vmD, ↓vmK, ↓trK, ↓reduceIte, iC]
 refine wc_focus [0, 2] rfl (hc := [.rw [.a (.slice none 0 0)], .rw [.a (.int .i64 8)]]) ⟨rfl, rfl, trivial⟩ (args' := [.s (.p 0 0), .s (.so 1 1 1 3)]) rfl rfl (wbyte0 _ _ ?_)
 simp only [rnO, rnP, mrg, setAll, rnB, rnS, ix, List.length_cons, List.length_nil, List.take_succ_cons, List.take_zero, List.take_nil, List.drop_succ_cons, List.drop_zero, List.drop_nil, List.map_cons, List.map_nil, List.getElem?_nil, List.getElem?_cons_zero, List.getElem?_cons_succ, List.set_cons_zero, List.set_cons_succ, List.cons_append, List.nil_append, List.append_nil, Nat.zero_add, Nat.reduceAdd, Nat.reduceSub, rn_by, wr]
 simp only [go_sem, ↓vmP2, ↓vmD, ↓vmK, ↓trK, ↓reduceIte, Nat.zero_add]
 refine wc_focus [0, 3, 4] rfl (hc := [wr [u8 8] 1, .rw (byC [u8 8]), .rw [.a (.int .i64 (abF a b)), .a (.int .i64 (k)), .a (.int .i64 (s))]]) ⟨rfl, by simp only [rnB, rn_by]; rfl, rfl, trivial⟩ (args' := [.s (.p 0 0), .s (.so 2 3 1 3)]) rfl rfl (wbyte3 [u8 8] (abF a b) (k) (s) _ (by simp) ?_)
 simp only [rnO, rnP, mrg, setAll, rnB, rnS, ix, List.length_cons, List.length_nil, List.take_succ_cons, List.take_zero, List.take_nil, List.drop_succ_cons, List.drop_zero, List.drop_nil, List.map_cons, List.map_nil, List.getElem?_nil, List.getElem?_cons_zero, List.getElem?_cons_succ, List.set_cons_zero, List.set_cons_succ, List.cons_append, List.nil_append, List.append_nil, Nat.zero_add, Nat.reduceAdd, Nat.reduceSub, rn_by, wr]
 simp only [go_sem, ↓vmP2, ↓vmD, ↓vmK, ↓trK, ↓reduceIte, Nat.zero_add]
 exact ⟨[0, 5], [wr ((([u8 8] ++ [u8 (abF a b)]) ++ [u8 (k)]) ++ [u8 (s)]) 1, .rw (byC ((([u8 8] ++ [u8 (abF a b)]) ++ [u8 (k)]) ++ [u8 (s)]))], .t [], rfl, by simp, rfl, ⟨rfl, by simp only [rnB, rn_by]; rfl, trivial⟩, by simp [roOk, wr], rfl, c0⟩
set_option maxRecDepth 100000 in
set_option maxHeartbeats 16000000 in
theorem winst_5 (a b c k s z i m : Int) (K : Out → Hp → Prop) (c0 : K (.ret (.t [])) [wr (((([u8 5] ++ [u8 (abF a (leastF i))]) ++ [u8 (k)]) ++ [u8 (s)]) ++ lows i (bytesF (leastF i))) 1, .rw (byC (((([u8 5] ++ [u8 (abF a (leastF i))]) ++ [u8 (k)]) ++ [u8 (s)]) ++ lows i (bytesF (leastF i))))]) :
  WC Try.prog 78 [.s (.p 0 0), .g (iC 5 a b c k s z i m)] [.rw [.a (.slice none 0 0)]] K := by
 refine wc_pick ?_
 refine wc_intro Try.func78 rfl rfl (by kernel_rfl) (by simp [Try.f78]) ?_
 simp only [go_sem, ↓vmP2, ↓vmD, ↓vmK, ↓trK, ↓reduceIte, Try.f78, iC]
 refine least_wc _ _ _ ?_
 simp only [go_sem, ↓vmP2, ↓vmD, ↓vmK, ↓trK, ↓reduceIte]
 refine wreg2_sw 5 a b c k s z i m (leastF i) _ _ _ ⟨rfl, rfl, rfl, trivial⟩ (fun _ _ _ h => h) ?_
 simp only [go_sem, ↓vmP2, ↓vmD, ↓vmK, ↓trK, ↓reduceIte, iC]
 refine wc_focus [0, 2] rfl (hc := [.rw [.a (.slice none 0 0)], .rw [.a (.int .i64 5)]]) ⟨rfl, rfl, trivial⟩ (args' := [.s (.p 0 0), .s (.so 1 1 1 3)]) rfl rfl (wbyte0 _ _ ?_)
 simp only [rnO, rnP, mrg, setAll, rnB, rnS, ix, List.length_cons, List.length_nil, List.take_succ_cons, List.take_zero, List.take_nil, List.drop_succ_cons, List.drop_zero, List.drop_nil, List.map_cons, List.map_nil, List.getElem?_nil, List.getElem?_cons_zero, List.getElem?_cons_succ, List.set_cons_zero, List.set_cons_succ, List.cons_append, List.nil_append, List.append_nil, Nat.zero_add, Nat.reduceAdd, Nat.reduceSub, rn_by, wr]
 simp only [go_sem, ↓vmP2, ↓vmD, ↓vmK, ↓trK, ↓reduceIte, Nat.zero_add]
 refine wc_focus [0, 3, 4] rfl (hc := [wr [u8 5] 1, .rw (byC [u8 5]), .rw [.a (.int .i64 (abF a (leastF i))), .a (.int .i64 (k)), .a (.int .i64 (s))]]) ⟨rfl, by simp only [rnB, rn_by]; rfl, rfl, trivial⟩ (args' := [.s (.p 0 0), .s (.so 2 3 1 3)]) rfl rfl (wbyte3 [u8 5] (abF a (leastF i)) (k) (s) _ (by simp) ?_)
 simp only [rnO, rnP, mrg, setAll, rnB, rnS, ix, List.length_cons, List.length_nil, List.take_succ_cons, List.take_zero, List.take_nil, List.drop_succ_cons, List.drop_zero, List.drop_nil, List.map_cons, List.map_nil, List.getElem?_nil, List.getElem?_cons_zero, List.getElem?_cons_succ, List.set_cons_zero, List.set_cons_succ, List.cons_append, List.nil_append, List.append_nil, Nat.zero_add, Nat.reduceAdd, Nat.reduceSub, rn_by, wr]
 simp only [go_sem, ↓vmP2, ↓vmD, ↓vmK, ↓trK, ↓reduceIte, Nat.zero_add]
 refine sw_draw (.take 0 (.take 1 (.take 3 (.all [(2, .all [(4, .all [(5, .done)])]), (4, .all [(2, .all [(5, .done)])])])))) mo (by kernel_rfl) (by kernel_rfl) (by kernel_rfl) (fun _ _ _ h => h) ?_
 simp only [go_sem, ↓vmP2, ↓vmD, ↓vmK, ↓trK, ↓reduceIte]
 refine ⟨?_, ?_⟩
 all_goals
  refine bytes_wc _ (least_3 i) _ _ ?_
  simp only [go_sem, ↓vmP2, ↓vmD, ↓vmK, ↓trK, ↓reduceIte]
  refine wc_focus [0, 5] rfl (hc := [wr ((([u8 5] ++ [u8 (abF a (leastF i))]) ++ [u8 (k)]) ++ [u8 (s)]) 1, .rw (byC ((([u8 5] ++ [u8 (abF a (leastF i))]) ++ [u8 (k)]) ++ [u8 (s)]))]) ⟨rfl, by simp only [rnB, rn_by]; rfl, trivial⟩ (args' := [.s (.p 0 0), .s (.a (.int .i64 (((bytesF (leastF i)) : Nat) : Int))), .s (.a (.int .i64 i))]) rfl rfl (wnum ((([u8 5] ++ [u8 (abF a (leastF i))]) ++ [u8 (k)]) ++ [u8 (s)]) i (bytesF (leastF i)) _ (by simp) ⟨bF_ge _, bF_le _⟩ ?_)
  simp only [rnO, rnP, mrg, setAll, rnB, rnS, ix, List.length_cons, List.length_nil, List.take_succ_cons, List.take_zero, List.take_nil, List.drop_succ_cons, List.drop_zero, List.drop_nil, List.map_cons, List.map_nil, List.getElem?_nil, List.getElem?_cons_zero, List.getElem?_cons_succ, List.set_cons_zero, List.set_cons_succ, List.cons_append, List.nil_append, List.append_nil, Nat.zero_add, Nat.reduceAdd, Nat.reduceSub, rn_by, wr]
  simp only [go_sem, ↓vmP2, ↓vmD, ↓vmK, ↓trK, ↓reduceIte, Nat.zero_add]
  exact ⟨[0, 6], [wr (((([u8 5] ++ [u8 (abF a (leastF i))]) ++ [u8 (k)]) ++ [u8 (s)]) ++ lows i (bytesF (leastF i))) 1, .rw (byC (((([u8 5] ++ [u8 (abF a (leastF i))]) ++ [u8 (k)]) ++ [u8 (s)]) ++ lows i (bytesF (leastF i))))], .t [], rfl, by simp, rfl, ⟨rfl, by simp only [rnB, rn_by]; rfl, trivial⟩, by simp [roOk, wr], rfl, c0⟩
set_option maxRecDepth 100000 in
set_option maxHeartbeats 16000000 in
theorem winst_6 (a b c k s z i m : Int) (K : Out → Hp → Prop) (c0 : K (.ret (.t [])) [wr (((([u8 6] ++ [u8 (abF a b)]) ++ [u8 (k)]) ++ [u8 (s)]) ++ lows i 4) 1, .rw (byC (((([u8 6] ++ [u8 (abF a b)]) ++ [u8 (k)]) ++ [u8 (s)]) ++ lows i 4))]) :
  WC Try.prog 78 [.s (.p 0 0), .g (iC 6 a b c k s z i m)] [.rw [.a (.slice none 0 0)]] K := by
 refine wc_pick ?_
 refine wc_intro Try.func78 rfl rfl (by kernel_rfl) (by simp [Try.f78]) ?_
 simp only [go_sem, ↓vmP2, ↓vmD, ↓vmK, ↓trK, ↓reduceIte, Try.f78, iC]
 refine least_wc _ _ _ ?_
 simp only [go_sem, ↓vmP2, ↓vmD, ↓vmK, ↓trK, ↓reduceIte]
 refine wreg2_sw 6 a b c k s z i m (leastF i) _ _ _ ⟨rfl, rfl, rfl, trivial⟩ (fun _ _ _ h => h) ?_
 simp only [go_sem, ↓vmP2, ↓vmD, ↓vmK, ↓trK, ↓reduceIte, iC]
 refine wc_focus [0, 2] rfl (hc := [.rw [.a (.slice none 0 0)], .rw [.a (.int .i64 6)]]) ⟨rfl, rfl, trivial⟩ (args' := [.s (.p 0 0), .s (.so 1 1 1 3)]) rfl rfl (wbyte0 _ _ ?_)
 simp only [rnO, rnP, mrg, setAll, rnB, rnS, ix, List.length_cons, List.length_nil, List.take_succ_cons, List.take_zero, List.take_nil, List.drop_succ_cons, List.drop_zero, List.drop_nil, List.map_cons, List.map_nil, List.getElem?_nil, List.getElem?_cons_zero, List.getElem?_cons_succ, List.set_cons_zero, List.set_cons_succ, List.cons_append, List.nil_append, List.append_nil, Nat.zero_add, Nat.reduceAdd, Nat.reduceSub, rn_by, wr]
 simp only [go_sem, ↓vmP2, ↓vmD, ↓vmK, ↓trK, ↓reduceIte, Nat.zero_add]
 refine wc_focus [0, 3, 4] rfl (hc := [wr [u8 6] 1, .rw (byC [u8 6]), .rw [.a (.int .i64 (abF a b)), .a (.int .i64 (k)), .a (.int .i64 (s))]]) ⟨rfl, by simp only [rnB, rn_by]; rfl, rfl, trivial⟩ (args' := [.s (.p 0 0), .s (.so 2 3 1 3)]) rfl rfl (wbyte3 [u8 6] (abF a b) (k) (s) _ (by simp) ?_)
 simp only [rnO, rnP, mrg, setAll, rnB, rnS, ix, List.length_cons, List.length_nil, List.take_succ_cons, List.take_zero, List.take_nil, List.drop_succ_cons, List.drop_zero, List.drop_nil, List.map_cons, List.map_nil, List.getElem?_nil, List.getElem?_cons_zero, List.getElem?_cons_succ, List.set_cons_zero, List.set_cons_succ, List.cons_append, List.nil_append, List.append_nil, Nat.zero_add, Nat.reduceAdd, Nat.reduceSub, rn_by, wr]
 simp only [go_sem, ↓vmP2, ↓vmD, ↓vmK, ↓trK, ↓reduceIte, Nat.zero_add]
 refine wc_focus [0, 5] rfl (hc := [wr ((([u8 6] ++ [u8 (abF a b)]) ++ [u8 (k)]) ++ [u8 (s)]) 1, .rw (byC ((([u8 6] ++ [u8 (abF a b)]) ++ [u8 (k)]) ++ [u8 (s)]))]) ⟨rfl, by simp only [rnB, rn_by]; rfl, trivial⟩ (args' := [.s (.p 0 0), .s (.a (.int .i64 ((4 : Nat) : Int))), .s (.a (.int .i64 i))]) rfl rfl (wnum ((([u8 6] ++ [u8 (abF a b)]) ++ [u8 (k)]) ++ [u8 (s)]) i 4 _ (by simp) (by omega) ?_)
 simp only [rnO, rnP, mrg, setAll, rnB, rnS, ix, List.length_cons, List.length_nil, List.take_succ_cons, List.take_zero, List.take_nil, List.drop_succ_cons, List.drop_zero, List.drop_nil, List.map_cons, List.map_nil, List.getElem?_nil, List.getElem?_cons_zero, List.getElem?_cons_succ, List.set_cons_zero, List.set_cons_succ, List.cons_append, List.nil_append, List.append_nil, Nat.zero_add, Nat.reduceAdd, Nat.reduceSub, rn_by, wr]
 simp only [go_sem, ↓vmP2, ↓vmD, ↓vmK, ↓trK, ↓reduceIte, Nat.zero_add]
 exact ⟨[0, 6], [wr (((([u8 6] ++ [u8 (abF a b)]) ++ [u8 (k)]) ++ [u8 (s)]) ++ lows i 4) 1, .rw (byC (((([u8 6] ++ [u8 (abF a b)]) ++ [u8 (k)]) ++ [u8 (s)]) ++ lows i 4))], .t [], rfl, by simp, rfl, ⟨rfl, by simp only [rnB, rn_by]; rfl, trivial⟩, by simp [roOk, wr], rfl, c0⟩
set_option maxRecDepth 100000 in
set_option maxHeartbeats 16000000 in
theorem winst_10 (a b c k s z i m : Int) (K : Out → Hp → Prop) (c0 : K (.ret (.t [])) [wr ((([u8 10] ++ [u8 (abF a b)]) ++ [u8 (abF c (scaleF z))]) ++ lows i 4) 1, .rw (byC ((([u8 10] ++ [u8 (abF a b)]) ++ [u8 (abF c (scaleF z))]) ++ lows i 4))]) :
  WC Try.prog 78 [.s (.p 0 0), .g (iC 10 a b c k s z i m)] [.rw [.a (.slice none 0 0)]] K := by
 refine wc_pick ?_
 refine wc_intro Try.func78 rfl rfl (by kernel_rfl) (by simp [Try.f78]) ?_
 simp only [go_sem, ↓vmP2, ↓vmD, ↓vmK, ↓trK, ↓reduceIte, Try.f78, iC]
 refine least_wc _ _ _ ?_
 simp only [go_sem, ↓vmP2, ↓vmD, ↓vmK, ↓trK, ↓reduceIte]
 refine wreg2_sw 10 a b c k s z i m (leastF i) _ _ _ ⟨rfl, rfl, rfl, trivial⟩ (fun _ _ _ h => h) ?_
 simp only [go_sem, ↓vmP2, ↓vmD, ↓vmK, ↓trK, ↓reduceIte, iC]
 refine wc_focus [0, 2] rfl (hc := [.rw [.a (.slice none 0 0)], .rw [.a (.int .i64 10)]]) ⟨rfl, rfl, trivial⟩ (args' := [.s (.p 0 0), .s (.so 1 1 1 3)]) rfl rfl (wbyte0 _ _ ?_)
 simp only [rnO, rnP, mrg, setAll, rnB, rnS, ix, List.length_cons, List.length_nil, List.take_succ_cons, List.take_zero, List.take_nil, List.drop_succ_cons, List.drop_zero, List.drop_nil, List.map_cons, List.map_nil, List.getElem?_nil, List.getElem?_cons_zero, List.getElem?_cons_succ, List.set_cons_zero, List.set_cons_succ, List.cons_append, List.nil_append, List.append_nil, Nat.zero_add, Nat.reduceAdd, Nat.reduceSub, rn_by, wr]
 simp only [go_sem, ↓vmP2, ↓vmD, ↓vmK, ↓trK, ↓reduceIte, Nat.zero_add]
 refine wc_focus [0, 3, 4] rfl (hc := [wr [u8 10] 1, .rw (byC [u8 10]), .rw [.a (.int .i64 (abF a b)), .a (.int .i64 (abF c (scaleF z)))]]) ⟨rfl, by simp only [rnB, rn_by]; rfl, rfl, trivial⟩ (args' := [.s (.p 0 0), .s (.so 2 2 1 3)]) rfl rfl (wbyte2 [u8 10] (abF a b) (abF c (scaleF z)) _ (by simp) ?_)
 simp only [rnO, rnP, mrg, setAll, rnB, rnS, ix, List.length_cons, List.length_nil, List.take_succ_cons, List.take_zero, List.take_nil, List.drop_succ_cons, List.drop_zero, List.drop_nil, List.map_cons, List.map_nil, List.getElem?_nil, List.getElem?_cons_zero, List.getElem?_cons_succ, List.set_cons_zero, List.set_cons_succ, List.cons_append, List.nil_append, List.append_nil, Nat.zero_add, Nat.reduceAdd, Nat.reduceSub, rn_by, wr]
 simp only [go_sem, ↓vmP2, ↓vmD, ↓vmK, ↓trK, ↓reduceIte, Nat.zero_add]
 refine wc_focus [0, 5] rfl (hc := [wr (([u8 10] ++ [u8 (abF a b)]) ++ [u8 (abF c (scaleF z))]) 1, .rw (byC (([u8 10] ++ [u8 (abF a b)]) ++ [u8 (abF c (scaleF z))]))]) ⟨rfl, by simp only [rnB, rn_by]; rfl, trivial⟩ (args' := [.s (.p 0 0), .s (.a (.int .i64 ((4 : Nat) : Int))), .s (.a (.int .i64 i))]) rfl rfl (wnum (([u8 10] ++ [u8 (abF a b)]) ++ [u8 (abF c (scaleF z))]) i 4 _ (by simp) (by omega) ?_)
 simp only [rnO, rnP, mrg, setAll, rnB, rnS, ix, List.length_cons, List.length_nil, List.take_succ_cons, List.take_zero, List.take_nil, List.drop_succ_cons, List.drop_zero, List.drop_nil, List.map_cons, List.map_nil, List.getElem?_nil, List.getElem?_cons_zero, List.getElem?_cons_succ, List.set_cons_zero, List.set_cons_succ, List.cons_append, List.nil_append, List.append_nil, Nat.zero_add, Nat.reduceAdd, Nat.reduceSub, rn_by, wr]
 simp only [go_sem, ↓vmP2, ↓vmD, ↓vmK, ↓trK, ↓reduceIte, Nat.zero_add]
 exact ⟨[0, 6], [wr ((([u8 10] ++ [u8 (abF a b)]) ++ [u8 (abF c (scaleF z))]) ++ lows i 4) 1, .rw (byC ((([u8 10] ++ [u8 (abF a b)]) ++ [u8 (abF c (scaleF z))]) ++ lows i 4))], .t [], rfl, by simp, rfl, ⟨rfl, by simp only [rnB, rn_by]; rfl, trivial⟩, by simp [roOk, wr], rfl, c0⟩
set_option maxRecDepth 100000 in
set_option maxHeartbeats 16000000 in
theorem winst_11 (a b c k s z i m : Int) (K : Out → Hp → Prop) (c0 : K (.ret (.t [])) [wr ((([u8 11] ++ [u8 (abF a b)]) ++ [u8 (k)]) ++ lows i 4) 1, .rw (byC ((([u8 11] ++ [u8 (abF a b)]) ++ [u8 (k)]) ++ lows i 4))]) :
  WC Try.prog 78 [.s (.p 0 0), .g (iC 11 a b c k s z i m)] [.rw [.a (.slice none 0 0)]] K := by
 refine wc_pick ?_
 refine wc_intro Try.func78 rfl rfl (by kernel_rfl) (by simp [Try.f78]) ?_
 simp only [go_sem, ↓vmP2, ↓vmD, ↓vmK, ↓trK, ↓reduceIte, Try.f78, iC]
 refine least_wc _ _ _ ?_
 simp only [go_sem, ↓vmP2, ↓vmD, ↓vmK, ↓trK, ↓reduceIte]
 refine wreg2_sw 11 a b c k s z i m (leastF i) _ _ _ ⟨rfl, rfl, rfl, trivial⟩ (fun _ _ _ h => h) ?_
 simp only [go_sem, ↓vmP2, ↓vmD, ↓vmK, ↓trK, ↓reduceIte, iC]
 refine wc_focus [0, 2] rfl (hc := [.rw [.a (.slice none 0 0)], .rw [.a (.int .i64 11)]]) ⟨rfl, rfl, trivial⟩ (args' := [.s (.p 0 0), .s (.so 1 1 1 3)]) rfl rfl (wbyte0 _ _ ?_)
 simp only [rnO, rnP, mrg, setAll, rnB, rnS, ix, List.length_cons, List.length_nil, List.take_succ_cons, List.take_zero, List.take_nil, List.drop_succ_cons, List.drop_zero, List.drop_nil, List.map_cons, List.map_nil, List.getElem?_nil, List.getElem?_cons_zero, List.getElem?_cons_succ, List.set_cons_zero, List.set_cons_succ, List.cons_append, List.nil_append, List.append_nil, Nat.zero_add, Nat.reduceAdd, Nat.reduceSub, rn_by, wr]
 simp only [go_sem, ↓vmP2, ↓vmD, ↓vmK, ↓trK, ↓reduceIte, Nat.zero_add]
 refine wc_focus [0, 3, 4] rfl (hc := [wr [u8 11] 1, .rw (byC [u8 11]), .rw [.a (.int .i64 (abF a b)), .a (.int .i64 (k))]]) ⟨rfl, by simp only [rnB, rn_by]; rfl, rfl, trivial⟩ (args' := [.s (.p 0 0), .s (.so 2 2 1 3)]) rfl rfl (wbyte2 [u8 11] (abF a b) (k) _ (by simp) ?_)
 simp only [rnO, rnP, mrg, setAll, rnB, rnS, ix, List.length_cons, List.length_nil, List.take_succ_cons, List.take_zero, List.take_nil, List.drop_succ_cons, List.drop_zero, List.drop_nil, List.map_cons, List.map_nil, List.getElem?_nil, List.getElem?_cons_zero, List.getElem?_cons_succ, List.set_cons_zero, List.set_cons_succ, List.cons_append, List.nil_append, List.append_nil, Nat.zero_add, Nat.reduceAdd, Nat.reduceSub, rn_by, wr]
 simp only [go_sem, ↓vmP2, ↓vmD, ↓vmK, ↓trK, ↓reduceIte, Nat.zero_add]
 refine wc_focus [0, 5] rfl (hc := [wr (([u8 11] ++ [u8 (abF a b)]) ++ [u8 (k)]) 1, .rw (byC (([u8 11] ++ [u8 (abF a b)]) ++ [u8 (k)]))]) ⟨rfl, by simp only [rnB, rn_by]; rfl, trivial⟩ (args' := [.s (.p 0 0), .s (.a (.int .i64 ((4 : Nat) : Int))), .s (.a (.int .i64 i))]) rfl rfl (wnum (([u8 11] ++ [u8 (abF a b)]) ++ [u8 (k)]) i 4 _ (by simp) (by omega) ?_)
 simp only [rnO, rnP, mrg, setAll, rnB, rnS, ix, List.length_cons, List.length_nil, List.take_succ_cons, List.take_zero, List.take_nil, List.drop_succ_cons, List.drop_zero, List.drop_nil, List.map_cons, List.map_nil, List.getElem?_nil, List.getElem?_cons_zero, List.getElem?_cons_succ, List.set_cons_zero, List.set_cons_succ, List.cons_append, List.nil_append, List.append_nil, Nat.zero_add, Nat.reduceAdd, Nat.reduceSub, rn_by, wr]
 simp only [go_sem, ↓vmP2, ↓vmD, ↓vmK, ↓trK, ↓reduceIte, Nat.zero_add]
 exact ⟨[0, 6], [wr ((([u8 11] ++ [u8 (abF a b)]) ++ [u8 (k)]) ++ lows i 4) 1, .rw (byC ((([u8 11] ++ [u8 (abF a b)]) ++ [u8 (k)]) ++ lows i 4))], .t [], rfl, by simp, rfl, ⟨rfl, by simp only [rnB, rn_by]; rfl, trivial⟩, by simp [roOk, wr], rfl, c0⟩
set_option maxRecDepth 100000 in
set_option maxHeartbeats 16000000 in
theorem winst_13 (a b c k s z i m : Int) (K : Out → Hp → Prop) (c0 : K (.ret (.t [])) [wr ((([u8 13] ++ [u8 (abF a b)]) ++ [u8 (k)]) ++ lows i 4) 1, .rw (byC ((([u8 13] ++ [u8 (abF a b)]) ++ [u8 (k)]) ++ lows i 4))]) :
  WC Try.prog 78 [.s (.p 0 0), .g (iC 13 a b c k s z i m)] [.rw [.a (.slice none 0 0)]] K := by
 refine wc_pick ?_
 refine wc_intro Try.func78 rfl rfl (by kernel_rfl) (by simp [Try.f78]) ?_
 simp only [go_sem, ↓vmP2, ↓vmD, ↓vmK, ↓trK, ↓reduceIte, Try.f78, iC]
 refine least_wc _ _ _ ?_
 simp only [go_sem, ↓vmP2, ↓vmD, ↓vmK, ↓trK, ↓reduceIte]
 refine wreg2_sw 13 a b c k s z i m (leastF i) _ _ _ ⟨rfl, rfl, rfl, trivial⟩ (fun _ _ _ h => h) ?_
 simp only [go_sem, ↓vmP2, ↓vmD, ↓vmK, ↓trK, ↓reduceIte, iC]
 refine wc_focus [0, 2] rfl (hc := [.rw [.a (.slice none 0 0)], .rw [.a (.int .i64 13)]]) ⟨rfl, rfl, trivial⟩ (args' := [.s (.p 0 0), .s (.so 1 1 1 3)]) rfl rfl (wbyte0 _ _ ?_)
 simp only [rnO, rnP, mrg, setAll, rnB, rnS, ix, List.length_cons, List.length_nil, List.take_succ_cons, List.take_zero, List.take_nil, List.drop_succ_cons, List.drop_zero, List.drop_nil, List.map_cons, List.map_nil, List.getElem?_nil, List.getElem?_cons_zero, List.getElem?_cons_succ, List.set_cons_zero, List.set_cons_succ, List.cons_append, List.nil_append, List.append_nil, Nat.zero_add, Nat.reduceAdd, Nat.reduceSub, rn_by, wr]
 simp only [go_sem, ↓vmP2, ↓vmD, ↓vmK, ↓trK, ↓reduceIte, Nat.zero_add]
 refine wc_focus [0, 3, 4] rfl (hc := [wr [u8 13] 1, .rw (byC [u8 13]), .rw [.a (.int .i64 (abF a b)), .a (.int .i64 (k))]]) ⟨rfl, by simp only [rnB, rn_by]; rfl, rfl, trivial⟩ (args' := [.s (.p 0 0), .s (.so 2 2 1 3)]) rfl rfl (wbyte2 [u8 13] (abF a b) (k) _ (by simp) ?_)
 simp only [rnO, rnP, mrg, setAll, rnB, rnS, ix, List.length_cons, List.length_nil, List.take_succ_cons, List.take_zero, List.take_nil, List.drop_succ_cons, List.drop_zero, List.drop_nil, List.map_cons, List.map_nil, List.getElem?_nil, List.getElem?_cons_zero, List.getElem?_cons_succ, List.set_cons_zero, List.set_cons_succ, List.cons_append, List.nil_append, List.append_nil, Nat.zero_add, Nat.reduceAdd, Nat.reduceSub, rn_by, wr]
 simp only [go_sem, ↓vmP2, ↓vmD, ↓vmK, ↓trK, ↓reduceIte, Nat.zero_add]
 refine wc_focus [0, 5] rfl (hc := [wr (([u8 13] ++ [u8 (abF a b)]) ++ [u8 (k)]) 1, .rw (byC (([u8 13] ++ [u8 (abF a b)]) ++ [u8 (k)]))]) ⟨rfl, by simp only [rnB, rn_by]; rfl, trivial⟩ (args' := [.s (.p 0 0), .s (.a (.int .i64 ((4 : Nat) : Int))), .s (.a (.int .i64 i))]) rfl rfl (wnum (([u8 13] ++ [u8 (abF a b)]) ++ [u8 (k)]) i 4 _ (by simp) (by omega) ?_)
 simp only [rnO, rnP, mrg, setAll, rnB, rnS, ix, List.length_cons, List.length_nil, List.take_succ_cons, List.take_zero, List.take_nil, List.drop_succ_cons, List.drop_zero, List.drop_nil, List.map_cons, List.map_nil, List.getElem?_nil, List.getElem?_cons_zero, List.getElem?_cons_succ, List.set_cons_zero, List.set_cons_succ, List.cons_append, List.nil_append, List.append_nil, Nat.zero_add, Nat.reduceAdd, Nat.reduceSub, rn_by, wr]
 simp only [go_sem, ↓vmP2, ↓vmD, ↓vmK, ↓trK, ↓reduceIte, Nat.zero_add]
 exact ⟨[0, 6], [wr ((([u8 13] ++ [u8 (abF a b)]) ++ [u8 (k)]) ++ lows i 4) 1, .rw (byC ((([u8 13] ++ [u8 (abF a b)]) ++ [u8 (k)]) ++ lows i 4))], .t [], rfl, by simp, rfl, ⟨rfl, by simp only [rnB, rn_by]; rfl, trivial⟩, by simp [roOk, wr], rfl, c0⟩
set_option maxRecDepth 100000 in
set_option maxHeartbeats 16000000 in
theorem winst_12 (a b c k s z i m : Int) (K : Out → Hp → Prop) (c0 : K (.ret (.t [])) [wr (((([u8 12] ++ [u8 (abF a b)]) ++ [u8 (abF c (scaleF z))]) ++ [u8 (k)]) ++ lows i 4) 1, .rw (byC (((([u8 12] ++ [u8 (abF a b)]) ++ [u8 (abF c (scaleF z))]) ++ [u8 (k)]) ++ lows i 4))]) :
  WC Try.prog 78 [.s (.p 0 0), .g (iC 12 a b c k s z i m)] [.rw [.a (.slice none 0 0)]] K := by
 refine wc_pick ?_
 refine wc_intro Try.func78 rfl rfl (by kernel_rfl) (by simp [Try.f78]) ?_
 simp only [go_sem, ↓vmP2, ↓vmD, ↓vmK, ↓trK, ↓reduceIte, Try.f78, iC]
 refine least_wc _ _ _ ?_
 simp only [go_sem, ↓vmP2, ↓vmD, ↓vmK, ↓trK, ↓reduceIte]
 refine wreg2_sw 12 a b c k s z i m (leastF i) _ _ _ ⟨rfl, rfl, rfl, trivial⟩ (fun _ _ _ h => h) ?_
 simp only [go_sem, ↓vmP2, ↓vmD, ↓vmK, ↓trK, ↓reduceIte, iC]
 refine wc_focus [0, 2] rfl (hc := [.rw [.a (.slice none 0 0)], .rw [.a (.int .i64 12)]]) ⟨rfl, rfl, trivial⟩ (args' := [.s (.p 0 0), .s (.so 1 1 1 3)]) rfl rfl (wbyte0 _ _ ?_)
 simp only [rnO, rnP, mrg, setAll, rnB, rnS, ix, List.length_cons, List.length_nil, List.take_succ_cons, List.take_zero, List.take_nil, List.drop_succ_cons, List.drop_zero, List.drop_nil, List.map_cons, List.map_nil, List.getElem?_nil, List.getElem?_cons_zero, List.getElem?_cons_succ, List.set_cons_zero, List.set_cons_succ, List.cons_append, List.nil_append, List.append_nil, Nat.zero_add, Nat.reduceAdd, Nat.reduceSub, rn_by, wr]
 simp only [go_sem, ↓vmP2, ↓vmD, ↓vmK, ↓trK, ↓reduceIte, Nat.zero_add]
 refine wc_focus [0, 3, 4] rfl (hc := [wr [u8 12] 1, .rw (byC [u8 12]), .rw [.a (.int .i64 (abF a b)), .a (.int .i64 (abF c (scaleF z))), .a (.int .i64 (k))]]) ⟨rfl, by simp only [rnB, rn_by]; rfl, rfl, trivial⟩ (args' := [.s (.p 0 0), .s (.so 2 3 1 3)]) rfl rfl (wbyte3 [u8 12] (abF a b) (abF c (scaleF z)) (k) _ (by simp) ?_)
 simp only [rnO, rnP, mrg, setAll, rnB, rnS, ix, List.length_cons, List.length_nil, List.take_succ_cons, List.take_zero, List.take_nil, List.drop_succ_cons, List.drop_zero, List.drop_nil, List.map_cons, List.map_nil, List.getElem?_nil, List.getElem?_cons_zero, List.getElem?_cons_succ, List.set_cons_zero, List.set_cons_succ, List.cons_append, List.nil_append, List.append_nil, Nat.zero_add, Nat.reduceAdd, Nat.reduceSub, rn_by, wr]
 simp only [go_sem, ↓vmP2, ↓vmD, ↓vmK, ↓trK, ↓reduceIte, Nat.zero_add]
 refine wc_focus [0, 5] rfl (hc := [wr ((([u8 12] ++ [u8 (abF a b)]) ++ [u8 (abF c (scaleF z))]) ++ [u8 (k)]) 1, .rw (byC ((([u8 12] ++ [u8 (abF a b)]) ++ [u8 (abF c (scaleF z))]) ++ [u8 (k)]))]) ⟨rfl, by simp only [rnB, rn_by]; rfl, trivial⟩ (args' := [.s (.p 0 0), .s (.a (.int .i64 ((4 : Nat) : Int))), .s (.a (.int .i64 i))]) rfl rfl (wnum ((([u8 12] ++ [u8 (abF a b)]) ++ [u8 (abF c (scaleF z))]) ++ [u8 (k)]) i 4 _ (by simp) (by omega) ?_)
 simp only [rnO, rnP, mrg, setAll, rnB, rnS, ix, List.length_cons, List.length_nil, List.take_succ_cons, List.take_zero, List.take_nil, List.drop_succ_cons, List.drop_zero, List.drop_nil, List.map_cons, List.map_nil, List.getElem?_nil, List.getElem?_cons_zero, List.getElem?_cons_succ, List.set_cons_zero, List.set_cons_succ, List.cons_append, List.nil_append, List.append_nil, Nat.zero_add, Nat.reduceAdd, Nat.reduceSub, rn_by, wr]
 simp only [go_sem, ↓vmP2, ↓vmD, ↓vmK, ↓trK, ↓reduceIte, Nat.zero_add]
 exact ⟨[0, 6], [wr (((([u8 12] ++ [u8 (abF a b)]) ++ [u8 (abF c (scaleF z))]) ++ [u8 (k)]) ++ lows i 4) 1, .rw (byC (((([u8 12] ++ [u8 (abF a b)]) ++ [u8 (abF c (scaleF z))]) ++ [u8 (k)]) ++ lows i 4))], .t [], rfl, by simp, rfl, ⟨rfl, by simp only [rnB, rn_by]; rfl, trivial⟩, by simp [roOk, wr], rfl, c0⟩
set_option maxRecDepth 100000 in
set_option maxHeartbeats 16000000 in
theorem winst_14 (a b c k s z i m : Int) (K : Out → Hp → Prop) (c0 : K (.ret (.t [])) [wr (((([u8 14] ++ [u8 (abF a b)]) ++ [u8 (abF c (scaleF z))]) ++ [u8 (k)]) ++ lows i 4) 1, .rw (byC (((([u8 14] ++ [u8 (abF a b)]) ++ [u8 (abF c (scaleF z))]) ++ [u8 (k)]) ++ lows i 4))]) :
  WC Try.prog 78 [.s (.p 0 0), .g (iC 14 a b c k s z i m)] [.rw [.a (.slice none 0 0)]] K := by
 refine wc_pick ?_
 refine wc_intro Try.func78 rfl rfl (by kernel_rfl) (by simp [Try.f78]) ?_
 simp only [go_sem, ↓vmP2, ↓vmD, ↓vmK, ↓trK, ↓reduceIte, Try.f78, iC]
 refine least_wc _ _ _ ?_
 simp only [go_sem, ↓vmP2, ↓vmD, ↓vmK, ↓trK, ↓reduceIte]
 refine wreg2_sw 14 a b c k s z i m (leastF i) _ _ _ ⟨rfl, rfl, rfl, trivial⟩ (fun _ _ _ h => h) ?_
 simp only [go_sem, ↓vmP2, ↓vmD, ↓vmK, ↓trK, ↓reduceIte, iC]
 refine wc_focus [0, 2] rfl (hc := [.rw [.a (.slice none 0 0)], .rw [.a (.int .i64 14)]]) ⟨rfl, rfl, trivial⟩ (args' := [.s (.p 0 0), .s (.so 1 1 1 3)]) rfl rfl (wbyte0 _ _ ?_)
 simp only [rnO, rnP, mrg, setAll, rnB, rnS, ix, List.length_cons, List.length_nil, List.take_succ_cons, List.take_zero, List.take_nil, List.drop_succ_cons, List.drop_zero, List.drop_nil, List.map_cons, List.map_nil, List.getElem?_nil, List.getElem?_cons_zero, List.getElem?_cons_succ, List.set_cons_zero, List.set_cons_succ, List.cons_append, List.nil_append, List.append_nil, Nat.zero_add, Nat.reduceAdd, Nat.reduceSub, rn_by, wr]
 simp only [go_sem, ↓vmP2, ↓vmD, ↓vmK, ↓trK, ↓reduceIte, Nat.zero_add]
 refine wc_focus [0, 3, 4] rfl (hc := [wr [u8 14] 1, .rw (byC [u8 14]), .rw [.a (.int .i64 (abF a b)), .a (.int .i64 (abF c (scaleF z))), .a (.int .i64 (k))]]) ⟨rfl, by simp only [rnB, rn_by]; rfl, rfl, trivial⟩ (args' := [.s (.p 0 0), .s (.so 2 3 1 3)]) rfl rfl (wbyte3 [u8 14] (abF a b) (abF c (scaleF z)) (k) _ (by simp) ?_)
 simp only [rnO, rnP, mrg, setAll, rnB, rnS, ix, List.length_cons, List.length_nil, List.take_succ_cons, List.take_zero, List.take_nil, List.drop_succ_cons, List.drop_zero, List.drop_nil, List.map_cons, List.map_nil, List.getElem?_nil, List.getElem?_cons_zero, List.getElem?_cons_succ, List.set_cons_zero, List.set_cons_succ, List.cons_append, List.nil_append, List.append_nil, Nat.zero_add, Nat.reduceAdd, Nat.reduceSub, rn_by, wr]
 simp only [go_sem, ↓vmP2, ↓vmD, ↓vmK, ↓trK, ↓reduceIte, Nat.zero_add]
 refine wc_focus [0, 5] rfl (hc := [wr ((([u8 14] ++ [u8 (abF a b)]) ++ [u8 (abF c (scaleF z))]) ++ [u8 (k)]) 1, .rw (byC ((([u8 14] ++ [u8 (abF a b)]) ++ [u8 (abF c (scaleF z))]) ++ [u8 (k)]))]) ⟨rfl, by simp only [rnB, rn_by]; rfl, trivial⟩ (args' := [.s (.p 0 0), .s (.a (.int .i64 ((4 : Nat) : Int))), .s (.a (.int .i64 i))]) rfl rfl (wnum ((([u8 14] ++ [u8 (abF a b)]) ++ [u8 (abF c (scaleF z))]) ++ [u8 (k)]) i 4 _ (by simp) (by omega) ?_)
 simp only [rnO, rnP, mrg, setAll, rnB, rnS, ix, List.length_cons, List.length_nil, List.take_succ_cons, List.take_zero, List.take_nil, List.drop_succ_cons, List.drop_zero, List.drop_nil, List.map_cons, List.map_nil, List.getElem?_nil, List.getElem?_cons_zero, List.getElem?_cons_succ, List.set_cons_zero, List.set_cons_succ, List.cons_append, List.nil_append, List.append_nil, Nat.zero_add, Nat.reduceAdd, Nat.reduceSub, rn_by, wr]
 simp only [go_sem, ↓vmP2, ↓vmD, ↓vmK, ↓trK, ↓reduceIte, Nat.zero_add]
 exact ⟨[0, 6], [wr (((([u8 14] ++ [u8 (abF a b)]) ++ [u8 (abF c (scaleF z))]) ++ [u8 (k)]) ++ lows i 4) 1, .rw (byC (((([u8 14] ++ [u8 (abF a b)]) ++ [u8 (abF c (scaleF z))]) ++ [u8 (k)]) ++ lows i 4))], .t [], rfl, by simp, rfl, ⟨rfl, by simp only [rnB, rn_by]; rfl, trivial⟩, by simp [roOk, wr], rfl, c0⟩
set_option maxRecDepth 100000 in
set_option maxHeartbeats 16000000 in
theorem winst_15 (a b c k s z i m : Int) (K : Out → Hp → Prop) (c0 : K (.ret (.t [])) [wr (([u8 15] ++ [u8 (abF a b)]) ++ [u8 (s)]) 1, .rw (byC (([u8 15] ++ [u8 (abF a b)]) ++ [u8 (s)]))]) :
  WC Try.prog 78 [.s (.p 0 0), .g (iC 15 a b c k s z i m)] [.rw [.a (.slice none 0 0)]] K := by
 refine wc_pick ?_
 refine wc_intro Try.func78 rfl rfl (by kernel_rfl) (by simp [Try.f78]) ?_
 simp only [go_sem, ↓vmP2, ↓vmD, ↓vmK, ↓trK, ↓reduceIte, Try.f78, iC]
 refine least_wc _ _ _ ?_
 simp only [go_sem, ↓vmP2, ↓vmD, ↓vmK, ↓trK, ↓reduceIte]
 refine wreg2_sw 15 a b c k s z i m (leastF i) _ _ _ ⟨rfl, rfl, rfl, trivial⟩ (fun _ _ _ h => h) ?_
 simp only [go_sem, ↓vmP2, ↓vmD, ↓vmK, ↓trK, ↓reduceIte, iC]
 refine wc_focus [0, 2] rfl (hc := [.rw [.a (.slice none 0 0)], .rw [.a (.int .i64 15)]]) ⟨rfl, rfl, trivial⟩ (args' := [.s (.p 0 0), .s (.so 1 1 1 3)]) rfl rfl (wbyte0 _ _ ?_)
 simp only [rnO, rnP, mrg, setAll, rnB, rnS, ix, List.length_cons, List.length_nil, List.take_succ_cons, List.take_zero, List.take_nil, List.drop_succ_cons, List.drop_zero, List.drop_nil, List.map_cons, List.map_nil, List.getElem?_nil, List.getElem?_cons_zero, List.getElem?_cons_succ, List.set_cons_zero, List.set_cons_succ, List.cons_append, List.nil_append, List.append_nil, Nat.zero_add, Nat.reduceAdd, Nat.reduceSub, rn_by, wr]
 simp only [go_sem, ↓vmP2, ↓vmD, ↓vmK, ↓trK, ↓reduceIte, Nat.zero_add]
 refine wc_focus [0, 3, 4] rfl (hc := [wr [u8 15] 1, .rw (byC [u8 15]), .rw [.a (.int .i64 (abF a b)), .a (.int .i64 (s))]]) ⟨rfl, by simp only [rnB, rn_by]; rfl, rfl, trivial⟩ (args' := [.s (.p 0 0), .s (.so 2 2 1 3)]) rfl rfl (wbyte2 [u8 15] (abF a b) (s) _ (by simp) ?_)
 simp only [rnO, rnP, mrg, setAll, rnB, rnS, ix, List.length_cons, List.length_nil, List.take_succ_cons, List.take_zero, List.take_nil, List.drop_succ_cons, List.drop_zero, List.drop_nil, List.map_cons, List.map_nil, List.getElem?_nil, List.getElem?_cons_zero, List.getElem?_cons_succ, List.set_cons_zero, List.set_cons_succ, List.cons_append, List.nil_append, List.append_nil, Nat.zero_add, Nat.reduceAdd, Nat.reduceSub, rn_by, wr]
 simp only [go_sem, ↓vmP2, ↓vmD, ↓vmK, ↓trK, ↓reduceIte, Nat.zero_add]
 exact ⟨[0, 5], [wr (([u8 15] ++ [u8 (abF a b)]) ++ [u8 (s)]) 1, .rw (byC (([u8 15] ++ [u8 (abF a b)]) ++ [u8 (s)]))], .t [], rfl, by simp, rfl, ⟨rfl, by simp only [rnB, rn_by]; rfl, trivial⟩, by simp [roOk, wr], rfl, c0⟩
set_option maxRecDepth 100000 in
set_option maxHeartbeats 16000000 in
theorem winst_18 (a b c k s z i m : Int) (K : Out → Hp → Prop) (c0 : K (.ret (.t [])) [wr (([u8 18] ++ [u8 (abF a b)]) ++ [u8 (s)]) 1, .rw (byC (([u8 18] ++ [u8 (abF a b)]) ++ [u8 (s)]))]) :
  WC Try.prog 78 [.s (.p 0 0), .g (iC 18 a b c k s z i m)] [.rw [.a (.slice none 0 0)]] K := by
 refine wc_pick ?_
 refine wc_intro Try.func78 rfl rfl (by kernel_rfl) (by simp [Try.f78]) ?_
 simp only [go_sem, ↓vmP2, ↓vmD, ↓vmK, ↓trK, ↓reduceIte, Try.f78, iC]
 refine least_wc _ _ _ ?_
 simp only [go_sem, ↓vmP2, ↓vmD, ↓vmK, ↓trK, ↓reduceIte]
 refine wreg2_sw 18 a b c k s z i m (leastF i) _ _ _ ⟨rfl, rfl, rfl, trivial⟩ (fun _ _ _ h => h) ?_
 simp only [go_sem, ↓vmP2, ↓vmD, ↓vmK, ↓trK, ↓reduceIte, iC]
 refine wc_focus [0, 2] rfl (hc := [.rw [.a (.slice none 0 0)], .rw [.a (.int .i64 18)]]) ⟨rfl, rfl, trivial⟩ (args' := [.s (.p 0 0), .s (.so 1 1 1 3)]) rfl rfl (wbyte0 _ _ ?_)
 simp only [rnO, rnP, mrg, setAll, rnB, rnS, ix, List.length_cons, List.length_nil, List.take_succ_cons, List.take_zero, List.take_nil, List.drop_succ_cons, List.drop_zero, List.drop_nil, List.map_cons, List.map_nil, List.getElem?_nil, List.getElem?_cons_zero, List.getElem?_cons_succ, List.set_cons_zero, List.set_cons_succ, List.cons_append, List.nil_append, List.append_nil, Nat.zero_add, Nat.reduceAdd, Nat.reduceSub, rn_by, wr]
 simp only [go_sem, ↓vmP2, ↓vmD, ↓vmK, ↓trK, ↓reduceIte, Nat.zero_add]
 refine wc_focus [0, 3, 4] rfl (hc := [wr [u8 18] 1, .rw (byC [u8 18]), .rw [.a (.int .i64 (abF a b)), .a (.int .i64 (s))]]) ⟨rfl, by simp only [rnB, rn_by]; rfl, rfl, trivial⟩ (args' := [.s (.p 0 0), .s (.so 2 2 1 3)]) rfl rfl (wbyte2 [u8 18] (abF a b) (s) _ (by simp) ?_)
 simp only [rnO, rnP, mrg, setAll, rnB, rnS, ix, List.length_cons, List.length_nil, List.take_succ_cons, List.take_zero, List.take_nil, List.drop_succ_cons, List.drop_zero, List.drop_nil, List.map_cons, List.map_nil, List.getElem?_nil, List.getElem?_cons_zero, List.getElem?_cons_succ, List.set_cons_zero, List.set_cons_succ, List.cons_append, List.nil_append, List.append_nil, Nat.zero_add, Nat.reduceAdd, Nat.reduceSub, rn_by, wr]
 simp only [go_sem, ↓vmP2, ↓vmD, ↓vmK, ↓trK, ↓reduceIte, Nat.zero_add]
 exact ⟨[0, 5], [wr (([u8 18] ++ [u8 (abF a b)]) ++ [u8 (s)]) 1, .rw (byC (([u8 18] ++ [u8 (abF a b)]) ++ [u8 (s)]))], .t [], rfl, by simp, rfl, ⟨rfl, by simp only [rnB, rn_by]; rfl, trivial⟩, by simp [roOk, wr], rfl, c0⟩
set_option maxRecDepth 100000 in
set_option maxHeartbeats 16000000 in
theorem winst_16 (a b c k s z i m : Int) (K : Out → Hp → Prop) (c0 : K (.ret (.t [])) [wr (([u8 16] ++ [u8 (abF a b)]) ++ [u8 (k)]) 1, .rw (byC (([u8 16] ++ [u8 (abF a b)]) ++ [u8 (k)]))]) :
  WC Try.prog 78 [.s (.p 0 0), .g (iC 16 a b c k s z i m)] [.rw [.a (.slice none 0 0)]] K := by
 refine wc_pick ?_
 refine wc_intro Try.func78 rfl rfl (by kernel_rfl) (by simp [Try.f78]) ?_
 simp only [go_sem, ↓vmP2, ↓vmD, ↓vmK, ↓trK, ↓reduceIte, Try.f78, iC]
 refine least_wc _ _ _ ?_
 simp only [go_sem, ↓vmP2, ↓vmD, ↓vmK, ↓trK, ↓reduceIte]
 refine wreg2_sw 16 a b c k s z i m (leastF i) _ _ _ ⟨rfl, rfl, rfl, trivial⟩ (fun _ _ _ h => h) ?_
 simp only [go_sem, ↓vmP2, ↓vmD, ↓vmK, ↓trK, ↓reduceIte, iC]
 refine wc_focus [0, 2] rfl (hc := [.rw [.a (.slice none 0 0)], .rw [.a (.int .i64 16)]]) ⟨rfl, rfl, trivial⟩ (args' := [.s (.p 0 0), .s (.so 1 1 1 3)]) rfl rfl (wbyte0 _ _ ?_)
 simp only [rnO, rnP, mrg, setAll, rnB, rnS, ix, List.length_cons, List.length_nil, List.take_succ_cons, List.take_zero, List.take_nil, List.drop_succ_cons, List.drop_zero, List.drop_nil, List.map_cons, List.map_nil, List.getElem?_nil, List.getElem?_cons_zero, List.getElem?_cons_succ, List.set_cons_zero, List.set_cons_succ, List.cons_append, List.nil_append, List.append_nil, Nat.zero_add, Nat.reduceAdd, Nat.reduceSub, rn_by, wr]
 simp only [go_sem, ↓vmP2, ↓vmD, ↓vmK, ↓trK, ↓reduceIte, Nat.zero_add]
 refine wc_focus [0, 3, 4] rfl (hc := [wr [u8 16] 1, .rw (byC [u8 16]), .rw [.a (.int .i64 (abF a b)), .a (.int .i64 (k))]]) ⟨rfl, by simp only [rnB, rn_by]; rfl, rfl, trivial⟩ (args' := [.s (.p 0 0), .s (.so 2 2 1 3)]) rfl rfl (wbyte2 [u8 16] (abF a b) (k) _ (by simp) ?_)
 simp only [rnO, rnP, mrg, setAll, rnB, rnS, ix, List.length_cons, List.length_nil, List.take_succ_cons, List.take_zero, List.take_nil, List.drop_succ_cons, List.drop_zero, List.drop_nil, List.map_cons, List.map_nil, List.getElem?_nil, List.getElem?_cons_zero, List.getElem?_cons_succ, List.set_cons_zero, List.set_cons_succ, List.cons_append, List.nil_append, List.append_nil, Nat.zero_add, Nat.reduceAdd, Nat.reduceSub, rn_by, wr]
 simp only [go_sem, ↓vmP2, ↓vmD, ↓vmK, ↓trK, ↓reduceIte, Nat.zero_add]
 exact ⟨[0, 5], [wr (([u8 16] ++ [u8 (abF a b)]) ++ [u8 (k)]) 1, .rw (byC (([u8 16] ++ [u8 (abF a b)]) ++ [u8 (k)]))], .t [], rfl, by simp, rfl, ⟨rfl, by simp only [rnB, rn_by]; rfl, trivial⟩, by simp [roOk, wr], rfl, c0⟩
set_option maxRecDepth 100000 in
set_option maxHeartbeats 16000000 in
theorem winst_17 (a b c k s z i m : Int) (K : Out → Hp → Prop) (c0 : K (.ret (.t [])) [wr ((([u8 17] ++ [u8 (abF a (leastF i))]) ++ [u8 (k)]) ++ lows i (bytesF (leastF i))) 1, .rw (byC ((([u8 17] ++ [u8 (abF a (leastF i))]) ++ [u8 (k)]) ++ lows i (bytesF (leastF i))))]) :
  WC Try.prog 78 [.s (.p 0 0), .g (iC 17 a b c k s z i m)] [.rw [.a (.slice none 0 0)]] K := by
 refine wc_pick ?_
 refine wc_intro Try.func78 rfl rfl (by kernel_rfl) (by simp [Try.f78]) ?_
 simp only [go_sem, ↓vmP2, ↓vmD, ↓vmK, ↓trK, ↓reduceIte, Try.f78, iC]
 refine least_wc _ _ _ ?_
 simp only [go_sem, ↓vmP2, ↓vmD, ↓vmK, ↓trK, ↓reduceIte]
 refine wreg2_sw 17 a b c k s z i m (leastF i) _ _ _ ⟨rfl, rfl, rfl, trivial⟩ (fun _ _ _ h => h) ?_
 simp only [go_sem, ↓vmP2, ↓vmD, ↓vmK, ↓trK, ↓reduceIte, iC]
 refine wc_focus [0, 2] rfl (hc := [.rw [.a (.slice none 0 0)], .rw [.a (.int .i64 17)]]) ⟨rfl, rfl, trivial⟩ (args' := [.s (.p 0 0), .s (.so 1 1 1 3)]) rfl rfl (wbyte0 _ _ ?_)
 simp only [rnO, rnP, mrg, setAll, rnB, rnS, ix, List.length_cons, List.length_nil, List.take_succ_cons, List.take_zero, List.take_nil, List.drop_succ_cons, List.drop_zero, List.drop_nil, List.map_cons, List.map_nil, List.getElem?_nil, List.getElem?_cons_zero, List.getElem?_cons_succ, List.set_cons_zero, List.set_cons_succ, List.cons_append, List.nil_append, List.append_nil, Nat.zero_add, Nat.reduceAdd, Nat.reduceSub, rn_by, wr]
 simp only [go_sem, ↓vmP2, ↓vmD, ↓vmK, ↓trK, ↓reduceIte, Nat.zero_add]
 refine wc_focus [0, 3, 4] rfl (hc := [wr [u8 17] 1, .rw (byC [u8 17]), .rw [.a (.int .i64 (abF a (leastF i))), .a (.int .i64 (k))]]) ⟨rfl, by simp only [rnB, rn_by]; rfl, rfl, trivial⟩ (args' := [.s (.p 0 0), .s (.so 2 2 1 3)]) rfl rfl (wbyte2 [u8 17] (abF a (leastF i)) (k) _ (by simp) ?_)
 simp only [rnO, rnP, mrg, setAll, rnB, rnS, ix, List.length_cons, List.length_nil, List.take_succ_cons, List.take_zero, List.take_nil, List.drop_succ_cons, List.drop_zero, List.drop_nil, List.map_cons, List.map_nil, List.getElem?_nil, List.getElem?_cons_zero, List.getElem?_cons_succ, List.set_cons_zero, List.set_cons_succ, List.cons_append, List.nil_append, List.append_nil, Nat.zero_add, Nat.reduceAdd, Nat.reduceSub, rn_by, wr]
 simp only [go_sem, ↓vmP2, ↓vmD, ↓vmK, ↓trK, ↓reduceIte, Nat.zero_add]
 refine sw_draw (.take 0 (.take 1 (.take 3 (.all [(2, .all [(4, .all [(5, .done)])]), (4, .all [(2, .all [(5, .done)])])])))) mo (by kernel_rfl) (by kernel_rfl) (by kernel_rfl) (fun _ _ _ h => h) ?_
 simp only [go_sem, ↓vmP2, ↓vmD, ↓vmK, ↓trK, ↓reduceIte]
 refine ⟨?_, ?_⟩
 all_goals
  refine bytes_wc _ (least_3 i) _ _ ?_
  simp only [go_sem, ↓vmP2, ↓vmD, ↓vmK, ↓trK, ↓reduceIte]
  refine wc_focus [0, 5] rfl (hc := [wr (([u8 17] ++ [u8 (abF a (leastF i))]) ++ [u8 (k)]) 1, .rw (byC (([u8 17] ++ [u8 (abF a (leastF i))]) ++ [u8 (k)]))]) ⟨rfl, by simp only [rnB, rn_by]; rfl, trivial⟩ (args' := [.s (.p 0 0), .s (.a (.int .i64 (((bytesF (leastF i)) : Nat) : Int))), .s (.a (.int .i64 i))]) rfl rfl (wnum (([u8 17] ++ [u8 (abF a (leastF i))]) ++ [u8 (k)]) i (bytesF (leastF i)) _ (by simp) ⟨bF_ge _, bF_le _⟩ ?_)
  simp only [rnO, rnP, mrg, setAll, rnB, rnS, ix, List.length_cons, List.length_nil, List.take_succ_cons, List.take_zero, List.take_nil, List.drop_succ_cons, List.drop_zero, List.drop_nil, List.map_cons, List.map_nil, List.getElem?_nil, List.getElem?_cons_zero, List.getElem?_cons_succ, List.set_cons_zero, List.set_cons_succ, List.cons_append, List.nil_append, List.append_nil, Nat.zero_add, Nat.reduceAdd, Nat.reduceSub, rn_by, wr]
  simp only [go_sem, ↓vmP2, ↓vmD, ↓vmK, ↓trK, ↓reduceIte, Nat.zero_add]
  exact ⟨[0, 6], [wr ((([u8 17] ++ [u8 (abF a (leastF i))]) ++ [u8 (k)]) ++ lows i (bytesF (leastF i))) 1, .rw (byC ((([u8 17] ++ [u8 (abF a (leastF i))]) ++ [u8 (k)]) ++ lows i (bytesF (leastF i))))], .t [], rfl, by simp, rfl, ⟨rfl, by simp only [rnB, rn_by]; rfl, trivial⟩, by simp [roOk, wr], rfl, c0⟩
set_option maxRecDepth 100000 in
set_option maxHeartbeats 16000000 in
theorem winst_19 (a b c k s z i m : Int) (K : Out → Hp → Prop) (c0 : K (.ret (.t [])) [wr (([u8 19] ++ [u8 (leastF i)]) ++ lows i (bytesF (leastF i))) 1, .rw (byC (([u8 19] ++ [u8 (leastF i)]) ++ lows i (bytesF (leastF i))))]) :
  WC Try.prog 78 [.s (.p 0 0), .g (iC 19 a b c k s z i m)] [.rw [.a (.slice none 0 0)]] K := by
 refine wc_pick ?_
 refine wc_intro Try.func78 rfl rfl (by kernel_rfl) (by simp [Try.f78]) ?_
 simp only [go_sem, ↓vmP2, ↓vmD, ↓vmK, ↓trK, ↓reduceIte, Try.f78, iC]
 refine least_wc _ _ _ ?_
 simp only [go_sem, ↓vmP2, ↓vmD, ↓vmK, ↓trK, ↓reduceIte]
 refine wreg2_sw 19 a b c k s z i m (leastF i) _ _ _ ⟨rfl, rfl, rfl, trivial⟩ (fun _ _ _ h => h) ?_
 simp only [go_sem, ↓vmP2, ↓vmD, ↓vmK, ↓trK, ↓reduceIte, iC]
 refine wc_focus [0, 2] rfl (hc := [.rw [.a (.slice none 0 0)], .rw [.a (.int .i64 19)]]) ⟨rfl, rfl, trivial⟩ (args' := [.s (.p 0 0), .s (.so 1 1 1 3)]) rfl rfl (wbyte0 _ _ ?_)
 simp only [rnO, rnP, mrg, setAll, rnB, rnS, ix, List.length_cons, List.length_nil, List.take_succ_cons, List.take_zero, List.take_nil, List.drop_succ_cons, List.drop_zero, List.drop_nil, List.map_cons, List.map_nil, List.getElem?_nil, List.getElem?_cons_zero, List.getElem?_cons_succ, List.set_cons_zero, List.set_cons_succ, List.cons_append, List.nil_append, List.append_nil, Nat.zero_add, Nat.reduceAdd, Nat.reduceSub, rn_by, wr]
 simp only [go_sem, ↓vmP2, ↓vmD, ↓vmK, ↓trK, ↓reduceIte, Nat.zero_add]
 refine wc_focus [0, 3, 4] rfl (hc := [wr [u8 19] 1, .rw (byC [u8 19]), .rw [.a (.int .i64 (leastF i))]]) ⟨rfl, by simp only [rnB, rn_by]; rfl, rfl, trivial⟩ (args' := [.s (.p 0 0), .s (.so 2 1 1 3)]) rfl rfl (wbyte1 [u8 19] (leastF i) _ (by simp) ?_)
 simp only [rnO, rnP, mrg, setAll, rnB, rnS, ix, List.length_cons, List.length_nil, List.take_succ_cons, List.take_zero, List.take_nil, List.drop_succ_cons, List.drop_zero, List.drop_nil, List.map_cons, List.map_nil, List.getElem?_nil, List.getElem?_cons_zero, List.getElem?_cons_succ, List.set_cons_zero, List.set_cons_succ, List.cons_append, List.nil_append, List.append_nil, Nat.zero_add, Nat.reduceAdd, Nat.reduceSub, rn_by, wr]
 simp only [go_sem, ↓vmP2, ↓vmD, ↓vmK, ↓trK, ↓reduceIte, Nat.zero_add]
 refine sw_draw (.take 0 (.take 1 (.take 3 (.all [(2, .all [(4, .all [(5, .done)])]), (4, .all [(2, .all [(5, .done)])])])))) mo (by kernel_rfl) (by kernel_rfl) (by kernel_rfl) (fun _ _ _ h => h) ?_
 simp only [go_sem, ↓vmP2, ↓vmD, ↓vmK, ↓trK, ↓reduceIte]
 refine ⟨?_, ?_⟩
 all_goals
  refine bytes_wc _ (least_3 i) _ _ ?_
  simp only [go_sem, ↓vmP2, ↓vmD, ↓vmK, ↓trK, ↓reduceIte]
  refine wc_focus [0, 5] rfl (hc := [wr ([u8 19] ++ [u8 (leastF i)]) 1, .rw (byC ([u8 19] ++ [u8 (leastF i)]))]) ⟨rfl, by simp only [rnB, rn_by]; rfl, trivial⟩ (args' := [.s (.p 0 0), .s (.a (.int .i64 (((bytesF (leastF i)) : Nat) : Int))), .s (.a (.int .i64 i))]) rfl rfl (wnum ([u8 19] ++ [u8 (leastF i)]) i (bytesF (leastF i)) _ (by simp) ⟨bF_ge _, bF_le _⟩ ?_)
  simp only [rnO, rnP, mrg, setAll, rnB, rnS, ix, List.length_cons, List.length_nil, List.take_succ_cons, List.take_zero, List.take_nil, List.drop_succ_cons, List.drop_zero, List.drop_nil, List.map_cons, List.map_nil, List.getElem?_nil, List.getElem?_cons_zero, List.getElem?_cons_succ, List.set_cons_zero, List.set_cons_succ, List.cons_append, List.nil_append, List.append_nil, Nat.zero_add, Nat.reduceAdd, Nat.reduceSub, rn_by, wr]
  simp only [go_sem, ↓vmP2, ↓vmD, ↓vmK, ↓trK, ↓reduceIte, Nat.zero_add]
  exact ⟨[0, 6], [wr (([u8 19] ++ [u8 (leastF i)]) ++ lows i (bytesF (leastF i))) 1, .rw (byC (([u8 19] ++ [u8 (leastF i)]) ++ lows i (bytesF (leastF i))))], .t [], rfl, by simp, rfl, ⟨rfl, by simp only [rnB, rn_by]; rfl, trivial⟩, by simp [roOk, wr], rfl, c0⟩
set_option maxRecDepth 100000 in
set_option maxHeartbeats 16000000 in
theorem winst_22 (a b c k s z i m : Int) (K : Out → Hp → Prop) (c0 : K (.ret (.t [])) [wr (([u8 22] ++ [u8 (abF (IntKind.i64.wrap (s - 11)) (leastF i))]) ++ lows i (bytesF (leastF i))) 1, .rw (byC (([u8 22] ++ [u8 (abF (IntKind.i64.wrap (s - 11)) (leastF i))]) ++ lows i (bytesF (leastF i))))]) :
  WC Try.prog 78 [.s (.p 0 0), .g (iC 22 a b c k s z i m)] [.rw [.a (.slice none 0 0)]] K := by
 refine wc_pick ?_
 refine wc_intro Try.func78 rfl rfl (by kernel_rfl) (by simp [Try.f78]) ?_
 simp only [go_sem, ↓vmP2, ↓vmD, ↓vmK, ↓trK, ↓reduceIte, Try.f78, iC]
 refine least_wc _ _ _ ?_
 simp only [go_sem, ↓vmP2, ↓vmD, ↓vmK, ↓trK, ↓reduceIte]
 refine wreg2_sw 22 a b c k s z i m (leastF i) _ _ _ ⟨rfl, rfl, rfl, trivial⟩ (fun _ _ _ h => h) ?_
 simp only [go_sem, ↓vmP2, ↓vmD, ↓vmK, ↓trK, ↓reduceIte, iC]
 refine wc_focus [0, 2] rfl (hc := [.rw [.a (.slice none 0 0)], .rw [.a (.int .i64 22)]]) ⟨rfl, rfl, trivial⟩ (args' := [.s (.p 0 0), .s (.so 1 1 1 3)]) rfl rfl (wbyte0 _ _ ?_)
 simp only [rnO, rnP, mrg, setAll, rnB, rnS, ix, List.length_cons, List.length_nil, List.take_succ_cons, List.take_zero, List.take_nil, List.drop_succ_cons, List.drop_zero, List.drop_nil, List.map_cons, List.map_nil, List.getElem?_nil, List.getElem?_cons_zero, List.getElem?_cons_succ, List.set_cons_zero, List.set_cons_succ, List.cons_append, List.nil_append, List.append_nil, Nat.zero_add, Nat.reduceAdd, Nat.reduceSub, rn_by, wr]
 simp only [go_sem, ↓vmP2, ↓vmD, ↓vmK, ↓trK, ↓reduceIte, Nat.zero_add]
 refine wc_focus [0, 3, 4] rfl (hc := [wr [u8 22] 1, .rw (byC [u8 22]), .rw [.a (.int .i64 (abF (IntKind.i64.wrap (s - 11)) (leastF i)))]]) ⟨rfl, by simp only [rnB, rn_by]; rfl, rfl, trivial⟩ (args' := [.s (.p 0 0), .s (.so 2 1 1 3)]) rfl rfl (wbyte1 [u8 22] (abF (IntKind.i64.wrap (s - 11)) (leastF i)) _ (by simp) ?_)
 simp only [rnO, rnP, mrg, setAll, rnB, rnS, ix, List.length_cons, List.length_nil, List.take_succ_cons, List.take_zero, List.take_nil, List.drop_succ_cons, List.drop_zero, List.drop_nil, List.map_cons, List.map_nil, List.getElem?_nil, List.getElem?_cons_zero, List.getElem?_cons_succ, List.set_cons_zero, List.set_cons_succ, List.cons_append, List.nil_append, List.append_nil, Nat.zero_add, Nat.reduceAdd, Nat.reduceSub, rn_by, wr]
 simp only [go_sem, ↓vmP2, ↓vmD, ↓vmK, ↓trK, ↓reduceIte, Nat.zero_add]
 refine sw_draw (.take 0 (.take 1 (.take 3 (.all [(2, .all [(4, .all [(5, .done)])]), (4, .all [(2, .all [(5, .done)])])])))) mo (by kernel_rfl) (by kernel_rfl) (by kernel_rfl) (fun _ _ _ h => h) ?_
 simp only [go_sem, ↓vmP2, ↓vmD, ↓vmK, ↓trK, ↓reduceIte]
 refine ⟨?_, ?_⟩
 all_goals
  refine bytes_wc _ (least_3 i) _ _ ?_
  simp only [go_sem, ↓vmP2, ↓vmD, ↓vmK, ↓trK, ↓reduceIte]
  refine wc_focus [0, 5] rfl (hc := [wr ([u8 22] ++ [u8 (abF (IntKind.i64.wrap (s - 11)) (leastF i))]) 1, .rw (byC ([u8 22] ++ [u8 (abF (IntKind.i64.wrap (s - 11)) (leastF i))]))]) ⟨rfl, by simp only [rnB, rn_by]; rfl, trivial⟩ (args' := [.s (.p 0 0), .s (.a (.int .i64 (((bytesF (leastF i)) : Nat) : Int))), .s (.a (.int .i64 i))]) rfl rfl (wnum ([u8 22] ++ [u8 (abF (IntKind.i64.wrap (s - 11)) (leastF i))]) i (bytesF (leastF i)) _ (by simp) ⟨bF_ge _, bF_le _⟩ ?_)
  simp only [rnO, rnP, mrg, setAll, rnB, rnS, ix, List.length_cons, List.length_nil, List.take_succ_cons, List.take_zero, List.take_nil, List.drop_succ_cons, List.drop_zero, List.drop_nil, List.map_cons, List.map_nil, List.getElem?_nil, List.getElem?_cons_zero, List.getElem?_cons_succ, List.set_cons_zero, List.set_cons_succ, List.cons_append, List.nil_append, List.append_nil, Nat.zero_add, Nat.reduceAdd, Nat.reduceSub, rn_by, wr]
  simp only [go_sem, ↓vmP2, ↓vmD, ↓vmK, ↓trK, ↓reduceIte, Nat.zero_add]
  exact ⟨[0, 6], [wr (([u8 22] ++ [u8 (abF (IntKind.i64.wrap (s - 11)) (leastF i))]) ++ lows i (bytesF (leastF i))) 1, .rw (byC (([u8 22] ++ [u8 (abF (IntKind.i64.wrap (s - 11)) (leastF i))]) ++ lows i (bytesF (leastF i))))], .t [], rfl, by simp, rfl, ⟨rfl, by simp only [rnB, rn_by]; rfl, trivial⟩, by simp [roOk, wr], rfl, c0⟩
set_option maxRecDepth 100000 in
set_option maxHeartbeats 16000000 in
theorem winst_23 (a b c k s z i m : Int) (K : Out → Hp → Prop) (c0 : K (.ret (.t [])) [wr ([u8 23] ++ lows i 4) 1, .rw (byC ([u8 23] ++ lows i 4))]) :
  WC Try.prog 78 [.s (.p 0 0), .g (iC 23 a b c k s z i m)] [.rw [.a (.slice none 0 0)]] K := by
 refine wc_pick ?_
 refine wc_intro Try.func78 rfl rfl (by kernel_rfl) (by simp [Try.f78]) ?_
 simp only [go_sem, ↓vmP2, ↓vmD, ↓vmK, ↓trK, ↓reduceIte, Try.f78, iC]
 refine least_wc _ _ _ ?_
 simp only [go_sem, ↓vmP2, ↓vmD, ↓vmK, ↓trK, ↓reduceIte]
 refine wreg2_sw 23 a b c k s z i m (leastF i) _ _ _ ⟨rfl, rfl, rfl, trivial⟩ (fun _ _ _ h => h) ?_
 simp only [go_sem, ↓vmP2, ↓vmD, ↓vmK, ↓trK, ↓reduceIte, iC]
 refine wc_focus [0, 2] rfl (hc := [.rw [.a (.slice none 0 0)], .rw [.a (.int .i64 23)]]) ⟨rfl, rfl, trivial⟩ (args' := [.s (.p 0 0), .s (.so 1 1 1 3)]) rfl rfl (wbyte0 _ _ ?_)
 simp only [rnO, rnP, mrg, setAll, rnB, rnS, ix, List.length_cons, List.length_nil, List.take_succ_cons, List.take_zero, List.take_nil, List.drop_succ_cons, List.drop_zero, List.drop_nil, List.map_cons, List.map_nil, List.getElem?_nil, List.getElem?_cons_zero, List.getElem?_cons_succ, List.set_cons_zero, List.set_cons_succ, List.cons_append, List.nil_append, List.append_nil, Nat.zero_add, Nat.reduceAdd, Nat.reduceSub, rn_by, wr]
 simp only [go_sem, ↓vmP2, ↓vmD, ↓vmK, ↓trK, ↓reduceIte, Nat.zero_add]
 refine wc_focus [0, 3] rfl (hc := [wr [u8 23] 1, .rw (byC [u8 23])]) ⟨rfl, by simp only [rnB, rn_by]; rfl, trivial⟩ (args' := [.s (.p 0 0), .s (.a (.int .i64 ((4 : Nat) : Int))), .s (.a (.int .i64 i))]) rfl rfl (wnum [u8 23] i 4 _ (by simp) (by omega) ?_)
 simp only [rnO, rnP, mrg, setAll, rnB, rnS, ix, List.length_cons, List.length_nil, List.take_succ_cons, List.take_zero, List.take_nil, List.drop_succ_cons, List.drop_zero, List.drop_nil, List.map_cons, List.map_nil, List.getElem?_nil, List.getElem?_cons_zero, List.getElem?_cons_succ, List.set_cons_zero, List.set_cons_succ, List.cons_append, List.nil_append, List.append_nil, Nat.zero_add, Nat.reduceAdd, Nat.reduceSub, rn_by, wr]
 simp only [go_sem, ↓vmP2, ↓vmD, ↓vmK, ↓trK, ↓reduceIte, Nat.zero_add]
 exact ⟨[0, 4], [wr ([u8 23] ++ lows i 4) 1, .rw (byC ([u8 23] ++ lows i 4))], .t [], rfl, by simp, rfl, ⟨rfl, by simp only [rnB, rn_by]; rfl, trivial⟩, by simp [roOk, wr], rfl, c0⟩
set_option maxRecDepth 100000 in
set_option maxHeartbeats 16000000 in
theorem winst_25 (a b c k s z i m : Int) (K : Out → Hp → Prop) (c0 : K (.ret (.t [])) [wr ([u8 25] ++ lows i 4) 1, .rw (byC ([u8 25] ++ lows i 4))]) :
  WC Try.prog 78 [.s (.p 0 0), .g (iC 25 a b c k s z i m)] [.rw [.a (.slice none 0 0)]] K := by
 refine wc_pick ?_
 refine wc_intro Try.func78 rfl rfl (by kernel_rfl) (by simp [Try.f78]) ?_
 simp only [go_sem, ↓vmP2, ↓vmD, ↓vmK, ↓trK, ↓reduceIte, Try.f78, iC]
 refine least_wc _ _ _ ?_
 simp only [go_sem, ↓vmP2, ↓vmD, ↓vmK, ↓trK, ↓reduceIte]
 refine wreg2_sw 25 a b c k s z i m (leastF i) _ _ _ ⟨rfl, rfl, rfl, trivial⟩ (fun _ _ _ h => h) ?_
 simp only [go_sem, ↓vmP2, ↓vmD, ↓vmK, ↓trK, ↓reduceIte, iC]
 refine wc_focus [0, 2] rfl (hc := [.rw [.a (.slice none 0 0)], .rw [.a (.int .i64 25)]]) ⟨rfl, rfl, trivial⟩ (args' := [.s (.p 0 0), .s (.so 1 1 1 3)]) rfl rfl (wbyte0 _ _ ?_)
 simp only [rnO, rnP, mrg, setAll, rnB, rnS, ix, List.length_cons, List.length_nil, List.take_succ_cons, List.take_zero, List.take_nil, List.drop_succ_cons, List.drop_zero, List.drop_nil, List.map_cons, List.map_nil, List.getElem?_nil, List.getElem?_cons_zero, List.getElem?_cons_succ, List.set_cons_zero, List.set_cons_succ, List.cons_append, List.nil_append, List.append_nil, Nat.zero_add, Nat.reduceAdd, Nat.reduceSub, rn_by, wr]
 simp only [go_sem, ↓vmP2, ↓vmD, ↓vmK, ↓trK, ↓reduceIte, Nat.zero_add]
 refine wc_focus [0, 3] rfl (hc := [wr [u8 25] 1, .rw (byC [u8 25])]) ⟨rfl, by simp only [rnB, rn_by]; rfl, trivial⟩ (args' := [.s (.p 0 0), .s (.a (.int .i64 ((4 : Nat) : Int))), .s (.a (.int .i64 i))]) rfl rfl (wnum [u8 25] i 4 _ (by simp) (by omega) ?_)
 simp only [rnO, rnP, mrg, setAll, rnB, rnS, ix, List.length_cons, List.length_nil, List.take_succ_cons, List.take_zero, List.take_nil, List.drop_succ_cons, List.drop_zero, List.drop_nil, List.map_cons, List.map_nil, List.getElem?_nil, List.getElem?_cons_zero, List.getElem?_cons_succ, List.set_cons_zero, List.set_cons_succ, List.cons_append, List.nil_append, List.append_nil, Nat.zero_add, Nat.reduceAdd, Nat.reduceSub, rn_by, wr]
 simp only [go_sem, ↓vmP2, ↓vmD, ↓vmK, ↓trK, ↓reduceIte, Nat.zero_add]
 exact ⟨[0, 4], [wr ([u8 25] ++ lows i 4) 1, .rw (byC ([u8 25] ++ lows i 4))], .t [], rfl, by simp, rfl, ⟨rfl, by simp only [rnB, rn_by]; rfl, trivial⟩, by simp [roOk, wr], rfl, c0⟩
set_option maxRecDepth 100000 in
set_option maxHeartbeats 16000000 in
theorem winst_29 (a b c k s z i m : Int) (K : Out → Hp → Prop) (c0 : K (.ret (.t [])) [wr ([u8 29] ++ lows i 4) 1, .rw (byC ([u8 29] ++ lows i 4))]) :
  WC Try.prog 78 [.s (.p 0 0), .g (iC 29 a b c k s z i m)] [.rw [.a (.slice none 0 0)]] K := by
 refine wc_pick ?_
 refine wc_intro Try.func78 rfl rfl (by kernel_rfl) (by simp [Try.f78]) ?_
 simp only [go_sem, ↓vmP2, ↓vmD, ↓vmK, ↓trK, ↓reduceIte, Try.f78, iC]
 refine least_wc _ _ _ ?_
 simp only [go_sem, ↓vmP2, ↓vmD, ↓vmK, ↓trK, ↓reduceIte]
 refine wreg2_sw 29 a b c k s z i m (leastF i) _ _ _ ⟨rfl, rfl, rfl, trivial⟩ (fun _ _ _ h => h) ?_
 simp only [go_sem, ↓vmP2, ↓vmD, ↓vmK, ↓trK, ↓reduceIte, iC]
 refine wc_focus [0, 2] rfl (hc := [.rw [.a (.slice none 0 0)], .rw [.a (.int .i64 29)]]) ⟨rfl, rfl, trivial⟩ (args' := [.s (.p 0 0), .s (.so 1 1 1 3)]) rfl rfl (wbyte0 _ _ ?_)
 simp only [rnO, rnP, mrg, setAll, rnB, rnS, ix, List.length_cons, List.length_nil, List.take_succ_cons, List.take_zero, List.take_nil, List.drop_succ_cons, List.drop_zero, List.drop_nil, List.map_cons, List.map_nil, List.getElem?_nil, List.getElem?_cons_zero, List.getElem?_cons_succ, List.set_cons_zero, List.set_cons_succ, List.cons_append, List.nil_append, List.append_nil, Nat.zero_add, Nat.reduceAdd, Nat.reduceSub, rn_by, wr]
 simp only [go_sem, ↓vmP2, ↓vmD, ↓vmK, ↓trK, ↓reduceIte, Nat.zero_add]
 refine wc_focus [0, 3] rfl (hc := [wr [u8 29] 1, .rw (byC [u8 29])]) ⟨rfl, by simp only [rnB, rn_by]; rfl, trivial⟩ (args' := [.s (.p 0 0), .s (.a (.int .i64 ((4 : Nat) : Int))), .s (.a (.int .i64 i))]) rfl rfl (wnum [u8 29] i 4 _ (by simp) (by omega) ?_)
 simp only [rnO, rnP, mrg, setAll, rnB, rnS, ix, List.length_cons, List.length_nil, List.take_succ_cons, List.take_zero, List.take_nil, List.drop_succ_cons, List.drop_zero, List.drop_nil, List.map_cons, List.map_nil, List.getElem?_nil, List.getElem?_cons_zero, List.getElem?_cons_succ, List.set_cons_zero, List.set_cons_succ, List.cons_append, List.nil_append, List.append_nil, Nat.zero_add, Nat.reduceAdd, Nat.reduceSub, rn_by, wr]
 simp only [go_sem, ↓vmP2, ↓vmD, ↓vmK, ↓trK, ↓reduceIte, Nat.zero_add]
 exact ⟨[0, 4], [wr ([u8 29] ++ lows i 4) 1, .rw (byC ([u8 29] ++ lows i 4))], .t [], rfl, by simp, rfl, ⟨rfl, by simp only [rnB, rn_by]; rfl, trivial⟩, by simp [roOk, wr], rfl, c0⟩
end Go.Proofs.Ytahepinbmcgbnaa.Vm
