/- What package cisc's writer lays for an instruction. Printed by wip/tools/genVc14.py. No condition. -/
import Derived.Test.YtahepinbmcgbnaaVc13
import Derived.Test.YtahepinbmcgbnaaVd
set_option linter.unusedVariables false
set_option linter.unusedSimpArgs false
namespace Go.Proofs.Ytahepinbmcgbnaa.Vm
open Go.RowKit Go.Proofs.Ytahepinbmcgbnaa.PV Go.Proofs.Ytahepinbmcgbnaa.Wd Go.Proofs.YtahepinbmcgbnaaW.PrintWords
attribute [local go_sem] opR moveR pickR allocR boxR ld1R ldgR ldR loadR st2R st1R storeR nilR faR fieldAddrR fdR fieldR ixR indexAddrR extR extractR intR shR isSh eqR bin2R sEqR intsOf binR unR convR miR panR fillP partsR bld2R bld1R buildR bldAR build2R ix1R indexR mxR mmR bs2R bs1R buildSliceR pvOf okT no1T noT taR mfR ptrsR ms1R makeSliceR bnd sl1R so1R sliceR argsR ca1R callR lenR ap2R srcR ap1R appendR lenA appA calR ev cst lk rm pt ins rmO ent gval cellsOf scell TI.agg Sh.agg re1 res1 resR is1 vmQ vmH vmE bin3R index2R strIxR ifR nnR stR oneP oneW opP vmQ2 tA0 tA1 tA2 tA3 tA4 tA5 tA6 tA7 tA8 tA9 tA10 tA11 tA12 tA13 tA14 tA15 oA0 oA1 oA2 oA3 oA4 oA5 oA6 oA7 oA8 oA9 oA10 oA11 oA12 oA13 oA14 reduceCtorEq Nat.reduceEqDiff Nat.reduceAdd Nat.reduceLeDiff Nat.reduceLT Nat.reduceMul Nat.reducePow Nat.reduceSub Int.reduceBEq Int.reduceBNe ne_eq Int.reduceEq not_false_eq_true Bool.false_eq_true Nat.reduceBEq List.getElem?_cons_zero List.getElem?_cons_succ List.map_cons List.map_nil List.length_cons List.length_nil List.drop_succ_cons List.drop_zero List.take_succ_cons List.take_zero List.take_nil List.drop_nil List.append_nil List.nil_append List.cons_append List.set_cons_zero List.set_cons_succ List.all_cons List.all_nil Bool.and_true Bool.and_self cond_true cond_false Option.map_some Option.map_none and_self true_and and_true List.append_eq Int.reduceToNat Int.reduceLT Int.reduceLE Int.reduceAdd Int.reduceMul Int.reduceSub decide_true decide_false nc0 nc1 nc2 nc3 nc4 nc8 Nat.zero_add Nat.mul_one Nat.add_zero zrow List.replicate List.flatten_cons List.flatten_nil ml1 ml2 ml3
set_option maxRecDepth 100000 in
set_option maxHeartbeats 16000000 in
theorem winst_24 (a b c k s z i m : Int) (K : Out → Hp → Prop) (c0 : K (.ret (.t [])) [wr [u8 24] 1, .rw (byC [u8 24])]) :
  WC Try.prog 78 [.s (.p 0 0), .g (iC 24 a b c k s z i m)] [.rw [.a (.slice none 0 0)]] K := by
 refine wc_pick ?_
 refine wc_intro Try.func78 rfl rfl (by kernel_rfl) (by simp [Try.f78]) ?_
 simp only [go_sem, ↓vmP2, ↓vmD, ↓vmK, ↓trK, ↓reduceIte, Try.f78, iC]
 refine least_wc _ _ _ ?_
 simp only [go_sem, ↓vmP2, ↓vmD, ↓vmK, ↓trK, ↓reduceIte]
 refine wreg2_sw 24 a b c k s z i m (leastF i) _ _ _ ⟨rfl, rfl, rfl, trivial⟩ (fun _ _ _ h => h) ?_
 simp only [go_sem, ↓vmP2, ↓vmD, ↓vmK, ↓trK, ↓reduceIte, iC]
 refine wc_focus [0, 2] rfl (hc := [.rw [.a (.slice none 0 0)], .rw [.a (.int .i64 24)]]) ⟨rfl, rfl, trivial⟩ (args' := [.s (.p 0 0), .s (.so 1 1 1 3)]) rfl rfl (wbyte0 _ _ ?_)
 simp only [rnO, rnP, mrg, setAll, rnB, rnS, ix, List.length_cons, List.length_nil, List.take_succ_cons, List.take_zero, List.take_nil, List.drop_succ_cons, List.drop_zero, List.drop_nil, List.map_cons, List.map_nil, List.getElem?_nil, List.getElem?_cons_zero, List.getElem?_cons_succ, List.set_cons_zero, List.set_cons_succ, List.cons_append, List.nil_append, List.append_nil, Nat.zero_add, Nat.reduceAdd, Nat.reduceSub, rn_by, wr]
 simp only [go_sem, ↓vmP2, ↓vmD, ↓vmK, ↓trK, ↓reduceIte, Nat.zero_add]
 exact ⟨[0, 3], [wr [u8 24] 1, .rw (byC [u8 24])], .t [], rfl, by simp, rfl, ⟨rfl, by simp only [rnB, rn_by]; rfl, trivial⟩, by simp [roOk, wr], rfl, c0⟩
set_option maxRecDepth 100000 in
set_option maxHeartbeats 16000000 in
theorem winst_none (o a b c k s z i m : Int) (no : isOp o = false) (K : Out → Hp → Prop) (c0 : K (.ret (.t [])) [wr [u8 o] 1, .rw (byC [u8 o])]) :
  WC Try.prog 78 [.s (.p 0 0), .g (iC o a b c k s z i m)] [.rw [.a (.slice none 0 0)]] K := by
 simp only [isOp, Bool.or_eq_false_iff, and_assoc] at no
 obtain ⟨h1, h3, h4, h5, h6, h7, h8, h10, h11, h12, h13, h14, h15, h16, h17, h18, h19, h22, h23, h24, h25, h26, h27, h28, h29⟩ := no
 refine wc_pick ?_
 refine wc_intro Try.func78 rfl rfl (by kernel_rfl) (by simp [Try.f78]) ?_
 simp only [go_sem, ↓vmP2, ↓vmD, ↓vmK, ↓trK, ↓reduceIte, Try.f78, iC]
 refine least_wc _ _ _ ?_
 simp only [go_sem, ↓vmP2, ↓vmD, ↓vmK, ↓trK, ↓reduceIte]
 refine wreg2_sw o a b c k s z i m (leastF i) _ _ _ ⟨rfl, rfl, rfl, trivial⟩ (fun _ _ _ h => h) ?_
 simp only [go_sem, ↓vmP2, ↓vmD, ↓vmK, ↓trK, ↓reduceIte, iC]
 refine wc_focus [0, 2] rfl (hc := [.rw [.a (.slice none 0 0)], .rw [.a (.int .i64 o)]]) ⟨rfl, rfl, trivial⟩ (args' := [.s (.p 0 0), .s (.so 1 1 1 3)]) rfl rfl (wbyte0 _ _ ?_)
 simp only [rnO, rnP, mrg, setAll, rnB, rnS, ix, List.length_cons, List.length_nil, List.take_succ_cons, List.take_zero, List.take_nil, List.drop_succ_cons, List.drop_zero, List.drop_nil, List.map_cons, List.map_nil, List.getElem?_nil, List.getElem?_cons_zero, List.getElem?_cons_succ, List.set_cons_zero, List.set_cons_succ, List.cons_append, List.nil_append, List.append_nil, Nat.zero_add, Nat.reduceAdd, Nat.reduceSub, rn_by, wr]
 simp only [go_sem, ↓vmP2, ↓vmD, ↓vmK, ↓trK, ↓reduceIte, Nat.zero_add, h1, h3, h4, h5, h6, h7, h8, h10, h11, h12, h13, h14, h15, h16, h17, h18, h19, h22, h23, h24, h25, h26, h27, h28, h29]
 exact ⟨[0, 3], [wr [u8 o] 1, .rw (byC [u8 o])], .t [], rfl, by simp, rfl, ⟨rfl, by simp only [rnB, rn_by]; rfl, trivial⟩, by simp [roOk, wr], rfl, c0⟩
/-- The bytes that the writer lays. -/
def layF (o a b c k s z i : Int) : List Int := if o = 1 then (([u8 1] ++ [u8 (abF a (leastF i))]) ++ lows i (bytesF (leastF i))) else
 if o = 3 then ([u8 3] ++ [u8 (abF a b)]) else
 if o = 4 then ((([u8 4] ++ [u8 (abF a b)]) ++ [u8 (k)]) ++ [u8 (s)]) else
 if o = 5 then (((([u8 5] ++ [u8 (abF a (leastF i))]) ++ [u8 (k)]) ++ [u8 (s)]) ++ lows i (bytesF (leastF i))) else
 if o = 6 then (((([u8 6] ++ [u8 (abF a b)]) ++ [u8 (k)]) ++ [u8 (s)]) ++ lows i 4) else
 if o = 7 then ((([u8 7] ++ [u8 (abF a b)]) ++ [u8 (k)]) ++ [u8 (s)]) else
 if o = 8 then ((([u8 8] ++ [u8 (abF a b)]) ++ [u8 (k)]) ++ [u8 (s)]) else
 if o = 10 then ((([u8 10] ++ [u8 (abF a b)]) ++ [u8 (abF c (scaleF z))]) ++ lows i 4) else
 if o = 11 then ((([u8 11] ++ [u8 (abF a b)]) ++ [u8 (k)]) ++ lows i 4) else
 if o = 12 then (((([u8 12] ++ [u8 (abF a b)]) ++ [u8 (abF c (scaleF z))]) ++ [u8 (k)]) ++ lows i 4) else
 if o = 13 then ((([u8 13] ++ [u8 (abF a b)]) ++ [u8 (k)]) ++ lows i 4) else
 if o = 14 then (((([u8 14] ++ [u8 (abF a b)]) ++ [u8 (abF c (scaleF z))]) ++ [u8 (k)]) ++ lows i 4) else
 if o = 15 then (([u8 15] ++ [u8 (abF a b)]) ++ [u8 (s)]) else
 if o = 16 then (([u8 16] ++ [u8 (abF a b)]) ++ [u8 (k)]) else
 if o = 17 then ((([u8 17] ++ [u8 (abF a (leastF i))]) ++ [u8 (k)]) ++ lows i (bytesF (leastF i))) else
 if o = 18 then (([u8 18] ++ [u8 (abF a b)]) ++ [u8 (s)]) else
 if o = 19 then (([u8 19] ++ [u8 (leastF i)]) ++ lows i (bytesF (leastF i))) else
 if o = 22 then (([u8 22] ++ [u8 (abF (IntKind.i64.wrap (s - 11)) (leastF i))]) ++ lows i (bytesF (leastF i))) else
 if o = 23 then ([u8 23] ++ lows i 4) else
 if o = 24 then [u8 24] else
 if o = 25 then ([u8 25] ++ lows i 4) else
 if o = 26 then ([u8 26] ++ [u8 (abF a b)]) else
 if o = 27 then ([u8 27] ++ [u8 (abF a b)]) else
 if o = 28 then ([u8 28] ++ [u8 (abF a b)]) else
 if o = 29 then ([u8 29] ++ lows i 4) else [u8 o]
theorem lay_1 (a b c k s z i : Int) : layF 1 a b c k s z i = (([u8 1] ++ [u8 (abF a (leastF i))]) ++ lows i (bytesF (leastF i))) := rfl
theorem lay_3 (a b c k s z i : Int) : layF 3 a b c k s z i = ([u8 3] ++ [u8 (abF a b)]) := rfl
theorem lay_4 (a b c k s z i : Int) : layF 4 a b c k s z i = ((([u8 4] ++ [u8 (abF a b)]) ++ [u8 (k)]) ++ [u8 (s)]) := rfl
theorem lay_5 (a b c k s z i : Int) : layF 5 a b c k s z i = (((([u8 5] ++ [u8 (abF a (leastF i))]) ++ [u8 (k)]) ++ [u8 (s)]) ++ lows i (bytesF (leastF i))) := rfl
theorem lay_6 (a b c k s z i : Int) : layF 6 a b c k s z i = (((([u8 6] ++ [u8 (abF a b)]) ++ [u8 (k)]) ++ [u8 (s)]) ++ lows i 4) := rfl
theorem lay_7 (a b c k s z i : Int) : layF 7 a b c k s z i = ((([u8 7] ++ [u8 (abF a b)]) ++ [u8 (k)]) ++ [u8 (s)]) := rfl
theorem lay_8 (a b c k s z i : Int) : layF 8 a b c k s z i = ((([u8 8] ++ [u8 (abF a b)]) ++ [u8 (k)]) ++ [u8 (s)]) := rfl
theorem lay_10 (a b c k s z i : Int) : layF 10 a b c k s z i = ((([u8 10] ++ [u8 (abF a b)]) ++ [u8 (abF c (scaleF z))]) ++ lows i 4) := rfl
theorem lay_11 (a b c k s z i : Int) : layF 11 a b c k s z i = ((([u8 11] ++ [u8 (abF a b)]) ++ [u8 (k)]) ++ lows i 4) := rfl
theorem lay_12 (a b c k s z i : Int) : layF 12 a b c k s z i = (((([u8 12] ++ [u8 (abF a b)]) ++ [u8 (abF c (scaleF z))]) ++ [u8 (k)]) ++ lows i 4) := rfl
theorem lay_13 (a b c k s z i : Int) : layF 13 a b c k s z i = ((([u8 13] ++ [u8 (abF a b)]) ++ [u8 (k)]) ++ lows i 4) := rfl
theorem lay_14 (a b c k s z i : Int) : layF 14 a b c k s z i = (((([u8 14] ++ [u8 (abF a b)]) ++ [u8 (abF c (scaleF z))]) ++ [u8 (k)]) ++ lows i 4) := rfl
theorem lay_15 (a b c k s z i : Int) : layF 15 a b c k s z i = (([u8 15] ++ [u8 (abF a b)]) ++ [u8 (s)]) := rfl
theorem lay_16 (a b c k s z i : Int) : layF 16 a b c k s z i = (([u8 16] ++ [u8 (abF a b)]) ++ [u8 (k)]) := rfl
theorem lay_17 (a b c k s z i : Int) : layF 17 a b c k s z i = ((([u8 17] ++ [u8 (abF a (leastF i))]) ++ [u8 (k)]) ++ lows i (bytesF (leastF i))) := rfl
theorem lay_18 (a b c k s z i : Int) : layF 18 a b c k s z i = (([u8 18] ++ [u8 (abF a b)]) ++ [u8 (s)]) := rfl
theorem lay_19 (a b c k s z i : Int) : layF 19 a b c k s z i = (([u8 19] ++ [u8 (leastF i)]) ++ lows i (bytesF (leastF i))) := rfl
theorem lay_22 (a b c k s z i : Int) : layF 22 a b c k s z i = (([u8 22] ++ [u8 (abF (IntKind.i64.wrap (s - 11)) (leastF i))]) ++ lows i (bytesF (leastF i))) := rfl
theorem lay_23 (a b c k s z i : Int) : layF 23 a b c k s z i = ([u8 23] ++ lows i 4) := rfl
theorem lay_24 (a b c k s z i : Int) : layF 24 a b c k s z i = [u8 24] := rfl
theorem lay_25 (a b c k s z i : Int) : layF 25 a b c k s z i = ([u8 25] ++ lows i 4) := rfl
theorem lay_26 (a b c k s z i : Int) : layF 26 a b c k s z i = ([u8 26] ++ [u8 (abF a b)]) := rfl
theorem lay_27 (a b c k s z i : Int) : layF 27 a b c k s z i = ([u8 27] ++ [u8 (abF a b)]) := rfl
theorem lay_28 (a b c k s z i : Int) : layF 28 a b c k s z i = ([u8 28] ++ [u8 (abF a b)]) := rfl
theorem lay_29 (a b c k s z i : Int) : layF 29 a b c k s z i = ([u8 29] ++ lows i 4) := rfl
theorem lay_none (o a b c k s z i : Int) (no : isOp o = false) : layF o a b c k s z i = [u8 o] := by
 simp only [isOp, Bool.or_eq_false_iff, and_assoc, beq_eq_false_iff_ne] at no
 obtain ⟨h1, h3, h4, h5, h6, h7, h8, h10, h11, h12, h13, h14, h15, h16, h17, h18, h19, h22, h23, h24, h25, h26, h27, h28, h29⟩ := no
 simp only [layF, h1, h3, h4, h5, h6, h7, h8, h10, h11, h12, h13, h14, h15, h16, h17, h18, h19, h22, h23, h24, h25, h26, h27, h28, h29, if_false]
theorem winst (o a b c k s z i m : Int) (K : Out → Hp → Prop) (c0 : K (.ret (.t [])) [wr (layF o a b c k s z i) 1, .rw (byC (layF o a b c k s z i))]) :
  WC Try.prog 78 [.s (.p 0 0), .g (iC o a b c k s z i m)] [.rw [.a (.slice none 0 0)]] K := by
 cases h : isOp o with
 | false => rw [lay_none o a b c k s z i h] at c0; exact winst_none o a b c k s z i m h K c0
 | true =>
  rcases isOp_cases o h with rfl | rfl | rfl | rfl | rfl | rfl | rfl | rfl | rfl | rfl | rfl | rfl | rfl | rfl | rfl | rfl | rfl | rfl | rfl | rfl | rfl | rfl | rfl | rfl | rfl
  ·exact winst_1 a b c k s z i m K c0
  ·exact winst_3 a b c k s z i m K c0
  ·exact winst_4 a b c k s z i m K c0
  ·exact winst_5 a b c k s z i m K c0
  ·exact winst_6 a b c k s z i m K c0
  ·exact winst_7 a b c k s z i m K c0
  ·exact winst_8 a b c k s z i m K c0
  ·exact winst_10 a b c k s z i m K c0
  ·exact winst_11 a b c k s z i m K c0
  ·exact winst_12 a b c k s z i m K c0
  ·exact winst_13 a b c k s z i m K c0
  ·exact winst_14 a b c k s z i m K c0
  ·exact winst_15 a b c k s z i m K c0
  ·exact winst_16 a b c k s z i m K c0
  ·exact winst_17 a b c k s z i m K c0
  ·exact winst_18 a b c k s z i m K c0
  ·exact winst_19 a b c k s z i m K c0
  ·exact winst_22 a b c k s z i m K c0
  ·exact winst_23 a b c k s z i m K c0
  ·exact winst_24 a b c k s z i m K c0
  ·exact winst_25 a b c k s z i m K c0
  ·exact winst_26 a b c k s z i m K c0
  ·exact winst_27 a b c k s z i m K c0
  ·exact winst_28 a b c k s z i m K c0
  ·exact winst_29 a b c k s z i m K c0
end Go.Proofs.Ytahepinbmcgbnaa.Vm
