/- Contracts of package cisc's reader: instructions. Printed by wip/tools/genVc6.py. No condition. -/
import Derived.Test.YtahepinbmcgbnaaVmY
import Derived.Test.YtahepinbmcgbnaaVc5
set_option linter.unusedVariables false
set_option linter.unusedSimpArgs false
namespace Go.Proofs.Ytahepinbmcgbnaa.Vm
open Go.RowKit Go.Proofs.Ytahepinbmcgbnaa.PV Go.Proofs.Ytahepinbmcgbnaa.Wd Go.Proofs.YtahepinbmcgbnaaW.PrintWords
attribute [local go_sem] opR moveR pickR allocR boxR ld1R ldgR ldR loadR st2R st1R storeR nilR faR fieldAddrR fdR fieldR ixR indexAddrR extR extractR intR shR isSh eqR bin2R sEqR intsOf binR unR convR miR panR fillP partsR bld2R bld1R buildR bldAR build2R ix1R indexR mxR mmR bs2R bs1R buildSliceR pvOf okT no1T noT taR mfR ptrsR ms1R makeSliceR bnd sl1R so1R sliceR argsR ca1R callR lenR ap2R srcR ap1R appendR lenA appA calR ev cst lk rm pt ins rmO ent gval cellsOf scell TI.agg Sh.agg re1 res1 resR is1 vmQ vmH vmE bin3R index2R strIxR ifR nnR stR oneP oneW opP vmQ2 tA0 tA1 tA2 tA3 tA4 tA5 tA6 tA7 tA8 tA9 tA10 tA11 tA12 tA13 tA14 tA15 oA0 oA1 oA2 oA3 oA4 oA5 oA6 oA7 oA8 oA9 oA10 oA11 oA12 oA13 oA14 reduceCtorEq Nat.reduceEqDiff Nat.reduceAdd Nat.reduceLeDiff Nat.reduceLT Nat.reduceMul Nat.reducePow Nat.reduceSub Int.reduceBEq Int.reduceBNe ne_eq Int.reduceEq not_false_eq_true Bool.false_eq_true Nat.reduceBEq List.getElem?_cons_zero List.getElem?_cons_succ List.map_cons List.map_nil List.length_cons List.length_nil List.drop_succ_cons List.drop_zero List.take_succ_cons List.take_zero List.take_nil List.drop_nil List.append_nil List.nil_append List.cons_append List.set_cons_zero List.set_cons_succ List.all_cons List.all_nil Bool.and_true Bool.and_self cond_true cond_false Option.map_some Option.map_none and_self true_and and_true List.append_eq
def InK (l : List Int) (d : DR) (K : Out → Hp → Prop) : Prop := DRK l d K fun f n bad => K (.ret (.g f)) [rdr l.length n bad, .ro (byC l)]
theorem inK_short {l : List Int} {d : DR} {K : Out → Hp → Prop} (c : InK l d K) (e : d = .short) : ∀ h, K (.pan (E 41)) h := by rw [e] at c; exact c
theorem inK_form {l : List Int} {d : DR} {K : Out → Hp → Prop} (c : InK l d K) (e : d = .form) : ∀ h, K (.pan (E 40)) h := by rw [e] at c; exact c
def allC : Blk := .rw [.a (.int .i64 (-9223372036854775808)), .a (.int .i64 9223372036854775807)]

def iMovD (l : List Int) (o : Int) : DR := if l.length < 2 then .short else .ok 2 (false) (iC o (l.getD 1 0 / 16) (l.getD 1 0 % 16) 0 0 0 0 0 0)
set_option maxRecDepth 100000 in
theorem iMov_wc (l : List Int) (o : Int) (K : Out → Hp → Prop) (hm : BY l) (q0 : 0 < l.length) (e0 : l[0] = o) (ho : o = 3 ∨ o = 26) (c : InK l (iMovD l o) K) :
  WC Try.prog 91 [.s (.p 0 0)] [rdr l.length 0 false, .ro (byC l)] K := by
 rcases ho with rfl | rfl
 all_goals
  refine wc_trunc 2 (by simp) ?_
  refine wc_intro Try.func91 rfl rfl (by kernel_rfl) (by simp [Try.f91]) ?_
  simp only [go_sem, ↓vmP2, ↓vmD, ↓vmK, ↓trK, ↓reduceIte, Try.f91]
  refine byte_wc l 0 false _ _ hm (by omega) (fun q => absurd q (by omega)) (fun q => ?_)
  simp only [go_sem, ↓vmP2, ↓vmD, ↓vmK, ↓trK, ↓reduceIte, iC, e0]
  refine ab_wc l 1 _ _ _ _ _ _ _ _ _ _ _ _ hm (by omega) (fun q h => by (simp only [go_sem, ↓vmP2, ↓vmD, ↓vmK, ↓trK, ↓reduceIte]; exact inK_short c (by unfold iMovD; rw [if_pos (by omega)]) h)) (fun q1 => ?_)
  simp only [go_sem, ↓vmP2, ↓vmD, ↓vmK, ↓trK, ↓reduceIte]
  unfold InK iMovD at c
  rw [if_neg (by omega)] at c
  simp only [gd l 1 q1] at c
  simp only [go_sem, ↓vmP2, ↓vmD, ↓vmK, ↓trK, ↓reduceIte, iC, idV, idS, idB, idB_by, rdr, decide_true]
  exact c

def iEmitD (l : List Int) (o : Int) : DR := if l.length < 2 then .short else .ok 2 (false || !(l.getD 1 0 % 16 == 0)) (iC o (l.getD 1 0 / 16) (l.getD 1 0 % 16) 0 0 0 0 0 0)
set_option maxRecDepth 100000 in
theorem iEmit_wc (l : List Int) (o : Int) (K : Out → Hp → Prop) (hm : BY l) (q0 : 0 < l.length) (e0 : l[0] = o) (ho : o = 27 ∨ o = 28) (c : InK l (iEmitD l o) K) :
  WC Try.prog 91 [.s (.p 0 0)] [rdr l.length 0 false, .ro (byC l)] K := by
 rcases ho with rfl | rfl
 all_goals
  refine wc_trunc 2 (by simp) ?_
  refine wc_intro Try.func91 rfl rfl (by kernel_rfl) (by simp [Try.f91]) ?_
  simp only [go_sem, ↓vmP2, ↓vmD, ↓vmK, ↓trK, ↓reduceIte, Try.f91]
  refine byte_wc l 0 false _ _ hm (by omega) (fun q => absurd q (by omega)) (fun q => ?_)
  simp only [go_sem, ↓vmP2, ↓vmD, ↓vmK, ↓trK, ↓reduceIte, iC, e0]
  refine single_wc l 1 _ _ _ _ _ _ _ _ _ _ _ _ hm (by omega) (fun q h => by (simp only [go_sem, ↓vmP2, ↓vmD, ↓vmK, ↓trK, ↓reduceIte]; exact inK_short c (by unfold iEmitD; rw [if_pos (by omega)]) h)) (fun q1 => ?_)
  simp only [go_sem, ↓vmP2, ↓vmD, ↓vmK, ↓trK, ↓reduceIte]
  unfold InK iEmitD at c
  rw [if_neg (by omega)] at c
  simp only [gd l 1 q1] at c
  simp only [go_sem, ↓vmP2, ↓vmD, ↓vmK, ↓trK, ↓reduceIte, iC, idV, idS, idB, idB_by, rdr, decide_true]
  exact c

def iUnD (l : List Int) (o : Int) : DR := if l.length < 4 then .short else .ok 4 ((((false || !(l.getD 1 0 % 16 == 0)) || !decide (Wi (l.getD 2 0) > 0)) || !((l.getD 2 0) != 11)) || !hasU (l.getD 3 0) (l.getD 2 0)) (iC o (l.getD 1 0 / 16) (l.getD 1 0 % 16) 0 (l.getD 2 0) (l.getD 3 0) 0 0 0)
set_option maxRecDepth 100000 in
theorem iUn_wc (l : List Int) (o : Int) (K : Out → Hp → Prop) (hm : BY l) (q0 : 0 < l.length) (e0 : l[0] = o) (ho : o = 7) (c : InK l (iUnD l o) K) :
  WC Try.prog 91 [.s (.p 0 0)] [rdr l.length 0 false, .ro (byC l)] K := by
 subst ho
 refine wc_trunc 2 (by simp) ?_
 refine wc_intro Try.func91 rfl rfl (by kernel_rfl) (by simp [Try.f91]) ?_
 simp only [go_sem, ↓vmP2, ↓vmD, ↓vmK, ↓trK, ↓reduceIte, Try.f91]
 refine byte_wc l 0 false _ _ hm (by omega) (fun q => absurd q (by omega)) (fun q => ?_)
 simp only [go_sem, ↓vmP2, ↓vmD, ↓vmK, ↓trK, ↓reduceIte, iC, e0]
 refine single_wc l 1 _ _ _ _ _ _ _ _ _ _ _ _ hm (by omega) (fun q h => by (simp only [go_sem, ↓vmP2, ↓vmD, ↓vmK, ↓trK, ↓reduceIte]; exact inK_short c (by unfold iUnD; rw [if_pos (by omega)]) h)) (fun q1 => ?_)
 simp only [go_sem, ↓vmP2, ↓vmD, ↓vmK, ↓trK, ↓reduceIte]
 refine kind_wc l 2 _ _ _ _ _ _ _ _ _ _ _ _ hm (by omega) (fun q h => by (simp only [go_sem, ↓vmP2, ↓vmD, ↓vmK, ↓trK, ↓reduceIte]; exact inK_short c (by unfold iUnD; rw [if_pos (by omega)]) h)) (fun q2 => ?_)
 simp only [go_sem, ↓vmP2, ↓vmD, ↓vmK, ↓trK, ↓reduceIte, iC]
 refine must_wc _ _ _ _ _ _ ?_
 simp only [go_sem, ↓vmP2, ↓vmD, ↓vmK, ↓trK, ↓reduceIte]
 refine sub_wc l 3 _ _ _ _ _ _ _ _ _ _ _ _ hm (by omega) (fun q h => by (simp only [go_sem, ↓vmP2, ↓vmD, ↓vmK, ↓trK, ↓reduceIte]; exact inK_short c (by unfold iUnD; rw [if_pos (by omega)]) h)) (fun q3 => ?_)
 simp only [go_sem, ↓vmP2, ↓vmD, ↓vmK, ↓trK, ↓reduceIte, iC]
 refine un_wc _ _ _ _ ?_
 simp only [go_sem, ↓vmP2, ↓vmD, ↓vmK, ↓trK, ↓reduceIte]
 refine must_wc _ _ _ _ _ _ ?_
 unfold InK iUnD at c
 rw [if_neg (by omega)] at c
 simp only [gd l 1 q1, gd l 2 q2, gd l 3 q3] at c
 simp only [go_sem, ↓vmP2, ↓vmD, ↓vmK, ↓trK, ↓reduceIte, iC, idV, idS, idB, idB_by, rdr, decide_true]
 exact c

def iConvD (l : List Int) (o : Int) : DR := if l.length < 4 then .short else .ok 4 ((((false || !decide (Wi (l.getD 2 0) > 0)) || !nm (l.getD 2 0))) || !nm (l.getD 3 0)) (iC o (l.getD 1 0 / 16) (l.getD 1 0 % 16) 0 (l.getD 2 0) (l.getD 3 0) 0 0 0)
set_option maxRecDepth 100000 in
theorem iConv_wc (l : List Int) (o : Int) (K : Out → Hp → Prop) (hm : BY l) (q0 : 0 < l.length) (e0 : l[0] = o) (ho : o = 8) (c : InK l (iConvD l o) K) :
  WC Try.prog 91 [.s (.p 0 0)] [rdr l.length 0 false, .ro (byC l)] K := by
 subst ho
 refine wc_trunc 2 (by simp) ?_
 refine wc_intro Try.func91 rfl rfl (by kernel_rfl) (by simp [Try.f91]) ?_
 simp only [go_sem, ↓vmP2, ↓vmD, ↓vmK, ↓trK, ↓reduceIte, Try.f91]
 refine byte_wc l 0 false _ _ hm (by omega) (fun q => absurd q (by omega)) (fun q => ?_)
 simp only [go_sem, ↓vmP2, ↓vmD, ↓vmK, ↓trK, ↓reduceIte, iC, e0]
 refine ab_wc l 1 _ _ _ _ _ _ _ _ _ _ _ _ hm (by omega) (fun q h => by (simp only [go_sem, ↓vmP2, ↓vmD, ↓vmK, ↓trK, ↓reduceIte]; exact inK_short c (by unfold iConvD; rw [if_pos (by omega)]) h)) (fun q1 => ?_)
 simp only [go_sem, ↓vmP2, ↓vmD, ↓vmK, ↓trK, ↓reduceIte]
 refine kind_wc l 2 _ _ _ _ _ _ _ _ _ _ _ _ hm (by omega) (fun q h => by (simp only [go_sem, ↓vmP2, ↓vmD, ↓vmK, ↓trK, ↓reduceIte]; exact inK_short c (by unfold iConvD; rw [if_pos (by omega)]) h)) (fun q2 => ?_)
 simp only [go_sem, ↓vmP2, ↓vmD, ↓vmK, ↓trK, ↓reduceIte, iC]
 refine number2_wc _ _ _ ?_
 simp only [go_sem, ↓vmP2, ↓vmD, ↓vmK, ↓trK, ↓reduceIte]
 refine must_wc _ _ _ _ _ _ ?_
 simp only [go_sem, ↓vmP2, ↓vmD, ↓vmK, ↓trK, ↓reduceIte]
 refine sub_wc l 3 _ _ _ _ _ _ _ _ _ _ _ _ hm (by omega) (fun q h => by (simp only [go_sem, ↓vmP2, ↓vmD, ↓vmK, ↓trK, ↓reduceIte]; exact inK_short c (by unfold iConvD; rw [if_pos (by omega)]) h)) (fun q3 => ?_)
 simp only [go_sem, ↓vmP2, ↓vmD, ↓vmK, ↓trK, ↓reduceIte, iC]
 refine number2_wc _ _ _ ?_
 simp only [go_sem, ↓vmP2, ↓vmD, ↓vmK, ↓trK, ↓reduceIte]
 refine must_wc _ _ _ _ _ _ ?_
 unfold InK iConvD at c
 rw [if_neg (by omega)] at c
 simp only [gd l 1 q1, gd l 2 q2, gd l 3 q3] at c
 simp only [go_sem, ↓vmP2, ↓vmD, ↓vmK, ↓trK, ↓reduceIte, iC, idV, idS, idB, idB_by, rdr, decide_true]
 exact c

def iRetD (l : List Int) (o : Int) : DR := if l.length < 1 then .short else .ok 1 (false) (iC o 0 0 0 0 0 0 0 0)
set_option maxRecDepth 100000 in
theorem iRet_wc (l : List Int) (o : Int) (K : Out → Hp → Prop) (hm : BY l) (q0 : 0 < l.length) (e0 : l[0] = o) (ho : o = 24) (c : InK l (iRetD l o) K) :
  WC Try.prog 91 [.s (.p 0 0)] [rdr l.length 0 false, .ro (byC l)] K := by
 subst ho
 refine wc_trunc 2 (by simp) ?_
 refine wc_intro Try.func91 rfl rfl (by kernel_rfl) (by simp [Try.f91]) ?_
 simp only [go_sem, ↓vmP2, ↓vmD, ↓vmK, ↓trK, ↓reduceIte, Try.f91]
 refine byte_wc l 0 false _ _ hm (by omega) (fun q => absurd q (by omega)) (fun q => ?_)
 simp only [go_sem, ↓vmP2, ↓vmD, ↓vmK, ↓trK, ↓reduceIte, iC, e0]
 unfold InK iRetD at c
 rw [if_neg (by omega)] at c
 skip
 simp only [go_sem, ↓vmP2, ↓vmD, ↓vmK, ↓trK, ↓reduceIte, iC, idV, idS, idB, idB_by, rdr, decide_true]
 exact c

def iCallD (l : List Int) (o : Int) : DR := if l.length < 5 then .short else .ok 5 (false || !inR (num4 l 1) [(-2147483648, 2147483647)]) (iC o 0 0 0 0 0 0 (num4 l 1) 0)
set_option maxRecDepth 100000 in
theorem iCall_wc (l : List Int) (o : Int) (K : Out → Hp → Prop) (hm : BY l) (q0 : 0 < l.length) (e0 : l[0] = o) (ho : o = 23) (c : InK l (iCallD l o) K) :
  WC Try.prog 91 [.s (.p 0 0)] [rdr l.length 0 false, .ro (byC l)] K := by
 subst ho
 refine wc_trunc 2 (by simp) ?_
 refine wc_intro Try.func91 rfl rfl (by kernel_rfl) (by simp [Try.f91]) ?_
 simp only [go_sem, ↓vmP2, ↓vmD, ↓vmK, ↓trK, ↓reduceIte, Try.f91]
 refine byte_wc l 0 false _ _ hm (by omega) (fun q => absurd q (by omega)) (fun q => ?_)
 simp only [go_sem, ↓vmP2, ↓vmD, ↓vmK, ↓trK, ↓reduceIte, iC, e0]
 refine four_at l 1 _ _ _ hm (by omega) rfl rfl _ (fun q h => by (simp only [go_sem, ↓vmP2, ↓vmD, ↓vmK, ↓trK, ↓reduceIte]; exact inK_short c (by unfold iCallD; rw [if_pos (by omega)]) h)) (fun q1' => ?_)
 unfold InK iCallD at c
 rw [if_neg (by omega)] at c
 simp only [go_sem, ↓vmP2, ↓vmD, ↓vmK, ↓trK, ↓reduceIte, iC, idV, idS, idB, idB_by, rdr, decide_true]
 exact c

def iChkD (l : List Int) (o : Int) : DR := if l.length < 5 then .short else .ok 5 (false || !inR (num4 l 1) [(0, 2147483647)]) (iC o 0 0 0 0 0 0 (num4 l 1) 0)
set_option maxRecDepth 100000 in
theorem iChk_wc (l : List Int) (o : Int) (K : Out → Hp → Prop) (hm : BY l) (q0 : 0 < l.length) (e0 : l[0] = o) (ho : o = 25) (c : InK l (iChkD l o) K) :
  WC Try.prog 91 [.s (.p 0 0)] [rdr l.length 0 false, .ro (byC l)] K := by
 subst ho
 refine wc_trunc 2 (by simp) ?_
 refine wc_intro Try.func91 rfl rfl (by kernel_rfl) (by simp [Try.f91]) ?_
 simp only [go_sem, ↓vmP2, ↓vmD, ↓vmK, ↓trK, ↓reduceIte, Try.f91]
 refine byte_wc l 0 false _ _ hm (by omega) (fun q => absurd q (by omega)) (fun q => ?_)
 simp only [go_sem, ↓vmP2, ↓vmD, ↓vmK, ↓trK, ↓reduceIte, iC, e0]
 refine four_at l 1 _ _ _ hm (by omega) rfl rfl _ (fun q h => by (simp only [go_sem, ↓vmP2, ↓vmD, ↓vmK, ↓trK, ↓reduceIte]; exact inK_short c (by unfold iChkD; rw [if_pos (by omega)]) h)) (fun q1' => ?_)
 unfold InK iChkD at c
 rw [if_neg (by omega)] at c
 simp only [go_sem, ↓vmP2, ↓vmD, ↓vmK, ↓trK, ↓reduceIte, iC, idV, idS, idB, idB_by, rdr, decide_true]
 exact c

def iPanicD (l : List Int) (o : Int) : DR := if l.length < 5 then .short else .ok 5 (false || !inR (num4 l 1) [(1, 2147483647)]) (iC o 0 0 0 0 0 0 (num4 l 1) 0)
set_option maxRecDepth 100000 in
theorem iPanic_wc (l : List Int) (o : Int) (K : Out → Hp → Prop) (hm : BY l) (q0 : 0 < l.length) (e0 : l[0] = o) (ho : o = 29) (c : InK l (iPanicD l o) K) :
  WC Try.prog 91 [.s (.p 0 0)] [rdr l.length 0 false, .ro (byC l)] K := by
 subst ho
 refine wc_trunc 2 (by simp) ?_
 refine wc_intro Try.func91 rfl rfl (by kernel_rfl) (by simp [Try.f91]) ?_
 simp only [go_sem, ↓vmP2, ↓vmD, ↓vmK, ↓trK, ↓reduceIte, Try.f91]
 refine byte_wc l 0 false _ _ hm (by omega) (fun q => absurd q (by omega)) (fun q => ?_)
 simp only [go_sem, ↓vmP2, ↓vmD, ↓vmK, ↓trK, ↓reduceIte, iC, e0]
 refine four_at l 1 _ _ _ hm (by omega) rfl rfl _ (fun q h => by (simp only [go_sem, ↓vmP2, ↓vmD, ↓vmK, ↓trK, ↓reduceIte]; exact inK_short c (by unfold iPanicD; rw [if_pos (by omega)]) h)) (fun q1' => ?_)
 unfold InK iPanicD at c
 rw [if_neg (by omega)] at c
 simp only [go_sem, ↓vmP2, ↓vmD, ↓vmK, ↓trK, ↓reduceIte, iC, idV, idS, idB, idB_by, rdr, decide_true]
 exact c

def iMovID (l : List Int) (o : Int) : DR := if l.length < 2 then .short else if 2 < (l.getD 1 0 % 16) then .form else if l.length < 2 + bytesF (l.getD 1 0 % 16) then .short else .ok (2 + bytesF (l.getD 1 0 % 16)) (false || !inR (numV l 2 (bytesF (l.getD 1 0 % 16))) (sizedF (l.getD 1 0 % 16) (-9223372036854775808) 9223372036854775807)) (iC o (l.getD 1 0 / 16) 0 0 0 0 0 (numV l 2 (bytesF (l.getD 1 0 % 16))) 0)
set_option maxRecDepth 100000 in
theorem iMovI_wc (l : List Int) (o : Int) (K : Out → Hp → Prop) (hm : BY l) (q0 : 0 < l.length) (e0 : l[0] = o) (ho : o = 1) (c : InK l (iMovID l o) K) :
  WC Try.prog 91 [.s (.p 0 0)] [rdr l.length 0 false, .ro (byC l)] K := by
 subst ho
 refine wc_trunc 2 (by simp) ?_
 refine wc_intro Try.func91 rfl rfl (by kernel_rfl) (by simp [Try.f91]) ?_
 simp only [go_sem, ↓vmP2, ↓vmD, ↓vmK, ↓trK, ↓reduceIte, Try.f91]
 refine byte_wc l 0 false _ _ hm (by omega) (fun q => absurd q (by omega)) (fun q => ?_)
 simp only [go_sem, ↓vmP2, ↓vmD, ↓vmK, ↓trK, ↓reduceIte, iC, e0]
 refine an_wc l 1 _ _ _ _ _ _ _ _ _ _ _ _ hm (by omega) (fun q h => by (simp only [go_sem, ↓vmP2, ↓vmD, ↓vmK, ↓trK, ↓reduceIte]; exact inK_short c (by unfold iMovID; rw [if_pos (by omega)]) h)) 2 (fun q1 r h => by (simp only [go_sem, ↓vmP2, ↓vmD, ↓vmK, ↓trK, ↓reduceIte]; exact inK_form c (by unfold iMovID; rw [if_neg (by omega), gd l 1 q1, if_pos r]) h)) (fun q1 r => ?_)
 have hb := hm.2 1 q1
 have hn : (l[1] % 16) = 0 ∨ (l[1] % 16) = 1 ∨ (l[1] % 16) = 2 := by omega
 have hge := bytesF_ge (l[1] % 16)
 have hsh : l.length < 2 + bytesF (l[1] % 16) → ∀ h, K (.pan (E 41)) h := fun w h => inK_short c (by unfold iMovID; rw [if_neg (by omega), gd l 1 q1, if_neg (by omega), if_pos w]) h
 simp only [go_sem, ↓vmP2, ↓vmD, ↓vmK, ↓trK, ↓reduceIte, iC]
 refine sw_draw (.take 0 (.take 1 (.take 3 (.all [(2, .all [(4, .all [(5, .all [(6, .take 7 (.all [(8, .done)]))])])]), (4, .all [(2, .all [(5, .all [(6, .take 7 (.all [(8, .done)]))])])])])))) mo (by kernel_rfl) (by kernel_rfl) (by kernel_rfl) (fun _ _ _ h => h) ?_
 simp only [go_sem, ↓vmP2, ↓vmD, ↓vmK, ↓trK, ↓reduceIte]
 refine ⟨?_, ?_⟩
 all_goals
  refine bytes_wc _ hn _ _ ?_
  simp only [go_sem, ↓vmP2, ↓vmD, ↓vmK, ↓trK, ↓reduceIte]
  refine sized_at _ _ _ _ _ hn ?_
  simp only [go_sem, ↓vmP2, ↓vmD, ↓vmK, ↓trK, ↓reduceIte]
  refine number_at l 2 _ _ _ hm (by omega) rfl rfl 5 (bytesF (l[1] % 16)) _ _ _ rfl rfl rfl (by omega) (bytesF_le _) (sizedF_le _ _ _) (fun q h => by (simp only [go_sem, ↓vmP2, ↓vmD, ↓vmK, ↓trK, ↓reduceIte]; exact hsh q h)) (fun q3 => ?_)
  unfold InK iMovID at c
  rw [if_neg (by omega), gd l 1 q1, if_neg (by omega), if_neg (by omega)] at c
  simp only [go_sem, ↓vmP2, ↓vmD, ↓vmK, ↓trK, ↓reduceIte, iC, idV, idS, idB, idB_by, rdr, decide_true]
  exact c

def iJmpD (l : List Int) (o : Int) : DR := if l.length < 2 then .short else if 1 < (l.getD 1 0) then .form else if l.length < 2 + bytesF (l.getD 1 0) then .short else .ok (2 + bytesF (l.getD 1 0)) (false || !inR (numV l 2 (bytesF (l.getD 1 0))) (sizedF (l.getD 1 0) (-2147483648) 2147483647)) (iC o 0 0 0 0 0 0 (numV l 2 (bytesF (l.getD 1 0))) 0)
set_option maxRecDepth 100000 in
theorem iJmp_wc (l : List Int) (o : Int) (K : Out → Hp → Prop) (hm : BY l) (q0 : 0 < l.length) (e0 : l[0] = o) (ho : o = 19) (c : InK l (iJmpD l o) K) :
  WC Try.prog 91 [.s (.p 0 0)] [rdr l.length 0 false, .ro (byC l)] K := by
 subst ho
 refine wc_trunc 2 (by simp) ?_
 refine wc_intro Try.func91 rfl rfl (by kernel_rfl) (by simp [Try.f91]) ?_
 simp only [go_sem, ↓vmP2, ↓vmD, ↓vmK, ↓trK, ↓reduceIte, Try.f91]
 refine byte_wc l 0 false _ _ hm (by omega) (fun q => absurd q (by omega)) (fun q => ?_)
 simp only [go_sem, ↓vmP2, ↓vmD, ↓vmK, ↓trK, ↓reduceIte, iC, e0]
 refine byte_wc l 1 false _ _ hm (by omega) (fun q => by (simp only [go_sem, ↓vmP2, ↓vmD, ↓vmK, ↓trK, ↓reduceIte]; exact inK_short c (by unfold iJmpD; rw [if_pos (by omega)]) _)) (fun q1 => ?_)
 have hb := hm.2 1 q1
 simp only [go_sem, ↓vmP2, ↓vmD, ↓vmK, ↓trK, ↓reduceIte, iC]
 refine size_wc _ _ _ _ (fun r => by (simp only [go_sem, ↓vmP2, ↓vmD, ↓vmK, ↓trK, ↓reduceIte]; exact inK_form c (by unfold iJmpD; rw [if_neg (by omega), gd l 1 q1, if_pos r]) _)) (fun r => ?_)
 have hn : (l[1]) = 0 ∨ (l[1]) = 1 ∨ (l[1]) = 2 := by omega
 have hge := bytesF_ge (l[1])
 have hsh : l.length < 2 + bytesF (l[1]) → ∀ h, K (.pan (E 41)) h := fun w h => inK_short c (by unfold iJmpD; rw [if_neg (by omega), gd l 1 q1, if_neg (by omega), if_pos w]) h
 simp only [go_sem, ↓vmP2, ↓vmD, ↓vmK, ↓trK, ↓reduceIte, iC]
 refine bytes_wc _ hn _ _ ?_
 simp only [go_sem, ↓vmP2, ↓vmD, ↓vmK, ↓trK, ↓reduceIte]
 refine held_wc _ _ _ ?_
 simp only [go_sem, ↓vmP2, ↓vmD, ↓vmK, ↓trK, ↓reduceIte]
 refine sized_at _ _ _ _ _ hn ?_
 simp only [go_sem, ↓vmP2, ↓vmD, ↓vmK, ↓trK, ↓reduceIte]
 refine number_at l 2 _ _ _ hm (by omega) rfl rfl 5 (bytesF (l[1])) _ _ _ rfl rfl rfl (by omega) (bytesF_le _) (sizedF_le _ _ _) (fun q h => by (simp only [go_sem, ↓vmP2, ↓vmD, ↓vmK, ↓trK, ↓reduceIte]; exact hsh q h)) (fun q3 => ?_)
 unfold InK iJmpD at c
 rw [if_neg (by omega), gd l 1 q1, if_neg (by omega), if_neg (by omega)] at c
 simp only [go_sem, ↓vmP2, ↓vmD, ↓vmK, ↓trK, ↓reduceIte, iC, idV, idS, idB, idB_by, rdr, decide_true]
 exact c

end Go.Proofs.Ytahepinbmcgbnaa.Vm
