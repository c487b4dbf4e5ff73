/- Contracts of package cisc's reader: instructions that reckon. No condition. -/
import Derived.Test.YtahepinbmcgbnaaVmY
import Derived.Test.YtahepinbmcgbnaaVc6
set_option linter.unusedVariables false
set_option linter.unusedSimpArgs false
namespace Go.Proofs.Ytahepinbmcgbnaa.Vm
open Go.RowKit Go.Proofs.Ytahepinbmcgbnaa.PV Go.Proofs.Ytahepinbmcgbnaa.Wd Go.Proofs.YtahepinbmcgbnaaW.PrintWords
attribute [local go_sem] opR moveR pickR allocR boxR ld1R ldgR ldR loadR st2R st1R storeR nilR faR fieldAddrR fdR fieldR ixR indexAddrR extR extractR intR shR isSh eqR bin2R sEqR intsOf binR unR convR miR panR fillP partsR bld2R bld1R buildR bldAR build2R ix1R indexR mxR mmR bs2R bs1R buildSliceR pvOf okT no1T noT taR mfR ptrsR ms1R makeSliceR bnd sl1R so1R sliceR argsR ca1R callR lenR ap2R srcR ap1R appendR lenA appA calR ev cst lk rm pt ins rmO ent gval cellsOf scell TI.agg Sh.agg re1 res1 resR is1 vmQ vmH vmE bin3R index2R strIxR ifR nnR stR oneP oneW opP vmQ2 tA0 tA1 tA2 tA3 tA4 tA5 tA6 tA7 tA8 tA9 tA10 tA11 tA12 tA13 tA14 tA15 oA0 oA1 oA2 oA3 oA4 oA5 oA6 oA7 oA8 oA9 oA10 oA11 oA12 oA13 oA14 reduceCtorEq Nat.reduceEqDiff Nat.reduceAdd Nat.reduceLeDiff Nat.reduceLT Nat.reduceMul Nat.reducePow Nat.reduceSub Int.reduceBEq Int.reduceBNe ne_eq Int.reduceEq not_false_eq_true Bool.false_eq_true Nat.reduceBEq List.getElem?_cons_zero List.getElem?_cons_succ List.map_cons List.map_nil List.length_cons List.length_nil List.drop_succ_cons List.drop_zero List.take_succ_cons List.take_zero List.take_nil List.drop_nil List.append_nil List.nil_append List.cons_append List.set_cons_zero List.set_cons_succ List.all_cons List.all_nil Bool.and_true Bool.and_self cond_true cond_false Option.map_some Option.map_none and_self true_and and_true List.append_eq
def cnd1 (k s a b : Int) : Bool := !wh k || !sp s || (a == 0 && b != 0 && b != 2)
def cnd2 (s a b : Int) : Bool := !sh s || (b == 1 && a != 1)
def cnd5 (k s : Int) : Bool := has s k && !sp s
def cnd6 (k s : Int) : Bool := has s k && !sh s && (!wh k || !sp s)
def iBinD (l : List Int) (o : Int) : DR := if l.length < 4 then .short else
 .ok 4 ((((false || !decide (Wi (l.getD 2 0) > 0)) || !has (l.getD 3 0) (l.getD 2 0)) || !cnd1 (l.getD 2 0) (l.getD 3 0) (l.getD 1 0 / 16) (l.getD 1 0 % 16)) || !cnd2 (l.getD 3 0) (l.getD 1 0 / 16) (l.getD 1 0 % 16))
  (iC o (l.getD 1 0 / 16) (l.getD 1 0 % 16) 0 (l.getD 2 0) (l.getD 3 0) 0 0 0)
set_option maxRecDepth 100000 in
set_option maxHeartbeats 8000000 in
theorem iBin_wc (l : List Int) (o : Int) (K : Out → Hp → Prop) (hm : BY l) (q0 : 0 < l.length) (e0 : l[0] = o) (ho : o = 4) (c : InK l (iBinD l o) K) :
  WC Try.prog 91 [.s (.p 0 0)] [rdr l.length 0 false, .ro (byC l)] K := by
 subst ho
 refine wc_trunc 2 (by simp) ?_
 refine wc_intro Try.func91 rfl rfl (by kernel_rfl) (by simp [Try.f91]) ?_
 simp only [go_sem, ↓vmP2, ↓vmD, ↓vmK, ↓trK, ↓reduceIte, Try.f91]
 refine byte_wc l 0 false _ _ hm (by omega) (fun q => absurd q (by omega)) (fun q => ?_)
 simp only [go_sem, ↓vmP2, ↓vmD, ↓vmK, ↓trK, ↓reduceIte, iC, e0]
 refine ab_wc l 1 _ _ _ _ _ _ _ _ _ _ _ _ hm (by omega) (fun q h => by (simp only [go_sem, ↓vmP2, ↓vmD, ↓vmK, ↓trK, ↓reduceIte]; exact inK_short c (by unfold iBinD; rw [if_pos (by omega)]) h)) (fun q1 => ?_)
 simp only [go_sem, ↓vmP2, ↓vmD, ↓vmK, ↓trK, ↓reduceIte]
 refine kind_wc l 2 _ _ _ _ _ _ _ _ _ _ _ _ hm (by omega) (fun q h => by (simp only [go_sem, ↓vmP2, ↓vmD, ↓vmK, ↓trK, ↓reduceIte]; exact inK_short c (by unfold iBinD; rw [if_pos (by omega)]) h)) (fun q2 => ?_)
 simp only [go_sem, ↓vmP2, ↓vmD, ↓vmK, ↓trK, ↓reduceIte]
 refine sub_wc l 3 _ _ _ _ _ _ _ _ _ _ _ _ hm (by omega) (fun q h => by (simp only [go_sem, ↓vmP2, ↓vmD, ↓vmK, ↓trK, ↓reduceIte]; exact inK_short c (by unfold iBinD; rw [if_pos (by omega)]) h)) (fun q3 => ?_)
 simp only [go_sem, ↓vmP2, ↓vmD, ↓vmK, ↓trK, ↓reduceIte, iC]
 refine bin_wc _ _ _ _ ?_
 simp only [go_sem, ↓vmP2, ↓vmD, ↓vmK, ↓trK, ↓reduceIte]
 refine must_wc _ _ _ _ _ _ ?_
 unfold InK iBinD at c
 rw [if_neg (by omega)] at c
 simp only [gd l 1 q1, gd l 2 q2, gd l 3 q3] at c
 simp only [go_sem, ↓vmP2, ↓vmD, ↓vmK, ↓trK, ↓reduceIte]
 refine whole_wc _ _ _ ?_
 simp only [go_sem, ↓vmP2, ↓vmD, ↓vmK, ↓trK, ↓reduceIte]
 refine gdC_sp (fun z => ?_) (fun z => ?_)
 ·have e1 : cnd1 l[2] l[3] (l[1] / 16) (l[1] % 16) = true := by unfold cnd1; rw [z]; rfl
  rw [e1] at c
  simp only [go_sem, ↓vmP2, ↓vmD, ↓vmK, ↓trK, ↓reduceIte, z]
  refine must_wc _ _ _ _ _ _ ?_
  simp only [go_sem, ↓vmP2, ↓vmD, ↓vmK, ↓trK, ↓reduceIte]
  refine shift_wc _ _ _ ?_
  simp only [go_sem, ↓vmP2, ↓vmD, ↓vmK, ↓trK, ↓reduceIte]
  refine gdC_sp (fun v => ?_) (fun v => ?_)
  ·have e2 : cnd2 l[3] (l[1] / 16) (l[1] % 16) = true := by unfold cnd2; rw [v]; rfl
   rw [e2] at c
   simp only [go_sem, ↓vmP2, ↓vmD, ↓vmK, ↓trK, ↓reduceIte, v]
   refine must_wc _ _ _ _ _ _ ?_
   simp only [go_sem, ↓vmP2, ↓vmD, ↓vmK, ↓trK, ↓reduceIte, iC, idV, idS, idB, idB_by, rdr, decide_true]
   exact c
  ·simp only [go_sem, ↓vmP2, ↓vmD, ↓vmK, ↓trK, ↓reduceIte, v]
   refine gdC_sp (fun t => ?_) (fun t => ?_)
   ·have e2 : cnd2 l[3] (l[1] / 16) (l[1] % 16) = (l[1] / 16 != 1) := by unfold cnd2; rw [v, t]; rfl
    rw [e2] at c
    simp only [go_sem, ↓vmP2, ↓vmD, ↓vmK, ↓trK, ↓reduceIte, v, t]
    refine must_wc _ _ _ _ _ _ ?_
    simp only [go_sem, ↓vmP2, ↓vmD, ↓vmK, ↓trK, ↓reduceIte, iC, idV, idS, idB, idB_by, rdr, decide_true]
    exact c
   ·have e2 : cnd2 l[3] (l[1] / 16) (l[1] % 16) = false := by unfold cnd2; rw [v, t]; rfl
    rw [e2] at c
    simp only [go_sem, ↓vmP2, ↓vmD, ↓vmK, ↓trK, ↓reduceIte, v, t]
    refine must_wc _ _ _ _ _ _ ?_
    simp only [go_sem, ↓vmP2, ↓vmD, ↓vmK, ↓trK, ↓reduceIte, iC, idV, idS, idB, idB_by, rdr, decide_true]
    exact c
 ·simp only [go_sem, ↓vmP2, ↓vmD, ↓vmK, ↓trK, ↓reduceIte, z]
  refine split_wc _ _ _ ?_
  simp only [go_sem, ↓vmP2, ↓vmD, ↓vmK, ↓trK, ↓reduceIte, z]
  refine gdC_sp (fun y => ?_) (fun y => ?_)
  ·have e1 : cnd1 l[2] l[3] (l[1] / 16) (l[1] % 16) = true := by unfold cnd1; rw [z, y]; rfl
   rw [e1] at c
   simp only [go_sem, ↓vmP2, ↓vmD, ↓vmK, ↓trK, ↓reduceIte, z, y]
   refine must_wc _ _ _ _ _ _ ?_
   simp only [go_sem, ↓vmP2, ↓vmD, ↓vmK, ↓trK, ↓reduceIte]
   refine shift_wc _ _ _ ?_
   simp only [go_sem, ↓vmP2, ↓vmD, ↓vmK, ↓trK, ↓reduceIte]
   refine gdC_sp (fun v => ?_) (fun v => ?_)
   ·have e2 : cnd2 l[3] (l[1] / 16) (l[1] % 16) = true := by unfold cnd2; rw [v]; rfl
    rw [e2] at c
    simp only [go_sem, ↓vmP2, ↓vmD, ↓vmK, ↓trK, ↓reduceIte, v]
    refine must_wc _ _ _ _ _ _ ?_
    simp only [go_sem, ↓vmP2, ↓vmD, ↓vmK, ↓trK, ↓reduceIte, iC, idV, idS, idB, idB_by, rdr, decide_true]
    exact c
   ·simp only [go_sem, ↓vmP2, ↓vmD, ↓vmK, ↓trK, ↓reduceIte, v]
    refine gdC_sp (fun t => ?_) (fun t => ?_)
    ·have e2 : cnd2 l[3] (l[1] / 16) (l[1] % 16) = (l[1] / 16 != 1) := by unfold cnd2; rw [v, t]; rfl
     rw [e2] at c
     simp only [go_sem, ↓vmP2, ↓vmD, ↓vmK, ↓trK, ↓reduceIte, v, t]
     refine must_wc _ _ _ _ _ _ ?_
     simp only [go_sem, ↓vmP2, ↓vmD, ↓vmK, ↓trK, ↓reduceIte, iC, idV, idS, idB, idB_by, rdr, decide_true]
     exact c
    ·have e2 : cnd2 l[3] (l[1] / 16) (l[1] % 16) = false := by unfold cnd2; rw [v, t]; rfl
     rw [e2] at c
     simp only [go_sem, ↓vmP2, ↓vmD, ↓vmK, ↓trK, ↓reduceIte, v, t]
     refine must_wc _ _ _ _ _ _ ?_
     simp only [go_sem, ↓vmP2, ↓vmD, ↓vmK, ↓trK, ↓reduceIte, iC, idV, idS, idB, idB_by, rdr, decide_true]
     exact c
  ·simp only [go_sem, ↓vmP2, ↓vmD, ↓vmK, ↓trK, ↓reduceIte, z, y]
   refine gdC_sp (fun x => ?_) (fun x => ?_)
   ·simp only [go_sem, ↓vmP2, ↓vmD, ↓vmK, ↓trK, ↓reduceIte, z, y, x]
    refine gdC_sp (fun u => ?_) (fun u => ?_)
    ·have e1 : cnd1 l[2] l[3] (l[1] / 16) (l[1] % 16) = (l[1] % 16 != 2) := by unfold cnd1; rw [z, y, x, u]; rfl
     rw [e1] at c
     simp only [go_sem, ↓vmP2, ↓vmD, ↓vmK, ↓trK, ↓reduceIte, z, y, x, u]
     refine must_wc _ _ _ _ _ _ ?_
     simp only [go_sem, ↓vmP2, ↓vmD, ↓vmK, ↓trK, ↓reduceIte]
     refine shift_wc _ _ _ ?_
     simp only [go_sem, ↓vmP2, ↓vmD, ↓vmK, ↓trK, ↓reduceIte]
     refine gdC_sp (fun v => ?_) (fun v => ?_)
     ·have e2 : cnd2 l[3] (l[1] / 16) (l[1] % 16) = true := by unfold cnd2; rw [v]; rfl
      rw [e2] at c
      simp only [go_sem, ↓vmP2, ↓vmD, ↓vmK, ↓trK, ↓reduceIte, v]
      refine must_wc _ _ _ _ _ _ ?_
      simp only [go_sem, ↓vmP2, ↓vmD, ↓vmK, ↓trK, ↓reduceIte, iC, idV, idS, idB, idB_by, rdr, decide_true]
      exact c
     ·simp only [go_sem, ↓vmP2, ↓vmD, ↓vmK, ↓trK, ↓reduceIte, v]
      refine gdC_sp (fun t => ?_) (fun t => ?_)
      ·have e2 : cnd2 l[3] (l[1] / 16) (l[1] % 16) = (l[1] / 16 != 1) := by unfold cnd2; rw [v, t]; rfl
       rw [e2] at c
       simp only [go_sem, ↓vmP2, ↓vmD, ↓vmK, ↓trK, ↓reduceIte, v, t]
       refine must_wc _ _ _ _ _ _ ?_
       simp only [go_sem, ↓vmP2, ↓vmD, ↓vmK, ↓trK, ↓reduceIte, iC, idV, idS, idB, idB_by, rdr, decide_true]
       exact c
      ·have e2 : cnd2 l[3] (l[1] / 16) (l[1] % 16) = false := by unfold cnd2; rw [v, t]; rfl
       rw [e2] at c
       simp only [go_sem, ↓vmP2, ↓vmD, ↓vmK, ↓trK, ↓reduceIte, v, t]
       refine must_wc _ _ _ _ _ _ ?_
       simp only [go_sem, ↓vmP2, ↓vmD, ↓vmK, ↓trK, ↓reduceIte, iC, idV, idS, idB, idB_by, rdr, decide_true]
       exact c
    ·have e1 : cnd1 l[2] l[3] (l[1] / 16) (l[1] % 16) = false := by unfold cnd1; rw [z, y, x, u]; rfl
     rw [e1] at c
     simp only [go_sem, ↓vmP2, ↓vmD, ↓vmK, ↓trK, ↓reduceIte, z, y, x, u]
     refine must_wc _ _ _ _ _ _ ?_
     simp only [go_sem, ↓vmP2, ↓vmD, ↓vmK, ↓trK, ↓reduceIte]
     refine shift_wc _ _ _ ?_
     simp only [go_sem, ↓vmP2, ↓vmD, ↓vmK, ↓trK, ↓reduceIte]
     refine gdC_sp (fun v => ?_) (fun v => ?_)
     ·have e2 : cnd2 l[3] (l[1] / 16) (l[1] % 16) = true := by unfold cnd2; rw [v]; rfl
      rw [e2] at c
      simp only [go_sem, ↓vmP2, ↓vmD, ↓vmK, ↓trK, ↓reduceIte, v]
      refine must_wc _ _ _ _ _ _ ?_
      simp only [go_sem, ↓vmP2, ↓vmD, ↓vmK, ↓trK, ↓reduceIte, iC, idV, idS, idB, idB_by, rdr, decide_true]
      exact c
     ·simp only [go_sem, ↓vmP2, ↓vmD, ↓vmK, ↓trK, ↓reduceIte, v]
      refine gdC_sp (fun t => ?_) (fun t => ?_)
      ·have e2 : cnd2 l[3] (l[1] / 16) (l[1] % 16) = (l[1] / 16 != 1) := by unfold cnd2; rw [v, t]; rfl
       rw [e2] at c
       simp only [go_sem, ↓vmP2, ↓vmD, ↓vmK, ↓trK, ↓reduceIte, v, t]
       refine must_wc _ _ _ _ _ _ ?_
       simp only [go_sem, ↓vmP2, ↓vmD, ↓vmK, ↓trK, ↓reduceIte, iC, idV, idS, idB, idB_by, rdr, decide_true]
       exact c
      ·have e2 : cnd2 l[3] (l[1] / 16) (l[1] % 16) = false := by unfold cnd2; rw [v, t]; rfl
       rw [e2] at c
       simp only [go_sem, ↓vmP2, ↓vmD, ↓vmK, ↓trK, ↓reduceIte, v, t]
       refine must_wc _ _ _ _ _ _ ?_
       simp only [go_sem, ↓vmP2, ↓vmD, ↓vmK, ↓trK, ↓reduceIte, iC, idV, idS, idB, idB_by, rdr, decide_true]
       exact c
   ·have e1 : cnd1 l[2] l[3] (l[1] / 16) (l[1] % 16) = false := by unfold cnd1; rw [z, y, x]; rfl
    rw [e1] at c
    simp only [go_sem, ↓vmP2, ↓vmD, ↓vmK, ↓trK, ↓reduceIte, z, y, x]
    refine must_wc _ _ _ _ _ _ ?_
    simp only [go_sem, ↓vmP2, ↓vmD, ↓vmK, ↓trK, ↓reduceIte]
    refine shift_wc _ _ _ ?_
    simp only [go_sem, ↓vmP2, ↓vmD, ↓vmK, ↓trK, ↓reduceIte]
    refine gdC_sp (fun v => ?_) (fun v => ?_)
    ·have e2 : cnd2 l[3] (l[1] / 16) (l[1] % 16) = true := by unfold cnd2; rw [v]; rfl
     rw [e2] at c
     simp only [go_sem, ↓vmP2, ↓vmD, ↓vmK, ↓trK, ↓reduceIte, v]
     refine must_wc _ _ _ _ _ _ ?_
     simp only [go_sem, ↓vmP2, ↓vmD, ↓vmK, ↓trK, ↓reduceIte, iC, idV, idS, idB, idB_by, rdr, decide_true]
     exact c
    ·simp only [go_sem, ↓vmP2, ↓vmD, ↓vmK, ↓trK, ↓reduceIte, v]
     refine gdC_sp (fun t => ?_) (fun t => ?_)
     ·have e2 : cnd2 l[3] (l[1] / 16) (l[1] % 16) = (l[1] / 16 != 1) := by unfold cnd2; rw [v, t]; rfl
      rw [e2] at c
      simp only [go_sem, ↓vmP2, ↓vmD, ↓vmK, ↓trK, ↓reduceIte, v, t]
      refine must_wc _ _ _ _ _ _ ?_
      simp only [go_sem, ↓vmP2, ↓vmD, ↓vmK, ↓trK, ↓reduceIte, iC, idV, idS, idB, idB_by, rdr, decide_true]
      exact c
     ·have e2 : cnd2 l[3] (l[1] / 16) (l[1] % 16) = false := by unfold cnd2; rw [v, t]; rfl
      rw [e2] at c
      simp only [go_sem, ↓vmP2, ↓vmD, ↓vmK, ↓trK, ↓reduceIte, v, t]
      refine must_wc _ _ _ _ _ _ ?_
      simp only [go_sem, ↓vmP2, ↓vmD, ↓vmK, ↓trK, ↓reduceIte, iC, idV, idS, idB, idB_by, rdr, decide_true]
      exact c
def iBinMD (l : List Int) (o : Int) : DR := if l.length < 8 then .short else
 .ok 8 (((false || !decide (Wi (l.getD 2 0) > 0)) || !cnd6 (l.getD 2 0) (l.getD 3 0)) || !small (num4 l 4)) (iC o (l.getD 1 0 / 16) (l.getD 1 0 % 16) 0 (l.getD 2 0) (l.getD 3 0) 0 (num4 l 4) 0)
set_option maxRecDepth 100000 in
set_option maxHeartbeats 8000000 in
theorem iBinM_wc (l : List Int) (o : Int) (K : Out → Hp → Prop) (hm : BY l) (q0 : 0 < l.length) (e0 : l[0] = o) (ho : o = 6) (c : InK l (iBinMD l o) K) :
  WC Try.prog 91 [.s (.p 0 0)] [rdr l.length 0 false, .ro (byC l)] K := by
 subst ho
 refine wc_trunc 2 (by simp) ?_
 refine wc_intro Try.func91 rfl rfl (by kernel_rfl) (by simp [Try.f91]) ?_
 simp only [go_sem, ↓vmP2, ↓vmD, ↓vmK, ↓trK, ↓reduceIte, Try.f91]
 refine byte_wc l 0 false _ _ hm (by omega) (fun q => absurd q (by omega)) (fun q => ?_)
 simp only [go_sem, ↓vmP2, ↓vmD, ↓vmK, ↓trK, ↓reduceIte, iC, e0]
 refine ab_wc l 1 _ _ _ _ _ _ _ _ _ _ _ _ hm (by omega) (fun q h => by (simp only [go_sem, ↓vmP2, ↓vmD, ↓vmK, ↓trK, ↓reduceIte]; exact inK_short c (by unfold iBinMD; rw [if_pos (by omega)]) h)) (fun q1 => ?_)
 simp only [go_sem, ↓vmP2, ↓vmD, ↓vmK, ↓trK, ↓reduceIte]
 refine kind_wc l 2 _ _ _ _ _ _ _ _ _ _ _ _ hm (by omega) (fun q h => by (simp only [go_sem, ↓vmP2, ↓vmD, ↓vmK, ↓trK, ↓reduceIte]; exact inK_short c (by unfold iBinMD; rw [if_pos (by omega)]) h)) (fun q2 => ?_)
 simp only [go_sem, ↓vmP2, ↓vmD, ↓vmK, ↓trK, ↓reduceIte]
 refine sub_wc l 3 _ _ _ _ _ _ _ _ _ _ _ _ hm (by omega) (fun q h => by (simp only [go_sem, ↓vmP2, ↓vmD, ↓vmK, ↓trK, ↓reduceIte]; exact inK_short c (by unfold iBinMD; rw [if_pos (by omega)]) h)) (fun q3 => ?_)
 simp only [go_sem, ↓vmP2, ↓vmD, ↓vmK, ↓trK, ↓reduceIte, iC]
 refine bin_wc _ _ _ _ ?_
 simp only [go_sem, ↓vmP2, ↓vmD, ↓vmK, ↓trK, ↓reduceIte]
 refine gdC_sp (fun z => ?_) (fun z => ?_)
 ·simp only [go_sem, ↓vmP2, ↓vmD, ↓vmK, ↓trK, ↓reduceIte, z]
  refine shift_wc _ _ _ ?_
  simp only [go_sem, ↓vmP2, ↓vmD, ↓vmK, ↓trK, ↓reduceIte, z]
  refine gdC_sp (fun y => ?_) (fun y => ?_)
  ·simp only [go_sem, ↓vmP2, ↓vmD, ↓vmK, ↓trK, ↓reduceIte, z, y]
   refine whole_wc _ _ _ ?_
   simp only [go_sem, ↓vmP2, ↓vmD, ↓vmK, ↓trK, ↓reduceIte, z, y]
   refine gdC_sp (fun x => ?_) (fun x => ?_)
   ·have e1 : cnd6 l[2] l[3] = true := by unfold cnd6; rw [z, y, x]; rfl
    simp only [go_sem, ↓vmP2, ↓vmD, ↓vmK, ↓trK, ↓reduceIte, z, y, x]
    refine must_wc _ _ _ _ _ _ ?_
    simp only [go_sem, ↓vmP2, ↓vmD, ↓vmK, ↓trK, ↓reduceIte]
    refine four_at l 4 _ _ _ hm (by omega) rfl rfl _ (fun q h => by (simp only [go_sem, ↓vmP2, ↓vmD, ↓vmK, ↓trK, ↓reduceIte]; exact inK_short c (by unfold iBinMD; rw [if_pos (by omega)]) h)) (fun q4 => ?_)
    unfold InK iBinMD at c
    rw [if_neg (by omega)] at c
    simp only [gd l 1 q1, gd l 2 q2, gd l 3 q3] at c
    rw [e1] at c
    simp only [go_sem, ↓vmP2, ↓vmD, ↓vmK, ↓trK, ↓reduceIte, iC, idV, idS, idB, idB_by, rdr, decide_true]
    exact c
   ·simp only [go_sem, ↓vmP2, ↓vmD, ↓vmK, ↓trK, ↓reduceIte, z, y, x]
    refine split_wc _ _ _ ?_
    have e1 : cnd6 l[2] l[3] = !sp l[3] := by unfold cnd6; rw [z, y, x]; rfl
    simp only [go_sem, ↓vmP2, ↓vmD, ↓vmK, ↓trK, ↓reduceIte, z, y, x]
    refine must_wc _ _ _ _ _ _ ?_
    simp only [go_sem, ↓vmP2, ↓vmD, ↓vmK, ↓trK, ↓reduceIte]
    refine four_at l 4 _ _ _ hm (by omega) rfl rfl _ (fun q h => by (simp only [go_sem, ↓vmP2, ↓vmD, ↓vmK, ↓trK, ↓reduceIte]; exact inK_short c (by unfold iBinMD; rw [if_pos (by omega)]) h)) (fun q4 => ?_)
    unfold InK iBinMD at c
    rw [if_neg (by omega)] at c
    simp only [gd l 1 q1, gd l 2 q2, gd l 3 q3] at c
    rw [e1] at c
    simp only [go_sem, ↓vmP2, ↓vmD, ↓vmK, ↓trK, ↓reduceIte, iC, idV, idS, idB, idB_by, rdr, decide_true]
    exact c
  ·have e1 : cnd6 l[2] l[3] = false := by unfold cnd6; rw [z, y]; rfl
   simp only [go_sem, ↓vmP2, ↓vmD, ↓vmK, ↓trK, ↓reduceIte, z, y]
   refine must_wc _ _ _ _ _ _ ?_
   simp only [go_sem, ↓vmP2, ↓vmD, ↓vmK, ↓trK, ↓reduceIte]
   refine four_at l 4 _ _ _ hm (by omega) rfl rfl _ (fun q h => by (simp only [go_sem, ↓vmP2, ↓vmD, ↓vmK, ↓trK, ↓reduceIte]; exact inK_short c (by unfold iBinMD; rw [if_pos (by omega)]) h)) (fun q4 => ?_)
   unfold InK iBinMD at c
   rw [if_neg (by omega)] at c
   simp only [gd l 1 q1, gd l 2 q2, gd l 3 q3] at c
   rw [e1] at c
   simp only [go_sem, ↓vmP2, ↓vmD, ↓vmK, ↓trK, ↓reduceIte, iC, idV, idS, idB, idB_by, rdr, decide_true]
   exact c
 ·have e1 : cnd6 l[2] l[3] = false := by unfold cnd6; rw [z]; rfl
  simp only [go_sem, ↓vmP2, ↓vmD, ↓vmK, ↓trK, ↓reduceIte, z]
  refine must_wc _ _ _ _ _ _ ?_
  simp only [go_sem, ↓vmP2, ↓vmD, ↓vmK, ↓trK, ↓reduceIte]
  refine four_at l 4 _ _ _ hm (by omega) rfl rfl _ (fun q h => by (simp only [go_sem, ↓vmP2, ↓vmD, ↓vmK, ↓trK, ↓reduceIte]; exact inK_short c (by unfold iBinMD; rw [if_pos (by omega)]) h)) (fun q4 => ?_)
  unfold InK iBinMD at c
  rw [if_neg (by omega)] at c
  simp only [gd l 1 q1, gd l 2 q2, gd l 3 q3] at c
  rw [e1] at c
  simp only [go_sem, ↓vmP2, ↓vmD, ↓vmK, ↓trK, ↓reduceIte, iC, idV, idS, idB, idB_by, rdr, decide_true]
  exact c
def iBinID (l : List Int) (o : Int) : DR := if l.length < 2 then .short else if 1 < l.getD 1 0 % 16 then .form else if l.length < 4 + bytesF (l.getD 1 0 % 16) then .short else
 .ok (4 + bytesF (l.getD 1 0 % 16)) ((((false || !decide (Wi (l.getD 2 0) > 0)) || !wh (l.getD 2 0)) || !cnd5 (l.getD 2 0) (l.getD 3 0)) || !inR (numV l 4 (bytesF (l.getD 1 0 % 16))) (sizedF (l.getD 1 0 % 16) (heldF (if sh (l.getD 3 0) = true then 9 else l.getD 2 0)).1 (heldF (if sh (l.getD 3 0) = true then 9 else l.getD 2 0)).2))
  (iC o (l.getD 1 0 / 16) 0 0 (l.getD 2 0) (l.getD 3 0) 0 (numV l 4 (bytesF (l.getD 1 0 % 16))) 0)
set_option maxRecDepth 100000 in
set_option maxHeartbeats 8000000 in
theorem iBinI_wc (l : List Int) (o : Int) (K : Out → Hp → Prop) (hm : BY l) (q0 : 0 < l.length) (e0 : l[0] = o) (ho : o = 5) (c : InK l (iBinID l o) K) :
  WC Try.prog 91 [.s (.p 0 0)] [rdr l.length 0 false, .ro (byC l)] K := by
 subst ho
 refine wc_trunc 2 (by simp) ?_
 refine wc_intro Try.func91 rfl rfl (by kernel_rfl) (by simp [Try.f91]) ?_
 simp only [go_sem, ↓vmP2, ↓vmD, ↓vmK, ↓trK, ↓reduceIte, Try.f91]
 refine byte_wc l 0 false _ _ hm (by omega) (fun q => absurd q (by omega)) (fun q => ?_)
 simp only [go_sem, ↓vmP2, ↓vmD, ↓vmK, ↓trK, ↓reduceIte, iC, e0]
 refine an_wc l 1 _ _ _ _ _ _ _ _ _ _ _ _ hm (by omega) (fun q h => by (simp only [go_sem, ↓vmP2, ↓vmD, ↓vmK, ↓trK, ↓reduceIte]; exact inK_short c (by unfold iBinID; rw [if_pos (by omega)]) h)) 1 (fun q1 r h => by (simp only [go_sem, ↓vmP2, ↓vmD, ↓vmK, ↓trK, ↓reduceIte]; exact inK_form c (by unfold iBinID; rw [if_neg (by omega), gd l 1 q1, if_pos r]) h)) (fun q1 r => ?_)
 have hb := hm.2 1 q1
 have hn : l[1] % 16 = 0 ∨ l[1] % 16 = 1 ∨ l[1] % 16 = 2 := by omega
 have hge := bytesF_ge (l[1] % 16)
 have hsh : l.length < 4 + bytesF (l[1] % 16) → ∀ h, K (.pan (E 41)) h := fun w h => inK_short c (by unfold iBinID; rw [if_neg (by omega), gd l 1 q1, if_neg (by omega), if_pos w]) h
 simp only [go_sem, ↓vmP2, ↓vmD, ↓vmK, ↓trK, ↓reduceIte, iC]
 refine kind_wc l 2 _ _ _ _ _ _ _ _ _ _ _ _ hm (by omega) (fun q h => by (simp only [go_sem, ↓vmP2, ↓vmD, ↓vmK, ↓trK, ↓reduceIte]; exact hsh (by omega) h)) (fun q2 => ?_)
 simp only [go_sem, ↓vmP2, ↓vmD, ↓vmK, ↓trK, ↓reduceIte, iC]
 refine whole_wc _ _ _ ?_
 simp only [go_sem, ↓vmP2, ↓vmD, ↓vmK, ↓trK, ↓reduceIte]
 refine must_wc _ _ _ _ _ _ ?_
 simp only [go_sem, ↓vmP2, ↓vmD, ↓vmK, ↓trK, ↓reduceIte]
 refine sub_wc l 3 _ _ _ _ _ _ _ _ _ _ _ _ hm (by omega) (fun q h => by (simp only [go_sem, ↓vmP2, ↓vmD, ↓vmK, ↓trK, ↓reduceIte]; exact hsh (by omega) h)) (fun q3 => ?_)
 simp only [go_sem, ↓vmP2, ↓vmD, ↓vmK, ↓trK, ↓reduceIte, iC]
 refine bin_wc _ _ _ _ ?_
 simp only [go_sem, ↓vmP2, ↓vmD, ↓vmK, ↓trK, ↓reduceIte]
 refine gdC_sp (fun z => ?_) (fun z => ?_)
 ·simp only [go_sem, ↓vmP2, ↓vmD, ↓vmK, ↓trK, ↓reduceIte, z]
  refine split_wc _ _ _ ?_
  have e1 : cnd5 l[2] l[3] = !sp l[3] := by unfold cnd5; rw [z]; rfl
  simp only [go_sem, ↓vmP2, ↓vmD, ↓vmK, ↓trK, ↓reduceIte, z]
  refine must_wc _ _ _ _ _ _ ?_
  simp only [go_sem, ↓vmP2, ↓vmD, ↓vmK, ↓trK, ↓reduceIte]
  refine held_wc _ _ _ ?_
  simp only [go_sem, ↓vmP2, ↓vmD, ↓vmK, ↓trK, ↓reduceIte]
  refine shift_wc _ _ _ ?_
  simp only [go_sem, ↓vmP2, ↓vmD, ↓vmK, ↓trK, ↓reduceIte]
  refine cdC_split (fun y => ?_) (fun y => ?_)
  ·refine held_wc _ _ _ ?_
   simp only [go_sem, ↓vmP2, ↓vmD, ↓vmK, ↓trK, ↓reduceIte]
   refine sw_draw (.take 0 (.take 1 (.take 3 (.all [(2, .all [(4, .all [(5, .all [(6, .take 7 (.all [(8, .done)]))])])]), (4, .all [(2, .all [(5, .all [(6, .take 7 (.all [(8, .done)]))])])])])))) mo (by kernel_rfl) (by kernel_rfl) (by kernel_rfl) (fun _ _ _ h => h) ?_
   simp only [go_sem, ↓vmP2, ↓vmD, ↓vmK, ↓trK, ↓reduceIte]
   refine ⟨?_, ?_⟩
   all_goals
    refine bytes_wc _ hn _ _ ?_
    simp only [go_sem, ↓vmP2, ↓vmD, ↓vmK, ↓trK, ↓reduceIte]
    refine sized_at _ _ _ _ _ hn ?_
    simp only [go_sem, ↓vmP2, ↓vmD, ↓vmK, ↓trK, ↓reduceIte]
    refine number_at l 4 _ _ _ hm (by omega) rfl rfl 6 (bytesF (l[1] % 16)) _ _ _ rfl rfl rfl (by omega) (bytesF_le _) (sizedF_le _ _ _) (fun q h => by (simp only [go_sem, ↓vmP2, ↓vmD, ↓vmK, ↓trK, ↓reduceIte]; exact hsh q h)) (fun q4 => ?_)
    unfold InK iBinID at c
    rw [if_neg (by omega), gd l 1 q1, if_neg (by omega), if_neg (by omega)] at c
    simp only [gd l 2 q2, gd l 3 q3] at c
    rw [e1, if_pos y] at c
    simp only [go_sem, ↓vmP2, ↓vmD, ↓vmK, ↓trK, ↓reduceIte, iC, idV, idS, idB, idB_by, rdr, decide_true]
    exact c
  ·refine sw_draw (.take 0 (.take 1 (.take 3 (.all [(2, .all [(4, .all [(5, .all [(6, .take 7 (.all [(8, .done)]))])])]), (4, .all [(2, .all [(5, .all [(6, .take 7 (.all [(8, .done)]))])])])])))) mo (by kernel_rfl) (by kernel_rfl) (by kernel_rfl) (fun _ _ _ h => h) ?_
   simp only [go_sem, ↓vmP2, ↓vmD, ↓vmK, ↓trK, ↓reduceIte]
   refine ⟨?_, ?_⟩
   all_goals
    refine bytes_wc _ hn _ _ ?_
    simp only [go_sem, ↓vmP2, ↓vmD, ↓vmK, ↓trK, ↓reduceIte]
    refine sized_at _ _ _ _ _ hn ?_
    simp only [go_sem, ↓vmP2, ↓vmD, ↓vmK, ↓trK, ↓reduceIte]
    refine number_at l 4 _ _ _ hm (by omega) rfl rfl 6 (bytesF (l[1] % 16)) _ _ _ rfl rfl rfl (by omega) (bytesF_le _) (sizedF_le _ _ _) (fun q h => by (simp only [go_sem, ↓vmP2, ↓vmD, ↓vmK, ↓trK, ↓reduceIte]; exact hsh q h)) (fun q4 => ?_)
    unfold InK iBinID at c
    rw [if_neg (by omega), gd l 1 q1, if_neg (by omega), if_neg (by omega)] at c
    simp only [gd l 2 q2, gd l 3 q3] at c
    rw [e1, if_neg (by rw [y]; decide)] at c
    simp only [go_sem, ↓vmP2, ↓vmD, ↓vmK, ↓trK, ↓reduceIte, iC, idV, idS, idB, idB_by, rdr, decide_true]
    exact c
 ·have e1 : cnd5 l[2] l[3] = false := by unfold cnd5; rw [z]; rfl
  simp only [go_sem, ↓vmP2, ↓vmD, ↓vmK, ↓trK, ↓reduceIte, z]
  refine must_wc _ _ _ _ _ _ ?_
  simp only [go_sem, ↓vmP2, ↓vmD, ↓vmK, ↓trK, ↓reduceIte]
  refine held_wc _ _ _ ?_
  simp only [go_sem, ↓vmP2, ↓vmD, ↓vmK, ↓trK, ↓reduceIte]
  refine shift_wc _ _ _ ?_
  simp only [go_sem, ↓vmP2, ↓vmD, ↓vmK, ↓trK, ↓reduceIte]
  refine cdC_split (fun y => ?_) (fun y => ?_)
  ·refine held_wc _ _ _ ?_
   simp only [go_sem, ↓vmP2, ↓vmD, ↓vmK, ↓trK, ↓reduceIte]
   refine sw_draw (.take 0 (.take 1 (.take 3 (.all [(2, .all [(4, .all [(5, .all [(6, .take 7 (.all [(8, .done)]))])])]), (4, .all [(2, .all [(5, .all [(6, .take 7 (.all [(8, .done)]))])])])])))) mo (by kernel_rfl) (by kernel_rfl) (by kernel_rfl) (fun _ _ _ h => h) ?_
   simp only [go_sem, ↓vmP2, ↓vmD, ↓vmK, ↓trK, ↓reduceIte]
   refine ⟨?_, ?_⟩
   all_goals
    refine bytes_wc _ hn _ _ ?_
    simp only [go_sem, ↓vmP2, ↓vmD, ↓vmK, ↓trK, ↓reduceIte]
    refine sized_at _ _ _ _ _ hn ?_
    simp only [go_sem, ↓vmP2, ↓vmD, ↓vmK, ↓trK, ↓reduceIte]
    refine number_at l 4 _ _ _ hm (by omega) rfl rfl 6 (bytesF (l[1] % 16)) _ _ _ rfl rfl rfl (by omega) (bytesF_le _) (sizedF_le _ _ _) (fun q h => by (simp only [go_sem, ↓vmP2, ↓vmD, ↓vmK, ↓trK, ↓reduceIte]; exact hsh q h)) (fun q4 => ?_)
    unfold InK iBinID at c
    rw [if_neg (by omega), gd l 1 q1, if_neg (by omega), if_neg (by omega)] at c
    simp only [gd l 2 q2, gd l 3 q3] at c
    rw [e1, if_pos y] at c
    simp only [go_sem, ↓vmP2, ↓vmD, ↓vmK, ↓trK, ↓reduceIte, iC, idV, idS, idB, idB_by, rdr, decide_true]
    exact c
  ·refine sw_draw (.take 0 (.take 1 (.take 3 (.all [(2, .all [(4, .all [(5, .all [(6, .take 7 (.all [(8, .done)]))])])]), (4, .all [(2, .all [(5, .all [(6, .take 7 (.all [(8, .done)]))])])])])))) mo (by kernel_rfl) (by kernel_rfl) (by kernel_rfl) (fun _ _ _ h => h) ?_
   simp only [go_sem, ↓vmP2, ↓vmD, ↓vmK, ↓trK, ↓reduceIte]
   refine ⟨?_, ?_⟩
   all_goals
    refine bytes_wc _ hn _ _ ?_
    simp only [go_sem, ↓vmP2, ↓vmD, ↓vmK, ↓trK, ↓reduceIte]
    refine sized_at _ _ _ _ _ hn ?_
    simp only [go_sem, ↓vmP2, ↓vmD, ↓vmK, ↓trK, ↓reduceIte]
    refine number_at l 4 _ _ _ hm (by omega) rfl rfl 6 (bytesF (l[1] % 16)) _ _ _ rfl rfl rfl (by omega) (bytesF_le _) (sizedF_le _ _ _) (fun q h => by (simp only [go_sem, ↓vmP2, ↓vmD, ↓vmK, ↓trK, ↓reduceIte]; exact hsh q h)) (fun q4 => ?_)
    unfold InK iBinID at c
    rw [if_neg (by omega), gd l 1 q1, if_neg (by omega), if_neg (by omega)] at c
    simp only [gd l 2 q2, gd l 3 q3] at c
    rw [e1, if_neg (by rw [y]; decide)] at c
    simp only [go_sem, ↓vmP2, ↓vmD, ↓vmK, ↓trK, ↓reduceIte, iC, idV, idS, idB, idB_by, rdr, decide_true]
    exact c
end Go.Proofs.Ytahepinbmcgbnaa.Vm
