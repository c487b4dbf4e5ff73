/- gantryref4.May, whatever the code. Printed by wip/tools/genVr9.py. No condition. -/
import Derived.Test.YtahepinbmcgbnaaVr6
set_option linter.unusedVariables false
set_option linter.unusedSimpArgs false
namespace Go.Proofs.Ytahepinbmcgbnaa.Vm
open Go.RowKit Go.Proofs.Ytahepinbmcgbnaa.PV Go.Proofs.Ytahepinbmcgbnaa.Wd Go.Proofs.YtahepinbmcgbnaaW.PrintWords
attribute [local go_sem] opR moveR pickR allocR boxR ld1R ldgR ldR loadR st2R st1R storeR nilR faR fieldAddrR fdR fieldR ixR indexAddrR extR extractR intR shR isSh eqR bin2R sEqR intsOf binR unR convR miR panR fillP partsR bld2R bld1R buildR bldAR build2R ix1R indexR mxR mmR bs2R bs1R buildSliceR pvOf okT no1T noT taR mfR ptrsR ms1R makeSliceR bnd sl1R so1R sliceR argsR ca1R callR lenR ap2R srcR ap1R appendR lenA appA calR ev cst lk rm pt ins rmO ent gval cellsOf scell TI.agg Sh.agg re1 res1 resR is1 vmQ vmH vmE bin3R index2R strIxR ifR nnR stR oneP oneW opP vmQ2 tA0 tA1 tA2 tA3 tA4 tA5 tA6 tA7 tA8 tA9 tA10 tA11 tA12 tA13 tA14 tA15 oA0 oA1 oA2 oA3 oA4 oA5 oA6 oA7 oA8 oA9 oA10 oA11 oA12 oA13 oA14 reduceCtorEq Nat.reduceEqDiff Nat.reduceAdd Nat.reduceLeDiff Nat.reduceLT Nat.reduceMul Nat.reducePow Nat.reduceSub Int.reduceBEq Int.reduceBNe ne_eq Int.reduceEq not_false_eq_true Bool.false_eq_true Nat.reduceBEq List.getElem?_cons_zero List.getElem?_cons_succ List.map_cons List.map_nil List.length_cons List.length_nil List.drop_succ_cons List.drop_zero List.take_succ_cons List.take_zero List.take_nil List.drop_nil List.append_nil List.nil_append List.cons_append List.set_cons_zero List.set_cons_succ List.all_cons List.all_nil Bool.and_true Bool.and_self cond_true cond_false Option.map_some Option.map_none and_self true_and and_true List.append_eq Int.reduceToNat Int.reduceLT Int.reduceLE Int.reduceAdd Int.reduceMul Int.reduceSub decide_true decide_false nc0 nc1 nc2 nc3 nc4 nc8 Nat.zero_add Nat.mul_one Nat.add_zero
theorem teNone : (({ data := #[] } : ByteArray).toList == ({ data := #[] } : ByteArray).toList) = true := by decide +kernel
set_option maxRecDepth 100000 in
theorem may_none (o a b c k s z i m : Int) (no : isOp o = false) (h : Hp) (K : Out → Hp → Prop) (c1 : K (.ret (.s (.a (.bool false)))) h) : WC Try.prog 43 [.g (iC o a b c k s z i m)] h K := by
  refine wc_alone (iC_rn _ _ _ _ _ _ _ _ _) rfl ?_
  have c0 : ∀ bl, purK h K (.ret (.s (.a (.bool false)))) bl := fun _ => c1
  clear c1
  refine wc_intro Try.func43 rfl rfl (by kernel_rfl) (by simp [Try.f43]) ?_
  simp only [go_sem, ↓vmP2, ↓vmD, ↓vmK, ↓trK, ↓reduceIte, Try.f43, iC]
  refine row_none _ no _ _ ?_
  simp only [go_sem, ↓vmP2, ↓vmD, ↓vmK, ↓trK, ↓reduceIte, teNone]
  exact c0 _
theorem may_wc (o a b c k s z i m : Int) (h : Hp) (K : Out → Hp → Prop) (c1 : K (.ret (.s (.a (.bool (mayF o a b c k s z i m))))) h) : WC Try.prog 43 [.g (iC o a b c k s z i m)] h K := by
  cases ho : isOp o with
  | false => rw [show mayF o a b c k s z i m = false by simp only [mayF, ho, Bool.false_and]] at c1; exact may_none o a b c k s z i m ho h K c1
  | true =>
    exact may_ok o ho a b c k s z i m h K (fun r e => e ▸ c1)
end Go.Proofs.Ytahepinbmcgbnaa.Vm
