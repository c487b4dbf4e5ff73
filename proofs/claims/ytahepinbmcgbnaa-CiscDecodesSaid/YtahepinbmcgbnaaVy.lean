/- Contracts of gantryref1's questions. No condition. -/
import Derived.Test.YtahepinbmcgbnaaVw
set_option maxRecDepth 100000
set_option linter.unusedVariables false
set_option linter.unusedSimpArgs false
namespace Go.Proofs.Ytahepinbmcgbnaa.Vm
open Go.RowKit Go.Proofs.Ytahepinbmcgbnaa.Wd Go.Proofs.YtahepinbmcgbnaaW.PrintWords
attribute [local go_sem] opR moveR pickR allocR boxR ld1R ldgR ldR loadR st2R st1R storeR nilR faR fieldAddrR fdR fieldR ixR indexAddrR extR extractR intR shR isSh eqR bin2R sEqR intsOf binR unR convR miR panR fillP partsR bld2R bld1R buildR bldAR build2R ix1R indexR mxR mmR bs2R bs1R buildSliceR pvOf okT no1T noT taR mfR ptrsR ms1R makeSliceR bnd sl1R so1R sliceR argsR ca1R callR lenR ap2R srcR ap1R appendR lenA appA calR ev cst lk rm pt ins rmO ent gval cellsOf scell TI.agg Sh.agg re1 res1 resR is1 vmQ vmH vmE bin3R index2R strIxR ifR nnR stR oneP oneW opP vmQ2 tA0 tA1 tA2 tA3 tA4 tA5 tA6 tA7 tA8 tA9 tA10 tA11 tA12 tA13 tA14 tA15 oA0 oA1 oA2 oA3 oA4 oA5 oA6 oA7 oA8 oA9 oA10 oA11 oA12 oA13 oA14 reduceCtorEq Nat.reduceEqDiff Nat.reduceAdd Nat.reduceLeDiff Nat.reduceLT Nat.reduceMul Nat.reducePow Nat.reduceSub Int.reduceBEq Int.reduceBNe ne_eq Int.reduceEq not_false_eq_true Bool.false_eq_true Nat.reduceBEq List.getElem?_cons_zero List.getElem?_cons_succ List.map_cons List.map_nil List.length_cons List.length_nil List.drop_succ_cons List.drop_zero List.take_succ_cons List.take_zero List.take_nil List.drop_nil List.append_nil List.nil_append List.cons_append List.set_cons_zero List.set_cons_succ List.all_cons List.all_nil Bool.and_true Bool.and_self cond_true cond_false Option.map_some Option.map_none and_self true_and and_true List.append_eq Int.reduceToNat Int.reduceLT Int.reduceLE Int.reduceGT Int.reduceGE ge_iff_le gt_iff_lt decide_true decide_false Bool.not_true Bool.not_false
theorem rint_wc (k : Int) (h : Hp) (K : Out → Hp → Prop) (c : K (.ret (.s (.a (.bool (wh k))))) h) : WC Try.prog 83 [.s (.a (.int .i64 k))] h K := by
  refine wc_intro Try.func83 rfl rfl (by kernel_rfl) (by simp [Try.f83]) ?_
  unfold wh at c
  cases h1 : decide (2 ≤ k) <;> rw [h1] at c <;> cases h2 : decide (k ≤ 9) <;> rw [h2] at c <;>
    (simp only [go_sem, ↓vmP2, ↓vmD, ↓vmK, ↓trK, ↓reduceIte, Try.f83, h1, h2]
     exact c)
theorem rword_wc (k : Int) (h : Hp) (K : Out → Hp → Prop) (c : K (.ret (.s (.a (.bool (wd k))))) h) : WC Try.prog 70 [.s (.a (.int .i64 k))] h K := by
  refine wc_intro Try.func70 rfl rfl (by kernel_rfl) (by simp [Try.f70]) ?_
  unfold wd at c
  cases h1 : decide (1 ≤ k) <;> rw [h1] at c <;> cases h2 : decide (k ≤ 11) <;> rw [h2] at c <;>
    (simp only [go_sem, ↓vmP2, ↓vmD, ↓vmK, ↓trK, ↓reduceIte, Try.f70, h1, h2]
     exact c)
theorem rhasConv_wc (s k : Int) (h : Hp) (K : Out → Hp → Prop) (c : K (.ret (.s (.a (.bool (nu s && nu k))))) h) : WC Try.prog 67 [.s (.a (.int .i64 s)), .s (.a (.int .i64 k))] h K := by
  refine wc_intro Try.func67 rfl rfl (by kernel_rfl) (by simp [Try.f67]) ?_
  unfold nu at c
  simp only [go_sem, ↓vmP2, ↓vmD, ↓vmK, ↓trK, ↓reduceIte, Try.f67]
  refine rint_wc _ _ _ ?_
  cases h1 : wh s <;> rw [h1] at c <;> cases h2 : (s == 10) <;> rw [h2] at c <;>
    (simp only [go_sem, ↓vmP2, ↓vmD, ↓vmK, ↓trK, ↓reduceIte, h2]
     first
     | exact c
     | (refine rint_wc _ _ _ ?_
        cases h3 : wh k <;> rw [h3] at c <;> cases h4 : (k == 10) <;> rw [h4] at c <;>
          (simp only [go_sem, ↓vmP2, ↓vmD, ↓vmK, ↓trK, ↓reduceIte, h4]
           exact c)))
theorem rhasUn_wc (op k : Int) (h : Hp) (K : Out → Hp → Prop) (c : K (.ret (.s (.a (.bool (hasU op k))))) h) : WC Try.prog 59 [.s (.a (.int .i64 op)), .s (.a (.int .i64 k))] h K := by
  refine wc_intro Try.func59 rfl rfl (by kernel_rfl) (by simp [Try.f59]) ?_
  unfold hasU at c
  by_cases h1 : op = 1
  · subst h1
    simp only [go_sem, ↓vmP2, ↓vmD, ↓vmK, ↓trK, ↓reduceIte, Try.f59]
    refine rint_wc _ _ _ ?_
    cases hw : wh k <;> rw [hw] at c <;> cases hf : (k == 10) <;> rw [hf] at c <;>
      (simp only [go_sem, ↓vmP2, ↓vmD, ↓vmK, ↓trK, ↓reduceIte, hf]
       exact c)
  by_cases h2 : op = 2
  · subst h2
    cases hb : (k == 1) <;> rw [hb] at c <;>
      (simp only [go_sem, ↓vmP2, ↓vmD, ↓vmK, ↓trK, ↓reduceIte, Try.f59, hb]
       exact c)
  by_cases h3 : op = 3
  · subst h3
    simp only [go_sem, ↓vmP2, ↓vmD, ↓vmK, ↓trK, ↓reduceIte, Try.f59]
    refine rint_wc _ _ _ ?_
    cases hw : wh k <;> rw [hw] at c <;>
      (simp only [go_sem, ↓vmP2, ↓vmD, ↓vmK, ↓trK, ↓reduceIte]
       exact c)
  have e1 : (op == 1) = false := beq_eq_false_iff_ne.mpr h1
  have e2 : (op == 2) = false := beq_eq_false_iff_ne.mpr h2
  have e3 : (op == 3) = false := beq_eq_false_iff_ne.mpr h3
  rw [e1, e2, e3] at c
  simp only [go_sem, ↓vmP2, ↓vmD, ↓vmK, ↓trK, ↓reduceIte, Try.f59, e1, e2, e3]
  exact c
set_option maxHeartbeats 8000000 in
theorem rhasBin_wc (op k : Int) (h : Hp) (K : Out → Hp → Prop) (c : K (.ret (.s (.a (.bool (has op k))))) h) : WC Try.prog 60 [.s (.a (.int .i64 op)), .s (.a (.int .i64 k))] h K := by
  refine wc_intro Try.func60 rfl rfl (by kernel_rfl) (by simp [Try.f60]) ?_
  by_cases ho : 1 ≤ op ∧ op ≤ 16
  · by_cases hk : k = 10
    · subst hk
      rcases ops16 ho with rfl | rfl | rfl | rfl | rfl | rfl | rfl | rfl | rfl | rfl | rfl | rfl | rfl | rfl | rfl | rfl <;>
        (simp only [go_sem, ↓vmP2, ↓vmD, ↓vmK, ↓trK, ↓reduceIte, Try.f60]
         refine rint_wc _ _ _ ?_
         simp only [go_sem, ↓vmP2, ↓vmD, ↓vmK, ↓trK, ↓reduceIte, show wh 10 = false from rfl]
         exact c)
    by_cases hb : k = 1
    · subst hb
      rcases ops16 ho with rfl | rfl | rfl | rfl | rfl | rfl | rfl | rfl | rfl | rfl | rfl | rfl | rfl | rfl | rfl | rfl <;>
        (simp only [go_sem, ↓vmP2, ↓vmD, ↓vmK, ↓trK, ↓reduceIte, Try.f60]
         refine rint_wc _ _ _ ?_
         simp only [go_sem, ↓vmP2, ↓vmD, ↓vmK, ↓trK, ↓reduceIte, show wh 1 = false from rfl]
         exact c)
    have e10 : (k == 10) = false := beq_eq_false_iff_ne.mpr hk
    have e1 : (k == 1) = false := beq_eq_false_iff_ne.mpr hb
    unfold has at c
    rw [decide_eq_true ho.1, decide_eq_true ho.2, e10, e1] at c
    cases hw : wh k <;> rw [hw] at c <;> cases e11 : (k == 11) <;> rw [e11] at c <;>
      rcases ops16 ho with rfl | rfl | rfl | rfl | rfl | rfl | rfl | rfl | rfl | rfl | rfl | rfl | rfl | rfl | rfl | rfl <;>
      (simp only [go_sem, ↓vmP2, ↓vmD, ↓vmK, ↓trK, ↓reduceIte, Try.f60]
       refine rint_wc _ _ _ ?_
       simp only [go_sem, ↓vmP2, ↓vmD, ↓vmK, ↓trK, ↓reduceIte, hw, e10, e1, e11]
       exact c)
  · unfold has at c
    have e : (decide (1 ≤ op) && decide (op ≤ 16)) = false := by
      rw [Bool.and_eq_false_iff, decide_eq_false_iff_not, decide_eq_false_iff_not]; omega
    rw [e] at c
    cases h1 : decide (op < 1) with
    | true =>
      simp only [go_sem, ↓vmP2, ↓vmD, ↓vmK, ↓trK, ↓reduceIte, Try.f60, h1]
      exact c
    | false =>
      have h1' : ¬ op < 1 := of_decide_eq_false h1
      simp only [go_sem, ↓vmP2, ↓vmD, ↓vmK, ↓trK, ↓reduceIte, Try.f60, h1, decide_eq_true (show 16 < op by omega)]
      exact c
end Go.Proofs.Ytahepinbmcgbnaa.Vm
