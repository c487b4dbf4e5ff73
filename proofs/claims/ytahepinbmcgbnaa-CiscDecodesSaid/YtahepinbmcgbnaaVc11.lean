/- Contracts of package cisc's writer: sizes, scales. No condition. -/
import Derived.Test.YtahepinbmcgbnaaVc10
set_option maxRecDepth 100000
set_option linter.unusedVariables false
set_option linter.unusedSimpArgs false
namespace Go.Proofs.Ytahepinbmcgbnaa.Vm
open Go.RowKit Go.Proofs.Ytahepinbmcgbnaa.PV Go.Proofs.Ytahepinbmcgbnaa.Wd Go.Proofs.YtahepinbmcgbnaaW.PrintWords
attribute [local go_sem] opR moveR pickR allocR boxR ld1R ldgR ldR loadR st2R st1R storeR nilR faR fieldAddrR fdR fieldR ixR indexAddrR extR extractR intR shR isSh eqR bin2R sEqR intsOf binR unR convR miR panR fillP partsR bld2R bld1R buildR bldAR build2R ix1R indexR mxR mmR bs2R bs1R buildSliceR pvOf okT no1T noT taR mfR ptrsR ms1R makeSliceR bnd sl1R so1R sliceR argsR ca1R callR lenR ap2R srcR ap1R appendR lenA appA calR ev cst lk rm pt ins rmO ent gval cellsOf scell TI.agg Sh.agg re1 res1 resR is1 vmQ vmH vmE bin3R index2R strIxR ifR nnR stR oneP oneW opP vmQ2 tA0 tA1 tA2 tA3 tA4 tA5 tA6 tA7 tA8 tA9 tA10 tA11 tA12 tA13 tA14 tA15 oA0 oA1 oA2 oA3 oA4 oA5 oA6 oA7 oA8 oA9 oA10 oA11 oA12 oA13 oA14 reduceCtorEq Nat.reduceEqDiff Nat.reduceAdd Nat.reduceLeDiff Nat.reduceLT Nat.reduceMul Nat.reducePow Nat.reduceSub Int.reduceBEq Int.reduceBNe ne_eq Int.reduceEq not_false_eq_true Bool.false_eq_true Nat.reduceBEq List.getElem?_cons_zero List.getElem?_cons_succ List.map_cons List.map_nil List.length_cons List.length_nil List.drop_succ_cons List.drop_zero List.take_succ_cons List.take_zero List.take_nil List.drop_nil List.append_nil List.nil_append List.cons_append List.set_cons_zero List.set_cons_succ List.all_cons List.all_nil Bool.and_true Bool.and_self cond_true cond_false Option.map_some Option.map_none and_self true_and and_true List.append_eq
theorem sw_cut {P : Program} {N : Nat} {c : Code} {t : Tm} {h : Hp} {K : Cont} (S : Tm) (H : Hp) (k : K .nor S H) (s : SW P N c t h (cutK S H K)) : SW P N c t h K := by
 intro D B w a m r hd
 refine Code.wp_mono ?_ (s D B w a m r hd)
 rintro e a' w' ⟨x, t', h', B', kk, e1, e2, e3, e4, e5⟩
 cases x with
 | nor =>
  obtain ⟨q, rfl⟩ := kk
  exact ⟨.nor, S, h', B', k, e1, e2.sub q, e3, e4, e5⟩
 | exit n => exact ⟨.exit n, t', h', B', kk, e1, e2, e3, e4, e5⟩
 | ret => exact ⟨.ret, t', h', B', kk, e1, e2, e3, e4, e5⟩
 | pan s => exact ⟨.pan s, t', h', B', kk, e1, e2, e3, e4, e5⟩
def leastF (i : Int) : Int := if -128 ≤ i ∧ i ≤ 127 then 0 else if -2147483648 ≤ i ∧ i ≤ 2147483647 then 1 else 2
def scaleF (z : Int) : Int := if z = 1 then 0 else if z = 2 then 1 else if z = 4 then 2 else if z = 8 then 3 else 15
theorem least_wc (i : Int) (h : Hp) (K : Out → Hp → Prop) (c : K (.ret (.s (.a (.int .i64 (leastF i))))) h) : WC Try.prog 99 [.s (.a (.int .i64 i))] h K := by
 refine wc_intro Try.func99 rfl rfl (by kernel_rfl) (by simp [Try.f99]) ?_
 obtain ⟨d1, e1⟩ : ∃ b, decide (i ≥ -128) = b := ⟨_, rfl⟩
 obtain ⟨d2, e2⟩ : ∃ b, decide (i ≤ 127) = b := ⟨_, rfl⟩
 obtain ⟨d3, e3⟩ : ∃ b, decide (i ≥ -2147483648) = b := ⟨_, rfl⟩
 obtain ⟨d4, e4⟩ : ∃ b, decide (i ≤ 2147483647) = b := ⟨_, rfl⟩
 have hl : leastF i = if d1 && d2 then 0 else if d3 && d4 then 1 else 2 := by
  subst e1 e2 e3 e4
  simp [leastF]
 rw [hl] at c
 cases d1 <;> cases d2 <;> cases d3 <;> cases d4 <;>
  (simp only [go_sem, ↓vmP2, ↓vmD, ↓vmK, ↓trK, ↓reduceIte, Try.f99, e1, e2, e3, e4]
   exact c)
theorem scale_wc (z : Int) (h : Hp) (K : Out → Hp → Prop) (c : K (.ret (.s (.a (.int .i64 (scaleF z))))) h) : WC Try.prog 100 [.s (.a (.int .i64 z))] h K := by
 refine wc_intro Try.func100 rfl rfl (by kernel_rfl) (by simp [Try.f100]) ?_
 unfold scaleF at c
 by_cases h1 : z = 1
 ·subst h1
  simp only [go_sem, ↓vmP2, ↓vmD, ↓vmK, ↓trK, ↓reduceIte, Try.f100]
  exact c
 by_cases h2 : z = 2
 ·subst h2
  simp only [go_sem, ↓vmP2, ↓vmD, ↓vmK, ↓trK, ↓reduceIte, Try.f100]
  exact c
 by_cases h3 : z = 4
 ·subst h3
  simp only [go_sem, ↓vmP2, ↓vmD, ↓vmK, ↓trK, ↓reduceIte, Try.f100]
  exact c
 by_cases h4 : z = 8
 ·subst h4
  simp only [go_sem, ↓vmP2, ↓vmD, ↓vmK, ↓trK, ↓reduceIte, Try.f100]
  exact c
 rw [if_neg h1, if_neg h2, if_neg h3, if_neg h4] at c
 simp only [go_sem, ↓vmP2, ↓vmD, ↓vmK, ↓trK, ↓reduceIte, Try.f100, beq_eq_false_iff_ne.mpr h1, beq_eq_false_iff_ne.mpr h2, beq_eq_false_iff_ne.mpr h3, beq_eq_false_iff_ne.mpr h4]
 exact c
end Go.Proofs.Ytahepinbmcgbnaa.Vm
