/- What gantryref1, gantryref3 tell, and gantryref4's small questions. No condition. -/
import Derived.Test.YtahepinbmcgbnaaVr1
import Derived.Test.YtahepinbmcgbnaaVc11
import Derived.Test.YtahepinbmcgbnaaVy
import Derived.Test.YtahepinbmcgbnaaWq
set_option linter.unusedVariables false
set_option linter.unusedSimpArgs false
namespace Go.Proofs.Ytahepinbmcgbnaa.Vm
open Go.RowKit Go.Proofs.Ytahepinbmcgbnaa.PW Go.Proofs.Ytahepinbmcgbnaa.PV Go.Proofs.Ytahepinbmcgbnaa.Wd Go.Proofs.YtahepinbmcgbnaaW.PrintWords
attribute [local go_sem] opR moveR pickR allocR boxR ld1R ldgR ldR loadR st2R st1R storeR nilR faR fieldAddrR fdR fieldR ixR indexAddrR extR extractR intR shR isSh eqR bin2R sEqR intsOf binR unR convR miR panR fillP partsR bld2R bld1R buildR bldAR build2R ix1R indexR mxR mmR bs2R bs1R buildSliceR pvOf okT no1T noT taR mfR ptrsR ms1R makeSliceR bnd sl1R so1R sliceR argsR ca1R callR lenR ap2R srcR ap1R appendR lenA appA calR ev cst lk rm pt ins rmO ent gval cellsOf scell TI.agg Sh.agg re1 res1 resR is1 vmQ vmH vmE bin3R index2R strIxR ifR nnR stR oneP oneW opP vmQ2 tA0 tA1 tA2 tA3 tA4 tA5 tA6 tA7 tA8 tA9 tA10 tA11 tA12 tA13 tA14 tA15 oA0 oA1 oA2 oA3 oA4 oA5 oA6 oA7 oA8 oA9 oA10 oA11 oA12 oA13 oA14 reduceCtorEq Nat.reduceEqDiff Nat.reduceAdd Nat.reduceLeDiff Nat.reduceLT Nat.reduceMul Nat.reducePow Nat.reduceSub Int.reduceBEq Int.reduceBNe ne_eq Int.reduceEq not_false_eq_true Bool.false_eq_true Nat.reduceBEq List.getElem?_cons_zero List.getElem?_cons_succ List.map_cons List.map_nil List.length_cons List.length_nil List.drop_succ_cons List.drop_zero List.take_succ_cons List.take_zero List.take_nil List.drop_nil List.append_nil List.nil_append List.cons_append List.set_cons_zero List.set_cons_succ List.all_cons List.all_nil Bool.and_true Bool.and_self cond_true cond_false Option.map_some Option.map_none and_self true_and and_true List.append_eq Int.reduceToNat Int.reduceLT Int.reduceLE Int.reduceAdd Int.reduceMul Int.reduceSub decide_true decide_false nc0 nc1 nc2 nc3 nc4 nc8 Nat.zero_add Nat.mul_one Nat.add_zero
theorem rcanon_wc (k x : Int) (h : Hp) (K : Out → Hp → Prop) (c : K (.ret (.s (.a (.int .u64 (cn k x))))) h) : WC Try.prog 30 [.s (.a (.int .i64 k)), .s (.a (.int .u64 x))] h K :=
  wc_of_calls (l := [.int .i64 k, .int .u64 x]) (o := .ret (.s (.a (.int .u64 (cn k x))))) (fun w => (gantryref1_Canon.calls 3 k x _ w (rCanon_eq 0 k x)).mono fun _ _ ⟨e, d⟩ => ⟨e, d.below⟩) (fun B => rfl) c
theorem rreg_wc (n : Int) (h : Hp) (K : Out → Hp → Prop) (c : K (.ret (.s (.a (.bool (Ri.regF n))))) h) : WC Try.prog 73 [.s (.a (.int .i64 n))] h K := by
  refine wc_intro Try.func73 rfl rfl (by kernel_rfl) (by simp [Try.f73]) ?_
  unfold Ri.regF at c
  obtain ⟨d1, e1⟩ : ∃ b, decide (n ≥ 0) = b := ⟨_, rfl⟩
  obtain ⟨d2, e2⟩ : ∃ b, decide (n < 16) = b := ⟨_, rfl⟩
  have e3 : decide (0 ≤ n) = d1 := e1
  rw [e3, e2] at c
  cases d1 <;> cases d2 <;>
    (simp only [go_sem, ↓vmP2, ↓vmD, ↓vmK, ↓trK, ↓reduceIte, Try.f73, e1, e2]
     exact c)
theorem rsmall_wc (n : Int) (h : Hp) (K : Out → Hp → Prop) (c : K (.ret (.s (.a (.bool (Ri.smallF n))))) h) : WC Try.prog 74 [.s (.a (.int .i64 n))] h K := by
  refine wc_intro Try.func74 rfl rfl (by kernel_rfl) (by simp [Try.f74]) ?_
  unfold Ri.smallF at c
  obtain ⟨d1, e1⟩ : ∃ b, decide (n ≥ -2147483648) = b := ⟨_, rfl⟩
  obtain ⟨d2, e2⟩ : ∃ b, decide (n < 2147483648) = b := ⟨_, rfl⟩
  have e3 : decide (-2147483648 ≤ n) = d1 := e1
  rw [e3, e2] at c
  cases d1 <;> cases d2 <;>
    (simp only [go_sem, ↓vmP2, ↓vmD, ↓vmK, ↓trK, ↓reduceIte, Try.f74, e1, e2]
     exact c)
theorem rshift_wc (s : Int) (h : Hp) (K : Out → Hp → Prop) (c : K (.ret (.s (.a (.bool (sh s))))) h) : WC Try.prog 61 [.s (.a (.int .i64 s))] h K := by
  refine wc_intro Try.func61 rfl rfl (by kernel_rfl) (by simp [Try.f61]) ?_
  unfold sh at c
  cases h1 : (s == 9) <;> cases h2 : (s == 10) <;>
    (rw [h1, h2] at c
     simp only [go_sem, ↓vmP2, ↓vmD, ↓vmK, ↓trK, ↓reduceIte, Try.f61, h1, h2]
     exact c)
theorem rcompares_wc (s : Int) (h : Hp) (K : Out → Hp → Prop) (c : K (.ret (.s (.a (.bool (sd s))))) h) : WC Try.prog 104 [.s (.a (.int .i64 s))] h K := by
  refine wc_intro Try.func104 rfl rfl (by kernel_rfl) (by simp [Try.f104]) ?_
  unfold sd at c
  obtain ⟨d1, e1⟩ : ∃ b, decide (s ≥ 11) = b := ⟨_, rfl⟩
  obtain ⟨d2, e2⟩ : ∃ b, decide (s ≤ 16) = b := ⟨_, rfl⟩
  have e3 : decide (11 ≤ s) = d1 := e1
  rw [e3, e2] at c
  cases d1 <;> cases d2 <;>
    (simp only [go_sem, ↓vmP2, ↓vmD, ↓vmK, ↓trK, ↓reduceIte, Try.f104, e1, e2]
     exact c)
theorem condition_wc (s : Int) (h : Hp) (K : Out → Hp → Prop) (c : K (.ret (.s (.a (.bool (sd s))))) h) : WC Try.prog 85 [.s (.a (.int .i64 s))] h K := by
  refine wc_intro Try.func85 rfl rfl (by kernel_rfl) (by simp [Try.f85]) ?_
  simp only [go_sem, ↓vmP2, ↓vmD, ↓vmK, ↓trK, ↓reduceIte, Try.f85]
  refine rcompares_wc _ _ _ ?_
  simp only [go_sem, ↓vmP2, ↓vmD, ↓vmK, ↓trK, ↓reduceIte]
  exact c
theorem rsize_wc (i : Int) (h : Hp) (K : Out → Hp → Prop) (c : K (.ret (.s (.a (.int .i64 (leastF i))))) h) : WC Try.prog 86 [.s (.a (.int .i64 i))] h K := by
  refine wc_intro Try.func86 rfl rfl (by kernel_rfl) (by simp [Try.f86]) ?_
  obtain ⟨d1, e1⟩ : ∃ b, decide (i ≥ -128) = b := ⟨_, rfl⟩
  obtain ⟨d2, e2⟩ : ∃ b, decide (i < 128) = b := ⟨_, rfl⟩
  have hl : leastF i = if d1 && d2 then 0 else if Ri.smallF i then 1 else 2 := by
    subst e1 e2
    unfold leastF Ri.smallF
    by_cases q1 : -128 ≤ i <;> by_cases q2 : i ≤ 127 <;> by_cases q3 : -2147483648 ≤ i <;> by_cases q4 : i ≤ 2147483647 <;> simp [q1, q2, q3, q4, show (i < 128) = (i ≤ 127) from propext ⟨fun _ => by omega, fun _ => by omega⟩, show (i < 2147483648) = (i ≤ 2147483647) from propext ⟨fun _ => by omega, fun _ => by omega⟩]
  rw [hl] at c
  cases hs : Ri.smallF i <;> rw [hs] at c <;> cases d1 <;> cases d2 <;>
    (simp only [go_sem, ↓vmP2, ↓vmD, ↓vmK, ↓trK, ↓reduceIte, Try.f86, e1, e2]
     first
       | exact c
       | (refine rsmall_wc _ _ _ ?_
          simp only [go_sem, ↓vmP2, ↓vmD, ↓vmK, ↓trK, ↓reduceIte, hs]
          exact c))
theorem rlog_wc (z : Int) (h : Hp) (K : Out → Hp → Prop) (c : K (.ret (.s (.a (.int .i64 (scaleF z))))) h) : WC Try.prog 87 [.s (.a (.int .i64 z))] h K := by
  refine wc_intro Try.func87 rfl rfl (by kernel_rfl) (by simp [Try.f87]) ?_
  unfold scaleF at c
  by_cases h1 : z = 1
  · subst h1
    simp only [go_sem, ↓vmP2, ↓vmD, ↓vmK, ↓trK, ↓reduceIte, Try.f87]
    exact c
  by_cases h2 : z = 2
  · subst h2
    simp only [go_sem, ↓vmP2, ↓vmD, ↓vmK, ↓trK, ↓reduceIte, Try.f87]
    exact c
  by_cases h3 : z = 4
  · subst h3
    simp only [go_sem, ↓vmP2, ↓vmD, ↓vmK, ↓trK, ↓reduceIte, Try.f87]
    exact c
  by_cases h4 : z = 8
  · subst h4
    simp only [go_sem, ↓vmP2, ↓vmD, ↓vmK, ↓trK, ↓reduceIte, Try.f87]
    exact c
  rw [if_neg h1, if_neg h2, if_neg h3, if_neg h4] at c
  simp only [go_sem, ↓vmP2, ↓vmD, ↓vmK, ↓trK, ↓reduceIte, Try.f87, beq_eq_false_iff_ne.mpr h1, beq_eq_false_iff_ne.mpr h2, beq_eq_false_iff_ne.mpr h3, beq_eq_false_iff_ne.mpr h4]
  exact c
theorem rbytes_wc (n : Int) (h : Hp) (K : Out → Hp → Prop) (c : K (.ret (.s (.a (.int .i64 ((bytesF n : Nat) : Int))))) h) : WC Try.prog 89 [.s (.a (.int .i64 n))] h K := by
  refine wc_intro Try.func89 rfl rfl (by kernel_rfl) (by simp [Try.f89]) ?_
  unfold bytesF at c
  by_cases h1 : n = 0
  · subst h1
    simp only [go_sem, ↓vmP2, ↓vmD, ↓vmK, ↓trK, ↓reduceIte, Try.f89]
    exact c
  by_cases h2 : n = 1
  · subst h2
    simp only [go_sem, ↓vmP2, ↓vmD, ↓vmK, ↓trK, ↓reduceIte, Try.f89]
    exact c
  rw [if_neg h1, if_neg h2] at c
  simp only [go_sem, ↓vmP2, ↓vmD, ↓vmK, ↓trK, ↓reduceIte, Try.f89, beq_eq_false_iff_ne.mpr h1, beq_eq_false_iff_ne.mpr h2]
  exact c
def unscale (n : Int) : Int := if n = 0 then 1 else if n = 1 then 2 else if n = 2 then 4 else if n = 3 then 8 else if n = 15 then 0 else -1
theorem wsh1 : IntKind.i64.wrap (1 * 2 ^ 0) = 1 := rfl
theorem wsh2 : IntKind.i64.wrap (1 * 2 ^ 1) = 2 := rfl
theorem wsh3 : IntKind.i64.wrap (1 * 2 ^ 2) = 4 := rfl
theorem wsh4 : IntKind.i64.wrap (1 * 2 ^ 3) = 8 := rfl
theorem rscale_wc (n : Int) (h : Hp) (K : Out → Hp → Prop) (c : K (.ret (.s (.a (.int .i64 (unscale n))))) h) : WC Try.prog 125 [.s (.a (.int .i64 n))] h K := by
  refine wc_intro Try.func125 rfl rfl (by kernel_rfl) (by simp [Try.f125]) ?_
  unfold unscale at c
  by_cases h1 : n = 0
  · subst h1
    simp only [go_sem, ↓vmP2, ↓vmD, ↓vmK, ↓trK, ↓reduceIte, Try.f125]
    exact c
  by_cases h2 : n = 1
  · subst h2
    simp only [go_sem, ↓vmP2, ↓vmD, ↓vmK, ↓trK, ↓reduceIte, Try.f125]
    exact c
  by_cases h3 : n = 2
  · subst h3
    simp only [go_sem, ↓vmP2, ↓vmD, ↓vmK, ↓trK, ↓reduceIte, Try.f125]
    exact c
  by_cases h4 : n = 3
  · subst h4
    simp only [go_sem, ↓vmP2, ↓vmD, ↓vmK, ↓trK, ↓reduceIte, Try.f125]
    exact c
  by_cases h5 : n = 15
  · subst h5
    simp only [go_sem, ↓vmP2, ↓vmD, ↓vmK, ↓trK, ↓reduceIte, Try.f125]
    exact c
  rw [if_neg h1, if_neg h2, if_neg h3, if_neg h4, if_neg h5] at c
  simp only [go_sem, ↓vmP2, ↓vmD, ↓vmK, ↓trK, ↓reduceIte, Try.f125, beq_eq_false_iff_ne.mpr h1, beq_eq_false_iff_ne.mpr h2, beq_eq_false_iff_ne.mpr h3, beq_eq_false_iff_ne.mpr h4, beq_eq_false_iff_ne.mpr h5]
  exact c
end Go.Proofs.Ytahepinbmcgbnaa.Vm
