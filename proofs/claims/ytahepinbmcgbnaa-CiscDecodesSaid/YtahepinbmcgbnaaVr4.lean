/- gantryref4's questions on an instruction: binary, immediate, scaled. No condition. -/
import Derived.Test.YtahepinbmcgbnaaVr2
set_option linter.unusedVariables false
set_option linter.unusedSimpArgs false
namespace Go.Proofs.Ytahepinbmcgbnaa.Vm
open Go.RowKit Go.Proofs.Ytahepinbmcgbnaa.PV Go.Proofs.Ytahepinbmcgbnaa.Wd Go.Proofs.YtahepinbmcgbnaaW.PrintWords
attribute [local go_sem] opR moveR pickR allocR boxR ld1R ldgR ldR loadR st2R st1R storeR nilR faR fieldAddrR fdR fieldR ixR indexAddrR extR extractR intR shR isSh eqR bin2R sEqR intsOf binR unR convR miR panR fillP partsR bld2R bld1R buildR bldAR build2R ix1R indexR mxR mmR bs2R bs1R buildSliceR pvOf okT no1T noT taR mfR ptrsR ms1R makeSliceR bnd sl1R so1R sliceR argsR ca1R callR lenR ap2R srcR ap1R appendR lenA appA calR ev cst lk rm pt ins rmO ent gval cellsOf scell TI.agg Sh.agg re1 res1 resR is1 vmQ vmH vmE bin3R index2R strIxR ifR nnR stR oneP oneW opP vmQ2 tA0 tA1 tA2 tA3 tA4 tA5 tA6 tA7 tA8 tA9 tA10 tA11 tA12 tA13 tA14 tA15 oA0 oA1 oA2 oA3 oA4 oA5 oA6 oA7 oA8 oA9 oA10 oA11 oA12 oA13 oA14 reduceCtorEq Nat.reduceEqDiff Nat.reduceAdd Nat.reduceLeDiff Nat.reduceLT Nat.reduceMul Nat.reducePow Nat.reduceSub Int.reduceBEq Int.reduceBNe ne_eq Int.reduceEq not_false_eq_true Bool.false_eq_true Nat.reduceBEq List.getElem?_cons_zero List.getElem?_cons_succ List.map_cons List.map_nil List.length_cons List.length_nil List.drop_succ_cons List.drop_zero List.take_succ_cons List.take_zero List.take_nil List.drop_nil List.append_nil List.nil_append List.cons_append List.set_cons_zero List.set_cons_succ List.all_cons List.all_nil Bool.and_true Bool.and_self cond_true cond_false Option.map_some Option.map_none and_self true_and and_true List.append_eq Int.reduceToNat Int.reduceLT Int.reduceLE Int.reduceAdd Int.reduceMul Int.reduceSub decide_true decide_false nc0 nc1 nc2 nc3 nc4 nc8 Nat.zero_add Nat.mul_one Nat.add_zero
def purK (h : Hp) (K : Out → Hp → Prop) : Out → Hp → Prop := fun o _ => match o with
  | .ret (.s (.a v)) => K (.ret (.s (.a v))) h
  | _ => False
/-- A call that gives words and leaves nothing, over an instruction that it is handed. -/
theorem wc_alone {P : Program} {f : FuncId} {args : List PV} {h : Hp} {K : Out → Hp → Prop} (ha : ∀ τ, args.map (rnP τ) = args) (h1 : args.all is1 = true) (c : WC P f args [] (purK h K)) : WC P f args h K := by
  refine wc_focus (args' := args) [] rfl (hc := []) trivial (ha _) h1 ?_
  refine wc_trunc 0 (by simp) ?_
  refine c.mono ?_
  rintro o h' k
  cases o with
  | pan x => exact k.elim
  | ret v =>
    cases v with
    | s v =>
      cases v with
      | a v => exact ⟨Nat.zero_le _, rfl, rfl, by show K _ (mrg [] h []); rw [mrg_nil]; exact k⟩
      | _ => exact k.elim
    | _ => exact k.elim
theorem iC_rn (o a b c k s z i m : Int) (τ : Nat → Nat) : [PV.g (iC o a b c k s z i m)].map (rnP τ) = [PV.g (iC o a b c k s z i m)] := rfl
set_option maxRecDepth 100000 in
theorem binary_wc (o a b c k s z i m : Int) (h : Hp) (K : Out → Hp → Prop) (c1 : K (.ret (.s (.a (.bool (binaryF a b k s))))) h) : WC Try.prog 81 [.g (iC o a b c k s z i m)] h K := by
  refine wc_alone (iC_rn _ _ _ _ _ _ _ _ _) rfl ?_
  have c0 : ∀ bl, purK h K (.ret (.s (.a (.bool (binaryF a b k s))))) bl := fun _ => c1
  clear c1
  refine wc_intro Try.func81 rfl rfl (by kernel_rfl) (by simp [Try.f81]) ?_
  simp only [go_sem, ↓vmP2, ↓vmD, ↓vmK, ↓trK, ↓reduceIte, Try.f81, iC]
  refine rhasBin_wc _ _ _ _ ?_
  unfold binaryF at c0
  cases h1 : has s k with
  | false =>
    rw [h1] at c0
    simp only [go_sem, ↓vmP2, ↓vmD, ↓vmK, ↓trK, ↓reduceIte, Bool.not_false]
    exact c0 _
  | true =>
    rw [h1] at c0
    simp only [go_sem, ↓vmP2, ↓vmD, ↓vmK, ↓trK, ↓reduceIte, Bool.not_true]
    refine rshift_wc _ _ _ ?_
    cases h2 : sh s with
    | true =>
      rw [h2] at c0
      cases h3 : (b == 1) <;> rw [h3] at c0 <;> (simp only [go_sem, ↓vmP2, ↓vmD, ↓vmK, ↓trK, ↓reduceIte, h3]; exact c0 _)
    | false =>
      rw [h2] at c0
      simp only [go_sem, ↓vmP2, ↓vmD, ↓vmK, ↓trK, ↓reduceIte]
      refine rint_wc _ _ _ ?_
      cases h3 : wh k <;> rw [h3] at c0 <;> cases h4 : (s == 4) <;> rw [h4] at c0 <;> cases h5 : (s == 5) <;> rw [h5] at c0 <;>
        cases h6 : (a == 0) <;> rw [h6] at c0 <;> cases h7 : (b != 0) <;> rw [h7] at c0 <;> (simp only [go_sem, ↓vmP2, ↓vmD, ↓vmK, ↓trK, ↓reduceIte, h4, h5, h6, h7]; exact c0 _)
theorem scaled_wc (o a b c k s z i m : Int) (h : Hp) (K : Out → Hp → Prop) (c1 : K (.ret (.s (.a (.bool ((z == 1 || z == 2 || z == 4 || z == 8) || (z == 0 && (c == 0 && o == 10))))))) h) : WC Try.prog 84 [.g (iC o a b c k s z i m)] h K := by
  refine wc_alone (iC_rn _ _ _ _ _ _ _ _ _) rfl ?_
  have c0 : ∀ bl, purK h K (.ret (.s (.a (.bool ((z == 1 || z == 2 || z == 4 || z == 8) || (z == 0 && (c == 0 && o == 10))))))) bl := fun _ => c1
  clear c1
  refine wc_intro Try.func84 rfl rfl (by kernel_rfl) (by simp [Try.f84]) ?_
  simp only [go_sem, ↓vmP2, ↓vmD, ↓vmK, ↓trK, ↓reduceIte, Try.f84, iC]
  cases h1 : (z == 1) with
  | true => rw [h1] at c0; simp only [go_sem, ↓vmP2, ↓vmD, ↓vmK, ↓trK, ↓reduceIte]; exact c0 _
  | false =>
  rw [h1] at c0
  simp only [go_sem, ↓vmP2, ↓vmD, ↓vmK, ↓trK, ↓reduceIte]
  cases h2 : (z == 2) with
  | true => rw [h2] at c0; simp only [go_sem, ↓vmP2, ↓vmD, ↓vmK, ↓trK, ↓reduceIte]; exact c0 _
  | false =>
  rw [h2] at c0
  simp only [go_sem, ↓vmP2, ↓vmD, ↓vmK, ↓trK, ↓reduceIte]
  cases h3 : (z == 4) with
  | true => rw [h3] at c0; simp only [go_sem, ↓vmP2, ↓vmD, ↓vmK, ↓trK, ↓reduceIte]; exact c0 _
  | false =>
  rw [h3] at c0
  simp only [go_sem, ↓vmP2, ↓vmD, ↓vmK, ↓trK, ↓reduceIte]
  cases h4 : (z == 8) with
  | true => rw [h4] at c0; simp only [go_sem, ↓vmP2, ↓vmD, ↓vmK, ↓trK, ↓reduceIte]; exact c0 _
  | false =>
  rw [h4] at c0
  simp only [go_sem, ↓vmP2, ↓vmD, ↓vmK, ↓trK, ↓reduceIte]
  cases h5 : (z == 0) with
  | false => rw [h5] at c0; simp only [go_sem, ↓vmP2, ↓vmD, ↓vmK, ↓trK, ↓reduceIte]; exact c0 _
  | true =>
  rw [h5] at c0
  cases h6 : (c == 0) <;> rw [h6] at c0 <;> (simp only [go_sem, ↓vmP2, ↓vmD, ↓vmK, ↓trK, ↓reduceIte, h6]; exact c0 _)
theorem imm_wc (s k n : Int) (h : Hp) (K : Out → Hp → Prop) (c0 : K (.ret (.s (.a (.bool (immF s k n))))) h) : WC Try.prog 82 [.s (.a (.int .i64 s)), .s (.a (.int .i64 k)), .s (.a (.int .i64 n))] h K := by
  refine wc_intro Try.func82 rfl rfl (by kernel_rfl) (by simp [Try.f82]) ?_
  unfold immF at c0
  simp only [go_sem, ↓vmP2, ↓vmD, ↓vmK, ↓trK, ↓reduceIte, Try.f82]
  refine rint_wc _ _ _ ?_
  cases h1 : wh k with
  | false => rw [h1] at c0; simp only [go_sem, ↓vmP2, ↓vmD, ↓vmK, ↓trK, ↓reduceIte, Bool.not_false]; exact c0
  | true =>
  rw [h1] at c0
  simp only [go_sem, ↓vmP2, ↓vmD, ↓vmK, ↓trK, ↓reduceIte, Bool.not_true]
  refine rhasBin_wc _ _ _ _ ?_
  cases h2 : has s k with
  | false => rw [h2] at c0; simp only [go_sem, ↓vmP2, ↓vmD, ↓vmK, ↓trK, ↓reduceIte, Bool.not_false]; exact c0
  | true =>
  rw [h2] at c0
  simp only [go_sem, ↓vmP2, ↓vmD, ↓vmK, ↓trK, ↓reduceIte, Bool.not_true]
  cases h3 : (s == 4) with
  | true => rw [h3] at c0; simp only [go_sem, ↓vmP2, ↓vmD, ↓vmK, ↓trK, ↓reduceIte]; exact c0
  | false =>
  rw [h3] at c0
  simp only [go_sem, ↓vmP2, ↓vmD, ↓vmK, ↓trK, ↓reduceIte]
  cases h4 : (s == 5) with
  | true => rw [h4] at c0; simp only [go_sem, ↓vmP2, ↓vmD, ↓vmK, ↓trK, ↓reduceIte]; exact c0
  | false =>
  rw [h4] at c0
  simp only [go_sem, ↓vmP2, ↓vmD, ↓vmK, ↓trK, ↓reduceIte]
  refine rsmall_wc _ _ _ ?_
  cases h5 : Ri.smallF n with
  | false => rw [h5] at c0; simp only [go_sem, ↓vmP2, ↓vmD, ↓vmK, ↓trK, ↓reduceIte, Bool.not_false]; exact c0
  | true =>
  rw [h5] at c0
  simp only [go_sem, ↓vmP2, ↓vmD, ↓vmK, ↓trK, ↓reduceIte, Bool.not_true]
  refine rshift_wc _ _ _ ?_
  cases h6 : sh s with
  | false =>
    rw [h6] at c0
    simp only [go_sem, ↓vmP2, ↓vmD, ↓vmK, ↓trK, ↓reduceIte]
    refine rcanon_wc _ _ _ _ ?_
    simp only [go_sem, ↓vmP2, ↓vmD, ↓vmK, ↓trK, ↓reduceIte]
    exact c0
  | true =>
    rw [h6] at c0
    simp only [go_sem, ↓vmP2, ↓vmD, ↓vmK, ↓trK, ↓reduceIte]
    refine rcanon_wc _ _ _ _ ?_
    simp only [go_sem, ↓vmP2, ↓vmD, ↓vmK, ↓trK, ↓reduceIte]
    exact c0
end Go.Proofs.Ytahepinbmcgbnaa.Vm
