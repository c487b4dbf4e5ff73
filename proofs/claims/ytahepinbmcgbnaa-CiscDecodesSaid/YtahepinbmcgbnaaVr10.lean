/- gantryref0.EqBytes. No condition. -/
import Derived.Test.YtahepinbmcgbnaaVr5
set_option linter.unusedVariables false
set_option linter.unusedSimpArgs false
namespace Go.Proofs.Ytahepinbmcgbnaa.Vm
open Go.RowKit Go.Proofs.Ytahepinbmcgbnaa.PV Go.Proofs.Ytahepinbmcgbnaa.Wd Go.Proofs.YtahepinbmcgbnaaW.PrintWords
attribute [local go_sem] opR moveR pickR allocR boxR ld1R ldgR ldR loadR st2R st1R storeR nilR faR fieldAddrR fdR fieldR ixR indexAddrR extR extractR intR shR isSh eqR bin2R sEqR intsOf binR unR convR miR panR fillP partsR bld2R bld1R buildR bldAR build2R ix1R indexR mxR mmR bs2R bs1R buildSliceR pvOf okT no1T noT taR mfR ptrsR ms1R makeSliceR bnd sl1R so1R sliceR argsR ca1R callR lenR ap2R srcR ap1R appendR lenA appA calR ev cst lk rm pt ins rmO ent gval cellsOf scell TI.agg Sh.agg re1 res1 resR is1 vmQ vmH vmE bin3R index2R strIxR ifR nnR stR oneP oneW opP vmQ2 tA0 tA1 tA2 tA3 tA4 tA5 tA6 tA7 tA8 tA9 tA10 tA11 tA12 tA13 tA14 tA15 oA0 oA1 oA2 oA3 oA4 oA5 oA6 oA7 oA8 oA9 oA10 oA11 oA12 oA13 oA14 reduceCtorEq Nat.reduceEqDiff Nat.reduceAdd Nat.reduceLeDiff Nat.reduceLT Nat.reduceMul Nat.reducePow Nat.reduceSub Int.reduceBEq Int.reduceBNe ne_eq Int.reduceEq not_false_eq_true Bool.false_eq_true Nat.reduceBEq List.getElem?_cons_zero List.getElem?_cons_succ List.map_cons List.map_nil List.length_cons List.length_nil List.drop_succ_cons List.drop_zero List.take_succ_cons List.take_zero List.take_nil List.drop_nil List.append_nil List.nil_append List.cons_append List.set_cons_zero List.set_cons_succ List.all_cons List.all_nil Bool.and_true Bool.and_self cond_true cond_false Option.map_some Option.map_none and_self true_and and_true List.append_eq Int.reduceToNat Int.reduceLT Int.reduceLE Int.reduceAdd Int.reduceMul Int.reduceSub decide_true decide_false nc0 nc1 nc2 nc3 nc4 nc8 Nat.zero_add Nat.mul_one Nat.add_zero
set_option maxRecDepth 100000 in
set_option maxHeartbeats 8000000 in
theorem eq_wc (l r : List Int) (n : Nat) (K : Out → Hp → Prop) (hl : l.length ≤ maxLen) (hn : n ≤ r.length) (hr : r.length ≤ maxLen) (c0 : K (.ret (.s (.a (.bool (decide (l = r.take n)))))) [.ro (byC l), .ro (byC r)]) :
    WC Try.prog 35 [.s (.sl 0 0 l.length), .s (.sl 1 0 n)] [.ro (byC l), .ro (byC r)] K := by
  have c1 : ∀ b, decide (l = r.take n) = b → K (.ret (.s (.a (.bool b)))) [.ro (byC l), .ro (byC r)] := fun b e => e ▸ c0
  clear c0
  unfold maxLen at hl hr
  refine wc_intro Try.func35 rfl rfl (by kernel_rfl) (by simp [Try.f35]) ?_
  simp only [go_sem, ↓vmP2, ↓vmD, ↓vmK, ↓trK, ↓reduceIte, Try.f35]
  cases h1 : ((l.length : Int) != (n : Int)) with
  | true =>
    simp only [go_sem, ↓vmP2, ↓vmD, ↓vmK, ↓trK, ↓reduceIte]
    exact c1 _ (by
      have : (l.length : Int) ≠ (n : Int) := by simpa using h1
      simp only [decide_eq_false_iff_not]
      intro q
      have := congrArg List.length q
      simp at this
      omega)
  | false =>
  have hq : l.length = n := by
    have : (l.length : Int) = (n : Int) := by simpa using h1
    omega
  simp only [go_sem, ↓vmP2, ↓vmD, ↓vmK, ↓trK, ↓reduceIte]
  refine sw_loop (ι := Nat) (fun i => i ≤ l.length ∧ l.take i = r.take i) (fun i => [(5, .s (.a (.int .i64 i))), (1, .s (.sl 1 0 n)), (0, .s (.sl 0 0 l.length))]) (fun _ => [.ro (byC l), .ro (byC r)]) (fun i => l.length - i) 0 (by kernel_rfl) ⟨by omega, rfl⟩ (by simp only [go_sem, ↓vmP2, ↓vmD, ↓vmK, ↓trK, ↓reduceIte, subT]) rfl ?_
  intro i ⟨hi, he⟩
  simp only [go_sem, ↓vmP2, ↓vmD, ↓vmK, ↓trK, ↓reduceIte]
  refine cdC_split (fun q => ?_) (fun q => ?_)
  · have hlt : i < l.length := by simp at q; omega
    have hrt : i < r.length := by omega
    have w1 : IntKind.i64.wrap ((i : Int) + 1) = ((i + 1 : Nat) : Int) := by rw [wrap_id _ (by omega) (by unfold maxLen; omega)]; push_cast; rfl
    refine sw_cut [(25, .s (.a (.bool (l[i] != r[i])))), (5, .s (.a (.int .i64 i))), (1, .s (.sl 1 0 n)), (0, .s (.sl 0 0 l.length))] [.ro (byC l), .ro (byC r)] ?_ ?_
    rotate_left
    · refine sw_draw (.take 0 (.take 1 (.take 4 (.take 5 (.all [(2, .all [(3, .all [(6, .all [(7, .take 8 (.done))])]), (6, .all [(3, .all [(7, .take 8 (.done))]), (7, .all [(3, .take 8 (.done))])])]), (6, .all [(2, .all [(3, .all [(7, .take 8 (.done))]), (7, .all [(3, .take 8 (.done))])]), (7, .all [(2, .all [(3, .take 8 (.done))])])])]))))) mo (by kernel_rfl) (by kernel_rfl) (by kernel_rfl) (fun _ _ _ h => h) ?_
      simp only [go_sem, ↓vmP2, ↓vmD, ↓vmK, ↓trK, ↓reduceIte, ldC_by l i hlt, ldC_by r i hrt, Int.toNat_natCast, cutK, subT]
      repeat' apply And.intro
      all_goals first | omega | rfl | trivial
    simp only [go_sem, ↓vmP2, ↓vmD, ↓vmK, ↓trK, ↓reduceIte]
    have e1 : l.take (i + 1) = l.take i ++ [l[i]] := by rw [List.take_succ_eq_append_getElem hlt]
    have e2 : r.take (i + 1) = r.take i ++ [r[i]] := by rw [List.take_succ_eq_append_getElem hrt]
    cases g : (l[i] != r[i]) with
    | true =>
      simp only [go_sem, ↓vmP2, ↓vmD, ↓vmK, ↓trK, ↓reduceIte, lpK]
      exact c1 _ (by
        have gn : l[i] ≠ r[i] := by simpa using g
        simp only [decide_eq_false_iff_not]
        intro p
        have p2 : l.take (i + 1) = r.take (i + 1) := by
          have := congrArg (List.take (i + 1)) p
          rw [List.take_take, Nat.min_eq_left (by omega)] at this
          exact this
        rw [e1, e2, he] at p2
        have := List.append_cancel_left p2
        simp at this
        exact gn this)
    | false =>
      simp only [go_sem, ↓vmP2, ↓vmD, ↓vmK, ↓trK, ↓reduceIte, w1, subT]
      have ge : l[i] = r[i] := by simpa using g
      refine ⟨i + 1, ⟨by omega, by rw [e1, e2, he, ge]⟩, by omega, ?_⟩
      first | trivial | rfl | exact ⟨rfl, rfl⟩ | exact ⟨⟨rfl, rfl, rfl, trivial⟩, rfl⟩
  · simp only [go_sem, ↓vmP2, ↓vmD, ↓vmK, ↓trK, ↓reduceIte]
    exact c1 _ (by
      have hil : i = l.length := by simp at q; omega
      rw [decide_eq_true_iff]
      rw [hil, List.take_length, hq] at he
      exact he)
end Go.Proofs.Ytahepinbmcgbnaa.Vm
