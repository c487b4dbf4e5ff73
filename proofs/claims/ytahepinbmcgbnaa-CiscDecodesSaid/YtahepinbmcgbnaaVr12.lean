/- gantryref4.Decode. No condition. -/
import Derived.Test.YtahepinbmcgbnaaVr11
set_option linter.unusedVariables false
set_option linter.unusedSimpArgs false
namespace Go.Proofs.Ytahepinbmcgbnaa.Vm
open Go.RowKit Go.Proofs.Ytahepinbmcgbnaa.PV Go.Proofs.Ytahepinbmcgbnaa.Wd Go.Proofs.YtahepinbmcgbnaaW.PrintWords
attribute [local go_sem] opR moveR pickR allocR boxR ld1R ldgR ldR loadR st2R st1R storeR nilR faR fieldAddrR fdR fieldR ixR indexAddrR extR extractR intR shR isSh eqR bin2R sEqR intsOf binR unR convR miR panR fillP partsR bld2R bld1R buildR bldAR build2R ix1R indexR mxR mmR bs2R bs1R buildSliceR pvOf okT no1T noT taR mfR ptrsR ms1R makeSliceR bnd sl1R so1R sliceR argsR ca1R callR lenR ap2R srcR ap1R appendR lenA appA calR ev cst lk rm pt ins rmO ent gval cellsOf scell TI.agg Sh.agg re1 res1 resR is1 vmQ vmH vmE bin3R index2R strIxR ifR nnR stR oneP oneW opP vmQ2 tA0 tA1 tA2 tA3 tA4 tA5 tA6 tA7 tA8 tA9 tA10 tA11 tA12 tA13 tA14 tA15 oA0 oA1 oA2 oA3 oA4 oA5 oA6 oA7 oA8 oA9 oA10 oA11 oA12 oA13 oA14 reduceCtorEq Nat.reduceEqDiff Nat.reduceAdd Nat.reduceLeDiff Nat.reduceLT Nat.reduceMul Nat.reducePow Nat.reduceSub Int.reduceBEq Int.reduceBNe ne_eq Int.reduceEq not_false_eq_true Bool.false_eq_true Nat.reduceBEq List.getElem?_cons_zero List.getElem?_cons_succ List.map_cons List.map_nil List.length_cons List.length_nil List.drop_succ_cons List.drop_zero List.take_succ_cons List.take_zero List.take_nil List.drop_nil List.append_nil List.nil_append List.cons_append List.set_cons_zero List.set_cons_succ List.all_cons List.all_nil Bool.and_true Bool.and_self cond_true cond_false Option.map_some Option.map_none and_self true_and and_true List.append_eq Int.reduceToNat Int.reduceLT Int.reduceLE Int.reduceAdd Int.reduceMul Int.reduceSub decide_true decide_false nc0 nc1 nc2 nc3 nc4 nc8 Nat.zero_add Nat.mul_one Nat.add_zero
theorem row_any (o : Int) (ho : isOp o = true) : ∃ s : ByteArray, (s.toList == ({ data := #[] } : ByteArray).toList) = false ∧ ∀ (h : Hp) (K : Out → Hp → Prop), K (.ret (.s (.a (.string s)))) h → WC Try.prog 79 [.s (.a (.int .i64 o))] h K := by
 rcases isOp_cases o ho with rfl | rfl | rfl | rfl | rfl | rfl | rfl | rfl | rfl | rfl | rfl | rfl | rfl | rfl | rfl | rfl | rfl | rfl | rfl | rfl | rfl | rfl | rfl | rfl | rfl
 ·exact ⟨_, te0, fun h K c => row_1 h K c⟩
 ·exact ⟨_, te1, fun h K c => row_3 h K c⟩
 ·exact ⟨_, te2, fun h K c => row_4 h K c⟩
 ·exact ⟨_, te3, fun h K c => row_5 h K c⟩
 ·exact ⟨_, te4, fun h K c => row_6 h K c⟩
 ·exact ⟨_, te2, fun h K c => row_7 h K c⟩
 ·exact ⟨_, te2, fun h K c => row_8 h K c⟩
 ·exact ⟨_, te5, fun h K c => row_10 h K c⟩
 ·exact ⟨_, te6, fun h K c => row_11 h K c⟩
 ·exact ⟨_, te7, fun h K c => row_12 h K c⟩
 ·exact ⟨_, te6, fun h K c => row_13 h K c⟩
 ·exact ⟨_, te7, fun h K c => row_14 h K c⟩
 ·exact ⟨_, te8, fun h K c => row_15 h K c⟩
 ·exact ⟨_, te9, fun h K c => row_16 h K c⟩
 ·exact ⟨_, te10, fun h K c => row_17 h K c⟩
 ·exact ⟨_, te8, fun h K c => row_18 h K c⟩
 ·exact ⟨_, te11, fun h K c => row_19 h K c⟩
 ·exact ⟨_, te12, fun h K c => row_22 h K c⟩
 ·exact ⟨_, te13, fun h K c => row_23 h K c⟩
 ·exact ⟨_, te14, fun h K c => row_24 h K c⟩
 ·exact ⟨_, te13, fun h K c => row_25 h K c⟩
 ·exact ⟨_, te1, fun h K c => row_26 h K c⟩
 ·exact ⟨_, te1, fun h K c => row_27 h K c⟩
 ·exact ⟨_, te1, fun h K c => row_28 h K c⟩
 ·exact ⟨_, te13, fun h K c => row_29 h K c⟩
theorem rdecR_no (l : List Int) (q0 : 0 < l.length) (ho : isOp l[0] = false) : rdecR l = (zI, 0, 40) := by
 unfold rdecR; rw [if_neg (by omega), gd l 0 q0, if_pos ho]
theorem rdecR_short (l : List Int) (q0 : 0 < l.length) (ho : isOp l[0] = true) (hd : readD l = .short) : rdecR l = (zI, 0, 41) := by
 unfold rdecR; rw [if_neg (by omega), gd l 0 q0, if_neg (by rw [ho]; decide), hd]
theorem rdecR_bad (l : List Int) (q0 : 0 < l.length) (ho : isOp l[0] = true) (hd : readD l = .bad) : rdecR l = (zI, 0, 40) := by
 unfold rdecR; rw [if_neg (by omega), gd l 0 q0, if_neg (by rw [ho]; decide), hd]
theorem rdecR_acc (l : List Int) (q0 : 0 < l.length) (ho : isOp l[0] = true) {n : Nat} {f : List SV} (hd : readD l = .ok n f) (h : mayC f = true ∧ layC f = l.take n) : rdecR l = (f, (n : Int), 0) := by
 unfold rdecR; rw [if_neg (by omega), gd l 0 q0, if_neg (by rw [ho]; decide), hd]
 exact if_pos h
theorem rdecR_rej (l : List Int) (q0 : 0 < l.length) (ho : isOp l[0] = true) {n : Nat} {f : List SV} (hd : readD l = .ok n f) (h : ¬ (mayC f = true ∧ layC f = l.take n)) : rdecR l = (zI, 0, 40) := by
 unfold rdecR; rw [if_neg (by omega), gd l 0 q0, if_neg (by rw [ho]; decide), hd]
 exact if_neg h
set_option maxRecDepth 100000 in
set_option maxHeartbeats 16000000 in
theorem rdecode_wc (l : List Int) (K : Out → Hp → Prop) (hm : BY l) (q0 : 0 < l.length) (c : ∀ v, rdecR l = v → K (.ret (.t [.g v.1, .s (.a (.int .i64 v.2.1)), .s (.a (.int .i64 v.2.2))])) [.ro (byC l)]) :
  WC Try.prog 48 [.s (.sl 0 0 l.length)] [.ro (byC l)] K := by
 refine wc_trunc 1 (by simp) ?_
 have hml := hm.1
 unfold maxLen at hml
 have b0 := hm.2 0 q0
 have i0 : IntKind.i64.wrap l[0] = l[0] := wrap_id _ b0.1 (by unfold maxLen; omega)
 have ln : ((l.length : Int) == 0) = false := beq_eq_false_iff_ne.mpr (by omega)
 refine wc_intro Try.func48 rfl rfl (by kernel_rfl) (by simp [Try.f48]) ?_
 simp only [go_sem, ↓vmP2, ↓vmD, ↓vmK, ↓trK, ↓reduceIte, Try.f48, ln, ldC_by l 0 q0, i0]
 refine ⟨by omega, ?_⟩
 cases ho : isOp l[0] with
 | false =>
  refine row_none _ ho _ _ ?_
  simp only [go_sem, ↓vmP2, ↓vmD, ↓vmK, ↓trK, ↓reduceIte, teNone, iC, idV, idS, idB, idB_by, tnB, trK]
  exact c _ (rdecR_no l q0 ho)
 | true =>
 obtain ⟨s, hs, row⟩ := row_any _ ho
 refine row _ _ ?_
 simp only [go_sem, ↓vmP2, ↓vmD, ↓vmK, ↓trK, ↓reduceIte, hs]
 refine wc_focus [0] rfl (hc := [.ro (byC l)]) ⟨by simp only [rnB, rn_by]; rfl, trivial⟩ (args' := [.s (.sl 0 0 l.length)]) rfl rfl (read_wc l _ hm q0 ho ?_)
 cases hd : readD l with
 | short =>
  intro o a b c2 k s z i
  simp only [rnO, rnP, mrg, setAll, rnB, rnS, ix, List.length_cons, List.length_nil, List.take_succ_cons, List.take_zero, List.take_nil, List.drop_succ_cons, List.drop_zero, List.drop_nil, List.map_cons, List.map_nil, List.getElem?_nil, List.getElem?_cons_zero, List.getElem?_cons_succ, List.set_cons_zero, List.set_cons_succ, List.cons_append, List.nil_append, List.append_nil, Nat.zero_add, Nat.reduceAdd, Nat.reduceSub, rn_by, iC]
  simp only [go_sem, ↓vmP2, ↓vmD, ↓vmK, ↓trK, ↓reduceIte, iC, idV, idS, idB, idB_by, tnB, trK]
  exact c _ (rdecR_short l q0 ho hd)
 | bad =>
  intro o a b c2 k s z i
  simp only [rnO, rnP, mrg, setAll, rnB, rnS, ix, List.length_cons, List.length_nil, List.take_succ_cons, List.take_zero, List.take_nil, List.drop_succ_cons, List.drop_zero, List.drop_nil, List.map_cons, List.map_nil, List.getElem?_nil, List.getElem?_cons_zero, List.getElem?_cons_succ, List.set_cons_zero, List.set_cons_succ, List.cons_append, List.nil_append, List.append_nil, Nat.zero_add, Nat.reduceAdd, Nat.reduceSub, rn_by, iC]
  simp only [go_sem, ↓vmP2, ↓vmD, ↓vmK, ↓trK, ↓reduceIte, iC, idV, idS, idB, idB_by, tnB, trK]
  refine sw_draw (.take 0 (.take 1 (.take 2 (.all [(3, .all [(4, .take 5 (.all [(6, .take 7 (.take 10 (.take 11 (.all [(8, .all [(9, .all [(12, .all [(13, .take 14 (.all [(15, .done)]))])]), (12, .all [(9, .all [(13, .take 14 (.all [(15, .done)]))])])]), (12, .all [(8, .all [(9, .all [(13, .take 14 (.all [(15, .done)]))])])])]))))]))])])))) mo (by kernel_rfl) (by kernel_rfl) (by kernel_rfl) (fun _ _ _ h => h) ?_
  simp only [go_sem, ↓vmP2, ↓vmD, ↓vmK, ↓trK, ↓reduceIte, iC, idV, idS, idB, idB_by, tnB, trK]
  exact c _ (rdecR_bad l q0 ho hd)
 | ok n f =>
  have hd' : readO l l[0] = .ok n f := by rw [← hd]; unfold readD; rw [gd l 0 q0]
  obtain ⟨a, b, c2, k, s, z, i, rfl, n1, n2⟩ := readO_iC l q0 _ ho hd'
  have z1 : ((n : Int) == 0) = false := beq_eq_false_iff_ne.mpr (by omega)
  have z2 : decide ((n : Int) < 0) = false := decide_eq_false (by omega)
  have cy := fun h => c _ (rdecR_acc l q0 ho hd h)
  have cn := fun h => c _ (rdecR_rej l q0 ho hd h)
  rw [mayC_iC, layC_iC] at cy cn
  clear c hd' hd
  generalize hx : l[0] = x at *
  simp only [rnO, rnP, mrg, setAll, rnB, rnS, ix, List.length_cons, List.length_nil, List.take_succ_cons, List.take_zero, List.take_nil, List.drop_succ_cons, List.drop_zero, List.drop_nil, List.map_cons, List.map_nil, List.getElem?_nil, List.getElem?_cons_zero, List.getElem?_cons_succ, List.set_cons_zero, List.set_cons_succ, List.cons_append, List.nil_append, List.append_nil, Nat.zero_add, Nat.reduceAdd, Nat.reduceSub, RDK, rn_by, iC]
  simp only [go_sem, ↓vmP2, ↓vmD, ↓vmK, ↓trK, ↓reduceIte, z1]
  refine sw_draw (.take 0 (.take 1 (.take 2 (.all [(3, .all [(4, .take 5 (.all [(6, .take 7 (.take 10 (.take 11 (.all [(8, .all [(9, .all [(12, .all [(13, .take 14 (.all [(15, .done)]))])]), (12, .all [(9, .all [(13, .take 14 (.all [(15, .done)]))])])]), (12, .all [(8, .all [(9, .all [(13, .take 14 (.all [(15, .done)]))])])])]))))]))])])))) mo (by kernel_rfl) (by kernel_rfl) (by kernel_rfl) (fun _ _ _ h => h) ?_
  simp only [go_sem, ↓vmP2, ↓vmD, ↓vmK, ↓trK, ↓reduceIte, z2]
  refine may_wc _ _ _ _ _ _ _ _ _ _ _ ?_
  cases hmay : mayF x a b c2 k s z i 0 with
  | false =>
   simp only [go_sem, ↓vmP2, ↓vmD, ↓vmK, ↓trK, ↓reduceIte, Bool.not_false, iC, idV, idS, idB, idB_by, tnB, trK]
   exact cn (by rw [hmay]; rintro ⟨p, _⟩; exact absurd p (by decide))
  | true =>
   have hL := lay_len x a b c2 k s z i
   rw [hmay] at cy cn
   simp only [go_sem, ↓vmP2, ↓vmD, ↓vmK, ↓trK, ↓reduceIte, Bool.not_true]
   repeat' apply And.intro
   all_goals try omega
   all_goals
    refine wc_focus [] rfl (hc := []) trivial (args' := [.g (iC x a b c2 k s z i 0)]) rfl rfl (renc_wc _ _ _ _ _ _ _ _ _ ho _ ?_)
    generalize layF x a b c2 k s z i = L at *
    simp only [rnO, rnP, mrg, setAll, rnB, rnS, ix, List.length_cons, List.length_nil, List.take_succ_cons, List.take_zero, List.take_nil, List.drop_succ_cons, List.drop_zero, List.drop_nil, List.map_cons, List.map_nil, List.getElem?_nil, List.getElem?_cons_zero, List.getElem?_cons_succ, List.set_cons_zero, List.set_cons_succ, List.cons_append, List.nil_append, List.append_nil, Nat.zero_add, Nat.reduceAdd, Nat.reduceSub, rn_by, iC]
    simp only [go_sem, ↓vmP2, ↓vmD, ↓vmK, ↓trK, ↓reduceIte]
    repeat' apply And.intro
    all_goals try omega
    all_goals
     refine wc_lend 3 (byC L) rfl ?_
     refine wc_view (args' := [.s (.sl 3 0 L.length), .s (.sl 0 0 n)]) ⟨⟨rfl, rfl, rfl⟩, rfl, trivial⟩ ?_
     refine wc_focus [3, 0] rfl (hc := [.ro (byC L), .ro (byC l)]) ⟨by simp only [rnB, rn_by]; rfl, by simp only [rnB, rn_by]; rfl, trivial⟩ (args' := [.s (.sl 0 0 L.length), .s (.sl 1 0 n)]) rfl rfl (eq_wc L l n _ (by unfold maxLen; omega) n2 (by unfold maxLen; omega) ?_)
     simp only [rnO, rnP, mrg, setAll, rnB, rnS, ix, List.length_cons, List.length_nil, List.take_succ_cons, List.take_zero, List.take_nil, List.drop_succ_cons, List.drop_zero, List.drop_nil, List.map_cons, List.map_nil, List.getElem?_nil, List.getElem?_cons_zero, List.getElem?_cons_succ, List.set_cons_zero, List.set_cons_succ, List.cons_append, List.nil_append, List.append_nil, Nat.zero_add, Nat.reduceAdd, Nat.reduceSub, rn_by]
     intro _
     cases hdec : decide (L = l.take n) with
     | true =>
      have hq : L = l.take n := of_decide_eq_true hdec
      simp only [go_sem, ↓vmP2, ↓vmD, ↓vmK, ↓trK, ↓reduceIte, Bool.not_true, iC, idV, idS, idB, idB_by, tnB, trK]
      exact cy ⟨rfl, hq⟩
     | false =>
      have hq : ¬ L = l.take n := of_decide_eq_false hdec
      simp only [go_sem, ↓vmP2, ↓vmD, ↓vmK, ↓trK, ↓reduceIte, Bool.not_false, iC, idV, idS, idB, idB_by, tnB, trK]
      exact cn (fun h => hq h.2)
end Go.Proofs.Ytahepinbmcgbnaa.Vm
