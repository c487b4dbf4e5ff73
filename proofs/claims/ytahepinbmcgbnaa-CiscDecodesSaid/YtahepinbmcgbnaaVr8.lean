/- gantryref4.read: an instruction by its row. Printed by wip/tools/genVr8.py. No condition. -/
import Derived.Test.YtahepinbmcgbnaaVr5
import Derived.Test.YtahepinbmcgbnaaVc9
set_option linter.unusedVariables false
set_option linter.unusedSimpArgs false
namespace Go.Proofs.Ytahepinbmcgbnaa.Vm
open Go.RowKit Go.Proofs.Ytahepinbmcgbnaa.PV Go.Proofs.Ytahepinbmcgbnaa.Wd Go.Proofs.YtahepinbmcgbnaaW.PrintWords
inductive RD where
 | short
 | bad
 | ok (n : Nat) (f : List SV)
/-- What a reading wants. -/
def RDK (d : RD) (K : Out → Hp → Prop) (h : Hp) : Prop := match d with
 | .short => ∀ o a b c k s z i, K (.ret (.t [.g (iC o a b c k s z i 0), .s (.a (.int .i64 0))])) h
 | .bad => ∀ o a b c k s z i, K (.ret (.t [.g (iC o a b c k s z i 0), .s (.a (.int .i64 (-1)))])) h
 | .ok n f => K (.ret (.t [.g f, .s (.a (.int .i64 (n : Int)))])) h
theorem RDK.short {d : RD} {K : Out → Hp → Prop} {h : Hp} (c : RDK d K h) (e : d = .short) (o a b c2 k s z i : Int) : K (.ret (.t [.g (iC o a b c2 k s z i 0), .s (.a (.int .i64 0))])) h := by subst e; exact c o a b c2 k s z i
theorem RDK.bad {d : RD} {K : Out → Hp → Prop} {h : Hp} (c : RDK d K h) (e : d = .bad) (o a b c2 k s z i : Int) : K (.ret (.t [.g (iC o a b c2 k s z i 0), .s (.a (.int .i64 (-1)))])) h := by subst e; exact c o a b c2 k s z i
theorem RDK.ok {d : RD} {K : Out → Hp → Prop} {h : Hp} (c : RDK d K h) {n : Nat} {f : List SV} (e : d = .ok n f) : K (.ret (.t [.g f, .s (.a (.int .i64 (n : Int)))])) h := by subst e; exact c
def numR (l : List Int) (p n : Nat) : Int := sgR n (hiR l p n n)
theorem tnB (l : List Int) (o a b c k s z i m : Int) : idB 1 (.ro (byC l)) = true := idB_by 1 l
theorem tm0 : (({ data := #[110, 105] } : ByteArray).toList == ({ data := #[45] } : ByteArray).toList) = false := by decide +kernel
theorem tm1 : (({ data := #[97] } : ByteArray).toList == ({ data := #[45] } : ByteArray).toList) = false := by decide +kernel
theorem tm2 : (({ data := #[97, 75, 83] } : ByteArray).toList == ({ data := #[45] } : ByteArray).toList) = false := by decide +kernel
theorem tm3 : (({ data := #[110, 75, 83, 105] } : ByteArray).toList == ({ data := #[45] } : ByteArray).toList) = false := by decide +kernel
theorem tm4 : (({ data := #[97, 75, 83, 52] } : ByteArray).toList == ({ data := #[45] } : ByteArray).toList) = false := by decide +kernel
theorem tm5 : (({ data := #[97, 99, 52] } : ByteArray).toList == ({ data := #[45] } : ByteArray).toList) = false := by decide +kernel
theorem tm6 : (({ data := #[97, 75, 52] } : ByteArray).toList == ({ data := #[45] } : ByteArray).toList) = false := by decide +kernel
theorem tm7 : (({ data := #[97, 99, 75, 52] } : ByteArray).toList == ({ data := #[45] } : ByteArray).toList) = false := by decide +kernel
theorem tm8 : (({ data := #[97, 83] } : ByteArray).toList == ({ data := #[45] } : ByteArray).toList) = false := by decide +kernel
theorem tm9 : (({ data := #[97, 75] } : ByteArray).toList == ({ data := #[45] } : ByteArray).toList) = false := by decide +kernel
theorem tm10 : (({ data := #[110, 75, 105] } : ByteArray).toList == ({ data := #[45] } : ByteArray).toList) = false := by decide +kernel
theorem tm11 : (({ data := #[106, 105] } : ByteArray).toList == ({ data := #[45] } : ByteArray).toList) = false := by decide +kernel
theorem tm12 : (({ data := #[74, 105] } : ByteArray).toList == ({ data := #[45] } : ByteArray).toList) = false := by decide +kernel
theorem tm13 : (({ data := #[52] } : ByteArray).toList == ({ data := #[45] } : ByteArray).toList) = false := by decide +kernel
theorem tm14 : (({ data := #[45] } : ByteArray).toList == ({ data := #[45] } : ByteArray).toList) = true := by decide +kernel
attribute [local go_sem] opR moveR pickR allocR boxR ld1R ldgR ldR loadR st2R st1R storeR nilR faR fieldAddrR fdR fieldR ixR indexAddrR extR extractR intR shR isSh eqR bin2R sEqR intsOf binR unR convR miR panR fillP partsR bld2R bld1R buildR bldAR build2R ix1R indexR mxR mmR bs2R bs1R buildSliceR pvOf okT no1T noT taR mfR ptrsR ms1R makeSliceR bnd sl1R so1R sliceR argsR ca1R callR lenR ap2R srcR ap1R appendR lenA appA calR ev cst lk rm pt ins rmO ent gval cellsOf scell TI.agg Sh.agg re1 res1 resR is1 vmQ vmH vmE bin3R index2R strIxR ifR nnR stR oneP oneW opP vmQ2 tA0 tA1 tA2 tA3 tA4 tA5 tA6 tA7 tA8 tA9 tA10 tA11 tA12 tA13 tA14 tA15 oA0 oA1 oA2 oA3 oA4 oA5 oA6 oA7 oA8 oA9 oA10 oA11 oA12 oA13 oA14 reduceCtorEq Nat.reduceEqDiff Nat.reduceAdd Nat.reduceLeDiff Nat.reduceLT Nat.reduceMul Nat.reducePow Nat.reduceSub Int.reduceBEq Int.reduceBNe ne_eq Int.reduceEq not_false_eq_true Bool.false_eq_true Nat.reduceBEq List.getElem?_cons_zero List.getElem?_cons_succ List.map_cons List.map_nil List.length_cons List.length_nil List.drop_succ_cons List.drop_zero List.take_succ_cons List.take_zero List.take_nil List.drop_nil List.append_nil List.nil_append List.cons_append List.set_cons_zero List.set_cons_succ List.all_cons List.all_nil Bool.and_true Bool.and_self cond_true cond_false Option.map_some Option.map_none and_self true_and and_true List.append_eq Int.reduceToNat Int.reduceLT Int.reduceLE Int.reduceAdd Int.reduceMul Int.reduceSub decide_true decide_false nc0 nc1 nc2 nc3 nc4 nc8 Nat.zero_add Nat.mul_one Nat.add_zero unK List.size_toArray Int.reduceGT wi1 wi2 wi3 wi4 wi5 wi6 wi7 wi8 Bool.not_true Bool.not_false iC idV idS idB idB_by tnB szS0 szS1 szS2 szS3 szS4 szS5 szS6 szS7 szS8 szS9 szS10 szS11 szS12 szS13 szS14 atS0_0 atS0_1 atS1_0 atS2_0 atS2_1 atS2_2 atS3_0 atS3_1 atS3_2 atS3_3 atS4_0 atS4_1 atS4_2 atS4_3 atS5_0 atS5_1 atS5_2 atS6_0 atS6_1 atS6_2 atS7_0 atS7_1 atS7_2 atS7_3 atS8_0 atS8_1 atS9_0 atS9_1 atS10_0 atS10_1 atS10_2 atS11_0 atS11_1 atS12_0 atS12_1 atS13_0 atS14_0 tm0 tm1 tm2 tm3 tm4 tm5 tm6 tm7 tm8 tm9 tm10 tm11 tm12 tm13 tm14
def rdD1 (l : List Int) : RD := if l.length < 2 then .short else if 2 < ((l.getD 1 0) % 16) then .bad else if l.length < 2 + bytesF ((l.getD 1 0) % 16) then .short else .ok (2 + bytesF ((l.getD 1 0) % 16)) (iC 1 ((l.getD 1 0) / 16) (0) (0) (0) (0) (0) (numR l 2 (bytesF ((l.getD 1 0) % 16))) 0)
def rdD3 (l : List Int) : RD := if l.length < 2 then .short else .ok 2 (iC 3 ((l.getD 1 0) / 16) ((l.getD 1 0) % 16) (0) (0) (0) (0) (0) 0)
def rdD4 (l : List Int) : RD := if l.length < 4 then .short else .ok 4 (iC 4 ((l.getD 1 0) / 16) ((l.getD 1 0) % 16) (0) ((l.getD 2 0)) ((l.getD 3 0)) (0) (0) 0)
def rdD5 (l : List Int) : RD := if l.length < 2 then .short else if 1 < ((l.getD 1 0) % 16) then .bad else if l.length < 4 + bytesF ((l.getD 1 0) % 16) then .short else .ok (4 + bytesF ((l.getD 1 0) % 16)) (iC 5 ((l.getD 1 0) / 16) (0) (0) ((l.getD 2 0)) ((l.getD 3 0)) (0) (numR l 4 (bytesF ((l.getD 1 0) % 16))) 0)
def rdD6 (l : List Int) : RD := if l.length < 8 then .short else .ok 8 (iC 6 ((l.getD 1 0) / 16) ((l.getD 1 0) % 16) (0) ((l.getD 2 0)) ((l.getD 3 0)) (0) (numR l 4 4) 0)
def rdD7 (l : List Int) : RD := if l.length < 4 then .short else .ok 4 (iC 7 ((l.getD 1 0) / 16) ((l.getD 1 0) % 16) (0) ((l.getD 2 0)) ((l.getD 3 0)) (0) (0) 0)
def rdD8 (l : List Int) : RD := if l.length < 4 then .short else .ok 4 (iC 8 ((l.getD 1 0) / 16) ((l.getD 1 0) % 16) (0) ((l.getD 2 0)) ((l.getD 3 0)) (0) (0) 0)
def rdD10 (l : List Int) : RD := if l.length < 7 then .short else .ok 7 (iC 10 ((l.getD 1 0) / 16) ((l.getD 1 0) % 16) ((l.getD 2 0) / 16) (0) (0) (unscale ((l.getD 2 0) % 16)) (numR l 3 4) 0)
def rdD11 (l : List Int) : RD := if l.length < 7 then .short else .ok 7 (iC 11 ((l.getD 1 0) / 16) ((l.getD 1 0) % 16) (0) ((l.getD 2 0)) (0) (0) (numR l 3 4) 0)
def rdD12 (l : List Int) : RD := if l.length < 8 then .short else .ok 8 (iC 12 ((l.getD 1 0) / 16) ((l.getD 1 0) % 16) ((l.getD 2 0) / 16) ((l.getD 3 0)) (0) (unscale ((l.getD 2 0) % 16)) (numR l 4 4) 0)
def rdD13 (l : List Int) : RD := if l.length < 7 then .short else .ok 7 (iC 13 ((l.getD 1 0) / 16) ((l.getD 1 0) % 16) (0) ((l.getD 2 0)) (0) (0) (numR l 3 4) 0)
def rdD14 (l : List Int) : RD := if l.length < 8 then .short else .ok 8 (iC 14 ((l.getD 1 0) / 16) ((l.getD 1 0) % 16) ((l.getD 2 0) / 16) ((l.getD 3 0)) (0) (unscale ((l.getD 2 0) % 16)) (numR l 4 4) 0)
def rdD15 (l : List Int) : RD := if l.length < 3 then .short else .ok 3 (iC 15 ((l.getD 1 0) / 16) ((l.getD 1 0) % 16) (0) (0) ((l.getD 2 0)) (0) (0) 0)
def rdD16 (l : List Int) : RD := if l.length < 3 then .short else .ok 3 (iC 16 ((l.getD 1 0) / 16) ((l.getD 1 0) % 16) (0) ((l.getD 2 0)) (0) (0) (0) 0)
def rdD17 (l : List Int) : RD := if l.length < 2 then .short else if 1 < ((l.getD 1 0) % 16) then .bad else if l.length < 3 + bytesF ((l.getD 1 0) % 16) then .short else .ok (3 + bytesF ((l.getD 1 0) % 16)) (iC 17 ((l.getD 1 0) / 16) (0) (0) ((l.getD 2 0)) (0) (0) (numR l 3 (bytesF ((l.getD 1 0) % 16))) 0)
def rdD18 (l : List Int) : RD := if l.length < 3 then .short else .ok 3 (iC 18 ((l.getD 1 0) / 16) ((l.getD 1 0) % 16) (0) (0) ((l.getD 2 0)) (0) (0) 0)
def rdD19 (l : List Int) : RD := if l.length < 2 then .short else if 1 < (l.getD 1 0) then .bad else if l.length < 2 + bytesF (l.getD 1 0) then .short else .ok (2 + bytesF (l.getD 1 0)) (iC 19 (0) (0) (0) (0) (0) (0) (numR l 2 (bytesF (l.getD 1 0))) 0)
def rdD22 (l : List Int) : RD := if l.length < 2 then .short else if 1 < ((l.getD 1 0) % 16) then .bad else if l.length < 2 + bytesF ((l.getD 1 0) % 16) then .short else .ok (2 + bytesF ((l.getD 1 0) % 16)) (iC 22 (0) (0) (0) (0) ((l.getD 1 0) / 16 + 11) (0) (numR l 2 (bytesF ((l.getD 1 0) % 16))) 0)
def rdD23 (l : List Int) : RD := if l.length < 5 then .short else .ok 5 (iC 23 (0) (0) (0) (0) (0) (0) (numR l 1 4) 0)
def rdD24 (l : List Int) : RD := if l.length < 1 then .short else .ok 1 (iC 24 (0) (0) (0) (0) (0) (0) (0) 0)
def rdD25 (l : List Int) : RD := if l.length < 5 then .short else .ok 5 (iC 25 (0) (0) (0) (0) (0) (0) (numR l 1 4) 0)
def rdD26 (l : List Int) : RD := if l.length < 2 then .short else .ok 2 (iC 26 ((l.getD 1 0) / 16) ((l.getD 1 0) % 16) (0) (0) (0) (0) (0) 0)
def rdD27 (l : List Int) : RD := if l.length < 2 then .short else .ok 2 (iC 27 ((l.getD 1 0) / 16) ((l.getD 1 0) % 16) (0) (0) (0) (0) (0) 0)
def rdD28 (l : List Int) : RD := if l.length < 2 then .short else .ok 2 (iC 28 ((l.getD 1 0) / 16) ((l.getD 1 0) % 16) (0) (0) (0) (0) (0) 0)
def rdD29 (l : List Int) : RD := if l.length < 5 then .short else .ok 5 (iC 29 (0) (0) (0) (0) (0) (0) (numR l 1 4) 0)
set_option maxRecDepth 100000 in
set_option maxHeartbeats 16000000 in
theorem read_1 (l : List Int) (K : Out → Hp → Prop) (hm : BY l) (q0 : 0 < l.length) (e0 : l[0] = 1) (c : RDK (rdD1 l) K [.ro (byC l)]) : WC Try.prog 92 [.s (.sl 0 0 l.length)] [.ro (byC l)] K := by
 refine wc_trunc 1 (by simp) ?_
 have hml := hm.1
 unfold maxLen at hml
 have w0 : IntKind.i64.wrap 1 = 1 := rfl
 refine wc_intro Try.func92 rfl rfl (by kernel_rfl) (by simp [Try.f92]) ?_
 simp only [go_sem, ↓vmP2, ↓vmD, ↓vmK, ↓trK, ↓reduceIte, Try.f92, ldC_by l 0 q0, e0, w0]
 refine ⟨by omega, ?_⟩
 refine row_1 _ _ ?_
 simp only [go_sem, ↓vmP2, ↓vmD, ↓vmK, ↓trK, ↓reduceIte]
 refine sw_rounds 3 ?_
 refine swn_succ (by kernel_rfl) _ ?_
 simp only [go_sem, ↓vmP2, ↓vmD, ↓vmK, ↓trK, ↓reduceIte, Nat.zero_add]
 refine cdC_split (fun q => ?_) (fun q => ?_)
 ·have q' : l.length < 2 := by simp at q; omega
  simp only [go_sem, ↓vmP2, ↓vmD, ↓vmK, ↓trK, ↓reduceIte, trK]
  exact c.short (by unfold rdD1; rw [if_pos (by omega)]) _ _ _ _ _ _ _ _
 have q1 : 1 < l.length := by simp at q; omega
 have b1 := hm.2 1 q1
 have i1 : IntKind.i64.wrap l[1] = l[1] := wrap_id _ b1.1 (by unfold maxLen; omega)
 simp only [go_sem, ↓vmP2, ↓vmD, ↓vmK, ↓trK, ↓reduceIte, ldC_by l 1 q1, i1, hi_id _ b1, lo_id _ b1, Nat.zero_add]
 refine ⟨by omega, ?_⟩
 cases g1 : decide ((l[1] % 16) > 2) with
 | true =>
  simp only [go_sem, ↓vmP2, ↓vmD, ↓vmK, ↓trK, ↓reduceIte, g1, trK]
  exact c.bad (by unfold rdD1; rw [if_neg (by omega), gd l 1 q1, if_pos (by simp at g1; omega)]) _ _ _ _ _ _ _ _
 | false =>
 have g1' : (l[1] % 16) ≤ 2 := by simp at g1; omega
 cases g2 : ((l[1] % 16) == 2) with
 | true =>
  simp only [go_sem, ↓vmP2, ↓vmD, ↓vmK, ↓trK, ↓reduceIte, g1, g2, Nat.zero_add]
  refine swn_succ (by kernel_rfl) _ ?_
  simp only [go_sem, ↓vmP2, ↓vmD, ↓vmK, ↓trK, ↓reduceIte, Nat.zero_add, g1, g2]
  refine rbytes_wc _ _ _ ?_
  have nb1 := bytesF_ge (l[1] % 16)
  have nb2 := bytesF_le (l[1] % 16)
  have wb : IntKind.i64.wrap ((2 : Int) + (((bytesF (l[1] % 16)) : Nat) : Int)) = ((2 + (bytesF (l[1] % 16)) : Nat) : Int) := by rw [wrap_id _ (by omega) (by unfold maxLen; omega)]; push_cast; rfl
  simp only [go_sem, ↓vmP2, ↓vmD, ↓vmK, ↓trK, ↓reduceIte, wb, Nat.zero_add, g1, g2]
  refine cdC_split (fun q => ?_) (fun q => ?_)
  ·have q' : l.length < 2 + (bytesF (l[1] % 16)) := by simp at q; omega
   simp only [go_sem, ↓vmP2, ↓vmD, ↓vmK, ↓trK, ↓reduceIte, trK]
   exact c.short (by unfold rdD1; rw [if_neg (by omega), gd l 1 q1, if_neg (by omega), if_pos (by omega)]) _ _ _ _ _ _ _ _
  have q' : 2 + (bytesF (l[1] % 16)) ≤ l.length := by simp at q; omega
  have q2 : 2 < l.length := by omega
  have b2 := hm.2 2 q2
  have i2 : IntKind.i64.wrap l[2] = l[2] := wrap_id _ b2.1 (by unfold maxLen; omega)
  simp only [go_sem, ↓vmP2, ↓vmD, ↓vmK, ↓trK, ↓reduceIte, ldC_by l 2 q2, i2, Nat.zero_add]
  refine ⟨by omega, ?_⟩
  refine wc_focus [0] rfl (hc := [.ro (byC l)]) ⟨by simp only [rnB, rn_by]; rfl, trivial⟩ (args' := [.s (.sl 0 0 l.length), .s (.a (.int .i64 2)), .s (.a (.int .i64 (((bytesF (l[1] % 16)) : Nat) : Int)))]) rfl rfl (rnum_wc l 2 (bytesF (l[1] % 16)) _ hm (by omega) ⟨bytesF_ge _, bytesF_le _⟩ ?_)
  simp only [rnO, rnP, mrg, setAll, rnB, rnS, ix, List.length_cons, List.length_nil, List.take_succ_cons, List.take_zero, List.take_nil, List.drop_succ_cons, List.drop_zero, List.drop_nil, List.map_cons, List.map_nil, List.getElem?_nil, List.getElem?_cons_zero, List.getElem?_cons_succ, List.set_cons_zero, List.set_cons_succ, List.cons_append, List.nil_append, List.append_nil, Nat.zero_add, Nat.reduceAdd, Nat.reduceSub, rn_by]
  simp only [go_sem, ↓vmP2, ↓vmD, ↓vmK, ↓trK, ↓reduceIte, Nat.zero_add, wb, iC, g1, g2]
  refine swn_succ (by kernel_rfl) _ ?_
  simp only [go_sem, ↓vmP2, ↓vmD, ↓vmK, ↓trK, ↓reduceIte, Nat.zero_add, trK, g1, g2]
  exact c.ok (n := 2 + bytesF (l[1] % 16)) (by unfold rdD1; rw [if_neg (by omega), gd l 1 q1, if_neg (by omega), if_neg (by omega)]; (try simp only [gd l 1 q1]); rfl)
 | false =>
  simp only [go_sem, ↓vmP2, ↓vmD, ↓vmK, ↓trK, ↓reduceIte, g1, g2, Nat.zero_add]
  refine swn_succ (by kernel_rfl) _ ?_
  simp only [go_sem, ↓vmP2, ↓vmD, ↓vmK, ↓trK, ↓reduceIte, Nat.zero_add, g1, g2]
  refine rbytes_wc _ _ _ ?_
  have nb1 := bytesF_ge (l[1] % 16)
  have nb2 := bytesF_le (l[1] % 16)
  have wb : IntKind.i64.wrap ((2 : Int) + (((bytesF (l[1] % 16)) : Nat) : Int)) = ((2 + (bytesF (l[1] % 16)) : Nat) : Int) := by rw [wrap_id _ (by omega) (by unfold maxLen; omega)]; push_cast; rfl
  simp only [go_sem, ↓vmP2, ↓vmD, ↓vmK, ↓trK, ↓reduceIte, wb, Nat.zero_add, g1, g2]
  refine cdC_split (fun q => ?_) (fun q => ?_)
  ·have q' : l.length < 2 + (bytesF (l[1] % 16)) := by simp at q; omega
   simp only [go_sem, ↓vmP2, ↓vmD, ↓vmK, ↓trK, ↓reduceIte, trK]
   exact c.short (by unfold rdD1; rw [if_neg (by omega), gd l 1 q1, if_neg (by omega), if_pos (by omega)]) _ _ _ _ _ _ _ _
  have q' : 2 + (bytesF (l[1] % 16)) ≤ l.length := by simp at q; omega
  have q2 : 2 < l.length := by omega
  have b2 := hm.2 2 q2
  have i2 : IntKind.i64.wrap l[2] = l[2] := wrap_id _ b2.1 (by unfold maxLen; omega)
  simp only [go_sem, ↓vmP2, ↓vmD, ↓vmK, ↓trK, ↓reduceIte, ldC_by l 2 q2, i2, Nat.zero_add]
  refine ⟨by omega, ?_⟩
  refine wc_focus [0] rfl (hc := [.ro (byC l)]) ⟨by simp only [rnB, rn_by]; rfl, trivial⟩ (args' := [.s (.sl 0 0 l.length), .s (.a (.int .i64 2)), .s (.a (.int .i64 (((bytesF (l[1] % 16)) : Nat) : Int)))]) rfl rfl (rnum_wc l 2 (bytesF (l[1] % 16)) _ hm (by omega) ⟨bytesF_ge _, bytesF_le _⟩ ?_)
  simp only [rnO, rnP, mrg, setAll, rnB, rnS, ix, List.length_cons, List.length_nil, List.take_succ_cons, List.take_zero, List.take_nil, List.drop_succ_cons, List.drop_zero, List.drop_nil, List.map_cons, List.map_nil, List.getElem?_nil, List.getElem?_cons_zero, List.getElem?_cons_succ, List.set_cons_zero, List.set_cons_succ, List.cons_append, List.nil_append, List.append_nil, Nat.zero_add, Nat.reduceAdd, Nat.reduceSub, rn_by]
  simp only [go_sem, ↓vmP2, ↓vmD, ↓vmK, ↓trK, ↓reduceIte, Nat.zero_add, wb, iC, g1, g2]
  refine swn_succ (by kernel_rfl) _ ?_
  simp only [go_sem, ↓vmP2, ↓vmD, ↓vmK, ↓trK, ↓reduceIte, Nat.zero_add, trK, g1, g2]
  exact c.ok (n := 2 + bytesF (l[1] % 16)) (by unfold rdD1; rw [if_neg (by omega), gd l 1 q1, if_neg (by omega), if_neg (by omega)]; (try simp only [gd l 1 q1]); rfl)
set_option maxRecDepth 100000 in
set_option maxHeartbeats 16000000 in
theorem read_3 (l : List Int) (K : Out → Hp → Prop) (hm : BY l) (q0 : 0 < l.length) (e0 : l[0] = 3) (c : RDK (rdD3 l) K [.ro (byC l)]) : WC Try.prog 92 [.s (.sl 0 0 l.length)] [.ro (byC l)] K := by
 refine wc_trunc 1 (by simp) ?_
 have hml := hm.1
 unfold maxLen at hml
 have w0 : IntKind.i64.wrap 3 = 3 := rfl
 refine wc_intro Try.func92 rfl rfl (by kernel_rfl) (by simp [Try.f92]) ?_
 simp only [go_sem, ↓vmP2, ↓vmD, ↓vmK, ↓trK, ↓reduceIte, Try.f92, ldC_by l 0 q0, e0, w0]
 refine ⟨by omega, ?_⟩
 refine row_3 _ _ ?_
 simp only [go_sem, ↓vmP2, ↓vmD, ↓vmK, ↓trK, ↓reduceIte]
 refine sw_rounds 2 ?_
 refine swn_succ (by kernel_rfl) _ ?_
 simp only [go_sem, ↓vmP2, ↓vmD, ↓vmK, ↓trK, ↓reduceIte, Nat.zero_add]
 refine cdC_split (fun q => ?_) (fun q => ?_)
 ·have q' : l.length < 2 := by simp at q; omega
  simp only [go_sem, ↓vmP2, ↓vmD, ↓vmK, ↓trK, ↓reduceIte, trK]
  exact c.short (by unfold rdD3; rw [if_pos (by omega)]) _ _ _ _ _ _ _ _
 have q1 : 1 < l.length := by simp at q; omega
 have b1 := hm.2 1 q1
 have i1 : IntKind.i64.wrap l[1] = l[1] := wrap_id _ b1.1 (by unfold maxLen; omega)
 simp only [go_sem, ↓vmP2, ↓vmD, ↓vmK, ↓trK, ↓reduceIte, ldC_by l 1 q1, i1, hi_id _ b1, lo_id _ b1, Nat.zero_add]
 refine ⟨by omega, ?_⟩
 refine swn_succ (by kernel_rfl) _ ?_
 simp only [go_sem, ↓vmP2, ↓vmD, ↓vmK, ↓trK, ↓reduceIte, Nat.zero_add, trK]
 exact c.ok (n := 2) (by unfold rdD3; rw [if_neg (by omega)]; (try simp only [gd l 1 q1]); rfl)
set_option maxRecDepth 100000 in
set_option maxHeartbeats 16000000 in
theorem read_4 (l : List Int) (K : Out → Hp → Prop) (hm : BY l) (q0 : 0 < l.length) (e0 : l[0] = 4) (c : RDK (rdD4 l) K [.ro (byC l)]) : WC Try.prog 92 [.s (.sl 0 0 l.length)] [.ro (byC l)] K := by
 refine wc_trunc 1 (by simp) ?_
 have hml := hm.1
 unfold maxLen at hml
 have w0 : IntKind.i64.wrap 4 = 4 := rfl
 refine wc_intro Try.func92 rfl rfl (by kernel_rfl) (by simp [Try.f92]) ?_
 simp only [go_sem, ↓vmP2, ↓vmD, ↓vmK, ↓trK, ↓reduceIte, Try.f92, ldC_by l 0 q0, e0, w0]
 refine ⟨by omega, ?_⟩
 refine row_4 _ _ ?_
 simp only [go_sem, ↓vmP2, ↓vmD, ↓vmK, ↓trK, ↓reduceIte]
 refine sw_rounds 4 ?_
 refine swn_succ (by kernel_rfl) _ ?_
 simp only [go_sem, ↓vmP2, ↓vmD, ↓vmK, ↓trK, ↓reduceIte, Nat.zero_add]
 refine cdC_split (fun q => ?_) (fun q => ?_)
 ·have q' : l.length < 2 := by simp at q; omega
  simp only [go_sem, ↓vmP2, ↓vmD, ↓vmK, ↓trK, ↓reduceIte, trK]
  exact c.short (by unfold rdD4; rw [if_pos (by omega)]) _ _ _ _ _ _ _ _
 have q1 : 1 < l.length := by simp at q; omega
 have b1 := hm.2 1 q1
 have i1 : IntKind.i64.wrap l[1] = l[1] := wrap_id _ b1.1 (by unfold maxLen; omega)
 simp only [go_sem, ↓vmP2, ↓vmD, ↓vmK, ↓trK, ↓reduceIte, ldC_by l 1 q1, i1, hi_id _ b1, lo_id _ b1, Nat.zero_add]
 refine ⟨by omega, ?_⟩
 refine swn_succ (by kernel_rfl) _ ?_
 simp only [go_sem, ↓vmP2, ↓vmD, ↓vmK, ↓trK, ↓reduceIte, Nat.zero_add]
 refine cdC_split (fun q => ?_) (fun q => ?_)
 ·have q' : l.length < 3 := by simp at q; omega
  simp only [go_sem, ↓vmP2, ↓vmD, ↓vmK, ↓trK, ↓reduceIte, trK]
  exact c.short (by unfold rdD4; rw [if_pos (by omega)]) _ _ _ _ _ _ _ _
 have q2 : 2 < l.length := by simp at q; omega
 have b2 := hm.2 2 q2
 have i2 : IntKind.i64.wrap l[2] = l[2] := wrap_id _ b2.1 (by unfold maxLen; omega)
 simp only [go_sem, ↓vmP2, ↓vmD, ↓vmK, ↓trK, ↓reduceIte, ldC_by l 2 q2, i2, Nat.zero_add]
 refine ⟨by omega, ?_⟩
 refine swn_succ (by kernel_rfl) _ ?_
 simp only [go_sem, ↓vmP2, ↓vmD, ↓vmK, ↓trK, ↓reduceIte, Nat.zero_add]
 refine cdC_split (fun q => ?_) (fun q => ?_)
 ·have q' : l.length < 4 := by simp at q; omega
  simp only [go_sem, ↓vmP2, ↓vmD, ↓vmK, ↓trK, ↓reduceIte, trK]
  exact c.short (by unfold rdD4; rw [if_pos (by omega)]) _ _ _ _ _ _ _ _
 have q3 : 3 < l.length := by simp at q; omega
 have b3 := hm.2 3 q3
 have i3 : IntKind.i64.wrap l[3] = l[3] := wrap_id _ b3.1 (by unfold maxLen; omega)
 simp only [go_sem, ↓vmP2, ↓vmD, ↓vmK, ↓trK, ↓reduceIte, ldC_by l 3 q3, i3, Nat.zero_add]
 refine ⟨by omega, ?_⟩
 refine swn_succ (by kernel_rfl) _ ?_
 simp only [go_sem, ↓vmP2, ↓vmD, ↓vmK, ↓trK, ↓reduceIte, Nat.zero_add, trK]
 exact c.ok (n := 4) (by unfold rdD4; rw [if_neg (by omega)]; (try simp only [gd l 1 q1, gd l 2 q2, gd l 3 q3]); rfl)
set_option maxRecDepth 100000 in
set_option maxHeartbeats 16000000 in
theorem read_5 (l : List Int) (K : Out → Hp → Prop) (hm : BY l) (q0 : 0 < l.length) (e0 : l[0] = 5) (c : RDK (rdD5 l) K [.ro (byC l)]) : WC Try.prog 92 [.s (.sl 0 0 l.length)] [.ro (byC l)] K := by
 refine wc_trunc 1 (by simp) ?_
 have hml := hm.1
 unfold maxLen at hml
 have w0 : IntKind.i64.wrap 5 = 5 := rfl
 refine wc_intro Try.func92 rfl rfl (by kernel_rfl) (by simp [Try.f92]) ?_
 simp only [go_sem, ↓vmP2, ↓vmD, ↓vmK, ↓trK, ↓reduceIte, Try.f92, ldC_by l 0 q0, e0, w0]
 refine ⟨by omega, ?_⟩
 refine row_5 _ _ ?_
 simp only [go_sem, ↓vmP2, ↓vmD, ↓vmK, ↓trK, ↓reduceIte]
 refine sw_rounds 5 ?_
 refine swn_succ (by kernel_rfl) _ ?_
 simp only [go_sem, ↓vmP2, ↓vmD, ↓vmK, ↓trK, ↓reduceIte, Nat.zero_add]
 refine cdC_split (fun q => ?_) (fun q => ?_)
 ·have q' : l.length < 2 := by simp at q; omega
  simp only [go_sem, ↓vmP2, ↓vmD, ↓vmK, ↓trK, ↓reduceIte, trK]
  exact c.short (by unfold rdD5; rw [if_pos (by omega)]) _ _ _ _ _ _ _ _
 have q1 : 1 < l.length := by simp at q; omega
 have b1 := hm.2 1 q1
 have i1 : IntKind.i64.wrap l[1] = l[1] := wrap_id _ b1.1 (by unfold maxLen; omega)
 simp only [go_sem, ↓vmP2, ↓vmD, ↓vmK, ↓trK, ↓reduceIte, ldC_by l 1 q1, i1, hi_id _ b1, lo_id _ b1, Nat.zero_add]
 refine ⟨by omega, ?_⟩
 cases g1 : decide ((l[1] % 16) > 2) with
 | true =>
  simp only [go_sem, ↓vmP2, ↓vmD, ↓vmK, ↓trK, ↓reduceIte, g1, trK]
  exact c.bad (by unfold rdD5; rw [if_neg (by omega), gd l 1 q1, if_pos (by simp at g1; omega)]) _ _ _ _ _ _ _ _
 | false =>
 have g1' : (l[1] % 16) ≤ 2 := by simp at g1; omega
 cases g2 : ((l[1] % 16) == 2) with
 | true =>
  simp only [go_sem, ↓vmP2, ↓vmD, ↓vmK, ↓trK, ↓reduceIte, g1, g2, trK]
  exact c.bad (by unfold rdD5; rw [if_neg (by omega), gd l 1 q1, if_pos (by simp at g2; omega)]) _ _ _ _ _ _ _ _
 | false =>
 have g2' : (l[1] % 16) ≠ 2 := by simpa using g2
 simp only [go_sem, ↓vmP2, ↓vmD, ↓vmK, ↓trK, ↓reduceIte, g1, g2, Nat.zero_add]
 refine swn_succ (by kernel_rfl) _ ?_
 simp only [go_sem, ↓vmP2, ↓vmD, ↓vmK, ↓trK, ↓reduceIte, Nat.zero_add, g1, g2]
 refine cdC_split (fun q => ?_) (fun q => ?_)
 ·have q' : l.length < 3 := by simp at q; omega
  simp only [go_sem, ↓vmP2, ↓vmD, ↓vmK, ↓trK, ↓reduceIte, trK]
  exact c.short (by unfold rdD5; rw [if_neg (by omega), gd l 1 q1, if_neg (by omega), if_pos (by omega)]) _ _ _ _ _ _ _ _
 have q2 : 2 < l.length := by simp at q; omega
 have b2 := hm.2 2 q2
 have i2 : IntKind.i64.wrap l[2] = l[2] := wrap_id _ b2.1 (by unfold maxLen; omega)
 simp only [go_sem, ↓vmP2, ↓vmD, ↓vmK, ↓trK, ↓reduceIte, ldC_by l 2 q2, i2, Nat.zero_add, g1, g2]
 refine ⟨by omega, ?_⟩
 refine swn_succ (by kernel_rfl) _ ?_
 simp only [go_sem, ↓vmP2, ↓vmD, ↓vmK, ↓trK, ↓reduceIte, Nat.zero_add, g1, g2]
 refine cdC_split (fun q => ?_) (fun q => ?_)
 ·have q' : l.length < 4 := by simp at q; omega
  simp only [go_sem, ↓vmP2, ↓vmD, ↓vmK, ↓trK, ↓reduceIte, trK]
  exact c.short (by unfold rdD5; rw [if_neg (by omega), gd l 1 q1, if_neg (by omega), if_pos (by omega)]) _ _ _ _ _ _ _ _
 have q3 : 3 < l.length := by simp at q; omega
 have b3 := hm.2 3 q3
 have i3 : IntKind.i64.wrap l[3] = l[3] := wrap_id _ b3.1 (by unfold maxLen; omega)
 simp only [go_sem, ↓vmP2, ↓vmD, ↓vmK, ↓trK, ↓reduceIte, ldC_by l 3 q3, i3, Nat.zero_add, g1, g2]
 refine ⟨by omega, ?_⟩
 refine swn_succ (by kernel_rfl) _ ?_
 simp only [go_sem, ↓vmP2, ↓vmD, ↓vmK, ↓trK, ↓reduceIte, Nat.zero_add, g1, g2]
 refine rbytes_wc _ _ _ ?_
 have nb1 := bytesF_ge (l[1] % 16)
 have nb2 := bytesF_le (l[1] % 16)
 have wb : IntKind.i64.wrap ((4 : Int) + (((bytesF (l[1] % 16)) : Nat) : Int)) = ((4 + (bytesF (l[1] % 16)) : Nat) : Int) := by rw [wrap_id _ (by omega) (by unfold maxLen; omega)]; push_cast; rfl
 simp only [go_sem, ↓vmP2, ↓vmD, ↓vmK, ↓trK, ↓reduceIte, wb, Nat.zero_add, g1, g2]
 refine cdC_split (fun q => ?_) (fun q => ?_)
 ·have q' : l.length < 4 + (bytesF (l[1] % 16)) := by simp at q; omega
  simp only [go_sem, ↓vmP2, ↓vmD, ↓vmK, ↓trK, ↓reduceIte, trK]
  exact c.short (by unfold rdD5; rw [if_neg (by omega), gd l 1 q1, if_neg (by omega), if_pos (by omega)]) _ _ _ _ _ _ _ _
 have q' : 4 + (bytesF (l[1] % 16)) ≤ l.length := by simp at q; omega
 have q4 : 4 < l.length := by omega
 have b4 := hm.2 4 q4
 have i4 : IntKind.i64.wrap l[4] = l[4] := wrap_id _ b4.1 (by unfold maxLen; omega)
 simp only [go_sem, ↓vmP2, ↓vmD, ↓vmK, ↓trK, ↓reduceIte, ldC_by l 4 q4, i4, Nat.zero_add]
 refine ⟨by omega, ?_⟩
 refine wc_focus [0] rfl (hc := [.ro (byC l)]) ⟨by simp only [rnB, rn_by]; rfl, trivial⟩ (args' := [.s (.sl 0 0 l.length), .s (.a (.int .i64 4)), .s (.a (.int .i64 (((bytesF (l[1] % 16)) : Nat) : Int)))]) rfl rfl (rnum_wc l 4 (bytesF (l[1] % 16)) _ hm (by omega) ⟨bytesF_ge _, bytesF_le _⟩ ?_)
 simp only [rnO, rnP, mrg, setAll, rnB, rnS, ix, List.length_cons, List.length_nil, List.take_succ_cons, List.take_zero, List.take_nil, List.drop_succ_cons, List.drop_zero, List.drop_nil, List.map_cons, List.map_nil, List.getElem?_nil, List.getElem?_cons_zero, List.getElem?_cons_succ, List.set_cons_zero, List.set_cons_succ, List.cons_append, List.nil_append, List.append_nil, Nat.zero_add, Nat.reduceAdd, Nat.reduceSub, rn_by]
 simp only [go_sem, ↓vmP2, ↓vmD, ↓vmK, ↓trK, ↓reduceIte, Nat.zero_add, wb, iC, g1, g2]
 refine swn_succ (by kernel_rfl) _ ?_
 simp only [go_sem, ↓vmP2, ↓vmD, ↓vmK, ↓trK, ↓reduceIte, Nat.zero_add, trK, g1, g2]
 exact c.ok (n := 4 + bytesF (l[1] % 16)) (by unfold rdD5; rw [if_neg (by omega), gd l 1 q1, if_neg (by omega), if_neg (by omega)]; (try simp only [gd l 2 q2, gd l 3 q3]); rfl)
set_option maxRecDepth 100000 in
set_option maxHeartbeats 16000000 in
theorem read_6 (l : List Int) (K : Out → Hp → Prop) (hm : BY l) (q0 : 0 < l.length) (e0 : l[0] = 6) (c : RDK (rdD6 l) K [.ro (byC l)]) : WC Try.prog 92 [.s (.sl 0 0 l.length)] [.ro (byC l)] K := by
 refine wc_trunc 1 (by simp) ?_
 have hml := hm.1
 unfold maxLen at hml
 have w0 : IntKind.i64.wrap 6 = 6 := rfl
 refine wc_intro Try.func92 rfl rfl (by kernel_rfl) (by simp [Try.f92]) ?_
 simp only [go_sem, ↓vmP2, ↓vmD, ↓vmK, ↓trK, ↓reduceIte, Try.f92, ldC_by l 0 q0, e0, w0]
 refine ⟨by omega, ?_⟩
 refine row_6 _ _ ?_
 simp only [go_sem, ↓vmP2, ↓vmD, ↓vmK, ↓trK, ↓reduceIte]
 refine sw_rounds 5 ?_
 refine swn_succ (by kernel_rfl) _ ?_
 simp only [go_sem, ↓vmP2, ↓vmD, ↓vmK, ↓trK, ↓reduceIte, Nat.zero_add]
 refine cdC_split (fun q => ?_) (fun q => ?_)
 ·have q' : l.length < 2 := by simp at q; omega
  simp only [go_sem, ↓vmP2, ↓vmD, ↓vmK, ↓trK, ↓reduceIte, trK]
  exact c.short (by unfold rdD6; rw [if_pos (by omega)]) _ _ _ _ _ _ _ _
 have q1 : 1 < l.length := by simp at q; omega
 have b1 := hm.2 1 q1
 have i1 : IntKind.i64.wrap l[1] = l[1] := wrap_id _ b1.1 (by unfold maxLen; omega)
 simp only [go_sem, ↓vmP2, ↓vmD, ↓vmK, ↓trK, ↓reduceIte, ldC_by l 1 q1, i1, hi_id _ b1, lo_id _ b1, Nat.zero_add]
 refine ⟨by omega, ?_⟩
 refine swn_succ (by kernel_rfl) _ ?_
 simp only [go_sem, ↓vmP2, ↓vmD, ↓vmK, ↓trK, ↓reduceIte, Nat.zero_add]
 refine cdC_split (fun q => ?_) (fun q => ?_)
 ·have q' : l.length < 3 := by simp at q; omega
  simp only [go_sem, ↓vmP2, ↓vmD, ↓vmK, ↓trK, ↓reduceIte, trK]
  exact c.short (by unfold rdD6; rw [if_pos (by omega)]) _ _ _ _ _ _ _ _
 have q2 : 2 < l.length := by simp at q; omega
 have b2 := hm.2 2 q2
 have i2 : IntKind.i64.wrap l[2] = l[2] := wrap_id _ b2.1 (by unfold maxLen; omega)
 simp only [go_sem, ↓vmP2, ↓vmD, ↓vmK, ↓trK, ↓reduceIte, ldC_by l 2 q2, i2, Nat.zero_add]
 refine ⟨by omega, ?_⟩
 refine swn_succ (by kernel_rfl) _ ?_
 simp only [go_sem, ↓vmP2, ↓vmD, ↓vmK, ↓trK, ↓reduceIte, Nat.zero_add]
 refine cdC_split (fun q => ?_) (fun q => ?_)
 ·have q' : l.length < 4 := by simp at q; omega
  simp only [go_sem, ↓vmP2, ↓vmD, ↓vmK, ↓trK, ↓reduceIte, trK]
  exact c.short (by unfold rdD6; rw [if_pos (by omega)]) _ _ _ _ _ _ _ _
 have q3 : 3 < l.length := by simp at q; omega
 have b3 := hm.2 3 q3
 have i3 : IntKind.i64.wrap l[3] = l[3] := wrap_id _ b3.1 (by unfold maxLen; omega)
 simp only [go_sem, ↓vmP2, ↓vmD, ↓vmK, ↓trK, ↓reduceIte, ldC_by l 3 q3, i3, Nat.zero_add]
 refine ⟨by omega, ?_⟩
 refine swn_succ (by kernel_rfl) _ ?_
 simp only [go_sem, ↓vmP2, ↓vmD, ↓vmK, ↓trK, ↓reduceIte, Nat.zero_add]
 refine cdC_split (fun q => ?_) (fun q => ?_)
 ·have q' : l.length < 4 + 4 := by simp at q; omega
  simp only [go_sem, ↓vmP2, ↓vmD, ↓vmK, ↓trK, ↓reduceIte, trK]
  exact c.short (by unfold rdD6; rw [if_pos (by omega)]) _ _ _ _ _ _ _ _
 have q' : 4 + 4 ≤ l.length := by simp at q; omega
 have q4 : 4 < l.length := by omega
 have b4 := hm.2 4 q4
 have i4 : IntKind.i64.wrap l[4] = l[4] := wrap_id _ b4.1 (by unfold maxLen; omega)
 simp only [go_sem, ↓vmP2, ↓vmD, ↓vmK, ↓trK, ↓reduceIte, ldC_by l 4 q4, i4, Nat.zero_add]
 refine ⟨by omega, ?_⟩
 refine wc_focus [0] rfl (hc := [.ro (byC l)]) ⟨by simp only [rnB, rn_by]; rfl, trivial⟩ (args' := [.s (.sl 0 0 l.length), .s (.a (.int .i64 4)), .s (.a (.int .i64 4))]) rfl rfl (rnum_wc l 4 4 _ hm (by omega) (by omega) ?_)
 simp only [rnO, rnP, mrg, setAll, rnB, rnS, ix, List.length_cons, List.length_nil, List.take_succ_cons, List.take_zero, List.take_nil, List.drop_succ_cons, List.drop_zero, List.drop_nil, List.map_cons, List.map_nil, List.getElem?_nil, List.getElem?_cons_zero, List.getElem?_cons_succ, List.set_cons_zero, List.set_cons_succ, List.cons_append, List.nil_append, List.append_nil, Nat.zero_add, Nat.reduceAdd, Nat.reduceSub, rn_by]
 simp only [go_sem, ↓vmP2, ↓vmD, ↓vmK, ↓trK, ↓reduceIte, Nat.zero_add, iC]
 refine swn_succ (by kernel_rfl) _ ?_
 simp only [go_sem, ↓vmP2, ↓vmD, ↓vmK, ↓trK, ↓reduceIte, Nat.zero_add, trK]
 exact c.ok (n := 8) (by unfold rdD6; rw [if_neg (by omega)]; (try simp only [gd l 1 q1, gd l 2 q2, gd l 3 q3]); rfl)
set_option maxRecDepth 100000 in
set_option maxHeartbeats 16000000 in
theorem read_7 (l : List Int) (K : Out → Hp → Prop) (hm : BY l) (q0 : 0 < l.length) (e0 : l[0] = 7) (c : RDK (rdD7 l) K [.ro (byC l)]) : WC Try.prog 92 [.s (.sl 0 0 l.length)] [.ro (byC l)] K := by
 refine wc_trunc 1 (by simp) ?_
 have hml := hm.1
 unfold maxLen at hml
 have w0 : IntKind.i64.wrap 7 = 7 := rfl
 refine wc_intro Try.func92 rfl rfl (by kernel_rfl) (by simp [Try.f92]) ?_
 simp only [go_sem, ↓vmP2, ↓vmD, ↓vmK, ↓trK, ↓reduceIte, Try.f92, ldC_by l 0 q0, e0, w0]
 refine ⟨by omega, ?_⟩
 refine row_7 _ _ ?_
 simp only [go_sem, ↓vmP2, ↓vmD, ↓vmK, ↓trK, ↓reduceIte]
 refine sw_rounds 4 ?_
 refine swn_succ (by kernel_rfl) _ ?_
 simp only [go_sem, ↓vmP2, ↓vmD, ↓vmK, ↓trK, ↓reduceIte, Nat.zero_add]
 refine cdC_split (fun q => ?_) (fun q => ?_)
 ·have q' : l.length < 2 := by simp at q; omega
  simp only [go_sem, ↓vmP2, ↓vmD, ↓vmK, ↓trK, ↓reduceIte, trK]
  exact c.short (by unfold rdD7; rw [if_pos (by omega)]) _ _ _ _ _ _ _ _
 have q1 : 1 < l.length := by simp at q; omega
 have b1 := hm.2 1 q1
 have i1 : IntKind.i64.wrap l[1] = l[1] := wrap_id _ b1.1 (by unfold maxLen; omega)
 simp only [go_sem, ↓vmP2, ↓vmD, ↓vmK, ↓trK, ↓reduceIte, ldC_by l 1 q1, i1, hi_id _ b1, lo_id _ b1, Nat.zero_add]
 refine ⟨by omega, ?_⟩
 refine swn_succ (by kernel_rfl) _ ?_
 simp only [go_sem, ↓vmP2, ↓vmD, ↓vmK, ↓trK, ↓reduceIte, Nat.zero_add]
 refine cdC_split (fun q => ?_) (fun q => ?_)
 ·have q' : l.length < 3 := by simp at q; omega
  simp only [go_sem, ↓vmP2, ↓vmD, ↓vmK, ↓trK, ↓reduceIte, trK]
  exact c.short (by unfold rdD7; rw [if_pos (by omega)]) _ _ _ _ _ _ _ _
 have q2 : 2 < l.length := by simp at q; omega
 have b2 := hm.2 2 q2
 have i2 : IntKind.i64.wrap l[2] = l[2] := wrap_id _ b2.1 (by unfold maxLen; omega)
 simp only [go_sem, ↓vmP2, ↓vmD, ↓vmK, ↓trK, ↓reduceIte, ldC_by l 2 q2, i2, Nat.zero_add]
 refine ⟨by omega, ?_⟩
 refine swn_succ (by kernel_rfl) _ ?_
 simp only [go_sem, ↓vmP2, ↓vmD, ↓vmK, ↓trK, ↓reduceIte, Nat.zero_add]
 refine cdC_split (fun q => ?_) (fun q => ?_)
 ·have q' : l.length < 4 := by simp at q; omega
  simp only [go_sem, ↓vmP2, ↓vmD, ↓vmK, ↓trK, ↓reduceIte, trK]
  exact c.short (by unfold rdD7; rw [if_pos (by omega)]) _ _ _ _ _ _ _ _
 have q3 : 3 < l.length := by simp at q; omega
 have b3 := hm.2 3 q3
 have i3 : IntKind.i64.wrap l[3] = l[3] := wrap_id _ b3.1 (by unfold maxLen; omega)
 simp only [go_sem, ↓vmP2, ↓vmD, ↓vmK, ↓trK, ↓reduceIte, ldC_by l 3 q3, i3, Nat.zero_add]
 refine ⟨by omega, ?_⟩
 refine swn_succ (by kernel_rfl) _ ?_
 simp only [go_sem, ↓vmP2, ↓vmD, ↓vmK, ↓trK, ↓reduceIte, Nat.zero_add, trK]
 exact c.ok (n := 4) (by unfold rdD7; rw [if_neg (by omega)]; (try simp only [gd l 1 q1, gd l 2 q2, gd l 3 q3]); rfl)
set_option maxRecDepth 100000 in
set_option maxHeartbeats 16000000 in
theorem read_8 (l : List Int) (K : Out → Hp → Prop) (hm : BY l) (q0 : 0 < l.length) (e0 : l[0] = 8) (c : RDK (rdD8 l) K [.ro (byC l)]) : WC Try.prog 92 [.s (.sl 0 0 l.length)] [.ro (byC l)] K := by
 refine wc_trunc 1 (by simp) ?_
 have hml := hm.1
 unfold maxLen at hml
 have w0 : IntKind.i64.wrap 8 = 8 := rfl
 refine wc_intro Try.func92 rfl rfl (by kernel_rfl) (by simp [Try.f92]) ?_
 simp only [go_sem, ↓vmP2, ↓vmD, ↓vmK, ↓trK, ↓reduceIte, Try.f92, ldC_by l 0 q0, e0, w0]
 refine ⟨by omega, ?_⟩
 refine row_8 _ _ ?_
 simp only [go_sem, ↓vmP2, ↓vmD, ↓vmK, ↓trK, ↓reduceIte]
 refine sw_rounds 4 ?_
 refine swn_succ (by kernel_rfl) _ ?_
 simp only [go_sem, ↓vmP2, ↓vmD, ↓vmK, ↓trK, ↓reduceIte, Nat.zero_add]
 refine cdC_split (fun q => ?_) (fun q => ?_)
 ·have q' : l.length < 2 := by simp at q; omega
  simp only [go_sem, ↓vmP2, ↓vmD, ↓vmK, ↓trK, ↓reduceIte, trK]
  exact c.short (by unfold rdD8; rw [if_pos (by omega)]) _ _ _ _ _ _ _ _
 have q1 : 1 < l.length := by simp at q; omega
 have b1 := hm.2 1 q1
 have i1 : IntKind.i64.wrap l[1] = l[1] := wrap_id _ b1.1 (by unfold maxLen; omega)
 simp only [go_sem, ↓vmP2, ↓vmD, ↓vmK, ↓trK, ↓reduceIte, ldC_by l 1 q1, i1, hi_id _ b1, lo_id _ b1, Nat.zero_add]
 refine ⟨by omega, ?_⟩
 refine swn_succ (by kernel_rfl) _ ?_
 simp only [go_sem, ↓vmP2, ↓vmD, ↓vmK, ↓trK, ↓reduceIte, Nat.zero_add]
 refine cdC_split (fun q => ?_) (fun q => ?_)
 ·have q' : l.length < 3 := by simp at q; omega
  simp only [go_sem, ↓vmP2, ↓vmD, ↓vmK, ↓trK, ↓reduceIte, trK]
  exact c.short (by unfold rdD8; rw [if_pos (by omega)]) _ _ _ _ _ _ _ _
 have q2 : 2 < l.length := by simp at q; omega
 have b2 := hm.2 2 q2
 have i2 : IntKind.i64.wrap l[2] = l[2] := wrap_id _ b2.1 (by unfold maxLen; omega)
 simp only [go_sem, ↓vmP2, ↓vmD, ↓vmK, ↓trK, ↓reduceIte, ldC_by l 2 q2, i2, Nat.zero_add]
 refine ⟨by omega, ?_⟩
 refine swn_succ (by kernel_rfl) _ ?_
 simp only [go_sem, ↓vmP2, ↓vmD, ↓vmK, ↓trK, ↓reduceIte, Nat.zero_add]
 refine cdC_split (fun q => ?_) (fun q => ?_)
 ·have q' : l.length < 4 := by simp at q; omega
  simp only [go_sem, ↓vmP2, ↓vmD, ↓vmK, ↓trK, ↓reduceIte, trK]
  exact c.short (by unfold rdD8; rw [if_pos (by omega)]) _ _ _ _ _ _ _ _
 have q3 : 3 < l.length := by simp at q; omega
 have b3 := hm.2 3 q3
 have i3 : IntKind.i64.wrap l[3] = l[3] := wrap_id _ b3.1 (by unfold maxLen; omega)
 simp only [go_sem, ↓vmP2, ↓vmD, ↓vmK, ↓trK, ↓reduceIte, ldC_by l 3 q3, i3, Nat.zero_add]
 refine ⟨by omega, ?_⟩
 refine swn_succ (by kernel_rfl) _ ?_
 simp only [go_sem, ↓vmP2, ↓vmD, ↓vmK, ↓trK, ↓reduceIte, Nat.zero_add, trK]
 exact c.ok (n := 4) (by unfold rdD8; rw [if_neg (by omega)]; (try simp only [gd l 1 q1, gd l 2 q2, gd l 3 q3]); rfl)
set_option maxRecDepth 100000 in
set_option maxHeartbeats 16000000 in
theorem read_10 (l : List Int) (K : Out → Hp → Prop) (hm : BY l) (q0 : 0 < l.length) (e0 : l[0] = 10) (c : RDK (rdD10 l) K [.ro (byC l)]) : WC Try.prog 92 [.s (.sl 0 0 l.length)] [.ro (byC l)] K := by
 refine wc_trunc 1 (by simp) ?_
 have hml := hm.1
 unfold maxLen at hml
 have w0 : IntKind.i64.wrap 10 = 10 := rfl
 refine wc_intro Try.func92 rfl rfl (by kernel_rfl) (by simp [Try.f92]) ?_
 simp only [go_sem, ↓vmP2, ↓vmD, ↓vmK, ↓trK, ↓reduceIte, Try.f92, ldC_by l 0 q0, e0, w0]
 refine ⟨by omega, ?_⟩
 refine row_10 _ _ ?_
 simp only [go_sem, ↓vmP2, ↓vmD, ↓vmK, ↓trK, ↓reduceIte]
 refine sw_rounds 4 ?_
 refine swn_succ (by kernel_rfl) _ ?_
 simp only [go_sem, ↓vmP2, ↓vmD, ↓vmK, ↓trK, ↓reduceIte, Nat.zero_add]
 refine cdC_split (fun q => ?_) (fun q => ?_)
 ·have q' : l.length < 2 := by simp at q; omega
  simp only [go_sem, ↓vmP2, ↓vmD, ↓vmK, ↓trK, ↓reduceIte, trK]
  exact c.short (by unfold rdD10; rw [if_pos (by omega)]) _ _ _ _ _ _ _ _
 have q1 : 1 < l.length := by simp at q; omega
 have b1 := hm.2 1 q1
 have i1 : IntKind.i64.wrap l[1] = l[1] := wrap_id _ b1.1 (by unfold maxLen; omega)
 simp only [go_sem, ↓vmP2, ↓vmD, ↓vmK, ↓trK, ↓reduceIte, ldC_by l 1 q1, i1, hi_id _ b1, lo_id _ b1, Nat.zero_add]
 refine ⟨by omega, ?_⟩
 refine swn_succ (by kernel_rfl) _ ?_
 simp only [go_sem, ↓vmP2, ↓vmD, ↓vmK, ↓trK, ↓reduceIte, Nat.zero_add]
 refine cdC_split (fun q => ?_) (fun q => ?_)
 ·have q' : l.length < 3 := by simp at q; omega
  simp only [go_sem, ↓vmP2, ↓vmD, ↓vmK, ↓trK, ↓reduceIte, trK]
  exact c.short (by unfold rdD10; rw [if_pos (by omega)]) _ _ _ _ _ _ _ _
 have q2 : 2 < l.length := by simp at q; omega
 have b2 := hm.2 2 q2
 have i2 : IntKind.i64.wrap l[2] = l[2] := wrap_id _ b2.1 (by unfold maxLen; omega)
 simp only [go_sem, ↓vmP2, ↓vmD, ↓vmK, ↓trK, ↓reduceIte, ldC_by l 2 q2, i2, hi_id _ b2, lo_id _ b2, Nat.zero_add]
 refine ⟨by omega, ?_⟩
 refine rscale_wc _ _ _ ?_
 simp only [go_sem, ↓vmP2, ↓vmD, ↓vmK, ↓trK, ↓reduceIte, Nat.zero_add]
 refine swn_succ (by kernel_rfl) _ ?_
 simp only [go_sem, ↓vmP2, ↓vmD, ↓vmK, ↓trK, ↓reduceIte, Nat.zero_add]
 refine cdC_split (fun q => ?_) (fun q => ?_)
 ·have q' : l.length < 3 + 4 := by simp at q; omega
  simp only [go_sem, ↓vmP2, ↓vmD, ↓vmK, ↓trK, ↓reduceIte, trK]
  exact c.short (by unfold rdD10; rw [if_pos (by omega)]) _ _ _ _ _ _ _ _
 have q' : 3 + 4 ≤ l.length := by simp at q; omega
 have q3 : 3 < l.length := by omega
 have b3 := hm.2 3 q3
 have i3 : IntKind.i64.wrap l[3] = l[3] := wrap_id _ b3.1 (by unfold maxLen; omega)
 simp only [go_sem, ↓vmP2, ↓vmD, ↓vmK, ↓trK, ↓reduceIte, ldC_by l 3 q3, i3, Nat.zero_add]
 refine ⟨by omega, ?_⟩
 refine wc_focus [0] rfl (hc := [.ro (byC l)]) ⟨by simp only [rnB, rn_by]; rfl, trivial⟩ (args' := [.s (.sl 0 0 l.length), .s (.a (.int .i64 3)), .s (.a (.int .i64 4))]) rfl rfl (rnum_wc l 3 4 _ hm (by omega) (by omega) ?_)
 simp only [rnO, rnP, mrg, setAll, rnB, rnS, ix, List.length_cons, List.length_nil, List.take_succ_cons, List.take_zero, List.take_nil, List.drop_succ_cons, List.drop_zero, List.drop_nil, List.map_cons, List.map_nil, List.getElem?_nil, List.getElem?_cons_zero, List.getElem?_cons_succ, List.set_cons_zero, List.set_cons_succ, List.cons_append, List.nil_append, List.append_nil, Nat.zero_add, Nat.reduceAdd, Nat.reduceSub, rn_by]
 simp only [go_sem, ↓vmP2, ↓vmD, ↓vmK, ↓trK, ↓reduceIte, Nat.zero_add, iC]
 refine swn_succ (by kernel_rfl) _ ?_
 simp only [go_sem, ↓vmP2, ↓vmD, ↓vmK, ↓trK, ↓reduceIte, Nat.zero_add, trK]
 exact c.ok (n := 7) (by unfold rdD10; rw [if_neg (by omega)]; (try simp only [gd l 1 q1, gd l 2 q2]); rfl)
set_option maxRecDepth 100000 in
set_option maxHeartbeats 16000000 in
theorem read_11 (l : List Int) (K : Out → Hp → Prop) (hm : BY l) (q0 : 0 < l.length) (e0 : l[0] = 11) (c : RDK (rdD11 l) K [.ro (byC l)]) : WC Try.prog 92 [.s (.sl 0 0 l.length)] [.ro (byC l)] K := by
 refine wc_trunc 1 (by simp) ?_
 have hml := hm.1
 unfold maxLen at hml
 have w0 : IntKind.i64.wrap 11 = 11 := rfl
 refine wc_intro Try.func92 rfl rfl (by kernel_rfl) (by simp [Try.f92]) ?_
 simp only [go_sem, ↓vmP2, ↓vmD, ↓vmK, ↓trK, ↓reduceIte, Try.f92, ldC_by l 0 q0, e0, w0]
 refine ⟨by omega, ?_⟩
 refine row_11 _ _ ?_
 simp only [go_sem, ↓vmP2, ↓vmD, ↓vmK, ↓trK, ↓reduceIte]
 refine sw_rounds 4 ?_
 refine swn_succ (by kernel_rfl) _ ?_
 simp only [go_sem, ↓vmP2, ↓vmD, ↓vmK, ↓trK, ↓reduceIte, Nat.zero_add]
 refine cdC_split (fun q => ?_) (fun q => ?_)
 ·have q' : l.length < 2 := by simp at q; omega
  simp only [go_sem, ↓vmP2, ↓vmD, ↓vmK, ↓trK, ↓reduceIte, trK]
  exact c.short (by unfold rdD11; rw [if_pos (by omega)]) _ _ _ _ _ _ _ _
 have q1 : 1 < l.length := by simp at q; omega
 have b1 := hm.2 1 q1
 have i1 : IntKind.i64.wrap l[1] = l[1] := wrap_id _ b1.1 (by unfold maxLen; omega)
 simp only [go_sem, ↓vmP2, ↓vmD, ↓vmK, ↓trK, ↓reduceIte, ldC_by l 1 q1, i1, hi_id _ b1, lo_id _ b1, Nat.zero_add]
 refine ⟨by omega, ?_⟩
 refine swn_succ (by kernel_rfl) _ ?_
 simp only [go_sem, ↓vmP2, ↓vmD, ↓vmK, ↓trK, ↓reduceIte, Nat.zero_add]
 refine cdC_split (fun q => ?_) (fun q => ?_)
 ·have q' : l.length < 3 := by simp at q; omega
  simp only [go_sem, ↓vmP2, ↓vmD, ↓vmK, ↓trK, ↓reduceIte, trK]
  exact c.short (by unfold rdD11; rw [if_pos (by omega)]) _ _ _ _ _ _ _ _
 have q2 : 2 < l.length := by simp at q; omega
 have b2 := hm.2 2 q2
 have i2 : IntKind.i64.wrap l[2] = l[2] := wrap_id _ b2.1 (by unfold maxLen; omega)
 simp only [go_sem, ↓vmP2, ↓vmD, ↓vmK, ↓trK, ↓reduceIte, ldC_by l 2 q2, i2, Nat.zero_add]
 refine ⟨by omega, ?_⟩
 refine swn_succ (by kernel_rfl) _ ?_
 simp only [go_sem, ↓vmP2, ↓vmD, ↓vmK, ↓trK, ↓reduceIte, Nat.zero_add]
 refine cdC_split (fun q => ?_) (fun q => ?_)
 ·have q' : l.length < 3 + 4 := by simp at q; omega
  simp only [go_sem, ↓vmP2, ↓vmD, ↓vmK, ↓trK, ↓reduceIte, trK]
  exact c.short (by unfold rdD11; rw [if_pos (by omega)]) _ _ _ _ _ _ _ _
 have q' : 3 + 4 ≤ l.length := by simp at q; omega
 have q3 : 3 < l.length := by omega
 have b3 := hm.2 3 q3
 have i3 : IntKind.i64.wrap l[3] = l[3] := wrap_id _ b3.1 (by unfold maxLen; omega)
 simp only [go_sem, ↓vmP2, ↓vmD, ↓vmK, ↓trK, ↓reduceIte, ldC_by l 3 q3, i3, Nat.zero_add]
 refine ⟨by omega, ?_⟩
 refine wc_focus [0] rfl (hc := [.ro (byC l)]) ⟨by simp only [rnB, rn_by]; rfl, trivial⟩ (args' := [.s (.sl 0 0 l.length), .s (.a (.int .i64 3)), .s (.a (.int .i64 4))]) rfl rfl (rnum_wc l 3 4 _ hm (by omega) (by omega) ?_)
 simp only [rnO, rnP, mrg, setAll, rnB, rnS, ix, List.length_cons, List.length_nil, List.take_succ_cons, List.take_zero, List.take_nil, List.drop_succ_cons, List.drop_zero, List.drop_nil, List.map_cons, List.map_nil, List.getElem?_nil, List.getElem?_cons_zero, List.getElem?_cons_succ, List.set_cons_zero, List.set_cons_succ, List.cons_append, List.nil_append, List.append_nil, Nat.zero_add, Nat.reduceAdd, Nat.reduceSub, rn_by]
 simp only [go_sem, ↓vmP2, ↓vmD, ↓vmK, ↓trK, ↓reduceIte, Nat.zero_add, iC]
 refine swn_succ (by kernel_rfl) _ ?_
 simp only [go_sem, ↓vmP2, ↓vmD, ↓vmK, ↓trK, ↓reduceIte, Nat.zero_add, trK]
 exact c.ok (n := 7) (by unfold rdD11; rw [if_neg (by omega)]; (try simp only [gd l 1 q1, gd l 2 q2]); rfl)
set_option maxRecDepth 100000 in
set_option maxHeartbeats 16000000 in
theorem read_12 (l : List Int) (K : Out → Hp → Prop) (hm : BY l) (q0 : 0 < l.length) (e0 : l[0] = 12) (c : RDK (rdD12 l) K [.ro (byC l)]) : WC Try.prog 92 [.s (.sl 0 0 l.length)] [.ro (byC l)] K := by
 refine wc_trunc 1 (by simp) ?_
 have hml := hm.1
 unfold maxLen at hml
 have w0 : IntKind.i64.wrap 12 = 12 := rfl
 refine wc_intro Try.func92 rfl rfl (by kernel_rfl) (by simp [Try.f92]) ?_
 simp only [go_sem, ↓vmP2, ↓vmD, ↓vmK, ↓trK, ↓reduceIte, Try.f92, ldC_by l 0 q0, e0, w0]
 refine ⟨by omega, ?_⟩
 refine row_12 _ _ ?_
 simp only [go_sem, ↓vmP2, ↓vmD, ↓vmK, ↓trK, ↓reduceIte]
 refine sw_rounds 5 ?_
 refine swn_succ (by kernel_rfl) _ ?_
 simp only [go_sem, ↓vmP2, ↓vmD, ↓vmK, ↓trK, ↓reduceIte, Nat.zero_add]
 refine cdC_split (fun q => ?_) (fun q => ?_)
 ·have q' : l.length < 2 := by simp at q; omega
  simp only [go_sem, ↓vmP2, ↓vmD, ↓vmK, ↓trK, ↓reduceIte, trK]
  exact c.short (by unfold rdD12; rw [if_pos (by omega)]) _ _ _ _ _ _ _ _
 have q1 : 1 < l.length := by simp at q; omega
 have b1 := hm.2 1 q1
 have i1 : IntKind.i64.wrap l[1] = l[1] := wrap_id _ b1.1 (by unfold maxLen; omega)
 simp only [go_sem, ↓vmP2, ↓vmD, ↓vmK, ↓trK, ↓reduceIte, ldC_by l 1 q1, i1, hi_id _ b1, lo_id _ b1, Nat.zero_add]
 refine ⟨by omega, ?_⟩
 refine swn_succ (by kernel_rfl) _ ?_
 simp only [go_sem, ↓vmP2, ↓vmD, ↓vmK, ↓trK, ↓reduceIte, Nat.zero_add]
 refine cdC_split (fun q => ?_) (fun q => ?_)
 ·have q' : l.length < 3 := by simp at q; omega
  simp only [go_sem, ↓vmP2, ↓vmD, ↓vmK, ↓trK, ↓reduceIte, trK]
  exact c.short (by unfold rdD12; rw [if_pos (by omega)]) _ _ _ _ _ _ _ _
 have q2 : 2 < l.length := by simp at q; omega
 have b2 := hm.2 2 q2
 have i2 : IntKind.i64.wrap l[2] = l[2] := wrap_id _ b2.1 (by unfold maxLen; omega)
 simp only [go_sem, ↓vmP2, ↓vmD, ↓vmK, ↓trK, ↓reduceIte, ldC_by l 2 q2, i2, hi_id _ b2, lo_id _ b2, Nat.zero_add]
 refine ⟨by omega, ?_⟩
 refine rscale_wc _ _ _ ?_
 simp only [go_sem, ↓vmP2, ↓vmD, ↓vmK, ↓trK, ↓reduceIte, Nat.zero_add]
 refine swn_succ (by kernel_rfl) _ ?_
 simp only [go_sem, ↓vmP2, ↓vmD, ↓vmK, ↓trK, ↓reduceIte, Nat.zero_add]
 refine cdC_split (fun q => ?_) (fun q => ?_)
 ·have q' : l.length < 4 := by simp at q; omega
  simp only [go_sem, ↓vmP2, ↓vmD, ↓vmK, ↓trK, ↓reduceIte, trK]
  exact c.short (by unfold rdD12; rw [if_pos (by omega)]) _ _ _ _ _ _ _ _
 have q3 : 3 < l.length := by simp at q; omega
 have b3 := hm.2 3 q3
 have i3 : IntKind.i64.wrap l[3] = l[3] := wrap_id _ b3.1 (by unfold maxLen; omega)
 simp only [go_sem, ↓vmP2, ↓vmD, ↓vmK, ↓trK, ↓reduceIte, ldC_by l 3 q3, i3, Nat.zero_add]
 refine ⟨by omega, ?_⟩
 refine swn_succ (by kernel_rfl) _ ?_
 simp only [go_sem, ↓vmP2, ↓vmD, ↓vmK, ↓trK, ↓reduceIte, Nat.zero_add]
 refine cdC_split (fun q => ?_) (fun q => ?_)
 ·have q' : l.length < 4 + 4 := by simp at q; omega
  simp only [go_sem, ↓vmP2, ↓vmD, ↓vmK, ↓trK, ↓reduceIte, trK]
  exact c.short (by unfold rdD12; rw [if_pos (by omega)]) _ _ _ _ _ _ _ _
 have q' : 4 + 4 ≤ l.length := by simp at q; omega
 have q4 : 4 < l.length := by omega
 have b4 := hm.2 4 q4
 have i4 : IntKind.i64.wrap l[4] = l[4] := wrap_id _ b4.1 (by unfold maxLen; omega)
 simp only [go_sem, ↓vmP2, ↓vmD, ↓vmK, ↓trK, ↓reduceIte, ldC_by l 4 q4, i4, Nat.zero_add]
 refine ⟨by omega, ?_⟩
 refine wc_focus [0] rfl (hc := [.ro (byC l)]) ⟨by simp only [rnB, rn_by]; rfl, trivial⟩ (args' := [.s (.sl 0 0 l.length), .s (.a (.int .i64 4)), .s (.a (.int .i64 4))]) rfl rfl (rnum_wc l 4 4 _ hm (by omega) (by omega) ?_)
 simp only [rnO, rnP, mrg, setAll, rnB, rnS, ix, List.length_cons, List.length_nil, List.take_succ_cons, List.take_zero, List.take_nil, List.drop_succ_cons, List.drop_zero, List.drop_nil, List.map_cons, List.map_nil, List.getElem?_nil, List.getElem?_cons_zero, List.getElem?_cons_succ, List.set_cons_zero, List.set_cons_succ, List.cons_append, List.nil_append, List.append_nil, Nat.zero_add, Nat.reduceAdd, Nat.reduceSub, rn_by]
 simp only [go_sem, ↓vmP2, ↓vmD, ↓vmK, ↓trK, ↓reduceIte, Nat.zero_add, iC]
 refine swn_succ (by kernel_rfl) _ ?_
 simp only [go_sem, ↓vmP2, ↓vmD, ↓vmK, ↓trK, ↓reduceIte, Nat.zero_add, trK]
 exact c.ok (n := 8) (by unfold rdD12; rw [if_neg (by omega)]; (try simp only [gd l 1 q1, gd l 2 q2, gd l 3 q3]); rfl)
set_option maxRecDepth 100000 in
set_option maxHeartbeats 16000000 in
theorem read_13 (l : List Int) (K : Out → Hp → Prop) (hm : BY l) (q0 : 0 < l.length) (e0 : l[0] = 13) (c : RDK (rdD13 l) K [.ro (byC l)]) : WC Try.prog 92 [.s (.sl 0 0 l.length)] [.ro (byC l)] K := by
 refine wc_trunc 1 (by simp) ?_
 have hml := hm.1
 unfold maxLen at hml
 have w0 : IntKind.i64.wrap 13 = 13 := rfl
 refine wc_intro Try.func92 rfl rfl (by kernel_rfl) (by simp [Try.f92]) ?_
 simp only [go_sem, ↓vmP2, ↓vmD, ↓vmK, ↓trK, ↓reduceIte, Try.f92, ldC_by l 0 q0, e0, w0]
 refine ⟨by omega, ?_⟩
 refine row_13 _ _ ?_
 simp only [go_sem, ↓vmP2, ↓vmD, ↓vmK, ↓trK, ↓reduceIte]
 refine sw_rounds 4 ?_
 refine swn_succ (by kernel_rfl) _ ?_
 simp only [go_sem, ↓vmP2, ↓vmD, ↓vmK, ↓trK, ↓reduceIte, Nat.zero_add]
 refine cdC_split (fun q => ?_) (fun q => ?_)
 ·have q' : l.length < 2 := by simp at q; omega
  simp only [go_sem, ↓vmP2, ↓vmD, ↓vmK, ↓trK, ↓reduceIte, trK]
  exact c.short (by unfold rdD13; rw [if_pos (by omega)]) _ _ _ _ _ _ _ _
 have q1 : 1 < l.length := by simp at q; omega
 have b1 := hm.2 1 q1
 have i1 : IntKind.i64.wrap l[1] = l[1] := wrap_id _ b1.1 (by unfold maxLen; omega)
 simp only [go_sem, ↓vmP2, ↓vmD, ↓vmK, ↓trK, ↓reduceIte, ldC_by l 1 q1, i1, hi_id _ b1, lo_id _ b1, Nat.zero_add]
 refine ⟨by omega, ?_⟩
 refine swn_succ (by kernel_rfl) _ ?_
 simp only [go_sem, ↓vmP2, ↓vmD, ↓vmK, ↓trK, ↓reduceIte, Nat.zero_add]
 refine cdC_split (fun q => ?_) (fun q => ?_)
 ·have q' : l.length < 3 := by simp at q; omega
  simp only [go_sem, ↓vmP2, ↓vmD, ↓vmK, ↓trK, ↓reduceIte, trK]
  exact c.short (by unfold rdD13; rw [if_pos (by omega)]) _ _ _ _ _ _ _ _
 have q2 : 2 < l.length := by simp at q; omega
 have b2 := hm.2 2 q2
 have i2 : IntKind.i64.wrap l[2] = l[2] := wrap_id _ b2.1 (by unfold maxLen; omega)
 simp only [go_sem, ↓vmP2, ↓vmD, ↓vmK, ↓trK, ↓reduceIte, ldC_by l 2 q2, i2, Nat.zero_add]
 refine ⟨by omega, ?_⟩
 refine swn_succ (by kernel_rfl) _ ?_
 simp only [go_sem, ↓vmP2, ↓vmD, ↓vmK, ↓trK, ↓reduceIte, Nat.zero_add]
 refine cdC_split (fun q => ?_) (fun q => ?_)
 ·have q' : l.length < 3 + 4 := by simp at q; omega
  simp only [go_sem, ↓vmP2, ↓vmD, ↓vmK, ↓trK, ↓reduceIte, trK]
  exact c.short (by unfold rdD13; rw [if_pos (by omega)]) _ _ _ _ _ _ _ _
 have q' : 3 + 4 ≤ l.length := by simp at q; omega
 have q3 : 3 < l.length := by omega
 have b3 := hm.2 3 q3
 have i3 : IntKind.i64.wrap l[3] = l[3] := wrap_id _ b3.1 (by unfold maxLen; omega)
 simp only [go_sem, ↓vmP2, ↓vmD, ↓vmK, ↓trK, ↓reduceIte, ldC_by l 3 q3, i3, Nat.zero_add]
 refine ⟨by omega, ?_⟩
 refine wc_focus [0] rfl (hc := [.ro (byC l)]) ⟨by simp only [rnB, rn_by]; rfl, trivial⟩ (args' := [.s (.sl 0 0 l.length), .s (.a (.int .i64 3)), .s (.a (.int .i64 4))]) rfl rfl (rnum_wc l 3 4 _ hm (by omega) (by omega) ?_)
 simp only [rnO, rnP, mrg, setAll, rnB, rnS, ix, List.length_cons, List.length_nil, List.take_succ_cons, List.take_zero, List.take_nil, List.drop_succ_cons, List.drop_zero, List.drop_nil, List.map_cons, List.map_nil, List.getElem?_nil, List.getElem?_cons_zero, List.getElem?_cons_succ, List.set_cons_zero, List.set_cons_succ, List.cons_append, List.nil_append, List.append_nil, Nat.zero_add, Nat.reduceAdd, Nat.reduceSub, rn_by]
 simp only [go_sem, ↓vmP2, ↓vmD, ↓vmK, ↓trK, ↓reduceIte, Nat.zero_add, iC]
 refine swn_succ (by kernel_rfl) _ ?_
 simp only [go_sem, ↓vmP2, ↓vmD, ↓vmK, ↓trK, ↓reduceIte, Nat.zero_add, trK]
 exact c.ok (n := 7) (by unfold rdD13; rw [if_neg (by omega)]; (try simp only [gd l 1 q1, gd l 2 q2]); rfl)
set_option maxRecDepth 100000 in
set_option maxHeartbeats 16000000 in
theorem read_14 (l : List Int) (K : Out → Hp → Prop) (hm : BY l) (q0 : 0 < l.length) (e0 : l[0] = 14) (c : RDK (rdD14 l) K [.ro (byC l)]) : WC Try.prog 92 [.s (.sl 0 0 l.length)] [.ro (byC l)] K := by
 refine wc_trunc 1 (by simp) ?_
 have hml := hm.1
 unfold maxLen at hml
 have w0 : IntKind.i64.wrap 14 = 14 := rfl
 refine wc_intro Try.func92 rfl rfl (by kernel_rfl) (by simp [Try.f92]) ?_
 simp only [go_sem, ↓vmP2, ↓vmD, ↓vmK, ↓trK, ↓reduceIte, Try.f92, ldC_by l 0 q0, e0, w0]
 refine ⟨by omega, ?_⟩
 refine row_14 _ _ ?_
 simp only [go_sem, ↓vmP2, ↓vmD, ↓vmK, ↓trK, ↓reduceIte]
 refine sw_rounds 5 ?_
 refine swn_succ (by kernel_rfl) _ ?_
 simp only [go_sem, ↓vmP2, ↓vmD, ↓vmK, ↓trK, ↓reduceIte, Nat.zero_add]
 refine cdC_split (fun q => ?_) (fun q => ?_)
 ·have q' : l.length < 2 := by simp at q; omega
  simp only [go_sem, ↓vmP2, ↓vmD, ↓vmK, ↓trK, ↓reduceIte, trK]
  exact c.short (by unfold rdD14; rw [if_pos (by omega)]) _ _ _ _ _ _ _ _
 have q1 : 1 < l.length := by simp at q; omega
 have b1 := hm.2 1 q1
 have i1 : IntKind.i64.wrap l[1] = l[1] := wrap_id _ b1.1 (by unfold maxLen; omega)
 simp only [go_sem, ↓vmP2, ↓vmD, ↓vmK, ↓trK, ↓reduceIte, ldC_by l 1 q1, i1, hi_id _ b1, lo_id _ b1, Nat.zero_add]
 refine ⟨by omega, ?_⟩
 refine swn_succ (by kernel_rfl) _ ?_
 simp only [go_sem, ↓vmP2, ↓vmD, ↓vmK, ↓trK, ↓reduceIte, Nat.zero_add]
 refine cdC_split (fun q => ?_) (fun q => ?_)
 ·have q' : l.length < 3 := by simp at q; omega
  simp only [go_sem, ↓vmP2, ↓vmD, ↓vmK, ↓trK, ↓reduceIte, trK]
  exact c.short (by unfold rdD14; rw [if_pos (by omega)]) _ _ _ _ _ _ _ _
 have q2 : 2 < l.length := by simp at q; omega
 have b2 := hm.2 2 q2
 have i2 : IntKind.i64.wrap l[2] = l[2] := wrap_id _ b2.1 (by unfold maxLen; omega)
 simp only [go_sem, ↓vmP2, ↓vmD, ↓vmK, ↓trK, ↓reduceIte, ldC_by l 2 q2, i2, hi_id _ b2, lo_id _ b2, Nat.zero_add]
 refine ⟨by omega, ?_⟩
 refine rscale_wc _ _ _ ?_
 simp only [go_sem, ↓vmP2, ↓vmD, ↓vmK, ↓trK, ↓reduceIte, Nat.zero_add]
 refine swn_succ (by kernel_rfl) _ ?_
 simp only [go_sem, ↓vmP2, ↓vmD, ↓vmK, ↓trK, ↓reduceIte, Nat.zero_add]
 refine cdC_split (fun q => ?_) (fun q => ?_)
 ·have q' : l.length < 4 := by simp at q; omega
  simp only [go_sem, ↓vmP2, ↓vmD, ↓vmK, ↓trK, ↓reduceIte, trK]
  exact c.short (by unfold rdD14; rw [if_pos (by omega)]) _ _ _ _ _ _ _ _
 have q3 : 3 < l.length := by simp at q; omega
 have b3 := hm.2 3 q3
 have i3 : IntKind.i64.wrap l[3] = l[3] := wrap_id _ b3.1 (by unfold maxLen; omega)
 simp only [go_sem, ↓vmP2, ↓vmD, ↓vmK, ↓trK, ↓reduceIte, ldC_by l 3 q3, i3, Nat.zero_add]
 refine ⟨by omega, ?_⟩
 refine swn_succ (by kernel_rfl) _ ?_
 simp only [go_sem, ↓vmP2, ↓vmD, ↓vmK, ↓trK, ↓reduceIte, Nat.zero_add]
 refine cdC_split (fun q => ?_) (fun q => ?_)
 ·have q' : l.length < 4 + 4 := by simp at q; omega
  simp only [go_sem, ↓vmP2, ↓vmD, ↓vmK, ↓trK, ↓reduceIte, trK]
  exact c.short (by unfold rdD14; rw [if_pos (by omega)]) _ _ _ _ _ _ _ _
 have q' : 4 + 4 ≤ l.length := by simp at q; omega
 have q4 : 4 < l.length := by omega
 have b4 := hm.2 4 q4
 have i4 : IntKind.i64.wrap l[4] = l[4] := wrap_id _ b4.1 (by unfold maxLen; omega)
 simp only [go_sem, ↓vmP2, ↓vmD, ↓vmK, ↓trK, ↓reduceIte, ldC_by l 4 q4, i4, Nat.zero_add]
 refine ⟨by omega, ?_⟩
 refine wc_focus [0] rfl (hc := [.ro (byC l)]) ⟨by simp only [rnB, rn_by]; rfl, trivial⟩ (args' := [.s (.sl 0 0 l.length), .s (.a (.int .i64 4)), .s (.a (.int .i64 4))]) rfl rfl (rnum_wc l 4 4 _ hm (by omega) (by omega) ?_)
 simp only [rnO, rnP, mrg, setAll, rnB, rnS, ix, List.length_cons, List.length_nil, List.take_succ_cons, List.take_zero, List.take_nil, List.drop_succ_cons, List.drop_zero, List.drop_nil, List.map_cons, List.map_nil, List.getElem?_nil, List.getElem?_cons_zero, List.getElem?_cons_succ, List.set_cons_zero, List.set_cons_succ, List.cons_append, List.nil_append, List.append_nil, Nat.zero_add, Nat.reduceAdd, Nat.reduceSub, rn_by]
 simp only [go_sem, ↓vmP2, ↓vmD, ↓vmK, ↓trK, ↓reduceIte, Nat.zero_add, iC]
 refine swn_succ (by kernel_rfl) _ ?_
 simp only [go_sem, ↓vmP2, ↓vmD, ↓vmK, ↓trK, ↓reduceIte, Nat.zero_add, trK]
 exact c.ok (n := 8) (by unfold rdD14; rw [if_neg (by omega)]; (try simp only [gd l 1 q1, gd l 2 q2, gd l 3 q3]); rfl)
set_option maxRecDepth 100000 in
set_option maxHeartbeats 16000000 in
theorem read_15 (l : List Int) (K : Out → Hp → Prop) (hm : BY l) (q0 : 0 < l.length) (e0 : l[0] = 15) (c : RDK (rdD15 l) K [.ro (byC l)]) : WC Try.prog 92 [.s (.sl 0 0 l.length)] [.ro (byC l)] K := by
 refine wc_trunc 1 (by simp) ?_
 have hml := hm.1
 unfold maxLen at hml
 have w0 : IntKind.i64.wrap 15 = 15 := rfl
 refine wc_intro Try.func92 rfl rfl (by kernel_rfl) (by simp [Try.f92]) ?_
 simp only [go_sem, ↓vmP2, ↓vmD, ↓vmK, ↓trK, ↓reduceIte, Try.f92, ldC_by l 0 q0, e0, w0]
 refine ⟨by omega, ?_⟩
 refine row_15 _ _ ?_
 simp only [go_sem, ↓vmP2, ↓vmD, ↓vmK, ↓trK, ↓reduceIte]
 refine sw_rounds 3 ?_
 refine swn_succ (by kernel_rfl) _ ?_
 simp only [go_sem, ↓vmP2, ↓vmD, ↓vmK, ↓trK, ↓reduceIte, Nat.zero_add]
 refine cdC_split (fun q => ?_) (fun q => ?_)
 ·have q' : l.length < 2 := by simp at q; omega
  simp only [go_sem, ↓vmP2, ↓vmD, ↓vmK, ↓trK, ↓reduceIte, trK]
  exact c.short (by unfold rdD15; rw [if_pos (by omega)]) _ _ _ _ _ _ _ _
 have q1 : 1 < l.length := by simp at q; omega
 have b1 := hm.2 1 q1
 have i1 : IntKind.i64.wrap l[1] = l[1] := wrap_id _ b1.1 (by unfold maxLen; omega)
 simp only [go_sem, ↓vmP2, ↓vmD, ↓vmK, ↓trK, ↓reduceIte, ldC_by l 1 q1, i1, hi_id _ b1, lo_id _ b1, Nat.zero_add]
 refine ⟨by omega, ?_⟩
 refine swn_succ (by kernel_rfl) _ ?_
 simp only [go_sem, ↓vmP2, ↓vmD, ↓vmK, ↓trK, ↓reduceIte, Nat.zero_add]
 refine cdC_split (fun q => ?_) (fun q => ?_)
 ·have q' : l.length < 3 := by simp at q; omega
  simp only [go_sem, ↓vmP2, ↓vmD, ↓vmK, ↓trK, ↓reduceIte, trK]
  exact c.short (by unfold rdD15; rw [if_pos (by omega)]) _ _ _ _ _ _ _ _
 have q2 : 2 < l.length := by simp at q; omega
 have b2 := hm.2 2 q2
 have i2 : IntKind.i64.wrap l[2] = l[2] := wrap_id _ b2.1 (by unfold maxLen; omega)
 simp only [go_sem, ↓vmP2, ↓vmD, ↓vmK, ↓trK, ↓reduceIte, ldC_by l 2 q2, i2, Nat.zero_add]
 refine ⟨by omega, ?_⟩
 refine swn_succ (by kernel_rfl) _ ?_
 simp only [go_sem, ↓vmP2, ↓vmD, ↓vmK, ↓trK, ↓reduceIte, Nat.zero_add, trK]
 exact c.ok (n := 3) (by unfold rdD15; rw [if_neg (by omega)]; (try simp only [gd l 1 q1, gd l 2 q2]); rfl)
set_option maxRecDepth 100000 in
set_option maxHeartbeats 16000000 in
theorem read_16 (l : List Int) (K : Out → Hp → Prop) (hm : BY l) (q0 : 0 < l.length) (e0 : l[0] = 16) (c : RDK (rdD16 l) K [.ro (byC l)]) : WC Try.prog 92 [.s (.sl 0 0 l.length)] [.ro (byC l)] K := by
 refine wc_trunc 1 (by simp) ?_
 have hml := hm.1
 unfold maxLen at hml
 have w0 : IntKind.i64.wrap 16 = 16 := rfl
 refine wc_intro Try.func92 rfl rfl (by kernel_rfl) (by simp [Try.f92]) ?_
 simp only [go_sem, ↓vmP2, ↓vmD, ↓vmK, ↓trK, ↓reduceIte, Try.f92, ldC_by l 0 q0, e0, w0]
 refine ⟨by omega, ?_⟩
 refine row_16 _ _ ?_
 simp only [go_sem, ↓vmP2, ↓vmD, ↓vmK, ↓trK, ↓reduceIte]
 refine sw_rounds 3 ?_
 refine swn_succ (by kernel_rfl) _ ?_
 simp only [go_sem, ↓vmP2, ↓vmD, ↓vmK, ↓trK, ↓reduceIte, Nat.zero_add]
 refine cdC_split (fun q => ?_) (fun q => ?_)
 ·have q' : l.length < 2 := by simp at q; omega
  simp only [go_sem, ↓vmP2, ↓vmD, ↓vmK, ↓trK, ↓reduceIte, trK]
  exact c.short (by unfold rdD16; rw [if_pos (by omega)]) _ _ _ _ _ _ _ _
 have q1 : 1 < l.length := by simp at q; omega
 have b1 := hm.2 1 q1
 have i1 : IntKind.i64.wrap l[1] = l[1] := wrap_id _ b1.1 (by unfold maxLen; omega)
 simp only [go_sem, ↓vmP2, ↓vmD, ↓vmK, ↓trK, ↓reduceIte, ldC_by l 1 q1, i1, hi_id _ b1, lo_id _ b1, Nat.zero_add]
 refine ⟨by omega, ?_⟩
 refine swn_succ (by kernel_rfl) _ ?_
 simp only [go_sem, ↓vmP2, ↓vmD, ↓vmK, ↓trK, ↓reduceIte, Nat.zero_add]
 refine cdC_split (fun q => ?_) (fun q => ?_)
 ·have q' : l.length < 3 := by simp at q; omega
  simp only [go_sem, ↓vmP2, ↓vmD, ↓vmK, ↓trK, ↓reduceIte, trK]
  exact c.short (by unfold rdD16; rw [if_pos (by omega)]) _ _ _ _ _ _ _ _
 have q2 : 2 < l.length := by simp at q; omega
 have b2 := hm.2 2 q2
 have i2 : IntKind.i64.wrap l[2] = l[2] := wrap_id _ b2.1 (by unfold maxLen; omega)
 simp only [go_sem, ↓vmP2, ↓vmD, ↓vmK, ↓trK, ↓reduceIte, ldC_by l 2 q2, i2, Nat.zero_add]
 refine ⟨by omega, ?_⟩
 refine swn_succ (by kernel_rfl) _ ?_
 simp only [go_sem, ↓vmP2, ↓vmD, ↓vmK, ↓trK, ↓reduceIte, Nat.zero_add, trK]
 exact c.ok (n := 3) (by unfold rdD16; rw [if_neg (by omega)]; (try simp only [gd l 1 q1, gd l 2 q2]); rfl)
set_option maxRecDepth 100000 in
set_option maxHeartbeats 16000000 in
theorem read_17 (l : List Int) (K : Out → Hp → Prop) (hm : BY l) (q0 : 0 < l.length) (e0 : l[0] = 17) (c : RDK (rdD17 l) K [.ro (byC l)]) : WC Try.prog 92 [.s (.sl 0 0 l.length)] [.ro (byC l)] K := by
 refine wc_trunc 1 (by simp) ?_
 have hml := hm.1
 unfold maxLen at hml
 have w0 : IntKind.i64.wrap 17 = 17 := rfl
 refine wc_intro Try.func92 rfl rfl (by kernel_rfl) (by simp [Try.f92]) ?_
 simp only [go_sem, ↓vmP2, ↓vmD, ↓vmK, ↓trK, ↓reduceIte, Try.f92, ldC_by l 0 q0, e0, w0]
 refine ⟨by omega, ?_⟩
 refine row_17 _ _ ?_
 simp only [go_sem, ↓vmP2, ↓vmD, ↓vmK, ↓trK, ↓reduceIte]
 refine sw_rounds 4 ?_
 refine swn_succ (by kernel_rfl) _ ?_
 simp only [go_sem, ↓vmP2, ↓vmD, ↓vmK, ↓trK, ↓reduceIte, Nat.zero_add]
 refine cdC_split (fun q => ?_) (fun q => ?_)
 ·have q' : l.length < 2 := by simp at q; omega
  simp only [go_sem, ↓vmP2, ↓vmD, ↓vmK, ↓trK, ↓reduceIte, trK]
  exact c.short (by unfold rdD17; rw [if_pos (by omega)]) _ _ _ _ _ _ _ _
 have q1 : 1 < l.length := by simp at q; omega
 have b1 := hm.2 1 q1
 have i1 : IntKind.i64.wrap l[1] = l[1] := wrap_id _ b1.1 (by unfold maxLen; omega)
 simp only [go_sem, ↓vmP2, ↓vmD, ↓vmK, ↓trK, ↓reduceIte, ldC_by l 1 q1, i1, hi_id _ b1, lo_id _ b1, Nat.zero_add]
 refine ⟨by omega, ?_⟩
 cases g1 : decide ((l[1] % 16) > 2) with
 | true =>
  simp only [go_sem, ↓vmP2, ↓vmD, ↓vmK, ↓trK, ↓reduceIte, g1, trK]
  exact c.bad (by unfold rdD17; rw [if_neg (by omega), gd l 1 q1, if_pos (by simp at g1; omega)]) _ _ _ _ _ _ _ _
 | false =>
 have g1' : (l[1] % 16) ≤ 2 := by simp at g1; omega
 cases g2 : ((l[1] % 16) == 2) with
 | true =>
  simp only [go_sem, ↓vmP2, ↓vmD, ↓vmK, ↓trK, ↓reduceIte, g1, g2, trK]
  exact c.bad (by unfold rdD17; rw [if_neg (by omega), gd l 1 q1, if_pos (by simp at g2; omega)]) _ _ _ _ _ _ _ _
 | false =>
 have g2' : (l[1] % 16) ≠ 2 := by simpa using g2
 simp only [go_sem, ↓vmP2, ↓vmD, ↓vmK, ↓trK, ↓reduceIte, g1, g2, Nat.zero_add]
 refine swn_succ (by kernel_rfl) _ ?_
 simp only [go_sem, ↓vmP2, ↓vmD, ↓vmK, ↓trK, ↓reduceIte, Nat.zero_add, g1, g2]
 refine cdC_split (fun q => ?_) (fun q => ?_)
 ·have q' : l.length < 3 := by simp at q; omega
  simp only [go_sem, ↓vmP2, ↓vmD, ↓vmK, ↓trK, ↓reduceIte, trK]
  exact c.short (by unfold rdD17; rw [if_neg (by omega), gd l 1 q1, if_neg (by omega), if_pos (by omega)]) _ _ _ _ _ _ _ _
 have q2 : 2 < l.length := by simp at q; omega
 have b2 := hm.2 2 q2
 have i2 : IntKind.i64.wrap l[2] = l[2] := wrap_id _ b2.1 (by unfold maxLen; omega)
 simp only [go_sem, ↓vmP2, ↓vmD, ↓vmK, ↓trK, ↓reduceIte, ldC_by l 2 q2, i2, Nat.zero_add, g1, g2]
 refine ⟨by omega, ?_⟩
 refine swn_succ (by kernel_rfl) _ ?_
 simp only [go_sem, ↓vmP2, ↓vmD, ↓vmK, ↓trK, ↓reduceIte, Nat.zero_add, g1, g2]
 refine rbytes_wc _ _ _ ?_
 have nb1 := bytesF_ge (l[1] % 16)
 have nb2 := bytesF_le (l[1] % 16)
 have wb : IntKind.i64.wrap ((3 : Int) + (((bytesF (l[1] % 16)) : Nat) : Int)) = ((3 + (bytesF (l[1] % 16)) : Nat) : Int) := by rw [wrap_id _ (by omega) (by unfold maxLen; omega)]; push_cast; rfl
 simp only [go_sem, ↓vmP2, ↓vmD, ↓vmK, ↓trK, ↓reduceIte, wb, Nat.zero_add, g1, g2]
 refine cdC_split (fun q => ?_) (fun q => ?_)
 ·have q' : l.length < 3 + (bytesF (l[1] % 16)) := by simp at q; omega
  simp only [go_sem, ↓vmP2, ↓vmD, ↓vmK, ↓trK, ↓reduceIte, trK]
  exact c.short (by unfold rdD17; rw [if_neg (by omega), gd l 1 q1, if_neg (by omega), if_pos (by omega)]) _ _ _ _ _ _ _ _
 have q' : 3 + (bytesF (l[1] % 16)) ≤ l.length := by simp at q; omega
 have q3 : 3 < l.length := by omega
 have b3 := hm.2 3 q3
 have i3 : IntKind.i64.wrap l[3] = l[3] := wrap_id _ b3.1 (by unfold maxLen; omega)
 simp only [go_sem, ↓vmP2, ↓vmD, ↓vmK, ↓trK, ↓reduceIte, ldC_by l 3 q3, i3, Nat.zero_add]
 refine ⟨by omega, ?_⟩
 refine wc_focus [0] rfl (hc := [.ro (byC l)]) ⟨by simp only [rnB, rn_by]; rfl, trivial⟩ (args' := [.s (.sl 0 0 l.length), .s (.a (.int .i64 3)), .s (.a (.int .i64 (((bytesF (l[1] % 16)) : Nat) : Int)))]) rfl rfl (rnum_wc l 3 (bytesF (l[1] % 16)) _ hm (by omega) ⟨bytesF_ge _, bytesF_le _⟩ ?_)
 simp only [rnO, rnP, mrg, setAll, rnB, rnS, ix, List.length_cons, List.length_nil, List.take_succ_cons, List.take_zero, List.take_nil, List.drop_succ_cons, List.drop_zero, List.drop_nil, List.map_cons, List.map_nil, List.getElem?_nil, List.getElem?_cons_zero, List.getElem?_cons_succ, List.set_cons_zero, List.set_cons_succ, List.cons_append, List.nil_append, List.append_nil, Nat.zero_add, Nat.reduceAdd, Nat.reduceSub, rn_by]
 simp only [go_sem, ↓vmP2, ↓vmD, ↓vmK, ↓trK, ↓reduceIte, Nat.zero_add, wb, iC, g1, g2]
 refine swn_succ (by kernel_rfl) _ ?_
 simp only [go_sem, ↓vmP2, ↓vmD, ↓vmK, ↓trK, ↓reduceIte, Nat.zero_add, trK, g1, g2]
 exact c.ok (n := 3 + bytesF (l[1] % 16)) (by unfold rdD17; rw [if_neg (by omega), gd l 1 q1, if_neg (by omega), if_neg (by omega)]; (try simp only [gd l 2 q2]); rfl)
set_option maxRecDepth 100000 in
set_option maxHeartbeats 16000000 in
theorem read_18 (l : List Int) (K : Out → Hp → Prop) (hm : BY l) (q0 : 0 < l.length) (e0 : l[0] = 18) (c : RDK (rdD18 l) K [.ro (byC l)]) : WC Try.prog 92 [.s (.sl 0 0 l.length)] [.ro (byC l)] K := by
 refine wc_trunc 1 (by simp) ?_
 have hml := hm.1
 unfold maxLen at hml
 have w0 : IntKind.i64.wrap 18 = 18 := rfl
 refine wc_intro Try.func92 rfl rfl (by kernel_rfl) (by simp [Try.f92]) ?_
 simp only [go_sem, ↓vmP2, ↓vmD, ↓vmK, ↓trK, ↓reduceIte, Try.f92, ldC_by l 0 q0, e0, w0]
 refine ⟨by omega, ?_⟩
 refine row_18 _ _ ?_
 simp only [go_sem, ↓vmP2, ↓vmD, ↓vmK, ↓trK, ↓reduceIte]
 refine sw_rounds 3 ?_
 refine swn_succ (by kernel_rfl) _ ?_
 simp only [go_sem, ↓vmP2, ↓vmD, ↓vmK, ↓trK, ↓reduceIte, Nat.zero_add]
 refine cdC_split (fun q => ?_) (fun q => ?_)
 ·have q' : l.length < 2 := by simp at q; omega
  simp only [go_sem, ↓vmP2, ↓vmD, ↓vmK, ↓trK, ↓reduceIte, trK]
  exact c.short (by unfold rdD18; rw [if_pos (by omega)]) _ _ _ _ _ _ _ _
 have q1 : 1 < l.length := by simp at q; omega
 have b1 := hm.2 1 q1
 have i1 : IntKind.i64.wrap l[1] = l[1] := wrap_id _ b1.1 (by unfold maxLen; omega)
 simp only [go_sem, ↓vmP2, ↓vmD, ↓vmK, ↓trK, ↓reduceIte, ldC_by l 1 q1, i1, hi_id _ b1, lo_id _ b1, Nat.zero_add]
 refine ⟨by omega, ?_⟩
 refine swn_succ (by kernel_rfl) _ ?_
 simp only [go_sem, ↓vmP2, ↓vmD, ↓vmK, ↓trK, ↓reduceIte, Nat.zero_add]
 refine cdC_split (fun q => ?_) (fun q => ?_)
 ·have q' : l.length < 3 := by simp at q; omega
  simp only [go_sem, ↓vmP2, ↓vmD, ↓vmK, ↓trK, ↓reduceIte, trK]
  exact c.short (by unfold rdD18; rw [if_pos (by omega)]) _ _ _ _ _ _ _ _
 have q2 : 2 < l.length := by simp at q; omega
 have b2 := hm.2 2 q2
 have i2 : IntKind.i64.wrap l[2] = l[2] := wrap_id _ b2.1 (by unfold maxLen; omega)
 simp only [go_sem, ↓vmP2, ↓vmD, ↓vmK, ↓trK, ↓reduceIte, ldC_by l 2 q2, i2, Nat.zero_add]
 refine ⟨by omega, ?_⟩
 refine swn_succ (by kernel_rfl) _ ?_
 simp only [go_sem, ↓vmP2, ↓vmD, ↓vmK, ↓trK, ↓reduceIte, Nat.zero_add, trK]
 exact c.ok (n := 3) (by unfold rdD18; rw [if_neg (by omega)]; (try simp only [gd l 1 q1, gd l 2 q2]); rfl)
set_option maxRecDepth 100000 in
set_option maxHeartbeats 16000000 in
theorem read_19 (l : List Int) (K : Out → Hp → Prop) (hm : BY l) (q0 : 0 < l.length) (e0 : l[0] = 19) (c : RDK (rdD19 l) K [.ro (byC l)]) : WC Try.prog 92 [.s (.sl 0 0 l.length)] [.ro (byC l)] K := by
 refine wc_trunc 1 (by simp) ?_
 have hml := hm.1
 unfold maxLen at hml
 have w0 : IntKind.i64.wrap 19 = 19 := rfl
 refine wc_intro Try.func92 rfl rfl (by kernel_rfl) (by simp [Try.f92]) ?_
 simp only [go_sem, ↓vmP2, ↓vmD, ↓vmK, ↓trK, ↓reduceIte, Try.f92, ldC_by l 0 q0, e0, w0]
 refine ⟨by omega, ?_⟩
 refine row_19 _ _ ?_
 simp only [go_sem, ↓vmP2, ↓vmD, ↓vmK, ↓trK, ↓reduceIte]
 refine sw_rounds 3 ?_
 refine swn_succ (by kernel_rfl) _ ?_
 simp only [go_sem, ↓vmP2, ↓vmD, ↓vmK, ↓trK, ↓reduceIte, Nat.zero_add]
 refine cdC_split (fun q => ?_) (fun q => ?_)
 ·have q' : l.length < 2 := by simp at q; omega
  simp only [go_sem, ↓vmP2, ↓vmD, ↓vmK, ↓trK, ↓reduceIte, trK]
  exact c.short (by unfold rdD19; rw [if_pos (by omega)]) _ _ _ _ _ _ _ _
 have q1 : 1 < l.length := by simp at q; omega
 have b1 := hm.2 1 q1
 have i1 : IntKind.i64.wrap l[1] = l[1] := wrap_id _ b1.1 (by unfold maxLen; omega)
 simp only [go_sem, ↓vmP2, ↓vmD, ↓vmK, ↓trK, ↓reduceIte, ldC_by l 1 q1, i1, Nat.zero_add]
 refine ⟨by omega, ?_⟩
 cases g1 : decide (l[1] > 2) with
 | true =>
  simp only [go_sem, ↓vmP2, ↓vmD, ↓vmK, ↓trK, ↓reduceIte, g1, trK]
  exact c.bad (by unfold rdD19; rw [if_neg (by omega), gd l 1 q1, if_pos (by simp at g1; omega)]) _ _ _ _ _ _ _ _
 | false =>
 have g1' : l[1] ≤ 2 := by simp at g1; omega
 cases g2 : (l[1] == 2) with
 | true =>
  simp only [go_sem, ↓vmP2, ↓vmD, ↓vmK, ↓trK, ↓reduceIte, g1, g2, trK]
  exact c.bad (by unfold rdD19; rw [if_neg (by omega), gd l 1 q1, if_pos (by simp at g2; omega)]) _ _ _ _ _ _ _ _
 | false =>
 have g2' : l[1] ≠ 2 := by simpa using g2
 simp only [go_sem, ↓vmP2, ↓vmD, ↓vmK, ↓trK, ↓reduceIte, g1, g2, Nat.zero_add]
 refine swn_succ (by kernel_rfl) _ ?_
 simp only [go_sem, ↓vmP2, ↓vmD, ↓vmK, ↓trK, ↓reduceIte, Nat.zero_add, g1, g2]
 refine rbytes_wc _ _ _ ?_
 have nb1 := bytesF_ge l[1]
 have nb2 := bytesF_le l[1]
 have wb : IntKind.i64.wrap ((2 : Int) + (((bytesF l[1]) : Nat) : Int)) = ((2 + (bytesF l[1]) : Nat) : Int) := by rw [wrap_id _ (by omega) (by unfold maxLen; omega)]; push_cast; rfl
 simp only [go_sem, ↓vmP2, ↓vmD, ↓vmK, ↓trK, ↓reduceIte, wb, Nat.zero_add, g1, g2]
 refine cdC_split (fun q => ?_) (fun q => ?_)
 ·have q' : l.length < 2 + (bytesF l[1]) := by simp at q; omega
  simp only [go_sem, ↓vmP2, ↓vmD, ↓vmK, ↓trK, ↓reduceIte, trK]
  exact c.short (by unfold rdD19; rw [if_neg (by omega), gd l 1 q1, if_neg (by omega), if_pos (by omega)]) _ _ _ _ _ _ _ _
 have q' : 2 + (bytesF l[1]) ≤ l.length := by simp at q; omega
 have q2 : 2 < l.length := by omega
 have b2 := hm.2 2 q2
 have i2 : IntKind.i64.wrap l[2] = l[2] := wrap_id _ b2.1 (by unfold maxLen; omega)
 simp only [go_sem, ↓vmP2, ↓vmD, ↓vmK, ↓trK, ↓reduceIte, ldC_by l 2 q2, i2, Nat.zero_add]
 refine ⟨by omega, ?_⟩
 refine wc_focus [0] rfl (hc := [.ro (byC l)]) ⟨by simp only [rnB, rn_by]; rfl, trivial⟩ (args' := [.s (.sl 0 0 l.length), .s (.a (.int .i64 2)), .s (.a (.int .i64 (((bytesF l[1]) : Nat) : Int)))]) rfl rfl (rnum_wc l 2 (bytesF l[1]) _ hm (by omega) ⟨bytesF_ge _, bytesF_le _⟩ ?_)
 simp only [rnO, rnP, mrg, setAll, rnB, rnS, ix, List.length_cons, List.length_nil, List.take_succ_cons, List.take_zero, List.take_nil, List.drop_succ_cons, List.drop_zero, List.drop_nil, List.map_cons, List.map_nil, List.getElem?_nil, List.getElem?_cons_zero, List.getElem?_cons_succ, List.set_cons_zero, List.set_cons_succ, List.cons_append, List.nil_append, List.append_nil, Nat.zero_add, Nat.reduceAdd, Nat.reduceSub, rn_by]
 simp only [go_sem, ↓vmP2, ↓vmD, ↓vmK, ↓trK, ↓reduceIte, Nat.zero_add, wb, iC, g1, g2]
 refine swn_succ (by kernel_rfl) _ ?_
 simp only [go_sem, ↓vmP2, ↓vmD, ↓vmK, ↓trK, ↓reduceIte, Nat.zero_add, trK, g1, g2]
 exact c.ok (n := 2 + bytesF l[1]) (by unfold rdD19; rw [if_neg (by omega), gd l 1 q1, if_neg (by omega), if_neg (by omega)]; (try simp only [gd l 1 q1]); rfl)
set_option maxRecDepth 100000 in
set_option maxHeartbeats 16000000 in
theorem read_22 (l : List Int) (K : Out → Hp → Prop) (hm : BY l) (q0 : 0 < l.length) (e0 : l[0] = 22) (c : RDK (rdD22 l) K [.ro (byC l)]) : WC Try.prog 92 [.s (.sl 0 0 l.length)] [.ro (byC l)] K := by
 refine wc_trunc 1 (by simp) ?_
 have hml := hm.1
 unfold maxLen at hml
 have w0 : IntKind.i64.wrap 22 = 22 := rfl
 refine wc_intro Try.func92 rfl rfl (by kernel_rfl) (by simp [Try.f92]) ?_
 simp only [go_sem, ↓vmP2, ↓vmD, ↓vmK, ↓trK, ↓reduceIte, Try.f92, ldC_by l 0 q0, e0, w0]
 refine ⟨by omega, ?_⟩
 refine row_22 _ _ ?_
 simp only [go_sem, ↓vmP2, ↓vmD, ↓vmK, ↓trK, ↓reduceIte]
 refine sw_rounds 3 ?_
 refine swn_succ (by kernel_rfl) _ ?_
 simp only [go_sem, ↓vmP2, ↓vmD, ↓vmK, ↓trK, ↓reduceIte, Nat.zero_add]
 refine cdC_split (fun q => ?_) (fun q => ?_)
 ·have q' : l.length < 2 := by simp at q; omega
  simp only [go_sem, ↓vmP2, ↓vmD, ↓vmK, ↓trK, ↓reduceIte, trK]
  exact c.short (by unfold rdD22; rw [if_pos (by omega)]) _ _ _ _ _ _ _ _
 have q1 : 1 < l.length := by simp at q; omega
 have b1 := hm.2 1 q1
 have i1 : IntKind.i64.wrap l[1] = l[1] := wrap_id _ b1.1 (by unfold maxLen; omega)
 have j11 : IntKind.i64.wrap (l[1] / 16 + 11) = l[1] / 16 + 11 := wrap_id _ (by omega) (by unfold maxLen; omega)
 simp only [go_sem, ↓vmP2, ↓vmD, ↓vmK, ↓trK, ↓reduceIte, ldC_by l 1 q1, i1, hi_id _ b1, lo_id _ b1, j11, Nat.zero_add]
 refine ⟨by omega, ?_⟩
 cases g1 : decide ((l[1] % 16) > 2) with
 | true =>
  simp only [go_sem, ↓vmP2, ↓vmD, ↓vmK, ↓trK, ↓reduceIte, g1, trK]
  exact c.bad (by unfold rdD22; rw [if_neg (by omega), gd l 1 q1, if_pos (by simp at g1; omega)]) _ _ _ _ _ _ _ _
 | false =>
 have g1' : (l[1] % 16) ≤ 2 := by simp at g1; omega
 cases g2 : ((l[1] % 16) == 2) with
 | true =>
  simp only [go_sem, ↓vmP2, ↓vmD, ↓vmK, ↓trK, ↓reduceIte, g1, g2, trK]
  exact c.bad (by unfold rdD22; rw [if_neg (by omega), gd l 1 q1, if_pos (by simp at g2; omega)]) _ _ _ _ _ _ _ _
 | false =>
 have g2' : (l[1] % 16) ≠ 2 := by simpa using g2
 simp only [go_sem, ↓vmP2, ↓vmD, ↓vmK, ↓trK, ↓reduceIte, g1, g2, Nat.zero_add]
 refine swn_succ (by kernel_rfl) _ ?_
 simp only [go_sem, ↓vmP2, ↓vmD, ↓vmK, ↓trK, ↓reduceIte, Nat.zero_add, g1, g2]
 refine rbytes_wc _ _ _ ?_
 have nb1 := bytesF_ge (l[1] % 16)
 have nb2 := bytesF_le (l[1] % 16)
 have wb : IntKind.i64.wrap ((2 : Int) + (((bytesF (l[1] % 16)) : Nat) : Int)) = ((2 + (bytesF (l[1] % 16)) : Nat) : Int) := by rw [wrap_id _ (by omega) (by unfold maxLen; omega)]; push_cast; rfl
 simp only [go_sem, ↓vmP2, ↓vmD, ↓vmK, ↓trK, ↓reduceIte, wb, Nat.zero_add, g1, g2]
 refine cdC_split (fun q => ?_) (fun q => ?_)
 ·have q' : l.length < 2 + (bytesF (l[1] % 16)) := by simp at q; omega
  simp only [go_sem, ↓vmP2, ↓vmD, ↓vmK, ↓trK, ↓reduceIte, trK]
  exact c.short (by unfold rdD22; rw [if_neg (by omega), gd l 1 q1, if_neg (by omega), if_pos (by omega)]) _ _ _ _ _ _ _ _
 have q' : 2 + (bytesF (l[1] % 16)) ≤ l.length := by simp at q; omega
 have q2 : 2 < l.length := by omega
 have b2 := hm.2 2 q2
 have i2 : IntKind.i64.wrap l[2] = l[2] := wrap_id _ b2.1 (by unfold maxLen; omega)
 simp only [go_sem, ↓vmP2, ↓vmD, ↓vmK, ↓trK, ↓reduceIte, ldC_by l 2 q2, i2, Nat.zero_add]
 refine ⟨by omega, ?_⟩
 refine wc_focus [0] rfl (hc := [.ro (byC l)]) ⟨by simp only [rnB, rn_by]; rfl, trivial⟩ (args' := [.s (.sl 0 0 l.length), .s (.a (.int .i64 2)), .s (.a (.int .i64 (((bytesF (l[1] % 16)) : Nat) : Int)))]) rfl rfl (rnum_wc l 2 (bytesF (l[1] % 16)) _ hm (by omega) ⟨bytesF_ge _, bytesF_le _⟩ ?_)
 simp only [rnO, rnP, mrg, setAll, rnB, rnS, ix, List.length_cons, List.length_nil, List.take_succ_cons, List.take_zero, List.take_nil, List.drop_succ_cons, List.drop_zero, List.drop_nil, List.map_cons, List.map_nil, List.getElem?_nil, List.getElem?_cons_zero, List.getElem?_cons_succ, List.set_cons_zero, List.set_cons_succ, List.cons_append, List.nil_append, List.append_nil, Nat.zero_add, Nat.reduceAdd, Nat.reduceSub, rn_by]
 simp only [go_sem, ↓vmP2, ↓vmD, ↓vmK, ↓trK, ↓reduceIte, Nat.zero_add, wb, iC, g1, g2]
 refine swn_succ (by kernel_rfl) _ ?_
 simp only [go_sem, ↓vmP2, ↓vmD, ↓vmK, ↓trK, ↓reduceIte, Nat.zero_add, trK, g1, g2]
 exact c.ok (n := 2 + bytesF (l[1] % 16)) (by unfold rdD22; rw [if_neg (by omega), gd l 1 q1, if_neg (by omega), if_neg (by omega)]; (try simp only [gd l 1 q1]); rfl)
set_option maxRecDepth 100000 in
set_option maxHeartbeats 16000000 in
theorem read_23 (l : List Int) (K : Out → Hp → Prop) (hm : BY l) (q0 : 0 < l.length) (e0 : l[0] = 23) (c : RDK (rdD23 l) K [.ro (byC l)]) : WC Try.prog 92 [.s (.sl 0 0 l.length)] [.ro (byC l)] K := by
 refine wc_trunc 1 (by simp) ?_
 have hml := hm.1
 unfold maxLen at hml
 have w0 : IntKind.i64.wrap 23 = 23 := rfl
 refine wc_intro Try.func92 rfl rfl (by kernel_rfl) (by simp [Try.f92]) ?_
 simp only [go_sem, ↓vmP2, ↓vmD, ↓vmK, ↓trK, ↓reduceIte, Try.f92, ldC_by l 0 q0, e0, w0]
 refine ⟨by omega, ?_⟩
 refine row_23 _ _ ?_
 simp only [go_sem, ↓vmP2, ↓vmD, ↓vmK, ↓trK, ↓reduceIte]
 refine sw_rounds 2 ?_
 refine swn_succ (by kernel_rfl) _ ?_
 simp only [go_sem, ↓vmP2, ↓vmD, ↓vmK, ↓trK, ↓reduceIte, Nat.zero_add]
 refine cdC_split (fun q => ?_) (fun q => ?_)
 ·have q' : l.length < 1 + 4 := by simp at q; omega
  simp only [go_sem, ↓vmP2, ↓vmD, ↓vmK, ↓trK, ↓reduceIte, trK]
  exact c.short (by unfold rdD23; rw [if_pos (by omega)]) _ _ _ _ _ _ _ _
 have q' : 1 + 4 ≤ l.length := by simp at q; omega
 have q1 : 1 < l.length := by omega
 have b1 := hm.2 1 q1
 have i1 : IntKind.i64.wrap l[1] = l[1] := wrap_id _ b1.1 (by unfold maxLen; omega)
 simp only [go_sem, ↓vmP2, ↓vmD, ↓vmK, ↓trK, ↓reduceIte, ldC_by l 1 q1, i1, Nat.zero_add]
 refine ⟨by omega, ?_⟩
 refine wc_focus [0] rfl (hc := [.ro (byC l)]) ⟨by simp only [rnB, rn_by]; rfl, trivial⟩ (args' := [.s (.sl 0 0 l.length), .s (.a (.int .i64 1)), .s (.a (.int .i64 4))]) rfl rfl (rnum_wc l 1 4 _ hm (by omega) (by omega) ?_)
 simp only [rnO, rnP, mrg, setAll, rnB, rnS, ix, List.length_cons, List.length_nil, List.take_succ_cons, List.take_zero, List.take_nil, List.drop_succ_cons, List.drop_zero, List.drop_nil, List.map_cons, List.map_nil, List.getElem?_nil, List.getElem?_cons_zero, List.getElem?_cons_succ, List.set_cons_zero, List.set_cons_succ, List.cons_append, List.nil_append, List.append_nil, Nat.zero_add, Nat.reduceAdd, Nat.reduceSub, rn_by]
 simp only [go_sem, ↓vmP2, ↓vmD, ↓vmK, ↓trK, ↓reduceIte, Nat.zero_add, iC]
 refine swn_succ (by kernel_rfl) _ ?_
 simp only [go_sem, ↓vmP2, ↓vmD, ↓vmK, ↓trK, ↓reduceIte, Nat.zero_add, trK]
 exact c.ok (n := 5) (by unfold rdD23; rw [if_neg (by omega)]; (try simp only [ge_iff_le]); rfl)
set_option maxRecDepth 100000 in
set_option maxHeartbeats 16000000 in
theorem read_24 (l : List Int) (K : Out → Hp → Prop) (hm : BY l) (q0 : 0 < l.length) (e0 : l[0] = 24) (c : RDK (rdD24 l) K [.ro (byC l)]) : WC Try.prog 92 [.s (.sl 0 0 l.length)] [.ro (byC l)] K := by
 refine wc_trunc 1 (by simp) ?_
 have hml := hm.1
 unfold maxLen at hml
 have w0 : IntKind.i64.wrap 24 = 24 := rfl
 refine wc_intro Try.func92 rfl rfl (by kernel_rfl) (by simp [Try.f92]) ?_
 simp only [go_sem, ↓vmP2, ↓vmD, ↓vmK, ↓trK, ↓reduceIte, Try.f92, ldC_by l 0 q0, e0, w0]
 refine ⟨by omega, ?_⟩
 refine row_24 _ _ ?_
 simp only [go_sem, ↓vmP2, ↓vmD, ↓vmK, ↓trK, ↓reduceIte]
 refine sw_rounds 2 ?_
 refine swn_succ (by kernel_rfl) _ ?_
 simp only [go_sem, ↓vmP2, ↓vmD, ↓vmK, ↓trK, ↓reduceIte, Nat.zero_add, trK]
 exact c.ok (n := 1) (by unfold rdD24; rw [if_neg (by omega)]; rfl)
set_option maxRecDepth 100000 in
set_option maxHeartbeats 16000000 in
theorem read_25 (l : List Int) (K : Out → Hp → Prop) (hm : BY l) (q0 : 0 < l.length) (e0 : l[0] = 25) (c : RDK (rdD25 l) K [.ro (byC l)]) : WC Try.prog 92 [.s (.sl 0 0 l.length)] [.ro (byC l)] K := by
 refine wc_trunc 1 (by simp) ?_
 have hml := hm.1
 unfold maxLen at hml
 have w0 : IntKind.i64.wrap 25 = 25 := rfl
 refine wc_intro Try.func92 rfl rfl (by kernel_rfl) (by simp [Try.f92]) ?_
 simp only [go_sem, ↓vmP2, ↓vmD, ↓vmK, ↓trK, ↓reduceIte, Try.f92, ldC_by l 0 q0, e0, w0]
 refine ⟨by omega, ?_⟩
 refine row_25 _ _ ?_
 simp only [go_sem, ↓vmP2, ↓vmD, ↓vmK, ↓trK, ↓reduceIte]
 refine sw_rounds 2 ?_
 refine swn_succ (by kernel_rfl) _ ?_
 simp only [go_sem, ↓vmP2, ↓vmD, ↓vmK, ↓trK, ↓reduceIte, Nat.zero_add]
 refine cdC_split (fun q => ?_) (fun q => ?_)
 ·have q' : l.length < 1 + 4 := by simp at q; omega
  simp only [go_sem, ↓vmP2, ↓vmD, ↓vmK, ↓trK, ↓reduceIte, trK]
  exact c.short (by unfold rdD25; rw [if_pos (by omega)]) _ _ _ _ _ _ _ _
 have q' : 1 + 4 ≤ l.length := by simp at q; omega
 have q1 : 1 < l.length := by omega
 have b1 := hm.2 1 q1
 have i1 : IntKind.i64.wrap l[1] = l[1] := wrap_id _ b1.1 (by unfold maxLen; omega)
 simp only [go_sem, ↓vmP2, ↓vmD, ↓vmK, ↓trK, ↓reduceIte, ldC_by l 1 q1, i1, Nat.zero_add]
 refine ⟨by omega, ?_⟩
 refine wc_focus [0] rfl (hc := [.ro (byC l)]) ⟨by simp only [rnB, rn_by]; rfl, trivial⟩ (args' := [.s (.sl 0 0 l.length), .s (.a (.int .i64 1)), .s (.a (.int .i64 4))]) rfl rfl (rnum_wc l 1 4 _ hm (by omega) (by omega) ?_)
 simp only [rnO, rnP, mrg, setAll, rnB, rnS, ix, List.length_cons, List.length_nil, List.take_succ_cons, List.take_zero, List.take_nil, List.drop_succ_cons, List.drop_zero, List.drop_nil, List.map_cons, List.map_nil, List.getElem?_nil, List.getElem?_cons_zero, List.getElem?_cons_succ, List.set_cons_zero, List.set_cons_succ, List.cons_append, List.nil_append, List.append_nil, Nat.zero_add, Nat.reduceAdd, Nat.reduceSub, rn_by]
 simp only [go_sem, ↓vmP2, ↓vmD, ↓vmK, ↓trK, ↓reduceIte, Nat.zero_add, iC]
 refine swn_succ (by kernel_rfl) _ ?_
 simp only [go_sem, ↓vmP2, ↓vmD, ↓vmK, ↓trK, ↓reduceIte, Nat.zero_add, trK]
 exact c.ok (n := 5) (by unfold rdD25; rw [if_neg (by omega)]; (try simp only [ge_iff_le]); rfl)
set_option maxRecDepth 100000 in
set_option maxHeartbeats 16000000 in
theorem read_26 (l : List Int) (K : Out → Hp → Prop) (hm : BY l) (q0 : 0 < l.length) (e0 : l[0] = 26) (c : RDK (rdD26 l) K [.ro (byC l)]) : WC Try.prog 92 [.s (.sl 0 0 l.length)] [.ro (byC l)] K := by
 refine wc_trunc 1 (by simp) ?_
 have hml := hm.1
 unfold maxLen at hml
 have w0 : IntKind.i64.wrap 26 = 26 := rfl
 refine wc_intro Try.func92 rfl rfl (by kernel_rfl) (by simp [Try.f92]) ?_
 simp only [go_sem, ↓vmP2, ↓vmD, ↓vmK, ↓trK, ↓reduceIte, Try.f92, ldC_by l 0 q0, e0, w0]
 refine ⟨by omega, ?_⟩
 refine row_26 _ _ ?_
 simp only [go_sem, ↓vmP2, ↓vmD, ↓vmK, ↓trK, ↓reduceIte]
 refine sw_rounds 2 ?_
 refine swn_succ (by kernel_rfl) _ ?_
 simp only [go_sem, ↓vmP2, ↓vmD, ↓vmK, ↓trK, ↓reduceIte, Nat.zero_add]
 refine cdC_split (fun q => ?_) (fun q => ?_)
 ·have q' : l.length < 2 := by simp at q; omega
  simp only [go_sem, ↓vmP2, ↓vmD, ↓vmK, ↓trK, ↓reduceIte, trK]
  exact c.short (by unfold rdD26; rw [if_pos (by omega)]) _ _ _ _ _ _ _ _
 have q1 : 1 < l.length := by simp at q; omega
 have b1 := hm.2 1 q1
 have i1 : IntKind.i64.wrap l[1] = l[1] := wrap_id _ b1.1 (by unfold maxLen; omega)
 simp only [go_sem, ↓vmP2, ↓vmD, ↓vmK, ↓trK, ↓reduceIte, ldC_by l 1 q1, i1, hi_id _ b1, lo_id _ b1, Nat.zero_add]
 refine ⟨by omega, ?_⟩
 refine swn_succ (by kernel_rfl) _ ?_
 simp only [go_sem, ↓vmP2, ↓vmD, ↓vmK, ↓trK, ↓reduceIte, Nat.zero_add, trK]
 exact c.ok (n := 2) (by unfold rdD26; rw [if_neg (by omega)]; (try simp only [gd l 1 q1]); rfl)
set_option maxRecDepth 100000 in
set_option maxHeartbeats 16000000 in
theorem read_27 (l : List Int) (K : Out → Hp → Prop) (hm : BY l) (q0 : 0 < l.length) (e0 : l[0] = 27) (c : RDK (rdD27 l) K [.ro (byC l)]) : WC Try.prog 92 [.s (.sl 0 0 l.length)] [.ro (byC l)] K := by
 refine wc_trunc 1 (by simp) ?_
 have hml := hm.1
 unfold maxLen at hml
 have w0 : IntKind.i64.wrap 27 = 27 := rfl
 refine wc_intro Try.func92 rfl rfl (by kernel_rfl) (by simp [Try.f92]) ?_
 simp only [go_sem, ↓vmP2, ↓vmD, ↓vmK, ↓trK, ↓reduceIte, Try.f92, ldC_by l 0 q0, e0, w0]
 refine ⟨by omega, ?_⟩
 refine row_27 _ _ ?_
 simp only [go_sem, ↓vmP2, ↓vmD, ↓vmK, ↓trK, ↓reduceIte]
 refine sw_rounds 2 ?_
 refine swn_succ (by kernel_rfl) _ ?_
 simp only [go_sem, ↓vmP2, ↓vmD, ↓vmK, ↓trK, ↓reduceIte, Nat.zero_add]
 refine cdC_split (fun q => ?_) (fun q => ?_)
 ·have q' : l.length < 2 := by simp at q; omega
  simp only [go_sem, ↓vmP2, ↓vmD, ↓vmK, ↓trK, ↓reduceIte, trK]
  exact c.short (by unfold rdD27; rw [if_pos (by omega)]) _ _ _ _ _ _ _ _
 have q1 : 1 < l.length := by simp at q; omega
 have b1 := hm.2 1 q1
 have i1 : IntKind.i64.wrap l[1] = l[1] := wrap_id _ b1.1 (by unfold maxLen; omega)
 simp only [go_sem, ↓vmP2, ↓vmD, ↓vmK, ↓trK, ↓reduceIte, ldC_by l 1 q1, i1, hi_id _ b1, lo_id _ b1, Nat.zero_add]
 refine ⟨by omega, ?_⟩
 refine swn_succ (by kernel_rfl) _ ?_
 simp only [go_sem, ↓vmP2, ↓vmD, ↓vmK, ↓trK, ↓reduceIte, Nat.zero_add, trK]
 exact c.ok (n := 2) (by unfold rdD27; rw [if_neg (by omega)]; (try simp only [gd l 1 q1]); rfl)
set_option maxRecDepth 100000 in
set_option maxHeartbeats 16000000 in
theorem read_28 (l : List Int) (K : Out → Hp → Prop) (hm : BY l) (q0 : 0 < l.length) (e0 : l[0] = 28) (c : RDK (rdD28 l) K [.ro (byC l)]) : WC Try.prog 92 [.s (.sl 0 0 l.length)] [.ro (byC l)] K := by
 refine wc_trunc 1 (by simp) ?_
 have hml := hm.1
 unfold maxLen at hml
 have w0 : IntKind.i64.wrap 28 = 28 := rfl
 refine wc_intro Try.func92 rfl rfl (by kernel_rfl) (by simp [Try.f92]) ?_
 simp only [go_sem, ↓vmP2, ↓vmD, ↓vmK, ↓trK, ↓reduceIte, Try.f92, ldC_by l 0 q0, e0, w0]
 refine ⟨by omega, ?_⟩
 refine row_28 _ _ ?_
 simp only [go_sem, ↓vmP2, ↓vmD, ↓vmK, ↓trK, ↓reduceIte]
 refine sw_rounds 2 ?_
 refine swn_succ (by kernel_rfl) _ ?_
 simp only [go_sem, ↓vmP2, ↓vmD, ↓vmK, ↓trK, ↓reduceIte, Nat.zero_add]
 refine cdC_split (fun q => ?_) (fun q => ?_)
 ·have q' : l.length < 2 := by simp at q; omega
  simp only [go_sem, ↓vmP2, ↓vmD, ↓vmK, ↓trK, ↓reduceIte, trK]
  exact c.short (by unfold rdD28; rw [if_pos (by omega)]) _ _ _ _ _ _ _ _
 have q1 : 1 < l.length := by simp at q; omega
 have b1 := hm.2 1 q1
 have i1 : IntKind.i64.wrap l[1] = l[1] := wrap_id _ b1.1 (by unfold maxLen; omega)
 simp only [go_sem, ↓vmP2, ↓vmD, ↓vmK, ↓trK, ↓reduceIte, ldC_by l 1 q1, i1, hi_id _ b1, lo_id _ b1, Nat.zero_add]
 refine ⟨by omega, ?_⟩
 refine swn_succ (by kernel_rfl) _ ?_
 simp only [go_sem, ↓vmP2, ↓vmD, ↓vmK, ↓trK, ↓reduceIte, Nat.zero_add, trK]
 exact c.ok (n := 2) (by unfold rdD28; rw [if_neg (by omega)]; (try simp only [gd l 1 q1]); rfl)
set_option maxRecDepth 100000 in
set_option maxHeartbeats 16000000 in
theorem read_29 (l : List Int) (K : Out → Hp → Prop) (hm : BY l) (q0 : 0 < l.length) (e0 : l[0] = 29) (c : RDK (rdD29 l) K [.ro (byC l)]) : WC Try.prog 92 [.s (.sl 0 0 l.length)] [.ro (byC l)] K := by
 refine wc_trunc 1 (by simp) ?_
 have hml := hm.1
 unfold maxLen at hml
 have w0 : IntKind.i64.wrap 29 = 29 := rfl
 refine wc_intro Try.func92 rfl rfl (by kernel_rfl) (by simp [Try.f92]) ?_
 simp only [go_sem, ↓vmP2, ↓vmD, ↓vmK, ↓trK, ↓reduceIte, Try.f92, ldC_by l 0 q0, e0, w0]
 refine ⟨by omega, ?_⟩
 refine row_29 _ _ ?_
 simp only [go_sem, ↓vmP2, ↓vmD, ↓vmK, ↓trK, ↓reduceIte]
 refine sw_rounds 2 ?_
 refine swn_succ (by kernel_rfl) _ ?_
 simp only [go_sem, ↓vmP2, ↓vmD, ↓vmK, ↓trK, ↓reduceIte, Nat.zero_add]
 refine cdC_split (fun q => ?_) (fun q => ?_)
 ·have q' : l.length < 1 + 4 := by simp at q; omega
  simp only [go_sem, ↓vmP2, ↓vmD, ↓vmK, ↓trK, ↓reduceIte, trK]
  exact c.short (by unfold rdD29; rw [if_pos (by omega)]) _ _ _ _ _ _ _ _
 have q' : 1 + 4 ≤ l.length := by simp at q; omega
 have q1 : 1 < l.length := by omega
 have b1 := hm.2 1 q1
 have i1 : IntKind.i64.wrap l[1] = l[1] := wrap_id _ b1.1 (by unfold maxLen; omega)
 simp only [go_sem, ↓vmP2, ↓vmD, ↓vmK, ↓trK, ↓reduceIte, ldC_by l 1 q1, i1, Nat.zero_add]
 refine ⟨by omega, ?_⟩
 refine wc_focus [0] rfl (hc := [.ro (byC l)]) ⟨by simp only [rnB, rn_by]; rfl, trivial⟩ (args' := [.s (.sl 0 0 l.length), .s (.a (.int .i64 1)), .s (.a (.int .i64 4))]) rfl rfl (rnum_wc l 1 4 _ hm (by omega) (by omega) ?_)
 simp only [rnO, rnP, mrg, setAll, rnB, rnS, ix, List.length_cons, List.length_nil, List.take_succ_cons, List.take_zero, List.take_nil, List.drop_succ_cons, List.drop_zero, List.drop_nil, List.map_cons, List.map_nil, List.getElem?_nil, List.getElem?_cons_zero, List.getElem?_cons_succ, List.set_cons_zero, List.set_cons_succ, List.cons_append, List.nil_append, List.append_nil, Nat.zero_add, Nat.reduceAdd, Nat.reduceSub, rn_by]
 simp only [go_sem, ↓vmP2, ↓vmD, ↓vmK, ↓trK, ↓reduceIte, Nat.zero_add, iC]
 refine swn_succ (by kernel_rfl) _ ?_
 simp only [go_sem, ↓vmP2, ↓vmD, ↓vmK, ↓trK, ↓reduceIte, Nat.zero_add, trK]
 exact c.ok (n := 5) (by unfold rdD29; rw [if_neg (by omega)]; (try simp only [ge_iff_le]); rfl)
end Go.Proofs.Ytahepinbmcgbnaa.Vm
