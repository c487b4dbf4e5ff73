/- Contracts of package cisc's reader: instructions that make flags, or ask them. No condition. -/
import Derived.Test.YtahepinbmcgbnaaVc4
set_option maxRecDepth 100000
set_option linter.unusedVariables false
set_option linter.unusedSimpArgs false
namespace Go.Proofs.Ytahepinbmcgbnaa.Vm
open Go.RowKit Go.Proofs.Ytahepinbmcgbnaa.PV Go.Proofs.Ytahepinbmcgbnaa.Wd Go.Proofs.YtahepinbmcgbnaaW.PrintWords
attribute [local go_sem] opR moveR pickR allocR boxR ld1R ldgR ldR loadR st2R st1R storeR nilR faR fieldAddrR fdR fieldR ixR indexAddrR extR extractR intR shR isSh eqR bin2R sEqR intsOf binR unR convR miR panR fillP partsR bld2R bld1R buildR bldAR build2R ix1R indexR mxR mmR bs2R bs1R buildSliceR pvOf okT no1T noT taR mfR ptrsR ms1R makeSliceR bnd sl1R so1R sliceR argsR ca1R callR lenR ap2R srcR ap1R appendR lenA appA calR ev cst lk rm pt ins rmO ent gval cellsOf scell TI.agg Sh.agg re1 res1 resR is1 vmQ vmH vmE bin3R index2R strIxR ifR nnR stR oneP oneW opP vmQ2 tA0 tA1 tA2 tA3 tA4 tA5 tA6 tA7 tA8 tA9 tA10 tA11 tA12 tA13 tA14 tA15 oA0 oA1 oA2 oA3 oA4 oA5 oA6 oA7 oA8 oA9 oA10 oA11 oA12 oA13 oA14 reduceCtorEq Nat.reduceEqDiff Nat.reduceAdd Nat.reduceLeDiff Nat.reduceLT Nat.reduceMul Nat.reducePow Nat.reduceSub Int.reduceBEq Int.reduceBNe ne_eq Int.reduceEq not_false_eq_true Bool.false_eq_true Nat.reduceBEq List.getElem?_cons_zero List.getElem?_cons_succ List.map_cons List.map_nil List.length_cons List.length_nil List.drop_succ_cons List.drop_zero List.take_succ_cons List.take_zero List.take_nil List.drop_nil List.append_nil List.nil_append List.cons_append List.set_cons_zero List.set_cons_succ List.all_cons List.all_nil Bool.and_true Bool.and_self cond_true cond_false Option.map_some Option.map_none and_self true_and and_true List.append_eq
def numV (l : List Int) (p n : Nat) : Int := sgR n (leR l p n)
def flD (l : List Int) (o : Int) : DR :=
 if o = 15 then if l.length < 3 then .short else .ok 3 (false || !sd (l.getD 2 0)) (iC o (l.getD 1 0 / 16) (l.getD 1 0 % 16) 0 0 (l.getD 2 0) 0 0 0)
 else if o = 16 then if l.length < 3 then .short else .ok 3 (false || !decide (Wi (l.getD 2 0) > 0)) (iC o (l.getD 1 0 / 16) (l.getD 1 0 % 16) 0 (l.getD 2 0) 0 0 0 0)
 else if o = 18 then if l.length < 3 then .short else .ok 3 ((false || !(l.getD 1 0 % 16 == 0)) || !sd (l.getD 2 0)) (iC o (l.getD 1 0 / 16) (l.getD 1 0 % 16) 0 0 (l.getD 2 0) 0 0 0)
 else if o = 17 then if l.length < 2 then .short else if 1 < l.getD 1 0 % 16 then .form else if l.length < 3 + bytesF (l.getD 1 0 % 16) then .short else
  .ok (3 + bytesF (l.getD 1 0 % 16)) (((false || !decide (Wi (l.getD 2 0) > 0)) || !wh (l.getD 2 0)) || !inR (numV l 3 (bytesF (l.getD 1 0 % 16))) (sizedF (l.getD 1 0 % 16) (heldF (l.getD 2 0)).1 (heldF (l.getD 2 0)).2)) (iC o (l.getD 1 0 / 16) 0 0 (l.getD 2 0) 0 0 (numV l 3 (bytesF (l.getD 1 0 % 16))) 0)
 else if l.length < 2 then .short else if 1 < l.getD 1 0 % 16 then .form else if l.length < 2 + bytesF (l.getD 1 0 % 16) then .short else
  .ok (2 + bytesF (l.getD 1 0 % 16)) ((false || !sd (11 + l.getD 1 0 / 16)) || !inR (numV l 2 (bytesF (l.getD 1 0 % 16))) (sizedF (l.getD 1 0 % 16) (-2147483648) 2147483647)) (iC o 0 0 0 0 (11 + l.getD 1 0 / 16) 0 (numV l 2 (bytesF (l.getD 1 0 % 16))) 0)
theorem bytesF_le (n : Int) : bytesF n ≤ 8 := by unfold bytesF; split; omega; split <;> omega
theorem bytesF_ge (n : Int) : 1 ≤ bytesF n := by unfold bytesF; split; omega; split <;> omega
theorem sizedF_le (n lo hi : Int) : (sizedF n lo hi).length ≤ maxLen := by unfold sizedF; split; simp [maxLen]; split <;> simp [maxLen]
set_option maxRecDepth 100000 in
theorem flags_wc (l : List Int) (o : Int) (K : Out → Hp → Prop) (hm : BY l) (hle : 1 ≤ l.length) (ho : o = 15 ∨ o = 16 ∨ o = 18 ∨ o = 17 ∨ o = 22)
  (c : DRK l (flD l o) K fun f n bad => K (.ret (.t [])) [rdr l.length n bad, .ro (byC l), .rw f]) :
  WC Try.prog 123 [.s (.p 0 0), .s (.p 2 0)] [rdr l.length 1 false, .ro (byC l), .rw (iC o 0 0 0 0 0 0 0 0)] K := by
 have cut : ∀ n, l.length < n → flD l o = .short → ∀ h, K (.pan (E 41)) h := fun n _ e h => by rw [e] at c; exact c h
 have cutF : flD l o = .form → ∀ h, K (.pan (E 40)) h := fun e h => by rw [e] at c; exact c h
 rcases ho with rfl | rfl | rfl | rfl | rfl
 ·refine wc_intro Try.func123 rfl rfl (by kernel_rfl) (by simp [Try.f123]) ?_
  simp only [go_sem, ↓vmP2, ↓vmD, ↓vmK, ↓trK, ↓reduceIte, Try.f123, iC]
  refine ab_wc l 1 false 15 0 0 0 0 0 0 0 0 _ _ hm hle (fun q h => ?_) (fun q => ?_)
  ·simp only [go_sem, ↓vmP2, ↓vmD, ↓vmK, ↓trK, ↓reduceIte]
   exact cut 3 (by omega) (by simp [flD]; omega) h
  ·simp only [go_sem, ↓vmP2, ↓vmD, ↓vmK, ↓trK, ↓reduceIte]
   refine sub_wc l 2 false 15 _ _ 0 0 0 0 0 0 _ _ hm (by omega) (fun q h => ?_) (fun q2 => ?_)
   ·simp only [go_sem, ↓vmP2, ↓vmD, ↓vmK, ↓trK, ↓reduceIte]
    exact cut 3 (by omega) (by simp [flD]; omega) h
   ·simp only [go_sem, ↓vmP2, ↓vmD, ↓vmK, ↓trK, ↓reduceIte, iC]
    refine said_wc _ _ _ ?_
    simp only [go_sem, ↓vmP2, ↓vmD, ↓vmK, ↓trK, ↓reduceIte]
    refine must_wc _ _ _ _ _ _ ?_
    unfold flD at c
    rw [if_pos rfl, if_neg (by omega)] at c
    simp only [gd l 1 q, gd l 2 q2] at c
    simp only [go_sem, ↓vmP2, ↓vmD, ↓vmK, ↓trK, ↓reduceIte]
    exact c
 ·refine wc_intro Try.func123 rfl rfl (by kernel_rfl) (by simp [Try.f123]) ?_
  simp only [go_sem, ↓vmP2, ↓vmD, ↓vmK, ↓trK, ↓reduceIte, Try.f123, iC]
  refine ab_wc l 1 false _ 0 0 0 0 0 0 0 0 _ _ hm hle (fun q h => ?_) (fun q => ?_)
  ·simp only [go_sem, ↓vmP2, ↓vmD, ↓vmK, ↓trK, ↓reduceIte]
   exact cut 3 (by omega) (by simp [flD]; omega) h
  ·simp only [go_sem, ↓vmP2, ↓vmD, ↓vmK, ↓trK, ↓reduceIte]
   refine kind_wc l 2 false _ _ _ 0 0 0 0 0 0 _ _ hm (by omega) (fun q h => ?_) (fun q2 => ?_)
   ·simp only [go_sem, ↓vmP2, ↓vmD, ↓vmK, ↓trK, ↓reduceIte]
    exact cut 3 (by omega) (by simp [flD]; omega) h
   ·unfold flD at c
    rw [if_neg (by omega), if_pos rfl, if_neg (by omega)] at c
    simp only [gd l 1 q, gd l 2 q2] at c
    simp only [go_sem, ↓vmP2, ↓vmD, ↓vmK, ↓trK, ↓reduceIte, iC]
    exact c
 ·refine wc_intro Try.func123 rfl rfl (by kernel_rfl) (by simp [Try.f123]) ?_
  simp only [go_sem, ↓vmP2, ↓vmD, ↓vmK, ↓trK, ↓reduceIte, Try.f123, iC]
  refine single_wc l 1 false _ 0 0 0 0 0 0 0 0 _ _ hm hle (fun q h => ?_) (fun q => ?_)
  ·simp only [go_sem, ↓vmP2, ↓vmD, ↓vmK, ↓trK, ↓reduceIte]
   exact cut 3 (by omega) (by simp [flD]; omega) h
  ·simp only [go_sem, ↓vmP2, ↓vmD, ↓vmK, ↓trK, ↓reduceIte]
   refine sub_wc l 2 _ _ _ _ 0 0 0 0 0 0 _ _ hm (by omega) (fun q h => ?_) (fun q2 => ?_)
   ·simp only [go_sem, ↓vmP2, ↓vmD, ↓vmK, ↓trK, ↓reduceIte]
    exact cut 3 (by omega) (by simp [flD]; omega) h
   ·simp only [go_sem, ↓vmP2, ↓vmD, ↓vmK, ↓trK, ↓reduceIte, iC]
    refine said_wc _ _ _ ?_
    simp only [go_sem, ↓vmP2, ↓vmD, ↓vmK, ↓trK, ↓reduceIte]
    refine must_wc _ _ _ _ _ _ ?_
    unfold flD at c
    rw [if_neg (by omega), if_neg (by omega), if_pos rfl, if_neg (by omega)] at c
    simp only [gd l 1 q, gd l 2 q2] at c
    simp only [go_sem, ↓vmP2, ↓vmD, ↓vmK, ↓trK, ↓reduceIte]
    exact c
 ·refine wc_trunc 3 (by simp) ?_
  refine wc_intro Try.func123 rfl rfl (by kernel_rfl) (by simp [Try.f123]) ?_
  simp only [go_sem, ↓vmP2, ↓vmD, ↓vmK, ↓trK, ↓reduceIte, Try.f123, iC]
  refine an_wc l 1 false _ 0 0 0 0 0 0 0 0 _ _ hm hle (fun q h => ?_) 1 (fun q r h => ?_) (fun q r => ?_)
  ·simp only [go_sem, ↓vmP2, ↓vmD, ↓vmK, ↓trK, ↓reduceIte]
   exact cut 3 (by omega) (by simp [flD]; omega) h
  ·simp only [go_sem, ↓vmP2, ↓vmD, ↓vmK, ↓trK, ↓reduceIte]
   exact cutF (by unfold flD; rw [if_neg (by omega), if_neg (by omega), if_neg (by omega), if_pos rfl, if_neg (by omega), gd l 1 q, if_pos r]) h
  ·have hb := hm.2 1 q
   have hn : l[1] % 16 = 0 ∨ l[1] % 16 = 1 ∨ l[1] % 16 = 2 := by omega
   have hge := bytesF_ge (l[1] % 16)
   have hsh : l.length < 3 + bytesF (l[1] % 16) → flD l 17 = .short := fun w => by
    unfold flD
    rw [if_neg (by omega), if_neg (by omega), if_neg (by omega), if_pos rfl, if_neg (by omega), gd l 1 q, if_neg (by omega), if_pos w]
   simp only [go_sem, ↓vmP2, ↓vmD, ↓vmK, ↓trK, ↓reduceIte]
   refine kind_wc l 2 false _ _ _ 0 0 0 0 0 0 _ _ hm (by omega) (fun q h => ?_) (fun q2 => ?_)
   ·simp only [go_sem, ↓vmP2, ↓vmD, ↓vmK, ↓trK, ↓reduceIte]
    exact cut 3 (by omega) (hsh (by omega)) h
   ·simp only [go_sem, ↓vmP2, ↓vmD, ↓vmK, ↓trK, ↓reduceIte, iC]
    refine whole_wc _ _ _ ?_
    simp only [go_sem, ↓vmP2, ↓vmD, ↓vmK, ↓trK, ↓reduceIte]
    refine must_wc _ _ _ _ _ _ ?_
    simp only [go_sem, ↓vmP2, ↓vmD, ↓vmK, ↓trK, ↓reduceIte]
    refine sw_draw (.take 0 (.take 1 (.take 2 (.take 4 (.take 5 (.take 6 (.take 7 (.all [(3, .all [(8, .all [(9, .all [(10, .all [(11, .take 12 (.take 13 (.all [(14, .done)])))])])])]), (8, .all [(3, .all [(9, .all [(10, .all [(11, .take 12 (.take 13 (.all [(14, .done)])))])])])])])))))))) mo (by kernel_rfl) (by kernel_rfl) (by kernel_rfl) (fun _ _ _ h => h) ?_
    simp only [go_sem, ↓vmP2, ↓vmD, ↓vmK, ↓trK, ↓reduceIte]
    refine ⟨?_, ?_⟩
    all_goals
     refine bytes_wc _ hn _ _ ?_
     simp only [go_sem, ↓vmP2, ↓vmD, ↓vmK, ↓trK, ↓reduceIte]
     refine held_wc _ _ _ ?_
     simp only [go_sem, ↓vmP2, ↓vmD, ↓vmK, ↓trK, ↓reduceIte]
     refine sized_at _ _ _ _ _ hn ?_
     simp only [go_sem, ↓vmP2, ↓vmD, ↓vmK, ↓trK, ↓reduceIte]
     refine number_at l 3 _ _ _ hm (by omega) rfl rfl 4 (bytesF (l[1] % 16)) _ _ _ rfl rfl rfl (by omega) (bytesF_le _) (sizedF_le _ _ _) (fun q h => ?_) (fun q3 => ?_)
     ·simp only [go_sem, ↓vmP2, ↓vmD, ↓vmK, ↓trK, ↓reduceIte]
      exact cut _ q (hsh q) h
     ·unfold flD at c
      rw [if_neg (by omega), if_neg (by omega), if_neg (by omega), if_pos rfl, if_neg (by omega), gd l 1 q, if_neg (by omega), if_neg (by omega)] at c
      simp only [gd l 2 q2] at c
      simp only [go_sem, ↓vmP2, ↓vmD, ↓vmK, ↓trK, ↓reduceIte, iC, idV, idS, idB, idB_by, rdr, decide_true]
      exact c
 ·refine wc_trunc 3 (by simp) ?_
  refine wc_intro Try.func123 rfl rfl (by kernel_rfl) (by simp [Try.f123]) ?_
  simp only [go_sem, ↓vmP2, ↓vmD, ↓vmK, ↓trK, ↓reduceIte, Try.f123, iC]
  refine byte_wc l 1 false _ _ hm hle (fun q => ?_) (fun q => ?_)
  ·simp only [go_sem, ↓vmP2, ↓vmD, ↓vmK, ↓trK, ↓reduceIte]
   exact cut 2 (by omega) (by simp [flD]; omega) _
  ·have hb := hm.2 1 q
   have hs : IntKind.i64.wrap ((11 : Int) + l[1] / 16) = (11 : Int) + l[1] / 16 := wrap_id _ (by omega) (by unfold maxLen; omega)
   simp only [go_sem, ↓vmP2, ↓vmD, ↓vmK, ↓trK, ↓reduceIte, iC, hi_id _ hb, lo_id _ hb, hs]
   refine size_wc _ _ _ _ (fun r => ?_) (fun r => ?_)
   ·simp only [go_sem, ↓vmP2, ↓vmD, ↓vmK, ↓trK, ↓reduceIte]
    exact cutF (by unfold flD; rw [if_neg (by omega), if_neg (by omega), if_neg (by omega), if_neg (by omega), if_neg (by omega), gd l 1 q, if_pos r]) _
   ·have hn : l[1] % 16 = 0 ∨ l[1] % 16 = 1 ∨ l[1] % 16 = 2 := by omega
    have hge := bytesF_ge (l[1] % 16)
    have hsh : l.length < 2 + bytesF (l[1] % 16) → flD l 22 = .short := fun w => by
     unfold flD
     rw [if_neg (by omega), if_neg (by omega), if_neg (by omega), if_neg (by omega), if_neg (by omega), gd l 1 q, if_neg (by omega), if_pos w]
    simp only [go_sem, ↓vmP2, ↓vmD, ↓vmK, ↓trK, ↓reduceIte]
    refine said_wc _ _ _ ?_
    simp only [go_sem, ↓vmP2, ↓vmD, ↓vmK, ↓trK, ↓reduceIte]
    refine must_wc _ _ _ _ _ _ ?_
    simp only [go_sem, ↓vmP2, ↓vmD, ↓vmK, ↓trK, ↓reduceIte, hs]
    refine bytes_wc _ hn _ _ ?_
    simp only [go_sem, ↓vmP2, ↓vmD, ↓vmK, ↓trK, ↓reduceIte]
    refine held_wc _ _ _ ?_
    simp only [go_sem, ↓vmP2, ↓vmD, ↓vmK, ↓trK, ↓reduceIte]
    refine sized_at _ _ _ _ _ hn ?_
    simp only [go_sem, ↓vmP2, ↓vmD, ↓vmK, ↓trK, ↓reduceIte]
    refine number_at l 2 _ _ _ hm (by omega) rfl rfl 4 (bytesF (l[1] % 16)) _ _ _ rfl rfl rfl (by omega) (bytesF_le _) (sizedF_le _ _ _) (fun q h => ?_) (fun q3 => ?_)
    ·simp only [go_sem, ↓vmP2, ↓vmD, ↓vmK, ↓trK, ↓reduceIte]
     exact cut _ q (hsh q) h
    ·unfold flD at c
     rw [if_neg (by omega), if_neg (by omega), if_neg (by omega), if_neg (by omega), if_neg (by omega), gd l 1 q, if_neg (by omega), if_neg (by omega)] at c
     simp only [go_sem, ↓vmP2, ↓vmD, ↓vmK, ↓trK, ↓reduceIte, iC, idV, idS, idB, idB_by, rdr, decide_true]
     exact c
end Go.Proofs.Ytahepinbmcgbnaa.Vm
