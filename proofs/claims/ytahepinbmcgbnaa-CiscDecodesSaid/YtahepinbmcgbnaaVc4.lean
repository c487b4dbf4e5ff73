/- Contracts of package cisc's reader: numbers and sized spans wherever they stand; instructions that look into memory. No condition. -/
import Derived.Test.YtahepinbmcgbnaaVc3
set_option maxRecDepth 100000
set_option linter.unusedVariables false
set_option linter.unusedSimpArgs false
namespace Go.Proofs.Ytahepinbmcgbnaa.Vm
open Go.RowKit Go.Proofs.Ytahepinbmcgbnaa.PV Go.Proofs.Ytahepinbmcgbnaa.Wd Go.Proofs.YtahepinbmcgbnaaW.PrintWords
attribute [local go_sem] opR moveR pickR allocR boxR ld1R ldgR ldR loadR st2R st1R storeR nilR faR fieldAddrR fdR fieldR ixR indexAddrR extR extractR intR shR isSh eqR bin2R sEqR intsOf binR unR convR miR panR fillP partsR bld2R bld1R buildR bldAR build2R ix1R indexR mxR mmR bs2R bs1R buildSliceR pvOf okT no1T noT taR mfR ptrsR ms1R makeSliceR bnd sl1R so1R sliceR argsR ca1R callR lenR ap2R srcR ap1R appendR lenA appA calR ev cst lk rm pt ins rmO ent gval cellsOf scell TI.agg Sh.agg re1 res1 resR is1 vmQ vmH vmE bin3R index2R strIxR ifR nnR stR oneP oneW opP vmQ2 tA0 tA1 tA2 tA3 tA4 tA5 tA6 tA7 tA8 tA9 tA10 tA11 tA12 tA13 tA14 tA15 oA0 oA1 oA2 oA3 oA4 oA5 oA6 oA7 oA8 oA9 oA10 oA11 oA12 oA13 oA14 reduceCtorEq Nat.reduceEqDiff Nat.reduceAdd Nat.reduceLeDiff Nat.reduceLT Nat.reduceMul Nat.reducePow Nat.reduceSub Int.reduceBEq Int.reduceBNe ne_eq Int.reduceEq not_false_eq_true Bool.false_eq_true Nat.reduceBEq List.getElem?_cons_zero List.getElem?_cons_succ List.map_cons List.map_nil List.length_cons List.length_nil List.drop_succ_cons List.drop_zero List.take_succ_cons List.take_zero List.take_nil List.drop_nil List.append_nil List.nil_append List.cons_append List.set_cons_zero List.set_cons_succ List.all_cons List.all_nil Bool.and_true Bool.and_self cond_true cond_false Option.map_some Option.map_none and_self true_and and_true List.append_eq
theorem set_same {H : Hp} {j : Nat} {b : Blk} (e : H[j]? = some b) : H.set j b = H := by
 apply List.ext_getElem?
 intro i
 rw [List.getElem?_set]
 split
 ·rename_i q; subst q; rw [if_pos (List.getElem?_eq_some_iff.1 e).1, e]
 ·rfl
theorem rn_by (τ : Nat → Nat) (l : List Int) : (byC l).map (rnS τ) = byC l := by simp [byC, rnS]
theorem rn_sp (τ : Nat → Nat) (L : List (Int × Int)) : (spC L).map (rnS τ) = spC L := by
 induction L with
 | nil => rfl
 | cons p L ih => simpa [spC, rnS] using ih
section
variable (l : List Int) (at_ : Nat) (bad : Bool) (H : Hp) (K : Out → Hp → Prop) (hm : BY l) (hle : at_ ≤ l.length) (g0 : H[0]? = some (rdr l.length at_ bad)) (g1 : H[1]? = some (.ro (byC l)))
include hm hle g0 g1
theorem number_at (js n : Nat) (nI : Int) (L : List (Int × Int)) (m : Nat) (hnI : nI = n) (hmL : m = L.length) (gj : H[js]? = some (.rw (spC L))) (hj : 2 ≤ js) (hn : n ≤ 8) (hL : L.length ≤ maxLen)
  (h1 : l.length < at_ + n → ∀ h, K (.pan (E 41)) h)
  (h2 : at_ + n ≤ l.length → K (.ret (.s (.a (.int .i64 (sgR n (leR l at_ n)))))) (H.set 0 (rdr l.length (at_ + n : Nat) (bad || !inR (sgR n (leR l at_ n)) L)))) :
  WC Try.prog 107 [.s (.p 0 0), .s (.a (.int .i64 nI)), .s (.so js m 2 105)] H K := by
 subst hnI hmL
 have nd : nodup [0, 1, js] = true := by
  simp [nodup]; omega
 refine wc_focus [0, 1, js] nd (hc := [rdr l.length at_ bad, .ro (byC l), .rw (spC L)]) ⟨?_, ?_, ?_, trivial⟩ (args' := [.s (.p 0 0), .s (.a (.int .i64 n)), .s (.so 2 L.length 2 105)]) rfl rfl (number_wc l at_ bad n L _ hm hle hn hL (fun q h => ?_) (fun q => ?_))
 ·rw [g0]; rfl
 ·rw [g1]; simp [rnB, rn_by]
 ·rw [gj]; simp [rnB, rn_sp]
 ·exact h1 q _
 ·have e : mrg [0, 1, js] H [rdr l.length (at_ + n : Nat) (bad || !inR (sgR n (leR l at_ n)) L), .ro (byC l), .rw (spC L)] = H.set 0 (rdr l.length (at_ + n : Nat) (bad || !inR (sgR n (leR l at_ n)) L)) := by
   simp only [mrg, List.length_cons, List.length_nil, Nat.zero_add, Nat.reduceAdd, List.take_succ_cons, List.take_zero, List.take_nil, List.drop_succ_cons, List.drop_zero, List.drop_nil, List.map_cons, List.map_nil, List.append_nil, setAll]
   have a1 : rnB (ix [0, 1, js] H.length) (.ro (byC l)) = .ro (byC l) := by simp [rnB, rn_by]
   have a2 : rnB (ix [0, 1, js] H.length) (.rw (spC L)) = .rw (spC L) := by simp [rnB, rn_sp]
   have a3 : rnB (ix [0, 1, js] H.length) (rdr l.length (at_ + n : Nat) (bad || !inR (sgR n (leR l at_ n)) L)) = rdr l.length (at_ + n : Nat) (bad || !inR (sgR n (leR l at_ n)) L) := rfl
   rw [a1, a2, a3]
   rw [set_same (j := 1), set_same (j := js)]
   ·rw [List.getElem?_set_ne (by omega)]; exact gj
   ·rw [List.getElem?_set_ne (by omega)]; exact g1
  rw [e]
  exact h2 q
theorem four_at (lo : Int) (h1 : l.length < at_ + 4 → ∀ h, K (.pan (E 41)) h)
  (h2 : at_ + 4 ≤ l.length → K (.ret (.s (.a (.int .i64 (sgR 4 (leR l at_ 4)))))) (H.set 0 (rdr l.length (at_ + 4 : Nat) (bad || !inR (sgR 4 (leR l at_ 4)) [(lo, 2147483647)])))) :
  WC Try.prog 118 [.s (.p 0 0), .s (.a (.int .i64 lo))] H K := by
 refine wc_focus [0, 1] rfl (hc := [rdr l.length at_ bad, .ro (byC l)]) ⟨?_, ?_, trivial⟩ (args' := [.s (.p 0 0), .s (.a (.int .i64 lo))]) rfl rfl (four_wc l at_ bad lo _ hm hle (fun q h => ?_) (fun q => ?_))
 ·rw [g0]; rfl
 ·rw [g1]; simp [rnB, rn_by]
 ·exact h1 q _
 ·have e : mrg [0, 1] H [rdr l.length (at_ + 4 : Nat) (bad || !inR (sgR 4 (leR l at_ 4)) [(lo, 2147483647)]), .ro (byC l)] = H.set 0 (rdr l.length (at_ + 4 : Nat) (bad || !inR (sgR 4 (leR l at_ 4)) [(lo, 2147483647)])) := by
   simp only [mrg, List.length_cons, List.length_nil, Nat.zero_add, Nat.reduceAdd, List.take_succ_cons, List.take_zero, List.take_nil, List.drop_succ_cons, List.drop_zero, List.drop_nil, List.map_cons, List.map_nil, List.append_nil, setAll]
   have a1 : rnB (ix [0, 1] H.length) (.ro (byC l)) = .ro (byC l) := by simp [rnB, rn_by]
   have a3 : rnB (ix [0, 1] H.length) (rdr l.length (at_ + 4 : Nat) (bad || !inR (sgR 4 (leR l at_ 4)) [(lo, 2147483647)])) = rdr l.length (at_ + 4 : Nat) (bad || !inR (sgR 4 (leR l at_ 4)) [(lo, 2147483647)]) := rfl
   rw [a1, a3]
   rw [set_same (j := 1)]
   rw [List.getElem?_set_ne (by omega)]; exact g1
  rw [e]
  exact h2 q
end
/-- The spans of a size, wherever they come to lie. -/
theorem sized_at (H : Hp) (K : Out → Hp → Prop) (n lo hi : Int) (hn : n = 0 ∨ n = 1 ∨ n = 2)
  (c : K (.ret (.s (.so (H.length + 1) (sizedF n lo hi).length 2 105))) (H ++ [.rw [.a (.int .i64 lo), .a (.int .i64 hi)], .rw (spC (sizedF n lo hi))])) :
  WC Try.prog 108 [.s (.a (.int .i64 n)), .g [.a (.int .i64 lo), .a (.int .i64 hi)]] H K := by
 refine wc_focus [] rfl (hc := []) trivial (args' := [.s (.a (.int .i64 n)), .g [.a (.int .i64 lo), .a (.int .i64 hi)]]) rfl rfl (sized_wc n lo hi hn _ ?_)
 have e : mrg [] H [.rw [.a (.int .i64 lo), .a (.int .i64 hi)], .rw (spC (sizedF n lo hi))] = H ++ [.rw [.a (.int .i64 lo), .a (.int .i64 hi)], .rw (spC (sizedF n lo hi))] := by
  simp [mrg, setAll, rnB, rn_sp, rnS]
 rw [e]
 exact c
/-- What has been read: an instruction that is none for want of bytes, by a size; one that may be. -/
inductive DR where
 | short
 | form
 | ok (n : Nat) (bad : Bool) (f : List SV)
def DRK (l : List Int) (d : DR) (K : Out → Hp → Prop) (R : List SV → Nat → Bool → Prop) : Prop := match d with
 | .short => ∀ h, K (.pan (E 41)) h
 | .form => ∀ h, K (.pan (E 40)) h
 | .ok n bad f => R f n bad
def num4 (l : List Int) (p : Nat) : Int := sgR 4 (leR l p 4)
def small (y : Int) : Bool := inR y [(-2147483648, 2147483647)]
def memD (l : List Int) (o : Int) : DR :=
 if o = 10 then if l.length < 7 then .short else
  if l.getD 2 0 = 15 then .ok 7 (false || !small (num4 l 3)) (iC o (l.getD 1 0 / 16) (l.getD 1 0 % 16) 0 0 0 0 (num4 l 3) 0)
  else .ok 7 ((false || !decide (l.getD 2 0 % 16 ≤ 3)) || !small (num4 l 3)) (iC o (l.getD 1 0 / 16) (l.getD 1 0 % 16) (l.getD 2 0 / 16) 0 0 (2 ^ (l.getD 2 0 % 16).toNat) (num4 l 3) 0)
 else if o = 11 ∨ o = 13 then if l.length < 7 then .short else
  .ok 7 ((false || !decide (Wi (l.getD 2 0) > 0)) || !small (num4 l 3)) (iC o (l.getD 1 0 / 16) (l.getD 1 0 % 16) 0 (l.getD 2 0) 0 0 (num4 l 3) 0)
 else if l.length < 8 then .short else
  if l.getD 2 0 = 15 then .ok 8 (((false || !((0 : Int) != 0)) || !decide (Wi (l.getD 3 0) > 0)) || !small (num4 l 4)) (iC o (l.getD 1 0 / 16) (l.getD 1 0 % 16) 0 (l.getD 3 0) 0 0 (num4 l 4) 0)
  else .ok 8 ((((false || !decide (l.getD 2 0 % 16 ≤ 3)) || !((2 : Int) ^ (l.getD 2 0 % 16).toNat != 0)) || !decide (Wi (l.getD 3 0) > 0)) || !small (num4 l 4)) (iC o (l.getD 1 0 / 16) (l.getD 1 0 % 16) (l.getD 2 0 / 16) (l.getD 3 0) 0 (2 ^ (l.getD 2 0 % 16).toNat) (num4 l 4) 0)
theorem gd (l : List Int) (k : Nat) (q : k < l.length) : l.getD k 0 = l[k] := by simp [q]
set_option maxRecDepth 100000 in
theorem memory_wc (l : List Int) (o : Int) (K : Out → Hp → Prop) (hm : BY l) (hle : 1 ≤ l.length) (ho : o = 10 ∨ o = 11 ∨ o = 13 ∨ o = 12 ∨ o = 14)
  (c : DRK l (memD l o) K fun f n bad => K (.ret (.t [])) [rdr l.length n bad, .ro (byC l), .rw f]) :
  WC Try.prog 122 [.s (.p 0 0), .s (.p 2 0)] [rdr l.length 1 false, .ro (byC l), .rw (iC o 0 0 0 0 0 0 0 0)] K := by
 have cut : ∀ n, l.length < n → memD l o = .short → ∀ h, K (.pan (E 41)) h := fun n _ e h => by rw [e] at c; exact c h
 rcases ho with rfl | rfl | rfl | rfl | rfl
 ·refine wc_intro Try.func122 rfl rfl (by kernel_rfl) (by simp [Try.f122]) ?_
  simp only [go_sem, ↓vmP2, ↓vmD, ↓vmK, ↓trK, ↓reduceIte, Try.f122, iC]
  refine ab_wc l 1 false 10 0 0 0 0 0 0 0 0 _ _ hm hle (fun q h => ?_) (fun q => ?_)
  ·simp only [go_sem, ↓vmP2, ↓vmD, ↓vmK, ↓trK, ↓reduceIte]
   exact cut 7 (by omega) (by simp [memD]; omega) h
  ·simp only [go_sem, ↓vmP2, ↓vmD, ↓vmK, ↓trK, ↓reduceIte]
   refine cs_wc l 2 false 10 _ _ 0 0 0 0 0 0 _ _ hm (by omega) (fun q h => ?_) (fun q2 r => ?_) (fun q2 r => ?_)
   ·simp only [go_sem, ↓vmP2, ↓vmD, ↓vmK, ↓trK, ↓reduceIte]
    exact cut 7 (by omega) (by simp [memD]; omega) h
   all_goals
    simp only [go_sem, ↓vmP2, ↓vmD, ↓vmK, ↓trK, ↓reduceIte]
    refine four_at l 3 _ _ _ hm (by omega) rfl rfl _ (fun q h => ?_) (fun q3 => ?_)
    ·simp only [go_sem, ↓vmP2, ↓vmD, ↓vmK, ↓trK, ↓reduceIte]
     exact cut 7 (by omega) (by simp [memD]; omega) h
    ·unfold memD at c
     rw [if_pos rfl, if_neg (by omega)] at c
     simp only [gd l 1 q, gd l 2 q2, r, if_true, if_false] at c
     simp only [go_sem, ↓vmP2, ↓vmD, ↓vmK, ↓trK, ↓reduceIte, iC]
     exact c
 iterate 2
  ·refine wc_intro Try.func122 rfl rfl (by kernel_rfl) (by simp [Try.f122]) ?_
   simp only [go_sem, ↓vmP2, ↓vmD, ↓vmK, ↓trK, ↓reduceIte, Try.f122, iC]
   refine ab_wc l 1 false _ 0 0 0 0 0 0 0 0 _ _ hm hle (fun q h => ?_) (fun q => ?_)
   ·simp only [go_sem, ↓vmP2, ↓vmD, ↓vmK, ↓trK, ↓reduceIte]
    exact cut 7 (by omega) (by simp [memD]; omega) h
   ·simp only [go_sem, ↓vmP2, ↓vmD, ↓vmK, ↓trK, ↓reduceIte]
    refine kind_wc l 2 false _ _ _ 0 0 0 0 0 0 _ _ hm (by omega) (fun q h => ?_) (fun q2 => ?_)
    ·simp only [go_sem, ↓vmP2, ↓vmD, ↓vmK, ↓trK, ↓reduceIte]
     exact cut 7 (by omega) (by simp [memD]; omega) h
    ·simp only [go_sem, ↓vmP2, ↓vmD, ↓vmK, ↓trK, ↓reduceIte]
     refine four_at l 3 _ _ _ hm (by omega) rfl rfl _ (fun q h => ?_) (fun q3 => ?_)
     ·simp only [go_sem, ↓vmP2, ↓vmD, ↓vmK, ↓trK, ↓reduceIte]
      exact cut 7 (by omega) (by simp [memD]; omega) h
     ·unfold memD at c
      rw [if_neg (by omega), if_pos (by omega), if_neg (by omega)] at c
      simp only [gd l 1 q, gd l 2 q2] at c
      simp only [go_sem, ↓vmP2, ↓vmD, ↓vmK, ↓trK, ↓reduceIte, iC]
      exact c
 all_goals
  refine wc_intro Try.func122 rfl rfl (by kernel_rfl) (by simp [Try.f122]) ?_
  simp only [go_sem, ↓vmP2, ↓vmD, ↓vmK, ↓trK, ↓reduceIte, Try.f122, iC]
  refine ab_wc l 1 false _ 0 0 0 0 0 0 0 0 _ _ hm hle (fun q h => ?_) (fun q => ?_)
  ·simp only [go_sem, ↓vmP2, ↓vmD, ↓vmK, ↓trK, ↓reduceIte]
   exact cut 8 (by omega) (by simp [memD]; omega) h
  ·simp only [go_sem, ↓vmP2, ↓vmD, ↓vmK, ↓trK, ↓reduceIte]
   refine cs_wc l 2 false _ _ _ 0 0 0 0 0 0 _ _ hm (by omega) (fun q h => ?_) (fun q2 r => ?_) (fun q2 r => ?_)
   ·simp only [go_sem, ↓vmP2, ↓vmD, ↓vmK, ↓trK, ↓reduceIte]
    exact cut 8 (by omega) (by simp [memD]; omega) h
   all_goals
    simp only [go_sem, ↓vmP2, ↓vmD, ↓vmK, ↓trK, ↓reduceIte, iC]
    refine must_wc _ _ _ _ _ _ ?_
    simp only [go_sem, ↓vmP2, ↓vmD, ↓vmK, ↓trK, ↓reduceIte]
    refine kind_wc l 3 _ _ _ _ _ _ _ _ _ _ _ _ hm (by omega) (fun q h => ?_) (fun q3 => ?_)
    ·simp only [go_sem, ↓vmP2, ↓vmD, ↓vmK, ↓trK, ↓reduceIte]
     exact cut 8 (by omega) (by simp [memD]; omega) h
    ·simp only [go_sem, ↓vmP2, ↓vmD, ↓vmK, ↓trK, ↓reduceIte]
     refine four_at l 4 _ _ _ hm (by omega) rfl rfl _ (fun q h => ?_) (fun q4 => ?_)
     ·simp only [go_sem, ↓vmP2, ↓vmD, ↓vmK, ↓trK, ↓reduceIte]
      exact cut 8 (by omega) (by simp [memD]; omega) h
     ·unfold memD at c
      rw [if_neg (by omega), if_neg (by omega), if_neg (by omega)] at c
      simp only [gd l 1 q, gd l 2 q2, gd l 3 q3, r, if_true, if_false] at c
      simp only [go_sem, ↓vmP2, ↓vmD, ↓vmK, ↓trK, ↓reduceIte, iC]
      exact c
end Go.Proofs.Ytahepinbmcgbnaa.Vm
