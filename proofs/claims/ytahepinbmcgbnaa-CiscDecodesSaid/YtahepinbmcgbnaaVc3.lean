/- Contracts of package cisc's reader: what takes a field of an instruction. No condition. -/
import Derived.Test.YtahepinbmcgbnaaVc2
set_option maxRecDepth 100000
set_option linter.unusedVariables false
set_option linter.unusedSimpArgs false
namespace Go.Proofs.Ytahepinbmcgbnaa.Vm
open Go.RowKit Go.Proofs.Ytahepinbmcgbnaa.PV Go.Proofs.Ytahepinbmcgbnaa.Wd Go.Proofs.YtahepinbmcgbnaaW.PrintWords
attribute [local go_sem] opR moveR pickR allocR boxR ld1R ldgR ldR loadR st2R st1R storeR nilR faR fieldAddrR fdR fieldR ixR indexAddrR extR extractR intR shR isSh eqR bin2R sEqR intsOf binR unR convR miR panR fillP partsR bld2R bld1R buildR bldAR build2R ix1R indexR mxR mmR bs2R bs1R buildSliceR pvOf okT no1T noT taR mfR ptrsR ms1R makeSliceR bnd sl1R so1R sliceR argsR ca1R callR lenR ap2R srcR ap1R appendR lenA appA calR ev cst lk rm pt ins rmO ent gval cellsOf scell TI.agg Sh.agg re1 res1 resR is1 vmQ vmH vmE bin3R index2R strIxR ifR nnR stR oneP oneW opP vmQ2 tA0 tA1 tA2 tA3 tA4 tA5 tA6 tA7 tA8 tA9 tA10 tA11 tA12 tA13 tA14 tA15 oA0 oA1 oA2 oA3 oA4 oA5 oA6 oA7 oA8 oA9 oA10 oA11 oA12 oA13 oA14 reduceCtorEq Nat.reduceEqDiff Nat.reduceAdd Nat.reduceLeDiff Nat.reduceLT Nat.reduceMul Nat.reducePow Nat.reduceSub Int.reduceBEq Int.reduceBNe ne_eq Int.reduceEq not_false_eq_true Bool.false_eq_true Nat.reduceBEq List.getElem?_cons_zero List.getElem?_cons_succ List.map_cons List.map_nil List.length_cons List.length_nil List.drop_succ_cons List.drop_zero List.take_succ_cons List.take_zero List.take_nil List.drop_nil List.append_nil List.nil_append List.cons_append List.set_cons_zero List.set_cons_succ List.all_cons List.all_nil Bool.and_true Bool.and_self cond_true cond_false Option.map_some Option.map_none and_self true_and and_true List.append_eq
/-- An instruction's cells: Op, A, B, C, K, Sub, Scale, Imm, Label. -/
def iC (o a b c k s z i m : Int) : List SV := [.a (.int .i64 o), .a (.int .i64 a), .a (.int .i64 b), .a (.int .i64 c), .a (.int .i64 k), .a (.int .i64 s), .a (.int .i64 z), .a (.int .i64 i), .a (.int .i64 m)]
theorem hi_id (x : Int) (h : 0 ≤ x ∧ x ≤ 255) : IntKind.i64.wrap (x.tdiv 16) = x / 16 := by
 rw [Int.tdiv_eq_ediv_of_nonneg h.1]; exact wrap_id _ (by omega) (by unfold maxLen; omega)
theorem lo_id (x : Int) (h : 0 ≤ x ∧ x ≤ 255) : x.tmod 16 = x % 16 := Int.tmod_eq_emod_of_nonneg h.1
section
variable (l : List Int) (at_ : Nat) (bad : Bool) (o a b c k s z i m : Int) (bs : List Blk) (K : Out → Hp → Prop) (hm : BY l) (hle : at_ ≤ l.length) (h1 : l.length < at_ + 1 → ∀ h, K (.pan (E 41)) h)
include hm hle h1
theorem ab_wc (h2 : ∀ q : at_ < l.length, K (.ret (.t [])) (rdr l.length (at_ + 1 : Nat) bad :: .ro (byC l) :: .rw (iC o (l[at_] / 16) (l[at_] % 16) c k s z i m) :: bs)) :
  WC Try.prog 109 [.s (.p 0 0), .s (.p 2 0)] (rdr l.length at_ bad :: .ro (byC l) :: .rw (iC o a b c k s z i m) :: bs) K := by
 refine wc_intro Try.func109 rfl rfl (by kernel_rfl) (by simp [Try.f109]) ?_
 simp only [go_sem, ↓vmP2, ↓vmD, ↓vmK, ↓trK, ↓reduceIte, Try.f109]
 refine byte_wc l at_ bad _ _ hm hle (fun q => ?_) (fun q => ?_)
 ·simp only [go_sem, ↓vmP2, ↓vmD, ↓vmK, ↓trK, ↓reduceIte]
  exact h1 (by omega) _
 ·have hb := hm.2 at_ q
  simp only [go_sem, ↓vmP2, ↓vmD, ↓vmK, ↓trK, ↓reduceIte, iC, hi_id _ hb, lo_id _ hb]
  exact h2 q
theorem sub_wc (h2 : ∀ q : at_ < l.length, K (.ret (.t [])) (rdr l.length (at_ + 1 : Nat) bad :: .ro (byC l) :: .rw (iC o a b c k l[at_] z i m) :: bs)) :
  WC Try.prog 111 [.s (.p 0 0), .s (.p 2 0)] (rdr l.length at_ bad :: .ro (byC l) :: .rw (iC o a b c k s z i m) :: bs) K := by
 refine wc_intro Try.func111 rfl rfl (by kernel_rfl) (by simp [Try.f111]) ?_
 simp only [go_sem, ↓vmP2, ↓vmD, ↓vmK, ↓trK, ↓reduceIte, Try.f111]
 refine byte_wc l at_ bad _ _ hm hle (fun q => ?_) (fun q => ?_)
 ·simp only [go_sem, ↓vmP2, ↓vmD, ↓vmK, ↓trK, ↓reduceIte]
  exact h1 (by omega) _
 ·simp only [go_sem, ↓vmP2, ↓vmD, ↓vmK, ↓trK, ↓reduceIte, iC]
  exact h2 q
theorem kind_wc (h2 : ∀ q : at_ < l.length, K (.ret (.t [])) (rdr l.length (at_ + 1 : Nat) (bad || !decide (Wi l[at_] > 0)) :: .ro (byC l) :: .rw (iC o a b c l[at_] s z i m) :: bs)) :
  WC Try.prog 110 [.s (.p 0 0), .s (.p 2 0)] (rdr l.length at_ bad :: .ro (byC l) :: .rw (iC o a b c k s z i m) :: bs) K := by
 refine wc_intro Try.func110 rfl rfl (by kernel_rfl) (by simp [Try.f110]) ?_
 simp only [go_sem, ↓vmP2, ↓vmD, ↓vmK, ↓trK, ↓reduceIte, Try.f110]
 refine byte_wc l at_ bad _ _ hm hle (fun q => ?_) (fun q => ?_)
 ·simp only [go_sem, ↓vmP2, ↓vmD, ↓vmK, ↓trK, ↓reduceIte]
  exact h1 (by omega) _
 ·simp only [go_sem, ↓vmP2, ↓vmD, ↓vmK, ↓trK, ↓reduceIte, iC]
  refine width_wc _ _ _ ?_
  simp only [go_sem, ↓vmP2, ↓vmD, ↓vmK, ↓trK, ↓reduceIte]
  refine must_wc _ _ _ _ _ _ ?_
  simp only [go_sem, ↓vmP2, ↓vmD, ↓vmK, ↓trK, ↓reduceIte]
  exact h2 q
theorem single_wc (h2 : ∀ q : at_ < l.length, K (.ret (.t [])) (rdr l.length (at_ + 1 : Nat) (bad || !(l[at_] % 16 == 0)) :: .ro (byC l) :: .rw (iC o (l[at_] / 16) (l[at_] % 16) c k s z i m) :: bs)) :
  WC Try.prog 119 [.s (.p 0 0), .s (.p 2 0)] (rdr l.length at_ bad :: .ro (byC l) :: .rw (iC o a b c k s z i m) :: bs) K := by
 refine wc_intro Try.func119 rfl rfl (by kernel_rfl) (by simp [Try.f119]) ?_
 simp only [go_sem, ↓vmP2, ↓vmD, ↓vmK, ↓trK, ↓reduceIte, Try.f119]
 refine ab_wc l at_ bad o a b c k s z i m bs _ hm hle (fun q h => ?_) (fun q => ?_)
 ·simp only [go_sem, ↓vmP2, ↓vmD, ↓vmK, ↓trK, ↓reduceIte]
  exact h1 (by omega) _
 ·simp only [go_sem, ↓vmP2, ↓vmD, ↓vmK, ↓trK, ↓reduceIte, iC]
  refine must_wc _ _ _ _ _ _ ?_
  simp only [go_sem, ↓vmP2, ↓vmD, ↓vmK, ↓trK, ↓reduceIte]
  exact h2 q
theorem an_wc (mo_ : Int) (h0 : ∀ q : at_ < l.length, mo_ < l[at_] % 16 → ∀ h, K (.pan (E 40)) h)
  (h2 : ∀ q : at_ < l.length, l[at_] % 16 ≤ mo_ → K (.ret (.s (.a (.int .i64 (l[at_] % 16))))) (rdr l.length (at_ + 1 : Nat) bad :: .ro (byC l) :: .rw (iC o (l[at_] / 16) b c k s z i m) :: bs)) :
  WC Try.prog 106 [.s (.p 0 0), .s (.p 2 0), .s (.a (.int .i64 mo_))] (rdr l.length at_ bad :: .ro (byC l) :: .rw (iC o a b c k s z i m) :: bs) K := by
 refine wc_intro Try.func106 rfl rfl (by kernel_rfl) (by simp [Try.f106]) ?_
 simp only [go_sem, ↓vmP2, ↓vmD, ↓vmK, ↓trK, ↓reduceIte, Try.f106]
 refine byte_wc l at_ bad _ _ hm hle (fun q => ?_) (fun q => ?_)
 ·simp only [go_sem, ↓vmP2, ↓vmD, ↓vmK, ↓trK, ↓reduceIte]
  exact h1 (by omega) _
 ·have hb := hm.2 at_ q
  simp only [go_sem, ↓vmP2, ↓vmD, ↓vmK, ↓trK, ↓reduceIte, iC, hi_id _ hb, lo_id _ hb]
  refine size_wc _ _ _ _ (fun r => ?_) (fun r => ?_)
  ·simp only [go_sem, ↓vmP2, ↓vmD, ↓vmK, ↓trK, ↓reduceIte]
   exact h0 q r _
  ·simp only [go_sem, ↓vmP2, ↓vmD, ↓vmK, ↓trK, ↓reduceIte]
   exact h2 q r
theorem cs_wc (h0 : ∀ q : at_ < l.length, l[at_] = 15 → K (.ret (.t [])) (rdr l.length (at_ + 1 : Nat) bad :: .ro (byC l) :: .rw (iC o a b c k s z i m) :: bs))
  (h2 : ∀ q : at_ < l.length, l[at_] ≠ 15 → K (.ret (.t [])) (rdr l.length (at_ + 1 : Nat) (bad || !decide (l[at_] % 16 ≤ 3)) :: .ro (byC l) :: .rw (iC o a b (l[at_] / 16) k s (2 ^ (l[at_] % 16).toNat) i m) :: bs)) :
  WC Try.prog 130 [.s (.p 0 0), .s (.p 2 0)] (rdr l.length at_ bad :: .ro (byC l) :: .rw (iC o a b c k s z i m) :: bs) K := by
 refine wc_intro Try.func130 rfl rfl (by kernel_rfl) (by simp [Try.f130]) ?_
 simp only [go_sem, ↓vmP2, ↓vmD, ↓vmK, ↓trK, ↓reduceIte, Try.f130]
 refine byte_wc l at_ bad _ _ hm hle (fun q => ?_) (fun q => ?_)
 ·simp only [go_sem, ↓vmP2, ↓vmD, ↓vmK, ↓trK, ↓reduceIte]
  exact h1 (by omega) _
 ·have hb := hm.2 at_ q
  simp only [go_sem, ↓vmP2, ↓vmD, ↓vmK, ↓trK, ↓reduceIte, iC, hi_id _ hb, lo_id _ hb]
  refine cdC_split (fun r => ?_) (fun r => ?_)
  ·simp only [go_sem, ↓vmP2, ↓vmD, ↓vmK, ↓trK, ↓reduceIte]
   exact h0 q (by simpa using r)
  ·simp only [go_sem, ↓vmP2, ↓vmD, ↓vmK, ↓trK, ↓reduceIte]
   refine must_wc _ _ _ _ _ _ ?_
   simp only [go_sem, ↓vmP2, ↓vmD, ↓vmK, ↓trK, ↓reduceIte]
   refine sw_draw (.take 0 (.take 1 (.take 2 (.take 4 (.all [(3, .take 7 (.take 8 (.all [(5, .all [(6, .all [(9, .take 10 (.take 11 (.all [(12, .done)])))]), (9, .all [(6, .take 10 (.take 11 (.all [(12, .done)])))])]), (9, .all [(5, .all [(6, .take 10 (.take 11 (.all [(12, .done)])))])])]))), (5, .all [(3, .take 7 (.take 8 (.all [(6, .all [(9, .take 10 (.take 11 (.all [(12, .done)])))]), (9, .all [(6, .take 10 (.take 11 (.all [(12, .done)])))])]))), (6, .all [(3, .take 7 (.take 8 (.all [(9, .take 10 (.take 11 (.all [(12, .done)])))])))])])]))))) mo (by kernel_rfl) (by kernel_rfl) (by kernel_rfl) (fun _ _ _ h => h) ?_
   have hz : min (l[at_] % 16).toNat 64 = (l[at_] % 16).toNat := by omega
   have hp : IntKind.i64.wrap (1 * 2 ^ (l[at_] % 16).toNat) = 2 ^ (l[at_] % 16).toNat := by
    have h16 : (l[at_] % 16).toNat < 16 := by omega
    generalize (l[at_] % 16).toNat = n at h16
    rcases (by omega : n = 0 ∨ n = 1 ∨ n = 2 ∨ n = 3 ∨ n = 4 ∨ n = 5 ∨ n = 6 ∨ n = 7 ∨ n = 8 ∨ n = 9 ∨ n = 10 ∨ n = 11 ∨ n = 12 ∨ n = 13 ∨ n = 14 ∨ n = 15) with rfl | rfl | rfl | rfl | rfl | rfl | rfl | rfl | rfl | rfl | rfl | rfl | rfl | rfl | rfl | rfl <;> rfl
   have h00 : 0 ≤ l[at_] % 16 := by omega
   simp only [go_sem, ↓vmP2, ↓vmD, ↓vmK, ↓trK, ↓reduceIte, hi_id _ hb, lo_id _ hb, hz, hp, h00]
   exact h2 q (by simpa using r)
end
end Go.Proofs.Ytahepinbmcgbnaa.Vm
