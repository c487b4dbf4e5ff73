/- Contracts of package cisc's reader: what takes a part of an instruction. No condition. -/
import Derived.Test.YtahepinbmcgbnaaVc1
import Derived.Test.YtahepinbmcgbnaaVw
set_option maxRecDepth 100000
set_option linter.unusedVariables false
set_option linter.unusedSimpArgs false
namespace Go.Proofs.Ytahepinbmcgbnaa.Vm
open Go.RowKit Go.Proofs.Ytahepinbmcgbnaa.PV Go.Proofs.Ytahepinbmcgbnaa.Wd Go.Proofs.YtahepinbmcgbnaaW.PrintWords
attribute [local go_sem] opR moveR pickR allocR boxR ld1R ldgR ldR loadR st2R st1R storeR nilR faR fieldAddrR fdR fieldR ixR indexAddrR extR extractR intR shR isSh eqR bin2R sEqR intsOf binR unR convR miR panR fillP partsR bld2R bld1R buildR bldAR build2R ix1R indexR mxR mmR bs2R bs1R buildSliceR pvOf okT no1T noT taR mfR ptrsR ms1R makeSliceR bnd sl1R so1R sliceR argsR ca1R callR lenR ap2R srcR ap1R appendR lenA appA calR ev cst lk rm pt ins rmO ent gval cellsOf scell TI.agg Sh.agg re1 res1 resR is1 vmQ vmH vmE bin3R index2R strIxR ifR nnR stR oneP oneW opP vmQ2 tA0 tA1 tA2 tA3 tA4 tA5 tA6 tA7 tA8 tA9 tA10 tA11 tA12 tA13 tA14 tA15 oA0 oA1 oA2 oA3 oA4 oA5 oA6 oA7 oA8 oA9 oA10 oA11 oA12 oA13 oA14 reduceCtorEq Nat.reduceEqDiff Nat.reduceAdd Nat.reduceLeDiff Nat.reduceLT Nat.reduceMul Nat.reducePow Nat.reduceSub Int.reduceBEq Int.reduceBNe ne_eq Int.reduceEq not_false_eq_true Bool.false_eq_true Nat.reduceBEq List.getElem?_cons_zero List.getElem?_cons_succ List.map_cons List.map_nil List.length_cons List.length_nil List.drop_succ_cons List.drop_zero List.take_succ_cons List.take_zero List.take_nil List.drop_nil List.append_nil List.nil_append List.cons_append List.set_cons_zero List.set_cons_succ List.all_cons List.all_nil Bool.and_true Bool.and_self cond_true cond_false Option.map_some Option.map_none and_self true_and and_true List.append_eq
theorem bin_wc (op k : Int) (h : Hp) (K : Out → Hp → Prop) (c : K (.ret (.s (.a (.bool (has op k))))) h) : WC Try.prog 113 [.s (.a (.int .i64 op)), .s (.a (.int .i64 k))] h K := by
 refine wc_intro (N := 15) Try.func113 rfl rfl (by kernel_rfl) (by simp) ?_
 simp only [go_sem, ↓vmP2, ↓vmD, ↓vmK, ↓trK, ↓reduceIte, Try.f113]
 refine wbin_wc _ _ _ _ (fun v e he => ?_)
 simp only [go_sem, ↓vmP2, ↓vmD, ↓vmK, ↓trK, ↓reduceIte, he]
 exact c
theorem un_wc (op k : Int) (h : Hp) (K : Out → Hp → Prop) (c : K (.ret (.s (.a (.bool (hasU op k))))) h) : WC Try.prog 120 [.s (.a (.int .i64 op)), .s (.a (.int .i64 k))] h K := by
 refine wc_intro (N := 15) Try.func120 rfl rfl (by kernel_rfl) (by simp) ?_
 simp only [go_sem, ↓vmP2, ↓vmD, ↓vmK, ↓trK, ↓reduceIte, Try.f120]
 refine wun_wc _ _ _ _ (fun v e he => ?_)
 simp only [go_sem, ↓vmP2, ↓vmD, ↓vmK, ↓trK, ↓reduceIte, he]
 exact c
theorem whole_wc (k : Int) (h : Hp) (K : Out → Hp → Prop) (c : K (.ret (.s (.a (.bool (wh k))))) h) : WC Try.prog 114 [.s (.a (.int .i64 k))] h K := by
 refine wc_intro (N := 9) Try.func114 rfl rfl (by kernel_rfl) (by simp) ?_
 unfold wh at c
 simp only [go_sem, ↓vmP2, ↓vmD, ↓vmK, ↓trK, ↓reduceIte, Try.f114]
 refine gdC_sp (fun z => ?_) (fun z => ?_)
 ·have z' : decide (2 ≤ k) = true := by simpa using z
  simp only [go_sem, ↓vmP2, ↓vmD, ↓vmK, ↓trK, ↓reduceIte, z]
  rw [z', Bool.true_and] at c
  exact c
 ·have z' : decide (2 ≤ k) = false := by simpa using z
  simp only [go_sem, ↓vmP2, ↓vmD, ↓vmK, ↓trK, ↓reduceIte, z]
  rw [z', Bool.false_and] at c
  exact c
def nm (k : Int) : Bool := wh k || k == 10
theorem number2_wc (k : Int) (h : Hp) (K : Out → Hp → Prop) (c : K (.ret (.s (.a (.bool (nm k))))) h) : WC Try.prog 121 [.s (.a (.int .i64 k))] h K := by
 refine wc_intro Try.func121 rfl rfl (by kernel_rfl) (by simp [Try.f121]) ?_
 unfold nm at c
 simp only [go_sem, ↓vmP2, ↓vmD, ↓vmK, ↓trK, ↓reduceIte, Try.f121]
 refine whole_wc _ _ _ ?_
 cases hw : wh k
 ·rw [hw, Bool.false_or] at c
  simp only [go_sem, ↓vmP2, ↓vmD, ↓vmK, ↓trK, ↓reduceIte]
  exact c
 ·rw [hw, Bool.true_or] at c
  simp only [go_sem, ↓vmP2, ↓vmD, ↓vmK, ↓trK, ↓reduceIte]
  exact c
def sh (op : Int) : Bool := op == 9 || op == 10
def sp (op : Int) : Bool := op == 4 || op == 5
def sd (op : Int) : Bool := decide (11 ≤ op) && decide (op ≤ 16)
theorem shift_wc (k : Int) (h : Hp) (K : Out → Hp → Prop) (c : K (.ret (.s (.a (.bool (sh k))))) h) : WC Try.prog 116 [.s (.a (.int .i64 k))] h K := by
 refine wc_intro Try.func116 rfl rfl (by kernel_rfl) (by simp [Try.f116]) ?_
 unfold sh at c
 simp only [go_sem, ↓vmP2, ↓vmD, ↓vmK, ↓trK, ↓reduceIte, Try.f116]
 cases hw : (k == 9)
 ·rw [hw, Bool.false_or] at c
  simp only [go_sem, ↓vmP2, ↓vmD, ↓vmK, ↓trK, ↓reduceIte]
  exact c
 ·rw [hw, Bool.true_or] at c
  simp only [go_sem, ↓vmP2, ↓vmD, ↓vmK, ↓trK, ↓reduceIte]
  exact c
theorem split_wc (k : Int) (h : Hp) (K : Out → Hp → Prop) (c : K (.ret (.s (.a (.bool (sp k))))) h) : WC Try.prog 115 [.s (.a (.int .i64 k))] h K := by
 refine wc_intro Try.func115 rfl rfl (by kernel_rfl) (by simp [Try.f115]) ?_
 unfold sp at c
 simp only [go_sem, ↓vmP2, ↓vmD, ↓vmK, ↓trK, ↓reduceIte, Try.f115]
 cases hw : (k == 4)
 ·rw [hw, Bool.false_or] at c
  simp only [go_sem, ↓vmP2, ↓vmD, ↓vmK, ↓trK, ↓reduceIte]
  exact c
 ·rw [hw, Bool.true_or] at c
  simp only [go_sem, ↓vmP2, ↓vmD, ↓vmK, ↓trK, ↓reduceIte]
  exact c
theorem said_wc (k : Int) (h : Hp) (K : Out → Hp → Prop) (c : K (.ret (.s (.a (.bool (sd k))))) h) : WC Try.prog 131 [.s (.a (.int .i64 k))] h K := by
 refine wc_intro Try.func131 rfl rfl (by kernel_rfl) (by simp [Try.f131]) ?_
 unfold sd at c
 simp only [go_sem, ↓vmP2, ↓vmD, ↓vmK, ↓trK, ↓reduceIte, Try.f131]
 refine gdC_sp (fun z => ?_) (fun z => ?_)
 ·have z' : decide (11 ≤ k) = true := by simpa using z
  simp only [go_sem, ↓vmP2, ↓vmD, ↓vmK, ↓trK, ↓reduceIte, z]
  rw [z', Bool.true_and] at c
  exact c
 ·have z' : decide (11 ≤ k) = false := by simpa using z
  simp only [go_sem, ↓vmP2, ↓vmD, ↓vmK, ↓trK, ↓reduceIte, z]
  rw [z', Bool.false_and] at c
  exact c
def bytesF (n : Int) : Nat := if n = 0 then 1 else if n = 1 then 4 else 8
theorem bytes_wc (n : Int) (hn : n = 0 ∨ n = 1 ∨ n = 2) (h : Hp) (K : Out → Hp → Prop) (c : K (.ret (.s (.a (.int .i64 (bytesF n))))) h) : WC Try.prog 103 [.s (.a (.int .i64 n))] h K := by
 rcases hn with rfl | rfl | rfl
 all_goals
  refine wc_intro Try.func103 rfl rfl (by kernel_rfl) (by simp [Try.f103]) ?_
  simp only [go_sem, ↓vmP2, ↓vmD, ↓vmK, ↓trK, ↓reduceIte, Try.f103, Int.toNat_zero, Int.reduceToNat]
  exact ⟨⟨by decide, by decide⟩, c⟩
def heldF (k : Int) : Int × Int := if k = 2 then (-128, 127) else if k = 3 then (-32768, 32767) else if k = 6 then (0, 255) else if k = 7 then (0, 65535) else (-2147483648, 2147483647)
theorem held_wc (k : Int) (h : Hp) (K : Out → Hp → Prop) (c : K (.ret (.g [.a (.int .i64 (heldF k).1), .a (.int .i64 (heldF k).2)])) h) : WC Try.prog 117 [.s (.a (.int .i64 k))] h K := by
 refine wc_pure (l := [.int .i64 k]) (wc_trunc 0 (by simp) ?_)
 by_cases h2 : k = 2
 ·subst h2
  refine wc_intro Try.func117 rfl rfl (by kernel_rfl) (by simp [Try.f117]) ?_
  simp only [go_sem, ↓vmP2, ↓vmD, ↓vmK, ↓trK, ↓reduceIte, Try.f117]
  exact ⟨rfl, c⟩
 by_cases h3 : k = 3
 ·subst h3
  refine wc_intro Try.func117 rfl rfl (by kernel_rfl) (by simp [Try.f117]) ?_
  simp only [go_sem, ↓vmP2, ↓vmD, ↓vmK, ↓trK, ↓reduceIte, Try.f117]
  exact ⟨rfl, c⟩
 by_cases h6 : k = 6
 ·subst h6
  refine wc_intro Try.func117 rfl rfl (by kernel_rfl) (by simp [Try.f117]) ?_
  simp only [go_sem, ↓vmP2, ↓vmD, ↓vmK, ↓trK, ↓reduceIte, Try.f117]
  exact ⟨rfl, c⟩
 by_cases h7 : k = 7
 ·subst h7
  refine wc_intro Try.func117 rfl rfl (by kernel_rfl) (by simp [Try.f117]) ?_
  simp only [go_sem, ↓vmP2, ↓vmD, ↓vmK, ↓trK, ↓reduceIte, Try.f117]
  exact ⟨rfl, c⟩
 have b2 : (k == 2) = false := beq_eq_false_iff_ne.mpr h2
 have b3 : (k == 3) = false := beq_eq_false_iff_ne.mpr h3
 have b6 : (k == 6) = false := beq_eq_false_iff_ne.mpr h6
 have b7 : (k == 7) = false := beq_eq_false_iff_ne.mpr h7
 have e : heldF k = (-2147483648, 2147483647) := by unfold heldF; rw [if_neg h2, if_neg h3, if_neg h6, if_neg h7]
 rw [e] at c
 refine wc_intro Try.func117 rfl rfl (by kernel_rfl) (by simp [Try.f117]) ?_
 simp only [go_sem, ↓vmP2, ↓vmD, ↓vmK, ↓trK, ↓reduceIte, Try.f117, b2, b3, b6, b7]
 exact ⟨rfl, c⟩
def mx (a b : Int) : Int := if b > a then b else a
def mi (a b : Int) : Int := if b < a then b else a
/-- The spans of a size. -/
def sizedF (n lo hi : Int) : List (Int × Int) := if n = 0 then [(mx lo (-128), mi hi 127)] else if n = 1 then [(mx lo (-2147483648), mi hi (-129)), (mx lo 128, mi hi 2147483647)] else [(lo, -2147483649), (2147483648, hi)]
theorem sized_wc (n lo hi : Int) (hn : n = 0 ∨ n = 1 ∨ n = 2) (K : Out → Hp → Prop)
  (c : K (.ret (.s (.so 1 (sizedF n lo hi).length 2 105))) [.rw [.a (.int .i64 lo), .a (.int .i64 hi)], .rw (spC (sizedF n lo hi))]) :
  WC Try.prog 108 [.s (.a (.int .i64 n)), .g [.a (.int .i64 lo), .a (.int .i64 hi)]] [] K := by
 rcases hn with rfl | rfl | rfl
 all_goals
  refine wc_intro Try.func108 rfl rfl (by kernel_rfl) (by simp [Try.f108]) ?_
  simp only [go_sem, ↓vmP2, ↓vmD, ↓vmK, ↓trK, ↓reduceIte, Try.f108, cond_true, cond_false, zrow, List.replicate, List.flatten_cons, List.flatten_nil]
  exact ⟨by decide, c⟩
theorem number_wc' (l : List Int) (at_ : Nat) (bad : Bool) (n : Nat) (nI : Int) (L : List (Int × Int)) (m : Nat) (sb : List SV) (K : Out → Hp → Prop) (hnI : nI = n) (hmL : m = L.length) (hsb : sb = spC L) (hm : BY l) (hle : at_ ≤ l.length) (hn : n ≤ 8) (hL : L.length ≤ maxLen)
  (h1 : l.length < at_ + n → ∀ h, K (.pan (E 41)) h)
  (h2 : at_ + n ≤ l.length → K (.ret (.s (.a (.int .i64 (sgR n (leR l at_ n)))))) [rdr l.length (at_ + n : Nat) (bad || !inR (sgR n (leR l at_ n)) L), .ro (byC l), .rw sb]) :
  WC Try.prog 107 [.s (.p 0 0), .s (.a (.int .i64 nI)), .s (.so 2 m 2 105)] [rdr l.length at_ bad, .ro (byC l), .rw sb] K := by
 subst hnI hmL hsb
 exact number_wc l at_ bad n L K hm hle hn hL h1 h2
/-- A number of four bytes. -/
theorem four_wc (l : List Int) (at_ : Nat) (bad : Bool) (lo : Int) (K : Out → Hp → Prop) (hm : BY l) (hle : at_ ≤ l.length)
  (h1 : l.length < at_ + 4 → ∀ h, K (.pan (E 41)) h)
  (h2 : at_ + 4 ≤ l.length → K (.ret (.s (.a (.int .i64 (sgR 4 (leR l at_ 4)))))) [rdr l.length (at_ + 4 : Nat) (bad || !inR (sgR 4 (leR l at_ 4)) [(lo, 2147483647)]), .ro (byC l)]) :
  WC Try.prog 118 [.s (.p 0 0), .s (.a (.int .i64 lo))] [rdr l.length at_ bad, .ro (byC l)] K := by
 refine wc_trunc 2 (by simp) ?_
 refine wc_intro Try.func118 rfl rfl (by kernel_rfl) (by simp [Try.f118]) ?_
 simp only [go_sem, ↓vmP2, ↓vmD, ↓vmK, ↓trK, ↓reduceIte, Try.f118, zrow, List.replicate, List.flatten_cons, List.flatten_nil]
 refine ⟨by decide, ?_⟩
 refine number_wc' l at_ bad 4 4 [(lo, 2147483647)] 1 _ _ rfl rfl (by simp [spC]) hm hle (by omega) (by simp [maxLen]) (fun q h => ?_) (fun q => ?_)
 ·simp only [go_sem, ↓vmP2, ↓vmD, ↓vmK, ↓trK, ↓reduceIte]
  exact h1 q h
 ·simp only [go_sem, ↓vmP2, ↓vmD, ↓vmK, ↓trK, ↓reduceIte, idV, idS, idB, idB_by, rdr, decide_true]
  exact h2 q
end Go.Proofs.Ytahepinbmcgbnaa.Vm
