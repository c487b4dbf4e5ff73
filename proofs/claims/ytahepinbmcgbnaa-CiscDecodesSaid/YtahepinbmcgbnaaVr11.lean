/- gantryref4: read, Encode, Decode, whatever the bytes. Printed by wip/tools/genVr11.py. No condition. -/
import Derived.Test.YtahepinbmcgbnaaVr7
import Derived.Test.YtahepinbmcgbnaaVpX
import Derived.Test.YtahepinbmcgbnaaVr8
import Derived.Test.YtahepinbmcgbnaaVr9
import Derived.Test.YtahepinbmcgbnaaVr10
import Derived.Test.YtahepinbmcgbnaaVc15
set_option linter.unusedVariables false
set_option linter.unusedSimpArgs false
namespace Go.Proofs.Ytahepinbmcgbnaa.Vm
open Go.RowKit Go.Proofs.Ytahepinbmcgbnaa.PV Go.Proofs.Ytahepinbmcgbnaa.Wd Go.Proofs.YtahepinbmcgbnaaW.PrintWords
attribute [local go_sem] opR moveR pickR allocR boxR ld1R ldgR ldR loadR st2R st1R storeR nilR faR fieldAddrR fdR fieldR ixR indexAddrR extR extractR intR shR isSh eqR bin2R sEqR intsOf binR unR convR miR panR fillP partsR bld2R bld1R buildR bldAR build2R ix1R indexR mxR mmR bs2R bs1R buildSliceR pvOf okT no1T noT taR mfR ptrsR ms1R makeSliceR bnd sl1R so1R sliceR argsR ca1R callR lenR ap2R srcR ap1R appendR lenA appA calR ev cst lk rm pt ins rmO ent gval cellsOf scell TI.agg Sh.agg re1 res1 resR is1 vmQ vmH vmE bin3R index2R strIxR ifR nnR stR oneP oneW opP vmQ2 tA0 tA1 tA2 tA3 tA4 tA5 tA6 tA7 tA8 tA9 tA10 tA11 tA12 tA13 tA14 tA15 oA0 oA1 oA2 oA3 oA4 oA5 oA6 oA7 oA8 oA9 oA10 oA11 oA12 oA13 oA14 reduceCtorEq Nat.reduceEqDiff Nat.reduceAdd Nat.reduceLeDiff Nat.reduceLT Nat.reduceMul Nat.reducePow Nat.reduceSub Int.reduceBEq Int.reduceBNe ne_eq Int.reduceEq not_false_eq_true Bool.false_eq_true Nat.reduceBEq List.getElem?_cons_zero List.getElem?_cons_succ List.map_cons List.map_nil List.length_cons List.length_nil List.drop_succ_cons List.drop_zero List.take_succ_cons List.take_zero List.take_nil List.drop_nil List.append_nil List.nil_append List.cons_append List.set_cons_zero List.set_cons_succ List.all_cons List.all_nil Bool.and_true Bool.and_self cond_true cond_false Option.map_some Option.map_none and_self true_and and_true List.append_eq
def readO (l : List Int) (o : Int) : RD := if o = 1 then rdD1 l else if o = 3 then rdD3 l else if o = 4 then rdD4 l else if o = 5 then rdD5 l else if o = 6 then rdD6 l else if o = 7 then rdD7 l else if o = 8 then rdD8 l else if o = 10 then rdD10 l else if o = 11 then rdD11 l else if o = 12 then rdD12 l else if o = 13 then rdD13 l else if o = 14 then rdD14 l else if o = 15 then rdD15 l else if o = 16 then rdD16 l else if o = 17 then rdD17 l else if o = 18 then rdD18 l else if o = 19 then rdD19 l else if o = 22 then rdD22 l else if o = 23 then rdD23 l else if o = 24 then rdD24 l else if o = 25 then rdD25 l else if o = 26 then rdD26 l else if o = 27 then rdD27 l else if o = 28 then rdD28 l else if o = 29 then rdD29 l else .bad
def readD (l : List Int) : RD := readO l (l.getD 0 0)
theorem read_wc (l : List Int) (K : Out → Hp → Prop) (hm : BY l) (q0 : 0 < l.length) (ho : isOp l[0] = true) (c : RDK (readD l) K [.ro (byC l)]) : WC Try.prog 92 [.s (.sl 0 0 l.length)] [.ro (byC l)] K := by
 unfold readD at c
 rw [gd l 0 q0] at c
 rcases isOp_cases _ ho with e | e | e | e | e | e | e | e | e | e | e | e | e | e | e | e | e | e | e | e | e | e | e | e | e
 ·rw [e] at c; exact read_1 l K hm q0 e c
 ·rw [e] at c; exact read_3 l K hm q0 e c
 ·rw [e] at c; exact read_4 l K hm q0 e c
 ·rw [e] at c; exact read_5 l K hm q0 e c
 ·rw [e] at c; exact read_6 l K hm q0 e c
 ·rw [e] at c; exact read_7 l K hm q0 e c
 ·rw [e] at c; exact read_8 l K hm q0 e c
 ·rw [e] at c; exact read_10 l K hm q0 e c
 ·rw [e] at c; exact read_11 l K hm q0 e c
 ·rw [e] at c; exact read_12 l K hm q0 e c
 ·rw [e] at c; exact read_13 l K hm q0 e c
 ·rw [e] at c; exact read_14 l K hm q0 e c
 ·rw [e] at c; exact read_15 l K hm q0 e c
 ·rw [e] at c; exact read_16 l K hm q0 e c
 ·rw [e] at c; exact read_17 l K hm q0 e c
 ·rw [e] at c; exact read_18 l K hm q0 e c
 ·rw [e] at c; exact read_19 l K hm q0 e c
 ·rw [e] at c; exact read_22 l K hm q0 e c
 ·rw [e] at c; exact read_23 l K hm q0 e c
 ·rw [e] at c; exact read_24 l K hm q0 e c
 ·rw [e] at c; exact read_25 l K hm q0 e c
 ·rw [e] at c; exact read_26 l K hm q0 e c
 ·rw [e] at c; exact read_27 l K hm q0 e c
 ·rw [e] at c; exact read_28 l K hm q0 e c
 ·rw [e] at c; exact read_29 l K hm q0 e c
theorem read_ite {p : Prop} [Decidable p] {x y : RD} {n : Nat} {f : List SV} {Q : Prop} (e : (if p then x else y) = .ok n f) (hx : p → x = .ok n f → Q) (hy : ¬ p → y = .ok n f → Q) : Q := by
 by_cases h : p
 ·rw [if_pos h] at e; exact hx h e
 ·rw [if_neg h] at e; exact hy h e
theorem rd_ok {n m : Nat} {o a b c k s z i : Int} {f : List SV} {l : List Int} (e : RD.ok m (iC o a b c k s z i 0) = .ok n f) (h : 1 ≤ m ∧ m ≤ l.length) : ∃ a b c k s z i, f = iC o a b c k s z i 0 ∧ 1 ≤ n ∧ n ≤ l.length := by
 cases e; exact ⟨a, b, c, k, s, z, i, rfl, h.1, h.2⟩
theorem readO_iC (l : List Int) (q0 : 0 < l.length) (o : Int) (ho : isOp o = true) {n : Nat} {f : List SV} (e : readO l o = .ok n f) : ∃ a b c k s z i, f = iC o a b c k s z i 0 ∧ 1 ≤ n ∧ n ≤ l.length := by
 rcases isOp_cases o ho with rfl | rfl | rfl | rfl | rfl | rfl | rfl | rfl | rfl | rfl | rfl | rfl | rfl | rfl | rfl | rfl | rfl | rfl | rfl | rfl | rfl | rfl | rfl | rfl | rfl
 ·change rdD1 l = _ at e
  unfold rdD1 at e
  repeat' split at e
  all_goals first | contradiction | exact rd_ok e ⟨by omega, by omega⟩
 ·change rdD3 l = _ at e
  unfold rdD3 at e
  repeat' split at e
  all_goals first | contradiction | exact rd_ok e ⟨by omega, by omega⟩
 ·change rdD4 l = _ at e
  unfold rdD4 at e
  repeat' split at e
  all_goals first | contradiction | exact rd_ok e ⟨by omega, by omega⟩
 ·change rdD5 l = _ at e
  unfold rdD5 at e
  repeat' split at e
  all_goals first | contradiction | exact rd_ok e ⟨by omega, by omega⟩
 ·change rdD6 l = _ at e
  unfold rdD6 at e
  repeat' split at e
  all_goals first | contradiction | exact rd_ok e ⟨by omega, by omega⟩
 ·change rdD7 l = _ at e
  unfold rdD7 at e
  repeat' split at e
  all_goals first | contradiction | exact rd_ok e ⟨by omega, by omega⟩
 ·change rdD8 l = _ at e
  unfold rdD8 at e
  repeat' split at e
  all_goals first | contradiction | exact rd_ok e ⟨by omega, by omega⟩
 ·change rdD10 l = _ at e
  unfold rdD10 at e
  repeat' split at e
  all_goals first | contradiction | exact rd_ok e ⟨by omega, by omega⟩
 ·change rdD11 l = _ at e
  unfold rdD11 at e
  repeat' split at e
  all_goals first | contradiction | exact rd_ok e ⟨by omega, by omega⟩
 ·change rdD12 l = _ at e
  unfold rdD12 at e
  repeat' split at e
  all_goals first | contradiction | exact rd_ok e ⟨by omega, by omega⟩
 ·change rdD13 l = _ at e
  unfold rdD13 at e
  repeat' split at e
  all_goals first | contradiction | exact rd_ok e ⟨by omega, by omega⟩
 ·change rdD14 l = _ at e
  unfold rdD14 at e
  repeat' split at e
  all_goals first | contradiction | exact rd_ok e ⟨by omega, by omega⟩
 ·change rdD15 l = _ at e
  unfold rdD15 at e
  repeat' split at e
  all_goals first | contradiction | exact rd_ok e ⟨by omega, by omega⟩
 ·change rdD16 l = _ at e
  unfold rdD16 at e
  repeat' split at e
  all_goals first | contradiction | exact rd_ok e ⟨by omega, by omega⟩
 ·change rdD17 l = _ at e
  unfold rdD17 at e
  repeat' split at e
  all_goals first | contradiction | exact rd_ok e ⟨by omega, by omega⟩
 ·change rdD18 l = _ at e
  unfold rdD18 at e
  repeat' split at e
  all_goals first | contradiction | exact rd_ok e ⟨by omega, by omega⟩
 ·change rdD19 l = _ at e
  unfold rdD19 at e
  repeat' split at e
  all_goals first | contradiction | exact rd_ok e ⟨by omega, by omega⟩
 ·change rdD22 l = _ at e
  unfold rdD22 at e
  repeat' split at e
  all_goals first | contradiction | exact rd_ok e ⟨by omega, by omega⟩
 ·change rdD23 l = _ at e
  unfold rdD23 at e
  repeat' split at e
  all_goals first | contradiction | exact rd_ok e ⟨by omega, by omega⟩
 ·change rdD24 l = _ at e
  unfold rdD24 at e
  repeat' split at e
  all_goals first | contradiction | exact rd_ok e ⟨by omega, by omega⟩
 ·change rdD25 l = _ at e
  unfold rdD25 at e
  repeat' split at e
  all_goals first | contradiction | exact rd_ok e ⟨by omega, by omega⟩
 ·change rdD26 l = _ at e
  unfold rdD26 at e
  repeat' split at e
  all_goals first | contradiction | exact rd_ok e ⟨by omega, by omega⟩
 ·change rdD27 l = _ at e
  unfold rdD27 at e
  repeat' split at e
  all_goals first | contradiction | exact rd_ok e ⟨by omega, by omega⟩
 ·change rdD28 l = _ at e
  unfold rdD28 at e
  repeat' split at e
  all_goals first | contradiction | exact rd_ok e ⟨by omega, by omega⟩
 ·change rdD29 l = _ at e
  unfold rdD29 at e
  repeat' split at e
  all_goals first | contradiction | exact rd_ok e ⟨by omega, by omega⟩
/-- What gantryref4.Decode tells. -/
def rdecR (l : List Int) : List SV × Int × Int := if l.length = 0 then (zI, 0, 41) else if isOp (l.getD 0 0) = false then (zI, 0, 40) else match readD l with
 | .short => (zI, 0, 41)
 | .bad => (zI, 0, 40)
 | .ok n f => if mayC f = true ∧ layC f = l.take n then (f, n, 0) else (zI, 0, 40)
end Go.Proofs.Ytahepinbmcgbnaa.Vm
