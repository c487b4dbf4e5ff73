/- Contracts of package cisc's reader. No condition. -/
import Derived.Test.YtahepinbmcgbnaaVt
import Derived.Test.YtahepinbmcgbnaaVmY
set_option maxRecDepth 100000
set_option linter.unusedVariables false
set_option linter.unusedSimpArgs false
namespace Go.Proofs.Ytahepinbmcgbnaa.Vm
open Go.RowKit
attribute [local go_sem] opR moveR pickR allocR boxR ld1R ldgR ldR loadR st2R st1R storeR nilR faR fieldAddrR fdR fieldR ixR indexAddrR extR extractR intR shR isSh eqR bin2R sEqR intsOf binR unR convR miR panR fillP partsR bld2R bld1R buildR bldAR build2R ix1R indexR mxR mmR bs2R bs1R buildSliceR pvOf okT no1T noT taR mfR ptrsR ms1R makeSliceR bnd sl1R so1R sliceR argsR ca1R callR lenR ap2R srcR ap1R appendR lenA appA calR ev cst lk rm pt ins rmO ent gval cellsOf scell TI.agg Sh.agg re1 res1 resR is1 vmQ vmH vmE bin3R index2R strIxR ifR nnR stR oneP oneW opP vmQ2 tA0 tA1 tA2 tA3 tA4 tA5 tA6 tA7 tA8 tA9 tA10 tA11 tA12 tA13 tA14 tA15 oA0 oA1 oA2 oA3 oA4 oA5 oA6 oA7 oA8 oA9 oA10 oA11 oA12 oA13 oA14 reduceCtorEq Nat.reduceEqDiff Nat.reduceAdd Nat.reduceLeDiff Nat.reduceLT Nat.reduceMul Nat.reducePow Nat.reduceSub Int.reduceBEq Int.reduceBNe ne_eq Int.reduceEq not_false_eq_true Bool.false_eq_true Nat.reduceBEq List.getElem?_cons_zero List.getElem?_cons_succ List.map_cons List.map_nil List.length_cons List.length_nil List.drop_succ_cons List.drop_zero List.take_succ_cons List.take_zero List.take_nil List.drop_nil List.append_nil List.nil_append List.cons_append List.set_cons_zero List.set_cons_succ List.all_cons List.all_nil Bool.and_true Bool.and_self cond_true cond_false Option.map_some Option.map_none and_self true_and and_true List.append_eq
/-- An error of package api, thrown. -/
def E (n : Int) : SV := .a (.iface 32 (.int .i64 n))
theorem size_wc (n m : Int) (h : Hp) (K : Out → Hp → Prop) (h1 : m < n → K (.pan (E 40)) h) (h2 : n ≤ m → K (.ret (.s (.a (.int .i64 n)))) h) :
  WC Try.prog 124 [.s (.a (.int .i64 n)), .s (.a (.int .i64 m))] h K := by
 refine wc_intro (N := 10) Try.func124 rfl rfl (by kernel_rfl) (by simp) ?_
 simp only [go_sem, ↓vmP2, ↓vmD, ↓vmK, ↓trK, ↓reduceIte, Try.f124]
 exact cdC_split (fun q => h1 (by simpa using q)) (fun q => h2 (by simpa using q))
def rdr (n : Nat) (at_ : Int) (bad : Bool) : Blk := .rw [.sl 1 0 n, .a (.int .i64 at_), .a (.bool bad)]
def byC (l : List Int) : List SV := l.map fun b => .a (.int .u8 b)
/-- Bytes. -/
def BY (l : List Int) : Prop := l.length ≤ maxLen ∧ ∀ (k : Nat) (q : k < l.length), 0 ≤ l[k] ∧ l[k] ≤ 255
theorem must_wc (n : Nat) (at_ : Int) (bad so : Bool) (bs : List Blk) (K : Out → Hp → Prop) (h1 : K (.ret (.t [])) (rdr n at_ (bad || !so) :: bs)) :
  WC Try.prog 112 [.s (.p 0 0), .s (.a (.bool so))] (rdr n at_ bad :: bs) K := by
 unfold rdr at *
 refine wc_intro (N := 15) Try.func112 rfl rfl (by kernel_rfl) (by simp) ?_
 cases bad <;> simp only [go_sem, ↓vmP2, ↓vmD, ↓vmK, ↓trK, ↓reduceIte, Try.f112]
 ·exact h1
 ·exact h1
theorem ldC_by (l : List Int) (k : Nat) (hk : k < l.length) : ldC (byC l) k 1 = some [.a (.int .u8 l[k])] := by
 unfold ldC byC
 rw [if_pos (by simp; omega)]
 simp [List.drop_eq_getElem_cons, hk]
theorem wrap_id (n : Int) (h0 : 0 ≤ n) (h1 : n ≤ maxLen) : IntKind.i64.wrap n = n := IntWalk.i64_in n ⟨by omega, by unfold maxLen at h1; omega⟩
theorem byte_wc (l : List Int) (at_ : Nat) (bad : Bool) (bs : List Blk) (K : Out → Hp → Prop) (hm : BY l) (hle : at_ ≤ l.length)
  (h1 : at_ = l.length → K (.pan (E 41)) (rdr l.length at_ bad :: .ro (byC l) :: bs))
  (h2 : ∀ (q : at_ < l.length), K (.ret (.s (.a (.int .i64 l[at_])))) (rdr l.length (at_ + 1 : Nat) bad :: .ro (byC l) :: bs)) :
  WC Try.prog 105 [.s (.p 0 0)] (rdr l.length at_ bad :: .ro (byC l) :: bs) K := by
 unfold rdr at *
 refine wc_intro (N := 33) Try.func105 rfl rfl (by kernel_rfl) (by simp) ?_
 simp only [go_sem, ↓vmP2, ↓vmD, ↓vmK, ↓trK, ↓reduceIte, Try.f105]
 refine sw_draw (.take 0 (.take 1 (.take 2 (.take 4 (.take 5 (.take 6 (.all [(3, .all [(7, .all [(8, .take 9 (.done))])]), (7, .all [(3, .all [(8, .take 9 (.done))]), (8, .all [(3, .take 9 (.done))])])]))))))) mo (by kernel_rfl) (by kernel_rfl) (by kernel_rfl) (fun _ _ _ h => h) ?_
 simp only [go_sem, ↓vmP2, ↓vmD, ↓vmK, ↓trK, ↓reduceIte]
 refine cdC_split (fun q => ?_) (fun q => ?_)
 ·exact h1 (by have := q; simp at this; omega)
 ·have hlt : at_ < l.length := by simp at q; omega
  have hml := hm.1
  have e1 : IntKind.i64.wrap ((at_ : Int) + 1) = ((at_ + 1 : Nat) : Int) := by rw [wrap_id _ (by omega) (by omega)]; push_cast; rfl
  have e2 : IntKind.i64.wrap (((at_ + 1 : Nat) : Int) - 1) = (at_ : Int) := by rw [wrap_id _ (by omega) (by omega)]; omega
  have e3 : IntKind.i64.wrap l[at_] = l[at_] := by have := hm.2 at_ hlt; exact wrap_id _ (by omega) (by unfold maxLen; omega)
  simp only [go_sem, ↓vmP2, ↓vmD, ↓vmK, ↓trK, ↓reduceIte, e1, e2]
  refine sw_draw (.take 0 (.take 1 (.take 2 (.take 4 (.take 5 (.take 6 (.all [(3, .all [(7, .take 8 (.all [(9, .all [(10, .take 11 (.take 12 (.done)))])]))]), (7, .take 8 (.all [(3, .all [(9, .all [(10, .take 11 (.take 12 (.done)))])])]))]))))))) mo (by kernel_rfl) (by kernel_rfl) (by kernel_rfl) (fun _ _ _ h => h) ?_
  simp only [go_sem, ↓vmP2, ↓vmD, ↓vmK, ↓trK, ↓reduceIte, e2, e3, ldC_by l at_ hlt, Int.toNat_natCast, Nat.mul_one, Nat.zero_add]
  exact ⟨⟨by omega, by omega⟩, h2 hlt⟩
/-- The number that bytes are, from the lowest on. -/
def leR (l : List Int) (at_ : Nat) : Nat → Int
 | 0 => 0
 | i + 1 => IntKind.u64.wrap (BitVec.ofInt 64 (leR l at_ i) ||| BitVec.ofInt 64 (IntKind.u64.wrap (l.getD (at_ + i) 0 * 2 ^ (8 * i)))).toNat
/-- So many bytes of a number as a signed one. -/
def sgR (n : Nat) (x : Int) : Int := (IntKind.i64.wrap (IntKind.i64.wrap x * 2 ^ (64 - 8 * n))).fdiv (2 ^ (64 - 8 * n))
/-- Spans' cells; is a number in one? -/
def spC (L : List (Int × Int)) : List SV := (L.map fun p => [SV.a (.int .i64 p.1), SV.a (.int .i64 p.2)]).flatten
def inR (y : Int) (L : List (Int × Int)) : Bool := L.any fun p => decide (p.1 ≤ y) && decide (y ≤ p.2)
theorem uwrap_id (n : Int) (h0 : 0 ≤ n) (h1 : n ≤ maxLen) : IntKind.u64.wrap n = n := by
 unfold maxLen at h1
 have : IntKind.u64.wrap n = n % 18446744073709551616 := by simp [IntKind.wrap, IntKind.bits, IntKind.signed]
 rw [this]; omega
theorem ldC_sp : ∀ (L : List (Int × Int)) (k : Nat) (hk : k < L.length), ldC (spC L) (k * 2) 2 = some [.a (.int .i64 L[k].1), .a (.int .i64 L[k].2)]
 | p :: L, 0, _ => by simp [spC, ldC]
 | p :: L, k + 1, hk => by
  have ih := ldC_sp L k (by simpa using hk)
  have e : spC (p :: L) = .a (.int .i64 p.1) :: .a (.int .i64 p.2) :: spC L := by simp [spC]
  rw [e, show (k + 1) * 2 = k * 2 + 1 + 1 by omega, vmH.2.2.2.1, vmH.2.2.2.1, ih]
  simp
theorem idB_by (n : Nat) (l : List Int) : (byC l).all (idS n) = true := by simp [byC, idS]
theorem idB_sp (n : Nat) (L : List (Int × Int)) : (spC L).all (idS n) = true := by
 induction L with
 | nil => rfl
 | cons p L ih => simp [spC, idS]
theorem inR_take (y : Int) (L : List (Int × Int)) (k : Nat) (hk : k < L.length) : inR y (L.take (k + 1)) = (inR y (L.take k) || (decide (L[k].1 ≤ y) && decide (y ≤ L[k].2))) := by
 unfold inR
 rw [List.take_succ_eq_append_getElem hk, List.any_append]
 simp
theorem number_wc (l : List Int) (at_ : Nat) (bad : Bool) (n : Nat) (L : List (Int × Int)) (K : Out → Hp → Prop) (hm : BY l) (hle : at_ ≤ l.length) (hn : n ≤ 8) (hL : L.length ≤ maxLen)
  (h1 : l.length < at_ + n → ∀ h, K (.pan (E 41)) h)
  (h2 : at_ + n ≤ l.length → K (.ret (.s (.a (.int .i64 (sgR n (leR l at_ n)))))) [rdr l.length (at_ + n : Nat) (bad || !inR (sgR n (leR l at_ n)) L), .ro (byC l), .rw (spC L)]) :
  WC Try.prog 107 [.s (.p 0 0), .s (.a (.int .i64 n)), .s (.so 2 L.length 2 105)] [rdr l.length at_ bad, .ro (byC l), .rw (spC L)] K := by
 have hml := hm.1
 refine wc_intro (N := 60) Try.func107 rfl rfl (by kernel_rfl) (by simp) ?_
 simp only [go_sem, ↓vmP2, ↓vmD, ↓vmK, ↓trK, ↓reduceIte, Try.f107]
 refine sw_loop (ι := Nat) (fun i => i ≤ n ∧ at_ + i ≤ l.length) (fun i => [(14, .s (.a (.int .i64 i))), (13, .s (.a (.int .i64 n))), (7, .s (.a (.int .u64 (leR l at_ i)))), (2, .s (.so 2 L.length 2 105)), (1, .s (.a (.int .i64 n))), (0, .s (.p 0 0))])
  (fun i => [rdr l.length (at_ + i : Nat) bad, .ro (byC l), .rw (spC L)]) (fun i => n - i) 0 (by kernel_rfl) ⟨by omega, hle⟩ (by simp only [go_sem, ↓vmP2, ↓vmD, ↓vmK, ↓trK, ↓reduceIte, subT, leR]; trivial) (by simp) ?_
 intro i ⟨hi1, hi2⟩
 simp only [go_sem, ↓vmP2, ↓vmD, ↓vmK, ↓trK, ↓reduceIte]
 refine cdC_split (fun q => ?_) (fun q => ?_)
 ·have hi : i < n := by simp at q; exact q
  refine byte_wc l (at_ + i) bad _ _ hm hi2 (fun z => ?_) (fun z => ?_)
  ·simp only [go_sem, ↓vmP2, ↓vmD, ↓vmK, ↓trK, ↓reduceIte]
   exact h1 (by omega) _
  ·have hb := hm.2 (at_ + i) z
   have e1 : IntKind.u64.wrap l[at_ + i] = l.getD (at_ + i) 0 := by rw [uwrap_id _ hb.1 (by unfold maxLen; omega)]; simp [z]
   have e2 : IntKind.i64.wrap (8 * (i : Int)) = ((8 * i : Nat) : Int) := by rw [wrap_id _ (by omega) (by unfold maxLen; omega)]; push_cast; rfl
   have e3 : IntKind.i64.wrap ((i : Int) + 1) = ((i + 1 : Nat) : Int) := by rw [wrap_id _ (by omega) (by unfold maxLen; omega)]; push_cast; rfl
   have e4 : min ((8 * i : Nat) : Int).toNat 64 = 8 * i := by omega
   simp only [go_sem, ↓vmP2, ↓vmD, ↓vmK, ↓trK, ↓reduceIte, e1, e2, e3, e4, subT]
   refine ⟨by omega, i + 1, ⟨by omega, by omega⟩, by omega, ⟨rfl, rfl⟩, ?_⟩
   rw [Nat.add_assoc]
 ·have hi : i = n := by simp at q; omega
  subst hi
  have e2 : IntKind.i64.wrap (8 * (i : Int)) = ((8 * i : Nat) : Int) := by rw [wrap_id _ (by omega) (by unfold maxLen; omega)]; push_cast; rfl
  have e3 : IntKind.i64.wrap (64 - ((8 * i : Nat) : Int)) = ((64 - 8 * i : Nat) : Int) := by rw [wrap_id _ (by omega) (by unfold maxLen; omega)]; omega
  have e4 : min ((64 - 8 * i : Nat) : Int).toNat 64 = 64 - 8 * i := by omega
  have e5 : (IntKind.i64.wrap (IntKind.i64.wrap (leR l at_ i) * 2 ^ (64 - 8 * i))).fdiv (2 ^ (64 - 8 * i)) = sgR i (leR l at_ i) := rfl
  simp only [go_sem, ↓vmP2, ↓vmD, ↓vmK, ↓trK, ↓reduceIte, e2, e3, e4, e5]
  refine ⟨by omega, by omega, ?_⟩
  have hy : ∃ y, y = sgR i (leR l at_ i) := ⟨_, rfl⟩
  obtain ⟨y, hy⟩ := hy
  rw [← hy] at h2 ⊢
  refine sw_loopG (ι := Nat) (n := 3) (fun k => k ≤ L.length) (fun k => [(38, .s (.a (.int .i64 k))), (37, .s (.a (.int .i64 L.length))), (36, .s (.so 2 L.length 2 105)), (10, .s (.a (.bool (inR y (L.take k))))), (9, .s (.a (.int .i64 y))), (0, .s (.p 0 0))])
   (fun k => [rdr l.length (at_ + i : Nat) bad, .ro (byC l), .rw (spC L)]) (fun k => L.length - k) 0 (by kernel_rfl) (by omega) (by simp only [go_sem, ↓vmP2, ↓vmD, ↓vmK, ↓trK, ↓reduceIte, subT]; simp [inR]) rfl (by intro; rfl) ?_
  intro k hk
  simp only [go_sem, ↓vmP2, ↓vmD, ↓vmK, ↓trK, ↓reduceIte]
  refine cdC_split (fun q => ?_) (fun q => ?_)
  ·have hk' : k < L.length := by simp at q; exact q
   have e6 : IntKind.i64.wrap ((k : Int) + 1) = ((k + 1 : Nat) : Int) := by rw [wrap_id _ (by omega) (by omega)]; push_cast; rfl
   have hin := inR_take y L k hk'
   simp only [go_sem, ↓vmP2, ↓vmD, ↓vmK, ↓trK, ↓reduceIte, Int.toNat_natCast, Nat.zero_add, ldC_sp L k hk', e6]
   refine ⟨⟨by omega, by omega⟩, ?_⟩
   cases hb : inR y (L.take k) with
   | true =>
    rw [hb] at hin
    simp only [go_sem, ↓vmP2, ↓vmD, ↓vmK, ↓trK, ↓reduceIte, e6, subT, tmB, idV, idS, idB, idB_by, idB_sp, rdr]
    refine ⟨k + 1, by omega, by omega, ⟨rfl, by rw [hin]; rfl⟩, by decide, by decide⟩
   | false =>
    rw [hb] at hin
    simp only [go_sem, ↓vmP2, ↓vmD, ↓vmK, ↓trK, ↓reduceIte, e6]
    refine gdC_sp (fun z1 => ?_) (fun z1 => ?_)
    ·have z1' : decide (L[k].1 ≤ y) = true := by simpa using z1
     simp only [go_sem, ↓vmP2, ↓vmD, ↓vmK, ↓trK, ↓reduceIte, z1, e6]
     refine ⟨k + 1, by omega, by omega, ?_⟩
     simp only [go_sem, ↓vmP2, ↓vmD, ↓vmK, ↓trK, ↓reduceIte, subT, tmB, idV, idS, idB, idB_by, idB_sp, rdr, hin, z1', Bool.false_or, Bool.true_and, decide_true]
    ·have z1' : decide (L[k].1 ≤ y) = false := by simpa using z1
     simp only [go_sem, ↓vmP2, ↓vmD, ↓vmK, ↓trK, ↓reduceIte, z1, e6]
     refine ⟨k + 1, by omega, by omega, ?_⟩
     simp only [go_sem, ↓vmP2, ↓vmD, ↓vmK, ↓trK, ↓reduceIte, subT, tmB, idV, idS, idB, idB_by, idB_sp, rdr, hin, z1', Bool.false_or, Bool.false_and, Bool.true_and, decide_true]
  ·have hk' : k = L.length := by simp at q; omega
   subst hk'
   trace_state
   refine must_wc _ _ _ _ _ _ ?_
   simp only [go_sem, ↓vmP2, ↓vmD, ↓vmK, ↓trK, ↓reduceIte, List.take_length]
   exact h2 hi2
end Go.Proofs.Ytahepinbmcgbnaa.Vm
