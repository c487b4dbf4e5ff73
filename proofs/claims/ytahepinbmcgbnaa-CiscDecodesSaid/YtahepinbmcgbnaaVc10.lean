/- Contracts of package cisc's writer. No condition. -/
import Derived.Test.YtahepinbmcgbnaaVc4
import Derived.Test.YtahepinbmcgbnaaVmY
set_option maxRecDepth 100000
set_option linter.unusedVariables false
set_option linter.unusedSimpArgs false
namespace Go.Proofs.Ytahepinbmcgbnaa.Vm
open Go.RowKit Go.Proofs.Ytahepinbmcgbnaa.PV Go.Proofs.Ytahepinbmcgbnaa.Wd Go.Proofs.YtahepinbmcgbnaaW.PrintWords
attribute [local go_sem] opR moveR pickR allocR boxR ld1R ldgR ldR loadR st2R st1R storeR nilR faR fieldAddrR fdR fieldR ixR indexAddrR extR extractR intR shR isSh eqR bin2R sEqR intsOf binR unR convR miR panR fillP partsR bld2R bld1R buildR bldAR build2R ix1R indexR mxR mmR bs2R bs1R buildSliceR pvOf okT no1T noT taR mfR ptrsR ms1R makeSliceR bnd sl1R so1R sliceR argsR ca1R callR lenR ap2R srcR ap1R appendR lenA appA calR ev cst lk rm pt ins rmO ent gval cellsOf scell TI.agg Sh.agg re1 res1 resR is1 vmQ vmH vmE bin3R index2R strIxR ifR nnR stR oneP oneW opP vmQ2 tA0 tA1 tA2 tA3 tA4 tA5 tA6 tA7 tA8 tA9 tA10 tA11 tA12 tA13 tA14 tA15 oA0 oA1 oA2 oA3 oA4 oA5 oA6 oA7 oA8 oA9 oA10 oA11 oA12 oA13 oA14 reduceCtorEq Nat.reduceEqDiff Nat.reduceAdd Nat.reduceLeDiff Nat.reduceLT Nat.reduceMul Nat.reducePow Nat.reduceSub Int.reduceBEq Int.reduceBNe ne_eq Int.reduceEq not_false_eq_true Bool.false_eq_true Nat.reduceBEq List.getElem?_cons_zero List.getElem?_cons_succ List.map_cons List.map_nil List.length_cons List.length_nil List.drop_succ_cons List.drop_zero List.take_succ_cons List.take_zero List.take_nil List.drop_nil List.append_nil List.nil_append List.cons_append List.set_cons_zero List.set_cons_succ List.all_cons List.all_nil Bool.and_true Bool.and_self cond_true cond_false Option.map_some Option.map_none and_self true_and and_true List.append_eq
theorem by_len (l : List Int) : (byC l).length = l.length := by simp [byC]
theorem by_take (l : List Int) (n : Nat) (h : l.length = n) : (byC l).take n = byC l := by rw [List.take_of_length_le]; rw [by_len]; omega
theorem by_snoc (l : List Int) (x : Int) : byC l ++ [.a (.int .u8 x)] = byC (l ++ [x]) := by simp [byC]
theorem by_one (x : Int) : [SV.a (.int .u8 x)] = byC [x] := rfl
theorem len_snoc (l : List Int) (x : Int) : (l ++ [x]).length = l.length + 1 := by simp
theorem sc_by (l : List Int) : (byC l).all scell = true := by simp [byC, scell]
theorem nc0 : ((0 : Nat) : Int) = 0 := rfl
theorem nc1 : ((1 : Nat) : Int) = 1 := rfl
theorem nc2 : ((2 : Nat) : Int) = 2 := rfl
theorem nc3 : ((3 : Nat) : Int) = 3 := rfl
theorem nc4 : ((4 : Nat) : Int) = 4 := rfl
theorem nc8 : ((8 : Nat) : Int) = 8 := rfl
theorem wi1 : IntKind.i64.wrap 1 = 1 := rfl
theorem wi2 : IntKind.i64.wrap 2 = 2 := rfl
theorem wi3 : IntKind.i64.wrap 3 = 3 := rfl
theorem wi4 : IntKind.i64.wrap 4 = 4 := rfl
theorem wi5 : IntKind.i64.wrap 5 = 5 := rfl
theorem wi6 : IntKind.i64.wrap 6 = 6 := rfl
theorem wi7 : IntKind.i64.wrap 7 = 7 := rfl
theorem wi8 : IntKind.i64.wrap 8 = 8 := rfl
theorem wn0 : IntKind.i64.wrap 0 = 0 := rfl
theorem wn8 : IntKind.i64.wrap 8 = 8 := rfl
theorem wn16 : IntKind.i64.wrap 16 = 16 := rfl
theorem wn24 : IntKind.i64.wrap 24 = 24 := rfl
theorem wn32 : IntKind.i64.wrap 32 = 32 := rfl
theorem wn40 : IntKind.i64.wrap 40 = 40 := rfl
theorem wn48 : IntKind.i64.wrap 48 = 48 := rfl
theorem wn56 : IntKind.i64.wrap 56 = 56 := rfl
def lowF (x : Int) (i : Nat) : Int := IntKind.u8.wrap (x.fdiv (2 ^ (8 * i)))
def u8 (x : Int) : Int := IntKind.u8.wrap x
def wr (l : List Int) (j : Nat) : Blk := .rw [.so j l.length 1 5]
set_option maxRecDepth 100000 in
theorem wbyte0 (x : Int) (K : Out → Hp → Prop) (c : K (.ret (.t [])) [wr [u8 x] 2, .rw [.a (.int .i64 x)], .rw (byC [u8 x])]) :
  WC Try.prog 101 [.s (.p 0 0), .s (.so 1 1 1 3)] [.rw [.a (.slice none 0 0)], .rw [.a (.int .i64 x)]] K := by
 refine wc_pick ?_
 refine wc_intro Try.func101 rfl rfl (by kernel_rfl) (by simp [Try.f101]) ?_
 simp only [go_sem, ↓vmP2, ↓vmD, ↓vmK, ↓trK, ↓reduceIte, Try.f101]
 refine sw_rounds 2 (swn_succ (by kernel_rfl) _ ?_)
 simp only [go_sem, ↓vmP2, ↓vmD, ↓vmK, ↓trK, ↓reduceIte, Int.reduceToNat, Int.reduceLT, Int.reduceLE, Int.reduceAdd, Int.reduceMul, Int.reduceSub, decide_true, decide_false, nc0, nc1, nc2, nc3, nc4, nc8, Nat.zero_add, Nat.mul_one, Nat.add_zero, unK, cdW, wi1, wi2, wi3, zrow, List.replicate, List.flatten_cons, List.flatten_nil, by_len, by_take, by_snoc, Nat.le_refl, List.length_append, u8, wr]
 refine ⟨by decide, by decide, ?_⟩
 refine swn_succ (by kernel_rfl) _ ?_
 simp only [go_sem, ↓vmP2, ↓vmD, ↓vmK, ↓trK, ↓reduceIte, Int.reduceToNat, Int.reduceLT, Int.reduceLE, Int.reduceAdd, Int.reduceMul, Int.reduceSub, decide_true, decide_false, nc0, nc1, nc2, nc3, nc4, nc8, Nat.zero_add, Nat.mul_one, Nat.add_zero, unK, cdW, wi1, wi2, wi3, zrow, List.replicate, List.flatten_cons, List.flatten_nil, by_len, by_take, by_snoc, Nat.le_refl, List.length_append, u8, wr]
 exact ⟨[0, 1, 3], [wr [u8 x] 2, .rw [.a (.int .i64 x)], .rw (byC [u8 x])], .t [], rfl, by decide, rfl, ⟨rfl, rfl, rfl, trivial⟩, by simp [roOk, wr], rfl, c⟩
set_option maxRecDepth 100000 in
theorem wbyte1 (l : List Int) (x : Int) (K : Out → Hp → Prop) (hl : l.length ≤ 1000) (c : K (.ret (.t [])) [wr (l ++ [u8 x]) 3, .dead, .rw [.a (.int .i64 x)], .rw (byC (l ++ [u8 x]))]) :
  WC Try.prog 101 [.s (.p 0 0), .s (.so 2 1 1 3)] [wr l 1, .rw (byC l), .rw [.a (.int .i64 x)]] K := by
 refine wc_pick ?_
 refine wc_intro Try.func101 rfl rfl (by kernel_rfl) (by simp [Try.f101]) ?_
 simp only [go_sem, ↓vmP2, ↓vmD, ↓vmK, ↓trK, ↓reduceIte, Int.reduceToNat, Int.reduceLT, Int.reduceLE, Int.reduceAdd, Int.reduceMul, Int.reduceSub, decide_true, decide_false, nc0, nc1, nc2, nc3, nc4, nc8, Nat.zero_add, Nat.mul_one, Nat.add_zero, Try.f101, unK, cdW, wi1, wi2, wi3, zrow, List.replicate, List.flatten_cons, List.flatten_nil, by_len, by_take, by_snoc, Nat.le_refl, List.length_append, u8, wr]
 refine sw_rounds 2 ?_
 refine swn_succ (by kernel_rfl) _ ?_
 simp only [go_sem, ↓vmP2, ↓vmD, ↓vmK, ↓trK, ↓reduceIte, Int.reduceToNat, Int.reduceLT, Int.reduceLE, Int.reduceAdd, Int.reduceMul, Int.reduceSub, decide_true, decide_false, nc0, nc1, nc2, nc3, nc4, nc8, Nat.zero_add, Nat.mul_one, Nat.add_zero, unK, cdW, wi1, wi2, wi3, zrow, List.replicate, List.flatten_cons, List.flatten_nil, by_len, by_take, by_snoc, Nat.le_refl, List.length_append, u8, wr]
 refine ⟨by decide, ⟨by unfold maxLen; omega, by omega⟩, ?_⟩
 refine swn_succ (by kernel_rfl) _ ?_
 simp only [go_sem, ↓vmP2, ↓vmD, ↓vmK, ↓trK, ↓reduceIte, Int.reduceToNat, Int.reduceLT, Int.reduceLE, Int.reduceAdd, Int.reduceMul, Int.reduceSub, decide_true, decide_false, nc0, nc1, nc2, nc3, nc4, nc8, Nat.zero_add, Nat.mul_one, Nat.add_zero, unK, cdW, wi1, wi2, wi3, zrow, List.replicate, List.flatten_cons, List.flatten_nil, by_len, by_take, by_snoc, Nat.le_refl, List.length_append, u8, wr]
 exact ⟨[0, 1, 2, 4], [wr (l ++ [u8 x]) 3, .dead, .rw [.a (.int .i64 x)], .rw (byC (l ++ [u8 x]))], .t [], rfl, by simp, rfl, ⟨by simp [wr, rnB, rnS, ix, u8], rfl, rfl, by simp [rnB, rn_by, u8], trivial⟩, by simp [roOk, wr], rfl, c⟩
set_option maxRecDepth 100000 in
theorem wbyte2 (l : List Int) (x y : Int) (K : Out → Hp → Prop) (hl : l.length ≤ 1000) (c : K (.ret (.t [])) [wr ((l ++ [u8 x]) ++ [u8 y]) 3, .dead, .rw [.a (.int .i64 x), .a (.int .i64 y)], .rw (byC ((l ++ [u8 x]) ++ [u8 y]))]) :
  WC Try.prog 101 [.s (.p 0 0), .s (.so 2 2 1 3)] [wr l 1, .rw (byC l), .rw [.a (.int .i64 x), .a (.int .i64 y)]] K := by
 refine wc_pick ?_
 refine wc_intro Try.func101 rfl rfl (by kernel_rfl) (by simp [Try.f101]) ?_
 simp only [go_sem, ↓vmP2, ↓vmD, ↓vmK, ↓trK, ↓reduceIte, Int.reduceToNat, Int.reduceLT, Int.reduceLE, Int.reduceAdd, Int.reduceMul, Int.reduceSub, decide_true, decide_false, nc0, nc1, nc2, nc3, nc4, nc8, Nat.zero_add, Nat.mul_one, Nat.add_zero, Try.f101, unK, cdW, wi1, wi2, wi3, zrow, List.replicate, List.flatten_cons, List.flatten_nil, by_len, by_take, by_snoc, Nat.le_refl, List.length_append, u8, wr]
 refine sw_rounds 3 ?_
 refine swn_succ (by kernel_rfl) _ ?_
 simp only [go_sem, ↓vmP2, ↓vmD, ↓vmK, ↓trK, ↓reduceIte, Int.reduceToNat, Int.reduceLT, Int.reduceLE, Int.reduceAdd, Int.reduceMul, Int.reduceSub, decide_true, decide_false, nc0, nc1, nc2, nc3, nc4, nc8, Nat.zero_add, Nat.mul_one, Nat.add_zero, unK, cdW, wi1, wi2, wi3, zrow, List.replicate, List.flatten_cons, List.flatten_nil, by_len, by_take, by_snoc, Nat.le_refl, List.length_append, u8, wr]
 refine ⟨by decide, ⟨by unfold maxLen; omega, by omega⟩, ?_⟩
 refine swn_succ (by kernel_rfl) _ ?_
 simp only [go_sem, ↓vmP2, ↓vmD, ↓vmK, ↓trK, ↓reduceIte, Int.reduceToNat, Int.reduceLT, Int.reduceLE, Int.reduceAdd, Int.reduceMul, Int.reduceSub, decide_true, decide_false, nc0, nc1, nc2, nc3, nc4, nc8, Nat.zero_add, Nat.mul_one, Nat.add_zero, unK, cdW, wi1, wi2, wi3, zrow, List.replicate, List.flatten_cons, List.flatten_nil, by_len, by_take, by_snoc, Nat.le_refl, List.length_append, u8, wr]
 refine ⟨by decide, ⟨by unfold maxLen; omega, by omega⟩, ?_⟩
 refine swn_succ (by kernel_rfl) _ ?_
 simp only [go_sem, ↓vmP2, ↓vmD, ↓vmK, ↓trK, ↓reduceIte, Int.reduceToNat, Int.reduceLT, Int.reduceLE, Int.reduceAdd, Int.reduceMul, Int.reduceSub, decide_true, decide_false, nc0, nc1, nc2, nc3, nc4, nc8, Nat.zero_add, Nat.mul_one, Nat.add_zero, unK, cdW, wi1, wi2, wi3, zrow, List.replicate, List.flatten_cons, List.flatten_nil, by_len, by_take, by_snoc, Nat.le_refl, List.length_append, u8, wr]
 exact ⟨[0, 1, 2, 6], [wr ((l ++ [u8 x]) ++ [u8 y]) 3, .dead, .rw [.a (.int .i64 x), .a (.int .i64 y)], .rw (byC ((l ++ [u8 x]) ++ [u8 y]))], .t [], rfl, by simp, rfl, ⟨by simp [wr, rnB, rnS, ix, u8], rfl, rfl, by simp [rnB, rn_by, u8], trivial⟩, by simp [roOk, wr], rfl, c⟩
set_option maxRecDepth 100000 in
theorem wbyte3 (l : List Int) (x y z : Int) (K : Out → Hp → Prop) (hl : l.length ≤ 1000) (c : K (.ret (.t [])) [wr (((l ++ [u8 x]) ++ [u8 y]) ++ [u8 z]) 3, .dead, .rw [.a (.int .i64 x), .a (.int .i64 y), .a (.int .i64 z)], .rw (byC (((l ++ [u8 x]) ++ [u8 y]) ++ [u8 z]))]) :
  WC Try.prog 101 [.s (.p 0 0), .s (.so 2 3 1 3)] [wr l 1, .rw (byC l), .rw [.a (.int .i64 x), .a (.int .i64 y), .a (.int .i64 z)]] K := by
 refine wc_pick ?_
 refine wc_intro Try.func101 rfl rfl (by kernel_rfl) (by simp [Try.f101]) ?_
 simp only [go_sem, ↓vmP2, ↓vmD, ↓vmK, ↓trK, ↓reduceIte, Int.reduceToNat, Int.reduceLT, Int.reduceLE, Int.reduceAdd, Int.reduceMul, Int.reduceSub, decide_true, decide_false, nc0, nc1, nc2, nc3, nc4, nc8, Nat.zero_add, Nat.mul_one, Nat.add_zero, Try.f101, unK, cdW, wi1, wi2, wi3, zrow, List.replicate, List.flatten_cons, List.flatten_nil, by_len, by_take, by_snoc, Nat.le_refl, List.length_append, u8, wr]
 refine sw_rounds 4 ?_
 refine swn_succ (by kernel_rfl) _ ?_
 simp only [go_sem, ↓vmP2, ↓vmD, ↓vmK, ↓trK, ↓reduceIte, Int.reduceToNat, Int.reduceLT, Int.reduceLE, Int.reduceAdd, Int.reduceMul, Int.reduceSub, decide_true, decide_false, nc0, nc1, nc2, nc3, nc4, nc8, Nat.zero_add, Nat.mul_one, Nat.add_zero, unK, cdW, wi1, wi2, wi3, zrow, List.replicate, List.flatten_cons, List.flatten_nil, by_len, by_take, by_snoc, Nat.le_refl, List.length_append, u8, wr]
 refine ⟨by decide, ⟨by unfold maxLen; omega, by omega⟩, ?_⟩
 refine swn_succ (by kernel_rfl) _ ?_
 simp only [go_sem, ↓vmP2, ↓vmD, ↓vmK, ↓trK, ↓reduceIte, Int.reduceToNat, Int.reduceLT, Int.reduceLE, Int.reduceAdd, Int.reduceMul, Int.reduceSub, decide_true, decide_false, nc0, nc1, nc2, nc3, nc4, nc8, Nat.zero_add, Nat.mul_one, Nat.add_zero, unK, cdW, wi1, wi2, wi3, zrow, List.replicate, List.flatten_cons, List.flatten_nil, by_len, by_take, by_snoc, Nat.le_refl, List.length_append, u8, wr]
 refine ⟨by decide, ⟨by unfold maxLen; omega, by omega⟩, ?_⟩
 refine swn_succ (by kernel_rfl) _ ?_
 simp only [go_sem, ↓vmP2, ↓vmD, ↓vmK, ↓trK, ↓reduceIte, Int.reduceToNat, Int.reduceLT, Int.reduceLE, Int.reduceAdd, Int.reduceMul, Int.reduceSub, decide_true, decide_false, nc0, nc1, nc2, nc3, nc4, nc8, Nat.zero_add, Nat.mul_one, Nat.add_zero, unK, cdW, wi1, wi2, wi3, zrow, List.replicate, List.flatten_cons, List.flatten_nil, by_len, by_take, by_snoc, Nat.le_refl, List.length_append, u8, wr]
 refine ⟨by decide, ⟨by unfold maxLen; omega, by omega⟩, ?_⟩
 refine swn_succ (by kernel_rfl) _ ?_
 simp only [go_sem, ↓vmP2, ↓vmD, ↓vmK, ↓trK, ↓reduceIte, Int.reduceToNat, Int.reduceLT, Int.reduceLE, Int.reduceAdd, Int.reduceMul, Int.reduceSub, decide_true, decide_false, nc0, nc1, nc2, nc3, nc4, nc8, Nat.zero_add, Nat.mul_one, Nat.add_zero, unK, cdW, wi1, wi2, wi3, zrow, List.replicate, List.flatten_cons, List.flatten_nil, by_len, by_take, by_snoc, Nat.le_refl, List.length_append, u8, wr]
 exact ⟨[0, 1, 2, 8], [wr (((l ++ [u8 x]) ++ [u8 y]) ++ [u8 z]) 3, .dead, .rw [.a (.int .i64 x), .a (.int .i64 y), .a (.int .i64 z)], .rw (byC (((l ++ [u8 x]) ++ [u8 y]) ++ [u8 z]))], .t [], rfl, by simp, rfl, ⟨by simp [wr, rnB, rnS, ix, u8], rfl, rfl, by simp [rnB, rn_by, u8], trivial⟩, by simp [roOk, wr], rfl, c⟩
def lows (x : Int) (n : Nat) : List Int := (List.range n).map (lowF x)
theorem lows_succ (l : List Int) (x : Int) (n : Nat) : l ++ lows x n ++ [lowF x n] = l ++ lows x (n + 1) := by simp [lows, List.range_succ]
theorem lows_len (x : Int) (n : Nat) : (lows x n).length = n := by simp [lows]
def numH (l : List Int) (x : Int) : Nat → Hp
 | 0 => [wr l 1, .rw (byC l)]
 | i + 1 => [wr (l ++ lows x (i + 1)) 2, .dead, .rw (byC (l ++ lows x (i + 1)))]
def numS (n : Nat) (x : Int) (i : Nat) : Tm := [(8, .s (.a (.int .i64 i))), (7, .s (.a (.int .i64 n))), (2, .s (.a (.int .i64 x))), (0, .s (.p 0 0))]
set_option maxRecDepth 100000 in
set_option maxHeartbeats 8000000 in
theorem wnum (l : List Int) (x : Int) (n : Nat) (K : Out → Hp → Prop) (hl : l.length ≤ 1000) (hn : 1 ≤ n ∧ n ≤ 8) (c : K (.ret (.t [])) [wr (l ++ lows x n) 2, .dead, .rw (byC (l ++ lows x n))]) :
  WC Try.prog 102 [.s (.p 0 0), .s (.a (.int .i64 n)), .s (.a (.int .i64 x))] [wr l 1, .rw (byC l)] K := by
 refine wc_intro Try.func102 rfl rfl (by kernel_rfl) (by simp [Try.f102]) ?_
 simp only [go_sem, ↓vmP2, ↓vmD, ↓vmK, ↓trK, ↓reduceIte, Int.reduceToNat, Int.reduceLT, Int.reduceLE, Int.reduceAdd, Int.reduceMul, Int.reduceSub, decide_true, decide_false, nc0, nc1, nc2, nc3, nc4, nc8, Nat.zero_add, Nat.mul_one, Nat.add_zero, Try.f102]
 refine sw_loopP (ι := Nat) (n := 2) (fun i => i ≤ n) (numS n x) (numH l x) (fun i => n - i) 0 (by kernel_rfl) (by omega) (by simp only [go_sem, ↓vmP2, ↓vmD, ↓vmK, ↓trK, ↓reduceIte, Int.reduceToNat, Int.reduceLT, Int.reduceLE, Int.reduceAdd, Int.reduceMul, Int.reduceSub, decide_true, decide_false, nc0, nc1, nc2, nc3, nc4, nc8, Nat.zero_add, Nat.mul_one, Nat.add_zero, subT, numS]) rfl rfl ?_
 intro i hi
 have w8 : IntKind.i64.wrap (8 * (i : Int)) = ((8 * i : Nat) : Int) := by rw [wrap_id _ (by omega) (by unfold maxLen; omega)]; push_cast; rfl
 have w9 : IntKind.i64.wrap ((i : Int) + 1) = ((i + 1 : Nat) : Int) := by rw [wrap_id _ (by omega) (by unfold maxLen; omega)]; push_cast; rfl
 have w7 : min ((8 * i : Nat) : Int).toNat 64 = 8 * i := by omega
 have wl : IntKind.u8.wrap (x.fdiv (2 ^ (8 * i))) = lowF x i := rfl
 cases i with
 | zero =>
  simp only [go_sem, ↓vmP2, ↓vmD, ↓vmK, ↓trK, ↓reduceIte, Int.reduceToNat, Int.reduceLT, Int.reduceLE, Int.reduceAdd, Int.reduceMul, Int.reduceSub, decide_true, decide_false, nc0, nc1, nc2, nc3, nc4, nc8, Nat.zero_add, Nat.mul_one, Nat.add_zero, numS, numH, wr]
  refine cdC_split (fun q => ?_) (fun q => absurd q (by simp; omega))
  refine sw_draw (.take 0 (.take 1 (.take 2 (.take 3 (.take 5 (.take 6 (.take 7 (.all [(4, .all [(8, .take 9 (.all [(10, .all [(11, .take 12 (.take 13 (.all [(14, .done)])))])]))]), (8, .take 9 (.all [(4, .all [(10, .all [(11, .take 12 (.take 13 (.all [(14, .done)])))])]), (10, .all [(4, .all [(11, .take 12 (.take 13 (.all [(14, .done)])))])])]))])))))))) mo (by kernel_rfl) (by kernel_rfl) (by kernel_rfl) (fun _ _ _ h => h) ?_
  simp only [go_sem, ↓vmP2, ↓vmD, ↓vmK, ↓trK, ↓reduceIte, Int.reduceToNat, Int.reduceLT, Int.reduceLE, Int.reduceAdd, Int.reduceMul, Int.reduceSub, decide_true, decide_false, nc0, nc1, nc2, nc3, nc4, nc8, Nat.zero_add, Nat.mul_one, Nat.add_zero, cdW, zrow, List.replicate, List.flatten_cons, List.flatten_nil, by_len, by_take, by_snoc, Nat.le_refl, List.length_append, wr, lpP, w8, w9, w7, wl]
  refine ⟨by decide, by decide, ⟨by unfold maxLen; omega, by omega⟩, 1, [0, 1, 3], by omega, by omega, ⟨rfl, rfl, rfl, rfl, trivial⟩, rfl, by decide, rfl, ⟨?_, rfl, ?_, trivial⟩, by simp [roOk, numH, wr]⟩
  ·simp [numH, wr, rnB, rnS, ix, lows_len]
  ·rw [show ∀ τ, rnB τ (.rw (byC (l ++ lows x 1))) = .rw (byC (l ++ lows x 1)) from fun τ => by simp [rnB, rn_by]]
   rfl
 | succ i =>
  have lw : (l ++ lows x (i + 1)).length = l.length + (i + 1) := by simp [lows_len]
  have lz := lows_succ l x (i + 1)
  generalize hL : l ++ lows x (i + 1) = L at lw lz
  simp only [go_sem, ↓vmP2, ↓vmD, ↓vmK, ↓trK, ↓reduceIte, Int.reduceToNat, Int.reduceLT, Int.reduceLE, Int.reduceAdd, Int.reduceMul, Int.reduceSub, decide_true, decide_false, nc0, nc1, nc2, nc3, nc4, nc8, Nat.zero_add, Nat.mul_one, Nat.add_zero, numS, numH, wr, hL]
  refine cdC_split (fun q => ?_) (fun q => ?_)
  ·refine sw_draw (.take 0 (.take 1 (.take 2 (.take 3 (.take 5 (.take 6 (.take 7 (.all [(4, .all [(8, .take 9 (.all [(10, .all [(11, .take 12 (.take 13 (.all [(14, .done)])))])]))]), (8, .take 9 (.all [(4, .all [(10, .all [(11, .take 12 (.take 13 (.all [(14, .done)])))])]), (10, .all [(4, .all [(11, .take 12 (.take 13 (.all [(14, .done)])))])])]))])))))))) mo (by kernel_rfl) (by kernel_rfl) (by kernel_rfl) (fun _ _ _ h => h) ?_
   simp only [go_sem, ↓vmP2, ↓vmD, ↓vmK, ↓trK, ↓reduceIte, Int.reduceToNat, Int.reduceLT, Int.reduceLE, Int.reduceAdd, Int.reduceMul, Int.reduceSub, decide_true, decide_false, nc0, nc1, nc2, nc3, nc4, nc8, Nat.zero_add, Nat.mul_one, Nat.add_zero, cdW, zrow, List.replicate, List.flatten_cons, List.flatten_nil, by_len, by_take, by_snoc, Nat.le_refl, List.length_append, wr, lpP, w8, w9, w7, wl]
   have hq : i + 1 < n := by simp at q; omega
   refine ⟨by omega, by decide, ⟨by unfold maxLen; omega, by omega⟩, i + 2, [0, 1, 4], by omega, by omega, ⟨rfl, rfl, rfl, rfl, trivial⟩, rfl, by decide, rfl, ⟨?_, rfl, ?_, trivial⟩, by simp [roOk, numH, wr]⟩
   ·simp [numH, wr, rnB, rnS, ix, lows_len, lw]
    omega
   ·rw [show ∀ τ, rnB τ (.rw (byC (l ++ lows x (i + 2)))) = .rw (byC (l ++ lows x (i + 2))) from fun τ => by simp [rnB, rn_by]]
    rw [← lz]
    rfl
  ·have hq : i + 1 = n := by simp at q; omega
   subst hq
   rw [hL] at c
   exact c
end Go.Proofs.Ytahepinbmcgbnaa.Vm
