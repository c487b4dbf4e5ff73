/- gantryref4's bytes of a number, a number's bytes. No condition. -/
import Derived.Test.YtahepinbmcgbnaaVr2
set_option linter.unusedVariables false
set_option linter.unusedSimpArgs false
namespace Go.Proofs.Ytahepinbmcgbnaa.Vm
open Go.RowKit Go.Proofs.Ytahepinbmcgbnaa.PV Go.Proofs.Ytahepinbmcgbnaa.Wd Go.Proofs.YtahepinbmcgbnaaW.PrintWords
attribute [local go_sem] opR moveR pickR allocR boxR ld1R ldgR ldR loadR st2R st1R storeR nilR faR fieldAddrR fdR fieldR ixR indexAddrR extR extractR intR shR isSh eqR bin2R sEqR intsOf binR unR convR miR panR fillP partsR bld2R bld1R buildR bldAR build2R ix1R indexR mxR mmR bs2R bs1R buildSliceR pvOf okT no1T noT taR mfR ptrsR ms1R makeSliceR bnd sl1R so1R sliceR argsR ca1R callR lenR ap2R srcR ap1R appendR lenA appA calR ev cst lk rm pt ins rmO ent gval cellsOf scell TI.agg Sh.agg re1 res1 resR is1 vmQ vmH vmE bin3R index2R strIxR ifR nnR stR oneP oneW opP vmQ2 tA0 tA1 tA2 tA3 tA4 tA5 tA6 tA7 tA8 tA9 tA10 tA11 tA12 tA13 tA14 tA15 oA0 oA1 oA2 oA3 oA4 oA5 oA6 oA7 oA8 oA9 oA10 oA11 oA12 oA13 oA14 reduceCtorEq Nat.reduceEqDiff Nat.reduceAdd Nat.reduceLeDiff Nat.reduceLT Nat.reduceMul Nat.reducePow Nat.reduceSub Int.reduceBEq Int.reduceBNe ne_eq Int.reduceEq not_false_eq_true Bool.false_eq_true Nat.reduceBEq List.getElem?_cons_zero List.getElem?_cons_succ List.map_cons List.map_nil List.length_cons List.length_nil List.drop_succ_cons List.drop_zero List.take_succ_cons List.take_zero List.take_nil List.drop_nil List.append_nil List.nil_append List.cons_append List.set_cons_zero List.set_cons_succ List.all_cons List.all_nil Bool.and_true Bool.and_self cond_true cond_false Option.map_some Option.map_none and_self true_and and_true List.append_eq Int.reduceToNat Int.reduceLT Int.reduceLE Int.reduceAdd Int.reduceMul Int.reduceSub decide_true decide_false nc0 nc1 nc2 nc3 nc4 nc8 Nat.zero_add Nat.mul_one Nat.add_zero
theorem low_u (x : Int) (i : Nat) (hi : i < 8) : IntKind.u8.wrap ((IntKind.u64.wrap x).fdiv (2 ^ (8 * i))) = lowF x i := by
  unfold lowF
  rw [u8w, u8w, u64w, Int.fdiv_eq_ediv_of_nonneg _ (by exact Int.le_of_lt (Int.pow_pos (by decide))), Int.fdiv_eq_ediv_of_nonneg _ (by exact Int.le_of_lt (Int.pow_pos (by decide)))]
  match i, hi with
  | 0, _ => omega
  | 1, _ => omega
  | 2, _ => omega
  | 3, _ => omega
  | 4, _ => omega
  | 5, _ => omega
  | 6, _ => omega
  | 7, _ => omega
def lowH (l : List Int) (x : Int) : Nat → Hp
  | 0 => [.rw (byC l)]
  | i + 1 => [.dead, .rw (byC (l ++ lows x (i + 1)))]
def lowS (l : List Int) (x : Int) (n : Nat) : Nat → Tm
  | 0 => [(7, .s (.a (.int .i64 0))), (2, .s (.a (.int .i64 n))), (1, .s (.a (.int .i64 x))), (0, .s (.so 0 l.length 1 5))]
  | i + 1 => [(7, .s (.a (.int .i64 ((i + 1 : Nat) : Int)))), (2, .s (.a (.int .i64 n))), (1, .s (.a (.int .i64 x))), (0, .s (.so 1 (l ++ lows x (i + 1)).length 1 5))]
set_option maxRecDepth 100000 in
set_option maxHeartbeats 8000000 in
theorem low_wc (l : List Int) (x : Int) (n : Nat) (K : Out → Hp → Prop) (hl : l.length ≤ 1000) (hn : 1 ≤ n ∧ n ≤ 8) (c : K (.ret (.s (.so 1 (l ++ lows x n).length 1 5))) [.dead, .rw (byC (l ++ lows x n))]) :
    WC Try.prog 88 [.s (.so 0 l.length 1 5), .s (.a (.int .i64 x)), .s (.a (.int .i64 n))] [.rw (byC l)] K := by
  refine wc_intro Try.func88 rfl rfl (by kernel_rfl) (by simp [Try.f88]) ?_
  simp only [go_sem, ↓vmP2, ↓vmD, ↓vmK, ↓trK, ↓reduceIte, Try.f88]
  refine sw_loopP (ι := Nat) (n := 1) (fun i => i ≤ n) (lowS l x n) (lowH l x) (fun i => n - i) 0 (by kernel_rfl) (by omega) (by simp only [go_sem, ↓vmP2, ↓vmD, ↓vmK, ↓trK, ↓reduceIte, subT, lowS]) rfl rfl ?_
  intro i hi
  have w8 : IntKind.i64.wrap (8 * (i : Int)) = ((8 * i : Nat) : Int) := by rw [wrap_id _ (by omega) (by unfold maxLen; omega)]; push_cast; rfl
  have w9 : IntKind.i64.wrap ((i : Int) + 1) = ((i + 1 : Nat) : Int) := by rw [wrap_id _ (by omega) (by unfold maxLen; omega)]; push_cast; rfl
  have w7 : min ((8 * i : Nat) : Int).toNat 64 = 8 * i := by omega
  have w10 : IntKind.u64.wrap ((8 * i : Nat) : Int) = ((8 * i : Nat) : Int) := uwrap_id _ (by omega) (by unfold maxLen; omega)
  cases i with
  | zero =>
    have z1 : IntKind.i64.wrap 0 = 0 := rfl
    have z2 : IntKind.u64.wrap 0 = 0 := rfl
    have z3 : min 0 64 = 0 := rfl
    have z4 := low_u x 0 (by omega)
    rw [Nat.mul_zero] at z4
    have z5 : IntKind.i64.wrap 1 = 1 := rfl
    simp only [go_sem, ↓vmP2, ↓vmD, ↓vmK, ↓trK, ↓reduceIte, lowS, lowH]
    refine cdC_split (fun q => ?_) (fun q => absurd q (by simp; omega))
    simp only [go_sem, ↓vmP2, ↓vmD, ↓vmK, ↓trK, ↓reduceIte, zrow, List.replicate, List.flatten_cons, List.flatten_nil, lpP, z1, z2, z3, z4, z5, by_len, by_take, by_snoc, Nat.le_refl, List.length_append]
    refine ⟨by decide, ⟨by unfold maxLen; omega, by omega⟩, 1, [0, 2], by omega, by omega, ?_, rfl, by decide, rfl, ⟨rfl, ?_, trivial⟩, by simp [roOk, lowH]⟩
    · exact ⟨rfl, rfl, rfl, by rw [show (l ++ lows x (0 + 1)).length = l.length + 1 by simp [lows_len]]; rfl, trivial⟩
    · rw [show ∀ τ, rnB τ (.rw (byC (l ++ lows x 1))) = .rw (byC (l ++ lows x 1)) from fun τ => by simp [rnB, rn_by]]
      rfl
  | succ i =>
    have lw : (l ++ lows x (i + 1)).length = l.length + (i + 1) := by simp [lows_len]
    have lz := lows_succ l x (i + 1)
    have z4 := fun (q : i + 1 < n) => low_u x (i + 1) (by omega)
    generalize hL : l ++ lows x (i + 1) = L at lw lz
    simp only [go_sem, ↓vmP2, ↓vmD, ↓vmK, ↓trK, ↓reduceIte, lowS, lowH, hL]
    refine cdC_split (fun q => ?_) (fun q => ?_)
    · have hq : i + 1 < n := by simp at q; omega
      simp only [go_sem, ↓vmP2, ↓vmD, ↓vmK, ↓trK, ↓reduceIte, zrow, List.replicate, List.flatten_cons, List.flatten_nil, lpP, w7, w8, w9, w10, z4 hq, by_len, by_take, by_snoc, Nat.le_refl, List.length_append]
      have lx : (l ++ lows x (i + 1 + 1)).length = L.length + 1 := by rw [← lz]; simp
      refine ⟨by omega, by decide, ⟨by unfold maxLen; omega, by omega⟩, i + 2, [0, 3], by omega, by omega, ?_, rfl, by decide, rfl, ⟨rfl, ?_, trivial⟩, by simp [roOk, lowH]⟩
      · exact ⟨rfl, rfl, rfl, by rw [lx]; rfl, trivial⟩
      · rw [show ∀ τ, rnB τ (.rw (byC (l ++ lows x (i + 1 + 1)))) = .rw (byC (l ++ lows x (i + 1 + 1))) from fun τ => by simp [rnB, rn_by]]
        rw [← lz]
        rfl
    · have hq : i + 1 = n := by simp at q; omega
      subst hq
      rw [hL] at c
      simp only [go_sem, ↓vmP2, ↓vmD, ↓vmK, ↓trK, ↓reduceIte]
      exact c
/-- A number's bytes from the highest on. -/
def hiR (l : List Int) (at_ n : Nat) : Nat → Int
  | 0 => 0
  | j + 1 => IntKind.u64.wrap (BitVec.ofInt 64 (IntKind.u64.wrap (hiR l at_ n j * 2 ^ 8)) ||| BitVec.ofInt 64 (IntKind.u64.wrap (l.getD (at_ + (n - 1 - j)) 0))).toNat
def numT (l : List Int) (at_ n : Nat) (j : Nat) : Tm := [(8, .s (.a (.int .i64 ((n : Int) - 1 - j)))), (7, .s (.a (.int .u64 (hiR l at_ n j)))), (2, .s (.a (.int .i64 n))), (1, .s (.a (.int .i64 at_))), (0, .s (.sl 0 0 l.length))]
set_option maxRecDepth 100000 in
set_option maxHeartbeats 8000000 in
theorem rnum_wc (l : List Int) (at_ n : Nat) (K : Out → Hp → Prop) (hm : BY l) (hle : at_ + n ≤ l.length) (hn : 1 ≤ n ∧ n ≤ 8) (c : K (.ret (.s (.a (.int .i64 (sgR n (hiR l at_ n n)))))) [.ro (byC l)]) :
    WC Try.prog 126 [.s (.sl 0 0 l.length), .s (.a (.int .i64 at_)), .s (.a (.int .i64 n))] [.ro (byC l)] K := by
  have hml := hm.1
  unfold maxLen at hml
  refine wc_intro Try.func126 rfl rfl (by kernel_rfl) (by simp [Try.f126]) ?_
  have n1 : IntKind.i64.wrap ((n : Int) - 1) = (n : Int) - 1 := wrap_id _ (by omega) (by unfold maxLen; omega)
  simp only [go_sem, ↓vmP2, ↓vmD, ↓vmK, ↓trK, ↓reduceIte, Try.f126, n1]
  refine sw_loop (ι := Nat) (fun j => j ≤ n) (numT l at_ n) (fun _ => [.ro (byC l)]) (fun j => n - j) 0 (by kernel_rfl) (by omega) (by refine ⟨?_, rfl, rfl, rfl, rfl, trivial⟩; show some _ = some _; rw [show ((n : Int) - 1 - ((0 : Nat) : Int)) = (n : Int) - 1 by omega]) rfl ?_
  intro j hj
  simp only [go_sem, ↓vmP2, ↓vmD, ↓vmK, ↓trK, ↓reduceIte, numT]
  refine cdC_split (fun q => ?_) (fun q => ?_)
  · have hq : j < n := by simp at q; omega
    have e1 : IntKind.i64.wrap ((at_ : Int) + ((n : Int) - 1 - j)) = ((at_ + (n - 1 - j) : Nat) : Int) := by rw [wrap_id _ (by omega) (by unfold maxLen; omega)]; omega
    have hlt : at_ + (n - 1 - j) < l.length := by omega
    have eg : l.getD (at_ + (n - 1 - j)) 0 = l[at_ + (n - 1 - j)] := by simp [hlt]
    have m8 : min 8 64 = 8 := rfl
    have e4 : IntKind.i64.wrap ((n : Int) - 1 - j - 1) = (n : Int) - 1 - ((j + 1 : Nat) : Int) := by rw [i64_in _ (by omega) (by omega)]; omega
    simp only [go_sem, ↓vmP2, ↓vmD, ↓vmK, ↓trK, ↓reduceIte, e1, ldC_by l _ hlt, Int.toNat_natCast, m8, e4]
    refine ⟨by omega, j + 1, by omega, by omega, ⟨rfl, ?_, rfl, rfl, rfl, trivial⟩⟩
    rw [← eg]
    rfl
  · have hq : j = n := by simp at q; omega
    subst hq
    have e2 : IntKind.i64.wrap (8 * (j : Int)) = ((8 * j : Nat) : Int) := by rw [wrap_id _ (by omega) (by unfold maxLen; omega)]; push_cast; rfl
    have e3 : IntKind.i64.wrap (64 - ((8 * j : Nat) : Int)) = ((64 - 8 * j : Nat) : Int) := by rw [wrap_id _ (by omega) (by unfold maxLen; omega)]; omega
    have e5 : IntKind.u64.wrap ((64 - 8 * j : Nat) : Int) = ((64 - 8 * j : Nat) : Int) := uwrap_id _ (by omega) (by unfold maxLen; omega)
    have e4 : min ((64 - 8 * j : Nat) : Int).toNat 64 = 64 - 8 * j := by omega
    simp only [go_sem, ↓vmP2, ↓vmD, ↓vmK, ↓trK, ↓reduceIte, e2, e3, e4, e5, sg_u]
    exact ⟨by omega, by omega, c⟩
theorem mlL : ((1 ≤ 140737488355327) = True) ∧ ((2 ≤ 140737488355327) = True) ∧ ((3 ≤ 140737488355327) = True) ∧ ((4 ≤ 140737488355327) = True) ∧ ((4 ≤ maxLen) = True) ∧ ((5 ≤ maxLen) = True) := by simp [maxLen]
end Go.Proofs.Ytahepinbmcgbnaa.Vm
