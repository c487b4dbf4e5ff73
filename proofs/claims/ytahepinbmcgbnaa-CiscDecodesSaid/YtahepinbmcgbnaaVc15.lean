/- Contracts of package cisc: Encode. No condition. -/
import Derived.Test.YtahepinbmcgbnaaVc14
import Derived.Test.YtahepinbmcgbnaaVc9
set_option linter.unusedVariables false
set_option linter.unusedSimpArgs false
namespace Go.Proofs.Ytahepinbmcgbnaa.Vm
open Go.RowKit Go.Proofs.Ytahepinbmcgbnaa.PV Go.Proofs.Ytahepinbmcgbnaa.Wd Go.Proofs.YtahepinbmcgbnaaW.PrintWords
attribute [local go_sem] opR moveR pickR allocR boxR ld1R ldgR ldR loadR st2R st1R storeR nilR faR fieldAddrR fdR fieldR ixR indexAddrR extR extractR intR shR isSh eqR bin2R sEqR intsOf binR unR convR miR panR fillP partsR bld2R bld1R buildR bldAR build2R ix1R indexR mxR mmR bs2R bs1R buildSliceR pvOf okT no1T noT taR mfR ptrsR ms1R makeSliceR bnd sl1R so1R sliceR argsR ca1R callR lenR ap2R srcR ap1R appendR lenA appA calR ev cst lk rm pt ins rmO ent gval cellsOf scell TI.agg Sh.agg re1 res1 resR is1 vmQ vmH vmE bin3R index2R strIxR ifR nnR stR oneP oneW opP vmQ2 tA0 tA1 tA2 tA3 tA4 tA5 tA6 tA7 tA8 tA9 tA10 tA11 tA12 tA13 tA14 tA15 oA0 oA1 oA2 oA3 oA4 oA5 oA6 oA7 oA8 oA9 oA10 oA11 oA12 oA13 oA14 reduceCtorEq Nat.reduceEqDiff Nat.reduceAdd Nat.reduceLeDiff Nat.reduceLT Nat.reduceMul Nat.reducePow Nat.reduceSub Int.reduceBEq Int.reduceBNe ne_eq Int.reduceEq not_false_eq_true Bool.false_eq_true Nat.reduceBEq List.getElem?_cons_zero List.getElem?_cons_succ List.map_cons List.map_nil List.length_cons List.length_nil List.drop_succ_cons List.drop_zero List.take_succ_cons List.take_zero List.take_nil List.drop_nil List.append_nil List.nil_append List.cons_append List.set_cons_zero List.set_cons_succ List.all_cons List.all_nil Bool.and_true Bool.and_self cond_true cond_false Option.map_some Option.map_none and_self true_and and_true List.append_eq Int.reduceToNat Int.reduceLT Int.reduceLE Int.reduceAdd Int.reduceMul Int.reduceSub decide_true decide_false nc0 nc1 nc2 nc3 nc4 nc8 Nat.zero_add Nat.mul_one Nat.add_zero
theorem u8_eq (x : Int) : u8 x = x % 256 := by
 simp [u8, IntKind.wrap, IntKind.bits, IntKind.signed]
theorem u8_rng (x : Int) : 0 ≤ u8 x ∧ u8 x ≤ 255 := by
 rw [u8_eq]; omega
theorem lows_rng (x : Int) (n : Nat) : ∀ y ∈ lows x n, 0 ≤ y ∧ y ≤ 255 := by
 intro y hy
 obtain ⟨j, _, rfl⟩ := List.mem_map.1 hy
 exact u8_rng _
def rng (l : List Int) : Prop := ∀ y ∈ l, 0 ≤ y ∧ y ≤ 255
theorem rng_1 (x : Int) : rng [u8 x] := by intro y hy; simp at hy; subst hy; exact u8_rng x
theorem rng_app {l r : List Int} (a : rng l) (b : rng r) : rng (l ++ r) := by
 intro y hy
 rcases List.mem_append.1 hy with h | h
 ·exact a y h
 ·exact b y h
theorem lay_rng (o a b c k s z i : Int) : rng (layF o a b c k s z i) := by
 cases h : isOp o with
 | false => rw [lay_none o a b c k s z i h]; exact rng_1 o
 | true =>
  rcases isOp_cases o h with rfl | rfl | rfl | rfl | rfl | rfl | rfl | rfl | rfl | rfl | rfl | rfl | rfl | rfl | rfl | rfl | rfl | rfl | rfl | rfl | rfl | rfl | rfl | rfl | rfl
  all_goals simp only [lay_1, lay_3, lay_4, lay_5, lay_6, lay_7, lay_8, lay_10, lay_11, lay_12, lay_13, lay_14, lay_15, lay_16, lay_17, lay_18, lay_19, lay_22, lay_23, lay_24, lay_25, lay_26, lay_27, lay_28, lay_29]
  all_goals repeat' first | exact rng_1 _ | exact lows_rng _ _ | apply rng_app
theorem lay_len (o a b c k s z i : Int) : 1 ≤ (layF o a b c k s z i).length ∧ (layF o a b c k s z i).length ≤ 12 := by
 have := bF_le (leastF i)
 cases h : isOp o with
 | false => rw [lay_none o a b c k s z i h]; simp
 | true =>
  rcases isOp_cases o h with rfl | rfl | rfl | rfl | rfl | rfl | rfl | rfl | rfl | rfl | rfl | rfl | rfl | rfl | rfl | rfl | rfl | rfl | rfl | rfl | rfl | rfl | rfl | rfl | rfl
  all_goals simp only [lay_1, lay_3, lay_4, lay_5, lay_6, lay_7, lay_8, lay_10, lay_11, lay_12, lay_13, lay_14, lay_15, lay_16, lay_17, lay_18, lay_19, lay_22, lay_23, lay_24, lay_25, lay_26, lay_27, lay_28, lay_29]
  all_goals simp [lows_len]
  all_goals omega
theorem BY_of {l : List Int} (h : rng l) (q : l.length ≤ 4000000) : BY l := ⟨by simp only [maxLen]; omega, fun k hk => h _ (List.getElem_mem hk)⟩
theorem lay_BY (o a b c k s z i : Int) : BY (layF o a b c k s z i) := BY_of (lay_rng o a b c k s z i) (by have := (lay_len o a b c k s z i).2; omega)
theorem decR_iC (l : List Int) : ∃ o a b c k s z i n e, decR l = (iC o a b c k s z i 0, n, e) := by
 unfold decR
 cases hd : instD l with
 | short => exact ⟨0, 0, 0, 0, 0, 0, 0, 0, 0, 41, rfl⟩
 | form => exact ⟨0, 0, 0, 0, 0, 0, 0, 0, 0, 40, rfl⟩
 | ok n bad f =>
  obtain ⟨o, a, b, c, k, s, z, i, rfl⟩ := instD_len hd
  cases bad
  ·exact ⟨o, a, b, c, k, s, z, i, n, 0, rfl⟩
  ·exact ⟨0, 0, 0, 0, 0, 0, 0, 0, 0, 40, rfl⟩
set_option maxRecDepth 100000 in
set_option maxHeartbeats 16000000 in
theorem encode_wc (o a b c k s z i m : Int) (K : Out → Hp → Prop)
  (c0 : decR (layF o a b c k s z i) = (iC o a b c k s z i m, (layF o a b c k s z i).length, 0) → K (.ret (.t [.s (.so 0 (layF o a b c k s z i).length 1 5), .s (.a (.int .i64 0))])) [.rw (byC (layF o a b c k s z i))])
  (c1 : decR (layF o a b c k s z i) ≠ (iC o a b c k s z i m, (layF o a b c k s z i).length, 0) → K (.ret (.t [.s (.a (.slice none 0 0)), .s (.a (.int .i64 40))])) []) :
  WC Try.prog 42 [.g (iC o a b c k s z i m)] [] K := by
 refine wc_pick ?_
 refine wc_intro Try.func42 rfl rfl (by kernel_rfl) (by simp [Try.f42]) ?_
 simp only [go_sem, ↓vmP2, ↓vmD, ↓vmK, ↓trK, ↓reduceIte, Try.f42, iC]
 refine wc_focus [1] rfl (hc := [.rw [.a (.slice none 0 0)]]) ⟨rfl, trivial⟩ (args' := [.s (.p 0 0), .g (iC o a b c k s z i m)]) rfl rfl (winst o a b c k s z i m _ ?_)
 simp only [rnO, rnP, mrg, setAll, rnB, rnS, ix, List.length_cons, List.length_nil, List.take_succ_cons, List.take_zero, List.take_nil, List.drop_succ_cons, List.drop_zero, List.drop_nil, List.map_cons, List.map_nil, List.getElem?_nil, List.getElem?_cons_zero, List.getElem?_cons_succ, List.set_cons_zero, List.set_cons_succ, List.cons_append, List.nil_append, List.append_nil, Nat.zero_add, Nat.reduceAdd, Nat.reduceSub, rn_by, wr]
 simp only [go_sem, ↓vmP2, ↓vmD, ↓vmK, ↓trK, ↓reduceIte]
 have hby := lay_BY o a b c k s z i
 obtain ⟨o', a', b', c', k', s', z', i', n', e', hd⟩ := decR_iC (layF o a b c k s z i)
 rw [hd] at c0 c1
 generalize layF o a b c k s z i = L at *
 refine wc_lend 2 (byC L) rfl ?_
 refine wc_view (args' := [.s (.sl 2 0 L.length)]) ⟨⟨rfl, rfl, rfl⟩, trivial⟩ ?_
 refine wc_focus [2] rfl (hc := [.ro (byC L)]) ⟨by simp [rnB, rn_by], trivial⟩ (args' := [.s (.sl 0 0 L.length)]) rfl rfl (decode_wc L _ hby ?_)
 rw [hd]
 simp only [rnO, rnP, mrg, setAll, rnB, rnS, ix, List.length_cons, List.length_nil, List.take_succ_cons, List.take_zero, List.take_nil, List.drop_succ_cons, List.drop_zero, List.drop_nil, List.map_cons, List.map_nil, List.getElem?_nil, List.getElem?_cons_zero, List.getElem?_cons_succ, List.set_cons_zero, List.set_cons_succ, List.cons_append, List.nil_append, List.append_nil, Nat.zero_add, Nat.reduceAdd, Nat.reduceSub, rn_by, iC]
 intro _
 simp only [go_sem, ↓vmP2, ↓vmD, ↓vmK, ↓trK, ↓reduceIte]
 cases h1 : (e' != 0) with
 | true =>
  simp only [go_sem, ↓vmP2, ↓vmD, ↓vmK, ↓trK, ↓reduceIte, h1]
  exact ⟨[], [], .t [.s (.a (.slice none 0 0)), .s (.a (.int .i64 40))], rfl, by simp, rfl, trivial, by simp [roOk], rfl, c1 (by rintro q; cases q; simp at h1)⟩
 | false =>
  cases h2 : ((n' : Int) != (L.length : Int)) with
  | true =>
   simp only [go_sem, ↓vmP2, ↓vmD, ↓vmK, ↓trK, ↓reduceIte, h1, h2]
   exact ⟨[], [], .t [.s (.a (.slice none 0 0)), .s (.a (.int .i64 40))], rfl, by simp, rfl, trivial, by simp [roOk], rfl, c1 (by rintro q; cases q; simp at h2)⟩
  | false =>
   simp only [go_sem, ↓vmP2, ↓vmD, ↓vmK, ↓trK, ↓reduceIte, h1, h2]
   refine cdC_split (fun y => ?_) (fun y => ?_)
   ·simp only [go_sem, ↓vmP2, ↓vmD, ↓vmK, ↓trK, ↓reduceIte]
    exact ⟨[], [], .t [.s (.a (.slice none 0 0)), .s (.a (.int .i64 40))], rfl, by simp, rfl, trivial, by simp [roOk], rfl, c1 (by rintro q; simp only [iC, Prod.mk.injEq, List.cons.injEq, SV.a.injEq, Value.int.injEq] at q; simp [q] at y)⟩
   ·simp only [go_sem, ↓vmP2, ↓vmD, ↓vmK, ↓trK, ↓reduceIte]
    have e1 : e' = 0 := by simpa using h1
    have e2 : n' = L.length := by
     have : (n' : Int) = (L.length : Int) := by simpa using h2
     omega
    have e3 : [o', a', b', c', k', s', z', i', 0] = [o, a, b, c, k, s, z, i, m] := by simpa using y
    injection e3 with y1 e3
    injection e3 with y2 e3
    injection e3 with y3 e3
    injection e3 with y4 e3
    injection e3 with y5 e3
    injection e3 with y6 e3
    injection e3 with y7 e3
    injection e3 with y8 e3
    injection e3 with y9 e3
    exact ⟨[2], [.rw (byC L)], .t [.s (.so 0 L.length 1 5), .s (.a (.int .i64 0))], rfl, by simp, rfl, ⟨by simp only [rnB, rn_by]; rfl, trivial⟩, by simp [roOk], rfl, c0 (by rw [e1, e2, y1, y2, y3, y4, y5, y6, y7, y8, y9])⟩
end Go.Proofs.Ytahepinbmcgbnaa.Vm
