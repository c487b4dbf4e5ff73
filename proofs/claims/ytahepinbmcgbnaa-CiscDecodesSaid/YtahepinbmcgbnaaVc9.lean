/- Contracts of package cisc: what bytes tell. No condition. -/
import Derived.Test.YtahepinbmcgbnaaVc7
import Derived.Test.YtahepinbmcgbnaaVc8
import Derived.Test.YtahepinbmcgbnaaVmY
set_option maxRecDepth 100000
set_option linter.unusedVariables false
set_option linter.unusedSimpArgs false
namespace Go.Proofs.Ytahepinbmcgbnaa.Vm
open Go.RowKit Go.Proofs.Ytahepinbmcgbnaa.PV Go.Proofs.Ytahepinbmcgbnaa.Wd Go.Proofs.YtahepinbmcgbnaaW.PrintWords
attribute [local go_sem] opR moveR pickR allocR boxR ld1R ldgR ldR loadR st2R st1R storeR nilR faR fieldAddrR fdR fieldR ixR indexAddrR extR extractR intR shR isSh eqR bin2R sEqR intsOf binR unR convR miR panR fillP partsR bld2R bld1R buildR bldAR build2R ix1R indexR mxR mmR bs2R bs1R buildSliceR pvOf okT no1T noT taR mfR ptrsR ms1R makeSliceR bnd sl1R so1R sliceR argsR ca1R callR lenR ap2R srcR ap1R appendR lenA appA calR ev cst lk rm pt ins rmO ent gval cellsOf scell TI.agg Sh.agg re1 res1 resR is1 vmQ vmH vmE bin3R index2R strIxR ifR nnR stR oneP oneW opP vmQ2 tA0 tA1 tA2 tA3 tA4 tA5 tA6 tA7 tA8 tA9 tA10 tA11 tA12 tA13 tA14 tA15 oA0 oA1 oA2 oA3 oA4 oA5 oA6 oA7 oA8 oA9 oA10 oA11 oA12 oA13 oA14 reduceCtorEq Nat.reduceEqDiff Nat.reduceAdd Nat.reduceLeDiff Nat.reduceLT Nat.reduceMul Nat.reducePow Nat.reduceSub Int.reduceBEq Int.reduceBNe ne_eq Int.reduceEq not_false_eq_true Bool.false_eq_true Nat.reduceBEq List.getElem?_cons_zero List.getElem?_cons_succ List.map_cons List.map_nil List.length_cons List.length_nil List.drop_succ_cons List.drop_zero List.take_succ_cons List.take_zero List.take_nil List.drop_nil List.append_nil List.nil_append List.cons_append List.set_cons_zero List.set_cons_succ List.all_cons List.all_nil Bool.and_true Bool.and_self cond_true cond_false Option.map_some Option.map_none and_self true_and and_true List.append_eq
/-- What the bytes of an instruction tell, by its code. -/
def instO (l : List Int) (o : Int) : DR :=
 if o = 1 then iMovID l o else if o = 3 ∨ o = 26 then iMovD l o else if o = 4 then iBinD l o else if o = 5 then iBinID l o else if o = 6 then iBinMD l o
 else if o = 7 then iUnD l o else if o = 8 then iConvD l o else if o = 10 ∨ o = 11 ∨ o = 13 ∨ o = 12 ∨ o = 14 then memD l o
 else if o = 15 ∨ o = 16 ∨ o = 18 ∨ o = 17 ∨ o = 22 then flD l o else if o = 19 then iJmpD l o else if o = 23 then iCallD l o else if o = 25 then iChkD l o
 else if o = 29 then iPanicD l o else if o = 27 ∨ o = 28 then iEmitD l o else if o = 24 then iRetD l o else .form
def instD (l : List Int) : DR := if l.length = 0 then .short else instO l (l.getD 0 0)
theorem inst_wc (l : List Int) (K : Out → Hp → Prop) (hm : BY l) (c : InK l (instD l) K) : WC Try.prog 91 [.s (.p 0 0)] [rdr l.length 0 false, .ro (byC l)] K := by
 unfold instD at c
 by_cases q0 : l.length = 0
 ·rw [if_pos q0] at c
  exact iShort_wc l K hm q0 c
 rw [if_neg q0] at c
 have q : 0 < l.length := by omega
 rw [gd l 0 q] at c
 unfold instO at c
 by_cases h : l[0] = 1
 ·rw [if_pos h] at c; exact iMovI_wc l _ K hm q rfl h c
 rw [if_neg h] at c
 by_cases h : l[0] = 3 ∨ l[0] = 26
 ·rw [if_pos h] at c; exact iMov_wc l _ K hm q rfl h c
 rw [if_neg h] at c
 by_cases h : l[0] = 4
 ·rw [if_pos h] at c; exact iBin_wc l _ K hm q rfl h c
 rw [if_neg h] at c
 by_cases h : l[0] = 5
 ·rw [if_pos h] at c; exact iBinI_wc l _ K hm q rfl h c
 rw [if_neg h] at c
 by_cases h : l[0] = 6
 ·rw [if_pos h] at c; exact iBinM_wc l _ K hm q rfl h c
 rw [if_neg h] at c
 by_cases h : l[0] = 7
 ·rw [if_pos h] at c; exact iUn_wc l _ K hm q rfl h c
 rw [if_neg h] at c
 by_cases h : l[0] = 8
 ·rw [if_pos h] at c; exact iConv_wc l _ K hm q rfl h c
 rw [if_neg h] at c
 by_cases h : l[0] = 10 ∨ l[0] = 11 ∨ l[0] = 13 ∨ l[0] = 12 ∨ l[0] = 14
 ·rw [if_pos h] at c; exact iMem_wc l _ K hm q rfl h c
 rw [if_neg h] at c
 by_cases h : l[0] = 15 ∨ l[0] = 16 ∨ l[0] = 18 ∨ l[0] = 17 ∨ l[0] = 22
 ·rw [if_pos h] at c; exact iFl_wc l _ K hm q rfl h c
 rw [if_neg h] at c
 by_cases h : l[0] = 19
 ·rw [if_pos h] at c; exact iJmp_wc l _ K hm q rfl h c
 rw [if_neg h] at c
 by_cases h : l[0] = 23
 ·rw [if_pos h] at c; exact iCall_wc l _ K hm q rfl h c
 rw [if_neg h] at c
 by_cases h : l[0] = 25
 ·rw [if_pos h] at c; exact iChk_wc l _ K hm q rfl h c
 rw [if_neg h] at c
 by_cases h : l[0] = 29
 ·rw [if_pos h] at c; exact iPanic_wc l _ K hm q rfl h c
 rw [if_neg h] at c
 by_cases h : l[0] = 27 ∨ l[0] = 28
 ·rw [if_pos h] at c; exact iEmit_wc l _ K hm q rfl h c
 rw [if_neg h] at c
 by_cases h : l[0] = 24
 ·rw [if_pos h] at c; exact iRet_wc l _ K hm q rfl h c
 rw [if_neg h] at c
 refine iNone_wc l K hm q ?_ c
 simp only [codes, List.mem_cons, List.not_mem_nil, or_false]
 omega
def good (d : DR) : Prop := ∀ (n : Nat) (bad : Bool) (f : List SV), d = .ok n bad f → ∃ o a b c k s z i, f = iC o a b c k s z i 0
theorem good_ite {p : Prop} [Decidable p] {a b : DR} (x : good a) (y : good b) : good (if p then a else b) := by split; exact x; exact y
theorem good_short : good .short := fun _ _ _ h => by cases h
theorem good_form : good .form := fun _ _ _ h => by cases h
theorem good_ok (n : Nat) (bad : Bool) (o a b c k s z i : Int) : good (.ok n bad (iC o a b c k s z i 0)) := fun _ _ _ h => by injection h with _ _ h; exact ⟨_, _, _, _, _, _, _, _, h.symm⟩
theorem instD_good (l : List Int) : good (instD l) := by
 unfold instD instO iMovID iMovD iBinD iBinID iBinMD iUnD iConvD iJmpD iCallD iChkD iPanicD iEmitD iRetD memD flD
 repeat' apply good_ite
 all_goals first | exact good_short | exact good_form | exact good_ok _ _ _ _ _ _ _ _ _ _
theorem instD_len {l : List Int} {n : Nat} {bad : Bool} {f : List SV} (h : instD l = .ok n bad f) : ∃ o a b c k s z i, f = iC o a b c k s z i 0 := instD_good l n bad f h
def zI : List SV := iC 0 0 0 0 0 0 0 0 0
/-- The instruction, how many bytes it has, the error. -/
def decR (l : List Int) : List SV × Nat × Int := match instD l with
 | .short => (zI, 0, 41)
 | .form => (zI, 0, 40)
 | .ok n bad f => if bad = true then (zI, 0, 40) else (f, n, 0)
theorem caught_none (h : Hp) (K : Hp → Prop) (c : K h) : WF Try.prog 90 [.s (.p 1 0), .s (.p 2 0), .s (.p 3 0)] none h K := by
 refine wf_intro Try.func90 rfl rfl rfl rfl rfl rfl rfl rfl (by decide) (by decide) rfl (by kernel_rfl) (by simp [Try.f90]) ?_
 simp only [go_sem, ↓vmP2, ↓vmD, ↓vmK, ↓trK, ↓reduceIte, recV]
 exact c
set_option maxRecDepth 100000 in
theorem caught_some (x : Int) (b0 : Blk) (bs : List Blk) (K : Hp → Prop) (c : K (b0 :: .rw zI :: .rw [.a (.int .i64 0)] :: .rw [.a (.int .i64 x)] :: bs)) :
  WF Try.prog 90 [.s (.p 1 0), .s (.p 2 0), .s (.p 3 0)] (some (E x)) (b0 :: .rw zI :: .rw [.a (.int .i64 0)] :: .rw [.a (.int .i64 0)] :: bs) K := by
 refine wf_intro Try.func90 rfl rfl rfl rfl rfl rfl rfl rfl (by decide) (by decide) rfl (by kernel_rfl) (by simp [Try.f90]) ?_
 unfold zI iC at c
 simp only [go_sem, ↓vmP2, ↓vmD, ↓vmK, ↓trK, ↓reduceIte, recV, E, zI, iC]
 exact c
def npK (K : Cont) : Cont := fun e t h => match e with
 | .nor => K .nor t h
 | .exit n => K (.exit n) t h
 | .ret => K .ret t h
 | .pan _ => False
theorem sw_nopan {P : Program} {N : Nat} {c : Code} {t : Tm} {h : Hp} {K : Cont} (s : SW P N c t h (npK K)) : SW P N c t h K := by
 intro D B w a m k hd
 refine Code.wp_mono ?_ (s D B w a m k hd)
 rintro e a' w' ⟨x, t', h', B', kk, rest⟩
 refine ⟨x, t', h', B', ?_, rest⟩
 cases x with
 | pan _ => exact (kk : False).elim
 | _ => exact kk
def InK2 (l : List Int) (d : DR) (K : Out → Hp → Prop) : Prop := match d with
 | .short => ∀ a bs, K (.pan (E 41)) (a :: .ro (byC l) :: bs)
 | .form => ∀ a bs, K (.pan (E 40)) (a :: .ro (byC l) :: bs)
 | .ok n bad f => K (.ret (.g f)) [rdr l.length n bad, .ro (byC l)]
theorem two_le {h : Hp} (q : 2 ≤ h.length) : ∃ a b bs, h = a :: b :: bs := by
 cases h with
 | nil => simp at q
 | cons a h =>
  cases h with
  | nil => simp at q
  | cons b bs => exact ⟨a, b, bs, rfl⟩
theorem inst_keep (l : List Int) (K : Out → Hp → Prop) (hm : BY l) (c : InK2 l (instD l) K) : WC Try.prog 91 [.s (.p 0 0)] [rdr l.length 0 false, .ro (byC l)] K := by
 refine wc_ro 1 (byC l) rfl (inst_wc l _ hm ?_)
 unfold InK
 cases hd : instD l with
 | short =>
  rw [hd] at c
  intro h hl
  obtain ⟨a, b, bs, rfl⟩ := two_le hl
  exact c a bs
 | form =>
  rw [hd] at c
  intro h hl
  obtain ⟨a, b, bs, rfl⟩ := two_le hl
  exact c a bs
 | ok n bad f =>
  rw [hd] at c
  exact fun _ => c
theorem mrg40 (b0 b1 b2 b3 b4 a : Blk) (l : List Int) (bs : List Blk) : ∃ a' bs', mrg [4, 0] [b0, b1, b2, b3, b4] (a :: .ro (byC l) :: bs) = .ro (byC l) :: b1 :: b2 :: b3 :: a' :: bs' := by
 refine ⟨rnB (ix [4, 0] 5) a, bs.map (rnB (ix [4, 0] 5)), ?_⟩
 have e : rnB (ix [4, 0] 5) (.ro (byC l)) = .ro (byC l) := by simp [rnB, rn_by]
 simp only [mrg, List.length_cons, List.length_nil, Nat.zero_add, Nat.reduceAdd, List.take_succ_cons, List.take_zero, List.drop_succ_cons, List.drop_zero, List.map_cons, List.map_nil, setAll, List.set_cons_zero, List.set_cons_succ, List.cons_append, List.nil_append, e]
set_option maxRecDepth 100000 in
set_option maxHeartbeats 8000000 in
theorem decode_wc (l : List Int) (K : Out → Hp → Prop) (hm : BY l) (c : K (.ret (.t [.g (decR l).1, .s (.a (.int .i64 (decR l).2.1)), .s (.a (.int .i64 (decR l).2.2))])) [.ro (byC l)]) :
  WC Try.prog 47 [.s (.sl 0 0 l.length)] [.ro (byC l)] K := by
 refine wc_trunc 1 (by simp) ?_
 refine wc_defer (n := 6) (G := 90) Try.func47 rfl rfl rfl rfl rfl rfl rfl rfl (by decide) (by kernel_rfl) (by kernel_rfl) (by simp [Try.f47]) ok90 ?_
 simp only [go_sem, ↓vmP2, ↓vmD, ↓vmK, ↓trK, ↓reduceIte, Try.f47, dfK, dfC]
 refine wc_focus [4, 0] rfl (hc := [rdr l.length 0 false, .ro (byC l)]) ⟨rfl, by simp [rnB, rn_by], trivial⟩ (args' := [.s (.p 0 0)]) rfl rfl (inst_keep l _ hm ?_)
 cases hd : instD l with
 | short =>
  unfold decR at c
  rw [hd] at c
  intro a bs
  obtain ⟨a', bs', e⟩ := mrg40 (.ro (byC l)) _ _ _ _ a l bs
  rw [e]
  simp only [go_sem, ↓vmP2, ↓vmD, ↓vmK, ↓trK, ↓reduceIte, rnO, rnS, E, enD, cpP]
  refine caught_some 41 _ _ _ ?_
  unfold zI iC at c
  simp only [go_sem, ↓vmP2, ↓vmD, ↓vmK, ↓trK, ↓reduceIte, zI, iC, idV, idS, idB, idB_by, decide_true]
  exact c
 | form =>
  unfold decR at c
  rw [hd] at c
  intro a bs
  obtain ⟨a', bs', e⟩ := mrg40 (.ro (byC l)) _ _ _ _ a l bs
  rw [e]
  simp only [go_sem, ↓vmP2, ↓vmD, ↓vmK, ↓trK, ↓reduceIte, rnO, rnS, E, enD, cpP]
  refine caught_some 40 _ _ _ ?_
  unfold zI iC at c
  simp only [go_sem, ↓vmP2, ↓vmD, ↓vmK, ↓trK, ↓reduceIte, zI, iC, idV, idS, idB, idB_by, decide_true]
  exact c
 | ok n bad f =>
  obtain ⟨o, a, b, c', k, s, z, i, rfl⟩ := instD_len hd
  unfold decR at c
  rw [hd] at c
  unfold InK2
  have e : ∀ b1 b2 b3 b4, mrg [4, 0] [.ro (byC l), b1, b2, b3, b4] [rdr l.length n bad, .ro (byC l)] = [.ro (byC l), b1, b2, b3, .rw [.sl 0 0 l.length, .a (.int .i64 n), .a (.bool bad)]] := fun b1 b2 b3 b4 => by
   simp only [mrg, List.length_cons, List.length_nil, Nat.zero_add, Nat.reduceAdd, List.take_succ_cons, List.take_zero, List.take_nil, List.drop_succ_cons, List.drop_zero, List.drop_nil, List.map_cons, List.map_nil, List.append_nil, setAll, List.set_cons_zero, List.set_cons_succ, rnB, rn_by, rdr, rnS]
   rfl
  dsimp only
  rw [e]
  cases bad with
  | true =>
   unfold zI iC at c
   simp only [if_true] at c
   simp only [go_sem, ↓vmP2, ↓vmD, ↓vmK, ↓trK, ↓reduceIte, rnO, rnP, rnS, iC, enD, cpP]
   refine caught_none _ _ ?_
   simp only [go_sem, ↓vmP2, ↓vmD, ↓vmK, ↓trK, ↓reduceIte, zI, iC, idV, idS, idB, idB_by, decide_true]
   exact c
  | false =>
   unfold iC at c
   simp only [Bool.false_eq_true, if_false] at c
   simp only [go_sem, ↓vmP2, ↓vmD, ↓vmK, ↓trK, ↓reduceIte, rnO, rnP, rnS, iC, enD, cpP]
   refine sw_nopan (sw_draw (.take 1 (.take 2 (.take 3 (.all [(0, .all [(4, .all [(5, .all [(6, .all [(7, .done)])])]), (5, .all [(4, .all [(6, .all [(7, .done)])])])]), (4, .all [(0, .all [(5, .all [(6, .all [(7, .done)])])])])])))) mo (by kernel_rfl) (by kernel_rfl) (by kernel_rfl) (fun _ _ _ h => h) ?_)
   simp only [go_sem, ↓vmP2, ↓vmD, ↓vmK, ↓trK, ↓reduceIte, npK, enD, cpP]
   refine caught_none _ _ ?_
   simp only [go_sem, ↓vmP2, ↓vmD, ↓vmK, ↓trK, ↓reduceIte, idV, idS, idB, idB_by, decide_true]
   exact c
end Go.Proofs.Ytahepinbmcgbnaa.Vm
