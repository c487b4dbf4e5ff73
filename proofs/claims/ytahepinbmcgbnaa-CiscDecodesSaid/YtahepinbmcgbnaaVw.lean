/- Contracts of package word's functions, as far as cisc asks: over words that are 0. No condition. -/
import Derived.Test.YtahepinbmcgbnaaVt
import Derived.Test.YtahepinbmcgbnaaVmY
import Derived.Test.YtahepinbmcgbnaaWx
import Derived.Test.YtahepinbmcgbnaaVMore
import Derived.Test.YtahepinbmcgbnaaPVy
set_option maxRecDepth 100000
set_option linter.unusedVariables false
set_option linter.unusedSimpArgs false
namespace Go.Proofs.Ytahepinbmcgbnaa.Vm
open Go.RowKit Go.Proofs.Ytahepinbmcgbnaa.PV Go.Proofs.Ytahepinbmcgbnaa.Wd Go.Proofs.YtahepinbmcgbnaaW.PrintWords
theorem wk : Wi 1 = 1 ∧ Wi 2 = 8 ∧ Wi 3 = 16 ∧ Wi 4 = 32 ∧ Wi 5 = 64 ∧ Wi 6 = 8 ∧ Wi 7 = 16 ∧ Wi 8 = 32 ∧ Wi 9 = 64 ∧ Wi 10 = 64 ∧ Wi 11 = 64 := by decide
theorem sk : sg 1 = false ∧ sg 2 = true ∧ sg 3 = true ∧ sg 4 = true ∧ sg 5 = true ∧ sg 6 = false ∧ sg 7 = false ∧ sg 8 = false ∧ sg 9 = false ∧ sg 10 = false ∧ sg 11 = false := by decide
theorem i64s : IntKind.i64.wrap (64 - 1) = 63 ∧ IntKind.i64.wrap (64 - 8) = 56 ∧ IntKind.i64.wrap (64 - 16) = 48 ∧ IntKind.i64.wrap (64 - 32) = 32 ∧ IntKind.i64.wrap (64 - 64) = 0 := by decide
theorem i64t : IntKind.i64.wrap 63 = 63 ∧ IntKind.i64.wrap 56 = 56 ∧ IntKind.i64.wrap 48 = 48 ∧ IntKind.i64.wrap 32 = 32 ∧ IntKind.i64.wrap 0 = 0 ∧ IntKind.u64.wrap 0 = 0 := by decide
theorem zp (n : Nat) : (0 : Int) * 2 ^ n = 0 := Int.zero_mul _
theorem zf (n : Nat) : (0 : Int).fdiv (2 ^ n) = 0 := Int.zero_fdiv _
attribute [local go_sem] opR moveR pickR allocR boxR ld1R ldgR ldR loadR st2R st1R storeR nilR faR fieldAddrR fdR fieldR ixR indexAddrR extR extractR intR shR isSh eqR bin2R sEqR intsOf binR unR convR miR panR fillP partsR bld2R bld1R buildR bldAR build2R ix1R indexR mxR mmR bs2R bs1R buildSliceR pvOf okT no1T noT taR mfR ptrsR ms1R makeSliceR bnd sl1R so1R sliceR argsR ca1R callR lenR ap2R srcR ap1R appendR lenA appA calR ev cst lk rm pt ins rmO ent gval cellsOf scell TI.agg Sh.agg re1 res1 resR is1 vmQ vmH vmE bin3R index2R strIxR ifR nnR stR oneP oneW opP vmQ2 tA0 tA1 tA2 tA3 tA4 tA5 tA6 tA7 tA8 tA9 tA10 tA11 tA12 tA13 tA14 tA15 oA0 oA1 oA2 oA3 oA4 oA5 oA6 oA7 oA8 oA9 oA10 oA11 oA12 oA13 oA14 reduceCtorEq Nat.reduceEqDiff Nat.reduceAdd Nat.reduceLeDiff Nat.reduceLT Nat.reduceMul Nat.reducePow Nat.reduceSub Int.reduceBEq Int.reduceBNe ne_eq Int.reduceEq not_false_eq_true Bool.false_eq_true Nat.reduceBEq List.getElem?_cons_zero List.getElem?_cons_succ List.map_cons List.map_nil List.length_cons List.length_nil List.drop_succ_cons List.drop_zero List.take_succ_cons List.take_zero List.take_nil List.drop_nil List.append_nil List.nil_append List.cons_append List.set_cons_zero List.set_cons_succ List.all_cons List.all_nil Bool.and_true Bool.and_self cond_true cond_false Option.map_some Option.map_none and_self true_and and_true List.append_eq Int.reduceToNat Int.reduceLT Int.reduceLE Int.reduceAdd Int.reduceMul Int.reduceSub decide_true decide_false Nat.zero_add wk sk i64s i64t zp zf Bool.not_true Bool.not_false Int.reduceGT Int.reduceGE ge_iff_le gt_iff_lt
theorem width_wc (k : Int) (h : Hp) (K : Out → Hp → Prop) (c : K (.ret (.s (.a (.int .i64 (Wi k))))) h) : WC Try.prog 22 [.s (.a (.int .i64 k))] h K := by
  refine wc_intro Try.func22 rfl rfl (by kernel_rfl) (by simp [Try.f22]) ?_
  by_cases hk : 1 ≤ k ∧ k ≤ 11
  · rcases (show k = 1 ∨ k = 2 ∨ k = 3 ∨ k = 4 ∨ k = 5 ∨ k = 6 ∨ k = 7 ∨ k = 8 ∨ k = 9 ∨ k = 10 ∨ k = 11 by omega) with rfl | rfl | rfl | rfl | rfl | rfl | rfl | rfl | rfl | rfl | rfl <;>
      (simp only [go_sem, ↓vmP2, ↓vmD, ↓vmK, ↓trK, ↓reduceIte, Try.f22]
       exact c)
  · have f : ∀ j : Int, 1 ≤ j → j ≤ 11 → (k == j) = false := fun j h1 h2 => beq_eq_false_iff_ne.mpr (by omega)
    have e : Wi k = 0 := by
      unfold Wi
      rw [if_neg (by omega), if_neg (by omega), if_neg (by omega), if_neg (by omega), if_neg (by omega)]
    rw [e] at c
    simp only [go_sem, ↓vmP2, ↓vmD, ↓vmK, ↓trK, ↓reduceIte, Try.f22, f 1 (by decide) (by decide), f 2 (by decide) (by decide), f 3 (by decide) (by decide), f 4 (by decide) (by decide), f 5 (by decide) (by decide), f 6 (by decide) (by decide), f 7 (by decide) (by decide), f 8 (by decide) (by decide), f 9 (by decide) (by decide), f 10 (by decide) (by decide), f 11 (by decide) (by decide)]
    exact c
theorem wsigned_wc (k : Int) (h : Hp) (K : Out → Hp → Prop) (c : K (.ret (.s (.a (.bool (sg k))))) h) : WC Try.prog 49 [.s (.a (.int .i64 k))] h K := by
  refine wc_intro Try.func49 rfl rfl (by kernel_rfl) (by simp [Try.f49]) ?_
  unfold sg at c
  cases h1 : decide (2 ≤ k) <;> rw [h1] at c <;> cases h2 : decide (k ≤ 5) <;> rw [h2] at c <;>
    (simp only [go_sem, ↓vmP2, ↓vmD, ↓vmK, ↓trK, ↓reduceIte, Try.f49, h1, h2]
     exact c)
theorem wwhole_wc (k : Int) (h : Hp) (K : Out → Hp → Prop) (c : K (.ret (.s (.a (.bool (wh k))))) h) : WC Try.prog 50 [.s (.a (.int .i64 k))] h K := by
  refine wc_intro Try.func50 rfl rfl (by kernel_rfl) (by simp [Try.f50]) ?_
  unfold wh at c
  cases h1 : decide (2 ≤ k) <;> rw [h1] at c <;> cases h2 : decide (k ≤ 9) <;> rw [h2] at c <;>
    (simp only [go_sem, ↓vmP2, ↓vmD, ↓vmK, ↓trK, ↓reduceIte, Try.f50, h1, h2]
     exact c)
theorem kinds11 {k : Int} (hk : 0 < Wi k) : k = 1 ∨ k = 2 ∨ k = 3 ∨ k = 4 ∨ k = 5 ∨ k = 6 ∨ k = 7 ∨ k = 8 ∨ k = 9 ∨ k = 10 ∨ k = 11 := by
  unfold Wi at hk
  repeat' split at hk
  all_goals omega
theorem canon0_wc (k : Int) (hk : 0 < Wi k) (h : Hp) (K : Out → Hp → Prop) (c : K (.ret (.s (.a (.int .u64 0)))) h) : WC Try.prog 15 [.s (.a (.int .i64 k)), .s (.a (.int .u64 0))] h K := by
  refine wc_intro Try.func15 rfl rfl (by kernel_rfl) (by simp [Try.f15]) ?_
  rcases kinds11 hk with rfl | rfl | rfl | rfl | rfl | rfl | rfl | rfl | rfl | rfl | rfl <;>
    (simp only [go_sem, ↓vmP2, ↓vmD, ↓vmK, ↓trK, ↓reduceIte, Try.f15]
     refine width_wc _ _ _ ?_
     simp only [go_sem, ↓vmP2, ↓vmD, ↓vmK, ↓trK, ↓reduceIte]
     refine wsigned_wc _ _ _ ?_
     simp only [go_sem, ↓vmP2, ↓vmD, ↓vmK, ↓trK, ↓reduceIte]
     exact c)
theorem canon_any (k x : Int) (hk : 0 < Wi k) (h : Hp) (K : Out → Hp → Prop) (c : ∀ v, K (.ret (.s (.a (.int .u64 v)))) h) : WC Try.prog 15 [.s (.a (.int .i64 k)), .s (.a (.int .u64 x))] h K := by
  refine wc_intro Try.func15 rfl rfl (by kernel_rfl) (by simp [Try.f15]) ?_
  rcases kinds11 hk with rfl | rfl | rfl | rfl | rfl | rfl | rfl | rfl | rfl | rfl | rfl <;>
    (simp only [go_sem, ↓vmP2, ↓vmD, ↓vmK, ↓trK, ↓reduceIte, Try.f15]
     refine width_wc _ _ _ ?_
     simp only [go_sem, ↓vmP2, ↓vmD, ↓vmK, ↓trK, ↓reduceIte]
     refine wsigned_wc _ _ _ ?_
     simp only [go_sem, ↓vmP2, ↓vmD, ↓vmK, ↓trK, ↓reduceIte]
     exact c _)
theorem is0_wc (k : Int) (hk : 0 < Wi k) (h : Hp) (K : Out → Hp → Prop) (c : K (.ret (.s (.a (.bool true)))) h) : WC Try.prog 17 [.s (.a (.int .i64 k)), .s (.a (.int .u64 0))] h K := by
  refine wc_intro Try.func17 rfl rfl (by kernel_rfl) (by simp [Try.f17]) ?_
  simp only [go_sem, ↓vmP2, ↓vmD, ↓vmK, ↓trK, ↓reduceIte, Try.f17]
  refine width_wc _ _ _ ?_
  simp only [go_sem, ↓vmP2, ↓vmD, ↓vmK, ↓trK, ↓reduceIte, decide_eq_true hk]
  refine canon0_wc k hk _ _ ?_
  simp only [go_sem, ↓vmP2, ↓vmD, ↓vmK, ↓trK, ↓reduceIte]
  exact c
theorem truth_wc (b : Bool) (h : Hp) (K : Out → Hp → Prop) (c : ∀ v, K (.ret (.s (.a (.int .u64 v)))) h) : WC Try.prog 95 [.s (.a (.bool b))] h K := by
  refine wc_intro Try.func95 rfl rfl (by kernel_rfl) (by simp [Try.f95]) ?_
  cases b <;>
    (simp only [go_sem, ↓vmP2, ↓vmD, ↓vmK, ↓trK, ↓reduceIte, Try.f95]
     exact c _)
theorem ops16 {op : Int} (h : 1 ≤ op ∧ op ≤ 16) : op = 1 ∨ op = 2 ∨ op = 3 ∨ op = 4 ∨ op = 5 ∨ op = 6 ∨ op = 7 ∨ op = 8 ∨ op = 9 ∨ op = 10 ∨ op = 11 ∨ op = 12 ∨ op = 13 ∨ op = 14 ∨ op = 15 ∨ op = 16 := by omega
set_option maxHeartbeats 8000000 in
theorem whas_wc (op k : Int) (h : Hp) (K : Out → Hp → Prop) (c : K (.ret (.s (.a (.bool (has op k))))) h) : WC Try.prog 55 [.s (.a (.int .i64 op)), .s (.a (.int .i64 k))] h K := by
  refine wc_intro Try.func55 rfl rfl (by kernel_rfl) (by simp [Try.f55]) ?_
  unfold has at c
  by_cases ho : 1 ≤ op ∧ op ≤ 16
  · rw [decide_eq_true ho.1, decide_eq_true ho.2] at c
    cases hw : wh k <;> rw [hw] at c <;> cases h10 : (k == 10) <;> rw [h10] at c <;> cases h1 : (k == 1) <;> rw [h1] at c <;>
      rcases ops16 ho with rfl | rfl | rfl | rfl | rfl | rfl | rfl | rfl | rfl | rfl | rfl | rfl | rfl | rfl | rfl | rfl <;>
      (simp only [go_sem, ↓vmP2, ↓vmD, ↓vmK, ↓trK, ↓reduceIte, Try.f55]
       refine wwhole_wc _ _ _ ?_
       simp only [go_sem, ↓vmP2, ↓vmD, ↓vmK, ↓trK, ↓reduceIte, hw, h10, h1]
       exact c)
  · have e : (decide (1 ≤ op) && decide (op ≤ 16)) = false := by
      rw [Bool.and_eq_false_iff, decide_eq_false_iff_not, decide_eq_false_iff_not]; omega
    rw [e] at c
    cases h1 : decide (op < 1) with
    | true =>
      simp only [go_sem, ↓vmP2, ↓vmD, ↓vmK, ↓trK, ↓reduceIte, Try.f55, h1]
      exact c
    | false =>
      have h1' : ¬ op < 1 := of_decide_eq_false h1
      simp only [go_sem, ↓vmP2, ↓vmD, ↓vmK, ↓trK, ↓reduceIte, Try.f55, h1, decide_eq_true (show 16 < op by omega)]
      exact c
set_option maxHeartbeats 8000000 in
theorem says_any (a b : Bool) (op : Int) (ho : 1 ≤ op ∧ op ≤ 16) (h : Hp) (K : Out → Hp → Prop) (c : ∀ v, K (.ret (.s (.a (.int .u64 v)))) h) : WC Try.prog 57 [.g [.a (.bool a), .a (.bool b)], .s (.a (.int .i64 op))] h K := by
  refine wc_focus (args' := [.g [.a (.bool a), .a (.bool b)], .s (.a (.int .i64 op))]) [] rfl (hc := []) trivial rfl rfl ?_
  refine wc_trunc 0 (by simp) ?_
  refine wc_intro Try.func57 rfl rfl (by kernel_rfl) (by simp [Try.f57]) ?_
  have c' : ∀ v, K (rnO (ix [] h.length) (.ret (.s (.a (.int .u64 v))))) (mrg [] h []) := fun v => by rw [mrg_nil]; exact c v
  cases a <;> cases b <;> rcases ops16 ho with rfl | rfl | rfl | rfl | rfl | rfl | rfl | rfl | rfl | rfl | rfl | rfl | rfl | rfl | rfl | rfl <;>
    (simp only [go_sem, ↓vmP2, ↓vmD, ↓vmK, ↓trK, ↓reduceIte, Try.f57]
     refine truth_wc _ _ _ (fun v => ?_)
     simp only [go_sem, ↓vmP2, ↓vmD, ↓vmK, ↓trK, ↓reduceIte, idV, idS]
     exact c' v)
theorem floats_any (op : Int) (h : Hp) (K : Out → Hp → Prop) (c : ∀ v, K (.ret (.s (.a (.int .u64 v)))) h) : WC Try.prog 56 [.s (.a (.int .i64 op)), .s (.a (.int .u64 0)), .s (.a (.int .u64 0))] h K :=
  wc_of_calls (l := [.int .i64 op, .int .u64 0, .int .u64 0]) (o := .ret (.s (.a (.int .u64 (Fl.progF op (Int.toNat 0) (Int.toNat 0)))))) (fun w => word_floats.calls op 0 0 _ w rfl) (fun B => rfl) (c _)
set_option maxHeartbeats 8000000 in
theorem ints_any (op : Int) (b : Bool) (ho : op = 1 ∨ op = 2 ∨ op = 3 ∨ op = 6 ∨ op = 7 ∨ op = 8 ∨ op = 9 ∨ op = 10) (h : Hp) (K : Out → Hp → Prop) (c : ∀ v, K (.ret (.s (.a (.int .u64 v)))) h) : WC Try.prog 58 [.s (.a (.int .i64 op)), .s (.a (.bool b)), .s (.a (.int .u64 0)), .s (.a (.int .u64 0))] h K := by
  refine wc_intro Try.func58 rfl rfl (by kernel_rfl) (by simp [Try.f58]) ?_
  cases b <;> rcases ho with rfl | rfl | rfl | rfl | rfl | rfl | rfl | rfl <;>
    (simp only [go_sem, ↓vmP2, ↓vmD, ↓vmK, ↓trK, ↓reduceIte, Try.f58]
     exact c _)
theorem has_wi {op k : Int} (h : has op k = true) : (1 ≤ op ∧ op ≤ 16) ∧ 0 < Wi k := by
  unfold has at h
  simp only [Bool.and_eq_true, decide_eq_true_iff] at h
  refine ⟨h.1, of_decide_eq_true ?_⟩
  rw [wd_width]
  have h2 := h.2
  unfold wd
  rw [Bool.or_eq_true] at h2
  rcases h2 with h2 | h2
  · unfold wh at h2
    simp only [Bool.and_eq_true, decide_eq_true_iff] at h2 ⊢
    omega
  · simp only [Bool.and_eq_true, decide_eq_true_iff]
    repeat' split at h2
    all_goals simp at h2
    all_goals omega
set_option maxHeartbeats 16000000 in
theorem wbin_wc (op k : Int) (h : Hp) (K : Out → Hp → Prop) (c : ∀ v e : Int, (e != 10) = has op k → K (.ret (.t [.s (.a (.int .u64 v)), .s (.a (.int .i64 e))])) h) :
    WC Try.prog 23 [.s (.a (.int .i64 op)), .s (.a (.int .i64 k)), .s (.a (.int .u64 0)), .s (.a (.int .u64 0))] h K := by
  refine wc_intro Try.func23 rfl rfl (by kernel_rfl) (by simp [Try.f23]) ?_
  cases hh : has op k with
  | false =>
    rw [hh] at c
    cases h9 : (op == 9) <;> cases h10 : (op == 10) <;>
      (simp only [go_sem, ↓vmP2, ↓vmD, ↓vmK, ↓trK, ↓reduceIte, Try.f23, h9, h10]
       refine whas_wc _ _ _ _ ?_
       simp only [go_sem, ↓vmP2, ↓vmD, ↓vmK, ↓trK, ↓reduceIte, hh]
       exact c _ _ rfl)
  | true =>
    rw [hh] at c
    obtain ⟨ho, hk⟩ := has_wi hh
    rcases ops16 ho with rfl | rfl | rfl | rfl | rfl | rfl | rfl | rfl | rfl | rfl | rfl | rfl | rfl | rfl | rfl | rfl <;>
      (simp only [go_sem, ↓vmP2, ↓vmD, ↓vmK, ↓trK, ↓reduceIte, Try.f23]
       refine whas_wc _ _ _ _ ?_
       simp only [go_sem, ↓vmP2, ↓vmD, ↓vmK, ↓trK, ↓reduceIte, hh]
       refine is0_wc _ hk _ _ ?_
       simp only [go_sem, ↓vmP2, ↓vmD, ↓vmK, ↓trK, ↓reduceIte]
       refine is0_wc _ (by first | exact hk | decide) _ _ ?_
       simp only [go_sem, ↓vmP2, ↓vmD, ↓vmK, ↓trK, ↓reduceIte]
       cases hf : (k == 10) with
       | true =>
         simp only [go_sem, ↓vmP2, ↓vmD, ↓vmK, ↓trK, ↓reduceIte, hf]
         refine floats_any _ _ _ (fun v => ?_)
         simp only [go_sem, ↓vmP2, ↓vmD, ↓vmK, ↓trK, ↓reduceIte]
         exact c _ _ rfl
       | false =>
         simp only [go_sem, ↓vmP2, ↓vmD, ↓vmK, ↓trK, ↓reduceIte, hf]
         first
         | exact c _ _ rfl
         | (refine wsigned_wc _ _ _ ?_
            cases hs : sg k <;>
              (simp only [go_sem, ↓vmP2, ↓vmD, ↓vmK, ↓trK, ↓reduceIte]
               first
               | (refine says_any _ _ _ (by decide) _ _ (fun v => ?_)
                  simp only [go_sem, ↓vmP2, ↓vmD, ↓vmK, ↓trK, ↓reduceIte]
                  exact c _ _ rfl)
               | (refine ints_any _ _ (by decide) _ _ (fun v => ?_)
                  simp only [go_sem, ↓vmP2, ↓vmD, ↓vmK, ↓trK, ↓reduceIte]
                  refine canon_any _ _ hk _ _ (fun v => ?_)
                  simp only [go_sem, ↓vmP2, ↓vmD, ↓vmK, ↓trK, ↓reduceIte]
                  exact c _ _ rfl))))
theorem hasU_wi {op k : Int} (h : hasU op k = true) : (op = 1 ∨ op = 2 ∨ op = 3) ∧ 0 < Wi k := by
  unfold hasU wh at h
  simp only [Bool.or_eq_true, Bool.and_eq_true, beq_iff_eq, decide_eq_true_iff] at h
  refine ⟨by omega, of_decide_eq_true ?_⟩
  rw [wd_width]
  unfold wd
  simp only [Bool.and_eq_true, decide_eq_true_iff]
  omega
set_option maxHeartbeats 4000000 in
theorem wun_wc (op k : Int) (h : Hp) (K : Out → Hp → Prop) (c : ∀ v e : Int, (e != 10) = hasU op k → K (.ret (.t [.s (.a (.int .u64 v)), .s (.a (.int .i64 e))])) h) :
    WC Try.prog 19 [.s (.a (.int .i64 op)), .s (.a (.int .i64 k)), .s (.a (.int .u64 0))] h K := by
  refine wc_intro Try.func19 rfl rfl (by kernel_rfl) (by simp [Try.f19]) ?_
  by_cases h1 : op = 1
  · subst h1
    have e : hasU 1 k = (wh k || k == 10) := by simp [hasU]
    simp only [go_sem, ↓vmP2, ↓vmD, ↓vmK, ↓trK, ↓reduceIte, Try.f19]
    refine wwhole_wc _ _ _ ?_
    cases hw : wh k with
    | true =>
      have hh : hasU 1 k = true := by rw [e, hw]; rfl
      have hk := (hasU_wi hh).2
      rw [hh] at c
      simp only [go_sem, ↓vmP2, ↓vmD, ↓vmK, ↓trK, ↓reduceIte, hw]
      refine is0_wc _ hk _ _ ?_
      cases hf : (k == 10) with
      | true =>
        simp only [go_sem, ↓vmP2, ↓vmD, ↓vmK, ↓trK, ↓reduceIte, hf]
        exact c _ _ rfl
      | false =>
        simp only [go_sem, ↓vmP2, ↓vmD, ↓vmK, ↓trK, ↓reduceIte, hf]
        refine canon_any _ _ hk _ _ (fun v => ?_)
        simp only [go_sem, ↓vmP2, ↓vmD, ↓vmK, ↓trK, ↓reduceIte]
        exact c _ _ rfl
    | false =>
      cases hf : (k == 10) with
      | true =>
        have hh : hasU 1 k = true := by rw [e, hw, hf]; rfl
        have hk := (hasU_wi hh).2
        rw [hh] at c
        simp only [go_sem, ↓vmP2, ↓vmD, ↓vmK, ↓trK, ↓reduceIte, hw, hf]
        refine is0_wc _ hk _ _ ?_
        simp only [go_sem, ↓vmP2, ↓vmD, ↓vmK, ↓trK, ↓reduceIte, hf]
        exact c _ _ rfl
      | false =>
        have hh : hasU 1 k = false := by rw [e, hw, hf]; rfl
        rw [hh] at c
        simp only [go_sem, ↓vmP2, ↓vmD, ↓vmK, ↓trK, ↓reduceIte, hw, hf]
        exact c _ _ rfl
  by_cases h2 : op = 2
  · subst h2
    have e : hasU 2 k = (k == 1) := by simp [hasU]
    cases hb : (k == 1) with
    | true =>
      have hh : hasU 2 k = true := by rw [e, hb]
      have hk := (hasU_wi hh).2
      rw [hh] at c
      simp only [go_sem, ↓vmP2, ↓vmD, ↓vmK, ↓trK, ↓reduceIte, Try.f19, hb]
      refine is0_wc _ hk _ _ ?_
      simp only [go_sem, ↓vmP2, ↓vmD, ↓vmK, ↓trK, ↓reduceIte]
      exact c _ _ rfl
    | false =>
      have hh : hasU 2 k = false := by rw [e, hb]
      rw [hh] at c
      simp only [go_sem, ↓vmP2, ↓vmD, ↓vmK, ↓trK, ↓reduceIte, Try.f19, hb]
      exact c _ _ rfl
  by_cases h3 : op = 3
  · subst h3
    have e : hasU 3 k = wh k := by simp [hasU]
    simp only [go_sem, ↓vmP2, ↓vmD, ↓vmK, ↓trK, ↓reduceIte, Try.f19]
    refine wwhole_wc _ _ _ ?_
    cases hw : wh k with
    | true =>
      have hh : hasU 3 k = true := by rw [e, hw]
      have hk := (hasU_wi hh).2
      have hf : (k == 10) = false := by
        unfold wh at hw
        simp only [Bool.and_eq_true, decide_eq_true_iff] at hw
        exact beq_eq_false_iff_ne.mpr (by omega)
      rw [hh] at c
      simp only [go_sem, ↓vmP2, ↓vmD, ↓vmK, ↓trK, ↓reduceIte, hw]
      refine is0_wc _ hk _ _ ?_
      simp only [go_sem, ↓vmP2, ↓vmD, ↓vmK, ↓trK, ↓reduceIte, hf]
      refine canon_any _ _ hk _ _ (fun v => ?_)
      simp only [go_sem, ↓vmP2, ↓vmD, ↓vmK, ↓trK, ↓reduceIte]
      exact c _ _ rfl
    | false =>
      have hh : hasU 3 k = false := by rw [e, hw]
      rw [hh] at c
      simp only [go_sem, ↓vmP2, ↓vmD, ↓vmK, ↓trK, ↓reduceIte, hw]
      exact c _ _ rfl
  have hh : hasU op k = false := by simp [hasU, h1, h2, h3]
  rw [hh] at c
  simp only [go_sem, ↓vmP2, ↓vmD, ↓vmK, ↓trK, ↓reduceIte, Try.f19, beq_eq_false_iff_ne.mpr h1, beq_eq_false_iff_ne.mpr h2, beq_eq_false_iff_ne.mpr h3]
  exact c _ _ rfl
end Go.Proofs.Ytahepinbmcgbnaa.Vm
