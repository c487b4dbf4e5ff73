/- Contracts of package cisc's reader: instructions that look into memory, make flags, or ask them; none. No condition. -/
import Derived.Test.YtahepinbmcgbnaaVmY
import Derived.Test.YtahepinbmcgbnaaVc6
set_option linter.unusedVariables false
set_option linter.unusedSimpArgs false
namespace Go.Proofs.Ytahepinbmcgbnaa.Vm
open Go.RowKit Go.Proofs.Ytahepinbmcgbnaa.PV Go.Proofs.Ytahepinbmcgbnaa.Wd Go.Proofs.YtahepinbmcgbnaaW.PrintWords
attribute [local go_sem] opR moveR pickR allocR boxR ld1R ldgR ldR loadR st2R st1R storeR nilR faR fieldAddrR fdR fieldR ixR indexAddrR extR extractR intR shR isSh eqR bin2R sEqR intsOf binR unR convR miR panR fillP partsR bld2R bld1R buildR bldAR build2R ix1R indexR mxR mmR bs2R bs1R buildSliceR pvOf okT no1T noT taR mfR ptrsR ms1R makeSliceR bnd sl1R so1R sliceR argsR ca1R callR lenR ap2R srcR ap1R appendR lenA appA calR ev cst lk rm pt ins rmO ent gval cellsOf scell TI.agg Sh.agg re1 res1 resR is1 vmQ vmH vmE bin3R index2R strIxR ifR nnR stR oneP oneW opP vmQ2 tA0 tA1 tA2 tA3 tA4 tA5 tA6 tA7 tA8 tA9 tA10 tA11 tA12 tA13 tA14 tA15 oA0 oA1 oA2 oA3 oA4 oA5 oA6 oA7 oA8 oA9 oA10 oA11 oA12 oA13 oA14 reduceCtorEq Nat.reduceEqDiff Nat.reduceAdd Nat.reduceLeDiff Nat.reduceLT Nat.reduceMul Nat.reducePow Nat.reduceSub Int.reduceBEq Int.reduceBNe ne_eq Int.reduceEq not_false_eq_true Bool.false_eq_true Nat.reduceBEq List.getElem?_cons_zero List.getElem?_cons_succ List.map_cons List.map_nil List.length_cons List.length_nil List.drop_succ_cons List.drop_zero List.take_succ_cons List.take_zero List.take_nil List.drop_nil List.append_nil List.nil_append List.cons_append List.set_cons_zero List.set_cons_succ List.all_cons List.all_nil Bool.and_true Bool.and_self cond_true cond_false Option.map_some Option.map_none and_self true_and and_true List.append_eq
theorem memD_ints {l : List Int} {o : Int} {n : Nat} {bad : Bool} {f : List SV} (h : memD l o = .ok n bad f) (τ : Nat → Nat) : f.map (rnS τ) = f := by
 unfold memD at h
 repeat' split at h
 all_goals (first | (injection h with _ _ h; subst h; rfl) | cases h)
theorem flD_ints {l : List Int} {o : Int} {n : Nat} {bad : Bool} {f : List SV} (h : flD l o = .ok n bad f) (τ : Nat → Nat) : f.map (rnS τ) = f := by
 unfold flD at h
 repeat' split at h
 all_goals (first | (injection h with _ _ h; subst h; rfl) | cases h)
theorem mrg3 (l : List Int) (n : Nat) (bad : Bool) (f : List SV) (H : Hp) (g1 : H[1]? = some (.ro (byC l))) (hf : ∀ τ : Nat → Nat, f.map (rnS τ) = f) :
  mrg [0, 1, 2] H [rdr l.length n bad, .ro (byC l), .rw f] = (H.set 0 (rdr l.length n bad)).set 2 (.rw f) := by
 simp only [mrg, List.length_cons, List.length_nil, Nat.zero_add, Nat.reduceAdd, List.take_succ_cons, List.take_zero, List.take_nil, List.drop_succ_cons, List.drop_zero, List.drop_nil, List.map_cons, List.map_nil, List.append_nil, setAll]
 have a1 : rnB (ix [0, 1, 2] H.length) (.ro (byC l)) = .ro (byC l) := by simp [rnB, rn_by]
 have a2 : rnB (ix [0, 1, 2] H.length) (.rw f) = .rw f := by simp [rnB, hf]
 have a3 : rnB (ix [0, 1, 2] H.length) (rdr l.length n bad) = rdr l.length n bad := rfl
 rw [a1, a2, a3, set_same (j := 1)]
 rw [List.getElem?_set_ne (by omega)]; exact g1
section
variable (l : List Int) (o : Int) (K : Out → Hp → Prop) (H : Hp) (hm : BY l) (hle : 1 ≤ l.length) (g0 : H[0]? = some (rdr l.length 1 false)) (g1 : H[1]? = some (.ro (byC l))) (g2 : H[2]? = some (.rw (iC o 0 0 0 0 0 0 0 0)))
include hm hle g0 g1 g2
theorem memory_at (ho : o = 10 ∨ o = 11 ∨ o = 13 ∨ o = 12 ∨ o = 14)
  (c : DRK l (memD l o) K fun f n bad => K (.ret (.t [])) ((H.set 0 (rdr l.length n bad)).set 2 (.rw f))) : WC Try.prog 122 [.s (.p 0 0), .s (.p 2 0)] H K := by
 refine wc_focus [0, 1, 2] rfl (hc := [rdr l.length 1 false, .ro (byC l), .rw (iC o 0 0 0 0 0 0 0 0)]) ⟨?_, ?_, ?_, trivial⟩ (args' := [.s (.p 0 0), .s (.p 2 0)]) rfl rfl (memory_wc l o _ hm hle ho ?_)
 ·rw [g0]; rfl
 ·rw [g1]; simp [rnB, rn_by]
 ·rw [g2]; rfl
 ·cases hd : memD l o with
  | short => rw [hd] at c; exact fun h => c _
  | form => rw [hd] at c; exact fun h => c _
  | ok n bad f =>
   rw [hd] at c
   show K _ (mrg [0, 1, 2] H [rdr l.length n bad, .ro (byC l), .rw f])
   rw [mrg3 l n bad f H g1 (memD_ints hd)]
   exact c
theorem flags_at (ho : o = 15 ∨ o = 16 ∨ o = 18 ∨ o = 17 ∨ o = 22)
  (c : DRK l (flD l o) K fun f n bad => K (.ret (.t [])) ((H.set 0 (rdr l.length n bad)).set 2 (.rw f))) : WC Try.prog 123 [.s (.p 0 0), .s (.p 2 0)] H K := by
 refine wc_focus [0, 1, 2] rfl (hc := [rdr l.length 1 false, .ro (byC l), .rw (iC o 0 0 0 0 0 0 0 0)]) ⟨?_, ?_, ?_, trivial⟩ (args' := [.s (.p 0 0), .s (.p 2 0)]) rfl rfl (flags_wc l o _ hm hle ho ?_)
 ·rw [g0]; rfl
 ·rw [g1]; simp [rnB, rn_by]
 ·rw [g2]; rfl
 ·cases hd : flD l o with
  | short => rw [hd] at c; exact fun h => c _
  | form => rw [hd] at c; exact fun h => c _
  | ok n bad f =>
   rw [hd] at c
   show K _ (mrg [0, 1, 2] H [rdr l.length n bad, .ro (byC l), .rw f])
   rw [mrg3 l n bad f H g1 (flD_ints hd)]
   exact c
end
theorem memD_len {l : List Int} {o : Int} {n : Nat} {bad : Bool} {f : List SV} (h : memD l o = .ok n bad f) : ∃ a b c k s z i, f = iC o a b c k s z i 0 := by
 unfold memD at h
 repeat' split at h
 all_goals (first | (injection h with _ _ h; subst h; exact ⟨_, _, _, _, _, _, _, rfl⟩) | cases h)
theorem flD_len {l : List Int} {o : Int} {n : Nat} {bad : Bool} {f : List SV} (h : flD l o = .ok n bad f) : ∃ a b c k s z i, f = iC o a b c k s z i 0 := by
 unfold flD at h
 repeat' split at h
 all_goals (first | (injection h with _ _ h; subst h; exact ⟨_, _, _, _, _, _, _, rfl⟩) | cases h)
set_option maxRecDepth 100000 in
set_option maxHeartbeats 8000000 in
theorem iMem_wc (l : List Int) (o : Int) (K : Out → Hp → Prop) (hm : BY l) (q0 : 0 < l.length) (e0 : l[0] = o) (ho : o = 10 ∨ o = 11 ∨ o = 13 ∨ o = 12 ∨ o = 14) (c : InK l (memD l o) K) :
  WC Try.prog 91 [.s (.p 0 0)] [rdr l.length 0 false, .ro (byC l)] K := by
 have hs : o = 10 ∨ o = 11 ∨ o = 13 ∨ o = 12 ∨ o = 14 := ho
 rcases ho with rfl | rfl | rfl | rfl | rfl
 all_goals
  refine wc_trunc 2 (by simp) ?_
  refine wc_intro Try.func91 rfl rfl (by kernel_rfl) (by simp [Try.f91]) ?_
  simp only [go_sem, ↓vmP2, ↓vmD, ↓vmK, ↓trK, ↓reduceIte, Try.f91]
  refine byte_wc l 0 false _ _ hm (by omega) (fun q => absurd q (by omega)) (fun q => ?_)
  simp only [go_sem, ↓vmP2, ↓vmD, ↓vmK, ↓trK, ↓reduceIte, iC, e0]
  refine memory_at l _ _ _ hm (by omega) rfl rfl rfl hs ?_
  cases hd : memD l _ with
  | short => exact fun h => (by (simp only [go_sem, ↓vmP2, ↓vmD, ↓vmK, ↓trK, ↓reduceIte]; exact inK_short c hd h))
  | form => exact fun h => (by (simp only [go_sem, ↓vmP2, ↓vmD, ↓vmK, ↓trK, ↓reduceIte]; exact inK_form c hd h))
  | ok n bad f =>
   obtain ⟨a, b, c', k, s, z, i, rfl⟩ := memD_len hd
   unfold InK at c
   rw [hd] at c
   dsimp only [DRK]
   simp only [go_sem, ↓vmP2, ↓vmD, ↓vmK, ↓trK, ↓reduceIte, iC, List.set_cons_zero, idV, idS, idB, idB_by, rdr, decide_true]
   exact c
set_option maxRecDepth 100000 in
set_option maxHeartbeats 8000000 in
theorem iFl_wc (l : List Int) (o : Int) (K : Out → Hp → Prop) (hm : BY l) (q0 : 0 < l.length) (e0 : l[0] = o) (ho : o = 15 ∨ o = 16 ∨ o = 18 ∨ o = 17 ∨ o = 22) (c : InK l (flD l o) K) :
  WC Try.prog 91 [.s (.p 0 0)] [rdr l.length 0 false, .ro (byC l)] K := by
 have hs : o = 15 ∨ o = 16 ∨ o = 18 ∨ o = 17 ∨ o = 22 := ho
 rcases ho with rfl | rfl | rfl | rfl | rfl
 all_goals
  refine wc_trunc 2 (by simp) ?_
  refine wc_intro Try.func91 rfl rfl (by kernel_rfl) (by simp [Try.f91]) ?_
  simp only [go_sem, ↓vmP2, ↓vmD, ↓vmK, ↓trK, ↓reduceIte, Try.f91]
  refine byte_wc l 0 false _ _ hm (by omega) (fun q => absurd q (by omega)) (fun q => ?_)
  simp only [go_sem, ↓vmP2, ↓vmD, ↓vmK, ↓trK, ↓reduceIte, iC, e0]
  refine flags_at l _ _ _ hm (by omega) rfl rfl rfl hs ?_
  cases hd : flD l _ with
  | short => exact fun h => (by (simp only [go_sem, ↓vmP2, ↓vmD, ↓vmK, ↓trK, ↓reduceIte]; exact inK_short c hd h))
  | form => exact fun h => (by (simp only [go_sem, ↓vmP2, ↓vmD, ↓vmK, ↓trK, ↓reduceIte]; exact inK_form c hd h))
  | ok n bad f =>
   obtain ⟨a, b, c', k, s, z, i, rfl⟩ := flD_len hd
   unfold InK at c
   rw [hd] at c
   dsimp only [DRK]
   simp only [go_sem, ↓vmP2, ↓vmD, ↓vmK, ↓trK, ↓reduceIte, iC, List.set_cons_zero, idV, idS, idB, idB_by, rdr, decide_true]
   exact c
def codes : List Int := [1, 3, 26, 4, 5, 6, 7, 8, 10, 11, 13, 12, 14, 15, 16, 17, 18, 22, 19, 23, 25, 29, 27, 28, 24]
set_option maxRecDepth 100000 in
set_option maxHeartbeats 8000000 in
theorem iNone_wc (l : List Int) (K : Out → Hp → Prop) (hm : BY l) (q0 : 0 < l.length) (e0 : l[0] ∉ codes) (c : ∀ h, K (.pan (E 40)) h) :
  WC Try.prog 91 [.s (.p 0 0)] [rdr l.length 0 false, .ro (byC l)] K := by
 have hb : ∀ k ∈ codes, (l[0] == k) = false := fun k hk => beq_eq_false_iff_ne.mpr fun e => e0 (e ▸ hk)
 simp only [codes, List.mem_cons, List.not_mem_nil, or_false, forall_eq_or_imp, forall_eq] at hb
 refine wc_trunc 2 (by simp) ?_
 refine wc_intro Try.func91 rfl rfl (by kernel_rfl) (by simp [Try.f91]) ?_
 simp only [go_sem, ↓vmP2, ↓vmD, ↓vmK, ↓trK, ↓reduceIte, Try.f91]
 refine byte_wc l 0 false _ _ hm (by omega) (fun q => absurd q (by omega)) (fun q => ?_)
 simp only [go_sem, ↓vmP2, ↓vmD, ↓vmK, ↓trK, ↓reduceIte, hb]
 exact c _
set_option maxRecDepth 100000 in
set_option maxHeartbeats 8000000 in
theorem iShort_wc (l : List Int) (K : Out → Hp → Prop) (hm : BY l) (q0 : l.length = 0) (c : ∀ h, K (.pan (E 41)) h) :
  WC Try.prog 91 [.s (.p 0 0)] [rdr l.length 0 false, .ro (byC l)] K := by
 refine wc_trunc 2 (by simp) ?_
 refine wc_intro Try.func91 rfl rfl (by kernel_rfl) (by simp [Try.f91]) ?_
 simp only [go_sem, ↓vmP2, ↓vmD, ↓vmK, ↓trK, ↓reduceIte, Try.f91]
 refine byte_wc l 0 false _ _ hm (by omega) (fun q => ?_) (fun q => absurd q (by omega))
 simp only [go_sem, ↓vmP2, ↓vmD, ↓vmK, ↓trK, ↓reduceIte]
 exact c _
end Go.Proofs.Ytahepinbmcgbnaa.Vm
