/- The plain law behind 'WordConvs'. No condition. -/
import Derived.Test.YtahepinbmcgbnaaPAx9
import Derived.Test.YtahepinbmcgbnaaOp
import Derived.Test.YtahepinbmcgbnaaWc
set_option linter.unusedVariables false
set_option linter.unusedSimpArgs false
namespace Go.Proofs.Ytahepinbmcgbnaa.Pure
open Go.RowKit Go.Proofs.Ytahepinbmcgbnaa.PA Go.Proofs.YtahepinbmcgbnaaW.PrintWords Go.Proofs.YtahepinbmcgbnaaW.PrintMore Go.Proofs.Ytahepinbmcgbnaa.Wd

theorem nu_of {k : Int} (hk : 2 ≤ k ∧ k ≤ 9) : nu k = true := by unfold nu; simp [wh_of hk]
theorem cv_int {a b x : Int} (ha : 2 ≤ a ∧ a ≤ 9) (hb : 2 ≤ b ∧ b ≤ 9) (hx : is a x = true) : cv a b x = (cn b x, 0) := by
  unfold cv
  rw [nu_of ha, nu_of hb, hx]
  simp only [Bool.true_eq_false, or_self, if_false]
  rw [if_pos (by omega)]
theorem wider {a b x : Int} (ha : 2 ≤ a ∧ a ≤ 9) (hb : 2 ≤ b ∧ b ≤ 9) (hx : is a x = true) (hw : Wi b ≥ Wi a) : cn a (cn b x) = x := by
  have hc := is_cn hx
  have hr := is_range ha hx
  rcases whole_kinds ha with rfl | rfl | rfl | rfl | rfl | rfl | rfl | rfl <;> rcases whole_kinds hb with rfl | rfl | rfl | rfl | rfl | rfl | rfl | rfl <;>
    first | (exfalso; revert hw; decide) | (simp [cn] at hc ⊢; omega)

theorem WordConvs (l : List (S25)) (hl : wfT22 l) : ∃ k, gantrylaw1_WordConvs.f k l = some true := by
  obtain ⟨hlen, hall⟩ := hl
  unfold gantrylaw1_WordConvs.f
  suffices H : ∀ (d : Nat) (i : Int), 0 ≤ i → i + d = l.length → Ev (fun k => gantrylaw1_WordConvs.l0 k l i) true from (H l.length 0 (by omega) (by omega)).rounds
  intro d
  have hend : ∀ i, Ev (fun k => gantrylaw1_WordConvs.j1 k l i false) true := by
    intro i
    refine Ev.step (fun k => by simp only [gantrylaw1_WordConvs.j1]; rw [if_neg (by decide)]) ?_
    exact Ev.bind wakes_ev (Ev.now _)
  unfold maxLen at hlen
  induction d with
  | zero =>
    intro i h0 hi
    refine Ev.step (fun k => by simp only [gantrylaw1_WordConvs.l0]; rw [if_neg (by omega)]) ?_
    exact hend i
  | succ d ih =>
    intro i h0 hi
    have next : Ev (fun k => gantrylaw1_WordConvs.l0 k l (wrap64 (i + 1))) true := by rw [show wrap64 (i + 1) = i + 1 by unfold wrap64; omega]; exact ih (i + 1) (by omega) (by omega)
    refine Ev.step (fun k => by simp only [gantrylaw1_WordConvs.l0]; rw [if_pos (by omega)]) ?_
    by_cases h2 : i < 200
    · rw [decide_eq_true h2]
      refine Ev.step (fun k => by simp only [gantrylaw1_WordConvs.j1]; rw [if_pos trivial, if_pos h0, if_pos (by omega)]) ?_
      obtain ⟨w0, w1, w2, w3, w4⟩ := hall (rd_T25 l i) (rd_mem l i h0 (by omega))
      generalize rd_T25 l i = p at *
      have hk := kind_of p.f1 w1
      have ht := kind_of p.f2 w2
      have h3 : 0 ≤ p.f3 ∧ p.f3 ≤ 18446744073709551615 := w3
      generalize wrap64 (2 + wrap64 (Int.tmod (IntKind.u64.wrap p.f1) 8)) = k at *
      generalize wrap64 (2 + wrap64 (Int.tmod (IntKind.u64.wrap p.f2) 8)) = t at *
      have hx := is_cn_self hk p.f3
      refine Ev.bind (canon_ev k p.f3) ?_
      generalize hxx : cn k p.f3 = x at *
      have ha := is_cn_self ht x
      refine Ev.bind (conv_ev k t x) ?_
      rw [cv_int hk ht hx]
      refine Ev.bind (conv_ev t k (cn t x)) ?_
      rw [cv_int ht hk ha]
      refine Ev.bind (Ev.now 0) ?_
      refine Ev.congr (fun k => if_pos rfl) ?_
      refine Ev.bind (Ev.now 0) ?_
      refine Ev.congr (fun k => if_pos rfl) ?_
      refine Ev.bind (canon_ev t x) ?_
      refine Ev.congr (fun k => if_pos rfl) ?_
      refine Ev.bind (width_ev t) ?_
      refine Ev.bind (width_ev k) ?_
      have tail : Ev (fun n => gantrylaw1_WordConvs.j2 n l i false p.f0 p.f1 p.f2 p.f3 p.f4) true := by
        refine Ev.step (fun k => by simp only [gantrylaw1_WordConvs.j2]; rw [if_neg (by decide)]) ?_
        refine Ev.bind (canon_ev 5 _) ?_
        obtain ⟨m, hm, hm53⟩ : ∃ m : Nat, cn 5 (p.f3 / 2048) = (m : Int) ∧ m < 2 ^ 53 := ⟨(p.f3 / 2048).toNat, by simp [cn]; omega, by omega⟩
        rw [hm]
        have i5 : is 5 (m : Int) = true := is_mk (by decide) (by simp [cn]; omega)
        have c1 : cv 5 10 (m : Int) = ((floatOfInt .f64 (m : Int) : Int), 0) := by
          unfold cv
          rw [show nu 5 = true by decide, show nu 10 = true by decide, i5, show sg 5 = true by decide, show wrap64 (m : Int) = m by unfold wrap64; omega]
          simp
        refine Ev.bind (conv_ev 5 10 _) ?_
        rw [c1]
        have fr := float_range (m : Int)
        have c2 : cv 10 5 (floatOfInt .f64 (m : Int) : Int) = ((m : Int), 0) := by
          have i10 : is 10 (floatOfInt .f64 (m : Int) : Int) = true := is_mk (by decide) (by simp [cn]; omega)
          unfold cv
          rw [show nu 5 = true by decide, show nu 10 = true by decide, i10]
          simp only [Bool.true_eq_false, or_self, if_false]
          rw [if_neg (by decide), if_neg (by decide), if_pos trivial, Int.toNat_natCast, back m hm53]
          rw [is_cn i5]
        refine Ev.bind (conv_ev 10 5 _) ?_
        rw [c2]
        refine Ev.bind (Ev.now 0) ?_
        refine Ev.congr (fun k => if_pos rfl) ?_
        refine Ev.bind (Ev.now 0) ?_
        refine Ev.congr (fun k => if_pos rfl) ?_
        refine Ev.congr (fun k => if_pos rfl) ?_
        exact next
      by_cases hw : Wi t ≥ Wi k
      · refine Ev.congr (fun k => if_pos hw) ?_
        have e : (cn k (cn t x) != x) = false := by rw [wider hk ht hx hw]; simp
        show Ev (fun n => gantrylaw1_WordConvs.j2 n l i (cn k (cn t x) != x) p.f0 p.f1 p.f2 p.f3 p.f4) true
        rw [e]
        exact tail
      · refine Ev.congr (fun k => if_neg hw) ?_
        exact tail
    · rw [decide_eq_false h2]
      exact hend i

end Go.Proofs.Ytahepinbmcgbnaa.Pure
