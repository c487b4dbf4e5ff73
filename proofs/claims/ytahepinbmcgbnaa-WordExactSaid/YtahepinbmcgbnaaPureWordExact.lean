/- The plain law behind 'WordExact'. No condition. -/
import Derived.Test.YtahepinbmcgbnaaPAx0
import Derived.Test.YtahepinbmcgbnaaPAx14
import Derived.Test.YtahepinbmcgbnaaPAx15
import Derived.Test.YtahepinbmcgbnaaOp
import Derived.Test.YtahepinbmcgbnaaWf
set_option linter.unusedVariables false
set_option linter.unusedSimpArgs false
namespace Go.Proofs.Ytahepinbmcgbnaa.Pure
open Go.RowKit Go.Proofs.Ytahepinbmcgbnaa.PA Go.Proofs.YtahepinbmcgbnaaW.PrintWords Go.Proofs.YtahepinbmcgbnaaW.PrintMore Go.Proofs.Ytahepinbmcgbnaa.Wd

theorem ev_at {α : Type} {g : Nat → Option α} {r : α} (c : Nat) (h : ∀ n, g (n + c) = some r) : Ev g r := ⟨c, fun k hk => by obtain ⟨n, rfl⟩ : ∃ n, k = n + c := ⟨k - c, by omega⟩; exact h n⟩

theorem WordExact (l : List (S25)) (hl : wfT22 l) : ∃ k, gantrylaw1_WordExact.f k l = some true := by
  obtain ⟨hlen, hall⟩ := hl
  unfold gantrylaw1_WordExact.f
  suffices H : ∀ (d : Nat) (i : Int), 0 ≤ i → i + d = l.length → Ev (fun k => gantrylaw1_WordExact.l0 k l i) true from (H l.length 0 (by omega) (by omega)).rounds
  intro d
  have hend : ∀ i, Ev (fun k => gantrylaw1_WordExact.j1 k l i false) true := by
    intro i
    refine Ev.step (fun k => by simp only [gantrylaw1_WordExact.j1]; rw [if_neg (by decide)]) ?_
    exact Ev.bind wakes_ev (Ev.now _)
  unfold maxLen at hlen
  induction d with
  | zero =>
    intro i h0 hi
    refine Ev.step (fun k => by simp only [gantrylaw1_WordExact.l0]; rw [if_neg (by omega)]) ?_
    exact hend i
  | succ d ih =>
    intro i h0 hi
    have next : Ev (fun k => gantrylaw1_WordExact.l0 k l (wrap64 (i + 1))) true := by rw [show wrap64 (i + 1) = i + 1 by unfold wrap64; omega]; exact ih (i + 1) (by omega) (by omega)
    refine Ev.step (fun k => by simp only [gantrylaw1_WordExact.l0]; rw [if_pos (by omega)]) ?_
    by_cases h2 : i < 200
    · rw [decide_eq_true h2]
      refine Ev.step (fun k => by simp only [gantrylaw1_WordExact.j1]; rw [if_pos trivial, if_pos h0, if_pos (by omega)]) ?_
      obtain ⟨w0, w1, w2, w3, w4⟩ := hall (rd_T25 l i) (rd_mem l i h0 (by omega))
      generalize rd_T25 l i = p at *
      have h3 : 0 ≤ p.f3 ∧ p.f3 ≤ 18446744073709551615 := w3
      have h4 : 0 ≤ p.f4 ∧ p.f4 ≤ 18446744073709551615 := w4
      refine Ev.bind (un_ev p.f0 p.f1 p.f3) ?_
      refine Ev.bind (Bin_ev p.f0 p.f1 p.f3 p.f4 h3.1 h4.1 h4.2) ?_
      refine Ev.bind (conv_ev p.f1 p.f2 p.f3) ?_
      refine Ev.bind (ev_at 4 fun n => rUn_eq n p.f0 p.f1 p.f3) ?_
      refine Ev.bind (ev_at 9 fun n => rBin_eq n p.f0 p.f1 p.f3 p.f4 h3 h4) ?_
      refine Ev.bind (ev_at 9 fun n => rConv_eq n p.f1 p.f2 p.f3) ?_
      refine Ev.congr (fun k => if_pos rfl) ?_
      refine Ev.bind (Ev.now _) ?_
      refine Ev.congr (fun k => if_pos rfl) ?_
      refine Ev.congr (fun k => if_pos rfl) ?_
      refine Ev.bind (Ev.now _) ?_
      refine Ev.congr (fun k => if_pos rfl) ?_
      refine Ev.congr (fun k => if_pos rfl) ?_
      refine Ev.bind (Ev.now _) ?_
      have e1 : ((cv p.f1 p.f2 p.f3).2 != (cv p.f1 p.f2 p.f3).2) = false := by simp
      rw [e1]
      refine Ev.step (fun k => by simp only [gantrylaw1_WordExact.j2]; rw [if_neg (by decide)]) ?_
      refine Ev.bind (width_ev p.f1) ?_
      refine Ev.bind (ev_at 3 fun n => rWidth_eq n p.f1) ?_
      refine Ev.congr (fun k => if_pos rfl) ?_
      have b1 : Ev (fun k => word_Bytes.f k p.f1) (if p.f1 = 1 then 1 else wrap64 (Int.tdiv (Wi p.f1) 8)) := ev_at 4 fun n => by
        unfold word_Bytes.f
        rw [Width_eq]
        split <;> rfl
      have b2 : Ev (fun k => gantryref1_Bytes.f k p.f1) (if p.f1 = 1 then 1 else wrap64 (Int.tdiv (Wi p.f1) 8)) := ev_at 3 fun n => by
        unfold gantryref1_Bytes.f
        rw [rWidth_eq]
        split <;> rfl
      refine Ev.bind b1 ?_
      refine Ev.bind b2 ?_
      refine Ev.congr (fun k => if_pos rfl) ?_
      refine Ev.bind (canon_ev p.f1 p.f3) ?_
      refine Ev.bind (ev_at 3 fun n => rCanon_eq n p.f1 p.f3) ?_
      refine Ev.congr (fun k => if_pos rfl) ?_
      refine Ev.bind (is_ev p.f1 p.f3) ?_
      refine Ev.bind (ev_at 3 fun n => rIs_eq n p.f1 p.f3) ?_
      refine Ev.congr (fun k => if_neg (by simp)) ?_
      exact next
    · rw [decide_eq_false h2]
      exact hend i

end Go.Proofs.Ytahepinbmcgbnaa.Pure
