/- Contracts of package risc's functions. No condition. -/
import Derived.Test.YtahepinbmcgbnaaWb
import Derived.Test.YtahepinbmcgbnaaWc
import Derived.WideLaws
import Derived.Laws.Rows
import Derived.Laws.Slices
set_option linter.unusedVariables false
set_option linter.unusedSimpArgs false
namespace Go.Proofs.Ytahepinbmcgbnaa.Ri
open Go.RowKit Go.Proofs.Ytahepinbmcgbnaa.PA Go.Proofs.YtahepinbmcgbnaaW.PrintWords Go.Proofs.Ytahepinbmcgbnaa.Wd

/-- A code's row: which fields it uses, byte 3, the number; is there one? -/
def knownF (op : Int) : Int × Int × Int × Int × Int × Bool :=
  if op = 1 ∨ op = 2 ∨ op = 20 ∨ op = 21 then (1, 0, 0, 0, 3, true) else if op = 3 ∨ op = 26 then (1, 1, 0, 0, 0, true) else if op = 4 then (1, 1, 1, 1, 4, true)
  else if op = 7 ∨ op = 8 then (1, 1, 0, 0, 4, true) else if op = 9 then (1, 1, 0, 0, 3, true) else if op = 11 ∨ op = 13 then (1, 1, 0, 2, 3, true)
  else if op = 15 then (1, 1, 1, 1, 3, true) else if op = 19 ∨ op = 23 ∨ op = 25 ∨ op = 29 then (0, 0, 0, 0, 3, true) else if op = 27 ∨ op = 28 then (1, 0, 0, 0, 0, true)
  else if op = 24 then (0, 0, 0, 0, 0, true) else (0, 0, 0, 0, 0, false)
def codes (op : Int) : Prop := op = 1 ∨ op = 2 ∨ op = 20 ∨ op = 21 ∨ op = 3 ∨ op = 26 ∨ op = 4 ∨ op = 7 ∨ op = 8 ∨ op = 9 ∨ op = 11 ∨ op = 13 ∨ op = 15 ∨ op = 19 ∨ op = 23 ∨ op = 25 ∨ op = 29 ∨ op = 27 ∨ op = 28 ∨ op = 24
set_option maxHeartbeats 8000000 in
set_option maxRecDepth 100000 in
theorem known_calls (op : Int) (w : World) : Calls Try.prog 77 #[.int .i64 op] w fun e w' => e = .returned (.tuple #[.agg #[.int .i64 (knownF op).1, .int .i64 (knownF op).2.1, .int .i64 (knownF op).2.2.1, .int .i64 (knownF op).2.2.2.1, .int .i64 (knownF op).2.2.2.2.1], .bool (knownF op).2.2.2.2.2]) ∧ w' = w.alloc (.cells #[.int .i64 (knownF op).1, .int .i64 (knownF op).2.1, .int .i64 (knownF op).2.2.1, .int .i64 (knownF op).2.2.2.1, .int .i64 (knownF op).2.2.2.2.1] 77) := by
  have hu77 := Try.underlying77
  by_cases hc : codes op
  · rcases hc with rfl | rfl | rfl | rfl | rfl | rfl | rfl | rfl | rfl | rfl | rfl | rfl | rfl | rfl | rfl | rfl | rfl | rfl | rfl | rfl
    all_goals
      go_enter Try.func77, Try.ntmps77
      go_wp2
      refine bodyPost_ret ?_ rfl ⟨rfl, rfl⟩
      simp [results, Try.results77, go_sem, knownF]
  · unfold codes at hc
    have b1 : (op == 1) = false := beq_eq_false_iff_ne.mpr (by omega)
    have b2 : (op == 2) = false := beq_eq_false_iff_ne.mpr (by omega)
    have b20 : (op == 20) = false := beq_eq_false_iff_ne.mpr (by omega)
    have b21 : (op == 21) = false := beq_eq_false_iff_ne.mpr (by omega)
    have b3 : (op == 3) = false := beq_eq_false_iff_ne.mpr (by omega)
    have b26 : (op == 26) = false := beq_eq_false_iff_ne.mpr (by omega)
    have b4 : (op == 4) = false := beq_eq_false_iff_ne.mpr (by omega)
    have b7 : (op == 7) = false := beq_eq_false_iff_ne.mpr (by omega)
    have b8 : (op == 8) = false := beq_eq_false_iff_ne.mpr (by omega)
    have b9 : (op == 9) = false := beq_eq_false_iff_ne.mpr (by omega)
    have b11 : (op == 11) = false := beq_eq_false_iff_ne.mpr (by omega)
    have b13 : (op == 13) = false := beq_eq_false_iff_ne.mpr (by omega)
    have b15 : (op == 15) = false := beq_eq_false_iff_ne.mpr (by omega)
    have b19 : (op == 19) = false := beq_eq_false_iff_ne.mpr (by omega)
    have b23 : (op == 23) = false := beq_eq_false_iff_ne.mpr (by omega)
    have b25 : (op == 25) = false := beq_eq_false_iff_ne.mpr (by omega)
    have b29 : (op == 29) = false := beq_eq_false_iff_ne.mpr (by omega)
    have b27 : (op == 27) = false := beq_eq_false_iff_ne.mpr (by omega)
    have b28 : (op == 28) = false := beq_eq_false_iff_ne.mpr (by omega)
    have b24 : (op == 24) = false := beq_eq_false_iff_ne.mpr (by omega)
    have hk : knownF op = (0, 0, 0, 0, 0, false) := by unfold knownF; rw [if_neg (by omega), if_neg (by omega), if_neg (by omega), if_neg (by omega), if_neg (by omega), if_neg (by omega), if_neg (by omega), if_neg (by omega), if_neg (by omega), if_neg (by omega)]
    rw [hk]
    clear hk hc
    go_enter Try.func77, Try.ntmps77
    go_wp2
    refine bodyPost_ret ?_ rfl ⟨rfl, rfl⟩
    simp [results, Try.results77, go_sem]

theorem bcell {W w1 : World} (hb : Below W.heap.size W w1) : (∀ b o, b < W.heap.size → w1.cell? ⟨b, o, none⟩ = W.cell? ⟨b, o, none⟩) ∧ (∀ b o, b < W.heap.size → w1.frozen? ⟨b, o, none⟩ = W.frozen? ⟨b, o, none⟩) :=
  ⟨fun b o h => hb.cell (p := ⟨b, o, none⟩) h, fun b o h => hb.frozen (p := ⟨b, o, none⟩) h⟩
def regF (n : Int) : Bool := decide (0 ≤ n) && decide (n < 16)
theorem reg_calls (n : Int) (w : World) : Calls Try.prog 128 #[.int .i64 n] w fun e w' => e = .returned (.bool (regF n)) ∧ w = w' := by
  unfold regF
  by_cases h : 0 ≤ n
  · have hb : decide (0 ≤ n) = true := decide_eq_true h
    rw [hb]
    clear h
    go_enter Try.func128, Try.ntmps128
    go_wp2
    go_ret
    exact ⟨by simp, rfl⟩
  · have hb : decide (0 ≤ n) = false := decide_eq_false h
    rw [hb]
    clear h
    go_enter Try.func128, Try.ntmps128
    go_wp2
    go_ret
    exact ⟨by simp, rfl⟩
def withinF (u n : Int) : Bool := (u == 1 && regF n) || n == 0
theorem within_calls (u n : Int) (w : World) : Calls Try.prog 97 #[.int .i64 u, .int .i64 n] w fun e w' => e = .returned (.bool (withinF u n)) ∧ w = w' := by
  unfold withinF
  cases hu : (u == 1) with
  | false =>
    go_enter Try.func97, Try.ntmps97
    go_wp2_with (first | (go_at_call 128; refine (reg_calls _ _).mono ?_; rintro e w' ⟨rfl, rfl⟩))
    go_ret
    exact ⟨by simp, rfl⟩
  | true =>
    obtain ⟨p, hp⟩ : ∃ p, p = regF n := ⟨_, rfl⟩
    have R : ∀ w, Calls Try.prog 128 #[.int .i64 n] w fun e w' => e = .returned (.bool p) ∧ w = w' := fun w => hp ▸ reg_calls n w
    rw [← hp]
    clear hp
    cases p <;>
      (go_enter Try.func97, Try.ntmps97
       go_wp2_with (first | (go_at_call 128; refine (R _).mono ?_; rintro e w' ⟨rfl, rfl⟩))
       go_ret
       exact ⟨by simp, rfl⟩)
end Go.Proofs.Ytahepinbmcgbnaa.Ri
