/- Contracts of package risc's functions: which instructions there are. No condition. -/
import Derived.Test.YtahepinbmcgbnaaRi
import Derived.Deep.RegionWith
set_option linter.unusedVariables false
set_option linter.unusedSimpArgs false
namespace Go.Proofs.Ytahepinbmcgbnaa.Ri
open Go.RowKit Go.Proofs.Ytahepinbmcgbnaa.PA Go.Proofs.YtahepinbmcgbnaaW.PrintWords Go.Proofs.Ytahepinbmcgbnaa.Wd

theorem first2 (w : World) (o1 o2 : Obj) {o3 o4 : Obj} : ((((w.alloc o1).alloc o2).alloc o3).alloc o4).drew.heap[w.heap.size + 1]? = some o2 := by
  have h : ((w.alloc o1).alloc o2).heap[w.heap.size + 1]? = some o2 := by simpa using heap_alloc_new (w.alloc o1) o2
  exact blk_drew (blk_alloc (blk_alloc h _) _)
theorem bel_trans {w W w1 : World} (h0 : Below w.heap.size w W) (hB : Below W.heap.size W w1) : Below w.heap.size w w1 := h0.trans (hB.mono h0.size)
theorem row_put {w : World} {g : Nat} {a b c d e : Int} (h : w.heap[g]? = some (.cells #[.int .i64 0, .int .i64 0, .int .i64 0, .int .i64 0, .int .i64 0] 77 (0, 0))) :
    (((((w.setCell ⟨g, 0, none⟩ (.int .i64 a)).setCell ⟨g, 1, none⟩ (.int .i64 b)).setCell ⟨g, 2, none⟩ (.int .i64 c)).setCell ⟨g, 3, none⟩ (.int .i64 d)).setCell ⟨g, 4, none⟩ (.int .i64 e)).heap[g]? = some (.cells #[.int .i64 a, .int .i64 b, .int .i64 c, .int .i64 d, .int .i64 e] 77 (0, 0)) :=
  blk_put (blk_put (blk_put (blk_put (blk_put h 0 _ rfl) 1 _ rfl) 2 _ rfl) 3 _ rfl) 4 _ rfl
theorem row_below {w w1 : World} {a b c d e : Value} (h : Below w.heap.size w w1) :
    Below w.heap.size w (((((w1.setCell ⟨w.heap.size + 1, 0, none⟩ a).setCell ⟨w.heap.size + 1, 1, none⟩ b).setCell ⟨w.heap.size + 1, 2, none⟩ c).setCell ⟨w.heap.size + 1, 3, none⟩ d).setCell ⟨w.heap.size + 1, 4, none⟩ e) :=
  ((((h.setCell (Nat.le_succ _) _).setCell (Nat.le_succ _) _).setCell (Nat.le_succ _) _).setCell (Nat.le_succ _) _).setCell (Nat.le_succ _) _
theorem has_calls (n : Int) (w : World) : Calls Try.prog 129 #[.int .i64 n] w fun e w' => e = .returned (.bool (n != 10)) ∧ w = w' := by
  go_enter Try.func129, Try.ntmps129
  go_wp2
  go_ret
  exact ⟨rfl, rfl⟩
/-- May an instruction's fields be? -/
def goodF (o k s i : Int) : Bool :=
  if i < -2147483648 ∨ 2147483647 < i then false else if o = 4 then (bn s k 0 0).2 != 10 else if o = 7 then (un s k 0).2 != 10 else if o = 8 then (cv s k 0).2 != 10
  else if o = 11 ∨ o = 13 then decide (0 < Wi k) else if o = 15 then regF i else if o = 25 then decide (0 ≤ i) else if o = 29 then decide (0 < i) else true
theorem width_calls (k : Int) (w : World) : Calls Try.prog 22 #[.int .i64 k] w fun e w' => e = .returned (.int .i64 (Wi k)) ∧ Drawn0 w w' := word_Width.calls 4 k (Wi k) w (Width_eq 0 k)
theorem wbin_calls (s k : Int) (w : World) : Calls Try.prog 23 #[.int .i64 s, .int .i64 k, .int .u64 0, .int .u64 0] w fun e w' => e = .returned (.tuple #[.int .u64 (bn s k 0 0).1, .int .i64 (bn s k 0 0).2]) ∧ Below w.heap.size w w' := word_Bin.calls 9 s k 0 0 _ _ w (Bin_eq 0 s k 0 0 (by decide) (by decide) (by decide))
theorem wun_calls (s k : Int) (w : World) : Calls Try.prog 19 #[.int .i64 s, .int .i64 k, .int .u64 0] w fun e w' => e = .returned (.tuple #[.int .u64 (un s k 0).1, .int .i64 (un s k 0).2]) ∧ Drawn0 w w' := word_Un.calls 7 s k 0 _ _ w (Un_eq 0 s k 0)
theorem wconv_calls (s k : Int) (w : World) : Calls Try.prog 21 #[.int .i64 s, .int .i64 k, .int .u64 0] w fun e w' => e = .returned (.tuple #[.int .u64 (cv s k 0).1, .int .i64 (cv s k 0).2]) ∧ Drawn0 w w' := word_Conv.calls 7 s k 0 _ _ w (Conv_eq 0 s k 0)
theorem bel_al {w w' : World} {o : Obj} (h : Below (w.alloc o).heap.size (w.alloc o) w') : Below w.heap.size w w' := ((Below.refl _ _).alloc (Nat.le_refl _) o).trans (h.mono (by simp))
theorem bel_aln {w : World} (o : Obj) (n : Nat) : Below w.heap.size w ((w.drewN n).alloc o) := by
  have := (pw_below_drewN (Below.refl w.heap.size w) n).alloc (Nat.le_refl _) o
  exact this
theorem bel_drew {w w' : World} (h : Drawn0 w w') : Below w.heap.size w w' := h.below
set_option maxHeartbeats 8000000 in
set_option maxRecDepth 100000 in
theorem good_calls (o a b c k s z i l : Int) (w : World) : Calls Try.prog 98 #[.agg #[.int .i64 o, .int .i64 a, .int .i64 b, .int .i64 c, .int .i64 k, .int .i64 s, .int .i64 z, .int .i64 i, .int .i64 l]] w fun e w' => e = .returned (.bool (goodF o k s i)) ∧ Below w.heap.size w w' := by
  have hu46 := Try.underlying46
  unfold goodF
  by_cases h1 : i < -2147483648 ∨ 2147483647 < i
  · rw [if_pos h1]
    by_cases h2 : i < -2147483648
    · have hb : decide (i < -2147483648) = true := decide_eq_true h2
      clear h1 h2
      go_enter Try.func98, Try.ntmps98
      go_wp2
      go_ret
      exact ⟨rfl, (Below.refl _ _).alloc (Nat.le_refl _) _⟩
    · have hb : decide (i < -2147483648) = false := decide_eq_false h2
      have hb2 : decide (2147483647 < i) = true := decide_eq_true (by omega)
      clear h1 h2
      go_enter Try.func98, Try.ntmps98
      go_wp2
      go_ret
      exact ⟨rfl, (Below.refl _ _).alloc (Nat.le_refl _) _⟩
  · rw [if_neg h1]
    have hb : decide (i < -2147483648) = false := decide_eq_false (by omega)
    have hb2 : decide (2147483647 < i) = false := decide_eq_false (by omega)
    have hw : wrap64 i = i := by unfold wrap64; omega
    clear h1
    by_cases h4 : o = 4
    · subst h4
      simp only [if_true]
      go_enter Try.func98, Try.ntmps98
      go_wp2_with (first | (go_at_call 23; refine (wbin_calls _ _ _).mono ?_; rintro e w' ⟨rfl, hB⟩) | (go_at_call 129; refine (has_calls _ _).mono ?_; rintro e w' ⟨rfl, rfl⟩))
      go_ret
      exact ⟨rfl, bel_al hB⟩
    by_cases h7 : o = 7
    · subst h7
      simp only [if_true, Int.reduceEq, if_false]
      go_enter Try.func98, Try.ntmps98
      go_wp2_with (first | (go_at_call 19; refine (wun_calls _ _ _).mono ?_; rintro e w' ⟨rfl, ⟨nd, rfl⟩⟩) | (go_at_call 129; refine (has_calls _ _).mono ?_; rintro e w' ⟨rfl, rfl⟩))
      go_ret
      exact ⟨rfl, bel_aln _ _⟩
    by_cases h8 : o = 8
    · subst h8
      simp only [if_true, Int.reduceEq, if_false]
      go_enter Try.func98, Try.ntmps98
      go_wp2_with (first | (go_at_call 21; refine (wconv_calls _ _ _).mono ?_; rintro e w' ⟨rfl, ⟨nd, rfl⟩⟩) | (go_at_call 129; refine (has_calls _ _).mono ?_; rintro e w' ⟨rfl, rfl⟩))
      go_ret
      exact ⟨rfl, bel_aln _ _⟩
    by_cases h11 : o = 11 ∨ o = 13
    · rcases h11 with rfl | rfl
      all_goals
        simp only [if_true, Int.reduceEq, if_false, or_true, true_or, or_false, false_or]
        go_enter Try.func98, Try.ntmps98
        go_wp2_with (first | (go_at_call 22; refine (width_calls _ _).mono ?_; rintro e w' ⟨rfl, ⟨nd, rfl⟩⟩))
        go_ret
        exact ⟨rfl, bel_aln _ _⟩
    by_cases h15 : o = 15
    · subst h15
      simp only [if_true, Int.reduceEq, if_false, or_false, false_or]
      go_enter Try.func98, Try.ntmps98
      go_wp2_with (first | (go_at_call 128; refine (reg_calls _ _).mono ?_; rintro e w' ⟨rfl, rfl⟩))
      go_ret
      exact ⟨rfl, (Below.refl _ _).alloc (Nat.le_refl _) _⟩
    by_cases h25 : o = 25
    · subst h25
      simp only [if_true, Int.reduceEq, if_false, or_false, false_or]
      go_enter Try.func98, Try.ntmps98
      go_wp2
      go_ret
      exact ⟨rfl, (Below.refl _ _).alloc (Nat.le_refl _) _⟩
    by_cases h29 : o = 29
    · subst h29
      simp only [if_true, Int.reduceEq, if_false, or_false, false_or]
      go_enter Try.func98, Try.ntmps98
      go_wp2
      go_ret
      exact ⟨rfl, (Below.refl _ _).alloc (Nat.le_refl _) _⟩
    rw [if_neg h4, if_neg h7, if_neg h8, if_neg h11, if_neg h15, if_neg h25, if_neg h29]
    have b4 : (o == 4) = false := beq_eq_false_iff_ne.mpr h4
    have b7 : (o == 7) = false := beq_eq_false_iff_ne.mpr h7
    have b8 : (o == 8) = false := beq_eq_false_iff_ne.mpr h8
    have b11 : (o == 11) = false := beq_eq_false_iff_ne.mpr (fun e => h11 (Or.inl e))
    have b13 : (o == 13) = false := beq_eq_false_iff_ne.mpr (fun e => h11 (Or.inr e))
    have b15 : (o == 15) = false := beq_eq_false_iff_ne.mpr h15
    have b25 : (o == 25) = false := beq_eq_false_iff_ne.mpr h25
    have b29 : (o == 29) = false := beq_eq_false_iff_ne.mpr h29
    clear h4 h7 h8 h11 h15 h25 h29
    go_enter Try.func98, Try.ntmps98
    go_wp2
    go_ret
    exact ⟨rfl, (Below.refl _ _).alloc (Nat.le_refl _) _⟩

/-- Is this an instruction? Its row, and whether. -/
def mayF (o a b c k s z i l : Int) : Int × Int × Int × Int × Int × Bool :=
  if (knownF o).2.2.2.2.2 = false then (0, 0, 0, 0, 0, false) else if withinF (knownF o).1 a = false then (0, 0, 0, 0, 0, false) else if withinF (knownF o).2.1 b = false then (0, 0, 0, 0, 0, false)
  else if withinF (knownF o).2.2.1 c = false then (0, 0, 0, 0, 0, false) else if z ≠ 0 ∨ l ≠ 0 then (0, 0, 0, 0, 0, false)
  else if (knownF o).2.2.2.2.1 ≠ 3 ∧ i ≠ 0 then (0, 0, 0, 0, 0, false) else if (knownF o).2.2.2.2.1 ≠ 4 ∧ (s ≠ 0 ∨ (k ≠ 0 ∧ (knownF o).2.2.2.1 ≠ 2)) then (0, 0, 0, 0, 0, false)
  else ((knownF o).1, (knownF o).2.1, (knownF o).2.2.1, (knownF o).2.2.2.1, (knownF o).2.2.2.2.1, goodF o k s i)
set_option maxHeartbeats 8000000 in
set_option maxRecDepth 100000 in
theorem may_calls (o a b c k s z i l : Int) (w : World) : Calls Try.prog 71 #[.agg #[.int .i64 o, .int .i64 a, .int .i64 b, .int .i64 c, .int .i64 k, .int .i64 s, .int .i64 z, .int .i64 i, .int .i64 l]] w fun e w' => e = .returned (.tuple #[.agg #[.int .i64 (mayF o a b c k s z i l).1, .int .i64 (mayF o a b c k s z i l).2.1, .int .i64 (mayF o a b c k s z i l).2.2.1, .int .i64 (mayF o a b c k s z i l).2.2.2.1, .int .i64 (mayF o a b c k s z i l).2.2.2.2.1], .bool (mayF o a b c k s z i l).2.2.2.2.2]) ∧ Below w.heap.size w w' := by
  have hu46 := Try.underlying46
  have hu77 := Try.underlying77
  have K := known_calls o
  unfold mayF
  generalize knownF o = r at K ⊢
  obtain ⟨ra, rb, rc, rt, rn, ok⟩ := r
  simp only at K ⊢
  cases ok with
  | false =>
    simp only [if_true]
    go_enter Try.func71, Try.ntmps71
    go_wp2_with (first | (go_at_call 77; (with_reducible refine (K _).mono ?_); rintro e w' ⟨rfl, rfl⟩))
    refine bodyPost_ret ?_ rfl ⟨rfl, by repeat (first | exact Below.refl _ _ | refine below_alloc ?_ _)⟩
    simp [results, Try.results71, go_sem]
  | true =>
    obtain ⟨p1, W1, e1⟩ : ∃ p, (∀ w, Calls Try.prog 97 #[.int .i64 ra, .int .i64 a] w fun e w' => e = .returned (.bool p) ∧ w = w') ∧ p = withinF ra a := ⟨_, fun w => within_calls ra a w, rfl⟩
    obtain ⟨p2, W2, e2⟩ : ∃ p, (∀ w, Calls Try.prog 97 #[.int .i64 rb, .int .i64 b] w fun e w' => e = .returned (.bool p) ∧ w = w') ∧ p = withinF rb b := ⟨_, fun w => within_calls rb b w, rfl⟩
    obtain ⟨p3, W3, e3⟩ : ∃ p, (∀ w, Calls Try.prog 97 #[.int .i64 rc, .int .i64 c] w fun e w' => e = .returned (.bool p) ∧ w = w') ∧ p = withinF rc c := ⟨_, fun w => within_calls rc c w, rfl⟩
    rw [← e1, ← e2, ← e3]
    clear e1 e2 e3
    obtain ⟨q1, hq1⟩ : ∃ q, q = (z != 0) := ⟨_, rfl⟩
    obtain ⟨q2, hq2⟩ : ∃ q, q = (l != 0) := ⟨_, rfl⟩
    obtain ⟨q3, hq3⟩ : ∃ q, q = (rn != 3) := ⟨_, rfl⟩
    obtain ⟨q4, hq4⟩ : ∃ q, q = (i != 0) := ⟨_, rfl⟩
    obtain ⟨q5, hq5⟩ : ∃ q, q = (rn != 4) := ⟨_, rfl⟩
    obtain ⟨q6, hq6⟩ : ∃ q, q = (s != 0) := ⟨_, rfl⟩
    obtain ⟨q7, hq7⟩ : ∃ q, q = (k != 0) := ⟨_, rfl⟩
    obtain ⟨q8, hq8⟩ : ∃ q, q = (rt != 2) := ⟨_, rfl⟩
    have E : (if true = false then ((0, 0, 0, 0, 0, false) : Int × Int × Int × Int × Int × Bool) else if p1 = false then (0, 0, 0, 0, 0, false) else if p2 = false then (0, 0, 0, 0, 0, false)
      else if p3 = false then (0, 0, 0, 0, 0, false) else if z ≠ 0 ∨ l ≠ 0 then (0, 0, 0, 0, 0, false)
      else if rn ≠ 3 ∧ i ≠ 0 then (0, 0, 0, 0, 0, false) else if rn ≠ 4 ∧ (s ≠ 0 ∨ (k ≠ 0 ∧ rt ≠ 2)) then (0, 0, 0, 0, 0, false)
      else (ra, rb, rc, rt, rn, goodF o k s i)) = if (p1 && (p2 && (p3 && (!(q1 || q2) && (!(q3 && q4) && !(q5 && (q6 || (q7 && q8)))))))) = true then (ra, rb, rc, rt, rn, goodF o k s i) else (0, 0, 0, 0, 0, false) := by
      rw [hq1, hq2, hq3, hq4, hq5, hq6, hq7, hq8]
      cases p1 <;> cases p2 <;> cases p3 <;> simp
      by_cases h1 : z = 0 <;> by_cases h2 : l = 0 <;> by_cases h3 : rn = 3 <;> by_cases h4 : i = 0 <;> by_cases h5 : rn = 4 <;> by_cases h6 : s = 0 <;> by_cases h7 : k = 0 <;> by_cases h8 : rt = 2 <;> simp [h1, h2, h3, h4, h5, h6, h7, h8]
    rw [E]
    clear E
    replace hq1 := hq1.symm
    replace hq2 := hq2.symm
    replace hq3 := hq3.symm
    replace hq4 := hq4.symm
    replace hq5 := hq5.symm
    replace hq6 := hq6.symm
    replace hq7 := hq7.symm
    replace hq8 := hq8.symm
    have no : ∀ x : Bool, x = false → (p1 && (p2 && (p3 && (!(q1 || q2) && (!(q3 && q4) && !(q5 && (q6 || (q7 && q8)))))))) = x → True := fun _ _ _ => trivial
    clear no
    cases p1 with
    | false =>
      simp only [Bool.false_and, Bool.true_and, Bool.and_false, Bool.not_true, Bool.not_false, Bool.true_or, Bool.false_or, Bool.or_true, Bool.false_eq_true, if_false]
      go_enter Try.func71, Try.ntmps71
      go_wp2_with (first | (go_at_call 77; (with_reducible refine (K _).mono ?_); rintro e w' ⟨rfl, rfl⟩) | (go_at_call 97; (with_reducible refine (W1 _).mono ?_); rintro e w' ⟨rfl, rfl⟩) | (go_at_call 97; (with_reducible refine (W2 _).mono ?_); rintro e w' ⟨rfl, rfl⟩) | (go_at_call 97; (with_reducible refine (W3 _).mono ?_); rintro e w' ⟨rfl, rfl⟩))
      refine bodyPost_ret ?_ rfl ⟨rfl, by repeat (first | exact Below.refl _ _ | refine below_alloc ?_ _)⟩
      simp [results, Try.results71, go_sem]
    | true =>
    cases p2 with
    | false =>
      simp only [Bool.false_and, Bool.true_and, Bool.and_false, Bool.not_true, Bool.not_false, Bool.true_or, Bool.false_or, Bool.or_true, Bool.false_eq_true, if_false]
      go_enter Try.func71, Try.ntmps71
      go_wp2_with (first | (go_at_call 77; (with_reducible refine (K _).mono ?_); rintro e w' ⟨rfl, rfl⟩) | (go_at_call 97; (with_reducible refine (W1 _).mono ?_); rintro e w' ⟨rfl, rfl⟩) | (go_at_call 97; (with_reducible refine (W2 _).mono ?_); rintro e w' ⟨rfl, rfl⟩) | (go_at_call 97; (with_reducible refine (W3 _).mono ?_); rintro e w' ⟨rfl, rfl⟩))
      refine bodyPost_ret ?_ rfl ⟨rfl, by repeat (first | exact Below.refl _ _ | refine below_alloc ?_ _)⟩
      simp [results, Try.results71, go_sem]
    | true =>
    cases p3 with
    | false =>
      simp only [Bool.false_and, Bool.true_and, Bool.and_false, Bool.not_true, Bool.not_false, Bool.true_or, Bool.false_or, Bool.or_true, Bool.false_eq_true, if_false]
      go_enter Try.func71, Try.ntmps71
      go_wp2_with (first | (go_at_call 77; (with_reducible refine (K _).mono ?_); rintro e w' ⟨rfl, rfl⟩) | (go_at_call 97; (with_reducible refine (W1 _).mono ?_); rintro e w' ⟨rfl, rfl⟩) | (go_at_call 97; (with_reducible refine (W2 _).mono ?_); rintro e w' ⟨rfl, rfl⟩) | (go_at_call 97; (with_reducible refine (W3 _).mono ?_); rintro e w' ⟨rfl, rfl⟩))
      refine bodyPost_ret ?_ rfl ⟨rfl, by repeat (first | exact Below.refl _ _ | refine below_alloc ?_ _)⟩
      simp [results, Try.results71, go_sem]
    | true =>
    cases q1 with
    | true =>
      simp only [Bool.false_and, Bool.true_and, Bool.and_false, Bool.not_true, Bool.not_false, Bool.true_or, Bool.false_or, Bool.or_true, Bool.false_eq_true, if_false]
      go_enter Try.func71, Try.ntmps71
      go_wp2_with (first | (go_at_call 77; (with_reducible refine (K _).mono ?_); rintro e w' ⟨rfl, rfl⟩) | (go_at_call 97; (with_reducible refine (W1 _).mono ?_); rintro e w' ⟨rfl, rfl⟩) | (go_at_call 97; (with_reducible refine (W2 _).mono ?_); rintro e w' ⟨rfl, rfl⟩) | (go_at_call 97; (with_reducible refine (W3 _).mono ?_); rintro e w' ⟨rfl, rfl⟩))
      refine bodyPost_ret ?_ rfl ⟨rfl, by repeat (first | exact Below.refl _ _ | refine below_alloc ?_ _)⟩
      simp [results, Try.results71, go_sem]
    | false =>
    cases q2 with
    | true =>
      simp only [Bool.false_and, Bool.true_and, Bool.and_false, Bool.not_true, Bool.not_false, Bool.true_or, Bool.false_or, Bool.or_true, Bool.false_eq_true, if_false]
      go_enter Try.func71, Try.ntmps71
      go_wp2_with (first | (go_at_call 77; (with_reducible refine (K _).mono ?_); rintro e w' ⟨rfl, rfl⟩) | (go_at_call 97; (with_reducible refine (W1 _).mono ?_); rintro e w' ⟨rfl, rfl⟩) | (go_at_call 97; (with_reducible refine (W2 _).mono ?_); rintro e w' ⟨rfl, rfl⟩) | (go_at_call 97; (with_reducible refine (W3 _).mono ?_); rintro e w' ⟨rfl, rfl⟩))
      refine bodyPost_ret ?_ rfl ⟨rfl, by repeat (first | exact Below.refl _ _ | refine below_alloc ?_ _)⟩
      simp [results, Try.results71, go_sem]
    | false =>
    cases q3 with
    | true =>
      cases q4 with
      | true =>
        simp only [Bool.false_and, Bool.true_and, Bool.and_false, Bool.not_true, Bool.not_false, Bool.true_or, Bool.false_or, Bool.or_true, Bool.false_eq_true, if_false]
        go_enter Try.func71, Try.ntmps71
        go_wp2_with (first | (go_at_call 77; (with_reducible refine (K _).mono ?_); rintro e w' ⟨rfl, rfl⟩) | (go_at_call 97; (with_reducible refine (W1 _).mono ?_); rintro e w' ⟨rfl, rfl⟩) | (go_at_call 97; (with_reducible refine (W2 _).mono ?_); rintro e w' ⟨rfl, rfl⟩) | (go_at_call 97; (with_reducible refine (W3 _).mono ?_); rintro e w' ⟨rfl, rfl⟩))
        refine bodyPost_ret ?_ rfl ⟨rfl, by repeat (first | exact Below.refl _ _ | refine below_alloc ?_ _)⟩
        simp [results, Try.results71, go_sem]
      | false =>
        cases q5 with
        | false =>
          simp only [Bool.false_and, Bool.true_and, Bool.and_false, Bool.not_true, Bool.not_false, Bool.true_or, Bool.false_or, Bool.or_true, Bool.or_false, if_true]
          go_enter Try.func71, Try.ntmps71
          go_wp2_with (first | (go_at_call 77; (with_reducible refine (K _).mono ?_); rintro e w' ⟨rfl, rfl⟩) | (go_at_call 97; (with_reducible refine (W1 _).mono ?_); rintro e w' ⟨rfl, rfl⟩) | (go_at_call 97; (with_reducible refine (W2 _).mono ?_); rintro e w' ⟨rfl, rfl⟩) | (go_at_call 97; (with_reducible refine (W3 _).mono ?_); rintro e w' ⟨rfl, rfl⟩))
          go_region_with (first | (go_at_call 98; refine (good_calls _ _ _ _ _ _ _ _ _ _).mono ?_; rintro e w1 ⟨rfl, hB⟩; have B1 := Aside0.mk (blk_below (g := w.heap.size + 1) (first2 _ _ _) hB); have B2 := Aside0.mk (bel_trans (w := w) (by repeat (first | exact Below.refl _ _ | refine below_alloc ?_ _ | refine below_drew1 ?_)) hB); obtain ⟨hc, hf⟩ := bcell hB; clear hB))
          all_goals
            go_wp2
            (try simp only [Act.put, List.setIfInBounds_toArray, List.set_cons_zero, List.set_cons_succ])
            exact bodyPost_ret (results_ct rfl _ _ (w.heap.size + 1) 77 _ (0, 0) _ rfl (row_put B1.out) Try.underlying77 rfl (by kernel_rfl)) rfl ⟨rfl, row_below B2.out⟩
        | true =>
          cases q6 with
          | true =>
            simp only [Bool.false_and, Bool.true_and, Bool.and_false, Bool.not_true, Bool.not_false, Bool.true_or, Bool.false_or, Bool.or_true, Bool.false_eq_true, if_false]
            go_enter Try.func71, Try.ntmps71
            go_wp2_with (first | (go_at_call 77; (with_reducible refine (K _).mono ?_); rintro e w' ⟨rfl, rfl⟩) | (go_at_call 97; (with_reducible refine (W1 _).mono ?_); rintro e w' ⟨rfl, rfl⟩) | (go_at_call 97; (with_reducible refine (W2 _).mono ?_); rintro e w' ⟨rfl, rfl⟩) | (go_at_call 97; (with_reducible refine (W3 _).mono ?_); rintro e w' ⟨rfl, rfl⟩))
            refine bodyPost_ret ?_ rfl ⟨rfl, by repeat (first | exact Below.refl _ _ | refine below_alloc ?_ _)⟩
            simp [results, Try.results71, go_sem]
          | false =>
            cases q7 with
            | false =>
              simp only [Bool.false_and, Bool.true_and, Bool.and_false, Bool.not_true, Bool.not_false, Bool.true_or, Bool.false_or, Bool.or_true, Bool.or_false, if_true]
              go_enter Try.func71, Try.ntmps71
              go_wp2_with (first | (go_at_call 77; (with_reducible refine (K _).mono ?_); rintro e w' ⟨rfl, rfl⟩) | (go_at_call 97; (with_reducible refine (W1 _).mono ?_); rintro e w' ⟨rfl, rfl⟩) | (go_at_call 97; (with_reducible refine (W2 _).mono ?_); rintro e w' ⟨rfl, rfl⟩) | (go_at_call 97; (with_reducible refine (W3 _).mono ?_); rintro e w' ⟨rfl, rfl⟩))
              go_region_with (first | (go_at_call 98; refine (good_calls _ _ _ _ _ _ _ _ _ _).mono ?_; rintro e w1 ⟨rfl, hB⟩; have B1 := Aside0.mk (blk_below (g := w.heap.size + 1) (first2 _ _ _) hB); have B2 := Aside0.mk (bel_trans (w := w) (by repeat (first | exact Below.refl _ _ | refine below_alloc ?_ _ | refine below_drew1 ?_)) hB); obtain ⟨hc, hf⟩ := bcell hB; clear hB))
              all_goals
                go_wp2
                (try simp only [Act.put, List.setIfInBounds_toArray, List.set_cons_zero, List.set_cons_succ])
                exact bodyPost_ret (results_ct rfl _ _ (w.heap.size + 1) 77 _ (0, 0) _ rfl (row_put B1.out) Try.underlying77 rfl (by kernel_rfl)) rfl ⟨rfl, row_below B2.out⟩
            | true =>
              cases q8 with
              | true =>
                simp only [Bool.false_and, Bool.true_and, Bool.and_false, Bool.not_true, Bool.not_false, Bool.true_or, Bool.false_or, Bool.or_true, Bool.false_eq_true, if_false]
                go_enter Try.func71, Try.ntmps71
                go_wp2_with (first | (go_at_call 77; (with_reducible refine (K _).mono ?_); rintro e w' ⟨rfl, rfl⟩) | (go_at_call 97; (with_reducible refine (W1 _).mono ?_); rintro e w' ⟨rfl, rfl⟩) | (go_at_call 97; (with_reducible refine (W2 _).mono ?_); rintro e w' ⟨rfl, rfl⟩) | (go_at_call 97; (with_reducible refine (W3 _).mono ?_); rintro e w' ⟨rfl, rfl⟩))
                refine bodyPost_ret ?_ rfl ⟨rfl, by repeat (first | exact Below.refl _ _ | refine below_alloc ?_ _)⟩
                simp [results, Try.results71, go_sem]
              | false =>
                simp only [Bool.false_and, Bool.true_and, Bool.and_false, Bool.not_true, Bool.not_false, Bool.true_or, Bool.false_or, Bool.or_true, Bool.or_false, if_true]
                go_enter Try.func71, Try.ntmps71
                go_wp2_with (first | (go_at_call 77; (with_reducible refine (K _).mono ?_); rintro e w' ⟨rfl, rfl⟩) | (go_at_call 97; (with_reducible refine (W1 _).mono ?_); rintro e w' ⟨rfl, rfl⟩) | (go_at_call 97; (with_reducible refine (W2 _).mono ?_); rintro e w' ⟨rfl, rfl⟩) | (go_at_call 97; (with_reducible refine (W3 _).mono ?_); rintro e w' ⟨rfl, rfl⟩))
                go_region_with (first | (go_at_call 98; refine (good_calls _ _ _ _ _ _ _ _ _ _).mono ?_; rintro e w1 ⟨rfl, hB⟩; have B1 := Aside0.mk (blk_below (g := w.heap.size + 1) (first2 _ _ _) hB); have B2 := Aside0.mk (bel_trans (w := w) (by repeat (first | exact Below.refl _ _ | refine below_alloc ?_ _ | refine below_drew1 ?_)) hB); obtain ⟨hc, hf⟩ := bcell hB; clear hB))
                all_goals
                  go_wp2
                  (try simp only [Act.put, List.setIfInBounds_toArray, List.set_cons_zero, List.set_cons_succ])
                  exact bodyPost_ret (results_ct rfl _ _ (w.heap.size + 1) 77 _ (0, 0) _ rfl (row_put B1.out) Try.underlying77 rfl (by kernel_rfl)) rfl ⟨rfl, row_below B2.out⟩
    | false =>
      cases q5 with
      | false =>
        simp only [Bool.false_and, Bool.true_and, Bool.and_false, Bool.not_true, Bool.not_false, Bool.true_or, Bool.false_or, Bool.or_true, Bool.or_false, if_true]
        go_enter Try.func71, Try.ntmps71
        go_wp2_with (first | (go_at_call 77; (with_reducible refine (K _).mono ?_); rintro e w' ⟨rfl, rfl⟩) | (go_at_call 97; (with_reducible refine (W1 _).mono ?_); rintro e w' ⟨rfl, rfl⟩) | (go_at_call 97; (with_reducible refine (W2 _).mono ?_); rintro e w' ⟨rfl, rfl⟩) | (go_at_call 97; (with_reducible refine (W3 _).mono ?_); rintro e w' ⟨rfl, rfl⟩))
        go_region_with (first | (go_at_call 98; refine (good_calls _ _ _ _ _ _ _ _ _ _).mono ?_; rintro e w1 ⟨rfl, hB⟩; have B1 := Aside0.mk (blk_below (g := w.heap.size + 1) (first2 _ _ _) hB); have B2 := Aside0.mk (bel_trans (w := w) (by repeat (first | exact Below.refl _ _ | refine below_alloc ?_ _ | refine below_drew1 ?_)) hB); obtain ⟨hc, hf⟩ := bcell hB; clear hB))
        all_goals
          go_wp2
          (try simp only [Act.put, List.setIfInBounds_toArray, List.set_cons_zero, List.set_cons_succ])
          exact bodyPost_ret (results_ct rfl _ _ (w.heap.size + 1) 77 _ (0, 0) _ rfl (row_put B1.out) Try.underlying77 rfl (by kernel_rfl)) rfl ⟨rfl, row_below B2.out⟩
      | true =>
        cases q6 with
        | true =>
          simp only [Bool.false_and, Bool.true_and, Bool.and_false, Bool.not_true, Bool.not_false, Bool.true_or, Bool.false_or, Bool.or_true, Bool.false_eq_true, if_false]
          go_enter Try.func71, Try.ntmps71
          go_wp2_with (first | (go_at_call 77; (with_reducible refine (K _).mono ?_); rintro e w' ⟨rfl, rfl⟩) | (go_at_call 97; (with_reducible refine (W1 _).mono ?_); rintro e w' ⟨rfl, rfl⟩) | (go_at_call 97; (with_reducible refine (W2 _).mono ?_); rintro e w' ⟨rfl, rfl⟩) | (go_at_call 97; (with_reducible refine (W3 _).mono ?_); rintro e w' ⟨rfl, rfl⟩))
          refine bodyPost_ret ?_ rfl ⟨rfl, by repeat (first | exact Below.refl _ _ | refine below_alloc ?_ _)⟩
          simp [results, Try.results71, go_sem]
        | false =>
          cases q7 with
          | false =>
            simp only [Bool.false_and, Bool.true_and, Bool.and_false, Bool.not_true, Bool.not_false, Bool.true_or, Bool.false_or, Bool.or_true, Bool.or_false, if_true]
            go_enter Try.func71, Try.ntmps71
            go_wp2_with (first | (go_at_call 77; (with_reducible refine (K _).mono ?_); rintro e w' ⟨rfl, rfl⟩) | (go_at_call 97; (with_reducible refine (W1 _).mono ?_); rintro e w' ⟨rfl, rfl⟩) | (go_at_call 97; (with_reducible refine (W2 _).mono ?_); rintro e w' ⟨rfl, rfl⟩) | (go_at_call 97; (with_reducible refine (W3 _).mono ?_); rintro e w' ⟨rfl, rfl⟩))
            go_region_with (first | (go_at_call 98; refine (good_calls _ _ _ _ _ _ _ _ _ _).mono ?_; rintro e w1 ⟨rfl, hB⟩; have B1 := Aside0.mk (blk_below (g := w.heap.size + 1) (first2 _ _ _) hB); have B2 := Aside0.mk (bel_trans (w := w) (by repeat (first | exact Below.refl _ _ | refine below_alloc ?_ _ | refine below_drew1 ?_)) hB); obtain ⟨hc, hf⟩ := bcell hB; clear hB))
            all_goals
              go_wp2
              (try simp only [Act.put, List.setIfInBounds_toArray, List.set_cons_zero, List.set_cons_succ])
              exact bodyPost_ret (results_ct rfl _ _ (w.heap.size + 1) 77 _ (0, 0) _ rfl (row_put B1.out) Try.underlying77 rfl (by kernel_rfl)) rfl ⟨rfl, row_below B2.out⟩
          | true =>
            cases q8 with
            | true =>
              simp only [Bool.false_and, Bool.true_and, Bool.and_false, Bool.not_true, Bool.not_false, Bool.true_or, Bool.false_or, Bool.or_true, Bool.false_eq_true, if_false]
              go_enter Try.func71, Try.ntmps71
              go_wp2_with (first | (go_at_call 77; (with_reducible refine (K _).mono ?_); rintro e w' ⟨rfl, rfl⟩) | (go_at_call 97; (with_reducible refine (W1 _).mono ?_); rintro e w' ⟨rfl, rfl⟩) | (go_at_call 97; (with_reducible refine (W2 _).mono ?_); rintro e w' ⟨rfl, rfl⟩) | (go_at_call 97; (with_reducible refine (W3 _).mono ?_); rintro e w' ⟨rfl, rfl⟩))
              refine bodyPost_ret ?_ rfl ⟨rfl, by repeat (first | exact Below.refl _ _ | refine below_alloc ?_ _)⟩
              simp [results, Try.results71, go_sem]
            | false =>
              simp only [Bool.false_and, Bool.true_and, Bool.and_false, Bool.not_true, Bool.not_false, Bool.true_or, Bool.false_or, Bool.or_true, Bool.or_false, if_true]
              go_enter Try.func71, Try.ntmps71
              go_wp2_with (first | (go_at_call 77; (with_reducible refine (K _).mono ?_); rintro e w' ⟨rfl, rfl⟩) | (go_at_call 97; (with_reducible refine (W1 _).mono ?_); rintro e w' ⟨rfl, rfl⟩) | (go_at_call 97; (with_reducible refine (W2 _).mono ?_); rintro e w' ⟨rfl, rfl⟩) | (go_at_call 97; (with_reducible refine (W3 _).mono ?_); rintro e w' ⟨rfl, rfl⟩))
              go_region_with (first | (go_at_call 98; refine (good_calls _ _ _ _ _ _ _ _ _ _).mono ?_; rintro e w1 ⟨rfl, hB⟩; have B1 := Aside0.mk (blk_below (g := w.heap.size + 1) (first2 _ _ _) hB); have B2 := Aside0.mk (bel_trans (w := w) (by repeat (first | exact Below.refl _ _ | refine below_alloc ?_ _ | refine below_drew1 ?_)) hB); obtain ⟨hc, hf⟩ := bcell hB; clear hB))
              all_goals
                go_wp2
                (try simp only [Act.put, List.setIfInBounds_toArray, List.set_cons_zero, List.set_cons_succ])
                exact bodyPost_ret (results_ct rfl _ _ (w.heap.size + 1) 77 _ (0, 0) _ rfl (row_put B1.out) Try.underlying77 rfl (by kernel_rfl)) rfl ⟨rfl, row_below B2.out⟩
end Go.Proofs.Ytahepinbmcgbnaa.Ri
